/- Made by a program of this session (wip/tools/myprint.py, over the kit's printer): that the Go functions answer as the Lean functions printed beside them. -/
import Derived.Test.YtaahnfajcbkknaaPFlyBetweenx0
import Derived.Test.YtaahnfajcbkknaaPFlyBetweenx1
import Derived.Test.YtaahnfajcbkknaaPFlyBetweenx2
import Derived.Test.YtaahnfajcbkknaaPFlyBetweenx3
import Derived.Test.YtaahnfajcbkknaaPFlyBetweenx4
import Derived.Test.YtaahnfajcbkknaaPFlyBetweenx5
namespace Go.Proofs.Ytaahnfajcbkknaa.PFlyBetween
open Go.RowKit Go.Proofs.YtaahnfajcbkknaaW.PrintWords Go.Proofs.YtaahnfajcbkknaaW.PrintLast Go.Proofs.YtaahnfajcbkknaaW.PrintMore
attribute [local go_sem] max2_int min2_int max_two min_two max_three min_three max_four min_four   -- for this text's walks alone
set_option linter.unusedVariables false
set_option linter.unusedSimpArgs false

attribute [local go_sem high] eqA37 eqA49
/-! ### skywaykeep1_FlyBetween: function 8 -/
def skywaykeep1_FlyBetween.l0 : Nat → List (S49) → Int → Int → Int → Int → Int → Int → Option (Bool)
  | 0, _, _, _, _, _, _, _ => none
  | k + 1, x0, x1, x7, x165000, x165001, x165002, x165003 => if x7 < (x0.length : Int) then (if 0 ≤ (wrap64 (x7 - 1)) then (if (wrap64 (x7 - 1)) < (x0.length : Int) then (if 0 ≤ x7 then (if x1 < ((rd_T49 x0 (wrap64 (x7 - 1))).f0) then (skywaykeep1_FlyBetween.l0 k x0 x1 (wrap64 (x7 + 1)) x165000 x165001 x165002 x165003) else (if x1 > ((rd_T49 x0 x7).f0) then (skywaykeep1_FlyBetween.l0 k x0 x1 (wrap64 (x7 + 1)) x165000 x165001 x165002 x165003) else ((plane_Toward.f k ((rd_T49 x0 (wrap64 (x7 - 1))).f1.f0) ((rd_T49 x0 (wrap64 (x7 - 1))).f1.f1) ((rd_T49 x0 x7).f1.f0) ((rd_T49 x0 x7).f1.f1) (wrap64 (x1 - ((rd_T49 x0 (wrap64 (x7 - 1))).f0))) (wrap64 (((rd_T49 x0 x7).f0) - ((rd_T49 x0 (wrap64 (x7 - 1))).f0)))).bind fun bt169 => (if bt169.2.2 = 0 then (if (bt169.1 == x165001 && (bt169.2.1 == x165002)) = true then (if x165003 ≥ (mn ((rd_T49 x0 (wrap64 (x7 - 1))).f2) ((rd_T49 x0 x7).f2)) then (if x165003 ≤ (mx ((rd_T49 x0 (wrap64 (x7 - 1))).f2) ((rd_T49 x0 x7).f2)) then (some (x165000 == x1)) else (some false)) else (some false)) else (some false)) else (some false))))) else (none)) else (none)) else (none)) else (if (x0.length : Int) = 1 then (if 0 < (x0.length : Int) then (some (x165000 == ((rd_T49 x0 0).f0) && ((x165001 == ((rd_T49 x0 0).f1.f0) && (x165002 == ((rd_T49 x0 0).f1.f1))) && (x165003 == ((rd_T49 x0 0).f2))))) else (none)) else (some false))
def skywaykeep1_FlyBetween.f (k : Nat) (l0 : List (S49)) (a1 : Int) : Option (Bool) := (skywaykeep1_flyWorks.f k).bind fun t158 => (if t158 = true then ((fly_At.f k l0 a1).bind fun bt159 => (if bt159.2.2.2.2 = 0 then (skywaykeep1_FlyBetween.l0 k l0 a1 1 bt159.1 bt159.2.1 bt159.2.2.1 bt159.2.2.2.1) else (some (bt159.1 == 0 && ((bt159.2.1 == 0 && (bt159.2.2.1 == 0)) && (bt159.2.2.2.1 == 0)))))) else (some false))
theorem skywaykeep1_FlyBetween.mono_l : ∀ k, (∀ y0 y1 y2 y3 y4 y5 y6, LeO (skywaykeep1_FlyBetween.l0 k y0 y1 y2 y3 y4 y5 y6) (skywaykeep1_FlyBetween.l0 (k + 1) y0 y1 y2 y3 y4 y5 y6))
  | 0 => fun _ _ _ _ _ _ _ r h => by simp [skywaykeep1_FlyBetween.l0] at h
  | k + 1 => by
    have ih0 := skywaykeep1_FlyBetween.mono_l k
    · intro y0 y1 y2 y3 y4 y5 y6
      unfold skywaykeep1_FlyBetween.l0
      repeat' first
      | (with_reducible exact ih0 _ _ _ _ _ _ _)
      | (with_reducible exact fly_At.mono _ _ _)
      | (with_reducible exact plane_Toward.mono _ _ _ _ _ _ _)
      | (with_reducible exact skywaykeep1_flyWorks.mono _)
      | (with_reducible exact LeO.refl _)
      | (with_reducible exact LeO.none _)
      | (with_reducible refine LeO.ite ?_ ?_)
      | (with_reducible refine LeO.bind ?_ (fun _ => ?_))
      | exact ih0 _ _ _ _ _ _ _
      | exact fly_At.mono _ _ _
      | exact plane_Toward.mono _ _ _ _ _ _ _
      | exact skywaykeep1_flyWorks.mono _
      | exact LeO.none _
      | refine LeO.ite ?_ ?_
      | refine LeO.bind ?_ (fun _ => ?_)
theorem skywaykeep1_FlyBetween.mono : ∀ a0 a1 k, LeO (skywaykeep1_FlyBetween.f k a0 a1) (skywaykeep1_FlyBetween.f (k + 1) a0 a1) := by
  intro a0 a1 k
  have ih0 := skywaykeep1_FlyBetween.mono_l k
  unfold skywaykeep1_FlyBetween.f
  repeat' first
      | (with_reducible exact ih0 _ _ _ _ _ _ _)
      | (with_reducible exact fly_At.mono _ _ _)
      | (with_reducible exact plane_Toward.mono _ _ _ _ _ _ _)
      | (with_reducible exact skywaykeep1_flyWorks.mono _)
      | (with_reducible exact LeO.refl _)
      | (with_reducible exact LeO.none _)
      | (with_reducible refine LeO.ite ?_ ?_)
      | (with_reducible refine LeO.bind ?_ (fun _ => ?_))
      | exact ih0 _ _ _ _ _ _ _
      | exact fly_At.mono _ _ _
      | exact plane_Toward.mono _ _ _ _ _ _ _
      | exact skywaykeep1_flyWorks.mono _
      | exact LeO.none _
      | refine LeO.ite ?_ ?_
      | refine LeO.bind ?_ (fun _ => ?_)
def skywaykeep1_FlyBetween.T9 : Bool × List (List Nat × List Nat) := (true, [([], []), ([], []), ([1], [1]), ([0, 2], [0, 2]), ([3], [3]), ([], []), ([], []), ([5, 6], [5, 6]), ([7], [7]), ([], []), ([], []), ([9, 4, 0, 1, 2, 3, 4, 9, 10], [4, 9]), ([10, 8, 11, 0, 1, 2, 3, 4, 5, 6, 7, 8, 9, 10, 11], [8, 10])])
def skywaykeep1_FlyBetween.B9 : List Nat := [0, 0, 2, 7, 15, 0, 0, 96, 224, 0, 0, 1567, 4095]
theorem skywaykeep1_FlyBetween.tab9 : rtab .any (opsOf Try.f8 9) = skywaykeep1_FlyBetween.T9 := by kernel_rfl
theorem skywaykeep1_FlyBetween.bits9 : waitsOk skywaykeep1_FlyBetween.T9.2 skywaykeep1_FlyBetween.B9 = true := by kernel_rfl
def skywaykeep1_FlyBetween.T13 : Bool × List (List Nat × List Nat) := (true, [([], []), ([0], [0]), ([1], [1]), ([2], [2]), ([3], [3]), ([3], [3]), ([5, 3], [3, 5]), ([6, 3], [3, 6]), ([4, 7, 3], [3, 4, 7]), ([3, 8], [3, 8]), ([9, 3, 0, 1, 2, 3, 4, 5, 6, 7, 8, 9], [9])])
def skywaykeep1_FlyBetween.B13 : List Nat := [0, 1, 3, 7, 15, 15, 47, 111, 255, 511, 1023]
theorem skywaykeep1_FlyBetween.tab13 : rtab .any (opsOf Try.f8 13) = skywaykeep1_FlyBetween.T13 := by kernel_rfl
theorem skywaykeep1_FlyBetween.bits13 : waitsOk skywaykeep1_FlyBetween.T13.2 skywaykeep1_FlyBetween.B13 = true := by kernel_rfl
set_option maxHeartbeats 8000000 in
set_option maxRecDepth 100000 in
theorem skywaykeep1_FlyBetween.calls (k : Nat) (A0 : Option Addr) (c0 : Nat) (l0 : List (S49)) (a1 : Int) (r : Bool) (w : World) (hr0 : Kd.C k49 w A0 l0.length l0) (hc0 : l0.length ≤ c0) (h : skywaykeep1_FlyBetween.f k l0 a1 = some r) :
    Calls Try.prog 8 #[.slice A0 l0.length c0, .int .i64 a1] w fun e w' => e = .returned (.bool r) ∧ Below w.heap.size w w' := by
 have hu49 := Try.underlying49
 have hu37 := Try.underlying37
 have HR0 := Aside0.mk hr0
 have HC0 := Aside0.mk hc0
 clear hr0 hc0
 have HB := Aside0.mk (Below.refl w.heap.size w)
 have H : ((skywaykeep1_flyWorks.f k).bind fun t158 => (if t158 = true then ((fly_At.f k l0 a1).bind fun bt159 => (if bt159.2.2.2.2 = 0 then (skywaykeep1_FlyBetween.l0 k l0 a1 1 bt159.1 bt159.2.1 bt159.2.2.1 bt159.2.2.2.1) else (some (bt159.1 == 0 && ((bt159.2.1 == 0 && (bt159.2.2.1 == 0)) && (bt159.2.2.2.1 == 0)))))) else (some false))) = some r := h
 clear h
 replace H := Option.bind_eq_some_iff.mp H
 obtain ⟨t158, A30, H⟩ := H
 replace H : (if t158 = true then ((fly_At.f k l0 a1).bind fun bt159 => (if bt159.2.2.2.2 = 0 then (skywaykeep1_FlyBetween.l0 k l0 a1 1 bt159.1 bt159.2.1 bt159.2.2.1 bt159.2.2.2.1) else (some (bt159.1 == 0 && ((bt159.2.1 == 0 && (bt159.2.2.1 == 0)) && (bt159.2.2.2.1 == 0)))))) else (some false)) = some r := H
 have A3 := Aside0.mk A30
 clear A30
 refine Or.elim (Classical.em (t158 = true)) (fun c4 => ?p2_) (fun c4 => ?n2_)
 case' p2_ =>
  subst c4
  have H1 : ((fly_At.f k l0 a1).bind fun bt159 => (if bt159.2.2.2.2 = 0 then (skywaykeep1_FlyBetween.l0 k l0 a1 1 bt159.1 bt159.2.1 bt159.2.2.1 bt159.2.2.2.1) else (some (bt159.1 == 0 && ((bt159.2.1 == 0 && (bt159.2.2.1 == 0)) && (bt159.2.2.2.1 == 0)))))) = some r := by rw [if_pos rfl] at H; exact H
  clear H
  have H := H1
  clear H1
  replace H := Option.bind_eq_some_iff.mp H
  obtain ⟨⟨t159, t160, t161, t162, t163⟩, A50, H⟩ := H
  replace H : (if t163 = 0 then (skywaykeep1_FlyBetween.l0 k l0 a1 1 t159 t160 t161 t162) else (some (t159 == 0 && ((t160 == 0 && (t161 == 0)) && (t162 == 0))))) = some r := H
  have A5 := Aside0.mk A50
  clear A50
  refine Or.elim (Classical.em (t163 = 0)) (fun c6 => ?p3_) (fun c6 => ?n3_)
  case' p3_ =>
   rw [if_pos c6] at H
   have c6b0 : (t163 == 0) = true := beq_iff_eq.mpr c6
   have c6b1 : (t163 != 0) = false := bne_eq_false_iff_eq.mpr c6
   clear c6
   have hm1_0 := Aside0.mk trivial
  case' n3_ =>
   rw [if_neg c6] at H
   have c6b0 : (t163 == 0) = false := beq_eq_false_iff_ne.mpr c6
   have c6b1 : (t163 != 0) = true := bne_iff_ne.mpr c6
   have hm1_1 := Aside0.mk trivial
 case' n2_ =>
  replace c4 := Bool.eq_false_iff.mpr c4
  subst c4
  have H1 : (some false) = some r := by rw [if_neg (show ¬ (false = true) by decide)] at H; exact H
  clear H
  have H := H1
  clear H1
  have hm1_2 := Aside0.mk trivial
 all_goals
  first
   | clear hm1_0
     have H' := Aside0.mk H
     clear H
     go_enter Try.func8, Try.ntmps8
     go_wp2_with (first | ((with_reducible refine gate_callee (f := 33) rfl ?_); refine goesL_ (some 12) rfl rfl Try.func33 (by kernel_rfl) rfl #[] rfl (by (try simp only [List.map_toArray, List.map_cons, List.map_nil]); first | done | rfl | (simp only [List.length_drop, List.length_take]; rfl)) ?_; (with_reducible refine (skywaykeep1_flyWorks.calls k  true _ A3.out).mono ?_); rintro e wxb3ef1 ⟨rfl, hb⟩; refine ⟨_, rfl, ?_⟩; have n0_ := Aside0.mk (below_step (by repeat (first | (with_reducible first | exact HB.out | apply below_alloc | apply pw_below_drewN | apply below_drew1) | exact HB.out)) hb); clear HB; have HB := n0_; clear n0_; (try clear hb); (try clear hb2); (try clear hk); (try clear hi)) | ((with_reducible refine gate_callee (f := 34) rfl ?_); refine goesL_ (some 17) rfl rfl Try.func34 (by kernel_rfl) rfl #[.slice A0 l0.length c0, .int .i64 a1] rfl (by (try simp only [List.map_toArray, List.map_cons, List.map_nil]); first | done | rfl | (simp only [List.length_drop, List.length_take]; rfl)) ?_; (with_reducible refine (fly_At.calls k _ _ l0 a1 t159 t160 t161 t162 t163 _ ?side1 ?side2 A5.out).mono ?_); (case side1 => repeat (first | exact (Kd.C_below HR0.out HB.out) | (with_reducible refine Kd.C_alloc ?_ _) | (with_reducible refine Kd.C_drewN ?_ _) | (with_reducible refine Kd.C_drew ?_))); (case side2 => exact HC0.out); rintro e wx89f81 ⟨rfl, hb⟩; refine ⟨_, rfl, ?_⟩; have n0_ := Aside0.mk (below_step (by repeat (first | (with_reducible first | exact HB.out | apply below_alloc | apply pw_below_drewN | apply below_drew1) | exact HB.out)) hb); clear HB; have HB := n0_; clear n0_; (try clear hb); (try clear hb2); (try clear hk); (try clear hi)) | ((with_reducible refine gate_dst (N := 5) rfl ?_); (try (refine gate_guard (by rfl) ?_; dsimp only)); refine box_event ?hg (N := 5) ?hd (cs := #[.int .i64 0, .int .i64 0, .int .i64 0, .int .i64 0]) (t := 49) ?hr ?_; (case hd => rfl); (case hg => rfl); (case hr => first | (go_simp; done) | (go_simp; rfl)); intro gb164 hg wxfbee1 hbox hb; have n0_ := Aside0.mk (below_step (by repeat (first | (with_reducible first | exact HB.out | apply below_alloc | apply pw_below_drewN | apply below_drew1) | exact HB.out)) hb); have n1_ := Aside0.mk (hbox); have n2_ := Aside0.mk ((by rw [hg]; exact (below_size (by repeat (first | (with_reducible first | exact HB.out | apply below_alloc | apply pw_below_drewN | apply below_drew1) | exact HB.out))) : w.heap.size ≤ gb164)); have n3_ := Aside0.mk ((by rw [hg]; exact (below_size (by repeat (first | (with_reducible first | exact HB.out | apply below_alloc | apply pw_below_drewN | apply below_drew1) | exact HB.out))) : w.heap.size ≤ gb164)); clear HB; have HB := n0_; have BK164 := n1_; have GW164 := n2_; have GE164 := n3_; clear n0_ n1_ n2_ n3_; clear hb hbox hg; have hczxfbee1 : wxfbee1.cell? ⟨gb164, 0, none⟩ = some (.int .i64 0) := (blk_cell BK164.out 0).trans rfl; have hczxfbee2 : wxfbee1.cell? ⟨gb164, 1, none⟩ = some (.int .i64 0) := (blk_cell BK164.out 1).trans rfl; have hczxfbee3 : wxfbee1.cell? ⟨gb164, 2, none⟩ = some (.int .i64 0) := (blk_cell BK164.out 2).trans rfl; have hczxfbee4 : wxfbee1.cell? ⟨gb164, 3, none⟩ = some (.int .i64 0) := (blk_cell BK164.out 3).trans rfl; have hfzxfbee1 := blk_frozen BK164.out 0; have hfzxfbee2 := blk_frozen BK164.out 1; have hfzxfbee3 := blk_frozen BK164.out 2; have hfzxfbee4 := blk_frozen BK164.out 3))
     go_loopg [7] k (fun kq v7 w' => ∃ (x7_1 : Int), v7 = .int .i64 x7_1 ∧ Aside0 (skywaykeep1_FlyBetween.l0 kq l0 a1 x7_1 t159 t160 t161 t162 = some r) ∧ Aside0 (kq ≤ k) ∧ Aside0 (w'.heap[gb164]? = some (.cells #[.int .i64 t159, .int .i64 t160, .int .i64 t161, .int .i64 t162] 49 (0, 0))) ∧ Aside0 (Below w.heap.size w w'))
     case atStart => exact ⟨(1), (by first | rfl | (simp; done) | (simp [*]; done)), H', ⟨Nat.le_refl _⟩, ⟨by (with_reducible repeat (first | refine blk_drewN ?_ _ | refine blk_drew ?_ | refine blk_alloc ?_ _)); refine blk_put (cs := #[.int .i64 t159, .int .i64 t160, .int .i64 t161, .int .i64 0]) ?_ 3 _ rfl; (with_reducible repeat (first | refine blk_drewN ?_ _ | refine blk_drew ?_ | refine blk_alloc ?_ _)); refine blk_put (cs := #[.int .i64 t159, .int .i64 t160, .int .i64 0, .int .i64 0]) ?_ 2 _ rfl; (with_reducible repeat (first | refine blk_drewN ?_ _ | refine blk_drew ?_ | refine blk_alloc ?_ _)); refine blk_put (cs := #[.int .i64 t159, .int .i64 0, .int .i64 0, .int .i64 0]) ?_ 1 _ rfl; (with_reducible repeat (first | refine blk_drewN ?_ _ | refine blk_drew ?_ | refine blk_alloc ?_ _)); refine blk_put (cs := #[.int .i64 0, .int .i64 0, .int .i64 0, .int .i64 0]) ?_ 0 _ rfl; (with_reducible repeat (first | refine blk_drewN ?_ _ | refine blk_drew ?_ | refine blk_alloc ?_ _)); exact BK164.out⟩, ⟨by repeat (first | (with_reducible first | exact HB.out | apply below_alloc | apply pw_below_drewN | apply below_drew1 | refine below_set ?_ GE164.out) | exact HB.out)⟩⟩
     case round =>
      clear H'
      (try clear p1); (try clear p2); (try clear c3); (try clear c4); (try clear c6); (try clear c6b0); (try clear c6b1); (try clear c8); (try clear hczxfbee1); (try clear hczxfbee2); (try clear hczxfbee3); (try clear hczxfbee4); (try clear hfzxfbee1); (try clear hfzxfbee2); (try clear hfzxfbee3); (try clear hfzxfbee4)
      obtain ⟨x7_1, rfl, HA, HK1, BK164, HB⟩ := hrel
      cases gk with
      | zero => exact absurd HA.out (by simp [skywaykeep1_FlyBetween.l0])
      | succ k1 =>
       have H := HA.out
       clear HA
       simp only [skywaykeep1_FlyBetween.l0] at H
       refine Or.elim (Classical.em (x7_1 < (l0.length : Int))) (fun c11 => ?p5_) (fun c11 => ?n5_)
       case' p5_ =>
        rw [if_pos c11] at H
        have c11b0 : decide (x7_1 < (l0.length : Int)) = true := decide_eq_true c11
        clear c11
        obtain ⟨ji12, hji12⟩ : ∃ j_ : Int, (wrap64 (x7_1 - 1)) = j_ := ⟨_, rfl⟩
        replace H : (if 0 ≤ (ji12) then (if (ji12) < (l0.length : Int) then (if 0 ≤ x7_1 then (if a1 < ((rd_T49 l0 (ji12)).f0) then (skywaykeep1_FlyBetween.l0 k1 l0 a1 (wrap64 (x7_1 + 1)) t159 t160 t161 t162) else (if a1 > ((rd_T49 l0 x7_1).f0) then (skywaykeep1_FlyBetween.l0 k1 l0 a1 (wrap64 (x7_1 + 1)) t159 t160 t161 t162) else ((plane_Toward.f k1 ((rd_T49 l0 (ji12)).f1.f0) ((rd_T49 l0 (ji12)).f1.f1) ((rd_T49 l0 x7_1).f1.f0) ((rd_T49 l0 x7_1).f1.f1) (wrap64 (a1 - ((rd_T49 l0 (ji12)).f0))) (wrap64 (((rd_T49 l0 x7_1).f0) - ((rd_T49 l0 (ji12)).f0)))).bind fun bt169 => (if bt169.2.2 = 0 then (if (bt169.1 == t160 && (bt169.2.1 == t161)) = true then (if t162 ≥ (mn ((rd_T49 l0 (ji12)).f2) ((rd_T49 l0 x7_1).f2)) then (if t162 ≤ (mx ((rd_T49 l0 (ji12)).f2) ((rd_T49 l0 x7_1).f2)) then (some (t159 == a1)) else (some false)) else (some false)) else (some false)) else (some false))))) else (none)) else (none)) else (none)) = some r := by first | (rw [hji12] at H; exact H) | (simp only [hji12] at H ⊢; exact H)
        have hji12w : (IntKind.i64.wrap (x7_1 - 1)) = ji12 := (i64_w _).trans hji12
        refine Or.elim (Classical.em (0 ≤ (ji12))) (fun c13 => ?p6_) (fun c13 => ?n6_)
        case' p6_ =>
         rw [if_pos c13] at H
         have c13b0 : decide (0 ≤ (ji12)) = true := decide_eq_true c13
         clear c13
         refine Or.elim (Classical.em ((ji12) < (l0.length : Int))) (fun c14 => ?p7_) (fun c14 => ?n7_)
         case' p7_ =>
          rw [if_pos c14] at H
          have c14b0 : decide ((ji12) < (l0.length : Int)) = true := decide_eq_true c14
          clear c14
          refine Or.elim (Classical.em (0 ≤ x7_1)) (fun c15 => ?p8_) (fun c15 => ?n8_)
          case' p8_ =>
           rw [if_pos c15] at H
           have c15b0 : decide (0 ≤ x7_1) = true := decide_eq_true c15
           clear c15
           refine Or.elim (Classical.em (a1 < ((rd_T49 l0 (ji12)).f0))) (fun c16 => ?p9_) (fun c16 => ?n9_)
           case' p9_ =>
            rw [if_pos c16] at H
            have c16b0 : decide (a1 < ((rd_T49 l0 (ji12)).f0)) = true := decide_eq_true c16
            clear c16
            have hm4_0 := Aside0.mk trivial
           case' n9_ =>
            rw [if_neg c16] at H
            have c16b0 : decide (a1 < ((rd_T49 l0 (ji12)).f0)) = false := decide_eq_false c16
            clear c16
            refine Or.elim (Classical.em (a1 > ((rd_T49 l0 x7_1).f0))) (fun c32 => ?p10_) (fun c32 => ?n10_)
            case' p10_ =>
             rw [if_pos c32] at H
             have c32b0 : decide (((rd_T49 l0 x7_1).f0) < a1) = true := decide_eq_true c32
             clear c32
             have hm4_1 := Aside0.mk trivial
            case' n10_ =>
             rw [if_neg c32] at H
             have c32b0 : decide (((rd_T49 l0 x7_1).f0) < a1) = false := decide_eq_false c32
             clear c32
             replace H := Option.bind_eq_some_iff.mp H
             obtain ⟨⟨t169, t170, t171⟩, A500, H⟩ := H
             replace H : (if t171 = 0 then (if (t169 == t160 && (t170 == t161)) = true then (if t162 ≥ (mn ((rd_T49 l0 (ji12)).f2) ((rd_T49 l0 x7_1).f2)) then (if t162 ≤ (mx ((rd_T49 l0 (ji12)).f2) ((rd_T49 l0 x7_1).f2)) then (some (t159 == a1)) else (some false)) else (some false)) else (some false)) else (some false)) = some r := H
             have A50 := Aside0.mk A500
             clear A500
             refine Or.elim (Classical.em (t171 = 0)) (fun c51 => ?p11_) (fun c51 => ?n11_)
             case' p11_ =>
              rw [if_pos c51] at H
              have c51b0 : (t171 == 0) = true := beq_iff_eq.mpr c51
              have c51b1 : (t171 != 0) = false := bne_eq_false_iff_eq.mpr c51
              clear c51
              refine Or.elim (Classical.em ((t169 == t160 && (t170 == t161)) = true)) (fun c52 => ?p12_) (fun c52 => ?n12_)
              case' p12_ =>
               rw [if_pos c52] at H
               have c52b0 : (t169 == t160 && (t170 == t161)) = true := c52
               (try (have c52b1 : decide (t169 = t160 && (t170 == t161)) = true := by simpa using c52))
               (try (have c52b2 : (t169 == t160 && (t170 == t161)) = true := by simpa using c52))
               clear c52
               obtain ⟨ji53, hji53⟩ : ∃ j_ : Int, (mn ((rd_T49 l0 (ji12)).f2) ((rd_T49 l0 x7_1).f2)) = j_ := ⟨_, rfl⟩
               replace H : (if t162 ≥ (ji53) then (if t162 ≤ (mx ((rd_T49 l0 (ji12)).f2) ((rd_T49 l0 x7_1).f2)) then (some (t159 == a1)) else (some false)) else (some false)) = some r := by first | (rw [hji53] at H; exact H) | (simp only [hji53] at H ⊢; exact H)
               (try rw [hji53] at A50)
               have hji53_ : (if ((rd_T49 l0 x7_1).f2) < ((rd_T49 l0 (ji12)).f2) then ((rd_T49 l0 x7_1).f2) else ((rd_T49 l0 (ji12)).f2)) = ji53 := hji53
               refine Or.elim (Classical.em (t162 ≥ (ji53))) (fun c54 => ?p13_) (fun c54 => ?n13_)
               case' p13_ =>
                rw [if_pos c54] at H
                have c54b0 : decide ((ji53) ≤ t162) = true := decide_eq_true c54
                clear c54
                obtain ⟨ji55, hji55⟩ : ∃ j_ : Int, (mx ((rd_T49 l0 (ji12)).f2) ((rd_T49 l0 x7_1).f2)) = j_ := ⟨_, rfl⟩
                replace H : (if t162 ≤ (ji55) then (some (t159 == a1)) else (some false)) = some r := by first | (rw [hji55] at H; exact H) | (simp only [hji55] at H ⊢; exact H)
                (try rw [hji55] at A50)
                have hji55_ : (if ((rd_T49 l0 (ji12)).f2) < ((rd_T49 l0 x7_1).f2) then ((rd_T49 l0 x7_1).f2) else ((rd_T49 l0 (ji12)).f2)) = ji55 := hji55
                refine Or.elim (Classical.em (t162 ≤ (ji55))) (fun c56 => ?p14_) (fun c56 => ?n14_)
                case' p14_ =>
                 rw [if_pos c56] at H
                 have c56b0 : decide (t162 ≤ (ji55)) = true := decide_eq_true c56
                 clear c56
                 have hm4_2 := Aside0.mk trivial
                case' n14_ =>
                 rw [if_neg c56] at H
                 have c56b0 : decide (t162 ≤ (ji55)) = false := decide_eq_false c56
                 clear c56
                 have hm4_2 := Aside0.mk trivial
               case' n13_ =>
                rw [if_neg c54] at H
                have c54b0 : decide ((ji53) ≤ t162) = false := decide_eq_false c54
                clear c54
                have hm4_3 := Aside0.mk trivial
              case' n12_ =>
               rw [if_neg c52] at H
               have c52b0 : (t169 == t160 && (t170 == t161)) = false := by simpa using c52
               (try (have c52b1 : decide (t169 = t160 && (t170 == t161)) = false := by simpa using c52))
               (try (have c52b2 : (t169 == t160 && (t170 == t161)) = false := by simpa using c52))
               (try (have c52b3 : ¬ (t169 = t160 && (t170 == t161)) := by simpa using c52))
               clear c52
               have hm4_4 := Aside0.mk trivial
             case' n11_ =>
              rw [if_neg c51] at H
              have c51b0 : (t171 == 0) = false := beq_eq_false_iff_ne.mpr c51
              have c51b1 : (t171 != 0) = true := bne_iff_ne.mpr c51
              have hm4_4 := Aside0.mk trivial
          case' n8_ =>
           rw [if_neg c15] at H
           exact absurd H (by simp)
         case' n7_ =>
          rw [if_neg c14] at H
          exact absurd H (by simp)
        case' n6_ =>
         rw [if_neg c13] at H
         exact absurd H (by simp)
       case' n5_ =>
        rw [if_neg c11] at H
        have c11b0 : decide (x7_1 < (l0.length : Int)) = false := decide_eq_false c11
        clear c11
        refine Or.elim (Classical.em ((l0.length : Int) = 1)) (fun c182 => ?p15_) (fun c182 => ?n15_)
        case' p15_ =>
         rw [if_pos c182] at H
         have c182b0 : ((l0.length : Int) == 1) = true := beq_iff_eq.mpr c182
         have c182b1 : ((l0.length : Int) != 1) = false := bne_eq_false_iff_eq.mpr c182
         clear c182
         refine Or.elim (Classical.em (0 < (l0.length : Int))) (fun c183 => ?p16_) (fun c183 => ?n16_)
         case' p16_ =>
          rw [if_pos c183] at H
          have c183b0 : decide (0 < (l0.length : Int)) = true := decide_eq_true c183
          have c183b1 : decide (0 < l0.length) = true := decide_eq_true (by omega)
          clear c183
          have hm4_5 := Aside0.mk trivial
         case' n16_ =>
          rw [if_neg c183] at H
          exact absurd H (by simp)
        case' n15_ =>
         rw [if_neg c182] at H
         have c182b0 : ((l0.length : Int) == 1) = false := beq_eq_false_iff_ne.mpr c182
         have c182b1 : ((l0.length : Int) != 1) = true := bne_iff_ne.mpr c182
         have hm4_6 := Aside0.mk trivial
       all_goals
        first
         | (first | (have _hm := hm4_0) | (have _hm := hm4_1))
           have H' := Aside0.mk H
           clear H
           try go_wp2
           have n0_ := Aside0.mk (blk_drew BK164.out)
           have n1_ := Aside0.mk (below_drew1 HB.out)
           clear BK164
           clear HB
           have BK164 := n0_
           have HB := n1_
           clear n0_ n1_
           have p165 : 0 ≤ ((ji12) : Int) := of_decide_eq_true (by first | (with_reducible assumption) | assumption)
           have q165 : (ji12) < (l0.length : Int) := of_decide_eq_true (by first | (with_reducible assumption) | assumption)
           obtain ⟨ad165, e165, hx165_0, hx165_1, hx165_2, hx165_3⟩ := at_T49 HR0.out (ji12) p165 q165
           have hw165_3 := hx165_3
           have hw165_2 := hx165_2
           have hw165_1 := hx165_1
           have hw165_0 := hx165_0
           cases e165
           replace hx165_0 := (HB.out.cell (World.block_lt_of_cell? w _ hx165_0)).trans hx165_0
           replace hx165_1 := (HB.out.cell (World.block_lt_of_cell? w _ hx165_1)).trans hx165_1
           replace hx165_2 := (HB.out.cell (World.block_lt_of_cell? w _ hx165_2)).trans hx165_2
           replace hx165_3 := (HB.out.cell (World.block_lt_of_cell? w _ hx165_3)).trans hx165_3
           replace p165 := eq_true p165
           replace q165 := eq_true q165
           have p166 : 0 ≤ (x7_1 : Int) := of_decide_eq_true (by first | (with_reducible assumption) | assumption)
           have q166 : x7_1 < (l0.length : Int) := of_decide_eq_true (by first | (with_reducible assumption) | assumption)
           obtain ⟨ad166, e166, hx166_0, hx166_1, hx166_2, hx166_3⟩ := at_T49 HR0.out x7_1 p166 q166
           have hw166_3 := hx166_3
           have hw166_2 := hx166_2
           have hw166_1 := hx166_1
           have hw166_0 := hx166_0
           obtain rfl : ad165 = ad166 := (by injection e166)
           replace hx166_0 := (HB.out.cell (World.block_lt_of_cell? w _ hx166_0)).trans hx166_0
           replace hx166_1 := (HB.out.cell (World.block_lt_of_cell? w _ hx166_1)).trans hx166_1
           replace hx166_2 := (HB.out.cell (World.block_lt_of_cell? w _ hx166_2)).trans hx166_2
           replace hx166_3 := (HB.out.cell (World.block_lt_of_cell? w _ hx166_3)).trans hx166_3
           replace p166 := eq_true p166
           replace q166 := eq_true q166
           refine start_ (n := 13) (S := fun w' => w'.cell? (ad165.add (((ji12)).toNat * 4)) = some (.int .i64 ((rd_T49 l0 (ji12)).f0)) ∧ w'.cell? ⟨(ad165.add (((ji12)).toNat * 4)).block, (ad165.add (((ji12)).toNat * 4)).off + 1, none⟩ = some (.int .i64 ((rd_T49 l0 (ji12)).f1.f0)) ∧ w'.cell? ⟨(ad165.add (((ji12)).toNat * 4)).block, (ad165.add (((ji12)).toNat * 4)).off + 2, none⟩ = some (.int .i64 ((rd_T49 l0 (ji12)).f1.f1)) ∧ w'.cell? ⟨(ad165.add (((ji12)).toNat * 4)).block, (ad165.add (((ji12)).toNat * 4)).off + 3, none⟩ = some (.int .i64 ((rd_T49 l0 (ji12)).f2)) ∧ w'.cell? (ad165.add ((x7_1).toNat * 4)) = some (.int .i64 ((rd_T49 l0 x7_1).f0)) ∧ w'.cell? ⟨(ad165.add ((x7_1).toNat * 4)).block, (ad165.add ((x7_1).toNat * 4)).off + 1, none⟩ = some (.int .i64 ((rd_T49 l0 x7_1).f1.f0)) ∧ w'.cell? ⟨(ad165.add ((x7_1).toNat * 4)).block, (ad165.add ((x7_1).toNat * 4)).off + 2, none⟩ = some (.int .i64 ((rd_T49 l0 x7_1).f1.f1)) ∧ w'.cell? ⟨(ad165.add ((x7_1).toNat * 4)).block, (ad165.add ((x7_1).toNat * 4)).off + 3, none⟩ = some (.int .i64 ((rd_T49 l0 x7_1).f2))) (ds := []) #[false, false, false, false, false, false, false, false, false, false, false, false, false] (by kernel_rfl) rfl rfl ⟨((HB.out.cell (World.block_lt_of_cell? w _ hw165_0)).trans hw165_0), ((HB.out.cell (World.block_lt_of_cell? w _ hw165_1)).trans hw165_1), ((HB.out.cell (World.block_lt_of_cell? w _ hw165_2)).trans hw165_2), ((HB.out.cell (World.block_lt_of_cell? w _ hw165_3)).trans hw165_3), ((HB.out.cell (World.block_lt_of_cell? w _ hw166_0)).trans hw166_0), ((HB.out.cell (World.block_lt_of_cell? w _ hw166_1)).trans hw166_1), ((HB.out.cell (World.block_lt_of_cell? w _ hw166_2)).trans hw166_2), ((HB.out.cell (World.block_lt_of_cell? w _ hw166_3)).trans hw166_3)⟩ (fun hHeld => ?_); refine with_tabW skywaykeep1_FlyBetween.tab9 skywaykeep1_FlyBetween.bits9 (fun HT_ HW_ => ?_)
           generalize wr.drew = wzc1 at BK164 HB hx165_0 hx165_1 hx165_2 hx165_3 hx166_0 hx166_1 hx166_2 hx166_3 hHeld ⊢
           refine pure_ (i := 0) (N := some 31) (v := ?_) (a' := ?_) #[true, false, false, false, false, false, false, false, false, false, false, false, false] rfl rfl (any_of HT_.out (by kernel_rfl)) (fun _ _ _ h => h) (Or.inl ⟨by rfl, ?_⟩) ?_ ?_
           rotate_left
           · intro w'
             go_simp
             with_reducible rfl
           rotate_left
           · simp only [Act.put, List.setIfInBounds_toArray, List.set_cons_zero, List.set_cons_succ, i64_w, i32_w]
             rfl
           refine pure_ (i := 1) (N := some 32) (v := ?_) (a' := ?_) #[true, true, false, false, false, false, false, false, false, false, false, false, false] rfl rfl (any_of HT_.out (by kernel_rfl)) (fun _ _ _ h => h) (Or.inl ⟨by rfl, ?_⟩) ?_ ?_
           rotate_left
           · intro w'
             go_simp
             with_reducible rfl
           rotate_left
           · simp only [Act.put, List.setIfInBounds_toArray, List.set_cons_zero, List.set_cons_succ, i64_w, i32_w]
             rfl
           refine pure_ (i := 2) (N := some 33) (v := ?_) (a' := ?_) #[true, true, true, false, false, false, false, false, false, false, false, false, false] rfl rfl (any_of HT_.out (by kernel_rfl)) (fun _ _ _ h => h) (Or.inl ⟨by rfl, ?_⟩) ?_ ?_
           rotate_left
           · intro w'
             go_simp
             with_reducible rfl
           rotate_left
           · simp only [Act.put, List.setIfInBounds_toArray, List.set_cons_zero, List.set_cons_succ, i64_w, i32_w]
             rfl
           refine pure_ (i := 3) (N := some 34) (v := ?_) (a' := ?_) #[true, true, true, true, false, false, false, false, false, false, false, false, false] rfl rfl (any_of HT_.out (by kernel_rfl)) (fun _ _ _ h => h) (Or.inl ⟨by rfl, ?_⟩) ?_ ?_
           rotate_left
           · intro w'
             go_simp
             with_reducible rfl
           rotate_left
           · simp only [Act.put, List.setIfInBounds_toArray, List.set_cons_zero, List.set_cons_succ, i64_w, i32_w]
             rfl
           refine pure_ (i := 5) (N := some 36) (v := ?_) (a' := ?_) #[true, true, true, true, false, true, false, false, false, false, false, false, false] rfl rfl (any_of HT_.out (by kernel_rfl)) (fun _ _ _ h => h) (Or.inl ⟨by rfl, ?_⟩) ?_ ?_
           rotate_left
           · intro w'
             go_simp
             with_reducible rfl
           rotate_left
           · simp only [Act.put, List.setIfInBounds_toArray, List.set_cons_zero, List.set_cons_succ, i64_w, i32_w]
             rfl
           refine pure_ (i := 6) (N := some 37) (v := ?_) (a' := ?_) #[true, true, true, true, false, true, true, false, false, false, false, false, false] rfl rfl (any_of HT_.out (by kernel_rfl)) (fun _ _ _ h => h) (Or.inl ⟨by rfl, ?_⟩) ?_ ?_
           rotate_left
           · intro w'
             go_simp
             with_reducible rfl
           rotate_left
           · simp only [Act.put, List.setIfInBounds_toArray, List.set_cons_zero, List.set_cons_succ, i64_w, i32_w]
             rfl
           refine pure_ (i := 7) (N := some 38) (v := ?_) (a' := ?_) #[true, true, true, true, false, true, true, true, false, false, false, false, false] rfl rfl (any_of HT_.out (by kernel_rfl)) (fun _ _ _ h => h) (Or.inl ⟨by rfl, ?_⟩) ?_ ?_
           rotate_left
           · intro w'
             go_simp
             with_reducible rfl
           rotate_left
           · simp only [Act.put, List.setIfInBounds_toArray, List.set_cons_zero, List.set_cons_succ, i64_w, i32_w]
             rfl
           refine take_ (i := 4) (N := some 35) (v := ?_) (a' := ?_) #[true, true, true, true, true, true, true, true, false, false, false, false, false] rfl rfl (take_ofW HT_.out HW_.out (by kernel_rfl)) (fun _ _ _ h => h) (Or.inl ⟨by rfl, ?_⟩) hHeld ?_ ?_
           rotate_left
           · rintro w' ⟨s0, s1, s2, s3, s4, s5, s6, s7⟩
             go_simp
             with_reducible rfl
           rotate_left
           · simp only [Act.put, List.setIfInBounds_toArray, List.set_cons_zero, List.set_cons_succ, i64_w, i32_w]
             rfl
           refine take_ (i := 8) (N := some 39) (v := ?_) (a' := ?_) #[true, true, true, true, true, true, true, true, true, false, false, false, false] rfl rfl (take_ofW HT_.out HW_.out (by kernel_rfl)) (fun _ _ _ h => h) (Or.inl ⟨by rfl, ?_⟩) hHeld ?_ ?_
           rotate_left
           · rintro w' ⟨s0, s1, s2, s3, s4, s5, s6, s7⟩
             go_simp
             with_reducible rfl
           rotate_left
           · simp only [Act.put, List.setIfInBounds_toArray, List.set_cons_zero, List.set_cons_succ, i64_w, i32_w]
             rfl
           refine join_ (σ := Nat × Nat) 2 #[true, true, true, true, true, true, true, true, true, true, true, false, false] (fun s_ => [(8, .pointer (some ⟨s_.1, 0, none⟩)), (9, .pointer (some ⟨s_.2, 0, none⟩))]) (fun s_ w' => (w'.cell? (ad165.add (((ji12)).toNat * 4)) = some (.int .i64 ((rd_T49 l0 (ji12)).f0)) ∧ w'.cell? ⟨(ad165.add (((ji12)).toNat * 4)).block, (ad165.add (((ji12)).toNat * 4)).off + 1, none⟩ = some (.int .i64 ((rd_T49 l0 (ji12)).f1.f0)) ∧ w'.cell? ⟨(ad165.add (((ji12)).toNat * 4)).block, (ad165.add (((ji12)).toNat * 4)).off + 2, none⟩ = some (.int .i64 ((rd_T49 l0 (ji12)).f1.f1)) ∧ w'.cell? ⟨(ad165.add (((ji12)).toNat * 4)).block, (ad165.add (((ji12)).toNat * 4)).off + 3, none⟩ = some (.int .i64 ((rd_T49 l0 (ji12)).f2)) ∧ w'.cell? (ad165.add ((x7_1).toNat * 4)) = some (.int .i64 ((rd_T49 l0 x7_1).f0)) ∧ w'.cell? ⟨(ad165.add ((x7_1).toNat * 4)).block, (ad165.add ((x7_1).toNat * 4)).off + 1, none⟩ = some (.int .i64 ((rd_T49 l0 x7_1).f1.f0)) ∧ w'.cell? ⟨(ad165.add ((x7_1).toNat * 4)).block, (ad165.add ((x7_1).toNat * 4)).off + 2, none⟩ = some (.int .i64 ((rd_T49 l0 x7_1).f1.f1)) ∧ w'.cell? ⟨(ad165.add ((x7_1).toNat * 4)).block, (ad165.add ((x7_1).toNat * 4)).off + 3, none⟩ = some (.int .i64 ((rd_T49 l0 x7_1).f2))) ∧ (w'.heap[gb164]? = some (.cells #[.int .i64 t159, .int .i64 t160, .int .i64 t161, .int .i64 t162] 49 (0, 0))) ∧ (w'.heap[s_.1]? = some (.cells #[.int .i64 0, .int .i64 0, .int .i64 0, .int .i64 0] 49 (0, 0))) ∧ (w'.heap[s_.2]? = some (.cells #[.int .i64 0, .int .i64 0, .int .i64 0, .int .i64 0] 49 (0, 0))) ∧ (w.heap.size ≤ s_.1) ∧ (w.heap.size ≤ s_.1) ∧ (gb164 ≠ s_.1) ∧ (s_.1 ≠ gb164) ∧ (s_.2 ≠ s_.1) ∧ (s_.1 ≠ s_.2) ∧ (w.heap.size ≤ s_.2) ∧ (w.heap.size ≤ s_.2) ∧ (gb164 ≠ s_.2) ∧ (s_.2 ≠ gb164) ∧ (Below w.heap.size w w')) ?_ ?_
           rotate_left
           · intro hCont
             refine two_ (i := 9) (j := 10) (Ni := some 8) (Nj := some 9) #[true, true, true, true, true, true, true, true, true, true, false, false, false] #[true, true, true, true, true, true, true, true, true, false, true, false, false] rfl rfl rfl rfl (two_of HT_.out (by kernel_rfl)) (by decide) (by decide) (fun K hK => ?_) (fun K hK => ?_)
             · skip
               refine box_step ?hg (N := 8) ?hd (cs := #[.int .i64 0, .int .i64 0, .int .i64 0, .int .i64 0]) (t := 49) ?hr ?_; (case hd => rfl); (case hg => rfl); (case hr => first | (go_simp; done) | (go_simp; rfl))
               intro gb167 hg wzc2 hbox hb
               have n0_ := Aside0.mk (blk_below (g := gb164) (o := .cells #[.int .i64 t159, .int .i64 t160, .int .i64 t161, .int .i64 t162] 49 (0, 0)) (by (with_reducible repeat (first | refine blk_drewN ?_ _ | refine blk_drew ?_ | refine blk_alloc ?_ _)); exact BK164.out) hb)
               have n1_ := Aside0.mk (below_step (by repeat (first | (with_reducible first | exact HB.out | apply below_alloc | apply pw_below_drewN | apply below_drew1 | refine below_set ?_ GE164.out) | exact HB.out)) hb)
               have n2_ := Aside0.mk (hbox)
               have n3_ := Aside0.mk ((by rw [hg]; exact (below_size (by repeat (first | (with_reducible first | exact HB.out | apply below_alloc | apply pw_below_drewN | apply below_drew1 | refine below_set ?_ GE164.out) | exact HB.out))) : w.heap.size ≤ gb167))
               have n4_ := Aside0.mk ((by rw [hg]; exact (below_size (by repeat (first | (with_reducible first | exact HB.out | apply below_alloc | apply pw_below_drewN | apply below_drew1 | refine below_set ?_ GE164.out) | exact HB.out))) : w.heap.size ≤ gb167))
               have n5_ := Aside0.mk ((by rw [hg]; exact Nat.ne_of_lt (blk_lt (g := gb164) (o := .cells #[.int .i64 t159, .int .i64 t160, .int .i64 t161, .int .i64 t162] 49 (0, 0)) (by (with_reducible repeat (first | refine blk_drewN ?_ _ | refine blk_drew ?_ | refine blk_alloc ?_ _)); exact BK164.out)) : gb164 ≠ gb167))
               have n6_ := Aside0.mk ((by rw [hg]; exact Nat.ne_of_gt (blk_lt (g := gb164) (o := .cells #[.int .i64 t159, .int .i64 t160, .int .i64 t161, .int .i64 t162] 49 (0, 0)) (by (with_reducible repeat (first | refine blk_drewN ?_ _ | refine blk_drew ?_ | refine blk_alloc ?_ _)); exact BK164.out)) : gb167 ≠ gb164))
               clear BK164
               clear HB
               have BK164 := n0_
               have HB := n1_
               have BK167 := n2_
               have GW167 := n3_
               have GE167 := n4_
               have NB164_167 := n5_
               have NB167_164 := n6_
               clear n0_ n1_ n2_ n3_ n4_ n5_ n6_
               clear hb hbox hg
               refine hK.out _ _ ⟨((HB.out.cell (World.block_lt_of_cell? w _ hw165_0)).trans hw165_0), ((HB.out.cell (World.block_lt_of_cell? w _ hw165_1)).trans hw165_1), ((HB.out.cell (World.block_lt_of_cell? w _ hw165_2)).trans hw165_2), ((HB.out.cell (World.block_lt_of_cell? w _ hw165_3)).trans hw165_3), ((HB.out.cell (World.block_lt_of_cell? w _ hw166_0)).trans hw166_0), ((HB.out.cell (World.block_lt_of_cell? w _ hw166_1)).trans hw166_1), ((HB.out.cell (World.block_lt_of_cell? w _ hw166_2)).trans hw166_2), ((HB.out.cell (World.block_lt_of_cell? w _ hw166_3)).trans hw166_3)⟩ (fun hHeld => ?_)
               clear hK K
               refine norm_ (a' := ?_) ?_ ?_
               rotate_left
               · show Act.put _ (some 8) _ = _
                 simp only [Act.put, List.setIfInBounds_toArray, List.set_cons_zero, List.set_cons_succ, i64_w, i32_w]
                 rfl
               refine one_ (i := 10) (N := some 9) #[true, true, true, true, true, true, true, true, true, true, true, false, false] rfl rfl (one_of HT_.out (by kernel_rfl)) (by decide) (fun K hK => ?_)
               refine box_step ?hg (N := 9) ?hd (cs := #[.int .i64 0, .int .i64 0, .int .i64 0, .int .i64 0]) (t := 49) ?hr ?_; (case hd => rfl); (case hg => rfl); (case hr => first | (go_simp; done) | (go_simp; rfl))
               intro gb168 hg wzc3 hbox hb
               have n0_ := Aside0.mk (blk_below (g := gb164) (o := .cells #[.int .i64 t159, .int .i64 t160, .int .i64 t161, .int .i64 t162] 49 (0, 0)) (by (with_reducible repeat (first | refine blk_drewN ?_ _ | refine blk_drew ?_ | refine blk_alloc ?_ _)); exact BK164.out) hb)
               have n1_ := Aside0.mk (blk_below (g := gb167) (o := .cells #[.int .i64 0, .int .i64 0, .int .i64 0, .int .i64 0] 49 (0, 0)) (by (with_reducible repeat (first | refine blk_drewN ?_ _ | refine blk_drew ?_ | refine blk_alloc ?_ _)); exact BK167.out) hb)
               have n2_ := Aside0.mk (below_step (by repeat (first | (with_reducible first | exact HB.out | apply below_alloc | apply pw_below_drewN | apply below_drew1 | refine below_set ?_ GE164.out | refine below_set ?_ GE167.out) | exact HB.out)) hb)
               have n3_ := Aside0.mk (hbox)
               have n4_ := Aside0.mk ((by rw [hg]; exact (below_size (by repeat (first | (with_reducible first | exact HB.out | apply below_alloc | apply pw_below_drewN | apply below_drew1 | refine below_set ?_ GE164.out | refine below_set ?_ GE167.out) | exact HB.out))) : w.heap.size ≤ gb168))
               have n5_ := Aside0.mk ((by rw [hg]; exact (below_size (by repeat (first | (with_reducible first | exact HB.out | apply below_alloc | apply pw_below_drewN | apply below_drew1 | refine below_set ?_ GE164.out | refine below_set ?_ GE167.out) | exact HB.out))) : w.heap.size ≤ gb168))
               have n6_ := Aside0.mk ((by rw [hg]; exact Nat.ne_of_lt (blk_lt (g := gb164) (o := .cells #[.int .i64 t159, .int .i64 t160, .int .i64 t161, .int .i64 t162] 49 (0, 0)) (by (with_reducible repeat (first | refine blk_drewN ?_ _ | refine blk_drew ?_ | refine blk_alloc ?_ _)); exact BK164.out)) : gb164 ≠ gb168))
               have n7_ := Aside0.mk ((by rw [hg]; exact Nat.ne_of_gt (blk_lt (g := gb164) (o := .cells #[.int .i64 t159, .int .i64 t160, .int .i64 t161, .int .i64 t162] 49 (0, 0)) (by (with_reducible repeat (first | refine blk_drewN ?_ _ | refine blk_drew ?_ | refine blk_alloc ?_ _)); exact BK164.out)) : gb168 ≠ gb164))
               have n8_ := Aside0.mk ((by rw [hg]; exact Nat.ne_of_lt (blk_lt (g := gb167) (o := .cells #[.int .i64 0, .int .i64 0, .int .i64 0, .int .i64 0] 49 (0, 0)) (by (with_reducible repeat (first | refine blk_drewN ?_ _ | refine blk_drew ?_ | refine blk_alloc ?_ _)); exact BK167.out)) : gb167 ≠ gb168))
               have n9_ := Aside0.mk ((by rw [hg]; exact Nat.ne_of_gt (blk_lt (g := gb167) (o := .cells #[.int .i64 0, .int .i64 0, .int .i64 0, .int .i64 0] 49 (0, 0)) (by (with_reducible repeat (first | refine blk_drewN ?_ _ | refine blk_drew ?_ | refine blk_alloc ?_ _)); exact BK167.out)) : gb168 ≠ gb167))
               clear BK164
               clear BK167
               clear HB
               have BK164 := n0_
               have BK167 := n1_
               have HB := n2_
               have BK168 := n3_
               have GW168 := n4_
               have GE168 := n5_
               have NB164_168 := n6_
               have NB168_164 := n7_
               have NB167_168 := n8_
               have NB168_167 := n9_
               clear n0_ n1_ n2_ n3_ n4_ n5_ n6_ n7_ n8_ n9_
               clear hb hbox hg
               refine hK.out _ _ ⟨((HB.out.cell (World.block_lt_of_cell? w _ hw165_0)).trans hw165_0), ((HB.out.cell (World.block_lt_of_cell? w _ hw165_1)).trans hw165_1), ((HB.out.cell (World.block_lt_of_cell? w _ hw165_2)).trans hw165_2), ((HB.out.cell (World.block_lt_of_cell? w _ hw165_3)).trans hw165_3), ((HB.out.cell (World.block_lt_of_cell? w _ hw166_0)).trans hw166_0), ((HB.out.cell (World.block_lt_of_cell? w _ hw166_1)).trans hw166_1), ((HB.out.cell (World.block_lt_of_cell? w _ hw166_2)).trans hw166_2), ((HB.out.cell (World.block_lt_of_cell? w _ hw166_3)).trans hw166_3)⟩ (fun hHeld => ?_)
               clear hK K
               refine norm_ (a' := ?_) ?_ ?_
               rotate_left
               · show Act.put _ (some 9) _ = _
                 simp only [Act.put, List.setIfInBounds_toArray, List.set_cons_zero, List.set_cons_succ, i64_w, i32_w]
                 rfl
               exact norm_ (by simp only [putAll, Act.put, List.setIfInBounds_toArray, List.set_cons_zero, List.set_cons_succ]) (hCont (gb167, gb168) _ ⟨hHeld, (by (with_reducible repeat (first | refine blk_drewN ?_ _ | refine blk_drew ?_ | refine blk_alloc ?_ _)); exact BK164.out), (by (with_reducible repeat (first | refine blk_drewN ?_ _ | refine blk_drew ?_ | refine blk_alloc ?_ _)); exact BK167.out), (by (with_reducible repeat (first | refine blk_drewN ?_ _ | refine blk_drew ?_ | refine blk_alloc ?_ _)); exact BK168.out), GW167.out, GE167.out, NB164_167.out, NB167_164.out, NB168_167.out, NB167_168.out, GW168.out, GE168.out, NB164_168.out, NB168_164.out, (by repeat (first | (with_reducible first | exact HB.out | apply below_alloc | apply pw_below_drewN | apply below_drew1 | refine below_set ?_ GE164.out | refine below_set ?_ GE167.out | refine below_set ?_ GE168.out) | exact HB.out))⟩)
             · skip
               refine box_step ?hg (N := 9) ?hd (cs := #[.int .i64 0, .int .i64 0, .int .i64 0, .int .i64 0]) (t := 49) ?hr ?_; (case hd => rfl); (case hg => rfl); (case hr => first | (go_simp; done) | (go_simp; rfl))
               intro gb168 hg wzc2 hbox hb
               have n0_ := Aside0.mk (blk_below (g := gb164) (o := .cells #[.int .i64 t159, .int .i64 t160, .int .i64 t161, .int .i64 t162] 49 (0, 0)) (by (with_reducible repeat (first | refine blk_drewN ?_ _ | refine blk_drew ?_ | refine blk_alloc ?_ _)); exact BK164.out) hb)
               have n1_ := Aside0.mk (below_step (by repeat (first | (with_reducible first | exact HB.out | apply below_alloc | apply pw_below_drewN | apply below_drew1 | refine below_set ?_ GE164.out) | exact HB.out)) hb)
               have n2_ := Aside0.mk (hbox)
               have n3_ := Aside0.mk ((by rw [hg]; exact (below_size (by repeat (first | (with_reducible first | exact HB.out | apply below_alloc | apply pw_below_drewN | apply below_drew1 | refine below_set ?_ GE164.out) | exact HB.out))) : w.heap.size ≤ gb168))
               have n4_ := Aside0.mk ((by rw [hg]; exact (below_size (by repeat (first | (with_reducible first | exact HB.out | apply below_alloc | apply pw_below_drewN | apply below_drew1 | refine below_set ?_ GE164.out) | exact HB.out))) : w.heap.size ≤ gb168))
               have n5_ := Aside0.mk ((by rw [hg]; exact Nat.ne_of_lt (blk_lt (g := gb164) (o := .cells #[.int .i64 t159, .int .i64 t160, .int .i64 t161, .int .i64 t162] 49 (0, 0)) (by (with_reducible repeat (first | refine blk_drewN ?_ _ | refine blk_drew ?_ | refine blk_alloc ?_ _)); exact BK164.out)) : gb164 ≠ gb168))
               have n6_ := Aside0.mk ((by rw [hg]; exact Nat.ne_of_gt (blk_lt (g := gb164) (o := .cells #[.int .i64 t159, .int .i64 t160, .int .i64 t161, .int .i64 t162] 49 (0, 0)) (by (with_reducible repeat (first | refine blk_drewN ?_ _ | refine blk_drew ?_ | refine blk_alloc ?_ _)); exact BK164.out)) : gb168 ≠ gb164))
               clear BK164
               clear HB
               have BK164 := n0_
               have HB := n1_
               have BK168 := n2_
               have GW168 := n3_
               have GE168 := n4_
               have NB164_168 := n5_
               have NB168_164 := n6_
               clear n0_ n1_ n2_ n3_ n4_ n5_ n6_
               clear hb hbox hg
               refine hK.out _ _ ⟨((HB.out.cell (World.block_lt_of_cell? w _ hw165_0)).trans hw165_0), ((HB.out.cell (World.block_lt_of_cell? w _ hw165_1)).trans hw165_1), ((HB.out.cell (World.block_lt_of_cell? w _ hw165_2)).trans hw165_2), ((HB.out.cell (World.block_lt_of_cell? w _ hw165_3)).trans hw165_3), ((HB.out.cell (World.block_lt_of_cell? w _ hw166_0)).trans hw166_0), ((HB.out.cell (World.block_lt_of_cell? w _ hw166_1)).trans hw166_1), ((HB.out.cell (World.block_lt_of_cell? w _ hw166_2)).trans hw166_2), ((HB.out.cell (World.block_lt_of_cell? w _ hw166_3)).trans hw166_3)⟩ (fun hHeld => ?_)
               clear hK K
               refine norm_ (a' := ?_) ?_ ?_
               rotate_left
               · show Act.put _ (some 9) _ = _
                 simp only [Act.put, List.setIfInBounds_toArray, List.set_cons_zero, List.set_cons_succ, i64_w, i32_w]
                 rfl
               refine one_ (i := 9) (N := some 8) #[true, true, true, true, true, true, true, true, true, true, true, false, false] rfl rfl (one_of HT_.out (by kernel_rfl)) (by decide) (fun K hK => ?_)
               refine box_step ?hg (N := 8) ?hd (cs := #[.int .i64 0, .int .i64 0, .int .i64 0, .int .i64 0]) (t := 49) ?hr ?_; (case hd => rfl); (case hg => rfl); (case hr => first | (go_simp; done) | (go_simp; rfl))
               intro gb167 hg wzc3 hbox hb
               have n0_ := Aside0.mk (blk_below (g := gb164) (o := .cells #[.int .i64 t159, .int .i64 t160, .int .i64 t161, .int .i64 t162] 49 (0, 0)) (by (with_reducible repeat (first | refine blk_drewN ?_ _ | refine blk_drew ?_ | refine blk_alloc ?_ _)); exact BK164.out) hb)
               have n1_ := Aside0.mk (blk_below (g := gb168) (o := .cells #[.int .i64 0, .int .i64 0, .int .i64 0, .int .i64 0] 49 (0, 0)) (by (with_reducible repeat (first | refine blk_drewN ?_ _ | refine blk_drew ?_ | refine blk_alloc ?_ _)); exact BK168.out) hb)
               have n2_ := Aside0.mk (below_step (by repeat (first | (with_reducible first | exact HB.out | apply below_alloc | apply pw_below_drewN | apply below_drew1 | refine below_set ?_ GE164.out | refine below_set ?_ GE168.out) | exact HB.out)) hb)
               have n3_ := Aside0.mk (hbox)
               have n4_ := Aside0.mk ((by rw [hg]; exact (below_size (by repeat (first | (with_reducible first | exact HB.out | apply below_alloc | apply pw_below_drewN | apply below_drew1 | refine below_set ?_ GE164.out | refine below_set ?_ GE168.out) | exact HB.out))) : w.heap.size ≤ gb167))
               have n5_ := Aside0.mk ((by rw [hg]; exact (below_size (by repeat (first | (with_reducible first | exact HB.out | apply below_alloc | apply pw_below_drewN | apply below_drew1 | refine below_set ?_ GE164.out | refine below_set ?_ GE168.out) | exact HB.out))) : w.heap.size ≤ gb167))
               have n6_ := Aside0.mk ((by rw [hg]; exact Nat.ne_of_lt (blk_lt (g := gb164) (o := .cells #[.int .i64 t159, .int .i64 t160, .int .i64 t161, .int .i64 t162] 49 (0, 0)) (by (with_reducible repeat (first | refine blk_drewN ?_ _ | refine blk_drew ?_ | refine blk_alloc ?_ _)); exact BK164.out)) : gb164 ≠ gb167))
               have n7_ := Aside0.mk ((by rw [hg]; exact Nat.ne_of_gt (blk_lt (g := gb164) (o := .cells #[.int .i64 t159, .int .i64 t160, .int .i64 t161, .int .i64 t162] 49 (0, 0)) (by (with_reducible repeat (first | refine blk_drewN ?_ _ | refine blk_drew ?_ | refine blk_alloc ?_ _)); exact BK164.out)) : gb167 ≠ gb164))
               have n8_ := Aside0.mk ((by rw [hg]; exact Nat.ne_of_lt (blk_lt (g := gb168) (o := .cells #[.int .i64 0, .int .i64 0, .int .i64 0, .int .i64 0] 49 (0, 0)) (by (with_reducible repeat (first | refine blk_drewN ?_ _ | refine blk_drew ?_ | refine blk_alloc ?_ _)); exact BK168.out)) : gb168 ≠ gb167))
               have n9_ := Aside0.mk ((by rw [hg]; exact Nat.ne_of_gt (blk_lt (g := gb168) (o := .cells #[.int .i64 0, .int .i64 0, .int .i64 0, .int .i64 0] 49 (0, 0)) (by (with_reducible repeat (first | refine blk_drewN ?_ _ | refine blk_drew ?_ | refine blk_alloc ?_ _)); exact BK168.out)) : gb167 ≠ gb168))
               clear BK164
               clear BK168
               clear HB
               have BK164 := n0_
               have BK168 := n1_
               have HB := n2_
               have BK167 := n3_
               have GW167 := n4_
               have GE167 := n5_
               have NB164_167 := n6_
               have NB167_164 := n7_
               have NB168_167 := n8_
               have NB167_168 := n9_
               clear n0_ n1_ n2_ n3_ n4_ n5_ n6_ n7_ n8_ n9_
               clear hb hbox hg
               refine hK.out _ _ ⟨((HB.out.cell (World.block_lt_of_cell? w _ hw165_0)).trans hw165_0), ((HB.out.cell (World.block_lt_of_cell? w _ hw165_1)).trans hw165_1), ((HB.out.cell (World.block_lt_of_cell? w _ hw165_2)).trans hw165_2), ((HB.out.cell (World.block_lt_of_cell? w _ hw165_3)).trans hw165_3), ((HB.out.cell (World.block_lt_of_cell? w _ hw166_0)).trans hw166_0), ((HB.out.cell (World.block_lt_of_cell? w _ hw166_1)).trans hw166_1), ((HB.out.cell (World.block_lt_of_cell? w _ hw166_2)).trans hw166_2), ((HB.out.cell (World.block_lt_of_cell? w _ hw166_3)).trans hw166_3)⟩ (fun hHeld => ?_)
               clear hK K
               refine norm_ (a' := ?_) ?_ ?_
               rotate_left
               · show Act.put _ (some 8) _ = _
                 simp only [Act.put, List.setIfInBounds_toArray, List.set_cons_zero, List.set_cons_succ, i64_w, i32_w]
                 rfl
               exact norm_ (by simp only [putAll, Act.put, List.setIfInBounds_toArray, List.set_cons_zero, List.set_cons_succ]) (hCont (gb167, gb168) _ ⟨hHeld, (by (with_reducible repeat (first | refine blk_drewN ?_ _ | refine blk_drew ?_ | refine blk_alloc ?_ _)); exact BK164.out), (by (with_reducible repeat (first | refine blk_drewN ?_ _ | refine blk_drew ?_ | refine blk_alloc ?_ _)); exact BK167.out), (by (with_reducible repeat (first | refine blk_drewN ?_ _ | refine blk_drew ?_ | refine blk_alloc ?_ _)); exact BK168.out), GW167.out, GE167.out, NB164_167.out, NB167_164.out, NB168_167.out, NB167_168.out, GW168.out, GE168.out, NB164_168.out, NB168_164.out, (by repeat (first | (with_reducible first | exact HB.out | apply below_alloc | apply pw_below_drewN | apply below_drew1 | refine below_set ?_ GE164.out | refine below_set ?_ GE168.out | refine below_set ?_ GE167.out) | exact HB.out))⟩)
           rintro ⟨gb167, gb168⟩ wzc4 ⟨hS_, h0_, h1_, h2_, h3_, h4_, h5_, h6_, h7_, h8_, h9_, h10_, h11_, h12_, h13_⟩
           have n0_ : Aside0 (wzc4.heap[gb164]? = some (.cells #[.int .i64 t159, .int .i64 t160, .int .i64 t161, .int .i64 t162] 49 (0, 0))) := ⟨h0_⟩
           have n1_ : Aside0 (wzc4.heap[gb167]? = some (.cells #[.int .i64 0, .int .i64 0, .int .i64 0, .int .i64 0] 49 (0, 0))) := ⟨h1_⟩
           have n2_ : Aside0 (wzc4.heap[gb168]? = some (.cells #[.int .i64 0, .int .i64 0, .int .i64 0, .int .i64 0] 49 (0, 0))) := ⟨h2_⟩
           have n3_ : Aside0 (w.heap.size ≤ gb167) := ⟨h3_⟩
           have n4_ : Aside0 (w.heap.size ≤ gb167) := ⟨h4_⟩
           have n5_ : Aside0 (gb164 ≠ gb167) := ⟨h5_⟩
           have n6_ : Aside0 (gb167 ≠ gb164) := ⟨h6_⟩
           have n7_ : Aside0 (gb168 ≠ gb167) := ⟨h7_⟩
           have n8_ : Aside0 (gb167 ≠ gb168) := ⟨h8_⟩
           have n9_ : Aside0 (w.heap.size ≤ gb168) := ⟨h9_⟩
           have n10_ : Aside0 (w.heap.size ≤ gb168) := ⟨h10_⟩
           have n11_ : Aside0 (gb164 ≠ gb168) := ⟨h11_⟩
           have n12_ : Aside0 (gb168 ≠ gb164) := ⟨h12_⟩
           have n13_ : Aside0 (Below w.heap.size w wzc4) := ⟨h13_⟩
           clear BK164
           clear HB
           clear h0_ h1_ h2_ h3_ h4_ h5_ h6_ h7_ h8_ h9_ h10_ h11_ h12_ h13_
           have BK164 := n0_
           have BK167 := n1_
           have BK168 := n2_
           have GW167 := n3_
           have GE167 := n4_
           have NB164_167 := n5_
           have NB167_164 := n6_
           have NB168_167 := n7_
           have NB167_168 := n8_
           have GW168 := n9_
           have GE168 := n10_
           have NB164_168 := n11_
           have NB168_164 := n12_
           have HB := n13_
           clear n0_ n1_ n2_ n3_ n4_ n5_ n6_ n7_ n8_ n9_ n10_ n11_ n12_ n13_
           have hHeld : wzc4.cell? (ad165.add (((ji12)).toNat * 4)) = some (.int .i64 ((rd_T49 l0 (ji12)).f0)) ∧ wzc4.cell? ⟨(ad165.add (((ji12)).toNat * 4)).block, (ad165.add (((ji12)).toNat * 4)).off + 1, none⟩ = some (.int .i64 ((rd_T49 l0 (ji12)).f1.f0)) ∧ wzc4.cell? ⟨(ad165.add (((ji12)).toNat * 4)).block, (ad165.add (((ji12)).toNat * 4)).off + 2, none⟩ = some (.int .i64 ((rd_T49 l0 (ji12)).f1.f1)) ∧ wzc4.cell? ⟨(ad165.add (((ji12)).toNat * 4)).block, (ad165.add (((ji12)).toNat * 4)).off + 3, none⟩ = some (.int .i64 ((rd_T49 l0 (ji12)).f2)) ∧ wzc4.cell? (ad165.add ((x7_1).toNat * 4)) = some (.int .i64 ((rd_T49 l0 x7_1).f0)) ∧ wzc4.cell? ⟨(ad165.add ((x7_1).toNat * 4)).block, (ad165.add ((x7_1).toNat * 4)).off + 1, none⟩ = some (.int .i64 ((rd_T49 l0 x7_1).f1.f0)) ∧ wzc4.cell? ⟨(ad165.add ((x7_1).toNat * 4)).block, (ad165.add ((x7_1).toNat * 4)).off + 2, none⟩ = some (.int .i64 ((rd_T49 l0 x7_1).f1.f1)) ∧ wzc4.cell? ⟨(ad165.add ((x7_1).toNat * 4)).block, (ad165.add ((x7_1).toNat * 4)).off + 3, none⟩ = some (.int .i64 ((rd_T49 l0 x7_1).f2)) := hS_
           refine norm_ (a' := ?_) ?_ ?_
           rotate_left
           · simp only [putAll, Act.put, List.setIfInBounds_toArray, List.set_cons_zero, List.set_cons_succ]
             rfl
           refine one_ (i := 11) (N := none) #[true, true, true, true, true, true, true, true, true, true, true, true, false] rfl rfl (one_of HT_.out (by kernel_rfl)) (by decide) (fun K hK => ?_)
           have hszc1 : wzc4.cell? ⟨gb167, 0, none⟩ = some (.int .i64 0) := (blk_cell BK167.out 0).trans rfl
           have hfszc1 := blk_frozen BK167.out 0
           have hnszc1 := NB164_167.out
           have hnszc2 := NB168_167.out
           have hmszc1 := NB167_164.out
           have hmszc2 := NB167_168.out
           have hszc2 : wzc4.cell? ⟨gb167, 1, none⟩ = some (.int .i64 0) := (blk_cell BK167.out 1).trans rfl
           have hfszc2 := blk_frozen BK167.out 1
           have hnszc3 := NB164_167.out
           have hnszc4 := NB168_167.out
           have hmszc3 := NB167_164.out
           have hmszc4 := NB167_168.out
           have hszc3 : wzc4.cell? ⟨gb167, 2, none⟩ = some (.int .i64 0) := (blk_cell BK167.out 2).trans rfl
           have hfszc3 := blk_frozen BK167.out 2
           have hnszc5 := NB164_167.out
           have hnszc6 := NB168_167.out
           have hmszc5 := NB167_164.out
           have hmszc6 := NB167_168.out
           have hszc4 : wzc4.cell? ⟨gb167, 3, none⟩ = some (.int .i64 0) := (blk_cell BK167.out 3).trans rfl
           have hfszc4 := blk_frozen BK167.out 3
           have hnszc7 := NB164_167.out
           have hnszc8 := NB168_167.out
           have hmszc7 := NB167_164.out
           have hmszc8 := NB167_168.out
           refine skip_ (w1 := ?_) (by rfl) rfl ?_ ?_
           rotate_left
           · go_simp
             rfl
           refine hK.out _ _ ⟨((cell_far (p := ⟨gb167, _, none⟩) (by first | exact Nat.ne_of_lt (Nat.lt_of_lt_of_le (by have := World.block_lt_of_cell? _ _ hw165_0; first | rwa [add_block] at this | exact this) GW167.out) | (rw [add_block]; exact Nat.ne_of_lt (Nat.lt_of_lt_of_le (by have := World.block_lt_of_cell? _ _ hw165_0; first | rwa [add_block] at this | exact this) GW167.out)) | (show (Addr.add _ _).block ≠ _; rw [add_block]; exact Nat.ne_of_lt (Nat.lt_of_lt_of_le (by have := World.block_lt_of_cell? _ _ hw165_0; first | rwa [add_block] at this | exact this) GW167.out)) | (dsimp only; exact Nat.ne_of_lt (Nat.lt_of_lt_of_le (by have := World.block_lt_of_cell? _ _ hw165_0; first | rwa [add_block] at this | exact this) GW167.out))) _).trans (((cell_far (p := ⟨gb167, _, none⟩) (by first | exact Nat.ne_of_lt (Nat.lt_of_lt_of_le (by have := World.block_lt_of_cell? _ _ hw165_0; first | rwa [add_block] at this | exact this) GW167.out) | (rw [add_block]; exact Nat.ne_of_lt (Nat.lt_of_lt_of_le (by have := World.block_lt_of_cell? _ _ hw165_0; first | rwa [add_block] at this | exact this) GW167.out)) | (show (Addr.add _ _).block ≠ _; rw [add_block]; exact Nat.ne_of_lt (Nat.lt_of_lt_of_le (by have := World.block_lt_of_cell? _ _ hw165_0; first | rwa [add_block] at this | exact this) GW167.out)) | (dsimp only; exact Nat.ne_of_lt (Nat.lt_of_lt_of_le (by have := World.block_lt_of_cell? _ _ hw165_0; first | rwa [add_block] at this | exact this) GW167.out))) _).trans (((cell_far (p := ⟨gb167, _, none⟩) (by first | exact Nat.ne_of_lt (Nat.lt_of_lt_of_le (by have := World.block_lt_of_cell? _ _ hw165_0; first | rwa [add_block] at this | exact this) GW167.out) | (rw [add_block]; exact Nat.ne_of_lt (Nat.lt_of_lt_of_le (by have := World.block_lt_of_cell? _ _ hw165_0; first | rwa [add_block] at this | exact this) GW167.out)) | (show (Addr.add _ _).block ≠ _; rw [add_block]; exact Nat.ne_of_lt (Nat.lt_of_lt_of_le (by have := World.block_lt_of_cell? _ _ hw165_0; first | rwa [add_block] at this | exact this) GW167.out)) | (dsimp only; exact Nat.ne_of_lt (Nat.lt_of_lt_of_le (by have := World.block_lt_of_cell? _ _ hw165_0; first | rwa [add_block] at this | exact this) GW167.out))) _).trans (((cell_far (p := ⟨gb167, _, none⟩) (by first | exact Nat.ne_of_lt (Nat.lt_of_lt_of_le (by have := World.block_lt_of_cell? _ _ hw165_0; first | rwa [add_block] at this | exact this) GW167.out) | (rw [add_block]; exact Nat.ne_of_lt (Nat.lt_of_lt_of_le (by have := World.block_lt_of_cell? _ _ hw165_0; first | rwa [add_block] at this | exact this) GW167.out)) | (show (Addr.add _ _).block ≠ _; rw [add_block]; exact Nat.ne_of_lt (Nat.lt_of_lt_of_le (by have := World.block_lt_of_cell? _ _ hw165_0; first | rwa [add_block] at this | exact this) GW167.out)) | (dsimp only; exact Nat.ne_of_lt (Nat.lt_of_lt_of_le (by have := World.block_lt_of_cell? _ _ hw165_0; first | rwa [add_block] at this | exact this) GW167.out))) _).trans (hHeld.1)))))))), ((cell_far (p := ⟨gb167, _, none⟩) (by first | exact Nat.ne_of_lt (Nat.lt_of_lt_of_le (by have := World.block_lt_of_cell? _ _ hw165_1; first | rwa [add_block] at this | exact this) GW167.out) | (rw [add_block]; exact Nat.ne_of_lt (Nat.lt_of_lt_of_le (by have := World.block_lt_of_cell? _ _ hw165_1; first | rwa [add_block] at this | exact this) GW167.out)) | (show (Addr.add _ _).block ≠ _; rw [add_block]; exact Nat.ne_of_lt (Nat.lt_of_lt_of_le (by have := World.block_lt_of_cell? _ _ hw165_1; first | rwa [add_block] at this | exact this) GW167.out)) | (dsimp only; exact Nat.ne_of_lt (Nat.lt_of_lt_of_le (by have := World.block_lt_of_cell? _ _ hw165_1; first | rwa [add_block] at this | exact this) GW167.out))) _).trans (((cell_far (p := ⟨gb167, _, none⟩) (by first | exact Nat.ne_of_lt (Nat.lt_of_lt_of_le (by have := World.block_lt_of_cell? _ _ hw165_1; first | rwa [add_block] at this | exact this) GW167.out) | (rw [add_block]; exact Nat.ne_of_lt (Nat.lt_of_lt_of_le (by have := World.block_lt_of_cell? _ _ hw165_1; first | rwa [add_block] at this | exact this) GW167.out)) | (show (Addr.add _ _).block ≠ _; rw [add_block]; exact Nat.ne_of_lt (Nat.lt_of_lt_of_le (by have := World.block_lt_of_cell? _ _ hw165_1; first | rwa [add_block] at this | exact this) GW167.out)) | (dsimp only; exact Nat.ne_of_lt (Nat.lt_of_lt_of_le (by have := World.block_lt_of_cell? _ _ hw165_1; first | rwa [add_block] at this | exact this) GW167.out))) _).trans (((cell_far (p := ⟨gb167, _, none⟩) (by first | exact Nat.ne_of_lt (Nat.lt_of_lt_of_le (by have := World.block_lt_of_cell? _ _ hw165_1; first | rwa [add_block] at this | exact this) GW167.out) | (rw [add_block]; exact Nat.ne_of_lt (Nat.lt_of_lt_of_le (by have := World.block_lt_of_cell? _ _ hw165_1; first | rwa [add_block] at this | exact this) GW167.out)) | (show (Addr.add _ _).block ≠ _; rw [add_block]; exact Nat.ne_of_lt (Nat.lt_of_lt_of_le (by have := World.block_lt_of_cell? _ _ hw165_1; first | rwa [add_block] at this | exact this) GW167.out)) | (dsimp only; exact Nat.ne_of_lt (Nat.lt_of_lt_of_le (by have := World.block_lt_of_cell? _ _ hw165_1; first | rwa [add_block] at this | exact this) GW167.out))) _).trans (((cell_far (p := ⟨gb167, _, none⟩) (by first | exact Nat.ne_of_lt (Nat.lt_of_lt_of_le (by have := World.block_lt_of_cell? _ _ hw165_1; first | rwa [add_block] at this | exact this) GW167.out) | (rw [add_block]; exact Nat.ne_of_lt (Nat.lt_of_lt_of_le (by have := World.block_lt_of_cell? _ _ hw165_1; first | rwa [add_block] at this | exact this) GW167.out)) | (show (Addr.add _ _).block ≠ _; rw [add_block]; exact Nat.ne_of_lt (Nat.lt_of_lt_of_le (by have := World.block_lt_of_cell? _ _ hw165_1; first | rwa [add_block] at this | exact this) GW167.out)) | (dsimp only; exact Nat.ne_of_lt (Nat.lt_of_lt_of_le (by have := World.block_lt_of_cell? _ _ hw165_1; first | rwa [add_block] at this | exact this) GW167.out))) _).trans (hHeld.2.1)))))))), ((cell_far (p := ⟨gb167, _, none⟩) (by first | exact Nat.ne_of_lt (Nat.lt_of_lt_of_le (by have := World.block_lt_of_cell? _ _ hw165_2; first | rwa [add_block] at this | exact this) GW167.out) | (rw [add_block]; exact Nat.ne_of_lt (Nat.lt_of_lt_of_le (by have := World.block_lt_of_cell? _ _ hw165_2; first | rwa [add_block] at this | exact this) GW167.out)) | (show (Addr.add _ _).block ≠ _; rw [add_block]; exact Nat.ne_of_lt (Nat.lt_of_lt_of_le (by have := World.block_lt_of_cell? _ _ hw165_2; first | rwa [add_block] at this | exact this) GW167.out)) | (dsimp only; exact Nat.ne_of_lt (Nat.lt_of_lt_of_le (by have := World.block_lt_of_cell? _ _ hw165_2; first | rwa [add_block] at this | exact this) GW167.out))) _).trans (((cell_far (p := ⟨gb167, _, none⟩) (by first | exact Nat.ne_of_lt (Nat.lt_of_lt_of_le (by have := World.block_lt_of_cell? _ _ hw165_2; first | rwa [add_block] at this | exact this) GW167.out) | (rw [add_block]; exact Nat.ne_of_lt (Nat.lt_of_lt_of_le (by have := World.block_lt_of_cell? _ _ hw165_2; first | rwa [add_block] at this | exact this) GW167.out)) | (show (Addr.add _ _).block ≠ _; rw [add_block]; exact Nat.ne_of_lt (Nat.lt_of_lt_of_le (by have := World.block_lt_of_cell? _ _ hw165_2; first | rwa [add_block] at this | exact this) GW167.out)) | (dsimp only; exact Nat.ne_of_lt (Nat.lt_of_lt_of_le (by have := World.block_lt_of_cell? _ _ hw165_2; first | rwa [add_block] at this | exact this) GW167.out))) _).trans (((cell_far (p := ⟨gb167, _, none⟩) (by first | exact Nat.ne_of_lt (Nat.lt_of_lt_of_le (by have := World.block_lt_of_cell? _ _ hw165_2; first | rwa [add_block] at this | exact this) GW167.out) | (rw [add_block]; exact Nat.ne_of_lt (Nat.lt_of_lt_of_le (by have := World.block_lt_of_cell? _ _ hw165_2; first | rwa [add_block] at this | exact this) GW167.out)) | (show (Addr.add _ _).block ≠ _; rw [add_block]; exact Nat.ne_of_lt (Nat.lt_of_lt_of_le (by have := World.block_lt_of_cell? _ _ hw165_2; first | rwa [add_block] at this | exact this) GW167.out)) | (dsimp only; exact Nat.ne_of_lt (Nat.lt_of_lt_of_le (by have := World.block_lt_of_cell? _ _ hw165_2; first | rwa [add_block] at this | exact this) GW167.out))) _).trans (((cell_far (p := ⟨gb167, _, none⟩) (by first | exact Nat.ne_of_lt (Nat.lt_of_lt_of_le (by have := World.block_lt_of_cell? _ _ hw165_2; first | rwa [add_block] at this | exact this) GW167.out) | (rw [add_block]; exact Nat.ne_of_lt (Nat.lt_of_lt_of_le (by have := World.block_lt_of_cell? _ _ hw165_2; first | rwa [add_block] at this | exact this) GW167.out)) | (show (Addr.add _ _).block ≠ _; rw [add_block]; exact Nat.ne_of_lt (Nat.lt_of_lt_of_le (by have := World.block_lt_of_cell? _ _ hw165_2; first | rwa [add_block] at this | exact this) GW167.out)) | (dsimp only; exact Nat.ne_of_lt (Nat.lt_of_lt_of_le (by have := World.block_lt_of_cell? _ _ hw165_2; first | rwa [add_block] at this | exact this) GW167.out))) _).trans (hHeld.2.2.1)))))))), ((cell_far (p := ⟨gb167, _, none⟩) (by first | exact Nat.ne_of_lt (Nat.lt_of_lt_of_le (by have := World.block_lt_of_cell? _ _ hw165_3; first | rwa [add_block] at this | exact this) GW167.out) | (rw [add_block]; exact Nat.ne_of_lt (Nat.lt_of_lt_of_le (by have := World.block_lt_of_cell? _ _ hw165_3; first | rwa [add_block] at this | exact this) GW167.out)) | (show (Addr.add _ _).block ≠ _; rw [add_block]; exact Nat.ne_of_lt (Nat.lt_of_lt_of_le (by have := World.block_lt_of_cell? _ _ hw165_3; first | rwa [add_block] at this | exact this) GW167.out)) | (dsimp only; exact Nat.ne_of_lt (Nat.lt_of_lt_of_le (by have := World.block_lt_of_cell? _ _ hw165_3; first | rwa [add_block] at this | exact this) GW167.out))) _).trans (((cell_far (p := ⟨gb167, _, none⟩) (by first | exact Nat.ne_of_lt (Nat.lt_of_lt_of_le (by have := World.block_lt_of_cell? _ _ hw165_3; first | rwa [add_block] at this | exact this) GW167.out) | (rw [add_block]; exact Nat.ne_of_lt (Nat.lt_of_lt_of_le (by have := World.block_lt_of_cell? _ _ hw165_3; first | rwa [add_block] at this | exact this) GW167.out)) | (show (Addr.add _ _).block ≠ _; rw [add_block]; exact Nat.ne_of_lt (Nat.lt_of_lt_of_le (by have := World.block_lt_of_cell? _ _ hw165_3; first | rwa [add_block] at this | exact this) GW167.out)) | (dsimp only; exact Nat.ne_of_lt (Nat.lt_of_lt_of_le (by have := World.block_lt_of_cell? _ _ hw165_3; first | rwa [add_block] at this | exact this) GW167.out))) _).trans (((cell_far (p := ⟨gb167, _, none⟩) (by first | exact Nat.ne_of_lt (Nat.lt_of_lt_of_le (by have := World.block_lt_of_cell? _ _ hw165_3; first | rwa [add_block] at this | exact this) GW167.out) | (rw [add_block]; exact Nat.ne_of_lt (Nat.lt_of_lt_of_le (by have := World.block_lt_of_cell? _ _ hw165_3; first | rwa [add_block] at this | exact this) GW167.out)) | (show (Addr.add _ _).block ≠ _; rw [add_block]; exact Nat.ne_of_lt (Nat.lt_of_lt_of_le (by have := World.block_lt_of_cell? _ _ hw165_3; first | rwa [add_block] at this | exact this) GW167.out)) | (dsimp only; exact Nat.ne_of_lt (Nat.lt_of_lt_of_le (by have := World.block_lt_of_cell? _ _ hw165_3; first | rwa [add_block] at this | exact this) GW167.out))) _).trans (((cell_far (p := ⟨gb167, _, none⟩) (by first | exact Nat.ne_of_lt (Nat.lt_of_lt_of_le (by have := World.block_lt_of_cell? _ _ hw165_3; first | rwa [add_block] at this | exact this) GW167.out) | (rw [add_block]; exact Nat.ne_of_lt (Nat.lt_of_lt_of_le (by have := World.block_lt_of_cell? _ _ hw165_3; first | rwa [add_block] at this | exact this) GW167.out)) | (show (Addr.add _ _).block ≠ _; rw [add_block]; exact Nat.ne_of_lt (Nat.lt_of_lt_of_le (by have := World.block_lt_of_cell? _ _ hw165_3; first | rwa [add_block] at this | exact this) GW167.out)) | (dsimp only; exact Nat.ne_of_lt (Nat.lt_of_lt_of_le (by have := World.block_lt_of_cell? _ _ hw165_3; first | rwa [add_block] at this | exact this) GW167.out))) _).trans (hHeld.2.2.2.1)))))))), ((cell_far (p := ⟨gb167, _, none⟩) (by first | exact Nat.ne_of_lt (Nat.lt_of_lt_of_le (by have := World.block_lt_of_cell? _ _ hw166_0; first | rwa [add_block] at this | exact this) GW167.out) | (rw [add_block]; exact Nat.ne_of_lt (Nat.lt_of_lt_of_le (by have := World.block_lt_of_cell? _ _ hw166_0; first | rwa [add_block] at this | exact this) GW167.out)) | (show (Addr.add _ _).block ≠ _; rw [add_block]; exact Nat.ne_of_lt (Nat.lt_of_lt_of_le (by have := World.block_lt_of_cell? _ _ hw166_0; first | rwa [add_block] at this | exact this) GW167.out)) | (dsimp only; exact Nat.ne_of_lt (Nat.lt_of_lt_of_le (by have := World.block_lt_of_cell? _ _ hw166_0; first | rwa [add_block] at this | exact this) GW167.out))) _).trans (((cell_far (p := ⟨gb167, _, none⟩) (by first | exact Nat.ne_of_lt (Nat.lt_of_lt_of_le (by have := World.block_lt_of_cell? _ _ hw166_0; first | rwa [add_block] at this | exact this) GW167.out) | (rw [add_block]; exact Nat.ne_of_lt (Nat.lt_of_lt_of_le (by have := World.block_lt_of_cell? _ _ hw166_0; first | rwa [add_block] at this | exact this) GW167.out)) | (show (Addr.add _ _).block ≠ _; rw [add_block]; exact Nat.ne_of_lt (Nat.lt_of_lt_of_le (by have := World.block_lt_of_cell? _ _ hw166_0; first | rwa [add_block] at this | exact this) GW167.out)) | (dsimp only; exact Nat.ne_of_lt (Nat.lt_of_lt_of_le (by have := World.block_lt_of_cell? _ _ hw166_0; first | rwa [add_block] at this | exact this) GW167.out))) _).trans (((cell_far (p := ⟨gb167, _, none⟩) (by first | exact Nat.ne_of_lt (Nat.lt_of_lt_of_le (by have := World.block_lt_of_cell? _ _ hw166_0; first | rwa [add_block] at this | exact this) GW167.out) | (rw [add_block]; exact Nat.ne_of_lt (Nat.lt_of_lt_of_le (by have := World.block_lt_of_cell? _ _ hw166_0; first | rwa [add_block] at this | exact this) GW167.out)) | (show (Addr.add _ _).block ≠ _; rw [add_block]; exact Nat.ne_of_lt (Nat.lt_of_lt_of_le (by have := World.block_lt_of_cell? _ _ hw166_0; first | rwa [add_block] at this | exact this) GW167.out)) | (dsimp only; exact Nat.ne_of_lt (Nat.lt_of_lt_of_le (by have := World.block_lt_of_cell? _ _ hw166_0; first | rwa [add_block] at this | exact this) GW167.out))) _).trans (((cell_far (p := ⟨gb167, _, none⟩) (by first | exact Nat.ne_of_lt (Nat.lt_of_lt_of_le (by have := World.block_lt_of_cell? _ _ hw166_0; first | rwa [add_block] at this | exact this) GW167.out) | (rw [add_block]; exact Nat.ne_of_lt (Nat.lt_of_lt_of_le (by have := World.block_lt_of_cell? _ _ hw166_0; first | rwa [add_block] at this | exact this) GW167.out)) | (show (Addr.add _ _).block ≠ _; rw [add_block]; exact Nat.ne_of_lt (Nat.lt_of_lt_of_le (by have := World.block_lt_of_cell? _ _ hw166_0; first | rwa [add_block] at this | exact this) GW167.out)) | (dsimp only; exact Nat.ne_of_lt (Nat.lt_of_lt_of_le (by have := World.block_lt_of_cell? _ _ hw166_0; first | rwa [add_block] at this | exact this) GW167.out))) _).trans (hHeld.2.2.2.2.1)))))))), ((cell_far (p := ⟨gb167, _, none⟩) (by first | exact Nat.ne_of_lt (Nat.lt_of_lt_of_le (by have := World.block_lt_of_cell? _ _ hw166_1; first | rwa [add_block] at this | exact this) GW167.out) | (rw [add_block]; exact Nat.ne_of_lt (Nat.lt_of_lt_of_le (by have := World.block_lt_of_cell? _ _ hw166_1; first | rwa [add_block] at this | exact this) GW167.out)) | (show (Addr.add _ _).block ≠ _; rw [add_block]; exact Nat.ne_of_lt (Nat.lt_of_lt_of_le (by have := World.block_lt_of_cell? _ _ hw166_1; first | rwa [add_block] at this | exact this) GW167.out)) | (dsimp only; exact Nat.ne_of_lt (Nat.lt_of_lt_of_le (by have := World.block_lt_of_cell? _ _ hw166_1; first | rwa [add_block] at this | exact this) GW167.out))) _).trans (((cell_far (p := ⟨gb167, _, none⟩) (by first | exact Nat.ne_of_lt (Nat.lt_of_lt_of_le (by have := World.block_lt_of_cell? _ _ hw166_1; first | rwa [add_block] at this | exact this) GW167.out) | (rw [add_block]; exact Nat.ne_of_lt (Nat.lt_of_lt_of_le (by have := World.block_lt_of_cell? _ _ hw166_1; first | rwa [add_block] at this | exact this) GW167.out)) | (show (Addr.add _ _).block ≠ _; rw [add_block]; exact Nat.ne_of_lt (Nat.lt_of_lt_of_le (by have := World.block_lt_of_cell? _ _ hw166_1; first | rwa [add_block] at this | exact this) GW167.out)) | (dsimp only; exact Nat.ne_of_lt (Nat.lt_of_lt_of_le (by have := World.block_lt_of_cell? _ _ hw166_1; first | rwa [add_block] at this | exact this) GW167.out))) _).trans (((cell_far (p := ⟨gb167, _, none⟩) (by first | exact Nat.ne_of_lt (Nat.lt_of_lt_of_le (by have := World.block_lt_of_cell? _ _ hw166_1; first | rwa [add_block] at this | exact this) GW167.out) | (rw [add_block]; exact Nat.ne_of_lt (Nat.lt_of_lt_of_le (by have := World.block_lt_of_cell? _ _ hw166_1; first | rwa [add_block] at this | exact this) GW167.out)) | (show (Addr.add _ _).block ≠ _; rw [add_block]; exact Nat.ne_of_lt (Nat.lt_of_lt_of_le (by have := World.block_lt_of_cell? _ _ hw166_1; first | rwa [add_block] at this | exact this) GW167.out)) | (dsimp only; exact Nat.ne_of_lt (Nat.lt_of_lt_of_le (by have := World.block_lt_of_cell? _ _ hw166_1; first | rwa [add_block] at this | exact this) GW167.out))) _).trans (((cell_far (p := ⟨gb167, _, none⟩) (by first | exact Nat.ne_of_lt (Nat.lt_of_lt_of_le (by have := World.block_lt_of_cell? _ _ hw166_1; first | rwa [add_block] at this | exact this) GW167.out) | (rw [add_block]; exact Nat.ne_of_lt (Nat.lt_of_lt_of_le (by have := World.block_lt_of_cell? _ _ hw166_1; first | rwa [add_block] at this | exact this) GW167.out)) | (show (Addr.add _ _).block ≠ _; rw [add_block]; exact Nat.ne_of_lt (Nat.lt_of_lt_of_le (by have := World.block_lt_of_cell? _ _ hw166_1; first | rwa [add_block] at this | exact this) GW167.out)) | (dsimp only; exact Nat.ne_of_lt (Nat.lt_of_lt_of_le (by have := World.block_lt_of_cell? _ _ hw166_1; first | rwa [add_block] at this | exact this) GW167.out))) _).trans (hHeld.2.2.2.2.2.1)))))))), ((cell_far (p := ⟨gb167, _, none⟩) (by first | exact Nat.ne_of_lt (Nat.lt_of_lt_of_le (by have := World.block_lt_of_cell? _ _ hw166_2; first | rwa [add_block] at this | exact this) GW167.out) | (rw [add_block]; exact Nat.ne_of_lt (Nat.lt_of_lt_of_le (by have := World.block_lt_of_cell? _ _ hw166_2; first | rwa [add_block] at this | exact this) GW167.out)) | (show (Addr.add _ _).block ≠ _; rw [add_block]; exact Nat.ne_of_lt (Nat.lt_of_lt_of_le (by have := World.block_lt_of_cell? _ _ hw166_2; first | rwa [add_block] at this | exact this) GW167.out)) | (dsimp only; exact Nat.ne_of_lt (Nat.lt_of_lt_of_le (by have := World.block_lt_of_cell? _ _ hw166_2; first | rwa [add_block] at this | exact this) GW167.out))) _).trans (((cell_far (p := ⟨gb167, _, none⟩) (by first | exact Nat.ne_of_lt (Nat.lt_of_lt_of_le (by have := World.block_lt_of_cell? _ _ hw166_2; first | rwa [add_block] at this | exact this) GW167.out) | (rw [add_block]; exact Nat.ne_of_lt (Nat.lt_of_lt_of_le (by have := World.block_lt_of_cell? _ _ hw166_2; first | rwa [add_block] at this | exact this) GW167.out)) | (show (Addr.add _ _).block ≠ _; rw [add_block]; exact Nat.ne_of_lt (Nat.lt_of_lt_of_le (by have := World.block_lt_of_cell? _ _ hw166_2; first | rwa [add_block] at this | exact this) GW167.out)) | (dsimp only; exact Nat.ne_of_lt (Nat.lt_of_lt_of_le (by have := World.block_lt_of_cell? _ _ hw166_2; first | rwa [add_block] at this | exact this) GW167.out))) _).trans (((cell_far (p := ⟨gb167, _, none⟩) (by first | exact Nat.ne_of_lt (Nat.lt_of_lt_of_le (by have := World.block_lt_of_cell? _ _ hw166_2; first | rwa [add_block] at this | exact this) GW167.out) | (rw [add_block]; exact Nat.ne_of_lt (Nat.lt_of_lt_of_le (by have := World.block_lt_of_cell? _ _ hw166_2; first | rwa [add_block] at this | exact this) GW167.out)) | (show (Addr.add _ _).block ≠ _; rw [add_block]; exact Nat.ne_of_lt (Nat.lt_of_lt_of_le (by have := World.block_lt_of_cell? _ _ hw166_2; first | rwa [add_block] at this | exact this) GW167.out)) | (dsimp only; exact Nat.ne_of_lt (Nat.lt_of_lt_of_le (by have := World.block_lt_of_cell? _ _ hw166_2; first | rwa [add_block] at this | exact this) GW167.out))) _).trans (((cell_far (p := ⟨gb167, _, none⟩) (by first | exact Nat.ne_of_lt (Nat.lt_of_lt_of_le (by have := World.block_lt_of_cell? _ _ hw166_2; first | rwa [add_block] at this | exact this) GW167.out) | (rw [add_block]; exact Nat.ne_of_lt (Nat.lt_of_lt_of_le (by have := World.block_lt_of_cell? _ _ hw166_2; first | rwa [add_block] at this | exact this) GW167.out)) | (show (Addr.add _ _).block ≠ _; rw [add_block]; exact Nat.ne_of_lt (Nat.lt_of_lt_of_le (by have := World.block_lt_of_cell? _ _ hw166_2; first | rwa [add_block] at this | exact this) GW167.out)) | (dsimp only; exact Nat.ne_of_lt (Nat.lt_of_lt_of_le (by have := World.block_lt_of_cell? _ _ hw166_2; first | rwa [add_block] at this | exact this) GW167.out))) _).trans (hHeld.2.2.2.2.2.2.1)))))))), ((cell_far (p := ⟨gb167, _, none⟩) (by first | exact Nat.ne_of_lt (Nat.lt_of_lt_of_le (by have := World.block_lt_of_cell? _ _ hw166_3; first | rwa [add_block] at this | exact this) GW167.out) | (rw [add_block]; exact Nat.ne_of_lt (Nat.lt_of_lt_of_le (by have := World.block_lt_of_cell? _ _ hw166_3; first | rwa [add_block] at this | exact this) GW167.out)) | (show (Addr.add _ _).block ≠ _; rw [add_block]; exact Nat.ne_of_lt (Nat.lt_of_lt_of_le (by have := World.block_lt_of_cell? _ _ hw166_3; first | rwa [add_block] at this | exact this) GW167.out)) | (dsimp only; exact Nat.ne_of_lt (Nat.lt_of_lt_of_le (by have := World.block_lt_of_cell? _ _ hw166_3; first | rwa [add_block] at this | exact this) GW167.out))) _).trans (((cell_far (p := ⟨gb167, _, none⟩) (by first | exact Nat.ne_of_lt (Nat.lt_of_lt_of_le (by have := World.block_lt_of_cell? _ _ hw166_3; first | rwa [add_block] at this | exact this) GW167.out) | (rw [add_block]; exact Nat.ne_of_lt (Nat.lt_of_lt_of_le (by have := World.block_lt_of_cell? _ _ hw166_3; first | rwa [add_block] at this | exact this) GW167.out)) | (show (Addr.add _ _).block ≠ _; rw [add_block]; exact Nat.ne_of_lt (Nat.lt_of_lt_of_le (by have := World.block_lt_of_cell? _ _ hw166_3; first | rwa [add_block] at this | exact this) GW167.out)) | (dsimp only; exact Nat.ne_of_lt (Nat.lt_of_lt_of_le (by have := World.block_lt_of_cell? _ _ hw166_3; first | rwa [add_block] at this | exact this) GW167.out))) _).trans (((cell_far (p := ⟨gb167, _, none⟩) (by first | exact Nat.ne_of_lt (Nat.lt_of_lt_of_le (by have := World.block_lt_of_cell? _ _ hw166_3; first | rwa [add_block] at this | exact this) GW167.out) | (rw [add_block]; exact Nat.ne_of_lt (Nat.lt_of_lt_of_le (by have := World.block_lt_of_cell? _ _ hw166_3; first | rwa [add_block] at this | exact this) GW167.out)) | (show (Addr.add _ _).block ≠ _; rw [add_block]; exact Nat.ne_of_lt (Nat.lt_of_lt_of_le (by have := World.block_lt_of_cell? _ _ hw166_3; first | rwa [add_block] at this | exact this) GW167.out)) | (dsimp only; exact Nat.ne_of_lt (Nat.lt_of_lt_of_le (by have := World.block_lt_of_cell? _ _ hw166_3; first | rwa [add_block] at this | exact this) GW167.out))) _).trans (((cell_far (p := ⟨gb167, _, none⟩) (by first | exact Nat.ne_of_lt (Nat.lt_of_lt_of_le (by have := World.block_lt_of_cell? _ _ hw166_3; first | rwa [add_block] at this | exact this) GW167.out) | (rw [add_block]; exact Nat.ne_of_lt (Nat.lt_of_lt_of_le (by have := World.block_lt_of_cell? _ _ hw166_3; first | rwa [add_block] at this | exact this) GW167.out)) | (show (Addr.add _ _).block ≠ _; rw [add_block]; exact Nat.ne_of_lt (Nat.lt_of_lt_of_le (by have := World.block_lt_of_cell? _ _ hw166_3; first | rwa [add_block] at this | exact this) GW167.out)) | (dsimp only; exact Nat.ne_of_lt (Nat.lt_of_lt_of_le (by have := World.block_lt_of_cell? _ _ hw166_3; first | rwa [add_block] at this | exact this) GW167.out))) _).trans (hHeld.2.2.2.2.2.2.2))))))))⟩ (fun hHeld => ?_)
           clear hK K
           refine one_ (i := 12) (N := none) #[true, true, true, true, true, true, true, true, true, true, true, true, true] rfl rfl (one_of HT_.out (by kernel_rfl)) (by decide) (fun K hK => ?_)
           have hszc5 : wzc4.cell? ⟨gb168, 0, none⟩ = some (.int .i64 0) := (blk_cell BK168.out 0).trans rfl
           have hfszc5 := blk_frozen BK168.out 0
           have hnszc9 := NB164_168.out
           have hnszc10 := NB167_168.out
           have hmszc9 := NB168_164.out
           have hmszc10 := NB168_167.out
           have hszc6 : wzc4.cell? ⟨gb168, 1, none⟩ = some (.int .i64 0) := (blk_cell BK168.out 1).trans rfl
           have hfszc6 := blk_frozen BK168.out 1
           have hnszc11 := NB164_168.out
           have hnszc12 := NB167_168.out
           have hmszc11 := NB168_164.out
           have hmszc12 := NB168_167.out
           have hszc7 : wzc4.cell? ⟨gb168, 2, none⟩ = some (.int .i64 0) := (blk_cell BK168.out 2).trans rfl
           have hfszc7 := blk_frozen BK168.out 2
           have hnszc13 := NB164_168.out
           have hnszc14 := NB167_168.out
           have hmszc13 := NB168_164.out
           have hmszc14 := NB168_167.out
           have hszc8 : wzc4.cell? ⟨gb168, 3, none⟩ = some (.int .i64 0) := (blk_cell BK168.out 3).trans rfl
           have hfszc8 := blk_frozen BK168.out 3
           have hnszc15 := NB164_168.out
           have hnszc16 := NB167_168.out
           have hmszc15 := NB168_164.out
           have hmszc16 := NB168_167.out
           refine skip_ (w1 := ?_) (by rfl) rfl ?_ ?_
           rotate_left
           · go_simp
             rfl
           refine hK.out _ _ ⟨((cell_far (p := ⟨gb168, _, none⟩) (by first | exact Nat.ne_of_lt (Nat.lt_of_lt_of_le (by have := World.block_lt_of_cell? _ _ hw165_0; first | rwa [add_block] at this | exact this) GW168.out) | (rw [add_block]; exact Nat.ne_of_lt (Nat.lt_of_lt_of_le (by have := World.block_lt_of_cell? _ _ hw165_0; first | rwa [add_block] at this | exact this) GW168.out)) | (show (Addr.add _ _).block ≠ _; rw [add_block]; exact Nat.ne_of_lt (Nat.lt_of_lt_of_le (by have := World.block_lt_of_cell? _ _ hw165_0; first | rwa [add_block] at this | exact this) GW168.out)) | (dsimp only; exact Nat.ne_of_lt (Nat.lt_of_lt_of_le (by have := World.block_lt_of_cell? _ _ hw165_0; first | rwa [add_block] at this | exact this) GW168.out))) _).trans (((cell_far (p := ⟨gb168, _, none⟩) (by first | exact Nat.ne_of_lt (Nat.lt_of_lt_of_le (by have := World.block_lt_of_cell? _ _ hw165_0; first | rwa [add_block] at this | exact this) GW168.out) | (rw [add_block]; exact Nat.ne_of_lt (Nat.lt_of_lt_of_le (by have := World.block_lt_of_cell? _ _ hw165_0; first | rwa [add_block] at this | exact this) GW168.out)) | (show (Addr.add _ _).block ≠ _; rw [add_block]; exact Nat.ne_of_lt (Nat.lt_of_lt_of_le (by have := World.block_lt_of_cell? _ _ hw165_0; first | rwa [add_block] at this | exact this) GW168.out)) | (dsimp only; exact Nat.ne_of_lt (Nat.lt_of_lt_of_le (by have := World.block_lt_of_cell? _ _ hw165_0; first | rwa [add_block] at this | exact this) GW168.out))) _).trans (((cell_far (p := ⟨gb168, _, none⟩) (by first | exact Nat.ne_of_lt (Nat.lt_of_lt_of_le (by have := World.block_lt_of_cell? _ _ hw165_0; first | rwa [add_block] at this | exact this) GW168.out) | (rw [add_block]; exact Nat.ne_of_lt (Nat.lt_of_lt_of_le (by have := World.block_lt_of_cell? _ _ hw165_0; first | rwa [add_block] at this | exact this) GW168.out)) | (show (Addr.add _ _).block ≠ _; rw [add_block]; exact Nat.ne_of_lt (Nat.lt_of_lt_of_le (by have := World.block_lt_of_cell? _ _ hw165_0; first | rwa [add_block] at this | exact this) GW168.out)) | (dsimp only; exact Nat.ne_of_lt (Nat.lt_of_lt_of_le (by have := World.block_lt_of_cell? _ _ hw165_0; first | rwa [add_block] at this | exact this) GW168.out))) _).trans (((cell_far (p := ⟨gb168, _, none⟩) (by first | exact Nat.ne_of_lt (Nat.lt_of_lt_of_le (by have := World.block_lt_of_cell? _ _ hw165_0; first | rwa [add_block] at this | exact this) GW168.out) | (rw [add_block]; exact Nat.ne_of_lt (Nat.lt_of_lt_of_le (by have := World.block_lt_of_cell? _ _ hw165_0; first | rwa [add_block] at this | exact this) GW168.out)) | (show (Addr.add _ _).block ≠ _; rw [add_block]; exact Nat.ne_of_lt (Nat.lt_of_lt_of_le (by have := World.block_lt_of_cell? _ _ hw165_0; first | rwa [add_block] at this | exact this) GW168.out)) | (dsimp only; exact Nat.ne_of_lt (Nat.lt_of_lt_of_le (by have := World.block_lt_of_cell? _ _ hw165_0; first | rwa [add_block] at this | exact this) GW168.out))) _).trans (hHeld.1)))))))), ((cell_far (p := ⟨gb168, _, none⟩) (by first | exact Nat.ne_of_lt (Nat.lt_of_lt_of_le (by have := World.block_lt_of_cell? _ _ hw165_1; first | rwa [add_block] at this | exact this) GW168.out) | (rw [add_block]; exact Nat.ne_of_lt (Nat.lt_of_lt_of_le (by have := World.block_lt_of_cell? _ _ hw165_1; first | rwa [add_block] at this | exact this) GW168.out)) | (show (Addr.add _ _).block ≠ _; rw [add_block]; exact Nat.ne_of_lt (Nat.lt_of_lt_of_le (by have := World.block_lt_of_cell? _ _ hw165_1; first | rwa [add_block] at this | exact this) GW168.out)) | (dsimp only; exact Nat.ne_of_lt (Nat.lt_of_lt_of_le (by have := World.block_lt_of_cell? _ _ hw165_1; first | rwa [add_block] at this | exact this) GW168.out))) _).trans (((cell_far (p := ⟨gb168, _, none⟩) (by first | exact Nat.ne_of_lt (Nat.lt_of_lt_of_le (by have := World.block_lt_of_cell? _ _ hw165_1; first | rwa [add_block] at this | exact this) GW168.out) | (rw [add_block]; exact Nat.ne_of_lt (Nat.lt_of_lt_of_le (by have := World.block_lt_of_cell? _ _ hw165_1; first | rwa [add_block] at this | exact this) GW168.out)) | (show (Addr.add _ _).block ≠ _; rw [add_block]; exact Nat.ne_of_lt (Nat.lt_of_lt_of_le (by have := World.block_lt_of_cell? _ _ hw165_1; first | rwa [add_block] at this | exact this) GW168.out)) | (dsimp only; exact Nat.ne_of_lt (Nat.lt_of_lt_of_le (by have := World.block_lt_of_cell? _ _ hw165_1; first | rwa [add_block] at this | exact this) GW168.out))) _).trans (((cell_far (p := ⟨gb168, _, none⟩) (by first | exact Nat.ne_of_lt (Nat.lt_of_lt_of_le (by have := World.block_lt_of_cell? _ _ hw165_1; first | rwa [add_block] at this | exact this) GW168.out) | (rw [add_block]; exact Nat.ne_of_lt (Nat.lt_of_lt_of_le (by have := World.block_lt_of_cell? _ _ hw165_1; first | rwa [add_block] at this | exact this) GW168.out)) | (show (Addr.add _ _).block ≠ _; rw [add_block]; exact Nat.ne_of_lt (Nat.lt_of_lt_of_le (by have := World.block_lt_of_cell? _ _ hw165_1; first | rwa [add_block] at this | exact this) GW168.out)) | (dsimp only; exact Nat.ne_of_lt (Nat.lt_of_lt_of_le (by have := World.block_lt_of_cell? _ _ hw165_1; first | rwa [add_block] at this | exact this) GW168.out))) _).trans (((cell_far (p := ⟨gb168, _, none⟩) (by first | exact Nat.ne_of_lt (Nat.lt_of_lt_of_le (by have := World.block_lt_of_cell? _ _ hw165_1; first | rwa [add_block] at this | exact this) GW168.out) | (rw [add_block]; exact Nat.ne_of_lt (Nat.lt_of_lt_of_le (by have := World.block_lt_of_cell? _ _ hw165_1; first | rwa [add_block] at this | exact this) GW168.out)) | (show (Addr.add _ _).block ≠ _; rw [add_block]; exact Nat.ne_of_lt (Nat.lt_of_lt_of_le (by have := World.block_lt_of_cell? _ _ hw165_1; first | rwa [add_block] at this | exact this) GW168.out)) | (dsimp only; exact Nat.ne_of_lt (Nat.lt_of_lt_of_le (by have := World.block_lt_of_cell? _ _ hw165_1; first | rwa [add_block] at this | exact this) GW168.out))) _).trans (hHeld.2.1)))))))), ((cell_far (p := ⟨gb168, _, none⟩) (by first | exact Nat.ne_of_lt (Nat.lt_of_lt_of_le (by have := World.block_lt_of_cell? _ _ hw165_2; first | rwa [add_block] at this | exact this) GW168.out) | (rw [add_block]; exact Nat.ne_of_lt (Nat.lt_of_lt_of_le (by have := World.block_lt_of_cell? _ _ hw165_2; first | rwa [add_block] at this | exact this) GW168.out)) | (show (Addr.add _ _).block ≠ _; rw [add_block]; exact Nat.ne_of_lt (Nat.lt_of_lt_of_le (by have := World.block_lt_of_cell? _ _ hw165_2; first | rwa [add_block] at this | exact this) GW168.out)) | (dsimp only; exact Nat.ne_of_lt (Nat.lt_of_lt_of_le (by have := World.block_lt_of_cell? _ _ hw165_2; first | rwa [add_block] at this | exact this) GW168.out))) _).trans (((cell_far (p := ⟨gb168, _, none⟩) (by first | exact Nat.ne_of_lt (Nat.lt_of_lt_of_le (by have := World.block_lt_of_cell? _ _ hw165_2; first | rwa [add_block] at this | exact this) GW168.out) | (rw [add_block]; exact Nat.ne_of_lt (Nat.lt_of_lt_of_le (by have := World.block_lt_of_cell? _ _ hw165_2; first | rwa [add_block] at this | exact this) GW168.out)) | (show (Addr.add _ _).block ≠ _; rw [add_block]; exact Nat.ne_of_lt (Nat.lt_of_lt_of_le (by have := World.block_lt_of_cell? _ _ hw165_2; first | rwa [add_block] at this | exact this) GW168.out)) | (dsimp only; exact Nat.ne_of_lt (Nat.lt_of_lt_of_le (by have := World.block_lt_of_cell? _ _ hw165_2; first | rwa [add_block] at this | exact this) GW168.out))) _).trans (((cell_far (p := ⟨gb168, _, none⟩) (by first | exact Nat.ne_of_lt (Nat.lt_of_lt_of_le (by have := World.block_lt_of_cell? _ _ hw165_2; first | rwa [add_block] at this | exact this) GW168.out) | (rw [add_block]; exact Nat.ne_of_lt (Nat.lt_of_lt_of_le (by have := World.block_lt_of_cell? _ _ hw165_2; first | rwa [add_block] at this | exact this) GW168.out)) | (show (Addr.add _ _).block ≠ _; rw [add_block]; exact Nat.ne_of_lt (Nat.lt_of_lt_of_le (by have := World.block_lt_of_cell? _ _ hw165_2; first | rwa [add_block] at this | exact this) GW168.out)) | (dsimp only; exact Nat.ne_of_lt (Nat.lt_of_lt_of_le (by have := World.block_lt_of_cell? _ _ hw165_2; first | rwa [add_block] at this | exact this) GW168.out))) _).trans (((cell_far (p := ⟨gb168, _, none⟩) (by first | exact Nat.ne_of_lt (Nat.lt_of_lt_of_le (by have := World.block_lt_of_cell? _ _ hw165_2; first | rwa [add_block] at this | exact this) GW168.out) | (rw [add_block]; exact Nat.ne_of_lt (Nat.lt_of_lt_of_le (by have := World.block_lt_of_cell? _ _ hw165_2; first | rwa [add_block] at this | exact this) GW168.out)) | (show (Addr.add _ _).block ≠ _; rw [add_block]; exact Nat.ne_of_lt (Nat.lt_of_lt_of_le (by have := World.block_lt_of_cell? _ _ hw165_2; first | rwa [add_block] at this | exact this) GW168.out)) | (dsimp only; exact Nat.ne_of_lt (Nat.lt_of_lt_of_le (by have := World.block_lt_of_cell? _ _ hw165_2; first | rwa [add_block] at this | exact this) GW168.out))) _).trans (hHeld.2.2.1)))))))), ((cell_far (p := ⟨gb168, _, none⟩) (by first | exact Nat.ne_of_lt (Nat.lt_of_lt_of_le (by have := World.block_lt_of_cell? _ _ hw165_3; first | rwa [add_block] at this | exact this) GW168.out) | (rw [add_block]; exact Nat.ne_of_lt (Nat.lt_of_lt_of_le (by have := World.block_lt_of_cell? _ _ hw165_3; first | rwa [add_block] at this | exact this) GW168.out)) | (show (Addr.add _ _).block ≠ _; rw [add_block]; exact Nat.ne_of_lt (Nat.lt_of_lt_of_le (by have := World.block_lt_of_cell? _ _ hw165_3; first | rwa [add_block] at this | exact this) GW168.out)) | (dsimp only; exact Nat.ne_of_lt (Nat.lt_of_lt_of_le (by have := World.block_lt_of_cell? _ _ hw165_3; first | rwa [add_block] at this | exact this) GW168.out))) _).trans (((cell_far (p := ⟨gb168, _, none⟩) (by first | exact Nat.ne_of_lt (Nat.lt_of_lt_of_le (by have := World.block_lt_of_cell? _ _ hw165_3; first | rwa [add_block] at this | exact this) GW168.out) | (rw [add_block]; exact Nat.ne_of_lt (Nat.lt_of_lt_of_le (by have := World.block_lt_of_cell? _ _ hw165_3; first | rwa [add_block] at this | exact this) GW168.out)) | (show (Addr.add _ _).block ≠ _; rw [add_block]; exact Nat.ne_of_lt (Nat.lt_of_lt_of_le (by have := World.block_lt_of_cell? _ _ hw165_3; first | rwa [add_block] at this | exact this) GW168.out)) | (dsimp only; exact Nat.ne_of_lt (Nat.lt_of_lt_of_le (by have := World.block_lt_of_cell? _ _ hw165_3; first | rwa [add_block] at this | exact this) GW168.out))) _).trans (((cell_far (p := ⟨gb168, _, none⟩) (by first | exact Nat.ne_of_lt (Nat.lt_of_lt_of_le (by have := World.block_lt_of_cell? _ _ hw165_3; first | rwa [add_block] at this | exact this) GW168.out) | (rw [add_block]; exact Nat.ne_of_lt (Nat.lt_of_lt_of_le (by have := World.block_lt_of_cell? _ _ hw165_3; first | rwa [add_block] at this | exact this) GW168.out)) | (show (Addr.add _ _).block ≠ _; rw [add_block]; exact Nat.ne_of_lt (Nat.lt_of_lt_of_le (by have := World.block_lt_of_cell? _ _ hw165_3; first | rwa [add_block] at this | exact this) GW168.out)) | (dsimp only; exact Nat.ne_of_lt (Nat.lt_of_lt_of_le (by have := World.block_lt_of_cell? _ _ hw165_3; first | rwa [add_block] at this | exact this) GW168.out))) _).trans (((cell_far (p := ⟨gb168, _, none⟩) (by first | exact Nat.ne_of_lt (Nat.lt_of_lt_of_le (by have := World.block_lt_of_cell? _ _ hw165_3; first | rwa [add_block] at this | exact this) GW168.out) | (rw [add_block]; exact Nat.ne_of_lt (Nat.lt_of_lt_of_le (by have := World.block_lt_of_cell? _ _ hw165_3; first | rwa [add_block] at this | exact this) GW168.out)) | (show (Addr.add _ _).block ≠ _; rw [add_block]; exact Nat.ne_of_lt (Nat.lt_of_lt_of_le (by have := World.block_lt_of_cell? _ _ hw165_3; first | rwa [add_block] at this | exact this) GW168.out)) | (dsimp only; exact Nat.ne_of_lt (Nat.lt_of_lt_of_le (by have := World.block_lt_of_cell? _ _ hw165_3; first | rwa [add_block] at this | exact this) GW168.out))) _).trans (hHeld.2.2.2.1)))))))), ((cell_far (p := ⟨gb168, _, none⟩) (by first | exact Nat.ne_of_lt (Nat.lt_of_lt_of_le (by have := World.block_lt_of_cell? _ _ hw166_0; first | rwa [add_block] at this | exact this) GW168.out) | (rw [add_block]; exact Nat.ne_of_lt (Nat.lt_of_lt_of_le (by have := World.block_lt_of_cell? _ _ hw166_0; first | rwa [add_block] at this | exact this) GW168.out)) | (show (Addr.add _ _).block ≠ _; rw [add_block]; exact Nat.ne_of_lt (Nat.lt_of_lt_of_le (by have := World.block_lt_of_cell? _ _ hw166_0; first | rwa [add_block] at this | exact this) GW168.out)) | (dsimp only; exact Nat.ne_of_lt (Nat.lt_of_lt_of_le (by have := World.block_lt_of_cell? _ _ hw166_0; first | rwa [add_block] at this | exact this) GW168.out))) _).trans (((cell_far (p := ⟨gb168, _, none⟩) (by first | exact Nat.ne_of_lt (Nat.lt_of_lt_of_le (by have := World.block_lt_of_cell? _ _ hw166_0; first | rwa [add_block] at this | exact this) GW168.out) | (rw [add_block]; exact Nat.ne_of_lt (Nat.lt_of_lt_of_le (by have := World.block_lt_of_cell? _ _ hw166_0; first | rwa [add_block] at this | exact this) GW168.out)) | (show (Addr.add _ _).block ≠ _; rw [add_block]; exact Nat.ne_of_lt (Nat.lt_of_lt_of_le (by have := World.block_lt_of_cell? _ _ hw166_0; first | rwa [add_block] at this | exact this) GW168.out)) | (dsimp only; exact Nat.ne_of_lt (Nat.lt_of_lt_of_le (by have := World.block_lt_of_cell? _ _ hw166_0; first | rwa [add_block] at this | exact this) GW168.out))) _).trans (((cell_far (p := ⟨gb168, _, none⟩) (by first | exact Nat.ne_of_lt (Nat.lt_of_lt_of_le (by have := World.block_lt_of_cell? _ _ hw166_0; first | rwa [add_block] at this | exact this) GW168.out) | (rw [add_block]; exact Nat.ne_of_lt (Nat.lt_of_lt_of_le (by have := World.block_lt_of_cell? _ _ hw166_0; first | rwa [add_block] at this | exact this) GW168.out)) | (show (Addr.add _ _).block ≠ _; rw [add_block]; exact Nat.ne_of_lt (Nat.lt_of_lt_of_le (by have := World.block_lt_of_cell? _ _ hw166_0; first | rwa [add_block] at this | exact this) GW168.out)) | (dsimp only; exact Nat.ne_of_lt (Nat.lt_of_lt_of_le (by have := World.block_lt_of_cell? _ _ hw166_0; first | rwa [add_block] at this | exact this) GW168.out))) _).trans (((cell_far (p := ⟨gb168, _, none⟩) (by first | exact Nat.ne_of_lt (Nat.lt_of_lt_of_le (by have := World.block_lt_of_cell? _ _ hw166_0; first | rwa [add_block] at this | exact this) GW168.out) | (rw [add_block]; exact Nat.ne_of_lt (Nat.lt_of_lt_of_le (by have := World.block_lt_of_cell? _ _ hw166_0; first | rwa [add_block] at this | exact this) GW168.out)) | (show (Addr.add _ _).block ≠ _; rw [add_block]; exact Nat.ne_of_lt (Nat.lt_of_lt_of_le (by have := World.block_lt_of_cell? _ _ hw166_0; first | rwa [add_block] at this | exact this) GW168.out)) | (dsimp only; exact Nat.ne_of_lt (Nat.lt_of_lt_of_le (by have := World.block_lt_of_cell? _ _ hw166_0; first | rwa [add_block] at this | exact this) GW168.out))) _).trans (hHeld.2.2.2.2.1)))))))), ((cell_far (p := ⟨gb168, _, none⟩) (by first | exact Nat.ne_of_lt (Nat.lt_of_lt_of_le (by have := World.block_lt_of_cell? _ _ hw166_1; first | rwa [add_block] at this | exact this) GW168.out) | (rw [add_block]; exact Nat.ne_of_lt (Nat.lt_of_lt_of_le (by have := World.block_lt_of_cell? _ _ hw166_1; first | rwa [add_block] at this | exact this) GW168.out)) | (show (Addr.add _ _).block ≠ _; rw [add_block]; exact Nat.ne_of_lt (Nat.lt_of_lt_of_le (by have := World.block_lt_of_cell? _ _ hw166_1; first | rwa [add_block] at this | exact this) GW168.out)) | (dsimp only; exact Nat.ne_of_lt (Nat.lt_of_lt_of_le (by have := World.block_lt_of_cell? _ _ hw166_1; first | rwa [add_block] at this | exact this) GW168.out))) _).trans (((cell_far (p := ⟨gb168, _, none⟩) (by first | exact Nat.ne_of_lt (Nat.lt_of_lt_of_le (by have := World.block_lt_of_cell? _ _ hw166_1; first | rwa [add_block] at this | exact this) GW168.out) | (rw [add_block]; exact Nat.ne_of_lt (Nat.lt_of_lt_of_le (by have := World.block_lt_of_cell? _ _ hw166_1; first | rwa [add_block] at this | exact this) GW168.out)) | (show (Addr.add _ _).block ≠ _; rw [add_block]; exact Nat.ne_of_lt (Nat.lt_of_lt_of_le (by have := World.block_lt_of_cell? _ _ hw166_1; first | rwa [add_block] at this | exact this) GW168.out)) | (dsimp only; exact Nat.ne_of_lt (Nat.lt_of_lt_of_le (by have := World.block_lt_of_cell? _ _ hw166_1; first | rwa [add_block] at this | exact this) GW168.out))) _).trans (((cell_far (p := ⟨gb168, _, none⟩) (by first | exact Nat.ne_of_lt (Nat.lt_of_lt_of_le (by have := World.block_lt_of_cell? _ _ hw166_1; first | rwa [add_block] at this | exact this) GW168.out) | (rw [add_block]; exact Nat.ne_of_lt (Nat.lt_of_lt_of_le (by have := World.block_lt_of_cell? _ _ hw166_1; first | rwa [add_block] at this | exact this) GW168.out)) | (show (Addr.add _ _).block ≠ _; rw [add_block]; exact Nat.ne_of_lt (Nat.lt_of_lt_of_le (by have := World.block_lt_of_cell? _ _ hw166_1; first | rwa [add_block] at this | exact this) GW168.out)) | (dsimp only; exact Nat.ne_of_lt (Nat.lt_of_lt_of_le (by have := World.block_lt_of_cell? _ _ hw166_1; first | rwa [add_block] at this | exact this) GW168.out))) _).trans (((cell_far (p := ⟨gb168, _, none⟩) (by first | exact Nat.ne_of_lt (Nat.lt_of_lt_of_le (by have := World.block_lt_of_cell? _ _ hw166_1; first | rwa [add_block] at this | exact this) GW168.out) | (rw [add_block]; exact Nat.ne_of_lt (Nat.lt_of_lt_of_le (by have := World.block_lt_of_cell? _ _ hw166_1; first | rwa [add_block] at this | exact this) GW168.out)) | (show (Addr.add _ _).block ≠ _; rw [add_block]; exact Nat.ne_of_lt (Nat.lt_of_lt_of_le (by have := World.block_lt_of_cell? _ _ hw166_1; first | rwa [add_block] at this | exact this) GW168.out)) | (dsimp only; exact Nat.ne_of_lt (Nat.lt_of_lt_of_le (by have := World.block_lt_of_cell? _ _ hw166_1; first | rwa [add_block] at this | exact this) GW168.out))) _).trans (hHeld.2.2.2.2.2.1)))))))), ((cell_far (p := ⟨gb168, _, none⟩) (by first | exact Nat.ne_of_lt (Nat.lt_of_lt_of_le (by have := World.block_lt_of_cell? _ _ hw166_2; first | rwa [add_block] at this | exact this) GW168.out) | (rw [add_block]; exact Nat.ne_of_lt (Nat.lt_of_lt_of_le (by have := World.block_lt_of_cell? _ _ hw166_2; first | rwa [add_block] at this | exact this) GW168.out)) | (show (Addr.add _ _).block ≠ _; rw [add_block]; exact Nat.ne_of_lt (Nat.lt_of_lt_of_le (by have := World.block_lt_of_cell? _ _ hw166_2; first | rwa [add_block] at this | exact this) GW168.out)) | (dsimp only; exact Nat.ne_of_lt (Nat.lt_of_lt_of_le (by have := World.block_lt_of_cell? _ _ hw166_2; first | rwa [add_block] at this | exact this) GW168.out))) _).trans (((cell_far (p := ⟨gb168, _, none⟩) (by first | exact Nat.ne_of_lt (Nat.lt_of_lt_of_le (by have := World.block_lt_of_cell? _ _ hw166_2; first | rwa [add_block] at this | exact this) GW168.out) | (rw [add_block]; exact Nat.ne_of_lt (Nat.lt_of_lt_of_le (by have := World.block_lt_of_cell? _ _ hw166_2; first | rwa [add_block] at this | exact this) GW168.out)) | (show (Addr.add _ _).block ≠ _; rw [add_block]; exact Nat.ne_of_lt (Nat.lt_of_lt_of_le (by have := World.block_lt_of_cell? _ _ hw166_2; first | rwa [add_block] at this | exact this) GW168.out)) | (dsimp only; exact Nat.ne_of_lt (Nat.lt_of_lt_of_le (by have := World.block_lt_of_cell? _ _ hw166_2; first | rwa [add_block] at this | exact this) GW168.out))) _).trans (((cell_far (p := ⟨gb168, _, none⟩) (by first | exact Nat.ne_of_lt (Nat.lt_of_lt_of_le (by have := World.block_lt_of_cell? _ _ hw166_2; first | rwa [add_block] at this | exact this) GW168.out) | (rw [add_block]; exact Nat.ne_of_lt (Nat.lt_of_lt_of_le (by have := World.block_lt_of_cell? _ _ hw166_2; first | rwa [add_block] at this | exact this) GW168.out)) | (show (Addr.add _ _).block ≠ _; rw [add_block]; exact Nat.ne_of_lt (Nat.lt_of_lt_of_le (by have := World.block_lt_of_cell? _ _ hw166_2; first | rwa [add_block] at this | exact this) GW168.out)) | (dsimp only; exact Nat.ne_of_lt (Nat.lt_of_lt_of_le (by have := World.block_lt_of_cell? _ _ hw166_2; first | rwa [add_block] at this | exact this) GW168.out))) _).trans (((cell_far (p := ⟨gb168, _, none⟩) (by first | exact Nat.ne_of_lt (Nat.lt_of_lt_of_le (by have := World.block_lt_of_cell? _ _ hw166_2; first | rwa [add_block] at this | exact this) GW168.out) | (rw [add_block]; exact Nat.ne_of_lt (Nat.lt_of_lt_of_le (by have := World.block_lt_of_cell? _ _ hw166_2; first | rwa [add_block] at this | exact this) GW168.out)) | (show (Addr.add _ _).block ≠ _; rw [add_block]; exact Nat.ne_of_lt (Nat.lt_of_lt_of_le (by have := World.block_lt_of_cell? _ _ hw166_2; first | rwa [add_block] at this | exact this) GW168.out)) | (dsimp only; exact Nat.ne_of_lt (Nat.lt_of_lt_of_le (by have := World.block_lt_of_cell? _ _ hw166_2; first | rwa [add_block] at this | exact this) GW168.out))) _).trans (hHeld.2.2.2.2.2.2.1)))))))), ((cell_far (p := ⟨gb168, _, none⟩) (by first | exact Nat.ne_of_lt (Nat.lt_of_lt_of_le (by have := World.block_lt_of_cell? _ _ hw166_3; first | rwa [add_block] at this | exact this) GW168.out) | (rw [add_block]; exact Nat.ne_of_lt (Nat.lt_of_lt_of_le (by have := World.block_lt_of_cell? _ _ hw166_3; first | rwa [add_block] at this | exact this) GW168.out)) | (show (Addr.add _ _).block ≠ _; rw [add_block]; exact Nat.ne_of_lt (Nat.lt_of_lt_of_le (by have := World.block_lt_of_cell? _ _ hw166_3; first | rwa [add_block] at this | exact this) GW168.out)) | (dsimp only; exact Nat.ne_of_lt (Nat.lt_of_lt_of_le (by have := World.block_lt_of_cell? _ _ hw166_3; first | rwa [add_block] at this | exact this) GW168.out))) _).trans (((cell_far (p := ⟨gb168, _, none⟩) (by first | exact Nat.ne_of_lt (Nat.lt_of_lt_of_le (by have := World.block_lt_of_cell? _ _ hw166_3; first | rwa [add_block] at this | exact this) GW168.out) | (rw [add_block]; exact Nat.ne_of_lt (Nat.lt_of_lt_of_le (by have := World.block_lt_of_cell? _ _ hw166_3; first | rwa [add_block] at this | exact this) GW168.out)) | (show (Addr.add _ _).block ≠ _; rw [add_block]; exact Nat.ne_of_lt (Nat.lt_of_lt_of_le (by have := World.block_lt_of_cell? _ _ hw166_3; first | rwa [add_block] at this | exact this) GW168.out)) | (dsimp only; exact Nat.ne_of_lt (Nat.lt_of_lt_of_le (by have := World.block_lt_of_cell? _ _ hw166_3; first | rwa [add_block] at this | exact this) GW168.out))) _).trans (((cell_far (p := ⟨gb168, _, none⟩) (by first | exact Nat.ne_of_lt (Nat.lt_of_lt_of_le (by have := World.block_lt_of_cell? _ _ hw166_3; first | rwa [add_block] at this | exact this) GW168.out) | (rw [add_block]; exact Nat.ne_of_lt (Nat.lt_of_lt_of_le (by have := World.block_lt_of_cell? _ _ hw166_3; first | rwa [add_block] at this | exact this) GW168.out)) | (show (Addr.add _ _).block ≠ _; rw [add_block]; exact Nat.ne_of_lt (Nat.lt_of_lt_of_le (by have := World.block_lt_of_cell? _ _ hw166_3; first | rwa [add_block] at this | exact this) GW168.out)) | (dsimp only; exact Nat.ne_of_lt (Nat.lt_of_lt_of_le (by have := World.block_lt_of_cell? _ _ hw166_3; first | rwa [add_block] at this | exact this) GW168.out))) _).trans (((cell_far (p := ⟨gb168, _, none⟩) (by first | exact Nat.ne_of_lt (Nat.lt_of_lt_of_le (by have := World.block_lt_of_cell? _ _ hw166_3; first | rwa [add_block] at this | exact this) GW168.out) | (rw [add_block]; exact Nat.ne_of_lt (Nat.lt_of_lt_of_le (by have := World.block_lt_of_cell? _ _ hw166_3; first | rwa [add_block] at this | exact this) GW168.out)) | (show (Addr.add _ _).block ≠ _; rw [add_block]; exact Nat.ne_of_lt (Nat.lt_of_lt_of_le (by have := World.block_lt_of_cell? _ _ hw166_3; first | rwa [add_block] at this | exact this) GW168.out)) | (dsimp only; exact Nat.ne_of_lt (Nat.lt_of_lt_of_le (by have := World.block_lt_of_cell? _ _ hw166_3; first | rwa [add_block] at this | exact this) GW168.out))) _).trans (hHeld.2.2.2.2.2.2.2))))))))⟩ (fun hHeld => ?_)
           clear hK K
           refine done_ (done_of HT_.out (by kernel_rfl)) ?_
           have hnbzc1 := NB167_164.out
           have hnczc1 := NB164_167.out
           have hnbzc2 := NB167_168.out
           have hnczc2 := NB168_167.out
           have hczzc1 : wzc4.cell? ⟨gb167, 0, none⟩ = some (.int .i64 0) := (blk_cell BK167.out 0).trans rfl
           have hczzc2 : wzc4.cell? ⟨gb167, 1, none⟩ = some (.int .i64 0) := (blk_cell BK167.out 1).trans rfl
           have hczzc3 : wzc4.cell? ⟨gb167, 2, none⟩ = some (.int .i64 0) := (blk_cell BK167.out 2).trans rfl
           have hczzc4 : wzc4.cell? ⟨gb167, 3, none⟩ = some (.int .i64 0) := (blk_cell BK167.out 3).trans rfl
           have hfzzc1 := blk_frozen BK167.out 0
           have hfzzc2 := blk_frozen BK167.out 1
           have hfzzc3 := blk_frozen BK167.out 2
           have hfzzc4 := blk_frozen BK167.out 3
           first
            | clear hm4_0
              try go_wp2
              go_roundg k1
              case measure => have := HK1.out; omega
              case rel => exact ⟨(wrap64 (x7_1 + 1)), (by first | rfl | (simp; done) | (simp [*]; done)), H', ⟨by have := HK1.out; omega⟩, ⟨by (with_reducible repeat (first | refine blk_drewN ?_ _ | refine blk_drew ?_ | refine blk_alloc ?_ _)); refine blk_far ?_ NB164_168.out _; (with_reducible repeat (first | refine blk_drewN ?_ _ | refine blk_drew ?_ | refine blk_alloc ?_ _)); refine blk_far ?_ NB164_168.out _; (with_reducible repeat (first | refine blk_drewN ?_ _ | refine blk_drew ?_ | refine blk_alloc ?_ _)); refine blk_far ?_ NB164_168.out _; (with_reducible repeat (first | refine blk_drewN ?_ _ | refine blk_drew ?_ | refine blk_alloc ?_ _)); refine blk_far ?_ NB164_168.out _; (with_reducible repeat (first | refine blk_drewN ?_ _ | refine blk_drew ?_ | refine blk_alloc ?_ _)); refine blk_far ?_ NB164_167.out _; (with_reducible repeat (first | refine blk_drewN ?_ _ | refine blk_drew ?_ | refine blk_alloc ?_ _)); refine blk_far ?_ NB164_167.out _; (with_reducible repeat (first | refine blk_drewN ?_ _ | refine blk_drew ?_ | refine blk_alloc ?_ _)); refine blk_far ?_ NB164_167.out _; (with_reducible repeat (first | refine blk_drewN ?_ _ | refine blk_drew ?_ | refine blk_alloc ?_ _)); refine blk_far ?_ NB164_167.out _; (with_reducible repeat (first | refine blk_drewN ?_ _ | refine blk_drew ?_ | refine blk_alloc ?_ _)); exact BK164.out⟩, ⟨by repeat (first | (with_reducible first | exact HB.out | apply below_alloc | apply pw_below_drewN | apply below_drew1 | refine below_set ?_ GE164.out | refine below_set ?_ GE167.out | refine below_set ?_ GE168.out) | exact HB.out)⟩⟩
            | clear hm4_1
              have hnbzc3 := NB168_164.out
              have hnczc3 := NB164_168.out
              have hczzc5 : wzc4.cell? ⟨gb168, 0, none⟩ = some (.int .i64 0) := (blk_cell BK168.out 0).trans rfl
              have hczzc6 : wzc4.cell? ⟨gb168, 1, none⟩ = some (.int .i64 0) := (blk_cell BK168.out 1).trans rfl
              have hczzc7 : wzc4.cell? ⟨gb168, 2, none⟩ = some (.int .i64 0) := (blk_cell BK168.out 2).trans rfl
              have hczzc8 : wzc4.cell? ⟨gb168, 3, none⟩ = some (.int .i64 0) := (blk_cell BK168.out 3).trans rfl
              have hfzzc5 := blk_frozen BK168.out 0
              have hfzzc6 := blk_frozen BK168.out 1
              have hfzzc7 := blk_frozen BK168.out 2
              have hfzzc8 := blk_frozen BK168.out 3
              try go_wp2
              go_roundg k1
              case measure => have := HK1.out; omega
              case rel => exact ⟨(wrap64 (x7_1 + 1)), (by first | rfl | (simp; done) | (simp [*]; done)), H', ⟨by have := HK1.out; omega⟩, ⟨by (with_reducible repeat (first | refine blk_drewN ?_ _ | refine blk_drew ?_ | refine blk_alloc ?_ _)); refine blk_far ?_ NB164_168.out _; (with_reducible repeat (first | refine blk_drewN ?_ _ | refine blk_drew ?_ | refine blk_alloc ?_ _)); refine blk_far ?_ NB164_168.out _; (with_reducible repeat (first | refine blk_drewN ?_ _ | refine blk_drew ?_ | refine blk_alloc ?_ _)); refine blk_far ?_ NB164_168.out _; (with_reducible repeat (first | refine blk_drewN ?_ _ | refine blk_drew ?_ | refine blk_alloc ?_ _)); refine blk_far ?_ NB164_168.out _; (with_reducible repeat (first | refine blk_drewN ?_ _ | refine blk_drew ?_ | refine blk_alloc ?_ _)); refine blk_far ?_ NB164_167.out _; (with_reducible repeat (first | refine blk_drewN ?_ _ | refine blk_drew ?_ | refine blk_alloc ?_ _)); refine blk_far ?_ NB164_167.out _; (with_reducible repeat (first | refine blk_drewN ?_ _ | refine blk_drew ?_ | refine blk_alloc ?_ _)); refine blk_far ?_ NB164_167.out _; (with_reducible repeat (first | refine blk_drewN ?_ _ | refine blk_drew ?_ | refine blk_alloc ?_ _)); refine blk_far ?_ NB164_167.out _; (with_reducible repeat (first | refine blk_drewN ?_ _ | refine blk_drew ?_ | refine blk_alloc ?_ _)); exact BK164.out⟩, ⟨by repeat (first | (with_reducible first | exact HB.out | apply below_alloc | apply pw_below_drewN | apply below_drew1 | refine below_set ?_ GE164.out | refine below_set ?_ GE167.out | refine below_set ?_ GE168.out) | exact HB.out)⟩⟩
         | (first | (have _hm := hm4_2) | (have _hm := hm4_3) | (have _hm := hm4_4) | (have _hm := hm4_5) | (have _hm := hm4_6))
           obtain rfl := Option.some.inj H
           try go_wp2
           have n0_ := Aside0.mk (blk_drew BK164.out)
           have n1_ := Aside0.mk (below_drew1 HB.out)
           clear BK164
           clear HB
           have BK164 := n0_
           have HB := n1_
           clear n0_ n1_
           first
            | (first | (have _hm := hm4_2) | (have _hm := hm4_3) | (have _hm := hm4_4))
              have p165 : 0 ≤ ((ji12) : Int) := of_decide_eq_true (by first | (with_reducible assumption) | assumption)
              have q165 : (ji12) < (l0.length : Int) := of_decide_eq_true (by first | (with_reducible assumption) | assumption)
              obtain ⟨ad165, e165, hx165_0, hx165_1, hx165_2, hx165_3⟩ := at_T49 HR0.out (ji12) p165 q165
              have hw165_3 := hx165_3
              have hw165_2 := hx165_2
              have hw165_1 := hx165_1
              have hw165_0 := hx165_0
              cases e165
              replace hx165_0 := (HB.out.cell (World.block_lt_of_cell? w _ hx165_0)).trans hx165_0
              replace hx165_1 := (HB.out.cell (World.block_lt_of_cell? w _ hx165_1)).trans hx165_1
              replace hx165_2 := (HB.out.cell (World.block_lt_of_cell? w _ hx165_2)).trans hx165_2
              replace hx165_3 := (HB.out.cell (World.block_lt_of_cell? w _ hx165_3)).trans hx165_3
              replace p165 := eq_true p165
              replace q165 := eq_true q165
              have p166 : 0 ≤ (x7_1 : Int) := of_decide_eq_true (by first | (with_reducible assumption) | assumption)
              have q166 : x7_1 < (l0.length : Int) := of_decide_eq_true (by first | (with_reducible assumption) | assumption)
              obtain ⟨ad166, e166, hx166_0, hx166_1, hx166_2, hx166_3⟩ := at_T49 HR0.out x7_1 p166 q166
              have hw166_3 := hx166_3
              have hw166_2 := hx166_2
              have hw166_1 := hx166_1
              have hw166_0 := hx166_0
              obtain rfl : ad165 = ad166 := (by injection e166)
              replace hx166_0 := (HB.out.cell (World.block_lt_of_cell? w _ hx166_0)).trans hx166_0
              replace hx166_1 := (HB.out.cell (World.block_lt_of_cell? w _ hx166_1)).trans hx166_1
              replace hx166_2 := (HB.out.cell (World.block_lt_of_cell? w _ hx166_2)).trans hx166_2
              replace hx166_3 := (HB.out.cell (World.block_lt_of_cell? w _ hx166_3)).trans hx166_3
              replace p166 := eq_true p166
              replace q166 := eq_true q166
              refine start_ (n := 13) (S := fun w' => w'.cell? (ad165.add (((ji12)).toNat * 4)) = some (.int .i64 ((rd_T49 l0 (ji12)).f0)) ∧ w'.cell? ⟨(ad165.add (((ji12)).toNat * 4)).block, (ad165.add (((ji12)).toNat * 4)).off + 1, none⟩ = some (.int .i64 ((rd_T49 l0 (ji12)).f1.f0)) ∧ w'.cell? ⟨(ad165.add (((ji12)).toNat * 4)).block, (ad165.add (((ji12)).toNat * 4)).off + 2, none⟩ = some (.int .i64 ((rd_T49 l0 (ji12)).f1.f1)) ∧ w'.cell? ⟨(ad165.add (((ji12)).toNat * 4)).block, (ad165.add (((ji12)).toNat * 4)).off + 3, none⟩ = some (.int .i64 ((rd_T49 l0 (ji12)).f2)) ∧ w'.cell? (ad165.add ((x7_1).toNat * 4)) = some (.int .i64 ((rd_T49 l0 x7_1).f0)) ∧ w'.cell? ⟨(ad165.add ((x7_1).toNat * 4)).block, (ad165.add ((x7_1).toNat * 4)).off + 1, none⟩ = some (.int .i64 ((rd_T49 l0 x7_1).f1.f0)) ∧ w'.cell? ⟨(ad165.add ((x7_1).toNat * 4)).block, (ad165.add ((x7_1).toNat * 4)).off + 2, none⟩ = some (.int .i64 ((rd_T49 l0 x7_1).f1.f1)) ∧ w'.cell? ⟨(ad165.add ((x7_1).toNat * 4)).block, (ad165.add ((x7_1).toNat * 4)).off + 3, none⟩ = some (.int .i64 ((rd_T49 l0 x7_1).f2))) (ds := []) #[false, false, false, false, false, false, false, false, false, false, false, false, false] (by kernel_rfl) rfl rfl ⟨((HB.out.cell (World.block_lt_of_cell? w _ hw165_0)).trans hw165_0), ((HB.out.cell (World.block_lt_of_cell? w _ hw165_1)).trans hw165_1), ((HB.out.cell (World.block_lt_of_cell? w _ hw165_2)).trans hw165_2), ((HB.out.cell (World.block_lt_of_cell? w _ hw165_3)).trans hw165_3), ((HB.out.cell (World.block_lt_of_cell? w _ hw166_0)).trans hw166_0), ((HB.out.cell (World.block_lt_of_cell? w _ hw166_1)).trans hw166_1), ((HB.out.cell (World.block_lt_of_cell? w _ hw166_2)).trans hw166_2), ((HB.out.cell (World.block_lt_of_cell? w _ hw166_3)).trans hw166_3)⟩ (fun hHeld => ?_); refine with_tabW skywaykeep1_FlyBetween.tab9 skywaykeep1_FlyBetween.bits9 (fun HT_ HW_ => ?_)
              generalize wr.drew = wzc1 at BK164 HB hx165_0 hx165_1 hx165_2 hx165_3 hx166_0 hx166_1 hx166_2 hx166_3 hHeld ⊢
              refine pure_ (i := 0) (N := some 31) (v := ?_) (a' := ?_) #[true, false, false, false, false, false, false, false, false, false, false, false, false] rfl rfl (any_of HT_.out (by kernel_rfl)) (fun _ _ _ h => h) (Or.inl ⟨by rfl, ?_⟩) ?_ ?_
              rotate_left
              · intro w'
                go_simp
                with_reducible rfl
              rotate_left
              · simp only [Act.put, List.setIfInBounds_toArray, List.set_cons_zero, List.set_cons_succ, i64_w, i32_w]
                rfl
              refine pure_ (i := 1) (N := some 32) (v := ?_) (a' := ?_) #[true, true, false, false, false, false, false, false, false, false, false, false, false] rfl rfl (any_of HT_.out (by kernel_rfl)) (fun _ _ _ h => h) (Or.inl ⟨by rfl, ?_⟩) ?_ ?_
              rotate_left
              · intro w'
                go_simp
                with_reducible rfl
              rotate_left
              · simp only [Act.put, List.setIfInBounds_toArray, List.set_cons_zero, List.set_cons_succ, i64_w, i32_w]
                rfl
              refine pure_ (i := 2) (N := some 33) (v := ?_) (a' := ?_) #[true, true, true, false, false, false, false, false, false, false, false, false, false] rfl rfl (any_of HT_.out (by kernel_rfl)) (fun _ _ _ h => h) (Or.inl ⟨by rfl, ?_⟩) ?_ ?_
              rotate_left
              · intro w'
                go_simp
                with_reducible rfl
              rotate_left
              · simp only [Act.put, List.setIfInBounds_toArray, List.set_cons_zero, List.set_cons_succ, i64_w, i32_w]
                rfl
              refine pure_ (i := 3) (N := some 34) (v := ?_) (a' := ?_) #[true, true, true, true, false, false, false, false, false, false, false, false, false] rfl rfl (any_of HT_.out (by kernel_rfl)) (fun _ _ _ h => h) (Or.inl ⟨by rfl, ?_⟩) ?_ ?_
              rotate_left
              · intro w'
                go_simp
                with_reducible rfl
              rotate_left
              · simp only [Act.put, List.setIfInBounds_toArray, List.set_cons_zero, List.set_cons_succ, i64_w, i32_w]
                rfl
              refine pure_ (i := 5) (N := some 36) (v := ?_) (a' := ?_) #[true, true, true, true, false, true, false, false, false, false, false, false, false] rfl rfl (any_of HT_.out (by kernel_rfl)) (fun _ _ _ h => h) (Or.inl ⟨by rfl, ?_⟩) ?_ ?_
              rotate_left
              · intro w'
                go_simp
                with_reducible rfl
              rotate_left
              · simp only [Act.put, List.setIfInBounds_toArray, List.set_cons_zero, List.set_cons_succ, i64_w, i32_w]
                rfl
              refine pure_ (i := 6) (N := some 37) (v := ?_) (a' := ?_) #[true, true, true, true, false, true, true, false, false, false, false, false, false] rfl rfl (any_of HT_.out (by kernel_rfl)) (fun _ _ _ h => h) (Or.inl ⟨by rfl, ?_⟩) ?_ ?_
              rotate_left
              · intro w'
                go_simp
                with_reducible rfl
              rotate_left
              · simp only [Act.put, List.setIfInBounds_toArray, List.set_cons_zero, List.set_cons_succ, i64_w, i32_w]
                rfl
              refine pure_ (i := 7) (N := some 38) (v := ?_) (a' := ?_) #[true, true, true, true, false, true, true, true, false, false, false, false, false] rfl rfl (any_of HT_.out (by kernel_rfl)) (fun _ _ _ h => h) (Or.inl ⟨by rfl, ?_⟩) ?_ ?_
              rotate_left
              · intro w'
                go_simp
                with_reducible rfl
              rotate_left
              · simp only [Act.put, List.setIfInBounds_toArray, List.set_cons_zero, List.set_cons_succ, i64_w, i32_w]
                rfl
              refine take_ (i := 4) (N := some 35) (v := ?_) (a' := ?_) #[true, true, true, true, true, true, true, true, false, false, false, false, false] rfl rfl (take_ofW HT_.out HW_.out (by kernel_rfl)) (fun _ _ _ h => h) (Or.inl ⟨by rfl, ?_⟩) hHeld ?_ ?_
              rotate_left
              · rintro w' ⟨s0, s1, s2, s3, s4, s5, s6, s7⟩
                go_simp
                with_reducible rfl
              rotate_left
              · simp only [Act.put, List.setIfInBounds_toArray, List.set_cons_zero, List.set_cons_succ, i64_w, i32_w]
                rfl
              refine take_ (i := 8) (N := some 39) (v := ?_) (a' := ?_) #[true, true, true, true, true, true, true, true, true, false, false, false, false] rfl rfl (take_ofW HT_.out HW_.out (by kernel_rfl)) (fun _ _ _ h => h) (Or.inl ⟨by rfl, ?_⟩) hHeld ?_ ?_
              rotate_left
              · rintro w' ⟨s0, s1, s2, s3, s4, s5, s6, s7⟩
                go_simp
                with_reducible rfl
              rotate_left
              · simp only [Act.put, List.setIfInBounds_toArray, List.set_cons_zero, List.set_cons_succ, i64_w, i32_w]
                rfl
              refine join_ (σ := Nat × Nat) 2 #[true, true, true, true, true, true, true, true, true, true, true, false, false] (fun s_ => [(8, .pointer (some ⟨s_.1, 0, none⟩)), (9, .pointer (some ⟨s_.2, 0, none⟩))]) (fun s_ w' => (w'.cell? (ad165.add (((ji12)).toNat * 4)) = some (.int .i64 ((rd_T49 l0 (ji12)).f0)) ∧ w'.cell? ⟨(ad165.add (((ji12)).toNat * 4)).block, (ad165.add (((ji12)).toNat * 4)).off + 1, none⟩ = some (.int .i64 ((rd_T49 l0 (ji12)).f1.f0)) ∧ w'.cell? ⟨(ad165.add (((ji12)).toNat * 4)).block, (ad165.add (((ji12)).toNat * 4)).off + 2, none⟩ = some (.int .i64 ((rd_T49 l0 (ji12)).f1.f1)) ∧ w'.cell? ⟨(ad165.add (((ji12)).toNat * 4)).block, (ad165.add (((ji12)).toNat * 4)).off + 3, none⟩ = some (.int .i64 ((rd_T49 l0 (ji12)).f2)) ∧ w'.cell? (ad165.add ((x7_1).toNat * 4)) = some (.int .i64 ((rd_T49 l0 x7_1).f0)) ∧ w'.cell? ⟨(ad165.add ((x7_1).toNat * 4)).block, (ad165.add ((x7_1).toNat * 4)).off + 1, none⟩ = some (.int .i64 ((rd_T49 l0 x7_1).f1.f0)) ∧ w'.cell? ⟨(ad165.add ((x7_1).toNat * 4)).block, (ad165.add ((x7_1).toNat * 4)).off + 2, none⟩ = some (.int .i64 ((rd_T49 l0 x7_1).f1.f1)) ∧ w'.cell? ⟨(ad165.add ((x7_1).toNat * 4)).block, (ad165.add ((x7_1).toNat * 4)).off + 3, none⟩ = some (.int .i64 ((rd_T49 l0 x7_1).f2))) ∧ (w'.heap[gb164]? = some (.cells #[.int .i64 t159, .int .i64 t160, .int .i64 t161, .int .i64 t162] 49 (0, 0))) ∧ (w'.heap[s_.1]? = some (.cells #[.int .i64 0, .int .i64 0, .int .i64 0, .int .i64 0] 49 (0, 0))) ∧ (w'.heap[s_.2]? = some (.cells #[.int .i64 0, .int .i64 0, .int .i64 0, .int .i64 0] 49 (0, 0))) ∧ (w.heap.size ≤ s_.1) ∧ (w.heap.size ≤ s_.1) ∧ (gb164 ≠ s_.1) ∧ (s_.1 ≠ gb164) ∧ (s_.2 ≠ s_.1) ∧ (s_.1 ≠ s_.2) ∧ (w.heap.size ≤ s_.2) ∧ (w.heap.size ≤ s_.2) ∧ (gb164 ≠ s_.2) ∧ (s_.2 ≠ gb164) ∧ (Below w.heap.size w w')) ?_ ?_
              rotate_left
              · intro hCont
                refine two_ (i := 9) (j := 10) (Ni := some 8) (Nj := some 9) #[true, true, true, true, true, true, true, true, true, true, false, false, false] #[true, true, true, true, true, true, true, true, true, false, true, false, false] rfl rfl rfl rfl (two_of HT_.out (by kernel_rfl)) (by decide) (by decide) (fun K hK => ?_) (fun K hK => ?_)
                · skip
                  refine box_step ?hg (N := 8) ?hd (cs := #[.int .i64 0, .int .i64 0, .int .i64 0, .int .i64 0]) (t := 49) ?hr ?_; (case hd => rfl); (case hg => rfl); (case hr => first | (go_simp; done) | (go_simp; rfl))
                  intro gb167 hg wzc2 hbox hb
                  have n0_ := Aside0.mk (blk_below (g := gb164) (o := .cells #[.int .i64 t159, .int .i64 t160, .int .i64 t161, .int .i64 t162] 49 (0, 0)) (by (with_reducible repeat (first | refine blk_drewN ?_ _ | refine blk_drew ?_ | refine blk_alloc ?_ _)); exact BK164.out) hb)
                  have n1_ := Aside0.mk (below_step (by repeat (first | (with_reducible first | exact HB.out | apply below_alloc | apply pw_below_drewN | apply below_drew1 | refine below_set ?_ GE164.out) | exact HB.out)) hb)
                  have n2_ := Aside0.mk (hbox)
                  have n3_ := Aside0.mk ((by rw [hg]; exact (below_size (by repeat (first | (with_reducible first | exact HB.out | apply below_alloc | apply pw_below_drewN | apply below_drew1 | refine below_set ?_ GE164.out) | exact HB.out))) : w.heap.size ≤ gb167))
                  have n4_ := Aside0.mk ((by rw [hg]; exact (below_size (by repeat (first | (with_reducible first | exact HB.out | apply below_alloc | apply pw_below_drewN | apply below_drew1 | refine below_set ?_ GE164.out) | exact HB.out))) : w.heap.size ≤ gb167))
                  have n5_ := Aside0.mk ((by rw [hg]; exact Nat.ne_of_lt (blk_lt (g := gb164) (o := .cells #[.int .i64 t159, .int .i64 t160, .int .i64 t161, .int .i64 t162] 49 (0, 0)) (by (with_reducible repeat (first | refine blk_drewN ?_ _ | refine blk_drew ?_ | refine blk_alloc ?_ _)); exact BK164.out)) : gb164 ≠ gb167))
                  have n6_ := Aside0.mk ((by rw [hg]; exact Nat.ne_of_gt (blk_lt (g := gb164) (o := .cells #[.int .i64 t159, .int .i64 t160, .int .i64 t161, .int .i64 t162] 49 (0, 0)) (by (with_reducible repeat (first | refine blk_drewN ?_ _ | refine blk_drew ?_ | refine blk_alloc ?_ _)); exact BK164.out)) : gb167 ≠ gb164))
                  clear BK164
                  clear HB
                  have BK164 := n0_
                  have HB := n1_
                  have BK167 := n2_
                  have GW167 := n3_
                  have GE167 := n4_
                  have NB164_167 := n5_
                  have NB167_164 := n6_
                  clear n0_ n1_ n2_ n3_ n4_ n5_ n6_
                  clear hb hbox hg
                  refine hK.out _ _ ⟨((HB.out.cell (World.block_lt_of_cell? w _ hw165_0)).trans hw165_0), ((HB.out.cell (World.block_lt_of_cell? w _ hw165_1)).trans hw165_1), ((HB.out.cell (World.block_lt_of_cell? w _ hw165_2)).trans hw165_2), ((HB.out.cell (World.block_lt_of_cell? w _ hw165_3)).trans hw165_3), ((HB.out.cell (World.block_lt_of_cell? w _ hw166_0)).trans hw166_0), ((HB.out.cell (World.block_lt_of_cell? w _ hw166_1)).trans hw166_1), ((HB.out.cell (World.block_lt_of_cell? w _ hw166_2)).trans hw166_2), ((HB.out.cell (World.block_lt_of_cell? w _ hw166_3)).trans hw166_3)⟩ (fun hHeld => ?_)
                  clear hK K
                  refine norm_ (a' := ?_) ?_ ?_
                  rotate_left
                  · show Act.put _ (some 8) _ = _
                    simp only [Act.put, List.setIfInBounds_toArray, List.set_cons_zero, List.set_cons_succ, i64_w, i32_w]
                    rfl
                  refine one_ (i := 10) (N := some 9) #[true, true, true, true, true, true, true, true, true, true, true, false, false] rfl rfl (one_of HT_.out (by kernel_rfl)) (by decide) (fun K hK => ?_)
                  refine box_step ?hg (N := 9) ?hd (cs := #[.int .i64 0, .int .i64 0, .int .i64 0, .int .i64 0]) (t := 49) ?hr ?_; (case hd => rfl); (case hg => rfl); (case hr => first | (go_simp; done) | (go_simp; rfl))
                  intro gb168 hg wzc3 hbox hb
                  have n0_ := Aside0.mk (blk_below (g := gb164) (o := .cells #[.int .i64 t159, .int .i64 t160, .int .i64 t161, .int .i64 t162] 49 (0, 0)) (by (with_reducible repeat (first | refine blk_drewN ?_ _ | refine blk_drew ?_ | refine blk_alloc ?_ _)); exact BK164.out) hb)
                  have n1_ := Aside0.mk (blk_below (g := gb167) (o := .cells #[.int .i64 0, .int .i64 0, .int .i64 0, .int .i64 0] 49 (0, 0)) (by (with_reducible repeat (first | refine blk_drewN ?_ _ | refine blk_drew ?_ | refine blk_alloc ?_ _)); exact BK167.out) hb)
                  have n2_ := Aside0.mk (below_step (by repeat (first | (with_reducible first | exact HB.out | apply below_alloc | apply pw_below_drewN | apply below_drew1 | refine below_set ?_ GE164.out | refine below_set ?_ GE167.out) | exact HB.out)) hb)
                  have n3_ := Aside0.mk (hbox)
                  have n4_ := Aside0.mk ((by rw [hg]; exact (below_size (by repeat (first | (with_reducible first | exact HB.out | apply below_alloc | apply pw_below_drewN | apply below_drew1 | refine below_set ?_ GE164.out | refine below_set ?_ GE167.out) | exact HB.out))) : w.heap.size ≤ gb168))
                  have n5_ := Aside0.mk ((by rw [hg]; exact (below_size (by repeat (first | (with_reducible first | exact HB.out | apply below_alloc | apply pw_below_drewN | apply below_drew1 | refine below_set ?_ GE164.out | refine below_set ?_ GE167.out) | exact HB.out))) : w.heap.size ≤ gb168))
                  have n6_ := Aside0.mk ((by rw [hg]; exact Nat.ne_of_lt (blk_lt (g := gb164) (o := .cells #[.int .i64 t159, .int .i64 t160, .int .i64 t161, .int .i64 t162] 49 (0, 0)) (by (with_reducible repeat (first | refine blk_drewN ?_ _ | refine blk_drew ?_ | refine blk_alloc ?_ _)); exact BK164.out)) : gb164 ≠ gb168))
                  have n7_ := Aside0.mk ((by rw [hg]; exact Nat.ne_of_gt (blk_lt (g := gb164) (o := .cells #[.int .i64 t159, .int .i64 t160, .int .i64 t161, .int .i64 t162] 49 (0, 0)) (by (with_reducible repeat (first | refine blk_drewN ?_ _ | refine blk_drew ?_ | refine blk_alloc ?_ _)); exact BK164.out)) : gb168 ≠ gb164))
                  have n8_ := Aside0.mk ((by rw [hg]; exact Nat.ne_of_lt (blk_lt (g := gb167) (o := .cells #[.int .i64 0, .int .i64 0, .int .i64 0, .int .i64 0] 49 (0, 0)) (by (with_reducible repeat (first | refine blk_drewN ?_ _ | refine blk_drew ?_ | refine blk_alloc ?_ _)); exact BK167.out)) : gb167 ≠ gb168))
                  have n9_ := Aside0.mk ((by rw [hg]; exact Nat.ne_of_gt (blk_lt (g := gb167) (o := .cells #[.int .i64 0, .int .i64 0, .int .i64 0, .int .i64 0] 49 (0, 0)) (by (with_reducible repeat (first | refine blk_drewN ?_ _ | refine blk_drew ?_ | refine blk_alloc ?_ _)); exact BK167.out)) : gb168 ≠ gb167))
                  clear BK164
                  clear BK167
                  clear HB
                  have BK164 := n0_
                  have BK167 := n1_
                  have HB := n2_
                  have BK168 := n3_
                  have GW168 := n4_
                  have GE168 := n5_
                  have NB164_168 := n6_
                  have NB168_164 := n7_
                  have NB167_168 := n8_
                  have NB168_167 := n9_
                  clear n0_ n1_ n2_ n3_ n4_ n5_ n6_ n7_ n8_ n9_
                  clear hb hbox hg
                  refine hK.out _ _ ⟨((HB.out.cell (World.block_lt_of_cell? w _ hw165_0)).trans hw165_0), ((HB.out.cell (World.block_lt_of_cell? w _ hw165_1)).trans hw165_1), ((HB.out.cell (World.block_lt_of_cell? w _ hw165_2)).trans hw165_2), ((HB.out.cell (World.block_lt_of_cell? w _ hw165_3)).trans hw165_3), ((HB.out.cell (World.block_lt_of_cell? w _ hw166_0)).trans hw166_0), ((HB.out.cell (World.block_lt_of_cell? w _ hw166_1)).trans hw166_1), ((HB.out.cell (World.block_lt_of_cell? w _ hw166_2)).trans hw166_2), ((HB.out.cell (World.block_lt_of_cell? w _ hw166_3)).trans hw166_3)⟩ (fun hHeld => ?_)
                  clear hK K
                  refine norm_ (a' := ?_) ?_ ?_
                  rotate_left
                  · show Act.put _ (some 9) _ = _
                    simp only [Act.put, List.setIfInBounds_toArray, List.set_cons_zero, List.set_cons_succ, i64_w, i32_w]
                    rfl
                  exact norm_ (by simp only [putAll, Act.put, List.setIfInBounds_toArray, List.set_cons_zero, List.set_cons_succ]) (hCont (gb167, gb168) _ ⟨hHeld, (by (with_reducible repeat (first | refine blk_drewN ?_ _ | refine blk_drew ?_ | refine blk_alloc ?_ _)); exact BK164.out), (by (with_reducible repeat (first | refine blk_drewN ?_ _ | refine blk_drew ?_ | refine blk_alloc ?_ _)); exact BK167.out), (by (with_reducible repeat (first | refine blk_drewN ?_ _ | refine blk_drew ?_ | refine blk_alloc ?_ _)); exact BK168.out), GW167.out, GE167.out, NB164_167.out, NB167_164.out, NB168_167.out, NB167_168.out, GW168.out, GE168.out, NB164_168.out, NB168_164.out, (by repeat (first | (with_reducible first | exact HB.out | apply below_alloc | apply pw_below_drewN | apply below_drew1 | refine below_set ?_ GE164.out | refine below_set ?_ GE167.out | refine below_set ?_ GE168.out) | exact HB.out))⟩)
                · skip
                  refine box_step ?hg (N := 9) ?hd (cs := #[.int .i64 0, .int .i64 0, .int .i64 0, .int .i64 0]) (t := 49) ?hr ?_; (case hd => rfl); (case hg => rfl); (case hr => first | (go_simp; done) | (go_simp; rfl))
                  intro gb168 hg wzc2 hbox hb
                  have n0_ := Aside0.mk (blk_below (g := gb164) (o := .cells #[.int .i64 t159, .int .i64 t160, .int .i64 t161, .int .i64 t162] 49 (0, 0)) (by (with_reducible repeat (first | refine blk_drewN ?_ _ | refine blk_drew ?_ | refine blk_alloc ?_ _)); exact BK164.out) hb)
                  have n1_ := Aside0.mk (below_step (by repeat (first | (with_reducible first | exact HB.out | apply below_alloc | apply pw_below_drewN | apply below_drew1 | refine below_set ?_ GE164.out) | exact HB.out)) hb)
                  have n2_ := Aside0.mk (hbox)
                  have n3_ := Aside0.mk ((by rw [hg]; exact (below_size (by repeat (first | (with_reducible first | exact HB.out | apply below_alloc | apply pw_below_drewN | apply below_drew1 | refine below_set ?_ GE164.out) | exact HB.out))) : w.heap.size ≤ gb168))
                  have n4_ := Aside0.mk ((by rw [hg]; exact (below_size (by repeat (first | (with_reducible first | exact HB.out | apply below_alloc | apply pw_below_drewN | apply below_drew1 | refine below_set ?_ GE164.out) | exact HB.out))) : w.heap.size ≤ gb168))
                  have n5_ := Aside0.mk ((by rw [hg]; exact Nat.ne_of_lt (blk_lt (g := gb164) (o := .cells #[.int .i64 t159, .int .i64 t160, .int .i64 t161, .int .i64 t162] 49 (0, 0)) (by (with_reducible repeat (first | refine blk_drewN ?_ _ | refine blk_drew ?_ | refine blk_alloc ?_ _)); exact BK164.out)) : gb164 ≠ gb168))
                  have n6_ := Aside0.mk ((by rw [hg]; exact Nat.ne_of_gt (blk_lt (g := gb164) (o := .cells #[.int .i64 t159, .int .i64 t160, .int .i64 t161, .int .i64 t162] 49 (0, 0)) (by (with_reducible repeat (first | refine blk_drewN ?_ _ | refine blk_drew ?_ | refine blk_alloc ?_ _)); exact BK164.out)) : gb168 ≠ gb164))
                  clear BK164
                  clear HB
                  have BK164 := n0_
                  have HB := n1_
                  have BK168 := n2_
                  have GW168 := n3_
                  have GE168 := n4_
                  have NB164_168 := n5_
                  have NB168_164 := n6_
                  clear n0_ n1_ n2_ n3_ n4_ n5_ n6_
                  clear hb hbox hg
                  refine hK.out _ _ ⟨((HB.out.cell (World.block_lt_of_cell? w _ hw165_0)).trans hw165_0), ((HB.out.cell (World.block_lt_of_cell? w _ hw165_1)).trans hw165_1), ((HB.out.cell (World.block_lt_of_cell? w _ hw165_2)).trans hw165_2), ((HB.out.cell (World.block_lt_of_cell? w _ hw165_3)).trans hw165_3), ((HB.out.cell (World.block_lt_of_cell? w _ hw166_0)).trans hw166_0), ((HB.out.cell (World.block_lt_of_cell? w _ hw166_1)).trans hw166_1), ((HB.out.cell (World.block_lt_of_cell? w _ hw166_2)).trans hw166_2), ((HB.out.cell (World.block_lt_of_cell? w _ hw166_3)).trans hw166_3)⟩ (fun hHeld => ?_)
                  clear hK K
                  refine norm_ (a' := ?_) ?_ ?_
                  rotate_left
                  · show Act.put _ (some 9) _ = _
                    simp only [Act.put, List.setIfInBounds_toArray, List.set_cons_zero, List.set_cons_succ, i64_w, i32_w]
                    rfl
                  refine one_ (i := 9) (N := some 8) #[true, true, true, true, true, true, true, true, true, true, true, false, false] rfl rfl (one_of HT_.out (by kernel_rfl)) (by decide) (fun K hK => ?_)
                  refine box_step ?hg (N := 8) ?hd (cs := #[.int .i64 0, .int .i64 0, .int .i64 0, .int .i64 0]) (t := 49) ?hr ?_; (case hd => rfl); (case hg => rfl); (case hr => first | (go_simp; done) | (go_simp; rfl))
                  intro gb167 hg wzc3 hbox hb
                  have n0_ := Aside0.mk (blk_below (g := gb164) (o := .cells #[.int .i64 t159, .int .i64 t160, .int .i64 t161, .int .i64 t162] 49 (0, 0)) (by (with_reducible repeat (first | refine blk_drewN ?_ _ | refine blk_drew ?_ | refine blk_alloc ?_ _)); exact BK164.out) hb)
                  have n1_ := Aside0.mk (blk_below (g := gb168) (o := .cells #[.int .i64 0, .int .i64 0, .int .i64 0, .int .i64 0] 49 (0, 0)) (by (with_reducible repeat (first | refine blk_drewN ?_ _ | refine blk_drew ?_ | refine blk_alloc ?_ _)); exact BK168.out) hb)
                  have n2_ := Aside0.mk (below_step (by repeat (first | (with_reducible first | exact HB.out | apply below_alloc | apply pw_below_drewN | apply below_drew1 | refine below_set ?_ GE164.out | refine below_set ?_ GE168.out) | exact HB.out)) hb)
                  have n3_ := Aside0.mk (hbox)
                  have n4_ := Aside0.mk ((by rw [hg]; exact (below_size (by repeat (first | (with_reducible first | exact HB.out | apply below_alloc | apply pw_below_drewN | apply below_drew1 | refine below_set ?_ GE164.out | refine below_set ?_ GE168.out) | exact HB.out))) : w.heap.size ≤ gb167))
                  have n5_ := Aside0.mk ((by rw [hg]; exact (below_size (by repeat (first | (with_reducible first | exact HB.out | apply below_alloc | apply pw_below_drewN | apply below_drew1 | refine below_set ?_ GE164.out | refine below_set ?_ GE168.out) | exact HB.out))) : w.heap.size ≤ gb167))
                  have n6_ := Aside0.mk ((by rw [hg]; exact Nat.ne_of_lt (blk_lt (g := gb164) (o := .cells #[.int .i64 t159, .int .i64 t160, .int .i64 t161, .int .i64 t162] 49 (0, 0)) (by (with_reducible repeat (first | refine blk_drewN ?_ _ | refine blk_drew ?_ | refine blk_alloc ?_ _)); exact BK164.out)) : gb164 ≠ gb167))
                  have n7_ := Aside0.mk ((by rw [hg]; exact Nat.ne_of_gt (blk_lt (g := gb164) (o := .cells #[.int .i64 t159, .int .i64 t160, .int .i64 t161, .int .i64 t162] 49 (0, 0)) (by (with_reducible repeat (first | refine blk_drewN ?_ _ | refine blk_drew ?_ | refine blk_alloc ?_ _)); exact BK164.out)) : gb167 ≠ gb164))
                  have n8_ := Aside0.mk ((by rw [hg]; exact Nat.ne_of_lt (blk_lt (g := gb168) (o := .cells #[.int .i64 0, .int .i64 0, .int .i64 0, .int .i64 0] 49 (0, 0)) (by (with_reducible repeat (first | refine blk_drewN ?_ _ | refine blk_drew ?_ | refine blk_alloc ?_ _)); exact BK168.out)) : gb168 ≠ gb167))
                  have n9_ := Aside0.mk ((by rw [hg]; exact Nat.ne_of_gt (blk_lt (g := gb168) (o := .cells #[.int .i64 0, .int .i64 0, .int .i64 0, .int .i64 0] 49 (0, 0)) (by (with_reducible repeat (first | refine blk_drewN ?_ _ | refine blk_drew ?_ | refine blk_alloc ?_ _)); exact BK168.out)) : gb167 ≠ gb168))
                  clear BK164
                  clear BK168
                  clear HB
                  have BK164 := n0_
                  have BK168 := n1_
                  have HB := n2_
                  have BK167 := n3_
                  have GW167 := n4_
                  have GE167 := n5_
                  have NB164_167 := n6_
                  have NB167_164 := n7_
                  have NB168_167 := n8_
                  have NB167_168 := n9_
                  clear n0_ n1_ n2_ n3_ n4_ n5_ n6_ n7_ n8_ n9_
                  clear hb hbox hg
                  refine hK.out _ _ ⟨((HB.out.cell (World.block_lt_of_cell? w _ hw165_0)).trans hw165_0), ((HB.out.cell (World.block_lt_of_cell? w _ hw165_1)).trans hw165_1), ((HB.out.cell (World.block_lt_of_cell? w _ hw165_2)).trans hw165_2), ((HB.out.cell (World.block_lt_of_cell? w _ hw165_3)).trans hw165_3), ((HB.out.cell (World.block_lt_of_cell? w _ hw166_0)).trans hw166_0), ((HB.out.cell (World.block_lt_of_cell? w _ hw166_1)).trans hw166_1), ((HB.out.cell (World.block_lt_of_cell? w _ hw166_2)).trans hw166_2), ((HB.out.cell (World.block_lt_of_cell? w _ hw166_3)).trans hw166_3)⟩ (fun hHeld => ?_)
                  clear hK K
                  refine norm_ (a' := ?_) ?_ ?_
                  rotate_left
                  · show Act.put _ (some 8) _ = _
                    simp only [Act.put, List.setIfInBounds_toArray, List.set_cons_zero, List.set_cons_succ, i64_w, i32_w]
                    rfl
                  exact norm_ (by simp only [putAll, Act.put, List.setIfInBounds_toArray, List.set_cons_zero, List.set_cons_succ]) (hCont (gb167, gb168) _ ⟨hHeld, (by (with_reducible repeat (first | refine blk_drewN ?_ _ | refine blk_drew ?_ | refine blk_alloc ?_ _)); exact BK164.out), (by (with_reducible repeat (first | refine blk_drewN ?_ _ | refine blk_drew ?_ | refine blk_alloc ?_ _)); exact BK167.out), (by (with_reducible repeat (first | refine blk_drewN ?_ _ | refine blk_drew ?_ | refine blk_alloc ?_ _)); exact BK168.out), GW167.out, GE167.out, NB164_167.out, NB167_164.out, NB168_167.out, NB167_168.out, GW168.out, GE168.out, NB164_168.out, NB168_164.out, (by repeat (first | (with_reducible first | exact HB.out | apply below_alloc | apply pw_below_drewN | apply below_drew1 | refine below_set ?_ GE164.out | refine below_set ?_ GE168.out | refine below_set ?_ GE167.out) | exact HB.out))⟩)
              rintro ⟨gb167, gb168⟩ wzc4 ⟨hS_, h0_, h1_, h2_, h3_, h4_, h5_, h6_, h7_, h8_, h9_, h10_, h11_, h12_, h13_⟩
              have n0_ : Aside0 (wzc4.heap[gb164]? = some (.cells #[.int .i64 t159, .int .i64 t160, .int .i64 t161, .int .i64 t162] 49 (0, 0))) := ⟨h0_⟩
              have n1_ : Aside0 (wzc4.heap[gb167]? = some (.cells #[.int .i64 0, .int .i64 0, .int .i64 0, .int .i64 0] 49 (0, 0))) := ⟨h1_⟩
              have n2_ : Aside0 (wzc4.heap[gb168]? = some (.cells #[.int .i64 0, .int .i64 0, .int .i64 0, .int .i64 0] 49 (0, 0))) := ⟨h2_⟩
              have n3_ : Aside0 (w.heap.size ≤ gb167) := ⟨h3_⟩
              have n4_ : Aside0 (w.heap.size ≤ gb167) := ⟨h4_⟩
              have n5_ : Aside0 (gb164 ≠ gb167) := ⟨h5_⟩
              have n6_ : Aside0 (gb167 ≠ gb164) := ⟨h6_⟩
              have n7_ : Aside0 (gb168 ≠ gb167) := ⟨h7_⟩
              have n8_ : Aside0 (gb167 ≠ gb168) := ⟨h8_⟩
              have n9_ : Aside0 (w.heap.size ≤ gb168) := ⟨h9_⟩
              have n10_ : Aside0 (w.heap.size ≤ gb168) := ⟨h10_⟩
              have n11_ : Aside0 (gb164 ≠ gb168) := ⟨h11_⟩
              have n12_ : Aside0 (gb168 ≠ gb164) := ⟨h12_⟩
              have n13_ : Aside0 (Below w.heap.size w wzc4) := ⟨h13_⟩
              clear BK164
              clear HB
              clear h0_ h1_ h2_ h3_ h4_ h5_ h6_ h7_ h8_ h9_ h10_ h11_ h12_ h13_
              have BK164 := n0_
              have BK167 := n1_
              have BK168 := n2_
              have GW167 := n3_
              have GE167 := n4_
              have NB164_167 := n5_
              have NB167_164 := n6_
              have NB168_167 := n7_
              have NB167_168 := n8_
              have GW168 := n9_
              have GE168 := n10_
              have NB164_168 := n11_
              have NB168_164 := n12_
              have HB := n13_
              clear n0_ n1_ n2_ n3_ n4_ n5_ n6_ n7_ n8_ n9_ n10_ n11_ n12_ n13_
              have hHeld : wzc4.cell? (ad165.add (((ji12)).toNat * 4)) = some (.int .i64 ((rd_T49 l0 (ji12)).f0)) ∧ wzc4.cell? ⟨(ad165.add (((ji12)).toNat * 4)).block, (ad165.add (((ji12)).toNat * 4)).off + 1, none⟩ = some (.int .i64 ((rd_T49 l0 (ji12)).f1.f0)) ∧ wzc4.cell? ⟨(ad165.add (((ji12)).toNat * 4)).block, (ad165.add (((ji12)).toNat * 4)).off + 2, none⟩ = some (.int .i64 ((rd_T49 l0 (ji12)).f1.f1)) ∧ wzc4.cell? ⟨(ad165.add (((ji12)).toNat * 4)).block, (ad165.add (((ji12)).toNat * 4)).off + 3, none⟩ = some (.int .i64 ((rd_T49 l0 (ji12)).f2)) ∧ wzc4.cell? (ad165.add ((x7_1).toNat * 4)) = some (.int .i64 ((rd_T49 l0 x7_1).f0)) ∧ wzc4.cell? ⟨(ad165.add ((x7_1).toNat * 4)).block, (ad165.add ((x7_1).toNat * 4)).off + 1, none⟩ = some (.int .i64 ((rd_T49 l0 x7_1).f1.f0)) ∧ wzc4.cell? ⟨(ad165.add ((x7_1).toNat * 4)).block, (ad165.add ((x7_1).toNat * 4)).off + 2, none⟩ = some (.int .i64 ((rd_T49 l0 x7_1).f1.f1)) ∧ wzc4.cell? ⟨(ad165.add ((x7_1).toNat * 4)).block, (ad165.add ((x7_1).toNat * 4)).off + 3, none⟩ = some (.int .i64 ((rd_T49 l0 x7_1).f2)) := hS_
              refine norm_ (a' := ?_) ?_ ?_
              rotate_left
              · simp only [putAll, Act.put, List.setIfInBounds_toArray, List.set_cons_zero, List.set_cons_succ]
                rfl
              refine one_ (i := 11) (N := none) #[true, true, true, true, true, true, true, true, true, true, true, true, false] rfl rfl (one_of HT_.out (by kernel_rfl)) (by decide) (fun K hK => ?_)
              have hszc1 : wzc4.cell? ⟨gb167, 0, none⟩ = some (.int .i64 0) := (blk_cell BK167.out 0).trans rfl
              have hfszc1 := blk_frozen BK167.out 0
              have hnszc1 := NB164_167.out
              have hnszc2 := NB168_167.out
              have hmszc1 := NB167_164.out
              have hmszc2 := NB167_168.out
              have hszc2 : wzc4.cell? ⟨gb167, 1, none⟩ = some (.int .i64 0) := (blk_cell BK167.out 1).trans rfl
              have hfszc2 := blk_frozen BK167.out 1
              have hnszc3 := NB164_167.out
              have hnszc4 := NB168_167.out
              have hmszc3 := NB167_164.out
              have hmszc4 := NB167_168.out
              have hszc3 : wzc4.cell? ⟨gb167, 2, none⟩ = some (.int .i64 0) := (blk_cell BK167.out 2).trans rfl
              have hfszc3 := blk_frozen BK167.out 2
              have hnszc5 := NB164_167.out
              have hnszc6 := NB168_167.out
              have hmszc5 := NB167_164.out
              have hmszc6 := NB167_168.out
              have hszc4 : wzc4.cell? ⟨gb167, 3, none⟩ = some (.int .i64 0) := (blk_cell BK167.out 3).trans rfl
              have hfszc4 := blk_frozen BK167.out 3
              have hnszc7 := NB164_167.out
              have hnszc8 := NB168_167.out
              have hmszc7 := NB167_164.out
              have hmszc8 := NB167_168.out
              refine skip_ (w1 := ?_) (by rfl) rfl ?_ ?_
              rotate_left
              · go_simp
                rfl
              refine hK.out _ _ ⟨((cell_far (p := ⟨gb167, _, none⟩) (by first | exact Nat.ne_of_lt (Nat.lt_of_lt_of_le (by have := World.block_lt_of_cell? _ _ hw165_0; first | rwa [add_block] at this | exact this) GW167.out) | (rw [add_block]; exact Nat.ne_of_lt (Nat.lt_of_lt_of_le (by have := World.block_lt_of_cell? _ _ hw165_0; first | rwa [add_block] at this | exact this) GW167.out)) | (show (Addr.add _ _).block ≠ _; rw [add_block]; exact Nat.ne_of_lt (Nat.lt_of_lt_of_le (by have := World.block_lt_of_cell? _ _ hw165_0; first | rwa [add_block] at this | exact this) GW167.out)) | (dsimp only; exact Nat.ne_of_lt (Nat.lt_of_lt_of_le (by have := World.block_lt_of_cell? _ _ hw165_0; first | rwa [add_block] at this | exact this) GW167.out))) _).trans (((cell_far (p := ⟨gb167, _, none⟩) (by first | exact Nat.ne_of_lt (Nat.lt_of_lt_of_le (by have := World.block_lt_of_cell? _ _ hw165_0; first | rwa [add_block] at this | exact this) GW167.out) | (rw [add_block]; exact Nat.ne_of_lt (Nat.lt_of_lt_of_le (by have := World.block_lt_of_cell? _ _ hw165_0; first | rwa [add_block] at this | exact this) GW167.out)) | (show (Addr.add _ _).block ≠ _; rw [add_block]; exact Nat.ne_of_lt (Nat.lt_of_lt_of_le (by have := World.block_lt_of_cell? _ _ hw165_0; first | rwa [add_block] at this | exact this) GW167.out)) | (dsimp only; exact Nat.ne_of_lt (Nat.lt_of_lt_of_le (by have := World.block_lt_of_cell? _ _ hw165_0; first | rwa [add_block] at this | exact this) GW167.out))) _).trans (((cell_far (p := ⟨gb167, _, none⟩) (by first | exact Nat.ne_of_lt (Nat.lt_of_lt_of_le (by have := World.block_lt_of_cell? _ _ hw165_0; first | rwa [add_block] at this | exact this) GW167.out) | (rw [add_block]; exact Nat.ne_of_lt (Nat.lt_of_lt_of_le (by have := World.block_lt_of_cell? _ _ hw165_0; first | rwa [add_block] at this | exact this) GW167.out)) | (show (Addr.add _ _).block ≠ _; rw [add_block]; exact Nat.ne_of_lt (Nat.lt_of_lt_of_le (by have := World.block_lt_of_cell? _ _ hw165_0; first | rwa [add_block] at this | exact this) GW167.out)) | (dsimp only; exact Nat.ne_of_lt (Nat.lt_of_lt_of_le (by have := World.block_lt_of_cell? _ _ hw165_0; first | rwa [add_block] at this | exact this) GW167.out))) _).trans (((cell_far (p := ⟨gb167, _, none⟩) (by first | exact Nat.ne_of_lt (Nat.lt_of_lt_of_le (by have := World.block_lt_of_cell? _ _ hw165_0; first | rwa [add_block] at this | exact this) GW167.out) | (rw [add_block]; exact Nat.ne_of_lt (Nat.lt_of_lt_of_le (by have := World.block_lt_of_cell? _ _ hw165_0; first | rwa [add_block] at this | exact this) GW167.out)) | (show (Addr.add _ _).block ≠ _; rw [add_block]; exact Nat.ne_of_lt (Nat.lt_of_lt_of_le (by have := World.block_lt_of_cell? _ _ hw165_0; first | rwa [add_block] at this | exact this) GW167.out)) | (dsimp only; exact Nat.ne_of_lt (Nat.lt_of_lt_of_le (by have := World.block_lt_of_cell? _ _ hw165_0; first | rwa [add_block] at this | exact this) GW167.out))) _).trans (hHeld.1)))))))), ((cell_far (p := ⟨gb167, _, none⟩) (by first | exact Nat.ne_of_lt (Nat.lt_of_lt_of_le (by have := World.block_lt_of_cell? _ _ hw165_1; first | rwa [add_block] at this | exact this) GW167.out) | (rw [add_block]; exact Nat.ne_of_lt (Nat.lt_of_lt_of_le (by have := World.block_lt_of_cell? _ _ hw165_1; first | rwa [add_block] at this | exact this) GW167.out)) | (show (Addr.add _ _).block ≠ _; rw [add_block]; exact Nat.ne_of_lt (Nat.lt_of_lt_of_le (by have := World.block_lt_of_cell? _ _ hw165_1; first | rwa [add_block] at this | exact this) GW167.out)) | (dsimp only; exact Nat.ne_of_lt (Nat.lt_of_lt_of_le (by have := World.block_lt_of_cell? _ _ hw165_1; first | rwa [add_block] at this | exact this) GW167.out))) _).trans (((cell_far (p := ⟨gb167, _, none⟩) (by first | exact Nat.ne_of_lt (Nat.lt_of_lt_of_le (by have := World.block_lt_of_cell? _ _ hw165_1; first | rwa [add_block] at this | exact this) GW167.out) | (rw [add_block]; exact Nat.ne_of_lt (Nat.lt_of_lt_of_le (by have := World.block_lt_of_cell? _ _ hw165_1; first | rwa [add_block] at this | exact this) GW167.out)) | (show (Addr.add _ _).block ≠ _; rw [add_block]; exact Nat.ne_of_lt (Nat.lt_of_lt_of_le (by have := World.block_lt_of_cell? _ _ hw165_1; first | rwa [add_block] at this | exact this) GW167.out)) | (dsimp only; exact Nat.ne_of_lt (Nat.lt_of_lt_of_le (by have := World.block_lt_of_cell? _ _ hw165_1; first | rwa [add_block] at this | exact this) GW167.out))) _).trans (((cell_far (p := ⟨gb167, _, none⟩) (by first | exact Nat.ne_of_lt (Nat.lt_of_lt_of_le (by have := World.block_lt_of_cell? _ _ hw165_1; first | rwa [add_block] at this | exact this) GW167.out) | (rw [add_block]; exact Nat.ne_of_lt (Nat.lt_of_lt_of_le (by have := World.block_lt_of_cell? _ _ hw165_1; first | rwa [add_block] at this | exact this) GW167.out)) | (show (Addr.add _ _).block ≠ _; rw [add_block]; exact Nat.ne_of_lt (Nat.lt_of_lt_of_le (by have := World.block_lt_of_cell? _ _ hw165_1; first | rwa [add_block] at this | exact this) GW167.out)) | (dsimp only; exact Nat.ne_of_lt (Nat.lt_of_lt_of_le (by have := World.block_lt_of_cell? _ _ hw165_1; first | rwa [add_block] at this | exact this) GW167.out))) _).trans (((cell_far (p := ⟨gb167, _, none⟩) (by first | exact Nat.ne_of_lt (Nat.lt_of_lt_of_le (by have := World.block_lt_of_cell? _ _ hw165_1; first | rwa [add_block] at this | exact this) GW167.out) | (rw [add_block]; exact Nat.ne_of_lt (Nat.lt_of_lt_of_le (by have := World.block_lt_of_cell? _ _ hw165_1; first | rwa [add_block] at this | exact this) GW167.out)) | (show (Addr.add _ _).block ≠ _; rw [add_block]; exact Nat.ne_of_lt (Nat.lt_of_lt_of_le (by have := World.block_lt_of_cell? _ _ hw165_1; first | rwa [add_block] at this | exact this) GW167.out)) | (dsimp only; exact Nat.ne_of_lt (Nat.lt_of_lt_of_le (by have := World.block_lt_of_cell? _ _ hw165_1; first | rwa [add_block] at this | exact this) GW167.out))) _).trans (hHeld.2.1)))))))), ((cell_far (p := ⟨gb167, _, none⟩) (by first | exact Nat.ne_of_lt (Nat.lt_of_lt_of_le (by have := World.block_lt_of_cell? _ _ hw165_2; first | rwa [add_block] at this | exact this) GW167.out) | (rw [add_block]; exact Nat.ne_of_lt (Nat.lt_of_lt_of_le (by have := World.block_lt_of_cell? _ _ hw165_2; first | rwa [add_block] at this | exact this) GW167.out)) | (show (Addr.add _ _).block ≠ _; rw [add_block]; exact Nat.ne_of_lt (Nat.lt_of_lt_of_le (by have := World.block_lt_of_cell? _ _ hw165_2; first | rwa [add_block] at this | exact this) GW167.out)) | (dsimp only; exact Nat.ne_of_lt (Nat.lt_of_lt_of_le (by have := World.block_lt_of_cell? _ _ hw165_2; first | rwa [add_block] at this | exact this) GW167.out))) _).trans (((cell_far (p := ⟨gb167, _, none⟩) (by first | exact Nat.ne_of_lt (Nat.lt_of_lt_of_le (by have := World.block_lt_of_cell? _ _ hw165_2; first | rwa [add_block] at this | exact this) GW167.out) | (rw [add_block]; exact Nat.ne_of_lt (Nat.lt_of_lt_of_le (by have := World.block_lt_of_cell? _ _ hw165_2; first | rwa [add_block] at this | exact this) GW167.out)) | (show (Addr.add _ _).block ≠ _; rw [add_block]; exact Nat.ne_of_lt (Nat.lt_of_lt_of_le (by have := World.block_lt_of_cell? _ _ hw165_2; first | rwa [add_block] at this | exact this) GW167.out)) | (dsimp only; exact Nat.ne_of_lt (Nat.lt_of_lt_of_le (by have := World.block_lt_of_cell? _ _ hw165_2; first | rwa [add_block] at this | exact this) GW167.out))) _).trans (((cell_far (p := ⟨gb167, _, none⟩) (by first | exact Nat.ne_of_lt (Nat.lt_of_lt_of_le (by have := World.block_lt_of_cell? _ _ hw165_2; first | rwa [add_block] at this | exact this) GW167.out) | (rw [add_block]; exact Nat.ne_of_lt (Nat.lt_of_lt_of_le (by have := World.block_lt_of_cell? _ _ hw165_2; first | rwa [add_block] at this | exact this) GW167.out)) | (show (Addr.add _ _).block ≠ _; rw [add_block]; exact Nat.ne_of_lt (Nat.lt_of_lt_of_le (by have := World.block_lt_of_cell? _ _ hw165_2; first | rwa [add_block] at this | exact this) GW167.out)) | (dsimp only; exact Nat.ne_of_lt (Nat.lt_of_lt_of_le (by have := World.block_lt_of_cell? _ _ hw165_2; first | rwa [add_block] at this | exact this) GW167.out))) _).trans (((cell_far (p := ⟨gb167, _, none⟩) (by first | exact Nat.ne_of_lt (Nat.lt_of_lt_of_le (by have := World.block_lt_of_cell? _ _ hw165_2; first | rwa [add_block] at this | exact this) GW167.out) | (rw [add_block]; exact Nat.ne_of_lt (Nat.lt_of_lt_of_le (by have := World.block_lt_of_cell? _ _ hw165_2; first | rwa [add_block] at this | exact this) GW167.out)) | (show (Addr.add _ _).block ≠ _; rw [add_block]; exact Nat.ne_of_lt (Nat.lt_of_lt_of_le (by have := World.block_lt_of_cell? _ _ hw165_2; first | rwa [add_block] at this | exact this) GW167.out)) | (dsimp only; exact Nat.ne_of_lt (Nat.lt_of_lt_of_le (by have := World.block_lt_of_cell? _ _ hw165_2; first | rwa [add_block] at this | exact this) GW167.out))) _).trans (hHeld.2.2.1)))))))), ((cell_far (p := ⟨gb167, _, none⟩) (by first | exact Nat.ne_of_lt (Nat.lt_of_lt_of_le (by have := World.block_lt_of_cell? _ _ hw165_3; first | rwa [add_block] at this | exact this) GW167.out) | (rw [add_block]; exact Nat.ne_of_lt (Nat.lt_of_lt_of_le (by have := World.block_lt_of_cell? _ _ hw165_3; first | rwa [add_block] at this | exact this) GW167.out)) | (show (Addr.add _ _).block ≠ _; rw [add_block]; exact Nat.ne_of_lt (Nat.lt_of_lt_of_le (by have := World.block_lt_of_cell? _ _ hw165_3; first | rwa [add_block] at this | exact this) GW167.out)) | (dsimp only; exact Nat.ne_of_lt (Nat.lt_of_lt_of_le (by have := World.block_lt_of_cell? _ _ hw165_3; first | rwa [add_block] at this | exact this) GW167.out))) _).trans (((cell_far (p := ⟨gb167, _, none⟩) (by first | exact Nat.ne_of_lt (Nat.lt_of_lt_of_le (by have := World.block_lt_of_cell? _ _ hw165_3; first | rwa [add_block] at this | exact this) GW167.out) | (rw [add_block]; exact Nat.ne_of_lt (Nat.lt_of_lt_of_le (by have := World.block_lt_of_cell? _ _ hw165_3; first | rwa [add_block] at this | exact this) GW167.out)) | (show (Addr.add _ _).block ≠ _; rw [add_block]; exact Nat.ne_of_lt (Nat.lt_of_lt_of_le (by have := World.block_lt_of_cell? _ _ hw165_3; first | rwa [add_block] at this | exact this) GW167.out)) | (dsimp only; exact Nat.ne_of_lt (Nat.lt_of_lt_of_le (by have := World.block_lt_of_cell? _ _ hw165_3; first | rwa [add_block] at this | exact this) GW167.out))) _).trans (((cell_far (p := ⟨gb167, _, none⟩) (by first | exact Nat.ne_of_lt (Nat.lt_of_lt_of_le (by have := World.block_lt_of_cell? _ _ hw165_3; first | rwa [add_block] at this | exact this) GW167.out) | (rw [add_block]; exact Nat.ne_of_lt (Nat.lt_of_lt_of_le (by have := World.block_lt_of_cell? _ _ hw165_3; first | rwa [add_block] at this | exact this) GW167.out)) | (show (Addr.add _ _).block ≠ _; rw [add_block]; exact Nat.ne_of_lt (Nat.lt_of_lt_of_le (by have := World.block_lt_of_cell? _ _ hw165_3; first | rwa [add_block] at this | exact this) GW167.out)) | (dsimp only; exact Nat.ne_of_lt (Nat.lt_of_lt_of_le (by have := World.block_lt_of_cell? _ _ hw165_3; first | rwa [add_block] at this | exact this) GW167.out))) _).trans (((cell_far (p := ⟨gb167, _, none⟩) (by first | exact Nat.ne_of_lt (Nat.lt_of_lt_of_le (by have := World.block_lt_of_cell? _ _ hw165_3; first | rwa [add_block] at this | exact this) GW167.out) | (rw [add_block]; exact Nat.ne_of_lt (Nat.lt_of_lt_of_le (by have := World.block_lt_of_cell? _ _ hw165_3; first | rwa [add_block] at this | exact this) GW167.out)) | (show (Addr.add _ _).block ≠ _; rw [add_block]; exact Nat.ne_of_lt (Nat.lt_of_lt_of_le (by have := World.block_lt_of_cell? _ _ hw165_3; first | rwa [add_block] at this | exact this) GW167.out)) | (dsimp only; exact Nat.ne_of_lt (Nat.lt_of_lt_of_le (by have := World.block_lt_of_cell? _ _ hw165_3; first | rwa [add_block] at this | exact this) GW167.out))) _).trans (hHeld.2.2.2.1)))))))), ((cell_far (p := ⟨gb167, _, none⟩) (by first | exact Nat.ne_of_lt (Nat.lt_of_lt_of_le (by have := World.block_lt_of_cell? _ _ hw166_0; first | rwa [add_block] at this | exact this) GW167.out) | (rw [add_block]; exact Nat.ne_of_lt (Nat.lt_of_lt_of_le (by have := World.block_lt_of_cell? _ _ hw166_0; first | rwa [add_block] at this | exact this) GW167.out)) | (show (Addr.add _ _).block ≠ _; rw [add_block]; exact Nat.ne_of_lt (Nat.lt_of_lt_of_le (by have := World.block_lt_of_cell? _ _ hw166_0; first | rwa [add_block] at this | exact this) GW167.out)) | (dsimp only; exact Nat.ne_of_lt (Nat.lt_of_lt_of_le (by have := World.block_lt_of_cell? _ _ hw166_0; first | rwa [add_block] at this | exact this) GW167.out))) _).trans (((cell_far (p := ⟨gb167, _, none⟩) (by first | exact Nat.ne_of_lt (Nat.lt_of_lt_of_le (by have := World.block_lt_of_cell? _ _ hw166_0; first | rwa [add_block] at this | exact this) GW167.out) | (rw [add_block]; exact Nat.ne_of_lt (Nat.lt_of_lt_of_le (by have := World.block_lt_of_cell? _ _ hw166_0; first | rwa [add_block] at this | exact this) GW167.out)) | (show (Addr.add _ _).block ≠ _; rw [add_block]; exact Nat.ne_of_lt (Nat.lt_of_lt_of_le (by have := World.block_lt_of_cell? _ _ hw166_0; first | rwa [add_block] at this | exact this) GW167.out)) | (dsimp only; exact Nat.ne_of_lt (Nat.lt_of_lt_of_le (by have := World.block_lt_of_cell? _ _ hw166_0; first | rwa [add_block] at this | exact this) GW167.out))) _).trans (((cell_far (p := ⟨gb167, _, none⟩) (by first | exact Nat.ne_of_lt (Nat.lt_of_lt_of_le (by have := World.block_lt_of_cell? _ _ hw166_0; first | rwa [add_block] at this | exact this) GW167.out) | (rw [add_block]; exact Nat.ne_of_lt (Nat.lt_of_lt_of_le (by have := World.block_lt_of_cell? _ _ hw166_0; first | rwa [add_block] at this | exact this) GW167.out)) | (show (Addr.add _ _).block ≠ _; rw [add_block]; exact Nat.ne_of_lt (Nat.lt_of_lt_of_le (by have := World.block_lt_of_cell? _ _ hw166_0; first | rwa [add_block] at this | exact this) GW167.out)) | (dsimp only; exact Nat.ne_of_lt (Nat.lt_of_lt_of_le (by have := World.block_lt_of_cell? _ _ hw166_0; first | rwa [add_block] at this | exact this) GW167.out))) _).trans (((cell_far (p := ⟨gb167, _, none⟩) (by first | exact Nat.ne_of_lt (Nat.lt_of_lt_of_le (by have := World.block_lt_of_cell? _ _ hw166_0; first | rwa [add_block] at this | exact this) GW167.out) | (rw [add_block]; exact Nat.ne_of_lt (Nat.lt_of_lt_of_le (by have := World.block_lt_of_cell? _ _ hw166_0; first | rwa [add_block] at this | exact this) GW167.out)) | (show (Addr.add _ _).block ≠ _; rw [add_block]; exact Nat.ne_of_lt (Nat.lt_of_lt_of_le (by have := World.block_lt_of_cell? _ _ hw166_0; first | rwa [add_block] at this | exact this) GW167.out)) | (dsimp only; exact Nat.ne_of_lt (Nat.lt_of_lt_of_le (by have := World.block_lt_of_cell? _ _ hw166_0; first | rwa [add_block] at this | exact this) GW167.out))) _).trans (hHeld.2.2.2.2.1)))))))), ((cell_far (p := ⟨gb167, _, none⟩) (by first | exact Nat.ne_of_lt (Nat.lt_of_lt_of_le (by have := World.block_lt_of_cell? _ _ hw166_1; first | rwa [add_block] at this | exact this) GW167.out) | (rw [add_block]; exact Nat.ne_of_lt (Nat.lt_of_lt_of_le (by have := World.block_lt_of_cell? _ _ hw166_1; first | rwa [add_block] at this | exact this) GW167.out)) | (show (Addr.add _ _).block ≠ _; rw [add_block]; exact Nat.ne_of_lt (Nat.lt_of_lt_of_le (by have := World.block_lt_of_cell? _ _ hw166_1; first | rwa [add_block] at this | exact this) GW167.out)) | (dsimp only; exact Nat.ne_of_lt (Nat.lt_of_lt_of_le (by have := World.block_lt_of_cell? _ _ hw166_1; first | rwa [add_block] at this | exact this) GW167.out))) _).trans (((cell_far (p := ⟨gb167, _, none⟩) (by first | exact Nat.ne_of_lt (Nat.lt_of_lt_of_le (by have := World.block_lt_of_cell? _ _ hw166_1; first | rwa [add_block] at this | exact this) GW167.out) | (rw [add_block]; exact Nat.ne_of_lt (Nat.lt_of_lt_of_le (by have := World.block_lt_of_cell? _ _ hw166_1; first | rwa [add_block] at this | exact this) GW167.out)) | (show (Addr.add _ _).block ≠ _; rw [add_block]; exact Nat.ne_of_lt (Nat.lt_of_lt_of_le (by have := World.block_lt_of_cell? _ _ hw166_1; first | rwa [add_block] at this | exact this) GW167.out)) | (dsimp only; exact Nat.ne_of_lt (Nat.lt_of_lt_of_le (by have := World.block_lt_of_cell? _ _ hw166_1; first | rwa [add_block] at this | exact this) GW167.out))) _).trans (((cell_far (p := ⟨gb167, _, none⟩) (by first | exact Nat.ne_of_lt (Nat.lt_of_lt_of_le (by have := World.block_lt_of_cell? _ _ hw166_1; first | rwa [add_block] at this | exact this) GW167.out) | (rw [add_block]; exact Nat.ne_of_lt (Nat.lt_of_lt_of_le (by have := World.block_lt_of_cell? _ _ hw166_1; first | rwa [add_block] at this | exact this) GW167.out)) | (show (Addr.add _ _).block ≠ _; rw [add_block]; exact Nat.ne_of_lt (Nat.lt_of_lt_of_le (by have := World.block_lt_of_cell? _ _ hw166_1; first | rwa [add_block] at this | exact this) GW167.out)) | (dsimp only; exact Nat.ne_of_lt (Nat.lt_of_lt_of_le (by have := World.block_lt_of_cell? _ _ hw166_1; first | rwa [add_block] at this | exact this) GW167.out))) _).trans (((cell_far (p := ⟨gb167, _, none⟩) (by first | exact Nat.ne_of_lt (Nat.lt_of_lt_of_le (by have := World.block_lt_of_cell? _ _ hw166_1; first | rwa [add_block] at this | exact this) GW167.out) | (rw [add_block]; exact Nat.ne_of_lt (Nat.lt_of_lt_of_le (by have := World.block_lt_of_cell? _ _ hw166_1; first | rwa [add_block] at this | exact this) GW167.out)) | (show (Addr.add _ _).block ≠ _; rw [add_block]; exact Nat.ne_of_lt (Nat.lt_of_lt_of_le (by have := World.block_lt_of_cell? _ _ hw166_1; first | rwa [add_block] at this | exact this) GW167.out)) | (dsimp only; exact Nat.ne_of_lt (Nat.lt_of_lt_of_le (by have := World.block_lt_of_cell? _ _ hw166_1; first | rwa [add_block] at this | exact this) GW167.out))) _).trans (hHeld.2.2.2.2.2.1)))))))), ((cell_far (p := ⟨gb167, _, none⟩) (by first | exact Nat.ne_of_lt (Nat.lt_of_lt_of_le (by have := World.block_lt_of_cell? _ _ hw166_2; first | rwa [add_block] at this | exact this) GW167.out) | (rw [add_block]; exact Nat.ne_of_lt (Nat.lt_of_lt_of_le (by have := World.block_lt_of_cell? _ _ hw166_2; first | rwa [add_block] at this | exact this) GW167.out)) | (show (Addr.add _ _).block ≠ _; rw [add_block]; exact Nat.ne_of_lt (Nat.lt_of_lt_of_le (by have := World.block_lt_of_cell? _ _ hw166_2; first | rwa [add_block] at this | exact this) GW167.out)) | (dsimp only; exact Nat.ne_of_lt (Nat.lt_of_lt_of_le (by have := World.block_lt_of_cell? _ _ hw166_2; first | rwa [add_block] at this | exact this) GW167.out))) _).trans (((cell_far (p := ⟨gb167, _, none⟩) (by first | exact Nat.ne_of_lt (Nat.lt_of_lt_of_le (by have := World.block_lt_of_cell? _ _ hw166_2; first | rwa [add_block] at this | exact this) GW167.out) | (rw [add_block]; exact Nat.ne_of_lt (Nat.lt_of_lt_of_le (by have := World.block_lt_of_cell? _ _ hw166_2; first | rwa [add_block] at this | exact this) GW167.out)) | (show (Addr.add _ _).block ≠ _; rw [add_block]; exact Nat.ne_of_lt (Nat.lt_of_lt_of_le (by have := World.block_lt_of_cell? _ _ hw166_2; first | rwa [add_block] at this | exact this) GW167.out)) | (dsimp only; exact Nat.ne_of_lt (Nat.lt_of_lt_of_le (by have := World.block_lt_of_cell? _ _ hw166_2; first | rwa [add_block] at this | exact this) GW167.out))) _).trans (((cell_far (p := ⟨gb167, _, none⟩) (by first | exact Nat.ne_of_lt (Nat.lt_of_lt_of_le (by have := World.block_lt_of_cell? _ _ hw166_2; first | rwa [add_block] at this | exact this) GW167.out) | (rw [add_block]; exact Nat.ne_of_lt (Nat.lt_of_lt_of_le (by have := World.block_lt_of_cell? _ _ hw166_2; first | rwa [add_block] at this | exact this) GW167.out)) | (show (Addr.add _ _).block ≠ _; rw [add_block]; exact Nat.ne_of_lt (Nat.lt_of_lt_of_le (by have := World.block_lt_of_cell? _ _ hw166_2; first | rwa [add_block] at this | exact this) GW167.out)) | (dsimp only; exact Nat.ne_of_lt (Nat.lt_of_lt_of_le (by have := World.block_lt_of_cell? _ _ hw166_2; first | rwa [add_block] at this | exact this) GW167.out))) _).trans (((cell_far (p := ⟨gb167, _, none⟩) (by first | exact Nat.ne_of_lt (Nat.lt_of_lt_of_le (by have := World.block_lt_of_cell? _ _ hw166_2; first | rwa [add_block] at this | exact this) GW167.out) | (rw [add_block]; exact Nat.ne_of_lt (Nat.lt_of_lt_of_le (by have := World.block_lt_of_cell? _ _ hw166_2; first | rwa [add_block] at this | exact this) GW167.out)) | (show (Addr.add _ _).block ≠ _; rw [add_block]; exact Nat.ne_of_lt (Nat.lt_of_lt_of_le (by have := World.block_lt_of_cell? _ _ hw166_2; first | rwa [add_block] at this | exact this) GW167.out)) | (dsimp only; exact Nat.ne_of_lt (Nat.lt_of_lt_of_le (by have := World.block_lt_of_cell? _ _ hw166_2; first | rwa [add_block] at this | exact this) GW167.out))) _).trans (hHeld.2.2.2.2.2.2.1)))))))), ((cell_far (p := ⟨gb167, _, none⟩) (by first | exact Nat.ne_of_lt (Nat.lt_of_lt_of_le (by have := World.block_lt_of_cell? _ _ hw166_3; first | rwa [add_block] at this | exact this) GW167.out) | (rw [add_block]; exact Nat.ne_of_lt (Nat.lt_of_lt_of_le (by have := World.block_lt_of_cell? _ _ hw166_3; first | rwa [add_block] at this | exact this) GW167.out)) | (show (Addr.add _ _).block ≠ _; rw [add_block]; exact Nat.ne_of_lt (Nat.lt_of_lt_of_le (by have := World.block_lt_of_cell? _ _ hw166_3; first | rwa [add_block] at this | exact this) GW167.out)) | (dsimp only; exact Nat.ne_of_lt (Nat.lt_of_lt_of_le (by have := World.block_lt_of_cell? _ _ hw166_3; first | rwa [add_block] at this | exact this) GW167.out))) _).trans (((cell_far (p := ⟨gb167, _, none⟩) (by first | exact Nat.ne_of_lt (Nat.lt_of_lt_of_le (by have := World.block_lt_of_cell? _ _ hw166_3; first | rwa [add_block] at this | exact this) GW167.out) | (rw [add_block]; exact Nat.ne_of_lt (Nat.lt_of_lt_of_le (by have := World.block_lt_of_cell? _ _ hw166_3; first | rwa [add_block] at this | exact this) GW167.out)) | (show (Addr.add _ _).block ≠ _; rw [add_block]; exact Nat.ne_of_lt (Nat.lt_of_lt_of_le (by have := World.block_lt_of_cell? _ _ hw166_3; first | rwa [add_block] at this | exact this) GW167.out)) | (dsimp only; exact Nat.ne_of_lt (Nat.lt_of_lt_of_le (by have := World.block_lt_of_cell? _ _ hw166_3; first | rwa [add_block] at this | exact this) GW167.out))) _).trans (((cell_far (p := ⟨gb167, _, none⟩) (by first | exact Nat.ne_of_lt (Nat.lt_of_lt_of_le (by have := World.block_lt_of_cell? _ _ hw166_3; first | rwa [add_block] at this | exact this) GW167.out) | (rw [add_block]; exact Nat.ne_of_lt (Nat.lt_of_lt_of_le (by have := World.block_lt_of_cell? _ _ hw166_3; first | rwa [add_block] at this | exact this) GW167.out)) | (show (Addr.add _ _).block ≠ _; rw [add_block]; exact Nat.ne_of_lt (Nat.lt_of_lt_of_le (by have := World.block_lt_of_cell? _ _ hw166_3; first | rwa [add_block] at this | exact this) GW167.out)) | (dsimp only; exact Nat.ne_of_lt (Nat.lt_of_lt_of_le (by have := World.block_lt_of_cell? _ _ hw166_3; first | rwa [add_block] at this | exact this) GW167.out))) _).trans (((cell_far (p := ⟨gb167, _, none⟩) (by first | exact Nat.ne_of_lt (Nat.lt_of_lt_of_le (by have := World.block_lt_of_cell? _ _ hw166_3; first | rwa [add_block] at this | exact this) GW167.out) | (rw [add_block]; exact Nat.ne_of_lt (Nat.lt_of_lt_of_le (by have := World.block_lt_of_cell? _ _ hw166_3; first | rwa [add_block] at this | exact this) GW167.out)) | (show (Addr.add _ _).block ≠ _; rw [add_block]; exact Nat.ne_of_lt (Nat.lt_of_lt_of_le (by have := World.block_lt_of_cell? _ _ hw166_3; first | rwa [add_block] at this | exact this) GW167.out)) | (dsimp only; exact Nat.ne_of_lt (Nat.lt_of_lt_of_le (by have := World.block_lt_of_cell? _ _ hw166_3; first | rwa [add_block] at this | exact this) GW167.out))) _).trans (hHeld.2.2.2.2.2.2.2))))))))⟩ (fun hHeld => ?_)
              clear hK K
              refine one_ (i := 12) (N := none) #[true, true, true, true, true, true, true, true, true, true, true, true, true] rfl rfl (one_of HT_.out (by kernel_rfl)) (by decide) (fun K hK => ?_)
              have hszc5 : wzc4.cell? ⟨gb168, 0, none⟩ = some (.int .i64 0) := (blk_cell BK168.out 0).trans rfl
              have hfszc5 := blk_frozen BK168.out 0
              have hnszc9 := NB164_168.out
              have hnszc10 := NB167_168.out
              have hmszc9 := NB168_164.out
              have hmszc10 := NB168_167.out
              have hszc6 : wzc4.cell? ⟨gb168, 1, none⟩ = some (.int .i64 0) := (blk_cell BK168.out 1).trans rfl
              have hfszc6 := blk_frozen BK168.out 1
              have hnszc11 := NB164_168.out
              have hnszc12 := NB167_168.out
              have hmszc11 := NB168_164.out
              have hmszc12 := NB168_167.out
              have hszc7 : wzc4.cell? ⟨gb168, 2, none⟩ = some (.int .i64 0) := (blk_cell BK168.out 2).trans rfl
              have hfszc7 := blk_frozen BK168.out 2
              have hnszc13 := NB164_168.out
              have hnszc14 := NB167_168.out
              have hmszc13 := NB168_164.out
              have hmszc14 := NB168_167.out
              have hszc8 : wzc4.cell? ⟨gb168, 3, none⟩ = some (.int .i64 0) := (blk_cell BK168.out 3).trans rfl
              have hfszc8 := blk_frozen BK168.out 3
              have hnszc15 := NB164_168.out
              have hnszc16 := NB167_168.out
              have hmszc15 := NB168_164.out
              have hmszc16 := NB168_167.out
              refine skip_ (w1 := ?_) (by rfl) rfl ?_ ?_
              rotate_left
              · go_simp
                rfl
              refine hK.out _ _ ⟨((cell_far (p := ⟨gb168, _, none⟩) (by first | exact Nat.ne_of_lt (Nat.lt_of_lt_of_le (by have := World.block_lt_of_cell? _ _ hw165_0; first | rwa [add_block] at this | exact this) GW168.out) | (rw [add_block]; exact Nat.ne_of_lt (Nat.lt_of_lt_of_le (by have := World.block_lt_of_cell? _ _ hw165_0; first | rwa [add_block] at this | exact this) GW168.out)) | (show (Addr.add _ _).block ≠ _; rw [add_block]; exact Nat.ne_of_lt (Nat.lt_of_lt_of_le (by have := World.block_lt_of_cell? _ _ hw165_0; first | rwa [add_block] at this | exact this) GW168.out)) | (dsimp only; exact Nat.ne_of_lt (Nat.lt_of_lt_of_le (by have := World.block_lt_of_cell? _ _ hw165_0; first | rwa [add_block] at this | exact this) GW168.out))) _).trans (((cell_far (p := ⟨gb168, _, none⟩) (by first | exact Nat.ne_of_lt (Nat.lt_of_lt_of_le (by have := World.block_lt_of_cell? _ _ hw165_0; first | rwa [add_block] at this | exact this) GW168.out) | (rw [add_block]; exact Nat.ne_of_lt (Nat.lt_of_lt_of_le (by have := World.block_lt_of_cell? _ _ hw165_0; first | rwa [add_block] at this | exact this) GW168.out)) | (show (Addr.add _ _).block ≠ _; rw [add_block]; exact Nat.ne_of_lt (Nat.lt_of_lt_of_le (by have := World.block_lt_of_cell? _ _ hw165_0; first | rwa [add_block] at this | exact this) GW168.out)) | (dsimp only; exact Nat.ne_of_lt (Nat.lt_of_lt_of_le (by have := World.block_lt_of_cell? _ _ hw165_0; first | rwa [add_block] at this | exact this) GW168.out))) _).trans (((cell_far (p := ⟨gb168, _, none⟩) (by first | exact Nat.ne_of_lt (Nat.lt_of_lt_of_le (by have := World.block_lt_of_cell? _ _ hw165_0; first | rwa [add_block] at this | exact this) GW168.out) | (rw [add_block]; exact Nat.ne_of_lt (Nat.lt_of_lt_of_le (by have := World.block_lt_of_cell? _ _ hw165_0; first | rwa [add_block] at this | exact this) GW168.out)) | (show (Addr.add _ _).block ≠ _; rw [add_block]; exact Nat.ne_of_lt (Nat.lt_of_lt_of_le (by have := World.block_lt_of_cell? _ _ hw165_0; first | rwa [add_block] at this | exact this) GW168.out)) | (dsimp only; exact Nat.ne_of_lt (Nat.lt_of_lt_of_le (by have := World.block_lt_of_cell? _ _ hw165_0; first | rwa [add_block] at this | exact this) GW168.out))) _).trans (((cell_far (p := ⟨gb168, _, none⟩) (by first | exact Nat.ne_of_lt (Nat.lt_of_lt_of_le (by have := World.block_lt_of_cell? _ _ hw165_0; first | rwa [add_block] at this | exact this) GW168.out) | (rw [add_block]; exact Nat.ne_of_lt (Nat.lt_of_lt_of_le (by have := World.block_lt_of_cell? _ _ hw165_0; first | rwa [add_block] at this | exact this) GW168.out)) | (show (Addr.add _ _).block ≠ _; rw [add_block]; exact Nat.ne_of_lt (Nat.lt_of_lt_of_le (by have := World.block_lt_of_cell? _ _ hw165_0; first | rwa [add_block] at this | exact this) GW168.out)) | (dsimp only; exact Nat.ne_of_lt (Nat.lt_of_lt_of_le (by have := World.block_lt_of_cell? _ _ hw165_0; first | rwa [add_block] at this | exact this) GW168.out))) _).trans (hHeld.1)))))))), ((cell_far (p := ⟨gb168, _, none⟩) (by first | exact Nat.ne_of_lt (Nat.lt_of_lt_of_le (by have := World.block_lt_of_cell? _ _ hw165_1; first | rwa [add_block] at this | exact this) GW168.out) | (rw [add_block]; exact Nat.ne_of_lt (Nat.lt_of_lt_of_le (by have := World.block_lt_of_cell? _ _ hw165_1; first | rwa [add_block] at this | exact this) GW168.out)) | (show (Addr.add _ _).block ≠ _; rw [add_block]; exact Nat.ne_of_lt (Nat.lt_of_lt_of_le (by have := World.block_lt_of_cell? _ _ hw165_1; first | rwa [add_block] at this | exact this) GW168.out)) | (dsimp only; exact Nat.ne_of_lt (Nat.lt_of_lt_of_le (by have := World.block_lt_of_cell? _ _ hw165_1; first | rwa [add_block] at this | exact this) GW168.out))) _).trans (((cell_far (p := ⟨gb168, _, none⟩) (by first | exact Nat.ne_of_lt (Nat.lt_of_lt_of_le (by have := World.block_lt_of_cell? _ _ hw165_1; first | rwa [add_block] at this | exact this) GW168.out) | (rw [add_block]; exact Nat.ne_of_lt (Nat.lt_of_lt_of_le (by have := World.block_lt_of_cell? _ _ hw165_1; first | rwa [add_block] at this | exact this) GW168.out)) | (show (Addr.add _ _).block ≠ _; rw [add_block]; exact Nat.ne_of_lt (Nat.lt_of_lt_of_le (by have := World.block_lt_of_cell? _ _ hw165_1; first | rwa [add_block] at this | exact this) GW168.out)) | (dsimp only; exact Nat.ne_of_lt (Nat.lt_of_lt_of_le (by have := World.block_lt_of_cell? _ _ hw165_1; first | rwa [add_block] at this | exact this) GW168.out))) _).trans (((cell_far (p := ⟨gb168, _, none⟩) (by first | exact Nat.ne_of_lt (Nat.lt_of_lt_of_le (by have := World.block_lt_of_cell? _ _ hw165_1; first | rwa [add_block] at this | exact this) GW168.out) | (rw [add_block]; exact Nat.ne_of_lt (Nat.lt_of_lt_of_le (by have := World.block_lt_of_cell? _ _ hw165_1; first | rwa [add_block] at this | exact this) GW168.out)) | (show (Addr.add _ _).block ≠ _; rw [add_block]; exact Nat.ne_of_lt (Nat.lt_of_lt_of_le (by have := World.block_lt_of_cell? _ _ hw165_1; first | rwa [add_block] at this | exact this) GW168.out)) | (dsimp only; exact Nat.ne_of_lt (Nat.lt_of_lt_of_le (by have := World.block_lt_of_cell? _ _ hw165_1; first | rwa [add_block] at this | exact this) GW168.out))) _).trans (((cell_far (p := ⟨gb168, _, none⟩) (by first | exact Nat.ne_of_lt (Nat.lt_of_lt_of_le (by have := World.block_lt_of_cell? _ _ hw165_1; first | rwa [add_block] at this | exact this) GW168.out) | (rw [add_block]; exact Nat.ne_of_lt (Nat.lt_of_lt_of_le (by have := World.block_lt_of_cell? _ _ hw165_1; first | rwa [add_block] at this | exact this) GW168.out)) | (show (Addr.add _ _).block ≠ _; rw [add_block]; exact Nat.ne_of_lt (Nat.lt_of_lt_of_le (by have := World.block_lt_of_cell? _ _ hw165_1; first | rwa [add_block] at this | exact this) GW168.out)) | (dsimp only; exact Nat.ne_of_lt (Nat.lt_of_lt_of_le (by have := World.block_lt_of_cell? _ _ hw165_1; first | rwa [add_block] at this | exact this) GW168.out))) _).trans (hHeld.2.1)))))))), ((cell_far (p := ⟨gb168, _, none⟩) (by first | exact Nat.ne_of_lt (Nat.lt_of_lt_of_le (by have := World.block_lt_of_cell? _ _ hw165_2; first | rwa [add_block] at this | exact this) GW168.out) | (rw [add_block]; exact Nat.ne_of_lt (Nat.lt_of_lt_of_le (by have := World.block_lt_of_cell? _ _ hw165_2; first | rwa [add_block] at this | exact this) GW168.out)) | (show (Addr.add _ _).block ≠ _; rw [add_block]; exact Nat.ne_of_lt (Nat.lt_of_lt_of_le (by have := World.block_lt_of_cell? _ _ hw165_2; first | rwa [add_block] at this | exact this) GW168.out)) | (dsimp only; exact Nat.ne_of_lt (Nat.lt_of_lt_of_le (by have := World.block_lt_of_cell? _ _ hw165_2; first | rwa [add_block] at this | exact this) GW168.out))) _).trans (((cell_far (p := ⟨gb168, _, none⟩) (by first | exact Nat.ne_of_lt (Nat.lt_of_lt_of_le (by have := World.block_lt_of_cell? _ _ hw165_2; first | rwa [add_block] at this | exact this) GW168.out) | (rw [add_block]; exact Nat.ne_of_lt (Nat.lt_of_lt_of_le (by have := World.block_lt_of_cell? _ _ hw165_2; first | rwa [add_block] at this | exact this) GW168.out)) | (show (Addr.add _ _).block ≠ _; rw [add_block]; exact Nat.ne_of_lt (Nat.lt_of_lt_of_le (by have := World.block_lt_of_cell? _ _ hw165_2; first | rwa [add_block] at this | exact this) GW168.out)) | (dsimp only; exact Nat.ne_of_lt (Nat.lt_of_lt_of_le (by have := World.block_lt_of_cell? _ _ hw165_2; first | rwa [add_block] at this | exact this) GW168.out))) _).trans (((cell_far (p := ⟨gb168, _, none⟩) (by first | exact Nat.ne_of_lt (Nat.lt_of_lt_of_le (by have := World.block_lt_of_cell? _ _ hw165_2; first | rwa [add_block] at this | exact this) GW168.out) | (rw [add_block]; exact Nat.ne_of_lt (Nat.lt_of_lt_of_le (by have := World.block_lt_of_cell? _ _ hw165_2; first | rwa [add_block] at this | exact this) GW168.out)) | (show (Addr.add _ _).block ≠ _; rw [add_block]; exact Nat.ne_of_lt (Nat.lt_of_lt_of_le (by have := World.block_lt_of_cell? _ _ hw165_2; first | rwa [add_block] at this | exact this) GW168.out)) | (dsimp only; exact Nat.ne_of_lt (Nat.lt_of_lt_of_le (by have := World.block_lt_of_cell? _ _ hw165_2; first | rwa [add_block] at this | exact this) GW168.out))) _).trans (((cell_far (p := ⟨gb168, _, none⟩) (by first | exact Nat.ne_of_lt (Nat.lt_of_lt_of_le (by have := World.block_lt_of_cell? _ _ hw165_2; first | rwa [add_block] at this | exact this) GW168.out) | (rw [add_block]; exact Nat.ne_of_lt (Nat.lt_of_lt_of_le (by have := World.block_lt_of_cell? _ _ hw165_2; first | rwa [add_block] at this | exact this) GW168.out)) | (show (Addr.add _ _).block ≠ _; rw [add_block]; exact Nat.ne_of_lt (Nat.lt_of_lt_of_le (by have := World.block_lt_of_cell? _ _ hw165_2; first | rwa [add_block] at this | exact this) GW168.out)) | (dsimp only; exact Nat.ne_of_lt (Nat.lt_of_lt_of_le (by have := World.block_lt_of_cell? _ _ hw165_2; first | rwa [add_block] at this | exact this) GW168.out))) _).trans (hHeld.2.2.1)))))))), ((cell_far (p := ⟨gb168, _, none⟩) (by first | exact Nat.ne_of_lt (Nat.lt_of_lt_of_le (by have := World.block_lt_of_cell? _ _ hw165_3; first | rwa [add_block] at this | exact this) GW168.out) | (rw [add_block]; exact Nat.ne_of_lt (Nat.lt_of_lt_of_le (by have := World.block_lt_of_cell? _ _ hw165_3; first | rwa [add_block] at this | exact this) GW168.out)) | (show (Addr.add _ _).block ≠ _; rw [add_block]; exact Nat.ne_of_lt (Nat.lt_of_lt_of_le (by have := World.block_lt_of_cell? _ _ hw165_3; first | rwa [add_block] at this | exact this) GW168.out)) | (dsimp only; exact Nat.ne_of_lt (Nat.lt_of_lt_of_le (by have := World.block_lt_of_cell? _ _ hw165_3; first | rwa [add_block] at this | exact this) GW168.out))) _).trans (((cell_far (p := ⟨gb168, _, none⟩) (by first | exact Nat.ne_of_lt (Nat.lt_of_lt_of_le (by have := World.block_lt_of_cell? _ _ hw165_3; first | rwa [add_block] at this | exact this) GW168.out) | (rw [add_block]; exact Nat.ne_of_lt (Nat.lt_of_lt_of_le (by have := World.block_lt_of_cell? _ _ hw165_3; first | rwa [add_block] at this | exact this) GW168.out)) | (show (Addr.add _ _).block ≠ _; rw [add_block]; exact Nat.ne_of_lt (Nat.lt_of_lt_of_le (by have := World.block_lt_of_cell? _ _ hw165_3; first | rwa [add_block] at this | exact this) GW168.out)) | (dsimp only; exact Nat.ne_of_lt (Nat.lt_of_lt_of_le (by have := World.block_lt_of_cell? _ _ hw165_3; first | rwa [add_block] at this | exact this) GW168.out))) _).trans (((cell_far (p := ⟨gb168, _, none⟩) (by first | exact Nat.ne_of_lt (Nat.lt_of_lt_of_le (by have := World.block_lt_of_cell? _ _ hw165_3; first | rwa [add_block] at this | exact this) GW168.out) | (rw [add_block]; exact Nat.ne_of_lt (Nat.lt_of_lt_of_le (by have := World.block_lt_of_cell? _ _ hw165_3; first | rwa [add_block] at this | exact this) GW168.out)) | (show (Addr.add _ _).block ≠ _; rw [add_block]; exact Nat.ne_of_lt (Nat.lt_of_lt_of_le (by have := World.block_lt_of_cell? _ _ hw165_3; first | rwa [add_block] at this | exact this) GW168.out)) | (dsimp only; exact Nat.ne_of_lt (Nat.lt_of_lt_of_le (by have := World.block_lt_of_cell? _ _ hw165_3; first | rwa [add_block] at this | exact this) GW168.out))) _).trans (((cell_far (p := ⟨gb168, _, none⟩) (by first | exact Nat.ne_of_lt (Nat.lt_of_lt_of_le (by have := World.block_lt_of_cell? _ _ hw165_3; first | rwa [add_block] at this | exact this) GW168.out) | (rw [add_block]; exact Nat.ne_of_lt (Nat.lt_of_lt_of_le (by have := World.block_lt_of_cell? _ _ hw165_3; first | rwa [add_block] at this | exact this) GW168.out)) | (show (Addr.add _ _).block ≠ _; rw [add_block]; exact Nat.ne_of_lt (Nat.lt_of_lt_of_le (by have := World.block_lt_of_cell? _ _ hw165_3; first | rwa [add_block] at this | exact this) GW168.out)) | (dsimp only; exact Nat.ne_of_lt (Nat.lt_of_lt_of_le (by have := World.block_lt_of_cell? _ _ hw165_3; first | rwa [add_block] at this | exact this) GW168.out))) _).trans (hHeld.2.2.2.1)))))))), ((cell_far (p := ⟨gb168, _, none⟩) (by first | exact Nat.ne_of_lt (Nat.lt_of_lt_of_le (by have := World.block_lt_of_cell? _ _ hw166_0; first | rwa [add_block] at this | exact this) GW168.out) | (rw [add_block]; exact Nat.ne_of_lt (Nat.lt_of_lt_of_le (by have := World.block_lt_of_cell? _ _ hw166_0; first | rwa [add_block] at this | exact this) GW168.out)) | (show (Addr.add _ _).block ≠ _; rw [add_block]; exact Nat.ne_of_lt (Nat.lt_of_lt_of_le (by have := World.block_lt_of_cell? _ _ hw166_0; first | rwa [add_block] at this | exact this) GW168.out)) | (dsimp only; exact Nat.ne_of_lt (Nat.lt_of_lt_of_le (by have := World.block_lt_of_cell? _ _ hw166_0; first | rwa [add_block] at this | exact this) GW168.out))) _).trans (((cell_far (p := ⟨gb168, _, none⟩) (by first | exact Nat.ne_of_lt (Nat.lt_of_lt_of_le (by have := World.block_lt_of_cell? _ _ hw166_0; first | rwa [add_block] at this | exact this) GW168.out) | (rw [add_block]; exact Nat.ne_of_lt (Nat.lt_of_lt_of_le (by have := World.block_lt_of_cell? _ _ hw166_0; first | rwa [add_block] at this | exact this) GW168.out)) | (show (Addr.add _ _).block ≠ _; rw [add_block]; exact Nat.ne_of_lt (Nat.lt_of_lt_of_le (by have := World.block_lt_of_cell? _ _ hw166_0; first | rwa [add_block] at this | exact this) GW168.out)) | (dsimp only; exact Nat.ne_of_lt (Nat.lt_of_lt_of_le (by have := World.block_lt_of_cell? _ _ hw166_0; first | rwa [add_block] at this | exact this) GW168.out))) _).trans (((cell_far (p := ⟨gb168, _, none⟩) (by first | exact Nat.ne_of_lt (Nat.lt_of_lt_of_le (by have := World.block_lt_of_cell? _ _ hw166_0; first | rwa [add_block] at this | exact this) GW168.out) | (rw [add_block]; exact Nat.ne_of_lt (Nat.lt_of_lt_of_le (by have := World.block_lt_of_cell? _ _ hw166_0; first | rwa [add_block] at this | exact this) GW168.out)) | (show (Addr.add _ _).block ≠ _; rw [add_block]; exact Nat.ne_of_lt (Nat.lt_of_lt_of_le (by have := World.block_lt_of_cell? _ _ hw166_0; first | rwa [add_block] at this | exact this) GW168.out)) | (dsimp only; exact Nat.ne_of_lt (Nat.lt_of_lt_of_le (by have := World.block_lt_of_cell? _ _ hw166_0; first | rwa [add_block] at this | exact this) GW168.out))) _).trans (((cell_far (p := ⟨gb168, _, none⟩) (by first | exact Nat.ne_of_lt (Nat.lt_of_lt_of_le (by have := World.block_lt_of_cell? _ _ hw166_0; first | rwa [add_block] at this | exact this) GW168.out) | (rw [add_block]; exact Nat.ne_of_lt (Nat.lt_of_lt_of_le (by have := World.block_lt_of_cell? _ _ hw166_0; first | rwa [add_block] at this | exact this) GW168.out)) | (show (Addr.add _ _).block ≠ _; rw [add_block]; exact Nat.ne_of_lt (Nat.lt_of_lt_of_le (by have := World.block_lt_of_cell? _ _ hw166_0; first | rwa [add_block] at this | exact this) GW168.out)) | (dsimp only; exact Nat.ne_of_lt (Nat.lt_of_lt_of_le (by have := World.block_lt_of_cell? _ _ hw166_0; first | rwa [add_block] at this | exact this) GW168.out))) _).trans (hHeld.2.2.2.2.1)))))))), ((cell_far (p := ⟨gb168, _, none⟩) (by first | exact Nat.ne_of_lt (Nat.lt_of_lt_of_le (by have := World.block_lt_of_cell? _ _ hw166_1; first | rwa [add_block] at this | exact this) GW168.out) | (rw [add_block]; exact Nat.ne_of_lt (Nat.lt_of_lt_of_le (by have := World.block_lt_of_cell? _ _ hw166_1; first | rwa [add_block] at this | exact this) GW168.out)) | (show (Addr.add _ _).block ≠ _; rw [add_block]; exact Nat.ne_of_lt (Nat.lt_of_lt_of_le (by have := World.block_lt_of_cell? _ _ hw166_1; first | rwa [add_block] at this | exact this) GW168.out)) | (dsimp only; exact Nat.ne_of_lt (Nat.lt_of_lt_of_le (by have := World.block_lt_of_cell? _ _ hw166_1; first | rwa [add_block] at this | exact this) GW168.out))) _).trans (((cell_far (p := ⟨gb168, _, none⟩) (by first | exact Nat.ne_of_lt (Nat.lt_of_lt_of_le (by have := World.block_lt_of_cell? _ _ hw166_1; first | rwa [add_block] at this | exact this) GW168.out) | (rw [add_block]; exact Nat.ne_of_lt (Nat.lt_of_lt_of_le (by have := World.block_lt_of_cell? _ _ hw166_1; first | rwa [add_block] at this | exact this) GW168.out)) | (show (Addr.add _ _).block ≠ _; rw [add_block]; exact Nat.ne_of_lt (Nat.lt_of_lt_of_le (by have := World.block_lt_of_cell? _ _ hw166_1; first | rwa [add_block] at this | exact this) GW168.out)) | (dsimp only; exact Nat.ne_of_lt (Nat.lt_of_lt_of_le (by have := World.block_lt_of_cell? _ _ hw166_1; first | rwa [add_block] at this | exact this) GW168.out))) _).trans (((cell_far (p := ⟨gb168, _, none⟩) (by first | exact Nat.ne_of_lt (Nat.lt_of_lt_of_le (by have := World.block_lt_of_cell? _ _ hw166_1; first | rwa [add_block] at this | exact this) GW168.out) | (rw [add_block]; exact Nat.ne_of_lt (Nat.lt_of_lt_of_le (by have := World.block_lt_of_cell? _ _ hw166_1; first | rwa [add_block] at this | exact this) GW168.out)) | (show (Addr.add _ _).block ≠ _; rw [add_block]; exact Nat.ne_of_lt (Nat.lt_of_lt_of_le (by have := World.block_lt_of_cell? _ _ hw166_1; first | rwa [add_block] at this | exact this) GW168.out)) | (dsimp only; exact Nat.ne_of_lt (Nat.lt_of_lt_of_le (by have := World.block_lt_of_cell? _ _ hw166_1; first | rwa [add_block] at this | exact this) GW168.out))) _).trans (((cell_far (p := ⟨gb168, _, none⟩) (by first | exact Nat.ne_of_lt (Nat.lt_of_lt_of_le (by have := World.block_lt_of_cell? _ _ hw166_1; first | rwa [add_block] at this | exact this) GW168.out) | (rw [add_block]; exact Nat.ne_of_lt (Nat.lt_of_lt_of_le (by have := World.block_lt_of_cell? _ _ hw166_1; first | rwa [add_block] at this | exact this) GW168.out)) | (show (Addr.add _ _).block ≠ _; rw [add_block]; exact Nat.ne_of_lt (Nat.lt_of_lt_of_le (by have := World.block_lt_of_cell? _ _ hw166_1; first | rwa [add_block] at this | exact this) GW168.out)) | (dsimp only; exact Nat.ne_of_lt (Nat.lt_of_lt_of_le (by have := World.block_lt_of_cell? _ _ hw166_1; first | rwa [add_block] at this | exact this) GW168.out))) _).trans (hHeld.2.2.2.2.2.1)))))))), ((cell_far (p := ⟨gb168, _, none⟩) (by first | exact Nat.ne_of_lt (Nat.lt_of_lt_of_le (by have := World.block_lt_of_cell? _ _ hw166_2; first | rwa [add_block] at this | exact this) GW168.out) | (rw [add_block]; exact Nat.ne_of_lt (Nat.lt_of_lt_of_le (by have := World.block_lt_of_cell? _ _ hw166_2; first | rwa [add_block] at this | exact this) GW168.out)) | (show (Addr.add _ _).block ≠ _; rw [add_block]; exact Nat.ne_of_lt (Nat.lt_of_lt_of_le (by have := World.block_lt_of_cell? _ _ hw166_2; first | rwa [add_block] at this | exact this) GW168.out)) | (dsimp only; exact Nat.ne_of_lt (Nat.lt_of_lt_of_le (by have := World.block_lt_of_cell? _ _ hw166_2; first | rwa [add_block] at this | exact this) GW168.out))) _).trans (((cell_far (p := ⟨gb168, _, none⟩) (by first | exact Nat.ne_of_lt (Nat.lt_of_lt_of_le (by have := World.block_lt_of_cell? _ _ hw166_2; first | rwa [add_block] at this | exact this) GW168.out) | (rw [add_block]; exact Nat.ne_of_lt (Nat.lt_of_lt_of_le (by have := World.block_lt_of_cell? _ _ hw166_2; first | rwa [add_block] at this | exact this) GW168.out)) | (show (Addr.add _ _).block ≠ _; rw [add_block]; exact Nat.ne_of_lt (Nat.lt_of_lt_of_le (by have := World.block_lt_of_cell? _ _ hw166_2; first | rwa [add_block] at this | exact this) GW168.out)) | (dsimp only; exact Nat.ne_of_lt (Nat.lt_of_lt_of_le (by have := World.block_lt_of_cell? _ _ hw166_2; first | rwa [add_block] at this | exact this) GW168.out))) _).trans (((cell_far (p := ⟨gb168, _, none⟩) (by first | exact Nat.ne_of_lt (Nat.lt_of_lt_of_le (by have := World.block_lt_of_cell? _ _ hw166_2; first | rwa [add_block] at this | exact this) GW168.out) | (rw [add_block]; exact Nat.ne_of_lt (Nat.lt_of_lt_of_le (by have := World.block_lt_of_cell? _ _ hw166_2; first | rwa [add_block] at this | exact this) GW168.out)) | (show (Addr.add _ _).block ≠ _; rw [add_block]; exact Nat.ne_of_lt (Nat.lt_of_lt_of_le (by have := World.block_lt_of_cell? _ _ hw166_2; first | rwa [add_block] at this | exact this) GW168.out)) | (dsimp only; exact Nat.ne_of_lt (Nat.lt_of_lt_of_le (by have := World.block_lt_of_cell? _ _ hw166_2; first | rwa [add_block] at this | exact this) GW168.out))) _).trans (((cell_far (p := ⟨gb168, _, none⟩) (by first | exact Nat.ne_of_lt (Nat.lt_of_lt_of_le (by have := World.block_lt_of_cell? _ _ hw166_2; first | rwa [add_block] at this | exact this) GW168.out) | (rw [add_block]; exact Nat.ne_of_lt (Nat.lt_of_lt_of_le (by have := World.block_lt_of_cell? _ _ hw166_2; first | rwa [add_block] at this | exact this) GW168.out)) | (show (Addr.add _ _).block ≠ _; rw [add_block]; exact Nat.ne_of_lt (Nat.lt_of_lt_of_le (by have := World.block_lt_of_cell? _ _ hw166_2; first | rwa [add_block] at this | exact this) GW168.out)) | (dsimp only; exact Nat.ne_of_lt (Nat.lt_of_lt_of_le (by have := World.block_lt_of_cell? _ _ hw166_2; first | rwa [add_block] at this | exact this) GW168.out))) _).trans (hHeld.2.2.2.2.2.2.1)))))))), ((cell_far (p := ⟨gb168, _, none⟩) (by first | exact Nat.ne_of_lt (Nat.lt_of_lt_of_le (by have := World.block_lt_of_cell? _ _ hw166_3; first | rwa [add_block] at this | exact this) GW168.out) | (rw [add_block]; exact Nat.ne_of_lt (Nat.lt_of_lt_of_le (by have := World.block_lt_of_cell? _ _ hw166_3; first | rwa [add_block] at this | exact this) GW168.out)) | (show (Addr.add _ _).block ≠ _; rw [add_block]; exact Nat.ne_of_lt (Nat.lt_of_lt_of_le (by have := World.block_lt_of_cell? _ _ hw166_3; first | rwa [add_block] at this | exact this) GW168.out)) | (dsimp only; exact Nat.ne_of_lt (Nat.lt_of_lt_of_le (by have := World.block_lt_of_cell? _ _ hw166_3; first | rwa [add_block] at this | exact this) GW168.out))) _).trans (((cell_far (p := ⟨gb168, _, none⟩) (by first | exact Nat.ne_of_lt (Nat.lt_of_lt_of_le (by have := World.block_lt_of_cell? _ _ hw166_3; first | rwa [add_block] at this | exact this) GW168.out) | (rw [add_block]; exact Nat.ne_of_lt (Nat.lt_of_lt_of_le (by have := World.block_lt_of_cell? _ _ hw166_3; first | rwa [add_block] at this | exact this) GW168.out)) | (show (Addr.add _ _).block ≠ _; rw [add_block]; exact Nat.ne_of_lt (Nat.lt_of_lt_of_le (by have := World.block_lt_of_cell? _ _ hw166_3; first | rwa [add_block] at this | exact this) GW168.out)) | (dsimp only; exact Nat.ne_of_lt (Nat.lt_of_lt_of_le (by have := World.block_lt_of_cell? _ _ hw166_3; first | rwa [add_block] at this | exact this) GW168.out))) _).trans (((cell_far (p := ⟨gb168, _, none⟩) (by first | exact Nat.ne_of_lt (Nat.lt_of_lt_of_le (by have := World.block_lt_of_cell? _ _ hw166_3; first | rwa [add_block] at this | exact this) GW168.out) | (rw [add_block]; exact Nat.ne_of_lt (Nat.lt_of_lt_of_le (by have := World.block_lt_of_cell? _ _ hw166_3; first | rwa [add_block] at this | exact this) GW168.out)) | (show (Addr.add _ _).block ≠ _; rw [add_block]; exact Nat.ne_of_lt (Nat.lt_of_lt_of_le (by have := World.block_lt_of_cell? _ _ hw166_3; first | rwa [add_block] at this | exact this) GW168.out)) | (dsimp only; exact Nat.ne_of_lt (Nat.lt_of_lt_of_le (by have := World.block_lt_of_cell? _ _ hw166_3; first | rwa [add_block] at this | exact this) GW168.out))) _).trans (((cell_far (p := ⟨gb168, _, none⟩) (by first | exact Nat.ne_of_lt (Nat.lt_of_lt_of_le (by have := World.block_lt_of_cell? _ _ hw166_3; first | rwa [add_block] at this | exact this) GW168.out) | (rw [add_block]; exact Nat.ne_of_lt (Nat.lt_of_lt_of_le (by have := World.block_lt_of_cell? _ _ hw166_3; first | rwa [add_block] at this | exact this) GW168.out)) | (show (Addr.add _ _).block ≠ _; rw [add_block]; exact Nat.ne_of_lt (Nat.lt_of_lt_of_le (by have := World.block_lt_of_cell? _ _ hw166_3; first | rwa [add_block] at this | exact this) GW168.out)) | (dsimp only; exact Nat.ne_of_lt (Nat.lt_of_lt_of_le (by have := World.block_lt_of_cell? _ _ hw166_3; first | rwa [add_block] at this | exact this) GW168.out))) _).trans (hHeld.2.2.2.2.2.2.2))))))))⟩ (fun hHeld => ?_)
              clear hK K
              refine done_ (done_of HT_.out (by kernel_rfl)) ?_
              have hnbzc1 := NB167_164.out
              have hnczc1 := NB164_167.out
              have hnbzc2 := NB167_168.out
              have hnczc2 := NB168_167.out
              have hczzc1 : wzc4.cell? ⟨gb167, 0, none⟩ = some (.int .i64 0) := (blk_cell BK167.out 0).trans rfl
              have hczzc2 : wzc4.cell? ⟨gb167, 1, none⟩ = some (.int .i64 0) := (blk_cell BK167.out 1).trans rfl
              have hczzc3 : wzc4.cell? ⟨gb167, 2, none⟩ = some (.int .i64 0) := (blk_cell BK167.out 2).trans rfl
              have hczzc4 : wzc4.cell? ⟨gb167, 3, none⟩ = some (.int .i64 0) := (blk_cell BK167.out 3).trans rfl
              have hfzzc1 := blk_frozen BK167.out 0
              have hfzzc2 := blk_frozen BK167.out 1
              have hfzzc3 := blk_frozen BK167.out 2
              have hfzzc4 := blk_frozen BK167.out 3
              have hnbzc3 := NB168_164.out
              have hnczc3 := NB164_168.out
              have hczzc5 : wzc4.cell? ⟨gb168, 0, none⟩ = some (.int .i64 0) := (blk_cell BK168.out 0).trans rfl
              have hczzc6 : wzc4.cell? ⟨gb168, 1, none⟩ = some (.int .i64 0) := (blk_cell BK168.out 1).trans rfl
              have hczzc7 : wzc4.cell? ⟨gb168, 2, none⟩ = some (.int .i64 0) := (blk_cell BK168.out 2).trans rfl
              have hczzc8 : wzc4.cell? ⟨gb168, 3, none⟩ = some (.int .i64 0) := (blk_cell BK168.out 3).trans rfl
              have hfzzc5 := blk_frozen BK168.out 0
              have hfzzc6 := blk_frozen BK168.out 1
              have hfzzc7 := blk_frozen BK168.out 2
              have hfzzc8 := blk_frozen BK168.out 3
              try go_wp2_with (first | ((with_reducible refine gate_callee (f := 35) rfl ?_); refine goesL_ (some 64) rfl rfl Try.func35 (by kernel_rfl) rfl #[.agg #[.int .i64 ((rd_T49 l0 (ji12)).f1.f0), .int .i64 ((rd_T49 l0 (ji12)).f1.f1)], .agg #[.int .i64 ((rd_T49 l0 x7_1).f1.f0), .int .i64 ((rd_T49 l0 x7_1).f1.f1)], .int .i64 (wrap64 (a1 - ((rd_T49 l0 (ji12)).f0))), .int .i64 (wrap64 (((rd_T49 l0 x7_1).f0) - ((rd_T49 l0 (ji12)).f0)))] rfl (by (try simp only [List.map_toArray, List.map_cons, List.map_nil]); first | done | (simp only [hji12]; rfl) | rfl | (simp only [List.length_drop, List.length_take]; rfl)) ?_; (with_reducible refine (plane_Toward.calls k1 ((rd_T49 l0 (ji12)).f1.f0) ((rd_T49 l0 (ji12)).f1.f1) ((rd_T49 l0 x7_1).f1.f0) ((rd_T49 l0 x7_1).f1.f1) (wrap64 (a1 - ((rd_T49 l0 (ji12)).f0))) (wrap64 (((rd_T49 l0 x7_1).f0) - ((rd_T49 l0 (ji12)).f0))) t169 t170 t171 _ A50.out).mono ?_); rintro e wx2cf81 ⟨rfl, hb⟩; refine ⟨_, rfl, ?_⟩; have n0_ := Aside0.mk (blk_below (g := gb164) (o := .cells #[.int .i64 t159, .int .i64 t160, .int .i64 t161, .int .i64 t162] 49 (0, 0)) (by (with_reducible repeat (first | refine blk_drewN ?_ _ | refine blk_drew ?_ | refine blk_alloc ?_ _)); refine blk_far ?_ NB164_168.out _; (with_reducible repeat (first | refine blk_drewN ?_ _ | refine blk_drew ?_ | refine blk_alloc ?_ _)); refine blk_far ?_ NB164_168.out _; (with_reducible repeat (first | refine blk_drewN ?_ _ | refine blk_drew ?_ | refine blk_alloc ?_ _)); refine blk_far ?_ NB164_168.out _; (with_reducible repeat (first | refine blk_drewN ?_ _ | refine blk_drew ?_ | refine blk_alloc ?_ _)); refine blk_far ?_ NB164_168.out _; (with_reducible repeat (first | refine blk_drewN ?_ _ | refine blk_drew ?_ | refine blk_alloc ?_ _)); refine blk_far ?_ NB164_167.out _; (with_reducible repeat (first | refine blk_drewN ?_ _ | refine blk_drew ?_ | refine blk_alloc ?_ _)); refine blk_far ?_ NB164_167.out _; (with_reducible repeat (first | refine blk_drewN ?_ _ | refine blk_drew ?_ | refine blk_alloc ?_ _)); refine blk_far ?_ NB164_167.out _; (with_reducible repeat (first | refine blk_drewN ?_ _ | refine blk_drew ?_ | refine blk_alloc ?_ _)); refine blk_far ?_ NB164_167.out _; (with_reducible repeat (first | refine blk_drewN ?_ _ | refine blk_drew ?_ | refine blk_alloc ?_ _)); exact BK164.out) hb); have n1_ := Aside0.mk (blk_below (g := gb167) (o := .cells #[.int .i64 ((rd_T49 l0 (ji12)).f0), .int .i64 ((rd_T49 l0 (ji12)).f1.f0), .int .i64 ((rd_T49 l0 (ji12)).f1.f1), .int .i64 ((rd_T49 l0 (ji12)).f2)] 49 (0, 0)) (by (with_reducible repeat (first | refine blk_drewN ?_ _ | refine blk_drew ?_ | refine blk_alloc ?_ _)); refine blk_far ?_ NB167_168.out _; (with_reducible repeat (first | refine blk_drewN ?_ _ | refine blk_drew ?_ | refine blk_alloc ?_ _)); refine blk_far ?_ NB167_168.out _; (with_reducible repeat (first | refine blk_drewN ?_ _ | refine blk_drew ?_ | refine blk_alloc ?_ _)); refine blk_far ?_ NB167_168.out _; (with_reducible repeat (first | refine blk_drewN ?_ _ | refine blk_drew ?_ | refine blk_alloc ?_ _)); refine blk_far ?_ NB167_168.out _; (with_reducible repeat (first | refine blk_drewN ?_ _ | refine blk_drew ?_ | refine blk_alloc ?_ _)); refine blk_put (cs := #[.int .i64 ((rd_T49 l0 (ji12)).f0), .int .i64 ((rd_T49 l0 (ji12)).f1.f0), .int .i64 ((rd_T49 l0 (ji12)).f1.f1), .int .i64 0]) ?_ 3 _ rfl; (with_reducible repeat (first | refine blk_drewN ?_ _ | refine blk_drew ?_ | refine blk_alloc ?_ _)); refine blk_put (cs := #[.int .i64 ((rd_T49 l0 (ji12)).f0), .int .i64 ((rd_T49 l0 (ji12)).f1.f0), .int .i64 0, .int .i64 0]) ?_ 2 _ rfl; (with_reducible repeat (first | refine blk_drewN ?_ _ | refine blk_drew ?_ | refine blk_alloc ?_ _)); refine blk_put (cs := #[.int .i64 ((rd_T49 l0 (ji12)).f0), .int .i64 0, .int .i64 0, .int .i64 0]) ?_ 1 _ rfl; (with_reducible repeat (first | refine blk_drewN ?_ _ | refine blk_drew ?_ | refine blk_alloc ?_ _)); refine blk_put (cs := #[.int .i64 0, .int .i64 0, .int .i64 0, .int .i64 0]) ?_ 0 _ rfl; (with_reducible repeat (first | refine blk_drewN ?_ _ | refine blk_drew ?_ | refine blk_alloc ?_ _)); exact BK167.out) hb); have n2_ := Aside0.mk (blk_below (g := gb168) (o := .cells #[.int .i64 ((rd_T49 l0 x7_1).f0), .int .i64 ((rd_T49 l0 x7_1).f1.f0), .int .i64 ((rd_T49 l0 x7_1).f1.f1), .int .i64 ((rd_T49 l0 x7_1).f2)] 49 (0, 0)) (by (with_reducible repeat (first | refine blk_drewN ?_ _ | refine blk_drew ?_ | refine blk_alloc ?_ _)); refine blk_put (cs := #[.int .i64 ((rd_T49 l0 x7_1).f0), .int .i64 ((rd_T49 l0 x7_1).f1.f0), .int .i64 ((rd_T49 l0 x7_1).f1.f1), .int .i64 0]) ?_ 3 _ rfl; (with_reducible repeat (first | refine blk_drewN ?_ _ | refine blk_drew ?_ | refine blk_alloc ?_ _)); refine blk_put (cs := #[.int .i64 ((rd_T49 l0 x7_1).f0), .int .i64 ((rd_T49 l0 x7_1).f1.f0), .int .i64 0, .int .i64 0]) ?_ 2 _ rfl; (with_reducible repeat (first | refine blk_drewN ?_ _ | refine blk_drew ?_ | refine blk_alloc ?_ _)); refine blk_put (cs := #[.int .i64 ((rd_T49 l0 x7_1).f0), .int .i64 0, .int .i64 0, .int .i64 0]) ?_ 1 _ rfl; (with_reducible repeat (first | refine blk_drewN ?_ _ | refine blk_drew ?_ | refine blk_alloc ?_ _)); refine blk_put (cs := #[.int .i64 0, .int .i64 0, .int .i64 0, .int .i64 0]) ?_ 0 _ rfl; (with_reducible repeat (first | refine blk_drewN ?_ _ | refine blk_drew ?_ | refine blk_alloc ?_ _)); refine blk_far ?_ NB168_167.out _; (with_reducible repeat (first | refine blk_drewN ?_ _ | refine blk_drew ?_ | refine blk_alloc ?_ _)); refine blk_far ?_ NB168_167.out _; (with_reducible repeat (first | refine blk_drewN ?_ _ | refine blk_drew ?_ | refine blk_alloc ?_ _)); refine blk_far ?_ NB168_167.out _; (with_reducible repeat (first | refine blk_drewN ?_ _ | refine blk_drew ?_ | refine blk_alloc ?_ _)); refine blk_far ?_ NB168_167.out _; (with_reducible repeat (first | refine blk_drewN ?_ _ | refine blk_drew ?_ | refine blk_alloc ?_ _)); exact BK168.out) hb); have n3_ := Aside0.mk (below_step (by repeat (first | (with_reducible first | exact HB.out | apply below_alloc | apply pw_below_drewN | apply below_drew1 | refine below_set ?_ GE164.out | refine below_set ?_ GE167.out | refine below_set ?_ GE168.out) | exact HB.out)) hb); clear BK164; clear BK167; clear BK168; clear HB; have BK164 := n0_; have BK167 := n1_; have BK168 := n2_; have HB := n3_; clear n0_ n1_ n2_ n3_; (try clear hb); (try clear hb2); (try clear hk); (try clear hi)) | ((with_reducible refine gate_dst (N := 10) rfl ?_); (try (refine gate_guard (by rfl) ?_; dsimp only)); refine box_event ?hg (N := 10) ?hd (cs := #[.int .i64 0, .int .i64 0]) (t := 37) ?hr ?_; (case hd => rfl); (case hg => rfl); (case hr => first | (go_simp; done) | (go_simp; rfl)); intro gb172 hg wxed8c1 hbox hb; have n0_ := Aside0.mk (blk_below (g := gb164) (o := .cells #[.int .i64 t159, .int .i64 t160, .int .i64 t161, .int .i64 t162] 49 (0, 0)) (by (with_reducible repeat (first | refine blk_drewN ?_ _ | refine blk_drew ?_ | refine blk_alloc ?_ _)); exact BK164.out) hb); have n1_ := Aside0.mk (blk_below (g := gb167) (o := .cells #[.int .i64 ((rd_T49 l0 (ji12)).f0), .int .i64 ((rd_T49 l0 (ji12)).f1.f0), .int .i64 ((rd_T49 l0 (ji12)).f1.f1), .int .i64 ((rd_T49 l0 (ji12)).f2)] 49 (0, 0)) (by (with_reducible repeat (first | refine blk_drewN ?_ _ | refine blk_drew ?_ | refine blk_alloc ?_ _)); exact BK167.out) hb); have n2_ := Aside0.mk (blk_below (g := gb168) (o := .cells #[.int .i64 ((rd_T49 l0 x7_1).f0), .int .i64 ((rd_T49 l0 x7_1).f1.f0), .int .i64 ((rd_T49 l0 x7_1).f1.f1), .int .i64 ((rd_T49 l0 x7_1).f2)] 49 (0, 0)) (by (with_reducible repeat (first | refine blk_drewN ?_ _ | refine blk_drew ?_ | refine blk_alloc ?_ _)); exact BK168.out) hb); have n3_ := Aside0.mk (below_step (by repeat (first | (with_reducible first | exact HB.out | apply below_alloc | apply pw_below_drewN | apply below_drew1 | refine below_set ?_ GE164.out | refine below_set ?_ GE167.out | refine below_set ?_ GE168.out) | exact HB.out)) hb); have n4_ := Aside0.mk (hbox); have n5_ := Aside0.mk ((by rw [hg]; exact (below_size (by repeat (first | (with_reducible first | exact HB.out | apply below_alloc | apply pw_below_drewN | apply below_drew1 | refine below_set ?_ GE164.out | refine below_set ?_ GE167.out | refine below_set ?_ GE168.out) | exact HB.out))) : w.heap.size ≤ gb172)); have n6_ := Aside0.mk ((by rw [hg]; exact (below_size (by repeat (first | (with_reducible first | exact HB.out | apply below_alloc | apply pw_below_drewN | apply below_drew1 | refine below_set ?_ GE164.out | refine below_set ?_ GE167.out | refine below_set ?_ GE168.out) | exact HB.out))) : w.heap.size ≤ gb172)); have n7_ := Aside0.mk ((by rw [hg]; exact Nat.ne_of_lt (blk_lt (g := gb164) (o := .cells #[.int .i64 t159, .int .i64 t160, .int .i64 t161, .int .i64 t162] 49 (0, 0)) (by (with_reducible repeat (first | refine blk_drewN ?_ _ | refine blk_drew ?_ | refine blk_alloc ?_ _)); exact BK164.out)) : gb164 ≠ gb172)); have n8_ := Aside0.mk ((by rw [hg]; exact Nat.ne_of_gt (blk_lt (g := gb164) (o := .cells #[.int .i64 t159, .int .i64 t160, .int .i64 t161, .int .i64 t162] 49 (0, 0)) (by (with_reducible repeat (first | refine blk_drewN ?_ _ | refine blk_drew ?_ | refine blk_alloc ?_ _)); exact BK164.out)) : gb172 ≠ gb164)); have n9_ := Aside0.mk ((by rw [hg]; exact Nat.ne_of_lt (blk_lt (g := gb167) (o := .cells #[.int .i64 ((rd_T49 l0 (ji12)).f0), .int .i64 ((rd_T49 l0 (ji12)).f1.f0), .int .i64 ((rd_T49 l0 (ji12)).f1.f1), .int .i64 ((rd_T49 l0 (ji12)).f2)] 49 (0, 0)) (by (with_reducible repeat (first | refine blk_drewN ?_ _ | refine blk_drew ?_ | refine blk_alloc ?_ _)); exact BK167.out)) : gb167 ≠ gb172)); have n10_ := Aside0.mk ((by rw [hg]; exact Nat.ne_of_gt (blk_lt (g := gb167) (o := .cells #[.int .i64 ((rd_T49 l0 (ji12)).f0), .int .i64 ((rd_T49 l0 (ji12)).f1.f0), .int .i64 ((rd_T49 l0 (ji12)).f1.f1), .int .i64 ((rd_T49 l0 (ji12)).f2)] 49 (0, 0)) (by (with_reducible repeat (first | refine blk_drewN ?_ _ | refine blk_drew ?_ | refine blk_alloc ?_ _)); exact BK167.out)) : gb172 ≠ gb167)); have n11_ := Aside0.mk ((by rw [hg]; exact Nat.ne_of_lt (blk_lt (g := gb168) (o := .cells #[.int .i64 ((rd_T49 l0 x7_1).f0), .int .i64 ((rd_T49 l0 x7_1).f1.f0), .int .i64 ((rd_T49 l0 x7_1).f1.f1), .int .i64 ((rd_T49 l0 x7_1).f2)] 49 (0, 0)) (by (with_reducible repeat (first | refine blk_drewN ?_ _ | refine blk_drew ?_ | refine blk_alloc ?_ _)); exact BK168.out)) : gb168 ≠ gb172)); have n12_ := Aside0.mk ((by rw [hg]; exact Nat.ne_of_gt (blk_lt (g := gb168) (o := .cells #[.int .i64 ((rd_T49 l0 x7_1).f0), .int .i64 ((rd_T49 l0 x7_1).f1.f0), .int .i64 ((rd_T49 l0 x7_1).f1.f1), .int .i64 ((rd_T49 l0 x7_1).f2)] 49 (0, 0)) (by (with_reducible repeat (first | refine blk_drewN ?_ _ | refine blk_drew ?_ | refine blk_alloc ?_ _)); exact BK168.out)) : gb172 ≠ gb168)); clear BK164; clear BK167; clear BK168; clear HB; have BK164 := n0_; have BK167 := n1_; have BK168 := n2_; have HB := n3_; have BK172 := n4_; have GW172 := n5_; have GE172 := n6_; have NB164_172 := n7_; have NB172_164 := n8_; have NB167_172 := n9_; have NB172_167 := n10_; have NB168_172 := n11_; have NB172_168 := n12_; clear n0_ n1_ n2_ n3_ n4_ n5_ n6_ n7_ n8_ n9_ n10_ n11_ n12_; clear hb hbox hg; have hnbxed8c1 := NB172_164.out; have hncxed8c1 := NB164_172.out; have hnbxed8c2 := NB172_167.out; have hncxed8c2 := NB167_172.out; have hnbxed8c3 := NB172_168.out; have hncxed8c3 := NB168_172.out; have hczxed8c1 : wxed8c1.cell? ⟨gb172, 0, none⟩ = some (.int .i64 0) := (blk_cell BK172.out 0).trans rfl; have hczxed8c2 : wxed8c1.cell? ⟨gb172, 1, none⟩ = some (.int .i64 0) := (blk_cell BK172.out 1).trans rfl; have hfzxed8c1 := blk_frozen BK172.out 0; have hfzxed8c2 := blk_frozen BK172.out 1; have hczxed8c3 : wxed8c1.cell? ⟨gb164, 0, none⟩ = some (.int .i64 t159) := (blk_cell BK164.out 0).trans rfl; have hczxed8c4 : wxed8c1.cell? ⟨gb164, 1, none⟩ = some (.int .i64 t160) := (blk_cell BK164.out 1).trans rfl; have hczxed8c5 : wxed8c1.cell? ⟨gb164, 2, none⟩ = some (.int .i64 t161) := (blk_cell BK164.out 2).trans rfl; have hczxed8c6 : wxed8c1.cell? ⟨gb164, 3, none⟩ = some (.int .i64 t162) := (blk_cell BK164.out 3).trans rfl; have hfzxed8c3 := blk_frozen BK164.out 0; have hfzxed8c4 := blk_frozen BK164.out 1; have hfzxed8c5 := blk_frozen BK164.out 2; have hfzxed8c6 := blk_frozen BK164.out 3; have hczxed8c7 : wxed8c1.cell? ⟨gb167, 0, none⟩ = some (.int .i64 ((rd_T49 l0 (ji12)).f0)) := (blk_cell BK167.out 0).trans rfl; have hczxed8c8 : wxed8c1.cell? ⟨gb167, 1, none⟩ = some (.int .i64 ((rd_T49 l0 (ji12)).f1.f0)) := (blk_cell BK167.out 1).trans rfl; have hczxed8c9 : wxed8c1.cell? ⟨gb167, 2, none⟩ = some (.int .i64 ((rd_T49 l0 (ji12)).f1.f1)) := (blk_cell BK167.out 2).trans rfl; have hczxed8c10 : wxed8c1.cell? ⟨gb167, 3, none⟩ = some (.int .i64 ((rd_T49 l0 (ji12)).f2)) := (blk_cell BK167.out 3).trans rfl; have hfzxed8c7 := blk_frozen BK167.out 0; have hfzxed8c8 := blk_frozen BK167.out 1; have hfzxed8c9 := blk_frozen BK167.out 2; have hfzxed8c10 := blk_frozen BK167.out 3; have hczxed8c11 : wxed8c1.cell? ⟨gb168, 0, none⟩ = some (.int .i64 ((rd_T49 l0 x7_1).f0)) := (blk_cell BK168.out 0).trans rfl; have hczxed8c12 : wxed8c1.cell? ⟨gb168, 1, none⟩ = some (.int .i64 ((rd_T49 l0 x7_1).f1.f0)) := (blk_cell BK168.out 1).trans rfl; have hczxed8c13 : wxed8c1.cell? ⟨gb168, 2, none⟩ = some (.int .i64 ((rd_T49 l0 x7_1).f1.f1)) := (blk_cell BK168.out 2).trans rfl; have hczxed8c14 : wxed8c1.cell? ⟨gb168, 3, none⟩ = some (.int .i64 ((rd_T49 l0 x7_1).f2)) := (blk_cell BK168.out 3).trans rfl; have hfzxed8c11 := blk_frozen BK168.out 0; have hfzxed8c12 := blk_frozen BK168.out 1; have hfzxed8c13 := blk_frozen BK168.out 2; have hfzxed8c14 := blk_frozen BK168.out 3) | ((with_reducible refine gate_dst (N := 10) rfl ?_); (try (refine gate_guard (by rfl) ?_; dsimp only)); refine box_event ?hg (N := 10) ?hd (cs := #[.int .i64 0, .int .i64 0]) (t := 37) ?hr ?_; (case hd => rfl); (case hg => rfl); (case hr => first | (go_simp; done) | (go_simp; rfl)); intro gb172 hg wx34771 hbox hb; have n0_ := Aside0.mk (blk_below (g := gb164) (o := .cells #[.int .i64 t159, .int .i64 t160, .int .i64 t161, .int .i64 t162] 49 (0, 0)) (by (with_reducible repeat (first | refine blk_drewN ?_ _ | refine blk_drew ?_ | refine blk_alloc ?_ _)); exact BK164.out) hb); have n1_ := Aside0.mk (blk_below (g := gb167) (o := .cells #[.int .i64 ((rd_T49 l0 (ji12)).f0), .int .i64 ((rd_T49 l0 (ji12)).f1.f0), .int .i64 ((rd_T49 l0 (ji12)).f1.f1), .int .i64 ((rd_T49 l0 (ji12)).f2)] 49 (0, 0)) (by (with_reducible repeat (first | refine blk_drewN ?_ _ | refine blk_drew ?_ | refine blk_alloc ?_ _)); exact BK167.out) hb); have n2_ := Aside0.mk (blk_below (g := gb168) (o := .cells #[.int .i64 ((rd_T49 l0 x7_1).f0), .int .i64 ((rd_T49 l0 x7_1).f1.f0), .int .i64 ((rd_T49 l0 x7_1).f1.f1), .int .i64 ((rd_T49 l0 x7_1).f2)] 49 (0, 0)) (by (with_reducible repeat (first | refine blk_drewN ?_ _ | refine blk_drew ?_ | refine blk_alloc ?_ _)); exact BK168.out) hb); have n3_ := Aside0.mk (below_step (by repeat (first | (with_reducible first | exact HB.out | apply below_alloc | apply pw_below_drewN | apply below_drew1 | refine below_set ?_ GE164.out | refine below_set ?_ GE167.out | refine below_set ?_ GE168.out) | exact HB.out)) hb); have n4_ := Aside0.mk (hbox); have n5_ := Aside0.mk ((by rw [hg]; exact (below_size (by repeat (first | (with_reducible first | exact HB.out | apply below_alloc | apply pw_below_drewN | apply below_drew1 | refine below_set ?_ GE164.out | refine below_set ?_ GE167.out | refine below_set ?_ GE168.out) | exact HB.out))) : w.heap.size ≤ gb172)); have n6_ := Aside0.mk ((by rw [hg]; exact (below_size (by repeat (first | (with_reducible first | exact HB.out | apply below_alloc | apply pw_below_drewN | apply below_drew1 | refine below_set ?_ GE164.out | refine below_set ?_ GE167.out | refine below_set ?_ GE168.out) | exact HB.out))) : w.heap.size ≤ gb172)); have n7_ := Aside0.mk ((by rw [hg]; exact Nat.ne_of_lt (blk_lt (g := gb164) (o := .cells #[.int .i64 t159, .int .i64 t160, .int .i64 t161, .int .i64 t162] 49 (0, 0)) (by (with_reducible repeat (first | refine blk_drewN ?_ _ | refine blk_drew ?_ | refine blk_alloc ?_ _)); exact BK164.out)) : gb164 ≠ gb172)); have n8_ := Aside0.mk ((by rw [hg]; exact Nat.ne_of_gt (blk_lt (g := gb164) (o := .cells #[.int .i64 t159, .int .i64 t160, .int .i64 t161, .int .i64 t162] 49 (0, 0)) (by (with_reducible repeat (first | refine blk_drewN ?_ _ | refine blk_drew ?_ | refine blk_alloc ?_ _)); exact BK164.out)) : gb172 ≠ gb164)); have n9_ := Aside0.mk ((by rw [hg]; exact Nat.ne_of_lt (blk_lt (g := gb167) (o := .cells #[.int .i64 ((rd_T49 l0 (ji12)).f0), .int .i64 ((rd_T49 l0 (ji12)).f1.f0), .int .i64 ((rd_T49 l0 (ji12)).f1.f1), .int .i64 ((rd_T49 l0 (ji12)).f2)] 49 (0, 0)) (by (with_reducible repeat (first | refine blk_drewN ?_ _ | refine blk_drew ?_ | refine blk_alloc ?_ _)); exact BK167.out)) : gb167 ≠ gb172)); have n10_ := Aside0.mk ((by rw [hg]; exact Nat.ne_of_gt (blk_lt (g := gb167) (o := .cells #[.int .i64 ((rd_T49 l0 (ji12)).f0), .int .i64 ((rd_T49 l0 (ji12)).f1.f0), .int .i64 ((rd_T49 l0 (ji12)).f1.f1), .int .i64 ((rd_T49 l0 (ji12)).f2)] 49 (0, 0)) (by (with_reducible repeat (first | refine blk_drewN ?_ _ | refine blk_drew ?_ | refine blk_alloc ?_ _)); exact BK167.out)) : gb172 ≠ gb167)); have n11_ := Aside0.mk ((by rw [hg]; exact Nat.ne_of_lt (blk_lt (g := gb168) (o := .cells #[.int .i64 ((rd_T49 l0 x7_1).f0), .int .i64 ((rd_T49 l0 x7_1).f1.f0), .int .i64 ((rd_T49 l0 x7_1).f1.f1), .int .i64 ((rd_T49 l0 x7_1).f2)] 49 (0, 0)) (by (with_reducible repeat (first | refine blk_drewN ?_ _ | refine blk_drew ?_ | refine blk_alloc ?_ _)); exact BK168.out)) : gb168 ≠ gb172)); have n12_ := Aside0.mk ((by rw [hg]; exact Nat.ne_of_gt (blk_lt (g := gb168) (o := .cells #[.int .i64 ((rd_T49 l0 x7_1).f0), .int .i64 ((rd_T49 l0 x7_1).f1.f0), .int .i64 ((rd_T49 l0 x7_1).f1.f1), .int .i64 ((rd_T49 l0 x7_1).f2)] 49 (0, 0)) (by (with_reducible repeat (first | refine blk_drewN ?_ _ | refine blk_drew ?_ | refine blk_alloc ?_ _)); exact BK168.out)) : gb172 ≠ gb168)); clear BK164; clear BK167; clear BK168; clear HB; have BK164 := n0_; have BK167 := n1_; have BK168 := n2_; have HB := n3_; have BK172 := n4_; have GW172 := n5_; have GE172 := n6_; have NB164_172 := n7_; have NB172_164 := n8_; have NB167_172 := n9_; have NB172_167 := n10_; have NB168_172 := n11_; have NB172_168 := n12_; clear n0_ n1_ n2_ n3_ n4_ n5_ n6_ n7_ n8_ n9_ n10_ n11_ n12_; clear hb hbox hg; have hnbx34771 := NB172_164.out; have hncx34771 := NB164_172.out; have hnbx34772 := NB172_167.out; have hncx34772 := NB167_172.out; have hnbx34773 := NB172_168.out; have hncx34773 := NB168_172.out; have hczx34771 : wx34771.cell? ⟨gb172, 0, none⟩ = some (.int .i64 0) := (blk_cell BK172.out 0).trans rfl; have hczx34772 : wx34771.cell? ⟨gb172, 1, none⟩ = some (.int .i64 0) := (blk_cell BK172.out 1).trans rfl; have hfzx34771 := blk_frozen BK172.out 0; have hfzx34772 := blk_frozen BK172.out 1; have hczx34773 : wx34771.cell? ⟨gb164, 0, none⟩ = some (.int .i64 t159) := (blk_cell BK164.out 0).trans rfl; have hczx34774 : wx34771.cell? ⟨gb164, 1, none⟩ = some (.int .i64 t160) := (blk_cell BK164.out 1).trans rfl; have hczx34775 : wx34771.cell? ⟨gb164, 2, none⟩ = some (.int .i64 t161) := (blk_cell BK164.out 2).trans rfl; have hczx34776 : wx34771.cell? ⟨gb164, 3, none⟩ = some (.int .i64 t162) := (blk_cell BK164.out 3).trans rfl; have hfzx34773 := blk_frozen BK164.out 0; have hfzx34774 := blk_frozen BK164.out 1; have hfzx34775 := blk_frozen BK164.out 2; have hfzx34776 := blk_frozen BK164.out 3) | ((with_reducible refine gate_dst (N := 10) rfl ?_); (try (refine gate_guard (by rfl) ?_; dsimp only)); refine box_event ?hg (N := 10) ?hd (cs := #[.int .i64 0, .int .i64 0]) (t := 37) ?hr ?_; (case hd => rfl); (case hg => rfl); (case hr => first | (go_simp; done) | (go_simp; rfl)); intro gb172 hg wx7c021 hbox hb; have n0_ := Aside0.mk (blk_below (g := gb164) (o := .cells #[.int .i64 t159, .int .i64 t160, .int .i64 t161, .int .i64 t162] 49 (0, 0)) (by (with_reducible repeat (first | refine blk_drewN ?_ _ | refine blk_drew ?_ | refine blk_alloc ?_ _)); exact BK164.out) hb); have n1_ := Aside0.mk (blk_below (g := gb167) (o := .cells #[.int .i64 ((rd_T49 l0 (ji12)).f0), .int .i64 ((rd_T49 l0 (ji12)).f1.f0), .int .i64 ((rd_T49 l0 (ji12)).f1.f1), .int .i64 ((rd_T49 l0 (ji12)).f2)] 49 (0, 0)) (by (with_reducible repeat (first | refine blk_drewN ?_ _ | refine blk_drew ?_ | refine blk_alloc ?_ _)); exact BK167.out) hb); have n2_ := Aside0.mk (blk_below (g := gb168) (o := .cells #[.int .i64 ((rd_T49 l0 x7_1).f0), .int .i64 ((rd_T49 l0 x7_1).f1.f0), .int .i64 ((rd_T49 l0 x7_1).f1.f1), .int .i64 ((rd_T49 l0 x7_1).f2)] 49 (0, 0)) (by (with_reducible repeat (first | refine blk_drewN ?_ _ | refine blk_drew ?_ | refine blk_alloc ?_ _)); exact BK168.out) hb); have n3_ := Aside0.mk (below_step (by repeat (first | (with_reducible first | exact HB.out | apply below_alloc | apply pw_below_drewN | apply below_drew1 | refine below_set ?_ GE164.out | refine below_set ?_ GE167.out | refine below_set ?_ GE168.out) | exact HB.out)) hb); have n4_ := Aside0.mk (hbox); have n5_ := Aside0.mk ((by rw [hg]; exact (below_size (by repeat (first | (with_reducible first | exact HB.out | apply below_alloc | apply pw_below_drewN | apply below_drew1 | refine below_set ?_ GE164.out | refine below_set ?_ GE167.out | refine below_set ?_ GE168.out) | exact HB.out))) : w.heap.size ≤ gb172)); have n6_ := Aside0.mk ((by rw [hg]; exact (below_size (by repeat (first | (with_reducible first | exact HB.out | apply below_alloc | apply pw_below_drewN | apply below_drew1 | refine below_set ?_ GE164.out | refine below_set ?_ GE167.out | refine below_set ?_ GE168.out) | exact HB.out))) : w.heap.size ≤ gb172)); have n7_ := Aside0.mk ((by rw [hg]; exact Nat.ne_of_lt (blk_lt (g := gb164) (o := .cells #[.int .i64 t159, .int .i64 t160, .int .i64 t161, .int .i64 t162] 49 (0, 0)) (by (with_reducible repeat (first | refine blk_drewN ?_ _ | refine blk_drew ?_ | refine blk_alloc ?_ _)); exact BK164.out)) : gb164 ≠ gb172)); have n8_ := Aside0.mk ((by rw [hg]; exact Nat.ne_of_gt (blk_lt (g := gb164) (o := .cells #[.int .i64 t159, .int .i64 t160, .int .i64 t161, .int .i64 t162] 49 (0, 0)) (by (with_reducible repeat (first | refine blk_drewN ?_ _ | refine blk_drew ?_ | refine blk_alloc ?_ _)); exact BK164.out)) : gb172 ≠ gb164)); have n9_ := Aside0.mk ((by rw [hg]; exact Nat.ne_of_lt (blk_lt (g := gb167) (o := .cells #[.int .i64 ((rd_T49 l0 (ji12)).f0), .int .i64 ((rd_T49 l0 (ji12)).f1.f0), .int .i64 ((rd_T49 l0 (ji12)).f1.f1), .int .i64 ((rd_T49 l0 (ji12)).f2)] 49 (0, 0)) (by (with_reducible repeat (first | refine blk_drewN ?_ _ | refine blk_drew ?_ | refine blk_alloc ?_ _)); exact BK167.out)) : gb167 ≠ gb172)); have n10_ := Aside0.mk ((by rw [hg]; exact Nat.ne_of_gt (blk_lt (g := gb167) (o := .cells #[.int .i64 ((rd_T49 l0 (ji12)).f0), .int .i64 ((rd_T49 l0 (ji12)).f1.f0), .int .i64 ((rd_T49 l0 (ji12)).f1.f1), .int .i64 ((rd_T49 l0 (ji12)).f2)] 49 (0, 0)) (by (with_reducible repeat (first | refine blk_drewN ?_ _ | refine blk_drew ?_ | refine blk_alloc ?_ _)); exact BK167.out)) : gb172 ≠ gb167)); have n11_ := Aside0.mk ((by rw [hg]; exact Nat.ne_of_lt (blk_lt (g := gb168) (o := .cells #[.int .i64 ((rd_T49 l0 x7_1).f0), .int .i64 ((rd_T49 l0 x7_1).f1.f0), .int .i64 ((rd_T49 l0 x7_1).f1.f1), .int .i64 ((rd_T49 l0 x7_1).f2)] 49 (0, 0)) (by (with_reducible repeat (first | refine blk_drewN ?_ _ | refine blk_drew ?_ | refine blk_alloc ?_ _)); exact BK168.out)) : gb168 ≠ gb172)); have n12_ := Aside0.mk ((by rw [hg]; exact Nat.ne_of_gt (blk_lt (g := gb168) (o := .cells #[.int .i64 ((rd_T49 l0 x7_1).f0), .int .i64 ((rd_T49 l0 x7_1).f1.f0), .int .i64 ((rd_T49 l0 x7_1).f1.f1), .int .i64 ((rd_T49 l0 x7_1).f2)] 49 (0, 0)) (by (with_reducible repeat (first | refine blk_drewN ?_ _ | refine blk_drew ?_ | refine blk_alloc ?_ _)); exact BK168.out)) : gb172 ≠ gb168)); clear BK164; clear BK167; clear BK168; clear HB; have BK164 := n0_; have BK167 := n1_; have BK168 := n2_; have HB := n3_; have BK172 := n4_; have GW172 := n5_; have GE172 := n6_; have NB164_172 := n7_; have NB172_164 := n8_; have NB167_172 := n9_; have NB172_167 := n10_; have NB168_172 := n11_; have NB172_168 := n12_; clear n0_ n1_ n2_ n3_ n4_ n5_ n6_ n7_ n8_ n9_ n10_ n11_ n12_; clear hb hbox hg; have hnbx7c021 := NB172_164.out; have hncx7c021 := NB164_172.out; have hnbx7c022 := NB172_167.out; have hncx7c022 := NB167_172.out; have hnbx7c023 := NB172_168.out; have hncx7c023 := NB168_172.out; have hczx7c021 : wx7c021.cell? ⟨gb172, 0, none⟩ = some (.int .i64 0) := (blk_cell BK172.out 0).trans rfl; have hczx7c022 : wx7c021.cell? ⟨gb172, 1, none⟩ = some (.int .i64 0) := (blk_cell BK172.out 1).trans rfl; have hfzx7c021 := blk_frozen BK172.out 0; have hfzx7c022 := blk_frozen BK172.out 1))
              go_ret
              first
               | clear hm4_2
                 exact ⟨by first | rfl | (simp [errW_none, errW_some] <;> rfl) | (simp only [← hji12, ← hji53, ← hji55]; first | rfl | (simp [errW_none, errW_some] <;> rfl)) | (simp [*, errW_none, errW_some] <;> rfl), by repeat (first | (with_reducible first | exact HB.out | apply below_alloc | apply pw_below_drewN | apply below_drew1 | refine below_set ?_ GE164.out | refine below_set ?_ GE167.out | refine below_set ?_ GE168.out | refine below_set ?_ GE172.out) | exact HB.out)⟩
               | clear hm4_3
                 exact ⟨by first | rfl | (simp [errW_none, errW_some] <;> rfl) | (simp only [← hji12, ← hji53]; first | rfl | (simp [errW_none, errW_some] <;> rfl)) | (simp [*, errW_none, errW_some] <;> rfl), by repeat (first | (with_reducible first | exact HB.out | apply below_alloc | apply pw_below_drewN | apply below_drew1 | refine below_set ?_ GE164.out | refine below_set ?_ GE167.out | refine below_set ?_ GE168.out | refine below_set ?_ GE172.out) | exact HB.out)⟩
               | clear hm4_4
                 exact ⟨by first | rfl | (simp [errW_none, errW_some] <;> rfl) | (simp only [← hji12]; first | rfl | (simp [errW_none, errW_some] <;> rfl)) | (simp [*, errW_none, errW_some] <;> rfl), by repeat (first | (with_reducible first | exact HB.out | apply below_alloc | apply pw_below_drewN | apply below_drew1 | refine below_set ?_ GE164.out | refine below_set ?_ GE167.out | refine below_set ?_ GE168.out | refine below_set ?_ GE172.out) | exact HB.out)⟩
            | clear hm4_5
              have p173 : 0 ≤ (0 : Int) := (by omega)
              have q173 : 0 < (l0.length : Int) := of_decide_eq_true (by first | (with_reducible assumption) | assumption)
              obtain ⟨ad173, e173, hx173_0, hx173_1, hx173_2, hx173_3⟩ := at_T49 HR0.out 0 p173 q173
              have hw173_3 := hx173_3
              (try rw [show ((0 : Int)).toNat = 0 from rfl] at hw173_3)
              (try rw [show 0 * 4 = 0 from rfl] at hw173_3)
              (try rw [Addr.add_zero'] at hw173_3)
              have hw173_2 := hx173_2
              (try rw [show ((0 : Int)).toNat = 0 from rfl] at hw173_2)
              (try rw [show 0 * 4 = 0 from rfl] at hw173_2)
              (try rw [Addr.add_zero'] at hw173_2)
              have hw173_1 := hx173_1
              (try rw [show ((0 : Int)).toNat = 0 from rfl] at hw173_1)
              (try rw [show 0 * 4 = 0 from rfl] at hw173_1)
              (try rw [Addr.add_zero'] at hw173_1)
              have hw173_0 := hx173_0
              (try rw [show ((0 : Int)).toNat = 0 from rfl] at hw173_0)
              (try rw [show 0 * 4 = 0 from rfl] at hw173_0)
              (try rw [Addr.add_zero'] at hw173_0)
              cases e173
              have qi173 : (0 < l0.length) = True := eq_true (by omega)
              (try rw [show ((0 : Int)).toNat = 0 from rfl] at hx173_0)
              (try rw [show 0 * 4 = 0 from rfl] at hx173_0)
              (try rw [Addr.add_zero'] at hx173_0)
              (try rw [show ((0 : Int)).toNat = 0 from rfl] at hx173_1)
              (try rw [show 0 * 4 = 0 from rfl] at hx173_1)
              (try rw [Addr.add_zero'] at hx173_1)
              (try rw [show ((0 : Int)).toNat = 0 from rfl] at hx173_2)
              (try rw [show 0 * 4 = 0 from rfl] at hx173_2)
              (try rw [Addr.add_zero'] at hx173_2)
              (try rw [show ((0 : Int)).toNat = 0 from rfl] at hx173_3)
              (try rw [show 0 * 4 = 0 from rfl] at hx173_3)
              (try rw [Addr.add_zero'] at hx173_3)
              replace hx173_0 := (HB.out.cell (World.block_lt_of_cell? w _ hx173_0)).trans hx173_0
              replace hx173_1 := (HB.out.cell (World.block_lt_of_cell? w _ hx173_1)).trans hx173_1
              replace hx173_2 := (HB.out.cell (World.block_lt_of_cell? w _ hx173_2)).trans hx173_2
              replace hx173_3 := (HB.out.cell (World.block_lt_of_cell? w _ hx173_3)).trans hx173_3
              replace p173 := eq_true p173
              replace q173 := eq_true q173
              refine start_ (n := 11) (S := fun w' => w'.cell? ⟨gb164, 0, none⟩ = some (.int .i64 t159) ∧ w'.cell? ⟨gb164, 1, none⟩ = some (.int .i64 t160) ∧ w'.cell? ⟨gb164, 2, none⟩ = some (.int .i64 t161) ∧ w'.cell? ⟨gb164, 3, none⟩ = some (.int .i64 t162) ∧ w'.cell? ad173 = some (.int .i64 ((rd_T49 l0 0).f0)) ∧ w'.cell? ⟨ad173.block, ad173.off + 1, none⟩ = some (.int .i64 ((rd_T49 l0 0).f1.f0)) ∧ w'.cell? ⟨ad173.block, ad173.off + 2, none⟩ = some (.int .i64 ((rd_T49 l0 0).f1.f1)) ∧ w'.cell? ⟨ad173.block, ad173.off + 3, none⟩ = some (.int .i64 ((rd_T49 l0 0).f2))) (ds := []) #[false, false, false, false, false, false, false, false, false, false, false] (by kernel_rfl) rfl rfl ⟨(blk_cell BK164.out 0).trans rfl, (blk_cell BK164.out 1).trans rfl, (blk_cell BK164.out 2).trans rfl, (blk_cell BK164.out 3).trans rfl, ((HB.out.cell (World.block_lt_of_cell? w _ hw173_0)).trans hw173_0), ((HB.out.cell (World.block_lt_of_cell? w _ hw173_1)).trans hw173_1), ((HB.out.cell (World.block_lt_of_cell? w _ hw173_2)).trans hw173_2), ((HB.out.cell (World.block_lt_of_cell? w _ hw173_3)).trans hw173_3)⟩ (fun hHeld => ?_); refine with_tabW skywaykeep1_FlyBetween.tab13 skywaykeep1_FlyBetween.bits13 (fun HT_ HW_ => ?_)
              generalize wr.drew = wzc1 at BK164 HB hx173_0 hx173_1 hx173_2 hx173_3 hHeld ⊢
              refine pure_ (i := 0) (N := some 101) (v := ?_) (a' := ?_) #[true, false, false, false, false, false, false, false, false, false, false] rfl rfl (any_of HT_.out (by kernel_rfl)) (fun _ _ _ h => h) (Or.inl ⟨by rfl, ?_⟩) ?_ ?_
              rotate_left
              · intro w'
                go_simp
                with_reducible rfl
              rotate_left
              · simp only [Act.put, List.setIfInBounds_toArray, List.set_cons_zero, List.set_cons_succ, i64_w, i32_w]
                rfl
              refine pure_ (i := 1) (N := some 102) (v := ?_) (a' := ?_) #[true, true, false, false, false, false, false, false, false, false, false] rfl rfl (any_of HT_.out (by kernel_rfl)) (fun _ _ _ h => h) (Or.inl ⟨by rfl, ?_⟩) ?_ ?_
              rotate_left
              · intro w'
                go_simp
                with_reducible rfl
              rotate_left
              · simp only [Act.put, List.setIfInBounds_toArray, List.set_cons_zero, List.set_cons_succ, i64_w, i32_w]
                rfl
              refine pure_ (i := 2) (N := some 103) (v := ?_) (a' := ?_) #[true, true, true, false, false, false, false, false, false, false, false] rfl rfl (any_of HT_.out (by kernel_rfl)) (fun _ _ _ h => h) (Or.inl ⟨by rfl, ?_⟩) ?_ ?_
              rotate_left
              · intro w'
                go_simp
                with_reducible rfl
              rotate_left
              · simp only [Act.put, List.setIfInBounds_toArray, List.set_cons_zero, List.set_cons_succ, i64_w, i32_w]
                rfl
              refine pure_ (i := 3) (N := some 104) (v := ?_) (a' := ?_) #[true, true, true, true, false, false, false, false, false, false, false] rfl rfl (any_of HT_.out (by kernel_rfl)) (fun _ _ _ h => h) (Or.inl ⟨by rfl, ?_⟩) ?_ ?_
              rotate_left
              · intro w'
                go_simp
                with_reducible rfl
              rotate_left
              · simp only [Act.put, List.setIfInBounds_toArray, List.set_cons_zero, List.set_cons_succ, i64_w, i32_w]
                rfl
              refine pure_ (i := 5) (N := some 106) (v := ?_) (a' := ?_) #[true, true, true, true, false, true, false, false, false, false, false] rfl rfl (any_of HT_.out (by kernel_rfl)) (fun _ _ _ h => h) (Or.inl ⟨by rfl, ?_⟩) ?_ ?_
              rotate_left
              · intro w'
                go_simp
                with_reducible rfl
              rotate_left
              · simp only [Act.put, List.setIfInBounds_toArray, List.set_cons_zero, List.set_cons_succ, i64_w, i32_w]
                rfl
              refine pure_ (i := 6) (N := some 107) (v := ?_) (a' := ?_) #[true, true, true, true, false, true, true, false, false, false, false] rfl rfl (any_of HT_.out (by kernel_rfl)) (fun _ _ _ h => h) (Or.inl ⟨by rfl, ?_⟩) ?_ ?_
              rotate_left
              · intro w'
                go_simp
                with_reducible rfl
              rotate_left
              · simp only [Act.put, List.setIfInBounds_toArray, List.set_cons_zero, List.set_cons_succ, i64_w, i32_w]
                rfl
              refine take_ (i := 4) (N := some 105) (v := ?_) (a' := ?_) #[true, true, true, true, true, true, true, false, false, false, false] rfl rfl (take_ofW HT_.out HW_.out (by kernel_rfl)) (fun _ _ _ h => h) (Or.inl ⟨by rfl, ?_⟩) hHeld ?_ ?_
              rotate_left
              · rintro w' ⟨s0, s1, s2, s3, s4, s5, s6, s7⟩
                go_simp
                with_reducible rfl
              rotate_left
              · simp only [Act.put, List.setIfInBounds_toArray, List.set_cons_zero, List.set_cons_succ, i64_w, i32_w]
                rfl
              refine take_ (i := 7) (N := some 108) (v := ?_) (a' := ?_) #[true, true, true, true, true, true, true, true, false, false, false] rfl rfl (take_ofW HT_.out HW_.out (by kernel_rfl)) (fun _ _ _ h => h) (Or.inl ⟨by rfl, ?_⟩) hHeld ?_ ?_
              rotate_left
              · rintro w' ⟨s0, s1, s2, s3, s4, s5, s6, s7⟩
                go_simp
                with_reducible rfl
              rotate_left
              · simp only [Act.put, List.setIfInBounds_toArray, List.set_cons_zero, List.set_cons_succ, i64_w, i32_w]
                rfl
              refine pure_ (i := 8) (N := some 109) (v := ?_) (a' := ?_) #[true, true, true, true, true, true, true, true, true, false, false] rfl rfl (any_of HT_.out (by kernel_rfl)) (fun _ _ _ h => h) (Or.inl ⟨by rfl, ?_⟩) ?_ ?_
              rotate_left
              · intro w'
                go_simp
                with_reducible rfl
              rotate_left
              · simp only [Act.put, List.setIfInBounds_toArray, List.set_cons_zero, List.set_cons_succ, i64_w, i32_w]
                rfl
              refine pure_ (i := 9) (N := some 110) (v := ?_) (a' := ?_) #[true, true, true, true, true, true, true, true, true, true, false] rfl rfl (any_of HT_.out (by kernel_rfl)) (fun _ _ _ h => h) (Or.inl ⟨by rfl, ?_⟩) ?_ ?_
              rotate_left
              · intro w'
                go_simp
                with_reducible rfl
              rotate_left
              · simp only [Act.put, List.setIfInBounds_toArray, List.set_cons_zero, List.set_cons_succ, i64_w, i32_w]
                rfl
              refine pure_ (i := 10) (N := some 4) (v := ?_) (a' := ?_) #[true, true, true, true, true, true, true, true, true, true, true] rfl rfl (any_of HT_.out (by kernel_rfl)) (fun _ _ _ h => h) (Or.inl ⟨by rfl, ?_⟩) ?_ ?_
              rotate_left
              · intro w'
                go_simp
                with_reducible rfl
              rotate_left
              · simp only [Act.put, List.setIfInBounds_toArray, List.set_cons_zero, List.set_cons_succ, i64_w, i32_w]
                rfl
              refine done_ (done_of HT_.out (by kernel_rfl)) ?_
              try go_wp2
              go_ret
              exact ⟨by first | rfl | (simp [errW_none, errW_some] <;> rfl) | (simp [*, errW_none, errW_some] <;> rfl), by repeat (first | (with_reducible first | exact HB.out | apply below_alloc | apply pw_below_drewN | apply below_drew1 | refine below_set ?_ GE164.out) | exact HB.out)⟩
            | clear hm4_6
              refine start_ (n := 11) (S := fun w' => True) (ds := []) #[false, false, false, false, false, false, false, false, false, false, false] (by kernel_rfl) rfl rfl trivial (fun hHeld => ?_); refine with_tabW skywaykeep1_FlyBetween.tab13 skywaykeep1_FlyBetween.bits13 (fun HT_ HW_ => ?_)
              generalize wr.drew = wzc1 at BK164 HB hHeld ⊢
              refine pure_ (i := 0) (N := some 101) (v := ?_) (a' := ?_) #[true, false, false, false, false, false, false, false, false, false, false] rfl rfl (any_of HT_.out (by kernel_rfl)) (fun _ _ _ h => h) (Or.inl ⟨by rfl, ?_⟩) ?_ ?_
              rotate_left
              · intro w'
                go_simp
                with_reducible rfl
              rotate_left
              · simp only [Act.put, List.setIfInBounds_toArray, List.set_cons_zero, List.set_cons_succ, i64_w, i32_w]
                rfl
              refine pure_ (i := 1) (N := some 102) (v := ?_) (a' := ?_) #[true, true, false, false, false, false, false, false, false, false, false] rfl rfl (any_of HT_.out (by kernel_rfl)) (fun _ _ _ h => h) (Or.inl ⟨by rfl, ?_⟩) ?_ ?_
              rotate_left
              · intro w'
                go_simp
                with_reducible rfl
              rotate_left
              · simp only [Act.put, List.setIfInBounds_toArray, List.set_cons_zero, List.set_cons_succ, i64_w, i32_w]
                rfl
              refine pure_ (i := 2) (N := some 103) (v := ?_) (a' := ?_) #[true, true, true, false, false, false, false, false, false, false, false] rfl rfl (any_of HT_.out (by kernel_rfl)) (fun _ _ _ h => h) (Or.inl ⟨by rfl, ?_⟩) ?_ ?_
              rotate_left
              · intro w'
                go_simp
                with_reducible rfl
              rotate_left
              · simp only [Act.put, List.setIfInBounds_toArray, List.set_cons_zero, List.set_cons_succ, i64_w, i32_w]
                rfl
              refine pure_ (i := 3) (N := some 104) (v := ?_) (a' := ?_) #[true, true, true, true, false, false, false, false, false, false, false] rfl rfl (any_of HT_.out (by kernel_rfl)) (fun _ _ _ h => h) (Or.inl ⟨by rfl, ?_⟩) ?_ ?_
              rotate_left
              · intro w'
                go_simp
                with_reducible rfl
              rotate_left
              · simp only [Act.put, List.setIfInBounds_toArray, List.set_cons_zero, List.set_cons_succ, i64_w, i32_w]
                rfl
              refine pure_ (i := 4) (N := some 105) (v := undef) (a' := ?_) #[true, true, true, true, true, false, false, false, false, false, false] rfl rfl (any_of HT_.out (by kernel_rfl)) (fun _ _ _ h => h) (Or.inr ⟨by rfl, rfl⟩) ?_ ?_
              rotate_left
              · simp only [Act.put, List.setIfInBounds_toArray, List.set_cons_zero, List.set_cons_succ, i64_w, i32_w]
                rfl
              refine pure_ (i := 5) (N := some 106) (v := undef) (a' := ?_) #[true, true, true, true, true, true, false, false, false, false, false] rfl rfl (any_of HT_.out (by kernel_rfl)) (fun _ _ _ h => h) (Or.inr ⟨by rfl, rfl⟩) ?_ ?_
              rotate_left
              · simp only [Act.put, List.setIfInBounds_toArray, List.set_cons_zero, List.set_cons_succ, i64_w, i32_w]
                rfl
              refine pure_ (i := 6) (N := some 107) (v := undef) (a' := ?_) #[true, true, true, true, true, true, true, false, false, false, false] rfl rfl (any_of HT_.out (by kernel_rfl)) (fun _ _ _ h => h) (Or.inr ⟨by rfl, rfl⟩) ?_ ?_
              rotate_left
              · simp only [Act.put, List.setIfInBounds_toArray, List.set_cons_zero, List.set_cons_succ, i64_w, i32_w]
                rfl
              refine pure_ (i := 7) (N := some 108) (v := undef) (a' := ?_) #[true, true, true, true, true, true, true, true, false, false, false] rfl rfl (any_of HT_.out (by kernel_rfl)) (fun _ _ _ h => h) (Or.inr ⟨by rfl, rfl⟩) ?_ ?_
              rotate_left
              · simp only [Act.put, List.setIfInBounds_toArray, List.set_cons_zero, List.set_cons_succ, i64_w, i32_w]
                rfl
              refine pure_ (i := 8) (N := some 109) (v := undef) (a' := ?_) #[true, true, true, true, true, true, true, true, true, false, false] rfl rfl (any_of HT_.out (by kernel_rfl)) (fun _ _ _ h => h) (Or.inr ⟨by rfl, rfl⟩) ?_ ?_
              rotate_left
              · simp only [Act.put, List.setIfInBounds_toArray, List.set_cons_zero, List.set_cons_succ, i64_w, i32_w]
                rfl
              refine pure_ (i := 9) (N := some 110) (v := ?_) (a' := ?_) #[true, true, true, true, true, true, true, true, true, true, false] rfl rfl (any_of HT_.out (by kernel_rfl)) (fun _ _ _ h => h) (Or.inl ⟨by rfl, ?_⟩) ?_ ?_
              rotate_left
              · intro w'
                go_simp
                with_reducible rfl
              rotate_left
              · simp only [Act.put, List.setIfInBounds_toArray, List.set_cons_zero, List.set_cons_succ, i64_w, i32_w]
                rfl
              refine pure_ (i := 10) (N := some 4) (v := ?_) (a' := ?_) #[true, true, true, true, true, true, true, true, true, true, true] rfl rfl (any_of HT_.out (by kernel_rfl)) (fun _ _ _ h => h) (Or.inl ⟨by rfl, ?_⟩) ?_ ?_
              rotate_left
              · intro w'
                go_simp
                with_reducible rfl
              rotate_left
              · simp only [Act.put, List.setIfInBounds_toArray, List.set_cons_zero, List.set_cons_succ, i64_w, i32_w]
                rfl
              refine done_ (done_of HT_.out (by kernel_rfl)) ?_
              try go_wp2
              go_ret
              exact ⟨by first | rfl | (simp [errW_none, errW_some] <;> rfl) | (simp [*, errW_none, errW_some] <;> rfl), by repeat (first | (with_reducible first | exact HB.out | apply below_alloc | apply pw_below_drewN | apply below_drew1 | refine below_set ?_ GE164.out) | exact HB.out)⟩
   | (first | (have _hm := hm1_1) | (have _hm := hm1_2))
     obtain rfl := Option.some.inj H
     go_enter Try.func8, Try.ntmps8
     go_wp2_with (first | ((with_reducible refine gate_callee (f := 33) rfl ?_); refine goesL_ (some 12) rfl rfl Try.func33 (by kernel_rfl) rfl #[] rfl (by (try simp only [List.map_toArray, List.map_cons, List.map_nil]); first | done | rfl | (simp only [List.length_drop, List.length_take]; rfl)) ?_; (with_reducible refine (skywaykeep1_flyWorks.calls k  false _ A3.out).mono ?_); rintro e wx78041 ⟨rfl, hb⟩; refine ⟨_, rfl, ?_⟩; have n0_ := Aside0.mk (below_step (by repeat (first | (with_reducible first | exact HB.out | apply below_alloc | apply pw_below_drewN | apply below_drew1) | exact HB.out)) hb); clear HB; have HB := n0_; clear n0_; (try clear hb); (try clear hb2); (try clear hk); (try clear hi)) | ((with_reducible refine gate_callee (f := 33) rfl ?_); refine goesL_ (some 12) rfl rfl Try.func33 (by kernel_rfl) rfl #[] rfl (by (try simp only [List.map_toArray, List.map_cons, List.map_nil]); first | done | rfl | (simp only [List.length_drop, List.length_take]; rfl)) ?_; (with_reducible refine (skywaykeep1_flyWorks.calls k  true _ A3.out).mono ?_); rintro e wxb3ef1 ⟨rfl, hb⟩; refine ⟨_, rfl, ?_⟩; have n0_ := Aside0.mk (below_step (by repeat (first | (with_reducible first | exact HB.out | apply below_alloc | apply pw_below_drewN | apply below_drew1) | exact HB.out)) hb); clear HB; have HB := n0_; clear n0_; (try clear hb); (try clear hb2); (try clear hk); (try clear hi)) | ((with_reducible refine gate_callee (f := 34) rfl ?_); refine goesL_ (some 17) rfl rfl Try.func34 (by kernel_rfl) rfl #[.slice A0 l0.length c0, .int .i64 a1] rfl (by (try simp only [List.map_toArray, List.map_cons, List.map_nil]); first | done | rfl | (simp only [List.length_drop, List.length_take]; rfl)) ?_; (with_reducible refine (fly_At.calls k _ _ l0 a1 t159 t160 t161 t162 t163 _ ?side1 ?side2 A5.out).mono ?_); (case side1 => repeat (first | exact (Kd.C_below HR0.out HB.out) | (with_reducible refine Kd.C_alloc ?_ _) | (with_reducible refine Kd.C_drewN ?_ _) | (with_reducible refine Kd.C_drew ?_))); (case side2 => exact HC0.out); rintro e wx89f81 ⟨rfl, hb⟩; refine ⟨_, rfl, ?_⟩; have n0_ := Aside0.mk (below_step (by repeat (first | (with_reducible first | exact HB.out | apply below_alloc | apply pw_below_drewN | apply below_drew1) | exact HB.out)) hb); clear HB; have HB := n0_; clear n0_; (try clear hb); (try clear hb2); (try clear hk); (try clear hi)) | ((with_reducible refine gate_dst (N := 5) rfl ?_); (try (refine gate_guard (by rfl) ?_; dsimp only)); refine box_event ?hg (N := 5) ?hd (cs := #[.int .i64 0, .int .i64 0, .int .i64 0, .int .i64 0]) (t := 49) ?hr ?_; (case hd => rfl); (case hg => rfl); (case hr => first | (go_simp; done) | (go_simp; rfl)); intro gb164 hg wxfbee1 hbox hb; have n0_ := Aside0.mk (below_step (by repeat (first | (with_reducible first | exact HB.out | apply below_alloc | apply pw_below_drewN | apply below_drew1) | exact HB.out)) hb); have n1_ := Aside0.mk (hbox); have n2_ := Aside0.mk ((by rw [hg]; exact (below_size (by repeat (first | (with_reducible first | exact HB.out | apply below_alloc | apply pw_below_drewN | apply below_drew1) | exact HB.out))) : w.heap.size ≤ gb164)); have n3_ := Aside0.mk ((by rw [hg]; exact (below_size (by repeat (first | (with_reducible first | exact HB.out | apply below_alloc | apply pw_below_drewN | apply below_drew1) | exact HB.out))) : w.heap.size ≤ gb164)); clear HB; have HB := n0_; have BK164 := n1_; have GW164 := n2_; have GE164 := n3_; clear n0_ n1_ n2_ n3_; clear hb hbox hg; have hczxfbee1 : wxfbee1.cell? ⟨gb164, 0, none⟩ = some (.int .i64 0) := (blk_cell BK164.out 0).trans rfl; have hczxfbee2 : wxfbee1.cell? ⟨gb164, 1, none⟩ = some (.int .i64 0) := (blk_cell BK164.out 1).trans rfl; have hczxfbee3 : wxfbee1.cell? ⟨gb164, 2, none⟩ = some (.int .i64 0) := (blk_cell BK164.out 2).trans rfl; have hczxfbee4 : wxfbee1.cell? ⟨gb164, 3, none⟩ = some (.int .i64 0) := (blk_cell BK164.out 3).trans rfl; have hfzxfbee1 := blk_frozen BK164.out 0; have hfzxfbee2 := blk_frozen BK164.out 1; have hfzxfbee3 := blk_frozen BK164.out 2; have hfzxfbee4 := blk_frozen BK164.out 3))
     go_ret
     first
      | clear hm1_1
        exact ⟨by first | rfl | (simp [errW_none, errW_some] <;> rfl) | (simp [*, errW_none, errW_some] <;> rfl), by repeat (first | (with_reducible first | exact HB.out | apply below_alloc | apply pw_below_drewN | apply below_drew1 | refine below_set ?_ GE164.out) | exact HB.out)⟩
      | clear hm1_2
        exact ⟨by first | rfl | (simp [errW_none, errW_some] <;> rfl) | (simp [*, errW_none, errW_some] <;> rfl), by repeat (first | (with_reducible first | exact HB.out | apply below_alloc | apply pw_below_drewN | apply below_drew1) | exact HB.out)⟩

/-- What is told of a value of struct type 37 that came in. -/
def good37 (x : S37) : Prop := ((Lit.int .i64 x.f0).wf = true) ∧ (Lit.int .i64 x.f1).wf = true
/-- What is told of a value of struct type 49 that came in. -/
def good49 (x : S49) : Prop := ((Lit.int .i64 x.f0).wf = true) ∧ (good37 x.f1) ∧ (Lit.int .i64 x.f2).wf = true
/-- THE ONE PURE STATEMENT of skywaykeep1_FlyBetween. -/
def skywaykeep1_FlyBetween.Pure : Prop := ∀ (l0 : List (S49)) (a1 : Int), (l0.length * 32 ≤ 140737488351232 ∧ ∀ y0 ∈ l0, good49 y0) → ((Lit.int .i64 a1).wf = true) → ∃ k, skywaykeep1_FlyBetween.f k l0 a1 = some true

end Go.Proofs.Ytaahnfajcbkknaa.PFlyBetween
