/- Made by a program of this session (wip/tools/myprint.py, over the kit's printer): that the Go functions answer as the Lean functions printed beside them. -/
import Derived.Test.YtbpbpojnfhhbjaaPChartLinksx0
import Derived.Test.YtbpbpojnfhhbjaaPChartLinksx1
import Derived.Test.YtbpbpojnfhhbjaaPChartLinksx2
namespace Go.Proofs.Ytbpbpojnfhhbjaa.PChartLinks
open Go.RowKit Go.Proofs.YtbpbpojnfhhbjaaW.PrintWords Go.Proofs.YtbpbpojnfhhbjaaW.PrintLast Go.Proofs.YtbpbpojnfhhbjaaW.PrintMore
attribute [local go_sem] max2_int min2_int max_two min_two max_three min_three max_four min_four   -- for this text's walks alone
set_option linter.unusedVariables false
set_option linter.unusedSimpArgs false

attribute [local go_sem high] eqA36
/-! ### chart_airway: function 92 -/
mutual
def chart_airway.j0 : Nat → Bool → List (S40) → List (S48) → ByteArray → List ByteArray → Option (Int)
  | 0, _, _, _, _, _ => none
  | k + 1, x19, x108000, x108001, x110000, x110001 => if x19 = true then (some 7) else (if (x110001.length : Int) < 2 then (some 3) else (if (x110001.length : Int) > 24 then (some 3) else (chart_airway.l0 k x110001 (x110001.length : Int) 0 x108000 x108001 x110000 x110001)))
def chart_airway.l0 : Nat → List ByteArray → Int → Int → List (S40) → List (S48) → ByteArray → List ByteArray → Option (Int)
  | 0, _, _, _, _, _, _, _ => none
  | k + 1, x45, x46, x47, x108000, x108001, x110000, x110001 => if x47 < x46 then (if 0 ≤ x47 then (if x47 < (x45.length : Int) then ((chart_find.f x108000 x108001 (rdOf ByteArray.empty x45 x47)).bind fun t118 => (if t118 < 0 then (some 6) else (if x47 ≤ (x110001.length : Int) then ((slices_Contains_string_string.f k (x110001.take (x47 : Int).toNat) (rdOf ByteArray.empty x45 x47)).bind fun t120 => (if t120 = true then (some 7) else (if x47 > 0 then (if 0 ≤ (wrap64 (x47 - 1)) then (if (wrap64 (x47 - 1)) < (x110001.length : Int) then ((chart_find.f x108000 x108001 (rdOf ByteArray.empty x110001 (wrap64 (x47 - 1)))).bind fun t122 => (if 0 ≤ t122 then (if t122 < (x108000.length : Int) then (if 0 ≤ t118 then (if t118 < (x108000.length : Int) then (if (((rd_T40 x108000 t122).f1.f0) == ((rd_T40 x108000 t118).f1.f0) && (((rd_T40 x108000 t122).f1.f1) == ((rd_T40 x108000 t118).f1.f1))) = true then (some 10) else (chart_airway.l0 k x45 x46 (wrap64 (x47 + 1)) x108000 x108001 x110000 x110001)) else (none)) else (none)) else (none)) else (none))) else (none)) else (none)) else (chart_airway.l0 k x45 x46 (wrap64 (x47 + 1)) x108000 x108001 x110000 x110001)))) else (none)))) else (none)) else (none)) else (some 0)
end
def chart_airway.f (k : Nat) (l0_0 : List (S40)) (l0_1 : List (S48)) (a1 : Int) : Option (Int) := if 0 ≤ a1 then (if a1 < (l0_1.length : Int) then ((chart_Name.f k ((rd_T48 l0_1 a1).f0)).bind fun t110 => (if t110 = true then ((chart_find.f l0_0 l0_1 ((rd_T48 l0_1 a1).f0)).bind fun t111 => (if t111 ≥ 0 then (chart_airway.j0 k true l0_0 l0_1 ((rd_T48 l0_1 a1).f0) ((rd_T48 l0_1 a1).f1)) else (if a1 ≤ (l0_1.length : Int) then ((api_Airway_121.f (l0_1.take (a1 : Int).toNat) (chart_airway_1.p ((rd_T48 l0_1 a1).f0) ((rd_T48 l0_1 a1).f1))).bind fun t116 => (chart_airway.j0 k t116 l0_0 l0_1 ((rd_T48 l0_1 a1).f0) ((rd_T48 l0_1 a1).f1))) else (none)))) else (some 5))) else (none)) else (none)
theorem chart_airway.mono_l : ∀ k, (∀ y0 y1 y2 y3 y4, LeO (chart_airway.j0 k y0 y1 y2 y3 y4) (chart_airway.j0 (k + 1) y0 y1 y2 y3 y4)) ∧ (∀ y0 y1 y2 y3 y4 y5 y6, LeO (chart_airway.l0 k y0 y1 y2 y3 y4 y5 y6) (chart_airway.l0 (k + 1) y0 y1 y2 y3 y4 y5 y6))
  | 0 => ⟨fun _ _ _ _ _ r h => by simp [chart_airway.j0] at h, fun _ _ _ _ _ _ _ r h => by simp [chart_airway.l0] at h⟩
  | k + 1 => by
    obtain ⟨ih0, ih1⟩ := chart_airway.mono_l k
    refine ⟨?_, ?_⟩
    · intro y0 y1 y2 y3 y4
      unfold chart_airway.j0
      repeat' first
      | (with_reducible exact ih0 _ _ _ _ _)
      | (with_reducible exact ih1 _ _ _ _ _ _ _)
      | (with_reducible exact chart_Name.mono _ _)
      | (with_reducible exact slices_Contains_string_string.mono _ _ _)
      | (with_reducible exact LeO.refl _)
      | (with_reducible exact LeO.none _)
      | (with_reducible refine LeO.ite ?_ ?_)
      | (with_reducible refine LeO.bind ?_ (fun _ => ?_))
      | exact ih0 _ _ _ _ _
      | exact ih1 _ _ _ _ _ _ _
      | exact chart_Name.mono _ _
      | exact slices_Contains_string_string.mono _ _ _
      | exact LeO.none _
      | refine LeO.ite ?_ ?_
      | refine LeO.bind ?_ (fun _ => ?_)
    · intro y0 y1 y2 y3 y4 y5 y6
      unfold chart_airway.l0
      repeat' first
      | (with_reducible exact ih0 _ _ _ _ _)
      | (with_reducible exact ih1 _ _ _ _ _ _ _)
      | (with_reducible exact chart_Name.mono _ _)
      | (with_reducible exact slices_Contains_string_string.mono _ _ _)
      | (with_reducible exact LeO.refl _)
      | (with_reducible exact LeO.none _)
      | (with_reducible refine LeO.ite ?_ ?_)
      | (with_reducible refine LeO.bind ?_ (fun _ => ?_))
      | exact ih0 _ _ _ _ _
      | exact ih1 _ _ _ _ _ _ _
      | exact chart_Name.mono _ _
      | exact slices_Contains_string_string.mono _ _ _
      | exact LeO.none _
      | refine LeO.ite ?_ ?_
      | refine LeO.bind ?_ (fun _ => ?_)
theorem chart_airway.mono : ∀ a0 a1 a2 k, LeO (chart_airway.f k a0 a1 a2) (chart_airway.f (k + 1) a0 a1 a2) := by
  intro a0 a1 a2 k
  obtain ⟨ih0, ih1⟩ := chart_airway.mono_l k
  unfold chart_airway.f
  repeat' first
      | (with_reducible exact ih0 _ _ _ _ _)
      | (with_reducible exact ih1 _ _ _ _ _ _ _)
      | (with_reducible exact chart_Name.mono _ _)
      | (with_reducible exact slices_Contains_string_string.mono _ _ _)
      | (with_reducible exact LeO.refl _)
      | (with_reducible exact LeO.none _)
      | (with_reducible refine LeO.ite ?_ ?_)
      | (with_reducible refine LeO.bind ?_ (fun _ => ?_))
      | exact ih0 _ _ _ _ _
      | exact ih1 _ _ _ _ _ _ _
      | exact chart_Name.mono _ _
      | exact slices_Contains_string_string.mono _ _ _
      | exact LeO.none _
      | refine LeO.ite ?_ ?_
      | refine LeO.bind ?_ (fun _ => ?_)
def chart_airway.T16 : Bool × List (List Nat × List Nat) := (true, [([], []), ([0], [0]), ([1], [1]), ([2], [2]), ([3, 2], [2, 3]), ([2], [2]), ([2], [2]), ([6, 2], [2, 6]), ([2], [2]), ([8, 2], [2, 8]), ([7, 9, 2], [2, 7, 9]), ([10, 2], [2, 10]), ([5, 11, 2, 2], [2, 5, 11]), ([4, 12, 2], [2, 4, 12]), ([13, 2], [2, 13]), ([14, 2], [2, 14]), ([2], [2]), ([16, 2], [2, 16]), ([2], [2]), ([17, 18, 2], [2, 17, 18]), ([19, 2], [2, 19]), ([20, 2], [2, 20]), ([15, 21, 2], [2, 15, 21]), ([2, 22], [2, 22]), ([23, 12], [23])])
def chart_airway.B16 : List Nat := [0, 1, 3, 7, 15, 7, 7, 71, 7, 263, 967, 1991, 4071, 8191, 16383, 32767, 7, 65543, 7, 458759, 983047, 2031623, 4194303, 8388607, 16777215]
theorem chart_airway.tab16 : rtab .any (opsOf Try.f92 16) = chart_airway.T16 := by kernel_rfl
theorem chart_airway.bits16 : waitsOk chart_airway.T16.2 chart_airway.B16 = true := by kernel_rfl
set_option maxHeartbeats 8000000 in
set_option maxRecDepth 100000 in
theorem chart_airway.calls (k : Nat) (A0_0 : Option Addr) (c0_0 : Nat) (l0_0 : List (S40)) (A0_1 : Option Addr) (c0_1 : Nat) (l0_1 : List (S48)) (a1 : Int) (r : Int) (w : World) (hr0_0 : Kd.C k40 w A0_0 l0_0.length l0_0) (hc0_0 : l0_0.length ≤ c0_0) (hr0_1 : Kd.C k48 w A0_1 l0_1.length l0_1) (hc0_1 : l0_1.length ≤ c0_1) (h : chart_airway.f k l0_0 l0_1 a1 = some r) :
    Calls Try.prog 92 #[.agg #[.slice A0_0 l0_0.length c0_0, .slice A0_1 l0_1.length c0_1], .int .i64 a1] w fun e w' => e = .returned (.int .i64 r) ∧ Below w.heap.size w w' := by
 have hu25 := Try.underlying25
 have hu48 := Try.underlying48
 have hu36 := Try.underlying36
 have HR0_0 := Aside0.mk hr0_0
 have HC0_0 := Aside0.mk hc0_0
 clear hr0_0 hc0_0
 have HR0_1 := Aside0.mk hr0_1
 have HC0_1 := Aside0.mk hc0_1
 clear hr0_1 hc0_1
 have HB := Aside0.mk (Below.refl w.heap.size w)
 have H : (if 0 ≤ a1 then (if a1 < (l0_1.length : Int) then ((chart_Name.f k ((rd_T48 l0_1 a1).f0)).bind fun t110 => (if t110 = true then ((chart_find.f l0_0 l0_1 ((rd_T48 l0_1 a1).f0)).bind fun t111 => (if t111 ≥ 0 then (chart_airway.j0 k true l0_0 l0_1 ((rd_T48 l0_1 a1).f0) ((rd_T48 l0_1 a1).f1)) else (if a1 ≤ (l0_1.length : Int) then ((api_Airway_121.f (l0_1.take (a1 : Int).toNat) (chart_airway_1.p ((rd_T48 l0_1 a1).f0) ((rd_T48 l0_1 a1).f1))).bind fun t116 => (chart_airway.j0 k t116 l0_0 l0_1 ((rd_T48 l0_1 a1).f0) ((rd_T48 l0_1 a1).f1))) else (none)))) else (some 5))) else (none)) else (none)) = some r := h
 clear h
 by_cases c3 : 0 ≤ a1
 · rw [if_pos c3] at H
   have c3b0 : decide (0 ≤ a1) = true := decide_eq_true c3
   clear c3
   by_cases c4 : a1 < (l0_1.length : Int)
   · rw [if_pos c4] at H
     have c4b0 : decide (a1 < (l0_1.length : Int)) = true := decide_eq_true c4
     clear c4
     replace H := Option.bind_eq_some_iff.mp H
     obtain ⟨t110, A50, H⟩ := H
     replace H : (if t110 = true then ((chart_find.f l0_0 l0_1 ((rd_T48 l0_1 a1).f0)).bind fun t111 => (if t111 ≥ 0 then (chart_airway.j0 k true l0_0 l0_1 ((rd_T48 l0_1 a1).f0) ((rd_T48 l0_1 a1).f1)) else (if a1 ≤ (l0_1.length : Int) then ((api_Airway_121.f (l0_1.take (a1 : Int).toNat) (chart_airway_1.p ((rd_T48 l0_1 a1).f0) ((rd_T48 l0_1 a1).f1))).bind fun t116 => (chart_airway.j0 k t116 l0_0 l0_1 ((rd_T48 l0_1 a1).f0) ((rd_T48 l0_1 a1).f1))) else (none)))) else (some 5)) = some r := H
     have A5 := Aside0.mk A50
     clear A50
     by_cases c6 : t110 = true
     · subst c6
       have H1 : ((chart_find.f l0_0 l0_1 ((rd_T48 l0_1 a1).f0)).bind fun t111 => (if t111 ≥ 0 then (chart_airway.j0 k true l0_0 l0_1 ((rd_T48 l0_1 a1).f0) ((rd_T48 l0_1 a1).f1)) else (if a1 ≤ (l0_1.length : Int) then ((api_Airway_121.f (l0_1.take (a1 : Int).toNat) (chart_airway_1.p ((rd_T48 l0_1 a1).f0) ((rd_T48 l0_1 a1).f1))).bind fun t116 => (chart_airway.j0 k t116 l0_0 l0_1 ((rd_T48 l0_1 a1).f0) ((rd_T48 l0_1 a1).f1))) else (none)))) = some r := by rw [if_pos rfl] at H; exact H
       clear H
       have H := H1
       clear H1
       have HC7 := Aside0.mk H
       clear H
       go_enter Try.func92, Try.ntmps92
       go_upto_region 4 with (first | ((with_reducible refine gate_dst (N := 2) rfl ?_); (try (refine gate_guard (by rfl) ?_; dsimp only)); refine box_event ?hg (N := 2) ?hd (cs := #[.slice A0_0 l0_0.length c0_0, .slice A0_1 l0_1.length c0_1]) (t := 25) ?hr ?_; (case hd => rfl); (case hg => rfl); (case hr => first | (go_simp; done) | (go_simp; rfl)); intro gb107 hg w8 hbox hb; have n0_ := Aside0.mk (below_step (by repeat (first | (with_reducible first | exact HB.out | apply below_alloc | apply pw_below_drewN | apply below_drew1) | exact HB.out)) hb); have n1_ := Aside0.mk (hbox); have n2_ := Aside0.mk ((by rw [hg]; exact (below_size (by repeat (first | (with_reducible first | exact HB.out | apply below_alloc | apply pw_below_drewN | apply below_drew1) | exact HB.out))) : w.heap.size ≤ gb107)); have n3_ := Aside0.mk ((by rw [hg]; exact (below_size (by repeat (first | (with_reducible first | exact HB.out | apply below_alloc | apply pw_below_drewN | apply below_drew1) | exact HB.out))) : w.heap.size ≤ gb107)); clear HB; have HB := n0_; have BK107 := n1_; have GW107 := n2_; have GE107 := n3_; clear n0_ n1_ n2_ n3_; clear hb hbox hg; have hcz9_0 : w8.cell? ⟨gb107, 0, none⟩ = some (.slice A0_0 l0_0.length c0_0) := (blk_cell BK107.out 0).trans rfl; have hcz9_1 : w8.cell? ⟨gb107, 1, none⟩ = some (.slice A0_1 l0_1.length c0_1) := (blk_cell BK107.out 1).trans rfl; have hfz9_0 := blk_frozen BK107.out 0; have hfz9_1 := blk_frozen BK107.out 1; have p108 : 0 ≤ (a1 : Int) := of_decide_eq_true (by first | (with_reducible assumption) | assumption); have q108 : a1 < (l0_1.length : Int) := of_decide_eq_true (by first | (with_reducible assumption) | assumption); obtain ⟨ad108, A108_1, c108_1, e108, hx108_0, hx108_1, hl108_1, hi108_1⟩ := at_T48 HR0_1.out a1 p108 q108; cases e108; replace hx108_0 := (HB.out.cell (World.block_lt_of_cell? w _ hx108_0)).trans hx108_0; replace hx108_1 := (HB.out.cell (World.block_lt_of_cell? w _ hx108_1)).trans hx108_1; have HR108_1 := Aside0.mk hi108_1; have HC108_1 := Aside0.mk hl108_1; clear hi108_1 hl108_1; replace p108 := eq_true p108; replace q108 := eq_true q108) | ((with_reducible refine gate_dst (N := 5) rfl ?_); (try (refine gate_guard (by rfl) ?_; dsimp only)); refine box_event ?hg (N := 5) ?hd (cs := #[.string (⟨#[]⟩ : ByteArray), .slice none 0 0]) (t := 48) ?hr ?_; (case hd => rfl); (case hg => rfl); (case hr => first | (go_simp; done) | (go_simp; rfl)); intro gb109 hg w10 hbox hb; have n0_ := Aside0.mk (blk_below (g := gb107) (o := .cells #[.slice A0_0 l0_0.length c0_0, .slice (some ad108) l0_1.length c0_1] 25 (0, 0)) (by (with_reducible repeat (first | refine blk_drewN ?_ _ | refine blk_drew ?_ | refine blk_alloc ?_ _)); exact BK107.out) hb); have n1_ := Aside0.mk (below_step (by repeat (first | (with_reducible first | exact HB.out | apply below_alloc | apply pw_below_drewN | apply below_drew1 | refine below_set ?_ GE107.out) | exact HB.out)) hb); have n2_ := Aside0.mk (hbox); have n3_ := Aside0.mk ((by rw [hg]; exact (below_size (by repeat (first | (with_reducible first | exact HB.out | apply below_alloc | apply pw_below_drewN | apply below_drew1 | refine below_set ?_ GE107.out) | exact HB.out))) : w.heap.size ≤ gb109)); have n4_ := Aside0.mk ((by rw [hg]; exact (below_size (by repeat (first | (with_reducible first | exact HB.out | apply below_alloc | apply pw_below_drewN | apply below_drew1 | refine below_set ?_ GE107.out) | exact HB.out))) : w.heap.size ≤ gb109)); have n5_ := Aside0.mk ((by rw [hg]; exact Nat.ne_of_lt (blk_lt (g := gb107) (o := .cells #[.slice A0_0 l0_0.length c0_0, .slice (some ad108) l0_1.length c0_1] 25 (0, 0)) (by (with_reducible repeat (first | refine blk_drewN ?_ _ | refine blk_drew ?_ | refine blk_alloc ?_ _)); exact BK107.out)) : gb107 ≠ gb109)); have n6_ := Aside0.mk ((by rw [hg]; exact Nat.ne_of_gt (blk_lt (g := gb107) (o := .cells #[.slice A0_0 l0_0.length c0_0, .slice (some ad108) l0_1.length c0_1] 25 (0, 0)) (by (with_reducible repeat (first | refine blk_drewN ?_ _ | refine blk_drew ?_ | refine blk_alloc ?_ _)); exact BK107.out)) : gb109 ≠ gb107)); clear BK107; clear HB; have BK107 := n0_; have HB := n1_; have BK109 := n2_; have GW109 := n3_; have GE109 := n4_; have NB107_109 := n5_; have NB109_107 := n6_; clear n0_ n1_ n2_ n3_ n4_ n5_ n6_; clear hb hbox hg; have hnb11 := NB109_107.out; have hnc11 := NB107_109.out; have hcz12_0 : w10.cell? ⟨gb109, 0, none⟩ = some (.string (⟨#[]⟩ : ByteArray)) := (blk_cell BK109.out 0).trans rfl; have hcz12_1 : w10.cell? ⟨gb109, 1, none⟩ = some (.slice none 0 0) := (blk_cell BK109.out 1).trans rfl; have hfz12_0 := blk_frozen BK109.out 0; have hfz12_1 := blk_frozen BK109.out 1) | ((with_reducible refine gate_callee (f := 48) rfl ?_); refine goesL_ (some 17) rfl rfl Try.func48 (by kernel_rfl) rfl #[.string ((rd_T48 l0_1 a1).f0)] rfl (by (try simp only [List.map_toArray, List.map_cons, List.map_nil]); first | done | rfl | (simp only [List.length_drop, List.length_take]; rfl)) ?_; (with_reducible refine (chart_Name.calls k ((rd_T48 l0_1 a1).f0) true _ A5.out).mono ?_); rintro e w13 ⟨rfl, hb⟩; refine ⟨_, rfl, ?_⟩; have n0_ := Aside0.mk (blk_below (g := gb107) (o := .cells #[.slice A0_0 l0_0.length c0_0, .slice (some ad108) l0_1.length c0_1] 25 (0, 0)) (by (with_reducible repeat (first | refine blk_drewN ?_ _ | refine blk_drew ?_ | refine blk_alloc ?_ _)); refine blk_far ?_ NB107_109.out _; (with_reducible repeat (first | refine blk_drewN ?_ _ | refine blk_drew ?_ | refine blk_alloc ?_ _)); refine blk_far ?_ NB107_109.out _; (with_reducible repeat (first | refine blk_drewN ?_ _ | refine blk_drew ?_ | refine blk_alloc ?_ _)); exact BK107.out) hb); have n1_ := Aside0.mk (blk_below (g := gb109) (o := .cells #[.string ((rd_T48 l0_1 a1).f0), .slice A108_1 ((rd_T48 l0_1 a1).f1).length c108_1] 48 (0, 0)) (by (with_reducible repeat (first | refine blk_drewN ?_ _ | refine blk_drew ?_ | refine blk_alloc ?_ _)); refine blk_put (cs := #[.string ((rd_T48 l0_1 a1).f0), .slice none 0 0]) ?_ 1 _ rfl; (with_reducible repeat (first | refine blk_drewN ?_ _ | refine blk_drew ?_ | refine blk_alloc ?_ _)); refine blk_put (cs := #[.string (⟨#[]⟩ : ByteArray), .slice none 0 0]) ?_ 0 _ rfl; (with_reducible repeat (first | refine blk_drewN ?_ _ | refine blk_drew ?_ | refine blk_alloc ?_ _)); exact BK109.out) hb); have n2_ := Aside0.mk (below_step (by repeat (first | (with_reducible first | exact HB.out | apply below_alloc | apply pw_below_drewN | apply below_drew1 | refine below_set ?_ GE107.out | refine below_set ?_ GE109.out) | exact HB.out)) hb); clear BK107; clear BK109; clear HB; have BK107 := n0_; have BK109 := n1_; have HB := n2_; clear n0_ n1_ n2_; (try clear hb); (try clear hb2); (try clear hk); (try clear hi)))
       (try simp only [Act.put, List.setIfInBounds_toArray, List.set_cons_zero, List.set_cons_succ])
       go_cut [19] (fun v19 wc => ∃ (kq : Nat) (x19_6 : Bool), v19 = .bool x19_6 ∧ Aside0 (chart_airway.j0 kq x19_6 l0_0 l0_1 ((rd_T48 l0_1 a1).f0) ((rd_T48 l0_1 a1).f1) = some r) ∧ Aside0 (kq ≤ k) ∧ Aside0 (wc.heap[gb107]? = some (.cells #[(.slice A0_0 l0_0.length c0_0), (.slice (some ad108) l0_1.length c0_1)] 25 (0, 0))) ∧ Aside0 (wc.heap[gb109]? = some (.cells #[.string ((rd_T48 l0_1 a1).f0), (.slice A108_1 ((rd_T48 l0_1 a1).f1).length c108_1)] 48 (0, 0))) ∧ Aside0 (Below w.heap.size w wc))
       case first =>
        have H := HC7.out
        clear HC7
        replace H := Option.bind_eq_some_iff.mp H
        obtain ⟨t111, A140, H⟩ := H
        replace H : (if t111 ≥ 0 then (chart_airway.j0 k true l0_0 l0_1 ((rd_T48 l0_1 a1).f0) ((rd_T48 l0_1 a1).f1)) else (if a1 ≤ (l0_1.length : Int) then ((api_Airway_121.f (l0_1.take (a1 : Int).toNat) (chart_airway_1.p ((rd_T48 l0_1 a1).f0) ((rd_T48 l0_1 a1).f1))).bind fun t116 => (chart_airway.j0 k t116 l0_0 l0_1 ((rd_T48 l0_1 a1).f0) ((rd_T48 l0_1 a1).f1))) else (none))) = some r := H
        have A14 := Aside0.mk A140
        clear A140
        by_cases c15 : t111 ≥ 0
        · rw [if_pos c15] at H
          have c15b0 : decide (0 ≤ t111) = true := decide_eq_true c15
          clear c15
          (first | rw [c15b0] | (simp only [i64_w, i32_w]; rw [c15b0]) | skip)
          have H' := Aside0.mk H
          clear H
          have hnb16 := NB107_109.out
          have hnc16 := NB109_107.out
          have hcz17_0 : w13.cell? ⟨gb107, 0, none⟩ = some (.slice A0_0 l0_0.length c0_0) := (blk_cell BK107.out 0).trans rfl
          have hcz17_1 : w13.cell? ⟨gb107, 1, none⟩ = some (.slice (some ad108) l0_1.length c0_1) := (blk_cell BK107.out 1).trans rfl
          have hfz17_0 := blk_frozen BK107.out 0
          have hfz17_1 := blk_frozen BK107.out 1
          have hcz18_0 : w13.cell? ⟨gb109, 0, none⟩ = some (.string ((rd_T48 l0_1 a1).f0)) := (blk_cell BK109.out 0).trans rfl
          have hcz18_1 : w13.cell? ⟨gb109, 1, none⟩ = some (.slice A108_1 ((rd_T48 l0_1 a1).f1).length c108_1) := (blk_cell BK109.out 1).trans rfl
          have hfz18_0 := blk_frozen BK109.out 0
          have hfz18_1 := blk_frozen BK109.out 1
          go_wp2_with (first | ((with_reducible refine gate_callee (f := 55) rfl ?_); refine goesL_ (some 23) rfl rfl Try.func55 (by kernel_rfl) rfl #[.agg #[.slice A0_0 l0_0.length c0_0, .slice (some ad108) l0_1.length c0_1], .string ((rd_T48 l0_1 a1).f0)] rfl (by (try simp only [List.map_toArray, List.map_cons, List.map_nil]); first | done | rfl | (simp only [List.length_drop, List.length_take]; rfl)) ?_; (with_reducible refine (chart_find.calls _ _ l0_0 _ _ l0_1 ((rd_T48 l0_1 a1).f0) t111 _ ?side1 ?side2 ?side3 ?side4 A14.out).mono ?_); (case side1 => repeat (first | exact (Kd.C_below HR0_0.out HB.out) | (with_reducible refine Kd.C_alloc ?_ _) | (with_reducible refine Kd.C_drewN ?_ _) | (with_reducible refine Kd.C_drew ?_))); (case side2 => exact HC0_0.out); (case side3 => repeat (first | exact (Kd.C_below HR0_1.out HB.out) | (with_reducible refine Kd.C_alloc ?_ _) | (with_reducible refine Kd.C_drewN ?_ _) | (with_reducible refine Kd.C_drew ?_))); (case side4 => exact HC0_1.out); rintro e w19 ⟨rfl, hb⟩; refine ⟨_, rfl, ?_⟩; have n0_ := Aside0.mk (blk_below (g := gb107) (o := .cells #[.slice A0_0 l0_0.length c0_0, .slice (some ad108) l0_1.length c0_1] 25 (0, 0)) (by (with_reducible repeat (first | refine blk_drewN ?_ _ | refine blk_drew ?_ | refine blk_alloc ?_ _)); exact BK107.out) hb); have n1_ := Aside0.mk (blk_below (g := gb109) (o := .cells #[.string ((rd_T48 l0_1 a1).f0), .slice A108_1 ((rd_T48 l0_1 a1).f1).length c108_1] 48 (0, 0)) (by (with_reducible repeat (first | refine blk_drewN ?_ _ | refine blk_drew ?_ | refine blk_alloc ?_ _)); exact BK109.out) hb); have n2_ := Aside0.mk (below_step (by repeat (first | (with_reducible first | exact HB.out | apply below_alloc | apply pw_below_drewN | apply below_drew1 | refine below_set ?_ GE107.out | refine below_set ?_ GE109.out) | exact HB.out)) hb); clear BK107; clear BK109; clear HB; have BK107 := n0_; have BK109 := n1_; have HB := n2_; clear n0_ n1_ n2_; (try clear hb); (try clear hb2); (try clear hk); (try clear hi)))
          go_meet
          case rel => exact ⟨_, (true), (by first | rfl | (simp; done) | (simp [*]; done)), H', ⟨by first | omega | exact Nat.le_refl _⟩, ⟨by (with_reducible repeat (first | refine blk_drewN ?_ _ | refine blk_drew ?_ | refine blk_alloc ?_ _)); exact BK107.out⟩, ⟨by (with_reducible repeat (first | refine blk_drewN ?_ _ | refine blk_drew ?_ | refine blk_alloc ?_ _)); exact BK109.out⟩, ⟨by repeat (first | (with_reducible first | exact HB.out | apply below_alloc | apply pw_below_drewN | apply below_drew1 | refine below_set ?_ GE107.out | refine below_set ?_ GE109.out) | exact HB.out)⟩⟩
        · rw [if_neg c15] at H
          have c15b0 : decide (0 ≤ t111) = false := decide_eq_false c15
          clear c15
          (first | rw [c15b0] | (simp only [i64_w, i32_w]; rw [c15b0]) | skip)
          have c20b0 := eq_true (of_decide_eq_true (by first | (with_reducible assumption) | assumption) : 0 ≤ a1)
          by_cases c21 : a1 ≤ (l0_1.length : Int)
          · rw [if_pos c21] at H
            have c21b0 := eq_true c21
            have c21b1 : decide (a1 ≤ (l0_1.length : Int)) = true := decide_eq_true c21
            clear c21
            obtain ⟨y112, hy112⟩ : ∃ y_ : List (S48), y_ = (l0_1.take (a1 : Int).toNat) := ⟨_, rfl⟩
            replace H : ((api_Airway_121.f y112 (chart_airway_1.p ((rd_T48 l0_1 a1).f0) ((rd_T48 l0_1 a1).f1))).bind fun t116 => (chart_airway.j0 k t116 l0_0 l0_1 ((rd_T48 l0_1 a1).f0) ((rd_T48 l0_1 a1).f1))) = some r := by first | (rw [hy112]; with_reducible exact H) | (have H2_ := (Option.bind_some _ _).symm.trans H; rw [hy112]; with_reducible exact H2_) | (have H2_ := (Option.bind_some _ _).symm.trans H; with_reducible exact H2_) | with_reducible exact H | (rw [hy112]; exact H) | exact H
            have Ny112 := Aside0.mk hy112
            clear hy112
            replace H := Option.bind_eq_some_iff.mp H
            obtain ⟨t116, A220, H⟩ := H
            replace H : (chart_airway.j0 k t116 l0_0 l0_1 ((rd_T48 l0_1 a1).f0) ((rd_T48 l0_1 a1).f1)) = some r := H
            have A22 := Aside0.mk A220
            clear A220
            have H' := Aside0.mk H
            clear H
            have hnb23 := NB107_109.out
            have hnc23 := NB109_107.out
            have hcz24_0 : w13.cell? ⟨gb107, 0, none⟩ = some (.slice A0_0 l0_0.length c0_0) := (blk_cell BK107.out 0).trans rfl
            have hcz24_1 : w13.cell? ⟨gb107, 1, none⟩ = some (.slice (some ad108) l0_1.length c0_1) := (blk_cell BK107.out 1).trans rfl
            have hfz24_0 := blk_frozen BK107.out 0
            have hfz24_1 := blk_frozen BK107.out 1
            have hcz25_0 : w13.cell? ⟨gb109, 0, none⟩ = some (.string ((rd_T48 l0_1 a1).f0)) := (blk_cell BK109.out 0).trans rfl
            have hcz25_1 : w13.cell? ⟨gb109, 1, none⟩ = some (.slice A108_1 ((rd_T48 l0_1 a1).f1).length c108_1) := (blk_cell BK109.out 1).trans rfl
            have hfz25_0 := blk_frozen BK109.out 0
            have hfz25_1 := blk_frozen BK109.out 1
            go_wp2_with (first | ((with_reducible refine gate_callee (f := 55) rfl ?_); refine goesL_ (some 23) rfl rfl Try.func55 (by kernel_rfl) rfl #[.agg #[.slice A0_0 l0_0.length c0_0, .slice (some ad108) l0_1.length c0_1], .string ((rd_T48 l0_1 a1).f0)] rfl (by (try simp only [List.map_toArray, List.map_cons, List.map_nil]); first | done | rfl | (simp only [List.length_drop, List.length_take]; rfl)) ?_; (with_reducible refine (chart_find.calls _ _ l0_0 _ _ l0_1 ((rd_T48 l0_1 a1).f0) t111 _ ?side1 ?side2 ?side3 ?side4 A14.out).mono ?_); (case side1 => repeat (first | exact (Kd.C_below HR0_0.out HB.out) | (with_reducible refine Kd.C_alloc ?_ _) | (with_reducible refine Kd.C_drewN ?_ _) | (with_reducible refine Kd.C_drew ?_))); (case side2 => exact HC0_0.out); (case side3 => repeat (first | exact (Kd.C_below HR0_1.out HB.out) | (with_reducible refine Kd.C_alloc ?_ _) | (with_reducible refine Kd.C_drewN ?_ _) | (with_reducible refine Kd.C_drew ?_))); (case side4 => exact HC0_1.out); rintro e w26 ⟨rfl, hb⟩; refine ⟨_, rfl, ?_⟩; have n0_ := Aside0.mk (blk_below (g := gb107) (o := .cells #[.slice A0_0 l0_0.length c0_0, .slice (some ad108) l0_1.length c0_1] 25 (0, 0)) (by (with_reducible repeat (first | refine blk_drewN ?_ _ | refine blk_drew ?_ | refine blk_alloc ?_ _)); exact BK107.out) hb); have n1_ := Aside0.mk (blk_below (g := gb109) (o := .cells #[.string ((rd_T48 l0_1 a1).f0), .slice A108_1 ((rd_T48 l0_1 a1).f1).length c108_1] 48 (0, 0)) (by (with_reducible repeat (first | refine blk_drewN ?_ _ | refine blk_drew ?_ | refine blk_alloc ?_ _)); exact BK109.out) hb); have n2_ := Aside0.mk (below_step (by repeat (first | (with_reducible first | exact HB.out | apply below_alloc | apply pw_below_drewN | apply below_drew1 | refine below_set ?_ GE107.out | refine below_set ?_ GE109.out) | exact HB.out)) hb); clear BK107; clear BK109; clear HB; have BK107 := n0_; have BK109 := n1_; have HB := n2_; clear n0_ n1_ n2_; (try clear hb); (try clear hb2); (try clear hk); (try clear hi); have hcz27_0 : w26.cell? ⟨gb107, 0, none⟩ = some (.slice A0_0 l0_0.length c0_0) := (blk_cell BK107.out 0).trans rfl; have hcz27_1 : w26.cell? ⟨gb107, 1, none⟩ = some (.slice (some ad108) l0_1.length c0_1) := (blk_cell BK107.out 1).trans rfl; have hfz27_0 := blk_frozen BK107.out 0; have hfz27_1 := blk_frozen BK107.out 1; have q28 : (a1 : Int) ≤ ((l0_1.length : Int) : Int) := of_decide_eq_true (by first | (with_reducible assumption) | assumption); obtain ⟨i028, hi028, _, hsz28, _⟩ := info_parts info48; have hroom28 : l0_1.length ≤ c0_1 := HC0_1.out; have hC28 : Kd.C k48 _ (some ad108) l0_1.length l0_1 := HR0_1.out; have hcut28 := cut_to (P := Try.prog) 23 48 .i64 Try.underlying23 hi028 (some ad108) l0_1.length c0_1 a1 (of_decide_eq_true (by first | (with_reducible assumption) | assumption)) q28 hroom28; have hr28 := Kd.C_take (m := (a1 : Int).toNat) hC28 (by omega); have hy28 : y112.length = (a1 : Int).toNat := (by rw [Ny112.out, List.length_take]; omega); rw [← Ny112.out] at hr28; rw [← hy28] at hcut28; have HR115 := Aside0.mk hr28; have HC115 := Aside0.mk (show y112.length ≤ c0_1 from by omega); clear hr28 hC28 hroom28 hi028 hsz28; have KY28 := Aside0.mk hy28; clear hy28; replace q28 := eq_true q28) | (go_at_call 121; (with_reducible refine (api_Airway_121.calls _ _ y112 (chart_airway_1.p ((rd_T48 l0_1 a1).f0) ((rd_T48 l0_1 a1).f1)) t116 _ ?side1 ?side2 ?side3 A22.out).mono ?_); (case side1 => repeat (first | exact (Kd.C_below HR115.out HB.out) | (with_reducible refine Kd.C_alloc ?_ _) | (with_reducible refine Kd.C_drewN ?_ _) | (with_reducible refine Kd.C_drew ?_))); (case side2 => exact HC115.out); (case side3 => exact chart_airway_1.pred (by (with_reducible repeat (first | refine blk_drewN ?_ _ | refine blk_drew ?_ | refine blk_alloc ?_ _)); exact BK109.out)); rintro e w29 ⟨rfl, hb⟩; have n0_ := Aside0.mk (blk_below (g := gb107) (o := .cells #[.slice A0_0 l0_0.length c0_0, .slice (some ad108) l0_1.length c0_1] 25 (0, 0)) (by (with_reducible repeat (first | refine blk_drewN ?_ _ | refine blk_drew ?_ | refine blk_alloc ?_ _)); exact BK107.out) hb); have n1_ := Aside0.mk (blk_below (g := gb109) (o := .cells #[.string ((rd_T48 l0_1 a1).f0), .slice A108_1 ((rd_T48 l0_1 a1).f1).length c108_1] 48 (0, 0)) (by (with_reducible repeat (first | refine blk_drewN ?_ _ | refine blk_drew ?_ | refine blk_alloc ?_ _)); exact BK109.out) hb); have n2_ := Aside0.mk (below_step (by repeat (first | (with_reducible first | exact HB.out | apply below_alloc | apply pw_below_drewN | apply below_drew1 | refine below_set ?_ GE107.out | refine below_set ?_ GE109.out) | exact HB.out)) hb); clear BK107; clear BK109; clear HB; have BK107 := n0_; have BK109 := n1_; have HB := n2_; clear n0_ n1_ n2_; (try clear hb); (try clear hb2); (try clear hk); (try clear hi)))
            go_meet
            case rel => exact ⟨_, (t116), (by first | rfl | (simp; done) | (simp [*]; done)), H', ⟨by first | omega | exact Nat.le_refl _⟩, ⟨by (with_reducible repeat (first | refine blk_drewN ?_ _ | refine blk_drew ?_ | refine blk_alloc ?_ _)); exact BK107.out⟩, ⟨by (with_reducible repeat (first | refine blk_drewN ?_ _ | refine blk_drew ?_ | refine blk_alloc ?_ _)); exact BK109.out⟩, ⟨by repeat (first | (with_reducible first | exact HB.out | apply below_alloc | apply pw_below_drewN | apply below_drew1 | refine below_set ?_ GE107.out | refine below_set ?_ GE109.out) | exact HB.out)⟩⟩
          · rw [if_neg c21] at H
            exact absurd H (by simp)
       case rest =>
        clear HC7
        (try clear c1); (try clear p1); (try clear q1); (try clear hx1); (try clear c2); (try clear p2); (try clear q2); (try clear c3); (try clear c3b0); (try clear c4); (try clear c4b0); (try clear c5); (try clear c6); (try clear c9); (try clear c10); (try clear p10); (try clear q10); (try clear hx10); (try clear c11); (try clear c15); (try clear c15b0); (try clear c16); (try clear c20); (try clear c20b0); (try clear c21); (try clear c21b0); (try clear c21b1); (try clear c23); (try clear q28); (try clear hcz12_0); (try clear hcz12_1); (try clear hcz17_0); (try clear hcz17_1); (try clear hcz18_0); (try clear hcz18_1); (try clear hcz24_0); (try clear hcz24_1); (try clear hcz25_0); (try clear hcz25_1); (try clear hcz27_0)
        (try clear hcz27_1); (try clear hcz9_0); (try clear hcz9_1); (try clear hfz12_0); (try clear hfz12_1); (try clear hfz17_0); (try clear hfz17_1); (try clear hfz18_0); (try clear hfz18_1); (try clear hfz24_0); (try clear hfz24_1); (try clear hfz25_0); (try clear hfz25_1); (try clear hfz27_0); (try clear hfz27_1); (try clear hfz9_0); (try clear hfz9_1); (try clear hx108_0); (try clear hx108_1); (try clear p108); (try clear q108); (try clear q28)
        obtain ⟨kq, x19_6, rfl, HA, HJ6, BK107, BK109, HB⟩ := hcut
        cases kq with
        | zero => exact absurd HA.out (by simp [chart_airway.j0])
        | succ kj6 =>
         have H := HA.out
         clear HA
         simp only [chart_airway.j0] at H
         by_cases c30 : x19_6 = true
         · subst c30
           have H1 : (some 7) = some r := by rw [if_pos rfl] at H; exact H
           clear H
           have H := H1
           clear H1
           obtain rfl := Option.some.inj H
           go_wp2
           go_ret
           exact ⟨by first | rfl | (simp [errW_none, errW_some] <;> rfl) | (simp [*, errW_none, errW_some] <;> rfl), by repeat (first | (with_reducible first | exact HB.out | apply below_alloc | apply pw_below_drewN | apply below_drew1 | refine below_set ?_ GE107.out | refine below_set ?_ GE109.out) | exact HB.out)⟩
         · replace c30 := Bool.eq_false_iff.mpr c30
           subst c30
           have H1 : (if (((rd_T48 l0_1 a1).f1).length : Int) < 2 then (some 3) else (if (((rd_T48 l0_1 a1).f1).length : Int) > 24 then (some 3) else (chart_airway.l0 kj6 ((rd_T48 l0_1 a1).f1) (((rd_T48 l0_1 a1).f1).length : Int) 0 l0_0 l0_1 ((rd_T48 l0_1 a1).f0) ((rd_T48 l0_1 a1).f1)))) = some r := by rw [if_neg (show ¬ (false = true) by decide)] at H; exact H
           clear H
           have H := H1
           clear H1
           by_cases c31 : (((rd_T48 l0_1 a1).f1).length : Int) < 2
           · rw [if_pos c31] at H
             have c31b0 : decide ((((rd_T48 l0_1 a1).f1).length : Int) < 2) = true := decide_eq_true c31
             have c31b1 : decide (((rd_T48 l0_1 a1).f1).length < 2) = true := decide_eq_true (by omega)
             clear c31
             obtain rfl := Option.some.inj H
             have hnb32 := NB109_107.out
             have hnc32 := NB107_109.out
             have hcz33_0 : wc.cell? ⟨gb109, 0, none⟩ = some (.string ((rd_T48 l0_1 a1).f0)) := (blk_cell BK109.out 0).trans rfl
             have hcz33_1 : wc.cell? ⟨gb109, 1, none⟩ = some (.slice A108_1 ((rd_T48 l0_1 a1).f1).length c108_1) := (blk_cell BK109.out 1).trans rfl
             have hfz33_0 := blk_frozen BK109.out 0
             have hfz33_1 := blk_frozen BK109.out 1
             go_wp2
             go_ret
             exact ⟨by first | rfl | (simp [errW_none, errW_some] <;> rfl) | (simp [*, errW_none, errW_some] <;> rfl), by repeat (first | (with_reducible first | exact HB.out | apply below_alloc | apply pw_below_drewN | apply below_drew1 | refine below_set ?_ GE107.out | refine below_set ?_ GE109.out) | exact HB.out)⟩
           · rw [if_neg c31] at H
             have c31b0 : decide ((((rd_T48 l0_1 a1).f1).length : Int) < 2) = false := decide_eq_false c31
             have c31b1 : decide (((rd_T48 l0_1 a1).f1).length < 2) = false := decide_eq_false (by omega)
             clear c31
             by_cases c34 : (((rd_T48 l0_1 a1).f1).length : Int) > 24
             · rw [if_pos c34] at H
               have c34b0 : decide (24 < (((rd_T48 l0_1 a1).f1).length : Int)) = true := decide_eq_true c34
               have c34b1 : decide (24 < ((rd_T48 l0_1 a1).f1).length) = true := decide_eq_true (by omega)
               clear c34
               obtain rfl := Option.some.inj H
               have hnb35 := NB109_107.out
               have hnc35 := NB107_109.out
               have hcz36_0 : wc.cell? ⟨gb109, 0, none⟩ = some (.string ((rd_T48 l0_1 a1).f0)) := (blk_cell BK109.out 0).trans rfl
               have hcz36_1 : wc.cell? ⟨gb109, 1, none⟩ = some (.slice A108_1 ((rd_T48 l0_1 a1).f1).length c108_1) := (blk_cell BK109.out 1).trans rfl
               have hfz36_0 := blk_frozen BK109.out 0
               have hfz36_1 := blk_frozen BK109.out 1
               go_wp2
               go_ret
               exact ⟨by first | rfl | (simp [errW_none, errW_some] <;> rfl) | (simp [*, errW_none, errW_some] <;> rfl), by repeat (first | (with_reducible first | exact HB.out | apply below_alloc | apply pw_below_drewN | apply below_drew1 | refine below_set ?_ GE107.out | refine below_set ?_ GE109.out) | exact HB.out)⟩
             · rw [if_neg c34] at H
               have c34b0 : decide (24 < (((rd_T48 l0_1 a1).f1).length : Int)) = false := decide_eq_false c34
               have c34b1 : decide (24 < ((rd_T48 l0_1 a1).f1).length) = false := decide_eq_false (by omega)
               clear c34
               have H' := Aside0.mk H
               clear H
               have hnb37 := NB109_107.out
               have hnc37 := NB107_109.out
               have hcz38_0 : wc.cell? ⟨gb109, 0, none⟩ = some (.string ((rd_T48 l0_1 a1).f0)) := (blk_cell BK109.out 0).trans rfl
               have hcz38_1 : wc.cell? ⟨gb109, 1, none⟩ = some (.slice A108_1 ((rd_T48 l0_1 a1).f1).length c108_1) := (blk_cell BK109.out 1).trans rfl
               have hfz38_0 := blk_frozen BK109.out 0
               have hfz38_1 := blk_frozen BK109.out 1
               go_wp2
               go_loopg [47] kj6 (fun kq v47 w' => ∃ (x47_2 : Int), v47 = .int .i64 x47_2 ∧ Aside0 (chart_airway.l0 kq ((rd_T48 l0_1 a1).f1) (((rd_T48 l0_1 a1).f1).length : Int) x47_2 l0_0 l0_1 ((rd_T48 l0_1 a1).f0) ((rd_T48 l0_1 a1).f1) = some r) ∧ Aside0 (kq ≤ kj6) ∧ Aside0 (w'.heap[gb107]? = some (.cells #[(.slice A0_0 l0_0.length c0_0), (.slice (some ad108) l0_1.length c0_1)] 25 (0, 0))) ∧ Aside0 (w'.heap[gb109]? = some (.cells #[.string ((rd_T48 l0_1 a1).f0), (.slice A108_1 ((rd_T48 l0_1 a1).f1).length c108_1)] 48 (0, 0))) ∧ Aside0 (Below w.heap.size w w'))
               case atStart => exact ⟨(0), (by first | rfl | (simp; done) | (simp [*]; done)), H', ⟨Nat.le_refl _⟩, ⟨by (with_reducible repeat (first | refine blk_drewN ?_ _ | refine blk_drew ?_ | refine blk_alloc ?_ _)); exact BK107.out⟩, ⟨by (with_reducible repeat (first | refine blk_drewN ?_ _ | refine blk_drew ?_ | refine blk_alloc ?_ _)); exact BK109.out⟩, ⟨by repeat (first | (with_reducible first | exact HB.out | apply below_alloc | apply pw_below_drewN | apply below_drew1 | refine below_set ?_ GE107.out | refine below_set ?_ GE109.out) | exact HB.out)⟩⟩
               case round =>
                clear H'
                (try clear c1); (try clear p1); (try clear q1); (try clear hx1); (try clear c2); (try clear p2); (try clear q2); (try clear c3); (try clear c3b0); (try clear c4); (try clear c4b0); (try clear c5); (try clear c6); (try clear c9); (try clear c10); (try clear p10); (try clear q10); (try clear hx10); (try clear c11); (try clear c15); (try clear c15b0); (try clear c16); (try clear c20); (try clear c20b0); (try clear c21); (try clear c21b0); (try clear c21b1); (try clear c23); (try clear q28); (try clear c30); (try clear c31); (try clear c31b0); (try clear c31b1); (try clear c32); (try clear c34); (try clear c34b0); (try clear c34b1); (try clear c35); (try clear c37); (try clear hcz12_0)
                (try clear hcz12_1); (try clear hcz17_0); (try clear hcz17_1); (try clear hcz18_0); (try clear hcz18_1); (try clear hcz24_0); (try clear hcz24_1); (try clear hcz25_0); (try clear hcz25_1); (try clear hcz27_0); (try clear hcz27_1); (try clear hcz33_0); (try clear hcz33_1); (try clear hcz36_0); (try clear hcz36_1); (try clear hcz38_0); (try clear hcz38_1); (try clear hcz9_0); (try clear hcz9_1); (try clear hfz12_0); (try clear hfz12_1); (try clear hfz17_0); (try clear hfz17_1); (try clear hfz18_0); (try clear hfz18_1); (try clear hfz24_0); (try clear hfz24_1); (try clear hfz25_0); (try clear hfz25_1); (try clear hfz27_0); (try clear hfz27_1); (try clear hfz33_0); (try clear hfz33_1); (try clear hfz36_0); (try clear hfz36_1); (try clear hfz38_0); (try clear hfz38_1); (try clear hfz9_0); (try clear hfz9_1); (try clear hx108_0)
                (try clear hx108_1); (try clear p1); (try clear p10); (try clear p108); (try clear p2); (try clear q1); (try clear q10); (try clear q108); (try clear q2); (try clear q28)
                obtain ⟨x47_2, rfl, HA, HK2, BK107, BK109, HB⟩ := hrel
                cases gk with
                | zero => exact absurd HA.out (by simp [chart_airway.l0])
                | succ k2 =>
                 have H := HA.out
                 clear HA
                 simp only [chart_airway.l0] at H
                 by_cases c39 : x47_2 < (((rd_T48 l0_1 a1).f1).length : Int)
                 · rw [if_pos c39] at H
                   have c39b0 : decide (x47_2 < (((rd_T48 l0_1 a1).f1).length : Int)) = true := decide_eq_true c39
                   clear c39
                   by_cases c40 : 0 ≤ x47_2
                   · rw [if_pos c40] at H
                     have c40b0 : decide (0 ≤ x47_2) = true := decide_eq_true c40
                     clear c40
                     by_cases c41 : x47_2 < (((rd_T48 l0_1 a1).f1).length : Int)
                     · rw [if_pos c41] at H
                       have c41b0 : decide (x47_2 < (((rd_T48 l0_1 a1).f1).length : Int)) = true := decide_eq_true c41
                       clear c41
                       replace H := Option.bind_eq_some_iff.mp H
                       obtain ⟨t118, A420, H⟩ := H
                       replace H : (if t118 < 0 then (some 6) else (if x47_2 ≤ (((rd_T48 l0_1 a1).f1).length : Int) then ((slices_Contains_string_string.f k2 (((rd_T48 l0_1 a1).f1).take (x47_2 : Int).toNat) (rdOf ByteArray.empty ((rd_T48 l0_1 a1).f1) x47_2)).bind fun t120 => (if t120 = true then (some 7) else (if x47_2 > 0 then (if 0 ≤ (wrap64 (x47_2 - 1)) then (if (wrap64 (x47_2 - 1)) < (((rd_T48 l0_1 a1).f1).length : Int) then ((chart_find.f l0_0 l0_1 (rdOf ByteArray.empty ((rd_T48 l0_1 a1).f1) (wrap64 (x47_2 - 1)))).bind fun t122 => (if 0 ≤ t122 then (if t122 < (l0_0.length : Int) then (if 0 ≤ t118 then (if t118 < (l0_0.length : Int) then (if (((rd_T40 l0_0 t122).f1.f0) == ((rd_T40 l0_0 t118).f1.f0) && (((rd_T40 l0_0 t122).f1.f1) == ((rd_T40 l0_0 t118).f1.f1))) = true then (some 10) else (chart_airway.l0 k2 ((rd_T48 l0_1 a1).f1) (((rd_T48 l0_1 a1).f1).length : Int) (wrap64 (x47_2 + 1)) l0_0 l0_1 ((rd_T48 l0_1 a1).f0) ((rd_T48 l0_1 a1).f1))) else (none)) else (none)) else (none)) else (none))) else (none)) else (none)) else (chart_airway.l0 k2 ((rd_T48 l0_1 a1).f1) (((rd_T48 l0_1 a1).f1).length : Int) (wrap64 (x47_2 + 1)) l0_0 l0_1 ((rd_T48 l0_1 a1).f0) ((rd_T48 l0_1 a1).f1))))) else (none))) = some r := H
                       have A42 := Aside0.mk A420
                       clear A420
                       by_cases c43 : t118 < 0
                       · rw [if_pos c43] at H
                         have c43b0 : decide (t118 < 0) = true := decide_eq_true c43
                         clear c43
                         obtain rfl := Option.some.inj H
                         have p117 : 0 ≤ (x47_2 : Int) := of_decide_eq_true (by first | (with_reducible assumption) | assumption)
                         have q117 : x47_2 < (((rd_T48 l0_1 a1).f1).length : Int) := of_decide_eq_true (by first | (with_reducible assumption) | assumption)
                         obtain ⟨ad117, e117, hx117_0⟩ := Kd.at_string HR108_1.out x47_2 p117 q117
                         cases e117
                         replace hx117_0 := (HB.out.cell (World.block_lt_of_cell? w _ hx117_0)).trans hx117_0
                         replace p117 := eq_true p117
                         replace q117 := eq_true q117
                         have hnb44 := NB107_109.out
                         have hnc44 := NB109_107.out
                         have hcz45_0 : wr.cell? ⟨gb107, 0, none⟩ = some (.slice A0_0 l0_0.length c0_0) := (blk_cell BK107.out 0).trans rfl
                         have hcz45_1 : wr.cell? ⟨gb107, 1, none⟩ = some (.slice (some ad108) l0_1.length c0_1) := (blk_cell BK107.out 1).trans rfl
                         have hfz45_0 := blk_frozen BK107.out 0
                         have hfz45_1 := blk_frozen BK107.out 1
                         go_wp2_with (first | ((with_reducible refine gate_callee (f := 55) rfl ?_); refine goesL_ (some 54) rfl rfl Try.func55 (by kernel_rfl) rfl #[.agg #[.slice A0_0 l0_0.length c0_0, .slice (some ad108) l0_1.length c0_1], .string (rdOf ByteArray.empty ((rd_T48 l0_1 a1).f1) x47_2)] rfl (by (try simp only [List.map_toArray, List.map_cons, List.map_nil]); first | done | rfl | (simp only [List.length_drop, List.length_take]; rfl)) ?_; (with_reducible refine (chart_find.calls _ _ l0_0 _ _ l0_1 (rdOf ByteArray.empty ((rd_T48 l0_1 a1).f1) x47_2) t118 _ ?side1 ?side2 ?side3 ?side4 A42.out).mono ?_); (case side1 => repeat (first | exact (Kd.C_below HR0_0.out HB.out) | (with_reducible refine Kd.C_alloc ?_ _) | (with_reducible refine Kd.C_drewN ?_ _) | (with_reducible refine Kd.C_drew ?_))); (case side2 => exact HC0_0.out); (case side3 => repeat (first | exact (Kd.C_below HR0_1.out HB.out) | (with_reducible refine Kd.C_alloc ?_ _) | (with_reducible refine Kd.C_drewN ?_ _) | (with_reducible refine Kd.C_drew ?_))); (case side4 => exact HC0_1.out); rintro e w46 ⟨rfl, hb⟩; refine ⟨_, rfl, ?_⟩; have n0_ := Aside0.mk (blk_below (g := gb107) (o := .cells #[.slice A0_0 l0_0.length c0_0, .slice (some ad108) l0_1.length c0_1] 25 (0, 0)) (by (with_reducible repeat (first | refine blk_drewN ?_ _ | refine blk_drew ?_ | refine blk_alloc ?_ _)); exact BK107.out) hb); have n1_ := Aside0.mk (blk_below (g := gb109) (o := .cells #[.string ((rd_T48 l0_1 a1).f0), .slice (some ad117) ((rd_T48 l0_1 a1).f1).length c108_1] 48 (0, 0)) (by (with_reducible repeat (first | refine blk_drewN ?_ _ | refine blk_drew ?_ | refine blk_alloc ?_ _)); exact BK109.out) hb); have n2_ := Aside0.mk (below_step (by repeat (first | (with_reducible first | exact HB.out | apply below_alloc | apply pw_below_drewN | apply below_drew1 | refine below_set ?_ GE107.out | refine below_set ?_ GE109.out) | exact HB.out)) hb); clear BK107; clear BK109; clear HB; have BK107 := n0_; have BK109 := n1_; have HB := n2_; clear n0_ n1_ n2_; (try clear hb); (try clear hb2); (try clear hk); (try clear hi)))
                         go_ret
                         exact ⟨by first | rfl | (simp [errW_none, errW_some] <;> rfl) | (simp [*, errW_none, errW_some] <;> rfl), by repeat (first | (with_reducible first | exact HB.out | apply below_alloc | apply pw_below_drewN | apply below_drew1 | refine below_set ?_ GE107.out | refine below_set ?_ GE109.out) | exact HB.out)⟩
                       · rw [if_neg c43] at H
                         have c43b0 : decide (t118 < 0) = false := decide_eq_false c43
                         clear c43
                         have c47b0 := eq_true (of_decide_eq_true (by first | (with_reducible assumption) | assumption) : 0 ≤ x47_2)
                         by_cases c48 : x47_2 ≤ (((rd_T48 l0_1 a1).f1).length : Int)
                         · rw [if_pos c48] at H
                           have c48b0 := eq_true c48
                           have c48b1 : decide (x47_2 ≤ (((rd_T48 l0_1 a1).f1).length : Int)) = true := decide_eq_true c48
                           clear c48
                           replace H := Option.bind_eq_some_iff.mp H
                           obtain ⟨t120, A490, H⟩ := H
                           replace H : (if t120 = true then (some 7) else (if x47_2 > 0 then (if 0 ≤ (wrap64 (x47_2 - 1)) then (if (wrap64 (x47_2 - 1)) < (((rd_T48 l0_1 a1).f1).length : Int) then ((chart_find.f l0_0 l0_1 (rdOf ByteArray.empty ((rd_T48 l0_1 a1).f1) (wrap64 (x47_2 - 1)))).bind fun t122 => (if 0 ≤ t122 then (if t122 < (l0_0.length : Int) then (if 0 ≤ t118 then (if t118 < (l0_0.length : Int) then (if (((rd_T40 l0_0 t122).f1.f0) == ((rd_T40 l0_0 t118).f1.f0) && (((rd_T40 l0_0 t122).f1.f1) == ((rd_T40 l0_0 t118).f1.f1))) = true then (some 10) else (chart_airway.l0 k2 ((rd_T48 l0_1 a1).f1) (((rd_T48 l0_1 a1).f1).length : Int) (wrap64 (x47_2 + 1)) l0_0 l0_1 ((rd_T48 l0_1 a1).f0) ((rd_T48 l0_1 a1).f1))) else (none)) else (none)) else (none)) else (none))) else (none)) else (none)) else (chart_airway.l0 k2 ((rd_T48 l0_1 a1).f1) (((rd_T48 l0_1 a1).f1).length : Int) (wrap64 (x47_2 + 1)) l0_0 l0_1 ((rd_T48 l0_1 a1).f0) ((rd_T48 l0_1 a1).f1)))) = some r := H
                           have A49 := Aside0.mk A490
                           clear A490
                           by_cases c50 : t120 = true
                           · subst c50
                             have H1 : (some 7) = some r := by rw [if_pos rfl] at H; exact H
                             clear H
                             have H := H1
                             clear H1
                             obtain rfl := Option.some.inj H
                             have p117 : 0 ≤ (x47_2 : Int) := of_decide_eq_true (by first | (with_reducible assumption) | assumption)
                             have q117 : x47_2 < (((rd_T48 l0_1 a1).f1).length : Int) := of_decide_eq_true (by first | (with_reducible assumption) | assumption)
                             obtain ⟨ad117, e117, hx117_0⟩ := Kd.at_string HR108_1.out x47_2 p117 q117
                             cases e117
                             replace hx117_0 := (HB.out.cell (World.block_lt_of_cell? w _ hx117_0)).trans hx117_0
                             replace p117 := eq_true p117
                             replace q117 := eq_true q117
                             have hnb51 := NB107_109.out
                             have hnc51 := NB109_107.out
                             have hcz52_0 : wr.cell? ⟨gb107, 0, none⟩ = some (.slice A0_0 l0_0.length c0_0) := (blk_cell BK107.out 0).trans rfl
                             have hcz52_1 : wr.cell? ⟨gb107, 1, none⟩ = some (.slice (some ad108) l0_1.length c0_1) := (blk_cell BK107.out 1).trans rfl
                             have hfz52_0 := blk_frozen BK107.out 0
                             have hfz52_1 := blk_frozen BK107.out 1
                             go_wp2_with (first | ((with_reducible refine gate_callee (f := 55) rfl ?_); refine goesL_ (some 54) rfl rfl Try.func55 (by kernel_rfl) rfl #[.agg #[.slice A0_0 l0_0.length c0_0, .slice (some ad108) l0_1.length c0_1], .string (rdOf ByteArray.empty ((rd_T48 l0_1 a1).f1) x47_2)] rfl (by (try simp only [List.map_toArray, List.map_cons, List.map_nil]); first | done | rfl | (simp only [List.length_drop, List.length_take]; rfl)) ?_; (with_reducible refine (chart_find.calls _ _ l0_0 _ _ l0_1 (rdOf ByteArray.empty ((rd_T48 l0_1 a1).f1) x47_2) t118 _ ?side1 ?side2 ?side3 ?side4 A42.out).mono ?_); (case side1 => repeat (first | exact (Kd.C_below HR0_0.out HB.out) | (with_reducible refine Kd.C_alloc ?_ _) | (with_reducible refine Kd.C_drewN ?_ _) | (with_reducible refine Kd.C_drew ?_))); (case side2 => exact HC0_0.out); (case side3 => repeat (first | exact (Kd.C_below HR0_1.out HB.out) | (with_reducible refine Kd.C_alloc ?_ _) | (with_reducible refine Kd.C_drewN ?_ _) | (with_reducible refine Kd.C_drew ?_))); (case side4 => exact HC0_1.out); rintro e w53 ⟨rfl, hb⟩; refine ⟨_, rfl, ?_⟩; have n0_ := Aside0.mk (blk_below (g := gb107) (o := .cells #[.slice A0_0 l0_0.length c0_0, .slice (some ad108) l0_1.length c0_1] 25 (0, 0)) (by (with_reducible repeat (first | refine blk_drewN ?_ _ | refine blk_drew ?_ | refine blk_alloc ?_ _)); exact BK107.out) hb); have n1_ := Aside0.mk (blk_below (g := gb109) (o := .cells #[.string ((rd_T48 l0_1 a1).f0), .slice (some ad117) ((rd_T48 l0_1 a1).f1).length c108_1] 48 (0, 0)) (by (with_reducible repeat (first | refine blk_drewN ?_ _ | refine blk_drew ?_ | refine blk_alloc ?_ _)); exact BK109.out) hb); have n2_ := Aside0.mk (below_step (by repeat (first | (with_reducible first | exact HB.out | apply below_alloc | apply pw_below_drewN | apply below_drew1 | refine below_set ?_ GE107.out | refine below_set ?_ GE109.out) | exact HB.out)) hb); clear BK107; clear BK109; clear HB; have BK107 := n0_; have BK109 := n1_; have HB := n2_; clear n0_ n1_ n2_; (try clear hb); (try clear hb2); (try clear hk); (try clear hi); have hcz54_0 : w53.cell? ⟨gb109, 0, none⟩ = some (.string ((rd_T48 l0_1 a1).f0)) := (blk_cell BK109.out 0).trans rfl; have hcz54_1 : w53.cell? ⟨gb109, 1, none⟩ = some (.slice (some ad117) ((rd_T48 l0_1 a1).f1).length c108_1) := (blk_cell BK109.out 1).trans rfl; have hfz54_0 := blk_frozen BK109.out 0; have hfz54_1 := blk_frozen BK109.out 1; obtain ⟨i055, hi055, _, hsz55, _⟩ := info_parts info9; obtain ⟨hcut55, hA55, hC55⟩ := print_take_of (P := Try.prog) Value.string (⟨#[]⟩ : ByteArray) 27 9 .i64 Try.underlying27 hi055 hsz55 (some ad117) c108_1 ((rd_T48 l0_1 a1).f1) x47_2 (of_decide_eq_true (by first | (with_reducible assumption) | assumption)) (of_decide_eq_true (by first | (with_reducible assumption) | assumption)) HC108_1.out; have HR119 := Aside0.mk (Kd.C_of_reads (h1 := fun _ => rfl) (hA55 _ (Kd.reads_of_C HR108_1.out))); have HC119 := Aside0.mk hC55; clear hA55 hC55 hi055 hsz55) | ((with_reducible refine gate_callee (f := 123) rfl ?_); refine goesL_ (some 64) rfl rfl Try.func123 (by kernel_rfl) rfl #[.slice (some ad117) (((rd_T48 l0_1 a1).f1).take (x47_2 : Int).toNat).length c108_1, .string (rdOf ByteArray.empty ((rd_T48 l0_1 a1).f1) x47_2)] rfl (by (try simp only [List.map_toArray, List.map_cons, List.map_nil]); first | done | (rw [show (((rd_T48 l0_1 a1).f1).take (x47_2 : Int).toNat).length = x47_2.toNat from (by rw [List.length_take]; have h_ : (x47_2 : Int) ≤ (((rd_T48 l0_1 a1).f1).length : Int) := of_decide_eq_true (by first | (with_reducible assumption) | assumption); omega)] <;> rfl) | rfl | (simp only [List.length_drop, List.length_take]; rfl)) ?_; (with_reducible refine (slices_Contains_string_string.calls k2 _ _ (((rd_T48 l0_1 a1).f1).take (x47_2 : Int).toNat) (rdOf ByteArray.empty ((rd_T48 l0_1 a1).f1) x47_2) true _ ?side1 ?side2 A49.out).mono ?_); (case side1 => repeat (first | exact (Kd.C_below HR119.out HB.out) | (with_reducible refine Kd.C_alloc ?_ _) | (with_reducible refine Kd.C_drewN ?_ _) | (with_reducible refine Kd.C_drew ?_))); (case side2 => exact HC119.out); rintro e w56 ⟨rfl, hb⟩; refine ⟨_, rfl, ?_⟩; have n0_ := Aside0.mk (blk_below (g := gb107) (o := .cells #[.slice A0_0 l0_0.length c0_0, .slice (some ad108) l0_1.length c0_1] 25 (0, 0)) (by (with_reducible repeat (first | refine blk_drewN ?_ _ | refine blk_drew ?_ | refine blk_alloc ?_ _)); exact BK107.out) hb); have n1_ := Aside0.mk (blk_below (g := gb109) (o := .cells #[.string ((rd_T48 l0_1 a1).f0), .slice (some ad117) ((rd_T48 l0_1 a1).f1).length c108_1] 48 (0, 0)) (by (with_reducible repeat (first | refine blk_drewN ?_ _ | refine blk_drew ?_ | refine blk_alloc ?_ _)); exact BK109.out) hb); have n2_ := Aside0.mk (below_step (by repeat (first | (with_reducible first | exact HB.out | apply below_alloc | apply pw_below_drewN | apply below_drew1 | refine below_set ?_ GE107.out | refine below_set ?_ GE109.out) | exact HB.out)) hb); clear BK107; clear BK109; clear HB; have BK107 := n0_; have BK109 := n1_; have HB := n2_; clear n0_ n1_ n2_; (try clear hb); (try clear hb2); (try clear hk); (try clear hi)))
                             go_ret
                             exact ⟨by first | rfl | (simp [errW_none, errW_some] <;> rfl) | (simp [*, errW_none, errW_some] <;> rfl), by repeat (first | (with_reducible first | exact HB.out | apply below_alloc | apply pw_below_drewN | apply below_drew1 | refine below_set ?_ GE107.out | refine below_set ?_ GE109.out) | exact HB.out)⟩
                           · replace c50 := Bool.eq_false_iff.mpr c50
                             subst c50
                             have H1 : (if x47_2 > 0 then (if 0 ≤ (wrap64 (x47_2 - 1)) then (if (wrap64 (x47_2 - 1)) < (((rd_T48 l0_1 a1).f1).length : Int) then ((chart_find.f l0_0 l0_1 (rdOf ByteArray.empty ((rd_T48 l0_1 a1).f1) (wrap64 (x47_2 - 1)))).bind fun t122 => (if 0 ≤ t122 then (if t122 < (l0_0.length : Int) then (if 0 ≤ t118 then (if t118 < (l0_0.length : Int) then (if (((rd_T40 l0_0 t122).f1.f0) == ((rd_T40 l0_0 t118).f1.f0) && (((rd_T40 l0_0 t122).f1.f1) == ((rd_T40 l0_0 t118).f1.f1))) = true then (some 10) else (chart_airway.l0 k2 ((rd_T48 l0_1 a1).f1) (((rd_T48 l0_1 a1).f1).length : Int) (wrap64 (x47_2 + 1)) l0_0 l0_1 ((rd_T48 l0_1 a1).f0) ((rd_T48 l0_1 a1).f1))) else (none)) else (none)) else (none)) else (none))) else (none)) else (none)) else (chart_airway.l0 k2 ((rd_T48 l0_1 a1).f1) (((rd_T48 l0_1 a1).f1).length : Int) (wrap64 (x47_2 + 1)) l0_0 l0_1 ((rd_T48 l0_1 a1).f0) ((rd_T48 l0_1 a1).f1))) = some r := by rw [if_neg (show ¬ (false = true) by decide)] at H; exact H
                             clear H
                             have H := H1
                             clear H1
                             by_cases c57 : x47_2 > 0
                             · rw [if_pos c57] at H
                               have c57b0 : decide (0 < x47_2) = true := decide_eq_true c57
                               clear c57
                               obtain ⟨ji58, hji58⟩ : ∃ j_ : Int, (wrap64 (x47_2 - 1)) = j_ := ⟨_, rfl⟩
                               replace H : (if 0 ≤ (ji58) then (if (ji58) < (((rd_T48 l0_1 a1).f1).length : Int) then ((chart_find.f l0_0 l0_1 (rdOf ByteArray.empty ((rd_T48 l0_1 a1).f1) (ji58))).bind fun t122 => (if 0 ≤ t122 then (if t122 < (l0_0.length : Int) then (if 0 ≤ t118 then (if t118 < (l0_0.length : Int) then (if (((rd_T40 l0_0 t122).f1.f0) == ((rd_T40 l0_0 t118).f1.f0) && (((rd_T40 l0_0 t122).f1.f1) == ((rd_T40 l0_0 t118).f1.f1))) = true then (some 10) else (chart_airway.l0 k2 ((rd_T48 l0_1 a1).f1) (((rd_T48 l0_1 a1).f1).length : Int) (wrap64 (x47_2 + 1)) l0_0 l0_1 ((rd_T48 l0_1 a1).f0) ((rd_T48 l0_1 a1).f1))) else (none)) else (none)) else (none)) else (none))) else (none)) else (none)) = some r := by first | (rw [hji58] at H; exact H) | (simp only [hji58] at H ⊢; exact H)
                               (try rw [hji58] at A42)
                               (try rw [hji58] at A49)
                               have hji58w : (IntKind.i64.wrap (x47_2 - 1)) = ji58 := (i64_w _).trans hji58
                               by_cases c59 : 0 ≤ (ji58)
                               · rw [if_pos c59] at H
                                 have c59b0 : decide (0 ≤ (ji58)) = true := decide_eq_true c59
                                 clear c59
                                 by_cases c60 : (ji58) < (((rd_T48 l0_1 a1).f1).length : Int)
                                 · rw [if_pos c60] at H
                                   have c60b0 : decide ((ji58) < (((rd_T48 l0_1 a1).f1).length : Int)) = true := decide_eq_true c60
                                   clear c60
                                   replace H := Option.bind_eq_some_iff.mp H
                                   obtain ⟨t122, A610, H⟩ := H
                                   replace H : (if 0 ≤ t122 then (if t122 < (l0_0.length : Int) then (if 0 ≤ t118 then (if t118 < (l0_0.length : Int) then (if (((rd_T40 l0_0 t122).f1.f0) == ((rd_T40 l0_0 t118).f1.f0) && (((rd_T40 l0_0 t122).f1.f1) == ((rd_T40 l0_0 t118).f1.f1))) = true then (some 10) else (chart_airway.l0 k2 ((rd_T48 l0_1 a1).f1) (((rd_T48 l0_1 a1).f1).length : Int) (wrap64 (x47_2 + 1)) l0_0 l0_1 ((rd_T48 l0_1 a1).f0) ((rd_T48 l0_1 a1).f1))) else (none)) else (none)) else (none)) else (none)) = some r := H
                                   have A61 := Aside0.mk A610
                                   clear A610
                                   by_cases c62 : 0 ≤ t122
                                   · rw [if_pos c62] at H
                                     have c62b0 : decide (0 ≤ t122) = true := decide_eq_true c62
                                     clear c62
                                     by_cases c63 : t122 < (l0_0.length : Int)
                                     · rw [if_pos c63] at H
                                       have c63b0 : decide (t122 < (l0_0.length : Int)) = true := decide_eq_true c63
                                       clear c63
                                       by_cases c64 : 0 ≤ t118
                                       · rw [if_pos c64] at H
                                         have c64b0 : decide (0 ≤ t118) = true := decide_eq_true c64
                                         clear c64
                                         by_cases c65 : t118 < (l0_0.length : Int)
                                         · rw [if_pos c65] at H
                                           have c65b0 : decide (t118 < (l0_0.length : Int)) = true := decide_eq_true c65
                                           clear c65
                                           by_cases c66 : (((rd_T40 l0_0 t122).f1.f0) == ((rd_T40 l0_0 t118).f1.f0) && (((rd_T40 l0_0 t122).f1.f1) == ((rd_T40 l0_0 t118).f1.f1))) = true
                                           · rw [if_pos c66] at H
                                             have c66b0 : (((rd_T40 l0_0 t122).f1.f0) == ((rd_T40 l0_0 t118).f1.f0) && (((rd_T40 l0_0 t122).f1.f1) == ((rd_T40 l0_0 t118).f1.f1))) = true := c66
                                             (try (have c66b1 : decide (((rd_T40 l0_0 t122).f1.f0) = ((rd_T40 l0_0 t118).f1.f0) && (((rd_T40 l0_0 t122).f1.f1) == ((rd_T40 l0_0 t118).f1.f1))) = true := by simpa using c66))
                                             (try (have c66b2 : (((rd_T40 l0_0 t122).f1.f0) == ((rd_T40 l0_0 t118).f1.f0) && (((rd_T40 l0_0 t122).f1.f1) == ((rd_T40 l0_0 t118).f1.f1))) = true := by simpa using c66))
                                             clear c66
                                             obtain rfl := Option.some.inj H
                                             have p117 : 0 ≤ (x47_2 : Int) := of_decide_eq_true (by first | (with_reducible assumption) | assumption)
                                             have q117 : x47_2 < (((rd_T48 l0_1 a1).f1).length : Int) := of_decide_eq_true (by first | (with_reducible assumption) | assumption)
                                             obtain ⟨ad117, e117, hx117_0⟩ := Kd.at_string HR108_1.out x47_2 p117 q117
                                             cases e117
                                             replace hx117_0 := (HB.out.cell (World.block_lt_of_cell? w _ hx117_0)).trans hx117_0
                                             replace p117 := eq_true p117
                                             replace q117 := eq_true q117
                                             have hnb67 := NB107_109.out
                                             have hnc67 := NB109_107.out
                                             have hcz68_0 : wr.cell? ⟨gb107, 0, none⟩ = some (.slice A0_0 l0_0.length c0_0) := (blk_cell BK107.out 0).trans rfl
                                             have hcz68_1 : wr.cell? ⟨gb107, 1, none⟩ = some (.slice (some ad108) l0_1.length c0_1) := (blk_cell BK107.out 1).trans rfl
                                             have hfz68_0 := blk_frozen BK107.out 0
                                             have hfz68_1 := blk_frozen BK107.out 1
                                             try go_wp2_with (first | ((with_reducible refine gate_callee (f := 55) rfl ?_); refine goesL_ (some 54) rfl rfl Try.func55 (by kernel_rfl) rfl #[.agg #[.slice A0_0 l0_0.length c0_0, .slice (some ad108) l0_1.length c0_1], .string (rdOf ByteArray.empty ((rd_T48 l0_1 a1).f1) x47_2)] rfl (by (try simp only [List.map_toArray, List.map_cons, List.map_nil]); first | done | rfl | (simp only [List.length_drop, List.length_take]; rfl)) ?_; (with_reducible refine (chart_find.calls _ _ l0_0 _ _ l0_1 (rdOf ByteArray.empty ((rd_T48 l0_1 a1).f1) x47_2) t118 _ ?side1 ?side2 ?side3 ?side4 A42.out).mono ?_); (case side1 => repeat (first | exact (Kd.C_below HR0_0.out HB.out) | (with_reducible refine Kd.C_alloc ?_ _) | (with_reducible refine Kd.C_drewN ?_ _) | (with_reducible refine Kd.C_drew ?_))); (case side2 => exact HC0_0.out); (case side3 => repeat (first | exact (Kd.C_below HR0_1.out HB.out) | (with_reducible refine Kd.C_alloc ?_ _) | (with_reducible refine Kd.C_drewN ?_ _) | (with_reducible refine Kd.C_drew ?_))); (case side4 => exact HC0_1.out); rintro e w69 ⟨rfl, hb⟩; refine ⟨_, rfl, ?_⟩; have n0_ := Aside0.mk (blk_below (g := gb107) (o := .cells #[.slice A0_0 l0_0.length c0_0, .slice (some ad108) l0_1.length c0_1] 25 (0, 0)) (by (with_reducible repeat (first | refine blk_drewN ?_ _ | refine blk_drew ?_ | refine blk_alloc ?_ _)); exact BK107.out) hb); have n1_ := Aside0.mk (blk_below (g := gb109) (o := .cells #[.string ((rd_T48 l0_1 a1).f0), .slice (some ad117) ((rd_T48 l0_1 a1).f1).length c108_1] 48 (0, 0)) (by (with_reducible repeat (first | refine blk_drewN ?_ _ | refine blk_drew ?_ | refine blk_alloc ?_ _)); exact BK109.out) hb); have n2_ := Aside0.mk (below_step (by repeat (first | (with_reducible first | exact HB.out | apply below_alloc | apply pw_below_drewN | apply below_drew1 | refine below_set ?_ GE107.out | refine below_set ?_ GE109.out) | exact HB.out)) hb); clear BK107; clear BK109; clear HB; have BK107 := n0_; have BK109 := n1_; have HB := n2_; clear n0_ n1_ n2_; (try clear hb); (try clear hb2); (try clear hk); (try clear hi); have hcz70_0 : w69.cell? ⟨gb109, 0, none⟩ = some (.string ((rd_T48 l0_1 a1).f0)) := (blk_cell BK109.out 0).trans rfl; have hcz70_1 : w69.cell? ⟨gb109, 1, none⟩ = some (.slice (some ad117) ((rd_T48 l0_1 a1).f1).length c108_1) := (blk_cell BK109.out 1).trans rfl; have hfz70_0 := blk_frozen BK109.out 0; have hfz70_1 := blk_frozen BK109.out 1; obtain ⟨i071, hi071, _, hsz71, _⟩ := info_parts info9; obtain ⟨hcut71, hA71, hC71⟩ := print_take_of (P := Try.prog) Value.string (⟨#[]⟩ : ByteArray) 27 9 .i64 Try.underlying27 hi071 hsz71 (some ad117) c108_1 ((rd_T48 l0_1 a1).f1) x47_2 (of_decide_eq_true (by first | (with_reducible assumption) | assumption)) (of_decide_eq_true (by first | (with_reducible assumption) | assumption)) HC108_1.out; have HR119 := Aside0.mk (Kd.C_of_reads (h1 := fun _ => rfl) (hA71 _ (Kd.reads_of_C HR108_1.out))); have HC119 := Aside0.mk hC71; clear hA71 hC71 hi071 hsz71) | ((with_reducible refine gate_callee (f := 123) rfl ?_); refine goesL_ (some 64) rfl rfl Try.func123 (by kernel_rfl) rfl #[.slice (some ad117) (((rd_T48 l0_1 a1).f1).take (x47_2 : Int).toNat).length c108_1, .string (rdOf ByteArray.empty ((rd_T48 l0_1 a1).f1) x47_2)] rfl (by (try simp only [List.map_toArray, List.map_cons, List.map_nil]); first | done | (rw [show (((rd_T48 l0_1 a1).f1).take (x47_2 : Int).toNat).length = x47_2.toNat from (by rw [List.length_take]; have h_ : (x47_2 : Int) ≤ (((rd_T48 l0_1 a1).f1).length : Int) := of_decide_eq_true (by first | (with_reducible assumption) | assumption); omega)] <;> rfl) | rfl | (simp only [List.length_drop, List.length_take]; rfl)) ?_; (with_reducible refine (slices_Contains_string_string.calls k2 _ _ (((rd_T48 l0_1 a1).f1).take (x47_2 : Int).toNat) (rdOf ByteArray.empty ((rd_T48 l0_1 a1).f1) x47_2) false _ ?side1 ?side2 A49.out).mono ?_); (case side1 => repeat (first | exact (Kd.C_below HR119.out HB.out) | (with_reducible refine Kd.C_alloc ?_ _) | (with_reducible refine Kd.C_drewN ?_ _) | (with_reducible refine Kd.C_drew ?_))); (case side2 => exact HC119.out); rintro e w72 ⟨rfl, hb⟩; refine ⟨_, rfl, ?_⟩; have n0_ := Aside0.mk (blk_below (g := gb107) (o := .cells #[.slice A0_0 l0_0.length c0_0, .slice (some ad108) l0_1.length c0_1] 25 (0, 0)) (by (with_reducible repeat (first | refine blk_drewN ?_ _ | refine blk_drew ?_ | refine blk_alloc ?_ _)); exact BK107.out) hb); have n1_ := Aside0.mk (blk_below (g := gb109) (o := .cells #[.string ((rd_T48 l0_1 a1).f0), .slice (some ad117) ((rd_T48 l0_1 a1).f1).length c108_1] 48 (0, 0)) (by (with_reducible repeat (first | refine blk_drewN ?_ _ | refine blk_drew ?_ | refine blk_alloc ?_ _)); exact BK109.out) hb); have n2_ := Aside0.mk (below_step (by repeat (first | (with_reducible first | exact HB.out | apply below_alloc | apply pw_below_drewN | apply below_drew1 | refine below_set ?_ GE107.out | refine below_set ?_ GE109.out) | exact HB.out)) hb); clear BK107; clear BK109; clear HB; have BK107 := n0_; have BK109 := n1_; have HB := n2_; clear n0_ n1_ n2_; (try clear hb); (try clear hb2); (try clear hk); (try clear hi)))
                                             have n0_ := Aside0.mk (blk_drew BK107.out)
                                             have n1_ := Aside0.mk (blk_drew BK109.out)
                                             have n2_ := Aside0.mk (below_drew1 HB.out)
                                             clear BK107
                                             clear BK109
                                             clear HB
                                             have BK107 := n0_
                                             have BK109 := n1_
                                             have HB := n2_
                                             clear n0_ n1_ n2_
                                             have p121 : 0 ≤ ((ji58) : Int) := of_decide_eq_true (by first | (with_reducible assumption) | assumption)
                                             have q121 : (ji58) < (((rd_T48 l0_1 a1).f1).length : Int) := of_decide_eq_true (by first | (with_reducible assumption) | assumption)
                                             obtain ⟨ad121, e121, hx121_0⟩ := Kd.at_string HR108_1.out (ji58) p121 q121
                                             have hw121_0 := hx121_0
                                             obtain rfl : ad117 = ad121 := (by injection e121)
                                             replace hx121_0 := (HB.out.cell (World.block_lt_of_cell? w _ hx121_0)).trans hx121_0
                                             replace p121 := eq_true p121
                                             replace q121 := eq_true q121
                                             have p124 : 0 ≤ (t118 : Int) := of_decide_eq_true (by first | (with_reducible assumption) | assumption)
                                             have q124 : t118 < (l0_0.length : Int) := of_decide_eq_true (by first | (with_reducible assumption) | assumption)
                                             obtain ⟨ad124, e124, hx124_0, hx124_1, hx124_2⟩ := at_T40 HR0_0.out t118 p124 q124
                                             have hw124_2 := hx124_2
                                             have hw124_1 := hx124_1
                                             have hw124_0 := hx124_0
                                             cases e124
                                             replace hx124_0 := (HB.out.cell (World.block_lt_of_cell? w _ hx124_0)).trans hx124_0
                                             replace hx124_1 := (HB.out.cell (World.block_lt_of_cell? w _ hx124_1)).trans hx124_1
                                             replace hx124_2 := (HB.out.cell (World.block_lt_of_cell? w _ hx124_2)).trans hx124_2
                                             replace p124 := eq_true p124
                                             replace q124 := eq_true q124
                                             have p123 : 0 ≤ (t122 : Int) := of_decide_eq_true (by first | (with_reducible assumption) | assumption)
                                             have q123 : t122 < (l0_0.length : Int) := of_decide_eq_true (by first | (with_reducible assumption) | assumption)
                                             obtain ⟨ad123, e123, hx123_0, hx123_1, hx123_2⟩ := at_T40 HR0_0.out t122 p123 q123
                                             have hw123_2 := hx123_2
                                             have hw123_1 := hx123_1
                                             have hw123_0 := hx123_0
                                             obtain rfl : ad124 = ad123 := (by injection e123)
                                             replace hx123_0 := (HB.out.cell (World.block_lt_of_cell? w _ hx123_0)).trans hx123_0
                                             replace hx123_1 := (HB.out.cell (World.block_lt_of_cell? w _ hx123_1)).trans hx123_1
                                             replace hx123_2 := (HB.out.cell (World.block_lt_of_cell? w _ hx123_2)).trans hx123_2
                                             replace p123 := eq_true p123
                                             replace q123 := eq_true q123
                                             refine start_ (n := 25) (S := fun w' => w'.cell? ⟨gb107, 0, none⟩ = some (.slice (some ad124) l0_0.length c0_0) ∧ w'.cell? ⟨gb107, 1, none⟩ = some (.slice (some ad108) l0_1.length c0_1) ∧ w'.cell? ⟨gb109, 0, none⟩ = some (.string ((rd_T48 l0_1 a1).f0)) ∧ w'.cell? ⟨gb109, 1, none⟩ = some (.slice (some ad117) ((rd_T48 l0_1 a1).f1).length c108_1) ∧ w'.cell? (ad117.add ((ji58)).toNat) = some (.string (rdOf ByteArray.empty ((rd_T48 l0_1 a1).f1) (ji58))) ∧ w'.cell? (ad124.add ((t118).toNat * 3)) = some (.string ((rd_T40 l0_0 t118).f0)) ∧ w'.cell? ⟨(ad124.add ((t118).toNat * 3)).block, (ad124.add ((t118).toNat * 3)).off + 1, none⟩ = some (.int .i64 ((rd_T40 l0_0 t118).f1.f0)) ∧ w'.cell? ⟨(ad124.add ((t118).toNat * 3)).block, (ad124.add ((t118).toNat * 3)).off + 2, none⟩ = some (.int .i64 ((rd_T40 l0_0 t118).f1.f1)) ∧ w'.cell? (ad124.add ((t122).toNat * 3)) = some (.string ((rd_T40 l0_0 t122).f0)) ∧ w'.cell? ⟨(ad124.add ((t122).toNat * 3)).block, (ad124.add ((t122).toNat * 3)).off + 1, none⟩ = some (.int .i64 ((rd_T40 l0_0 t122).f1.f0)) ∧ w'.cell? ⟨(ad124.add ((t122).toNat * 3)).block, (ad124.add ((t122).toNat * 3)).off + 2, none⟩ = some (.int .i64 ((rd_T40 l0_0 t122).f1.f1))) (ds := []) #[false, false, false, false, false, false, false, false, false, false, false, false, false, false, false, false, false, false, false, false, false, false, false, false, false] (by kernel_rfl) rfl rfl ⟨(blk_cell BK107.out 0).trans rfl, (blk_cell BK107.out 1).trans rfl, (blk_cell BK109.out 0).trans rfl, (blk_cell BK109.out 1).trans rfl, ((HB.out.cell (World.block_lt_of_cell? w _ hw121_0)).trans hw121_0), ((HB.out.cell (World.block_lt_of_cell? w _ hw124_0)).trans hw124_0), ((HB.out.cell (World.block_lt_of_cell? w _ hw124_1)).trans hw124_1), ((HB.out.cell (World.block_lt_of_cell? w _ hw124_2)).trans hw124_2), ((HB.out.cell (World.block_lt_of_cell? w _ hw123_0)).trans hw123_0), ((HB.out.cell (World.block_lt_of_cell? w _ hw123_1)).trans hw123_1), ((HB.out.cell (World.block_lt_of_cell? w _ hw123_2)).trans hw123_2)⟩ (fun hHeld => ?_); refine with_tabW chart_airway.tab16 chart_airway.bits16 (fun HT_ HW_ => ?_)
                                             generalize w72.drew = w73 at BK107 BK109 HB hx121_0 hx123_0 hx123_1 hx123_2 hx124_0 hx124_1 hx124_2 hHeld ⊢
                                             refine pure_ (i := 0) (N := some 66) (v := ?_) (a' := ?_) #[true, false, false, false, false, false, false, false, false, false, false, false, false, false, false, false, false, false, false, false, false, false, false, false, false] rfl rfl (any_of HT_.out (by kernel_rfl)) (fun _ _ _ h => h) (Or.inl ⟨by rfl, ?_⟩) ?_ ?_
                                             rotate_left
                                             · intro w'
                                               go_simp
                                               with_reducible rfl
                                             rotate_left
                                             · simp only [Act.put, List.setIfInBounds_toArray, List.set_cons_zero, List.set_cons_succ, i64_w, i32_w]
                                               rfl
                                             refine pure_ (i := 1) (N := some 67) (v := ?_) (a' := ?_) #[true, true, false, false, false, false, false, false, false, false, false, false, false, false, false, false, false, false, false, false, false, false, false, false, false] rfl rfl (any_of HT_.out (by kernel_rfl)) (fun _ _ _ h => h) (Or.inl ⟨by rfl, ?_⟩) ?_ ?_
                                             rotate_left
                                             · intro w'
                                               go_simp
                                               with_reducible rfl
                                             rotate_left
                                             · simp only [Act.put, List.setIfInBounds_toArray, List.set_cons_zero, List.set_cons_succ, i64_w, i32_w]
                                               rfl
                                             refine pure_ (i := 2) (N := some 68) (v := ?_) (a' := ?_) #[true, true, true, false, false, false, false, false, false, false, false, false, false, false, false, false, false, false, false, false, false, false, false, false, false] rfl rfl (any_of HT_.out (by kernel_rfl)) (fun _ _ _ h => h) (Or.inl ⟨by rfl, ?_⟩) ?_ ?_
                                             rotate_left
                                             · intro w'
                                               go_simp
                                               with_reducible rfl
                                             rotate_left
                                             · simp only [Act.put, List.setIfInBounds_toArray, List.set_cons_zero, List.set_cons_succ, i64_w, i32_w]
                                               rfl
                                             refine pure_ (i := 3) (N := some 69) (v := ?_) (a' := ?_) #[true, true, true, true, false, false, false, false, false, false, false, false, false, false, false, false, false, false, false, false, false, false, false, false, false] rfl rfl (any_of HT_.out (by kernel_rfl)) (fun _ _ _ h => h) (Or.inl ⟨by rfl, ?_⟩) ?_ ?_
                                             rotate_left
                                             · intro w'
                                               go_simp
                                               with_reducible rfl
                                             rotate_left
                                             · simp only [Act.put, List.setIfInBounds_toArray, List.set_cons_zero, List.set_cons_succ, i64_w, i32_w]
                                               rfl
                                             refine pure_ (i := 6) (N := some 72) (v := ?_) (a' := ?_) #[true, true, true, true, false, false, true, false, false, false, false, false, false, false, false, false, false, false, false, false, false, false, false, false, false] rfl rfl (any_of HT_.out (by kernel_rfl)) (fun _ _ _ h => h) (Or.inl ⟨by rfl, ?_⟩) ?_ ?_
                                             rotate_left
                                             · intro w'
                                               go_simp
                                               with_reducible rfl
                                             rotate_left
                                             · simp only [Act.put, List.setIfInBounds_toArray, List.set_cons_zero, List.set_cons_succ, i64_w, i32_w]
                                               rfl
                                             refine pure_ (i := 8) (N := some 74) (v := ?_) (a' := ?_) #[true, true, true, true, false, false, true, false, true, false, false, false, false, false, false, false, false, false, false, false, false, false, false, false, false] rfl rfl (any_of HT_.out (by kernel_rfl)) (fun _ _ _ h => h) (Or.inl ⟨by rfl, ?_⟩) ?_ ?_
                                             rotate_left
                                             · intro w'
                                               go_simp
                                               with_reducible rfl
                                             rotate_left
                                             · simp only [Act.put, List.setIfInBounds_toArray, List.set_cons_zero, List.set_cons_succ, i64_w, i32_w]
                                               rfl
                                             refine pure_ (i := 9) (N := some 75) (v := ?_) (a' := ?_) #[true, true, true, true, false, false, true, false, true, true, false, false, false, false, false, false, false, false, false, false, false, false, false, false, false] rfl rfl (any_of HT_.out (by kernel_rfl)) (fun _ _ _ h => h) (Or.inl ⟨by rfl, ?_⟩) ?_ ?_
                                             rotate_left
                                             · intro w'
                                               go_simp
                                               with_reducible rfl
                                             rotate_left
                                             · simp only [Act.put, List.setIfInBounds_toArray, List.set_cons_zero, List.set_cons_succ, i64_w, i32_w]
                                               rfl
                                             refine pure_ (i := 16) (N := some 82) (v := ?_) (a' := ?_) #[true, true, true, true, false, false, true, false, true, true, false, false, false, false, false, false, true, false, false, false, false, false, false, false, false] rfl rfl (any_of HT_.out (by kernel_rfl)) (fun _ _ _ h => h) (Or.inl ⟨by rfl, ?_⟩) ?_ ?_
                                             rotate_left
                                             · intro w'
                                               go_simp
                                               with_reducible rfl
                                             rotate_left
                                             · simp only [Act.put, List.setIfInBounds_toArray, List.set_cons_zero, List.set_cons_succ, i64_w, i32_w]
                                               rfl
                                             refine pure_ (i := 18) (N := some 84) (v := ?_) (a' := ?_) #[true, true, true, true, false, false, true, false, true, true, false, false, false, false, false, false, true, false, true, false, false, false, false, false, false] rfl rfl (any_of HT_.out (by kernel_rfl)) (fun _ _ _ h => h) (Or.inl ⟨by rfl, ?_⟩) ?_ ?_
                                             rotate_left
                                             · intro w'
                                               go_simp
                                               with_reducible rfl
                                             rotate_left
                                             · simp only [Act.put, List.setIfInBounds_toArray, List.set_cons_zero, List.set_cons_succ, i64_w, i32_w]
                                               rfl
                                             refine take_ (i := 4) (N := some 70) (v := ?_) (a' := ?_) #[true, true, true, true, true, false, true, false, true, true, false, false, false, false, false, false, true, false, true, false, false, false, false, false, false] rfl rfl (take_ofW HT_.out HW_.out (by kernel_rfl)) (fun _ _ _ h => h) (Or.inl ⟨by rfl, ?_⟩) hHeld ?_ ?_
                                             rotate_left
                                             · rintro w' ⟨s0, s1, s2, s3, s4, s5, s6, s7, s8, s9, s10⟩
                                               go_simp
                                               with_reducible rfl
                                             rotate_left
                                             · simp only [Act.put, List.setIfInBounds_toArray, List.set_cons_zero, List.set_cons_succ, i64_w, i32_w]
                                               rfl
                                             refine take_ (i := 5) (N := some 71) (v := ?_) (a' := ?_) #[true, true, true, true, true, true, true, false, true, true, false, false, false, false, false, false, true, false, true, false, false, false, false, false, false] rfl rfl (take_ofW HT_.out HW_.out (by kernel_rfl)) (fun _ _ _ h => h) (Or.inl ⟨by rfl, ?_⟩) hHeld ?_ ?_
                                             rotate_left
                                             · rintro w' ⟨s0, s1, s2, s3, s4, s5, s6, s7, s8, s9, s10⟩
                                               go_simp
                                               with_reducible rfl
                                             rotate_left
                                             · simp only [Act.put, List.setIfInBounds_toArray, List.set_cons_zero, List.set_cons_succ, i64_w, i32_w]
                                               rfl
                                             refine take_ (i := 7) (N := some 73) (v := ?_) (a' := ?_) #[true, true, true, true, true, true, true, true, true, true, false, false, false, false, false, false, true, false, true, false, false, false, false, false, false] rfl rfl (take_ofW HT_.out HW_.out (by kernel_rfl)) (fun _ _ _ h => h) (Or.inl ⟨by rfl, ?_⟩) hHeld ?_ ?_
                                             rotate_left
                                             · rintro w' ⟨s0, s1, s2, s3, s4, s5, s6, s7, s8, s9, s10⟩
                                               go_simp
                                               with_reducible rfl
                                             rotate_left
                                             · simp only [Act.put, List.setIfInBounds_toArray, List.set_cons_zero, List.set_cons_succ, i64_w, i32_w]
                                               rfl
                                             refine pure_ (i := 10) (N := some 76) (v := ?_) (a' := ?_) #[true, true, true, true, true, true, true, true, true, true, true, false, false, false, false, false, true, false, true, false, false, false, false, false, false] rfl rfl (any_of HT_.out (by kernel_rfl)) (fun _ _ _ h => h) (Or.inl ⟨by rfl, ?_⟩) ?_ ?_
                                             rotate_left
                                             · intro w'
                                               go_simp
                                               with_reducible rfl
                                             rotate_left
                                             · simp only [Act.put, List.setIfInBounds_toArray, List.set_cons_zero, List.set_cons_succ, i64_w, i32_w]
                                               rfl
                                             refine take_ (i := 11) (N := some 77) (v := ?_) (a' := ?_) #[true, true, true, true, true, true, true, true, true, true, true, true, false, false, false, false, true, false, true, false, false, false, false, false, false] rfl rfl (take_ofW HT_.out HW_.out (by kernel_rfl)) (fun _ _ _ h => h) (Or.inl ⟨by rfl, ?_⟩) hHeld ?_ ?_
                                             rotate_left
                                             · rintro w' ⟨s0, s1, s2, s3, s4, s5, s6, s7, s8, s9, s10⟩
                                               go_simp
                                               with_reducible rfl
                                             rotate_left
                                             · simp only [Act.put, List.setIfInBounds_toArray, List.set_cons_zero, List.set_cons_succ, i64_w, i32_w]
                                               rfl
                                             refine take_ (i := 17) (N := some 83) (v := ?_) (a' := ?_) #[true, true, true, true, true, true, true, true, true, true, true, true, false, false, false, false, true, true, true, false, false, false, false, false, false] rfl rfl (take_ofW HT_.out HW_.out (by kernel_rfl)) (fun _ _ _ h => h) (Or.inl ⟨by rfl, ?_⟩) hHeld ?_ ?_
                                             rotate_left
                                             · rintro w' ⟨s0, s1, s2, s3, s4, s5, s6, s7, s8, s9, s10⟩
                                               go_simp
                                               with_reducible rfl
                                             rotate_left
                                             · simp only [Act.put, List.setIfInBounds_toArray, List.set_cons_zero, List.set_cons_succ, i64_w, i32_w]
                                               rfl
                                             refine pure_ (i := 19) (N := some 85) (v := ?_) (a' := ?_) #[true, true, true, true, true, true, true, true, true, true, true, true, false, false, false, false, true, true, true, true, false, false, false, false, false] rfl rfl (any_of HT_.out (by kernel_rfl)) (fun _ _ _ h => h) (Or.inl ⟨by rfl, ?_⟩) ?_ ?_
                                             rotate_left
                                             · intro w'
                                               go_simp
                                               with_reducible rfl
                                             rotate_left
                                             · simp only [Act.put, List.setIfInBounds_toArray, List.set_cons_zero, List.set_cons_succ, i64_w, i32_w]
                                               rfl
                                             refine pure_ (i := 20) (N := some 86) (v := ?_) (a' := ?_) #[true, true, true, true, true, true, true, true, true, true, true, true, false, false, false, false, true, true, true, true, true, false, false, false, false] rfl rfl (any_of HT_.out (by kernel_rfl)) (fun _ _ _ h => h) (Or.inl ⟨by rfl, ?_⟩) ?_ ?_
                                             rotate_left
                                             · intro w'
                                               go_simp
                                               with_reducible rfl
                                             rotate_left
                                             · simp only [Act.put, List.setIfInBounds_toArray, List.set_cons_zero, List.set_cons_succ, i64_w, i32_w]
                                               rfl
                                             refine take_ (i := 21) (N := some 87) (v := ?_) (a' := ?_) #[true, true, true, true, true, true, true, true, true, true, true, true, false, false, false, false, true, true, true, true, true, true, false, false, false] rfl rfl (take_ofW HT_.out HW_.out (by kernel_rfl)) (fun _ _ _ h => h) (Or.inl ⟨by rfl, ?_⟩) hHeld ?_ ?_
                                             rotate_left
                                             · rintro w' ⟨s0, s1, s2, s3, s4, s5, s6, s7, s8, s9, s10⟩
                                               go_simp
                                               with_reducible rfl
                                             rotate_left
                                             · simp only [Act.put, List.setIfInBounds_toArray, List.set_cons_zero, List.set_cons_succ, i64_w, i32_w]
                                               rfl
                                             refine one_ (i := 12) (N := some 78) #[true, true, true, true, true, true, true, true, true, true, true, true, true, false, false, false, true, true, true, true, true, true, false, false, false] rfl rfl (one_of HT_.out (by kernel_rfl)) (by decide) (fun K hK => ?_)
                                             refine goes_ Try.func55 (by kernel_rfl) rfl #[.agg #[.slice (some ad124) l0_0.length c0_0, .slice (some ad108) l0_1.length c0_1], .string (rdOf ByteArray.empty ((rd_T48 l0_1 a1).f1) (ji58))] (by rfl) rfl rfl (by (try simp only [List.map_toArray, List.map_cons, List.map_nil]); first | done | (simp only [hji58]; rfl) | rfl | (simp only [List.length_drop, List.length_take]; rfl)) ?_
                                             with_reducible refine (chart_find.calls _ _ l0_0 _ _ l0_1 (rdOf ByteArray.empty ((rd_T48 l0_1 a1).f1) (ji58)) t122 _ ?side1 ?side2 ?side3 ?side4 A61.out).mono ?_
                                             (case side1 => repeat (first | exact (Kd.C_below HR0_0.out HB.out) | (with_reducible refine Kd.C_alloc ?_ _) | (with_reducible refine Kd.C_drewN ?_ _) | (with_reducible refine Kd.C_drew ?_)))
                                             (case side2 => exact HC0_0.out)
                                             (case side3 => repeat (first | exact (Kd.C_below HR0_1.out HB.out) | (with_reducible refine Kd.C_alloc ?_ _) | (with_reducible refine Kd.C_drewN ?_ _) | (with_reducible refine Kd.C_drew ?_)))
                                             (case side4 => exact HC0_1.out)
                                             rintro e w74 ⟨rfl, hb⟩
                                             refine ⟨_, rfl, ?_⟩
                                             have n0_ := Aside0.mk (blk_below (g := gb107) (o := .cells #[.slice (some ad124) l0_0.length c0_0, .slice (some ad108) l0_1.length c0_1] 25 (0, 0)) (by (with_reducible repeat (first | refine blk_drewN ?_ _ | refine blk_drew ?_ | refine blk_alloc ?_ _)); exact BK107.out) hb)
                                             have n1_ := Aside0.mk (blk_below (g := gb109) (o := .cells #[.string ((rd_T48 l0_1 a1).f0), .slice (some ad117) ((rd_T48 l0_1 a1).f1).length c108_1] 48 (0, 0)) (by (with_reducible repeat (first | refine blk_drewN ?_ _ | refine blk_drew ?_ | refine blk_alloc ?_ _)); exact BK109.out) hb)
                                             have n2_ := Aside0.mk (below_step (by repeat (first | (with_reducible first | exact HB.out | apply below_alloc | apply pw_below_drewN | apply below_drew1 | refine below_set ?_ GE107.out | refine below_set ?_ GE109.out) | exact HB.out)) hb)
                                             clear BK107
                                             clear BK109
                                             clear HB
                                             have BK107 := n0_
                                             have BK109 := n1_
                                             have HB := n2_
                                             clear n0_ n1_ n2_
                                             (try clear hb)
                                             (try clear hb2)
                                             (try clear hk)
                                             (try clear hi)
                                             refine hK.out _ _ ⟨(blk_cell BK107.out 0).trans rfl, (blk_cell BK107.out 1).trans rfl, (blk_cell BK109.out 0).trans rfl, (blk_cell BK109.out 1).trans rfl, ((HB.out.cell (World.block_lt_of_cell? w _ hw121_0)).trans hw121_0), ((HB.out.cell (World.block_lt_of_cell? w _ hw124_0)).trans hw124_0), ((HB.out.cell (World.block_lt_of_cell? w _ hw124_1)).trans hw124_1), ((HB.out.cell (World.block_lt_of_cell? w _ hw124_2)).trans hw124_2), ((HB.out.cell (World.block_lt_of_cell? w _ hw123_0)).trans hw123_0), ((HB.out.cell (World.block_lt_of_cell? w _ hw123_1)).trans hw123_1), ((HB.out.cell (World.block_lt_of_cell? w _ hw123_2)).trans hw123_2)⟩ (fun hHeld => ?_)
                                             clear hK K
                                             refine norm_ (a' := ?_) ?_ ?_
                                             rotate_left
                                             · show Act.put _ (some 78) _ = _
                                               simp only [Act.put, List.setIfInBounds_toArray, List.set_cons_zero, List.set_cons_succ, i64_w, i32_w]
                                               rfl
                                             refine pure_ (i := 13) (N := some 79) (v := ?_) (a' := ?_) #[true, true, true, true, true, true, true, true, true, true, true, true, true, true, false, false, true, true, true, true, true, true, false, false, false] rfl rfl (any_of HT_.out (by kernel_rfl)) (fun _ _ _ h => h) (Or.inl ⟨by rfl, ?_⟩) ?_ ?_
                                             rotate_left
                                             · intro w'
                                               go_simp
                                               with_reducible rfl
                                             rotate_left
                                             · simp only [Act.put, List.setIfInBounds_toArray, List.set_cons_zero, List.set_cons_succ, i64_w, i32_w]
                                               rfl
                                             refine pure_ (i := 14) (N := some 80) (v := ?_) (a' := ?_) #[true, true, true, true, true, true, true, true, true, true, true, true, true, true, true, false, true, true, true, true, true, true, false, false, false] rfl rfl (any_of HT_.out (by kernel_rfl)) (fun _ _ _ h => h) (Or.inl ⟨by rfl, ?_⟩) ?_ ?_
                                             rotate_left
                                             · intro w'
                                               go_simp
                                               with_reducible rfl
                                             rotate_left
                                             · simp only [Act.put, List.setIfInBounds_toArray, List.set_cons_zero, List.set_cons_succ, i64_w, i32_w]
                                               rfl
                                             refine take_ (i := 15) (N := some 81) (v := ?_) (a' := ?_) #[true, true, true, true, true, true, true, true, true, true, true, true, true, true, true, true, true, true, true, true, true, true, false, false, false] rfl rfl (take_ofW HT_.out HW_.out (by kernel_rfl)) (fun _ _ _ h => h) (Or.inl ⟨by rfl, ?_⟩) hHeld ?_ ?_
                                             rotate_left
                                             · rintro w' ⟨s0, s1, s2, s3, s4, s5, s6, s7, s8, s9, s10⟩
                                               go_simp
                                               with_reducible rfl
                                             rotate_left
                                             · simp only [Act.put, List.setIfInBounds_toArray, List.set_cons_zero, List.set_cons_succ, i64_w, i32_w]
                                               rfl
                                             refine pure_ (i := 22) (N := some 88) (v := ?_) (a' := ?_) #[true, true, true, true, true, true, true, true, true, true, true, true, true, true, true, true, true, true, true, true, true, true, true, false, false] rfl rfl (any_of HT_.out (by kernel_rfl)) (fun _ _ _ h => h) (Or.inl ⟨by rfl, ?_⟩) ?_ ?_
                                             rotate_left
                                             · intro w'
                                               go_simp
                                               with_reducible rfl
                                             rotate_left
                                             · simp only [Act.put, List.setIfInBounds_toArray, List.set_cons_zero, List.set_cons_succ, i64_w, i32_w]
                                               rfl
                                             refine pure_ (i := 23) (N := some 89) (v := ?_) (a' := ?_) #[true, true, true, true, true, true, true, true, true, true, true, true, true, true, true, true, true, true, true, true, true, true, true, true, false] rfl rfl (any_of HT_.out (by kernel_rfl)) (fun _ _ _ h => h) (Or.inl ⟨by rfl, ?_⟩) ?_ ?_
                                             rotate_left
                                             · intro w'
                                               go_simp
                                               with_reducible rfl
                                             rotate_left
                                             · simp only [Act.put, List.setIfInBounds_toArray, List.set_cons_zero, List.set_cons_succ, i64_w, i32_w]
                                               rfl
                                             refine pure_ (i := 24) (N := some 65) (v := ?_) (a' := ?_) #[true, true, true, true, true, true, true, true, true, true, true, true, true, true, true, true, true, true, true, true, true, true, true, true, true] rfl rfl (any_of HT_.out (by kernel_rfl)) (fun _ _ _ h => h) (Or.inl ⟨by rfl, ?_⟩) ?_ ?_
                                             rotate_left
                                             · intro w'
                                               go_simp
                                               with_reducible rfl
                                             rotate_left
                                             · simp only [Act.put, List.setIfInBounds_toArray, List.set_cons_zero, List.set_cons_succ, i64_w, i32_w]
                                               rfl
                                             refine done_ (done_of HT_.out (by kernel_rfl)) ?_
                                             try go_wp2
                                             go_ret
                                             exact ⟨by first | rfl | (simp [errW_none, errW_some] <;> rfl) | (simp only [← hji58]; first | rfl | (simp [errW_none, errW_some] <;> rfl)) | (simp [*, errW_none, errW_some] <;> rfl), by repeat (first | (with_reducible first | exact HB.out | apply below_alloc | apply pw_below_drewN | apply below_drew1 | refine below_set ?_ GE107.out | refine below_set ?_ GE109.out) | exact HB.out)⟩
                                           · rw [if_neg c66] at H
                                             have c66b0 : (((rd_T40 l0_0 t122).f1.f0) == ((rd_T40 l0_0 t118).f1.f0) && (((rd_T40 l0_0 t122).f1.f1) == ((rd_T40 l0_0 t118).f1.f1))) = false := by simpa using c66
                                             (try (have c66b1 : decide (((rd_T40 l0_0 t122).f1.f0) = ((rd_T40 l0_0 t118).f1.f0) && (((rd_T40 l0_0 t122).f1.f1) == ((rd_T40 l0_0 t118).f1.f1))) = false := by simpa using c66))
                                             (try (have c66b2 : (((rd_T40 l0_0 t122).f1.f0) == ((rd_T40 l0_0 t118).f1.f0) && (((rd_T40 l0_0 t122).f1.f1) == ((rd_T40 l0_0 t118).f1.f1))) = false := by simpa using c66))
                                             (try (have c66b3 : ¬ (((rd_T40 l0_0 t122).f1.f0) = ((rd_T40 l0_0 t118).f1.f0) && (((rd_T40 l0_0 t122).f1.f1) == ((rd_T40 l0_0 t118).f1.f1))) := by simpa using c66))
                                             clear c66
                                             have H' := Aside0.mk H
                                             clear H
                                             have p117 : 0 ≤ (x47_2 : Int) := of_decide_eq_true (by first | (with_reducible assumption) | assumption)
                                             have q117 : x47_2 < (((rd_T48 l0_1 a1).f1).length : Int) := of_decide_eq_true (by first | (with_reducible assumption) | assumption)
                                             obtain ⟨ad117, e117, hx117_0⟩ := Kd.at_string HR108_1.out x47_2 p117 q117
                                             cases e117
                                             replace hx117_0 := (HB.out.cell (World.block_lt_of_cell? w _ hx117_0)).trans hx117_0
                                             replace p117 := eq_true p117
                                             replace q117 := eq_true q117
                                             have hnb75 := NB107_109.out
                                             have hnc75 := NB109_107.out
                                             have hcz76_0 : wr.cell? ⟨gb107, 0, none⟩ = some (.slice A0_0 l0_0.length c0_0) := (blk_cell BK107.out 0).trans rfl
                                             have hcz76_1 : wr.cell? ⟨gb107, 1, none⟩ = some (.slice (some ad108) l0_1.length c0_1) := (blk_cell BK107.out 1).trans rfl
                                             have hfz76_0 := blk_frozen BK107.out 0
                                             have hfz76_1 := blk_frozen BK107.out 1
                                             try go_wp2_with (first | ((with_reducible refine gate_callee (f := 55) rfl ?_); refine goesL_ (some 54) rfl rfl Try.func55 (by kernel_rfl) rfl #[.agg #[.slice A0_0 l0_0.length c0_0, .slice (some ad108) l0_1.length c0_1], .string (rdOf ByteArray.empty ((rd_T48 l0_1 a1).f1) x47_2)] rfl (by (try simp only [List.map_toArray, List.map_cons, List.map_nil]); first | done | rfl | (simp only [List.length_drop, List.length_take]; rfl)) ?_; (with_reducible refine (chart_find.calls _ _ l0_0 _ _ l0_1 (rdOf ByteArray.empty ((rd_T48 l0_1 a1).f1) x47_2) t118 _ ?side1 ?side2 ?side3 ?side4 A42.out).mono ?_); (case side1 => repeat (first | exact (Kd.C_below HR0_0.out HB.out) | (with_reducible refine Kd.C_alloc ?_ _) | (with_reducible refine Kd.C_drewN ?_ _) | (with_reducible refine Kd.C_drew ?_))); (case side2 => exact HC0_0.out); (case side3 => repeat (first | exact (Kd.C_below HR0_1.out HB.out) | (with_reducible refine Kd.C_alloc ?_ _) | (with_reducible refine Kd.C_drewN ?_ _) | (with_reducible refine Kd.C_drew ?_))); (case side4 => exact HC0_1.out); rintro e w77 ⟨rfl, hb⟩; refine ⟨_, rfl, ?_⟩; have n0_ := Aside0.mk (blk_below (g := gb107) (o := .cells #[.slice A0_0 l0_0.length c0_0, .slice (some ad108) l0_1.length c0_1] 25 (0, 0)) (by (with_reducible repeat (first | refine blk_drewN ?_ _ | refine blk_drew ?_ | refine blk_alloc ?_ _)); exact BK107.out) hb); have n1_ := Aside0.mk (blk_below (g := gb109) (o := .cells #[.string ((rd_T48 l0_1 a1).f0), .slice (some ad117) ((rd_T48 l0_1 a1).f1).length c108_1] 48 (0, 0)) (by (with_reducible repeat (first | refine blk_drewN ?_ _ | refine blk_drew ?_ | refine blk_alloc ?_ _)); exact BK109.out) hb); have n2_ := Aside0.mk (below_step (by repeat (first | (with_reducible first | exact HB.out | apply below_alloc | apply pw_below_drewN | apply below_drew1 | refine below_set ?_ GE107.out | refine below_set ?_ GE109.out) | exact HB.out)) hb); clear BK107; clear BK109; clear HB; have BK107 := n0_; have BK109 := n1_; have HB := n2_; clear n0_ n1_ n2_; (try clear hb); (try clear hb2); (try clear hk); (try clear hi); have hcz78_0 : w77.cell? ⟨gb109, 0, none⟩ = some (.string ((rd_T48 l0_1 a1).f0)) := (blk_cell BK109.out 0).trans rfl; have hcz78_1 : w77.cell? ⟨gb109, 1, none⟩ = some (.slice (some ad117) ((rd_T48 l0_1 a1).f1).length c108_1) := (blk_cell BK109.out 1).trans rfl; have hfz78_0 := blk_frozen BK109.out 0; have hfz78_1 := blk_frozen BK109.out 1; obtain ⟨i079, hi079, _, hsz79, _⟩ := info_parts info9; obtain ⟨hcut79, hA79, hC79⟩ := print_take_of (P := Try.prog) Value.string (⟨#[]⟩ : ByteArray) 27 9 .i64 Try.underlying27 hi079 hsz79 (some ad117) c108_1 ((rd_T48 l0_1 a1).f1) x47_2 (of_decide_eq_true (by first | (with_reducible assumption) | assumption)) (of_decide_eq_true (by first | (with_reducible assumption) | assumption)) HC108_1.out; have HR119 := Aside0.mk (Kd.C_of_reads (h1 := fun _ => rfl) (hA79 _ (Kd.reads_of_C HR108_1.out))); have HC119 := Aside0.mk hC79; clear hA79 hC79 hi079 hsz79) | ((with_reducible refine gate_callee (f := 123) rfl ?_); refine goesL_ (some 64) rfl rfl Try.func123 (by kernel_rfl) rfl #[.slice (some ad117) (((rd_T48 l0_1 a1).f1).take (x47_2 : Int).toNat).length c108_1, .string (rdOf ByteArray.empty ((rd_T48 l0_1 a1).f1) x47_2)] rfl (by (try simp only [List.map_toArray, List.map_cons, List.map_nil]); first | done | (rw [show (((rd_T48 l0_1 a1).f1).take (x47_2 : Int).toNat).length = x47_2.toNat from (by rw [List.length_take]; have h_ : (x47_2 : Int) ≤ (((rd_T48 l0_1 a1).f1).length : Int) := of_decide_eq_true (by first | (with_reducible assumption) | assumption); omega)] <;> rfl) | rfl | (simp only [List.length_drop, List.length_take]; rfl)) ?_; (with_reducible refine (slices_Contains_string_string.calls k2 _ _ (((rd_T48 l0_1 a1).f1).take (x47_2 : Int).toNat) (rdOf ByteArray.empty ((rd_T48 l0_1 a1).f1) x47_2) false _ ?side1 ?side2 A49.out).mono ?_); (case side1 => repeat (first | exact (Kd.C_below HR119.out HB.out) | (with_reducible refine Kd.C_alloc ?_ _) | (with_reducible refine Kd.C_drewN ?_ _) | (with_reducible refine Kd.C_drew ?_))); (case side2 => exact HC119.out); rintro e w80 ⟨rfl, hb⟩; refine ⟨_, rfl, ?_⟩; have n0_ := Aside0.mk (blk_below (g := gb107) (o := .cells #[.slice A0_0 l0_0.length c0_0, .slice (some ad108) l0_1.length c0_1] 25 (0, 0)) (by (with_reducible repeat (first | refine blk_drewN ?_ _ | refine blk_drew ?_ | refine blk_alloc ?_ _)); exact BK107.out) hb); have n1_ := Aside0.mk (blk_below (g := gb109) (o := .cells #[.string ((rd_T48 l0_1 a1).f0), .slice (some ad117) ((rd_T48 l0_1 a1).f1).length c108_1] 48 (0, 0)) (by (with_reducible repeat (first | refine blk_drewN ?_ _ | refine blk_drew ?_ | refine blk_alloc ?_ _)); exact BK109.out) hb); have n2_ := Aside0.mk (below_step (by repeat (first | (with_reducible first | exact HB.out | apply below_alloc | apply pw_below_drewN | apply below_drew1 | refine below_set ?_ GE107.out | refine below_set ?_ GE109.out) | exact HB.out)) hb); clear BK107; clear BK109; clear HB; have BK107 := n0_; have BK109 := n1_; have HB := n2_; clear n0_ n1_ n2_; (try clear hb); (try clear hb2); (try clear hk); (try clear hi)))
                                             have n0_ := Aside0.mk (blk_drew BK107.out)
                                             have n1_ := Aside0.mk (blk_drew BK109.out)
                                             have n2_ := Aside0.mk (below_drew1 HB.out)
                                             clear BK107
                                             clear BK109
                                             clear HB
                                             have BK107 := n0_
                                             have BK109 := n1_
                                             have HB := n2_
                                             clear n0_ n1_ n2_
                                             have p121 : 0 ≤ ((ji58) : Int) := of_decide_eq_true (by first | (with_reducible assumption) | assumption)
                                             have q121 : (ji58) < (((rd_T48 l0_1 a1).f1).length : Int) := of_decide_eq_true (by first | (with_reducible assumption) | assumption)
                                             obtain ⟨ad121, e121, hx121_0⟩ := Kd.at_string HR108_1.out (ji58) p121 q121
                                             have hw121_0 := hx121_0
                                             obtain rfl : ad117 = ad121 := (by injection e121)
                                             replace hx121_0 := (HB.out.cell (World.block_lt_of_cell? w _ hx121_0)).trans hx121_0
                                             replace p121 := eq_true p121
                                             replace q121 := eq_true q121
                                             have p124 : 0 ≤ (t118 : Int) := of_decide_eq_true (by first | (with_reducible assumption) | assumption)
                                             have q124 : t118 < (l0_0.length : Int) := of_decide_eq_true (by first | (with_reducible assumption) | assumption)
                                             obtain ⟨ad124, e124, hx124_0, hx124_1, hx124_2⟩ := at_T40 HR0_0.out t118 p124 q124
                                             have hw124_2 := hx124_2
                                             have hw124_1 := hx124_1
                                             have hw124_0 := hx124_0
                                             cases e124
                                             replace hx124_0 := (HB.out.cell (World.block_lt_of_cell? w _ hx124_0)).trans hx124_0
                                             replace hx124_1 := (HB.out.cell (World.block_lt_of_cell? w _ hx124_1)).trans hx124_1
                                             replace hx124_2 := (HB.out.cell (World.block_lt_of_cell? w _ hx124_2)).trans hx124_2
                                             replace p124 := eq_true p124
                                             replace q124 := eq_true q124
                                             have p123 : 0 ≤ (t122 : Int) := of_decide_eq_true (by first | (with_reducible assumption) | assumption)
                                             have q123 : t122 < (l0_0.length : Int) := of_decide_eq_true (by first | (with_reducible assumption) | assumption)
                                             obtain ⟨ad123, e123, hx123_0, hx123_1, hx123_2⟩ := at_T40 HR0_0.out t122 p123 q123
                                             have hw123_2 := hx123_2
                                             have hw123_1 := hx123_1
                                             have hw123_0 := hx123_0
                                             obtain rfl : ad124 = ad123 := (by injection e123)
                                             replace hx123_0 := (HB.out.cell (World.block_lt_of_cell? w _ hx123_0)).trans hx123_0
                                             replace hx123_1 := (HB.out.cell (World.block_lt_of_cell? w _ hx123_1)).trans hx123_1
                                             replace hx123_2 := (HB.out.cell (World.block_lt_of_cell? w _ hx123_2)).trans hx123_2
                                             replace p123 := eq_true p123
                                             replace q123 := eq_true q123
                                             refine start_ (n := 25) (S := fun w' => w'.cell? ⟨gb107, 0, none⟩ = some (.slice (some ad124) l0_0.length c0_0) ∧ w'.cell? ⟨gb107, 1, none⟩ = some (.slice (some ad108) l0_1.length c0_1) ∧ w'.cell? ⟨gb109, 0, none⟩ = some (.string ((rd_T48 l0_1 a1).f0)) ∧ w'.cell? ⟨gb109, 1, none⟩ = some (.slice (some ad117) ((rd_T48 l0_1 a1).f1).length c108_1) ∧ w'.cell? (ad117.add ((ji58)).toNat) = some (.string (rdOf ByteArray.empty ((rd_T48 l0_1 a1).f1) (ji58))) ∧ w'.cell? (ad124.add ((t118).toNat * 3)) = some (.string ((rd_T40 l0_0 t118).f0)) ∧ w'.cell? ⟨(ad124.add ((t118).toNat * 3)).block, (ad124.add ((t118).toNat * 3)).off + 1, none⟩ = some (.int .i64 ((rd_T40 l0_0 t118).f1.f0)) ∧ w'.cell? ⟨(ad124.add ((t118).toNat * 3)).block, (ad124.add ((t118).toNat * 3)).off + 2, none⟩ = some (.int .i64 ((rd_T40 l0_0 t118).f1.f1)) ∧ w'.cell? (ad124.add ((t122).toNat * 3)) = some (.string ((rd_T40 l0_0 t122).f0)) ∧ w'.cell? ⟨(ad124.add ((t122).toNat * 3)).block, (ad124.add ((t122).toNat * 3)).off + 1, none⟩ = some (.int .i64 ((rd_T40 l0_0 t122).f1.f0)) ∧ w'.cell? ⟨(ad124.add ((t122).toNat * 3)).block, (ad124.add ((t122).toNat * 3)).off + 2, none⟩ = some (.int .i64 ((rd_T40 l0_0 t122).f1.f1))) (ds := []) #[false, false, false, false, false, false, false, false, false, false, false, false, false, false, false, false, false, false, false, false, false, false, false, false, false] (by kernel_rfl) rfl rfl ⟨(blk_cell BK107.out 0).trans rfl, (blk_cell BK107.out 1).trans rfl, (blk_cell BK109.out 0).trans rfl, (blk_cell BK109.out 1).trans rfl, ((HB.out.cell (World.block_lt_of_cell? w _ hw121_0)).trans hw121_0), ((HB.out.cell (World.block_lt_of_cell? w _ hw124_0)).trans hw124_0), ((HB.out.cell (World.block_lt_of_cell? w _ hw124_1)).trans hw124_1), ((HB.out.cell (World.block_lt_of_cell? w _ hw124_2)).trans hw124_2), ((HB.out.cell (World.block_lt_of_cell? w _ hw123_0)).trans hw123_0), ((HB.out.cell (World.block_lt_of_cell? w _ hw123_1)).trans hw123_1), ((HB.out.cell (World.block_lt_of_cell? w _ hw123_2)).trans hw123_2)⟩ (fun hHeld => ?_); refine with_tabW chart_airway.tab16 chart_airway.bits16 (fun HT_ HW_ => ?_)
                                             generalize w80.drew = w81 at BK107 BK109 HB hx121_0 hx123_0 hx123_1 hx123_2 hx124_0 hx124_1 hx124_2 hHeld ⊢
                                             refine pure_ (i := 0) (N := some 66) (v := ?_) (a' := ?_) #[true, false, false, false, false, false, false, false, false, false, false, false, false, false, false, false, false, false, false, false, false, false, false, false, false] rfl rfl (any_of HT_.out (by kernel_rfl)) (fun _ _ _ h => h) (Or.inl ⟨by rfl, ?_⟩) ?_ ?_
                                             rotate_left
                                             · intro w'
                                               go_simp
                                               with_reducible rfl
                                             rotate_left
                                             · simp only [Act.put, List.setIfInBounds_toArray, List.set_cons_zero, List.set_cons_succ, i64_w, i32_w]
                                               rfl
                                             refine pure_ (i := 1) (N := some 67) (v := ?_) (a' := ?_) #[true, true, false, false, false, false, false, false, false, false, false, false, false, false, false, false, false, false, false, false, false, false, false, false, false] rfl rfl (any_of HT_.out (by kernel_rfl)) (fun _ _ _ h => h) (Or.inl ⟨by rfl, ?_⟩) ?_ ?_
                                             rotate_left
                                             · intro w'
                                               go_simp
                                               with_reducible rfl
                                             rotate_left
                                             · simp only [Act.put, List.setIfInBounds_toArray, List.set_cons_zero, List.set_cons_succ, i64_w, i32_w]
                                               rfl
                                             refine pure_ (i := 2) (N := some 68) (v := ?_) (a' := ?_) #[true, true, true, false, false, false, false, false, false, false, false, false, false, false, false, false, false, false, false, false, false, false, false, false, false] rfl rfl (any_of HT_.out (by kernel_rfl)) (fun _ _ _ h => h) (Or.inl ⟨by rfl, ?_⟩) ?_ ?_
                                             rotate_left
                                             · intro w'
                                               go_simp
                                               with_reducible rfl
                                             rotate_left
                                             · simp only [Act.put, List.setIfInBounds_toArray, List.set_cons_zero, List.set_cons_succ, i64_w, i32_w]
                                               rfl
                                             refine pure_ (i := 3) (N := some 69) (v := ?_) (a' := ?_) #[true, true, true, true, false, false, false, false, false, false, false, false, false, false, false, false, false, false, false, false, false, false, false, false, false] rfl rfl (any_of HT_.out (by kernel_rfl)) (fun _ _ _ h => h) (Or.inl ⟨by rfl, ?_⟩) ?_ ?_
                                             rotate_left
                                             · intro w'
                                               go_simp
                                               with_reducible rfl
                                             rotate_left
                                             · simp only [Act.put, List.setIfInBounds_toArray, List.set_cons_zero, List.set_cons_succ, i64_w, i32_w]
                                               rfl
                                             refine pure_ (i := 6) (N := some 72) (v := ?_) (a' := ?_) #[true, true, true, true, false, false, true, false, false, false, false, false, false, false, false, false, false, false, false, false, false, false, false, false, false] rfl rfl (any_of HT_.out (by kernel_rfl)) (fun _ _ _ h => h) (Or.inl ⟨by rfl, ?_⟩) ?_ ?_
                                             rotate_left
                                             · intro w'
                                               go_simp
                                               with_reducible rfl
                                             rotate_left
                                             · simp only [Act.put, List.setIfInBounds_toArray, List.set_cons_zero, List.set_cons_succ, i64_w, i32_w]
                                               rfl
                                             refine pure_ (i := 8) (N := some 74) (v := ?_) (a' := ?_) #[true, true, true, true, false, false, true, false, true, false, false, false, false, false, false, false, false, false, false, false, false, false, false, false, false] rfl rfl (any_of HT_.out (by kernel_rfl)) (fun _ _ _ h => h) (Or.inl ⟨by rfl, ?_⟩) ?_ ?_
                                             rotate_left
                                             · intro w'
                                               go_simp
                                               with_reducible rfl
                                             rotate_left
                                             · simp only [Act.put, List.setIfInBounds_toArray, List.set_cons_zero, List.set_cons_succ, i64_w, i32_w]
                                               rfl
                                             refine pure_ (i := 9) (N := some 75) (v := ?_) (a' := ?_) #[true, true, true, true, false, false, true, false, true, true, false, false, false, false, false, false, false, false, false, false, false, false, false, false, false] rfl rfl (any_of HT_.out (by kernel_rfl)) (fun _ _ _ h => h) (Or.inl ⟨by rfl, ?_⟩) ?_ ?_
                                             rotate_left
                                             · intro w'
                                               go_simp
                                               with_reducible rfl
                                             rotate_left
                                             · simp only [Act.put, List.setIfInBounds_toArray, List.set_cons_zero, List.set_cons_succ, i64_w, i32_w]
                                               rfl
                                             refine pure_ (i := 16) (N := some 82) (v := ?_) (a' := ?_) #[true, true, true, true, false, false, true, false, true, true, false, false, false, false, false, false, true, false, false, false, false, false, false, false, false] rfl rfl (any_of HT_.out (by kernel_rfl)) (fun _ _ _ h => h) (Or.inl ⟨by rfl, ?_⟩) ?_ ?_
                                             rotate_left
                                             · intro w'
                                               go_simp
                                               with_reducible rfl
                                             rotate_left
                                             · simp only [Act.put, List.setIfInBounds_toArray, List.set_cons_zero, List.set_cons_succ, i64_w, i32_w]
                                               rfl
                                             refine pure_ (i := 18) (N := some 84) (v := ?_) (a' := ?_) #[true, true, true, true, false, false, true, false, true, true, false, false, false, false, false, false, true, false, true, false, false, false, false, false, false] rfl rfl (any_of HT_.out (by kernel_rfl)) (fun _ _ _ h => h) (Or.inl ⟨by rfl, ?_⟩) ?_ ?_
                                             rotate_left
                                             · intro w'
                                               go_simp
                                               with_reducible rfl
                                             rotate_left
                                             · simp only [Act.put, List.setIfInBounds_toArray, List.set_cons_zero, List.set_cons_succ, i64_w, i32_w]
                                               rfl
                                             refine take_ (i := 4) (N := some 70) (v := ?_) (a' := ?_) #[true, true, true, true, true, false, true, false, true, true, false, false, false, false, false, false, true, false, true, false, false, false, false, false, false] rfl rfl (take_ofW HT_.out HW_.out (by kernel_rfl)) (fun _ _ _ h => h) (Or.inl ⟨by rfl, ?_⟩) hHeld ?_ ?_
                                             rotate_left
                                             · rintro w' ⟨s0, s1, s2, s3, s4, s5, s6, s7, s8, s9, s10⟩
                                               go_simp
                                               with_reducible rfl
                                             rotate_left
                                             · simp only [Act.put, List.setIfInBounds_toArray, List.set_cons_zero, List.set_cons_succ, i64_w, i32_w]
                                               rfl
                                             refine take_ (i := 5) (N := some 71) (v := ?_) (a' := ?_) #[true, true, true, true, true, true, true, false, true, true, false, false, false, false, false, false, true, false, true, false, false, false, false, false, false] rfl rfl (take_ofW HT_.out HW_.out (by kernel_rfl)) (fun _ _ _ h => h) (Or.inl ⟨by rfl, ?_⟩) hHeld ?_ ?_
                                             rotate_left
                                             · rintro w' ⟨s0, s1, s2, s3, s4, s5, s6, s7, s8, s9, s10⟩
                                               go_simp
                                               with_reducible rfl
                                             rotate_left
                                             · simp only [Act.put, List.setIfInBounds_toArray, List.set_cons_zero, List.set_cons_succ, i64_w, i32_w]
                                               rfl
                                             refine take_ (i := 7) (N := some 73) (v := ?_) (a' := ?_) #[true, true, true, true, true, true, true, true, true, true, false, false, false, false, false, false, true, false, true, false, false, false, false, false, false] rfl rfl (take_ofW HT_.out HW_.out (by kernel_rfl)) (fun _ _ _ h => h) (Or.inl ⟨by rfl, ?_⟩) hHeld ?_ ?_
                                             rotate_left
                                             · rintro w' ⟨s0, s1, s2, s3, s4, s5, s6, s7, s8, s9, s10⟩
                                               go_simp
                                               with_reducible rfl
                                             rotate_left
                                             · simp only [Act.put, List.setIfInBounds_toArray, List.set_cons_zero, List.set_cons_succ, i64_w, i32_w]
                                               rfl
                                             refine pure_ (i := 10) (N := some 76) (v := ?_) (a' := ?_) #[true, true, true, true, true, true, true, true, true, true, true, false, false, false, false, false, true, false, true, false, false, false, false, false, false] rfl rfl (any_of HT_.out (by kernel_rfl)) (fun _ _ _ h => h) (Or.inl ⟨by rfl, ?_⟩) ?_ ?_
                                             rotate_left
                                             · intro w'
                                               go_simp
                                               with_reducible rfl
                                             rotate_left
                                             · simp only [Act.put, List.setIfInBounds_toArray, List.set_cons_zero, List.set_cons_succ, i64_w, i32_w]
                                               rfl
                                             refine take_ (i := 11) (N := some 77) (v := ?_) (a' := ?_) #[true, true, true, true, true, true, true, true, true, true, true, true, false, false, false, false, true, false, true, false, false, false, false, false, false] rfl rfl (take_ofW HT_.out HW_.out (by kernel_rfl)) (fun _ _ _ h => h) (Or.inl ⟨by rfl, ?_⟩) hHeld ?_ ?_
                                             rotate_left
                                             · rintro w' ⟨s0, s1, s2, s3, s4, s5, s6, s7, s8, s9, s10⟩
                                               go_simp
                                               with_reducible rfl
                                             rotate_left
                                             · simp only [Act.put, List.setIfInBounds_toArray, List.set_cons_zero, List.set_cons_succ, i64_w, i32_w]
                                               rfl
                                             refine take_ (i := 17) (N := some 83) (v := ?_) (a' := ?_) #[true, true, true, true, true, true, true, true, true, true, true, true, false, false, false, false, true, true, true, false, false, false, false, false, false] rfl rfl (take_ofW HT_.out HW_.out (by kernel_rfl)) (fun _ _ _ h => h) (Or.inl ⟨by rfl, ?_⟩) hHeld ?_ ?_
                                             rotate_left
                                             · rintro w' ⟨s0, s1, s2, s3, s4, s5, s6, s7, s8, s9, s10⟩
                                               go_simp
                                               with_reducible rfl
                                             rotate_left
                                             · simp only [Act.put, List.setIfInBounds_toArray, List.set_cons_zero, List.set_cons_succ, i64_w, i32_w]
                                               rfl
                                             refine pure_ (i := 19) (N := some 85) (v := ?_) (a' := ?_) #[true, true, true, true, true, true, true, true, true, true, true, true, false, false, false, false, true, true, true, true, false, false, false, false, false] rfl rfl (any_of HT_.out (by kernel_rfl)) (fun _ _ _ h => h) (Or.inl ⟨by rfl, ?_⟩) ?_ ?_
                                             rotate_left
                                             · intro w'
                                               go_simp
                                               with_reducible rfl
                                             rotate_left
                                             · simp only [Act.put, List.setIfInBounds_toArray, List.set_cons_zero, List.set_cons_succ, i64_w, i32_w]
                                               rfl
                                             refine pure_ (i := 20) (N := some 86) (v := ?_) (a' := ?_) #[true, true, true, true, true, true, true, true, true, true, true, true, false, false, false, false, true, true, true, true, true, false, false, false, false] rfl rfl (any_of HT_.out (by kernel_rfl)) (fun _ _ _ h => h) (Or.inl ⟨by rfl, ?_⟩) ?_ ?_
                                             rotate_left
                                             · intro w'
                                               go_simp
                                               with_reducible rfl
                                             rotate_left
                                             · simp only [Act.put, List.setIfInBounds_toArray, List.set_cons_zero, List.set_cons_succ, i64_w, i32_w]
                                               rfl
                                             refine take_ (i := 21) (N := some 87) (v := ?_) (a' := ?_) #[true, true, true, true, true, true, true, true, true, true, true, true, false, false, false, false, true, true, true, true, true, true, false, false, false] rfl rfl (take_ofW HT_.out HW_.out (by kernel_rfl)) (fun _ _ _ h => h) (Or.inl ⟨by rfl, ?_⟩) hHeld ?_ ?_
                                             rotate_left
                                             · rintro w' ⟨s0, s1, s2, s3, s4, s5, s6, s7, s8, s9, s10⟩
                                               go_simp
                                               with_reducible rfl
                                             rotate_left
                                             · simp only [Act.put, List.setIfInBounds_toArray, List.set_cons_zero, List.set_cons_succ, i64_w, i32_w]
                                               rfl
                                             refine one_ (i := 12) (N := some 78) #[true, true, true, true, true, true, true, true, true, true, true, true, true, false, false, false, true, true, true, true, true, true, false, false, false] rfl rfl (one_of HT_.out (by kernel_rfl)) (by decide) (fun K hK => ?_)
                                             refine goes_ Try.func55 (by kernel_rfl) rfl #[.agg #[.slice (some ad124) l0_0.length c0_0, .slice (some ad108) l0_1.length c0_1], .string (rdOf ByteArray.empty ((rd_T48 l0_1 a1).f1) (ji58))] (by rfl) rfl rfl (by (try simp only [List.map_toArray, List.map_cons, List.map_nil]); first | done | (simp only [hji58]; rfl) | rfl | (simp only [List.length_drop, List.length_take]; rfl)) ?_
                                             with_reducible refine (chart_find.calls _ _ l0_0 _ _ l0_1 (rdOf ByteArray.empty ((rd_T48 l0_1 a1).f1) (ji58)) t122 _ ?side1 ?side2 ?side3 ?side4 A61.out).mono ?_
                                             (case side1 => repeat (first | exact (Kd.C_below HR0_0.out HB.out) | (with_reducible refine Kd.C_alloc ?_ _) | (with_reducible refine Kd.C_drewN ?_ _) | (with_reducible refine Kd.C_drew ?_)))
                                             (case side2 => exact HC0_0.out)
                                             (case side3 => repeat (first | exact (Kd.C_below HR0_1.out HB.out) | (with_reducible refine Kd.C_alloc ?_ _) | (with_reducible refine Kd.C_drewN ?_ _) | (with_reducible refine Kd.C_drew ?_)))
                                             (case side4 => exact HC0_1.out)
                                             rintro e w82 ⟨rfl, hb⟩
                                             refine ⟨_, rfl, ?_⟩
                                             have n0_ := Aside0.mk (blk_below (g := gb107) (o := .cells #[.slice (some ad124) l0_0.length c0_0, .slice (some ad108) l0_1.length c0_1] 25 (0, 0)) (by (with_reducible repeat (first | refine blk_drewN ?_ _ | refine blk_drew ?_ | refine blk_alloc ?_ _)); exact BK107.out) hb)
                                             have n1_ := Aside0.mk (blk_below (g := gb109) (o := .cells #[.string ((rd_T48 l0_1 a1).f0), .slice (some ad117) ((rd_T48 l0_1 a1).f1).length c108_1] 48 (0, 0)) (by (with_reducible repeat (first | refine blk_drewN ?_ _ | refine blk_drew ?_ | refine blk_alloc ?_ _)); exact BK109.out) hb)
                                             have n2_ := Aside0.mk (below_step (by repeat (first | (with_reducible first | exact HB.out | apply below_alloc | apply pw_below_drewN | apply below_drew1 | refine below_set ?_ GE107.out | refine below_set ?_ GE109.out) | exact HB.out)) hb)
                                             clear BK107
                                             clear BK109
                                             clear HB
                                             have BK107 := n0_
                                             have BK109 := n1_
                                             have HB := n2_
                                             clear n0_ n1_ n2_
                                             (try clear hb)
                                             (try clear hb2)
                                             (try clear hk)
                                             (try clear hi)
                                             refine hK.out _ _ ⟨(blk_cell BK107.out 0).trans rfl, (blk_cell BK107.out 1).trans rfl, (blk_cell BK109.out 0).trans rfl, (blk_cell BK109.out 1).trans rfl, ((HB.out.cell (World.block_lt_of_cell? w _ hw121_0)).trans hw121_0), ((HB.out.cell (World.block_lt_of_cell? w _ hw124_0)).trans hw124_0), ((HB.out.cell (World.block_lt_of_cell? w _ hw124_1)).trans hw124_1), ((HB.out.cell (World.block_lt_of_cell? w _ hw124_2)).trans hw124_2), ((HB.out.cell (World.block_lt_of_cell? w _ hw123_0)).trans hw123_0), ((HB.out.cell (World.block_lt_of_cell? w _ hw123_1)).trans hw123_1), ((HB.out.cell (World.block_lt_of_cell? w _ hw123_2)).trans hw123_2)⟩ (fun hHeld => ?_)
                                             clear hK K
                                             refine norm_ (a' := ?_) ?_ ?_
                                             rotate_left
                                             · show Act.put _ (some 78) _ = _
                                               simp only [Act.put, List.setIfInBounds_toArray, List.set_cons_zero, List.set_cons_succ, i64_w, i32_w]
                                               rfl
                                             refine pure_ (i := 13) (N := some 79) (v := ?_) (a' := ?_) #[true, true, true, true, true, true, true, true, true, true, true, true, true, true, false, false, true, true, true, true, true, true, false, false, false] rfl rfl (any_of HT_.out (by kernel_rfl)) (fun _ _ _ h => h) (Or.inl ⟨by rfl, ?_⟩) ?_ ?_
                                             rotate_left
                                             · intro w'
                                               go_simp
                                               with_reducible rfl
                                             rotate_left
                                             · simp only [Act.put, List.setIfInBounds_toArray, List.set_cons_zero, List.set_cons_succ, i64_w, i32_w]
                                               rfl
                                             refine pure_ (i := 14) (N := some 80) (v := ?_) (a' := ?_) #[true, true, true, true, true, true, true, true, true, true, true, true, true, true, true, false, true, true, true, true, true, true, false, false, false] rfl rfl (any_of HT_.out (by kernel_rfl)) (fun _ _ _ h => h) (Or.inl ⟨by rfl, ?_⟩) ?_ ?_
                                             rotate_left
                                             · intro w'
                                               go_simp
                                               with_reducible rfl
                                             rotate_left
                                             · simp only [Act.put, List.setIfInBounds_toArray, List.set_cons_zero, List.set_cons_succ, i64_w, i32_w]
                                               rfl
                                             refine take_ (i := 15) (N := some 81) (v := ?_) (a' := ?_) #[true, true, true, true, true, true, true, true, true, true, true, true, true, true, true, true, true, true, true, true, true, true, false, false, false] rfl rfl (take_ofW HT_.out HW_.out (by kernel_rfl)) (fun _ _ _ h => h) (Or.inl ⟨by rfl, ?_⟩) hHeld ?_ ?_
                                             rotate_left
                                             · rintro w' ⟨s0, s1, s2, s3, s4, s5, s6, s7, s8, s9, s10⟩
                                               go_simp
                                               with_reducible rfl
                                             rotate_left
                                             · simp only [Act.put, List.setIfInBounds_toArray, List.set_cons_zero, List.set_cons_succ, i64_w, i32_w]
                                               rfl
                                             refine pure_ (i := 22) (N := some 88) (v := ?_) (a' := ?_) #[true, true, true, true, true, true, true, true, true, true, true, true, true, true, true, true, true, true, true, true, true, true, true, false, false] rfl rfl (any_of HT_.out (by kernel_rfl)) (fun _ _ _ h => h) (Or.inl ⟨by rfl, ?_⟩) ?_ ?_
                                             rotate_left
                                             · intro w'
                                               go_simp
                                               with_reducible rfl
                                             rotate_left
                                             · simp only [Act.put, List.setIfInBounds_toArray, List.set_cons_zero, List.set_cons_succ, i64_w, i32_w]
                                               rfl
                                             refine pure_ (i := 23) (N := some 89) (v := ?_) (a' := ?_) #[true, true, true, true, true, true, true, true, true, true, true, true, true, true, true, true, true, true, true, true, true, true, true, true, false] rfl rfl (any_of HT_.out (by kernel_rfl)) (fun _ _ _ h => h) (Or.inl ⟨by rfl, ?_⟩) ?_ ?_
                                             rotate_left
                                             · intro w'
                                               go_simp
                                               with_reducible rfl
                                             rotate_left
                                             · simp only [Act.put, List.setIfInBounds_toArray, List.set_cons_zero, List.set_cons_succ, i64_w, i32_w]
                                               rfl
                                             refine pure_ (i := 24) (N := some 65) (v := ?_) (a' := ?_) #[true, true, true, true, true, true, true, true, true, true, true, true, true, true, true, true, true, true, true, true, true, true, true, true, true] rfl rfl (any_of HT_.out (by kernel_rfl)) (fun _ _ _ h => h) (Or.inl ⟨by rfl, ?_⟩) ?_ ?_
                                             rotate_left
                                             · intro w'
                                               go_simp
                                               with_reducible rfl
                                             rotate_left
                                             · simp only [Act.put, List.setIfInBounds_toArray, List.set_cons_zero, List.set_cons_succ, i64_w, i32_w]
                                               rfl
                                             refine done_ (done_of HT_.out (by kernel_rfl)) ?_
                                             try go_wp2
                                             first | go_roundg k2 | (subst hji58; go_roundg k2)
                                             case measure => have := HJ6.out; have := HK2.out; omega
                                             case rel => exact ⟨(wrap64 (x47_2 + 1)), (by first | rfl | (simp; done) | (simp [*]; done)), H', ⟨by have := HJ6.out; have := HK2.out; omega⟩, ⟨by (with_reducible repeat (first | refine blk_drewN ?_ _ | refine blk_drew ?_ | refine blk_alloc ?_ _)); exact BK107.out⟩, ⟨by (with_reducible repeat (first | refine blk_drewN ?_ _ | refine blk_drew ?_ | refine blk_alloc ?_ _)); exact BK109.out⟩, ⟨by repeat (first | (with_reducible first | exact HB.out | apply below_alloc | apply pw_below_drewN | apply below_drew1 | refine below_set ?_ GE107.out | refine below_set ?_ GE109.out) | exact HB.out)⟩⟩
                                         · rw [if_neg c65] at H
                                           exact absurd H (by simp)
                                       · rw [if_neg c64] at H
                                         exact absurd H (by simp)
                                     · rw [if_neg c63] at H
                                       exact absurd H (by simp)
                                   · rw [if_neg c62] at H
                                     exact absurd H (by simp)
                                 · rw [if_neg c60] at H
                                   exact absurd H (by simp)
                               · rw [if_neg c59] at H
                                 exact absurd H (by simp)
                             · rw [if_neg c57] at H
                               have c57b0 : decide (0 < x47_2) = false := decide_eq_false c57
                               clear c57
                               have H' := Aside0.mk H
                               clear H
                               have p117 : 0 ≤ (x47_2 : Int) := of_decide_eq_true (by first | (with_reducible assumption) | assumption)
                               have q117 : x47_2 < (((rd_T48 l0_1 a1).f1).length : Int) := of_decide_eq_true (by first | (with_reducible assumption) | assumption)
                               obtain ⟨ad117, e117, hx117_0⟩ := Kd.at_string HR108_1.out x47_2 p117 q117
                               cases e117
                               replace hx117_0 := (HB.out.cell (World.block_lt_of_cell? w _ hx117_0)).trans hx117_0
                               replace p117 := eq_true p117
                               replace q117 := eq_true q117
                               have hnb83 := NB107_109.out
                               have hnc83 := NB109_107.out
                               have hcz84_0 : wr.cell? ⟨gb107, 0, none⟩ = some (.slice A0_0 l0_0.length c0_0) := (blk_cell BK107.out 0).trans rfl
                               have hcz84_1 : wr.cell? ⟨gb107, 1, none⟩ = some (.slice (some ad108) l0_1.length c0_1) := (blk_cell BK107.out 1).trans rfl
                               have hfz84_0 := blk_frozen BK107.out 0
                               have hfz84_1 := blk_frozen BK107.out 1
                               try go_wp2_with (first | ((with_reducible refine gate_callee (f := 55) rfl ?_); refine goesL_ (some 54) rfl rfl Try.func55 (by kernel_rfl) rfl #[.agg #[.slice A0_0 l0_0.length c0_0, .slice (some ad108) l0_1.length c0_1], .string (rdOf ByteArray.empty ((rd_T48 l0_1 a1).f1) x47_2)] rfl (by (try simp only [List.map_toArray, List.map_cons, List.map_nil]); first | done | rfl | (simp only [List.length_drop, List.length_take]; rfl)) ?_; (with_reducible refine (chart_find.calls _ _ l0_0 _ _ l0_1 (rdOf ByteArray.empty ((rd_T48 l0_1 a1).f1) x47_2) t118 _ ?side1 ?side2 ?side3 ?side4 A42.out).mono ?_); (case side1 => repeat (first | exact (Kd.C_below HR0_0.out HB.out) | (with_reducible refine Kd.C_alloc ?_ _) | (with_reducible refine Kd.C_drewN ?_ _) | (with_reducible refine Kd.C_drew ?_))); (case side2 => exact HC0_0.out); (case side3 => repeat (first | exact (Kd.C_below HR0_1.out HB.out) | (with_reducible refine Kd.C_alloc ?_ _) | (with_reducible refine Kd.C_drewN ?_ _) | (with_reducible refine Kd.C_drew ?_))); (case side4 => exact HC0_1.out); rintro e w85 ⟨rfl, hb⟩; refine ⟨_, rfl, ?_⟩; have n0_ := Aside0.mk (blk_below (g := gb107) (o := .cells #[.slice A0_0 l0_0.length c0_0, .slice (some ad108) l0_1.length c0_1] 25 (0, 0)) (by (with_reducible repeat (first | refine blk_drewN ?_ _ | refine blk_drew ?_ | refine blk_alloc ?_ _)); exact BK107.out) hb); have n1_ := Aside0.mk (blk_below (g := gb109) (o := .cells #[.string ((rd_T48 l0_1 a1).f0), .slice (some ad117) ((rd_T48 l0_1 a1).f1).length c108_1] 48 (0, 0)) (by (with_reducible repeat (first | refine blk_drewN ?_ _ | refine blk_drew ?_ | refine blk_alloc ?_ _)); exact BK109.out) hb); have n2_ := Aside0.mk (below_step (by repeat (first | (with_reducible first | exact HB.out | apply below_alloc | apply pw_below_drewN | apply below_drew1 | refine below_set ?_ GE107.out | refine below_set ?_ GE109.out) | exact HB.out)) hb); clear BK107; clear BK109; clear HB; have BK107 := n0_; have BK109 := n1_; have HB := n2_; clear n0_ n1_ n2_; (try clear hb); (try clear hb2); (try clear hk); (try clear hi); have hcz86_0 : w85.cell? ⟨gb109, 0, none⟩ = some (.string ((rd_T48 l0_1 a1).f0)) := (blk_cell BK109.out 0).trans rfl; have hcz86_1 : w85.cell? ⟨gb109, 1, none⟩ = some (.slice (some ad117) ((rd_T48 l0_1 a1).f1).length c108_1) := (blk_cell BK109.out 1).trans rfl; have hfz86_0 := blk_frozen BK109.out 0; have hfz86_1 := blk_frozen BK109.out 1; obtain ⟨i087, hi087, _, hsz87, _⟩ := info_parts info9; obtain ⟨hcut87, hA87, hC87⟩ := print_take_of (P := Try.prog) Value.string (⟨#[]⟩ : ByteArray) 27 9 .i64 Try.underlying27 hi087 hsz87 (some ad117) c108_1 ((rd_T48 l0_1 a1).f1) x47_2 (of_decide_eq_true (by first | (with_reducible assumption) | assumption)) (of_decide_eq_true (by first | (with_reducible assumption) | assumption)) HC108_1.out; have HR119 := Aside0.mk (Kd.C_of_reads (h1 := fun _ => rfl) (hA87 _ (Kd.reads_of_C HR108_1.out))); have HC119 := Aside0.mk hC87; clear hA87 hC87 hi087 hsz87) | ((with_reducible refine gate_callee (f := 123) rfl ?_); refine goesL_ (some 64) rfl rfl Try.func123 (by kernel_rfl) rfl #[.slice (some ad117) (((rd_T48 l0_1 a1).f1).take (x47_2 : Int).toNat).length c108_1, .string (rdOf ByteArray.empty ((rd_T48 l0_1 a1).f1) x47_2)] rfl (by (try simp only [List.map_toArray, List.map_cons, List.map_nil]); first | done | (rw [show (((rd_T48 l0_1 a1).f1).take (x47_2 : Int).toNat).length = x47_2.toNat from (by rw [List.length_take]; have h_ : (x47_2 : Int) ≤ (((rd_T48 l0_1 a1).f1).length : Int) := of_decide_eq_true (by first | (with_reducible assumption) | assumption); omega)] <;> rfl) | rfl | (simp only [List.length_drop, List.length_take]; rfl)) ?_; (with_reducible refine (slices_Contains_string_string.calls k2 _ _ (((rd_T48 l0_1 a1).f1).take (x47_2 : Int).toNat) (rdOf ByteArray.empty ((rd_T48 l0_1 a1).f1) x47_2) false _ ?side1 ?side2 A49.out).mono ?_); (case side1 => repeat (first | exact (Kd.C_below HR119.out HB.out) | (with_reducible refine Kd.C_alloc ?_ _) | (with_reducible refine Kd.C_drewN ?_ _) | (with_reducible refine Kd.C_drew ?_))); (case side2 => exact HC119.out); rintro e w88 ⟨rfl, hb⟩; refine ⟨_, rfl, ?_⟩; have n0_ := Aside0.mk (blk_below (g := gb107) (o := .cells #[.slice A0_0 l0_0.length c0_0, .slice (some ad108) l0_1.length c0_1] 25 (0, 0)) (by (with_reducible repeat (first | refine blk_drewN ?_ _ | refine blk_drew ?_ | refine blk_alloc ?_ _)); exact BK107.out) hb); have n1_ := Aside0.mk (blk_below (g := gb109) (o := .cells #[.string ((rd_T48 l0_1 a1).f0), .slice (some ad117) ((rd_T48 l0_1 a1).f1).length c108_1] 48 (0, 0)) (by (with_reducible repeat (first | refine blk_drewN ?_ _ | refine blk_drew ?_ | refine blk_alloc ?_ _)); exact BK109.out) hb); have n2_ := Aside0.mk (below_step (by repeat (first | (with_reducible first | exact HB.out | apply below_alloc | apply pw_below_drewN | apply below_drew1 | refine below_set ?_ GE107.out | refine below_set ?_ GE109.out) | exact HB.out)) hb); clear BK107; clear BK109; clear HB; have BK107 := n0_; have BK109 := n1_; have HB := n2_; clear n0_ n1_ n2_; (try clear hb); (try clear hb2); (try clear hk); (try clear hi)))
                               have n0_ := Aside0.mk (blk_drew BK107.out)
                               have n1_ := Aside0.mk (blk_drew BK109.out)
                               have n2_ := Aside0.mk (below_drew1 HB.out)
                               clear BK107
                               clear BK109
                               clear HB
                               have BK107 := n0_
                               have BK109 := n1_
                               have HB := n2_
                               clear n0_ n1_ n2_
                               refine start_ (n := 25) (S := fun w' => True) (ds := []) #[false, false, false, false, false, false, false, false, false, false, false, false, false, false, false, false, false, false, false, false, false, false, false, false, false] (by kernel_rfl) rfl rfl trivial (fun hHeld => ?_); refine with_tabW chart_airway.tab16 chart_airway.bits16 (fun HT_ HW_ => ?_)
                               generalize w88.drew = w89 at BK107 BK109 HB hHeld ⊢
                               refine pure_ (i := 0) (N := some 66) (v := ?_) (a' := ?_) #[true, false, false, false, false, false, false, false, false, false, false, false, false, false, false, false, false, false, false, false, false, false, false, false, false] rfl rfl (any_of HT_.out (by kernel_rfl)) (fun _ _ _ h => h) (Or.inl ⟨by rfl, ?_⟩) ?_ ?_
                               rotate_left
                               · intro w'
                                 go_simp
                                 with_reducible rfl
                               rotate_left
                               · simp only [Act.put, List.setIfInBounds_toArray, List.set_cons_zero, List.set_cons_succ, i64_w, i32_w]
                                 rfl
                               refine pure_ (i := 1) (N := some 67) (v := ?_) (a' := ?_) #[true, true, false, false, false, false, false, false, false, false, false, false, false, false, false, false, false, false, false, false, false, false, false, false, false] rfl rfl (any_of HT_.out (by kernel_rfl)) (fun _ _ _ h => h) (Or.inl ⟨by rfl, ?_⟩) ?_ ?_
                               rotate_left
                               · intro w'
                                 go_simp
                                 with_reducible rfl
                               rotate_left
                               · simp only [Act.put, List.setIfInBounds_toArray, List.set_cons_zero, List.set_cons_succ, i64_w, i32_w]
                                 rfl
                               refine pure_ (i := 2) (N := some 68) (v := ?_) (a' := ?_) #[true, true, true, false, false, false, false, false, false, false, false, false, false, false, false, false, false, false, false, false, false, false, false, false, false] rfl rfl (any_of HT_.out (by kernel_rfl)) (fun _ _ _ h => h) (Or.inl ⟨by rfl, ?_⟩) ?_ ?_
                               rotate_left
                               · intro w'
                                 go_simp
                                 with_reducible rfl
                               rotate_left
                               · simp only [Act.put, List.setIfInBounds_toArray, List.set_cons_zero, List.set_cons_succ, i64_w, i32_w]
                                 rfl
                               refine pure_ (i := 3) (N := some 69) (v := undef) (a' := ?_) #[true, true, true, true, false, false, false, false, false, false, false, false, false, false, false, false, false, false, false, false, false, false, false, false, false] rfl rfl (any_of HT_.out (by kernel_rfl)) (fun _ _ _ h => h) (Or.inr ⟨by rfl, rfl⟩) ?_ ?_
                               rotate_left
                               · simp only [Act.put, List.setIfInBounds_toArray, List.set_cons_zero, List.set_cons_succ, i64_w, i32_w]
                                 rfl
                               refine pure_ (i := 4) (N := some 70) (v := undef) (a' := ?_) #[true, true, true, true, true, false, false, false, false, false, false, false, false, false, false, false, false, false, false, false, false, false, false, false, false] rfl rfl (any_of HT_.out (by kernel_rfl)) (fun _ _ _ h => h) (Or.inr ⟨by rfl, rfl⟩) ?_ ?_
                               rotate_left
                               · simp only [Act.put, List.setIfInBounds_toArray, List.set_cons_zero, List.set_cons_succ, i64_w, i32_w]
                                 rfl
                               refine pure_ (i := 5) (N := some 71) (v := undef) (a' := ?_) #[true, true, true, true, true, true, false, false, false, false, false, false, false, false, false, false, false, false, false, false, false, false, false, false, false] rfl rfl (any_of HT_.out (by kernel_rfl)) (fun _ _ _ h => h) (Or.inr ⟨by rfl, rfl⟩) ?_ ?_
                               rotate_left
                               · simp only [Act.put, List.setIfInBounds_toArray, List.set_cons_zero, List.set_cons_succ, i64_w, i32_w]
                                 rfl
                               refine pure_ (i := 6) (N := some 72) (v := undef) (a' := ?_) #[true, true, true, true, true, true, true, false, false, false, false, false, false, false, false, false, false, false, false, false, false, false, false, false, false] rfl rfl (any_of HT_.out (by kernel_rfl)) (fun _ _ _ h => h) (Or.inr ⟨by rfl, rfl⟩) ?_ ?_
                               rotate_left
                               · simp only [Act.put, List.setIfInBounds_toArray, List.set_cons_zero, List.set_cons_succ, i64_w, i32_w]
                                 rfl
                               refine pure_ (i := 7) (N := some 73) (v := undef) (a' := ?_) #[true, true, true, true, true, true, true, true, false, false, false, false, false, false, false, false, false, false, false, false, false, false, false, false, false] rfl rfl (any_of HT_.out (by kernel_rfl)) (fun _ _ _ h => h) (Or.inr ⟨by rfl, rfl⟩) ?_ ?_
                               rotate_left
                               · simp only [Act.put, List.setIfInBounds_toArray, List.set_cons_zero, List.set_cons_succ, i64_w, i32_w]
                                 rfl
                               refine pure_ (i := 8) (N := some 74) (v := undef) (a' := ?_) #[true, true, true, true, true, true, true, true, true, false, false, false, false, false, false, false, false, false, false, false, false, false, false, false, false] rfl rfl (any_of HT_.out (by kernel_rfl)) (fun _ _ _ h => h) (Or.inr ⟨by rfl, rfl⟩) ?_ ?_
                               rotate_left
                               · simp only [Act.put, List.setIfInBounds_toArray, List.set_cons_zero, List.set_cons_succ, i64_w, i32_w]
                                 rfl
                               refine pure_ (i := 9) (N := some 75) (v := undef) (a' := ?_) #[true, true, true, true, true, true, true, true, true, true, false, false, false, false, false, false, false, false, false, false, false, false, false, false, false] rfl rfl (any_of HT_.out (by kernel_rfl)) (fun _ _ _ h => h) (Or.inr ⟨by rfl, rfl⟩) ?_ ?_
                               rotate_left
                               · simp only [Act.put, List.setIfInBounds_toArray, List.set_cons_zero, List.set_cons_succ, i64_w, i32_w]
                                 rfl
                               refine pure_ (i := 10) (N := some 76) (v := undef) (a' := ?_) #[true, true, true, true, true, true, true, true, true, true, true, false, false, false, false, false, false, false, false, false, false, false, false, false, false] rfl rfl (any_of HT_.out (by kernel_rfl)) (fun _ _ _ h => h) (Or.inr ⟨by rfl, rfl⟩) ?_ ?_
                               rotate_left
                               · simp only [Act.put, List.setIfInBounds_toArray, List.set_cons_zero, List.set_cons_succ, i64_w, i32_w]
                                 rfl
                               refine pure_ (i := 11) (N := some 77) (v := undef) (a' := ?_) #[true, true, true, true, true, true, true, true, true, true, true, true, false, false, false, false, false, false, false, false, false, false, false, false, false] rfl rfl (any_of HT_.out (by kernel_rfl)) (fun _ _ _ h => h) (Or.inr ⟨by rfl, rfl⟩) ?_ ?_
                               rotate_left
                               · simp only [Act.put, List.setIfInBounds_toArray, List.set_cons_zero, List.set_cons_succ, i64_w, i32_w]
                                 rfl
                               refine pure_ (i := 12) (N := some 78) (v := undef) (a' := ?_) #[true, true, true, true, true, true, true, true, true, true, true, true, true, false, false, false, false, false, false, false, false, false, false, false, false] rfl rfl (any_of HT_.out (by kernel_rfl)) (fun _ _ _ h => h) (Or.inr ⟨by rfl, rfl⟩) ?_ ?_
                               rotate_left
                               · simp only [Act.put, List.setIfInBounds_toArray, List.set_cons_zero, List.set_cons_succ, i64_w, i32_w]
                                 rfl
                               refine pure_ (i := 13) (N := some 79) (v := undef) (a' := ?_) #[true, true, true, true, true, true, true, true, true, true, true, true, true, true, false, false, false, false, false, false, false, false, false, false, false] rfl rfl (any_of HT_.out (by kernel_rfl)) (fun _ _ _ h => h) (Or.inr ⟨by rfl, rfl⟩) ?_ ?_
                               rotate_left
                               · simp only [Act.put, List.setIfInBounds_toArray, List.set_cons_zero, List.set_cons_succ, i64_w, i32_w]
                                 rfl
                               refine pure_ (i := 14) (N := some 80) (v := undef) (a' := ?_) #[true, true, true, true, true, true, true, true, true, true, true, true, true, true, true, false, false, false, false, false, false, false, false, false, false] rfl rfl (any_of HT_.out (by kernel_rfl)) (fun _ _ _ h => h) (Or.inr ⟨by rfl, rfl⟩) ?_ ?_
                               rotate_left
                               · simp only [Act.put, List.setIfInBounds_toArray, List.set_cons_zero, List.set_cons_succ, i64_w, i32_w]
                                 rfl
                               refine pure_ (i := 15) (N := some 81) (v := undef) (a' := ?_) #[true, true, true, true, true, true, true, true, true, true, true, true, true, true, true, true, false, false, false, false, false, false, false, false, false] rfl rfl (any_of HT_.out (by kernel_rfl)) (fun _ _ _ h => h) (Or.inr ⟨by rfl, rfl⟩) ?_ ?_
                               rotate_left
                               · simp only [Act.put, List.setIfInBounds_toArray, List.set_cons_zero, List.set_cons_succ, i64_w, i32_w]
                                 rfl
                               refine pure_ (i := 16) (N := some 82) (v := undef) (a' := ?_) #[true, true, true, true, true, true, true, true, true, true, true, true, true, true, true, true, true, false, false, false, false, false, false, false, false] rfl rfl (any_of HT_.out (by kernel_rfl)) (fun _ _ _ h => h) (Or.inr ⟨by rfl, rfl⟩) ?_ ?_
                               rotate_left
                               · simp only [Act.put, List.setIfInBounds_toArray, List.set_cons_zero, List.set_cons_succ, i64_w, i32_w]
                                 rfl
                               refine pure_ (i := 17) (N := some 83) (v := undef) (a' := ?_) #[true, true, true, true, true, true, true, true, true, true, true, true, true, true, true, true, true, true, false, false, false, false, false, false, false] rfl rfl (any_of HT_.out (by kernel_rfl)) (fun _ _ _ h => h) (Or.inr ⟨by rfl, rfl⟩) ?_ ?_
                               rotate_left
                               · simp only [Act.put, List.setIfInBounds_toArray, List.set_cons_zero, List.set_cons_succ, i64_w, i32_w]
                                 rfl
                               refine pure_ (i := 18) (N := some 84) (v := undef) (a' := ?_) #[true, true, true, true, true, true, true, true, true, true, true, true, true, true, true, true, true, true, true, false, false, false, false, false, false] rfl rfl (any_of HT_.out (by kernel_rfl)) (fun _ _ _ h => h) (Or.inr ⟨by rfl, rfl⟩) ?_ ?_
                               rotate_left
                               · simp only [Act.put, List.setIfInBounds_toArray, List.set_cons_zero, List.set_cons_succ, i64_w, i32_w]
                                 rfl
                               refine pure_ (i := 19) (N := some 85) (v := undef) (a' := ?_) #[true, true, true, true, true, true, true, true, true, true, true, true, true, true, true, true, true, true, true, true, false, false, false, false, false] rfl rfl (any_of HT_.out (by kernel_rfl)) (fun _ _ _ h => h) (Or.inr ⟨by rfl, rfl⟩) ?_ ?_
                               rotate_left
                               · simp only [Act.put, List.setIfInBounds_toArray, List.set_cons_zero, List.set_cons_succ, i64_w, i32_w]
                                 rfl
                               refine pure_ (i := 20) (N := some 86) (v := undef) (a' := ?_) #[true, true, true, true, true, true, true, true, true, true, true, true, true, true, true, true, true, true, true, true, true, false, false, false, false] rfl rfl (any_of HT_.out (by kernel_rfl)) (fun _ _ _ h => h) (Or.inr ⟨by rfl, rfl⟩) ?_ ?_
                               rotate_left
                               · simp only [Act.put, List.setIfInBounds_toArray, List.set_cons_zero, List.set_cons_succ, i64_w, i32_w]
                                 rfl
                               refine pure_ (i := 21) (N := some 87) (v := undef) (a' := ?_) #[true, true, true, true, true, true, true, true, true, true, true, true, true, true, true, true, true, true, true, true, true, true, false, false, false] rfl rfl (any_of HT_.out (by kernel_rfl)) (fun _ _ _ h => h) (Or.inr ⟨by rfl, rfl⟩) ?_ ?_
                               rotate_left
                               · simp only [Act.put, List.setIfInBounds_toArray, List.set_cons_zero, List.set_cons_succ, i64_w, i32_w]
                                 rfl
                               refine pure_ (i := 22) (N := some 88) (v := undef) (a' := ?_) #[true, true, true, true, true, true, true, true, true, true, true, true, true, true, true, true, true, true, true, true, true, true, true, false, false] rfl rfl (any_of HT_.out (by kernel_rfl)) (fun _ _ _ h => h) (Or.inr ⟨by rfl, rfl⟩) ?_ ?_
                               rotate_left
                               · simp only [Act.put, List.setIfInBounds_toArray, List.set_cons_zero, List.set_cons_succ, i64_w, i32_w]
                                 rfl
                               refine pure_ (i := 23) (N := some 89) (v := ?_) (a' := ?_) #[true, true, true, true, true, true, true, true, true, true, true, true, true, true, true, true, true, true, true, true, true, true, true, true, false] rfl rfl (any_of HT_.out (by kernel_rfl)) (fun _ _ _ h => h) (Or.inl ⟨by rfl, ?_⟩) ?_ ?_
                               rotate_left
                               · intro w'
                                 go_simp
                                 with_reducible rfl
                               rotate_left
                               · simp only [Act.put, List.setIfInBounds_toArray, List.set_cons_zero, List.set_cons_succ, i64_w, i32_w]
                                 rfl
                               refine pure_ (i := 24) (N := some 65) (v := ?_) (a' := ?_) #[true, true, true, true, true, true, true, true, true, true, true, true, true, true, true, true, true, true, true, true, true, true, true, true, true] rfl rfl (any_of HT_.out (by kernel_rfl)) (fun _ _ _ h => h) (Or.inl ⟨by rfl, ?_⟩) ?_ ?_
                               rotate_left
                               · intro w'
                                 go_simp
                                 with_reducible rfl
                               rotate_left
                               · simp only [Act.put, List.setIfInBounds_toArray, List.set_cons_zero, List.set_cons_succ, i64_w, i32_w]
                                 rfl
                               refine done_ (done_of HT_.out (by kernel_rfl)) ?_
                               try go_wp2
                               go_roundg k2
                               case measure => have := HJ6.out; have := HK2.out; omega
                               case rel => exact ⟨(wrap64 (x47_2 + 1)), (by first | rfl | (simp; done) | (simp [*]; done)), H', ⟨by have := HJ6.out; have := HK2.out; omega⟩, ⟨by (with_reducible repeat (first | refine blk_drewN ?_ _ | refine blk_drew ?_ | refine blk_alloc ?_ _)); exact BK107.out⟩, ⟨by (with_reducible repeat (first | refine blk_drewN ?_ _ | refine blk_drew ?_ | refine blk_alloc ?_ _)); exact BK109.out⟩, ⟨by repeat (first | (with_reducible first | exact HB.out | apply below_alloc | apply pw_below_drewN | apply below_drew1 | refine below_set ?_ GE107.out | refine below_set ?_ GE109.out) | exact HB.out)⟩⟩
                         · rw [if_neg c48] at H
                           exact absurd H (by simp)
                     · rw [if_neg c41] at H
                       exact absurd H (by simp)
                   · rw [if_neg c40] at H
                     exact absurd H (by simp)
                 · rw [if_neg c39] at H
                   have c39b0 : decide (x47_2 < (((rd_T48 l0_1 a1).f1).length : Int)) = false := decide_eq_false c39
                   clear c39
                   obtain rfl := Option.some.inj H
                   go_wp2
                   go_ret
                   exact ⟨by first | rfl | (simp [errW_none, errW_some] <;> rfl) | (simp [*, errW_none, errW_some] <;> rfl), by repeat (first | (with_reducible first | exact HB.out | apply below_alloc | apply pw_below_drewN | apply below_drew1 | refine below_set ?_ GE107.out | refine below_set ?_ GE109.out) | exact HB.out)⟩
     · replace c6 := Bool.eq_false_iff.mpr c6
       subst c6
       have H1 : (some 5) = some r := by rw [if_neg (show ¬ (false = true) by decide)] at H; exact H
       clear H
       have H := H1
       clear H1
       obtain rfl := Option.some.inj H
       go_enter Try.func92, Try.ntmps92
       go_wp2_with (first | ((with_reducible refine gate_dst (N := 2) rfl ?_); (try (refine gate_guard (by rfl) ?_; dsimp only)); refine box_event ?hg (N := 2) ?hd (cs := #[.slice A0_0 l0_0.length c0_0, .slice A0_1 l0_1.length c0_1]) (t := 25) ?hr ?_; (case hd => rfl); (case hg => rfl); (case hr => first | (go_simp; done) | (go_simp; rfl)); intro gb107 hg w90 hbox hb; have n0_ := Aside0.mk (below_step (by repeat (first | (with_reducible first | exact HB.out | apply below_alloc | apply pw_below_drewN | apply below_drew1) | exact HB.out)) hb); have n1_ := Aside0.mk (hbox); have n2_ := Aside0.mk ((by rw [hg]; exact (below_size (by repeat (first | (with_reducible first | exact HB.out | apply below_alloc | apply pw_below_drewN | apply below_drew1) | exact HB.out))) : w.heap.size ≤ gb107)); have n3_ := Aside0.mk ((by rw [hg]; exact (below_size (by repeat (first | (with_reducible first | exact HB.out | apply below_alloc | apply pw_below_drewN | apply below_drew1) | exact HB.out))) : w.heap.size ≤ gb107)); clear HB; have HB := n0_; have BK107 := n1_; have GW107 := n2_; have GE107 := n3_; clear n0_ n1_ n2_ n3_; clear hb hbox hg; have hcz91_0 : w90.cell? ⟨gb107, 0, none⟩ = some (.slice A0_0 l0_0.length c0_0) := (blk_cell BK107.out 0).trans rfl; have hcz91_1 : w90.cell? ⟨gb107, 1, none⟩ = some (.slice A0_1 l0_1.length c0_1) := (blk_cell BK107.out 1).trans rfl; have hfz91_0 := blk_frozen BK107.out 0; have hfz91_1 := blk_frozen BK107.out 1; have p108 : 0 ≤ (a1 : Int) := of_decide_eq_true (by first | (with_reducible assumption) | assumption); have q108 : a1 < (l0_1.length : Int) := of_decide_eq_true (by first | (with_reducible assumption) | assumption); obtain ⟨ad108, A108_1, c108_1, e108, hx108_0, hx108_1, hl108_1, hi108_1⟩ := at_T48 HR0_1.out a1 p108 q108; cases e108; replace hx108_0 := (HB.out.cell (World.block_lt_of_cell? w _ hx108_0)).trans hx108_0; replace hx108_1 := (HB.out.cell (World.block_lt_of_cell? w _ hx108_1)).trans hx108_1; have HR108_1 := Aside0.mk hi108_1; have HC108_1 := Aside0.mk hl108_1; clear hi108_1 hl108_1; replace p108 := eq_true p108; replace q108 := eq_true q108) | ((with_reducible refine gate_dst (N := 5) rfl ?_); (try (refine gate_guard (by rfl) ?_; dsimp only)); refine box_event ?hg (N := 5) ?hd (cs := #[.string (⟨#[]⟩ : ByteArray), .slice none 0 0]) (t := 48) ?hr ?_; (case hd => rfl); (case hg => rfl); (case hr => first | (go_simp; done) | (go_simp; rfl)); intro gb109 hg w92 hbox hb; have n0_ := Aside0.mk (blk_below (g := gb107) (o := .cells #[.slice A0_0 l0_0.length c0_0, .slice (some ad108) l0_1.length c0_1] 25 (0, 0)) (by (with_reducible repeat (first | refine blk_drewN ?_ _ | refine blk_drew ?_ | refine blk_alloc ?_ _)); exact BK107.out) hb); have n1_ := Aside0.mk (below_step (by repeat (first | (with_reducible first | exact HB.out | apply below_alloc | apply pw_below_drewN | apply below_drew1 | refine below_set ?_ GE107.out) | exact HB.out)) hb); have n2_ := Aside0.mk (hbox); have n3_ := Aside0.mk ((by rw [hg]; exact (below_size (by repeat (first | (with_reducible first | exact HB.out | apply below_alloc | apply pw_below_drewN | apply below_drew1 | refine below_set ?_ GE107.out) | exact HB.out))) : w.heap.size ≤ gb109)); have n4_ := Aside0.mk ((by rw [hg]; exact (below_size (by repeat (first | (with_reducible first | exact HB.out | apply below_alloc | apply pw_below_drewN | apply below_drew1 | refine below_set ?_ GE107.out) | exact HB.out))) : w.heap.size ≤ gb109)); have n5_ := Aside0.mk ((by rw [hg]; exact Nat.ne_of_lt (blk_lt (g := gb107) (o := .cells #[.slice A0_0 l0_0.length c0_0, .slice (some ad108) l0_1.length c0_1] 25 (0, 0)) (by (with_reducible repeat (first | refine blk_drewN ?_ _ | refine blk_drew ?_ | refine blk_alloc ?_ _)); exact BK107.out)) : gb107 ≠ gb109)); have n6_ := Aside0.mk ((by rw [hg]; exact Nat.ne_of_gt (blk_lt (g := gb107) (o := .cells #[.slice A0_0 l0_0.length c0_0, .slice (some ad108) l0_1.length c0_1] 25 (0, 0)) (by (with_reducible repeat (first | refine blk_drewN ?_ _ | refine blk_drew ?_ | refine blk_alloc ?_ _)); exact BK107.out)) : gb109 ≠ gb107)); clear BK107; clear HB; have BK107 := n0_; have HB := n1_; have BK109 := n2_; have GW109 := n3_; have GE109 := n4_; have NB107_109 := n5_; have NB109_107 := n6_; clear n0_ n1_ n2_ n3_ n4_ n5_ n6_; clear hb hbox hg; have hnb93 := NB109_107.out; have hnc93 := NB107_109.out; have hcz94_0 : w92.cell? ⟨gb109, 0, none⟩ = some (.string (⟨#[]⟩ : ByteArray)) := (blk_cell BK109.out 0).trans rfl; have hcz94_1 : w92.cell? ⟨gb109, 1, none⟩ = some (.slice none 0 0) := (blk_cell BK109.out 1).trans rfl; have hfz94_0 := blk_frozen BK109.out 0; have hfz94_1 := blk_frozen BK109.out 1) | ((with_reducible refine gate_callee (f := 48) rfl ?_); refine goesL_ (some 17) rfl rfl Try.func48 (by kernel_rfl) rfl #[.string ((rd_T48 l0_1 a1).f0)] rfl (by (try simp only [List.map_toArray, List.map_cons, List.map_nil]); first | done | rfl | (simp only [List.length_drop, List.length_take]; rfl)) ?_; (with_reducible refine (chart_Name.calls k ((rd_T48 l0_1 a1).f0) false _ A5.out).mono ?_); rintro e w95 ⟨rfl, hb⟩; refine ⟨_, rfl, ?_⟩; have n0_ := Aside0.mk (blk_below (g := gb107) (o := .cells #[.slice A0_0 l0_0.length c0_0, .slice (some ad108) l0_1.length c0_1] 25 (0, 0)) (by (with_reducible repeat (first | refine blk_drewN ?_ _ | refine blk_drew ?_ | refine blk_alloc ?_ _)); refine blk_far ?_ NB107_109.out _; (with_reducible repeat (first | refine blk_drewN ?_ _ | refine blk_drew ?_ | refine blk_alloc ?_ _)); refine blk_far ?_ NB107_109.out _; (with_reducible repeat (first | refine blk_drewN ?_ _ | refine blk_drew ?_ | refine blk_alloc ?_ _)); exact BK107.out) hb); have n1_ := Aside0.mk (blk_below (g := gb109) (o := .cells #[.string ((rd_T48 l0_1 a1).f0), .slice A108_1 ((rd_T48 l0_1 a1).f1).length c108_1] 48 (0, 0)) (by (with_reducible repeat (first | refine blk_drewN ?_ _ | refine blk_drew ?_ | refine blk_alloc ?_ _)); refine blk_put (cs := #[.string ((rd_T48 l0_1 a1).f0), .slice none 0 0]) ?_ 1 _ rfl; (with_reducible repeat (first | refine blk_drewN ?_ _ | refine blk_drew ?_ | refine blk_alloc ?_ _)); refine blk_put (cs := #[.string (⟨#[]⟩ : ByteArray), .slice none 0 0]) ?_ 0 _ rfl; (with_reducible repeat (first | refine blk_drewN ?_ _ | refine blk_drew ?_ | refine blk_alloc ?_ _)); exact BK109.out) hb); have n2_ := Aside0.mk (below_step (by repeat (first | (with_reducible first | exact HB.out | apply below_alloc | apply pw_below_drewN | apply below_drew1 | refine below_set ?_ GE107.out | refine below_set ?_ GE109.out) | exact HB.out)) hb); clear BK107; clear BK109; clear HB; have BK107 := n0_; have BK109 := n1_; have HB := n2_; clear n0_ n1_ n2_; (try clear hb); (try clear hb2); (try clear hk); (try clear hi)))
       go_ret
       exact ⟨by first | rfl | (simp [errW_none, errW_some] <;> rfl) | (simp [*, errW_none, errW_some] <;> rfl), by repeat (first | (with_reducible first | exact HB.out | apply below_alloc | apply pw_below_drewN | apply below_drew1 | refine below_set ?_ GE107.out | refine below_set ?_ GE109.out) | exact HB.out)⟩
   · rw [if_neg c4] at H
     exact absurd H (by simp)
 · rw [if_neg c3] at H
   exact absurd H (by simp)

end Go.Proofs.Ytbpbpojnfhhbjaa.PChartLinks
