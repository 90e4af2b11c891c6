/- Made by a program of this session (wip/tools/myprint.py, over the kit's printer): that the Go functions answer as the Lean functions printed beside them. -/
import Derived.Test.YteaddpieonkboacPProbeWiderx0
import Derived.Test.YteaddpieonkboacPProbeWiderx1
import Derived.Test.YteaddpieonkboacPProbeWiderx2
import Derived.Test.YteaddpieonkboacPProbeWiderx4
namespace Go.Proofs.Yteaddpieonkboac.PProbeWider
open Go.RowKit Go.Proofs.YteaddpieonkboacW.PrintWords Go.Proofs.YteaddpieonkboacW.PrintLast Go.Proofs.YteaddpieonkboacW.PrintMore
attribute [local go_sem] max2_int min2_int max_two min_two max_three min_three max_four min_four   -- for this text's walks alone
set_option linter.unusedVariables false
set_option linter.unusedSimpArgs false

/-! ### tube_Point: function 87 -/
def tube_Point.f (k : Nat) (l0 : List (S102)) (a1 : Int) : Option (Int × Int × Int × Int × Int × Int) := (tube_at.f k l0 a1).bind fun bt184 => (some (bt184.1, bt184.2.1, bt184.2.2.1, bt184.2.2.2.1, bt184.2.2.2.2.1, bt184.2.2.2.2.2.1))
theorem tube_Point.mono : ∀ a0 a1 k, LeO (tube_Point.f k a0 a1) (tube_Point.f (k + 1) a0 a1) := by
  intro a0 a1 k
  unfold tube_Point.f
  repeat' first
      | (with_reducible exact tube_at.mono _ _ _)
      | (with_reducible exact LeO.refl _)
      | (with_reducible exact LeO.none _)
      | (with_reducible refine LeO.ite ?_ ?_)
      | (with_reducible refine LeO.bind ?_ (fun _ => ?_))
      | exact tube_at.mono _ _ _
      | exact LeO.none _
      | refine LeO.ite ?_ ?_
      | refine LeO.bind ?_ (fun _ => ?_)
set_option maxHeartbeats 8000000 in
set_option maxRecDepth 100000 in
theorem tube_Point.calls (k : Nat) (A0 : Option Addr) (c0 : Nat) (l0 : List (S102)) (a1 : Int) (r1 : Int) (r2 : Int) (r3 : Int) (r4 : Int) (r5 : Int) (r6 : Int) (w : World) (hr0 : Kd.C k102 w A0 l0.length l0) (hc0 : l0.length ≤ c0) (h : tube_Point.f k l0 a1 = some (r1, r2, r3, r4, r5, r6)) :
    Calls Try.prog 87 #[.slice A0 l0.length c0, .int .i64 a1] w fun e w' => e = .returned (.agg #[.int .i64 r1, .int .i64 r2, .int .i64 r3, .int .i64 r4, .int .i64 r5, .int .i64 r6]) ∧ Below w.heap.size w w' := by
 have hu102 := Try.underlying102
 have HR0 := Aside0.mk hr0
 have HC0 := Aside0.mk hc0
 clear hr0 hc0
 have HB := Aside0.mk (Below.refl w.heap.size w)
 have H : ((tube_at.f k l0 a1).bind fun bt184 => (some (bt184.1, bt184.2.1, bt184.2.2.1, bt184.2.2.2.1, bt184.2.2.2.2.1, bt184.2.2.2.2.2.1))) = some (r1, r2, r3, r4, r5, r6) := h
 clear h
 replace H := Option.bind_eq_some_iff.mp H
 obtain ⟨⟨t184, t185, t186, t187, t188, t189, t190⟩, A30, H⟩ := H
 replace H : (some (t184, t185, t186, t187, t188, t189)) = some (r1, r2, r3, r4, r5, r6) := H
 have A3 := Aside0.mk A30
 clear A30
 simp only [Option.some.injEq, Prod.mk.injEq] at H
 obtain ⟨rfl, rfl, rfl, rfl, rfl, rfl⟩ := H
 go_enter Try.func87, Try.ntmps87
 go_wp2_with (first | ((with_reducible refine gate_dst (N := 4) rfl ?_); refine box_event ?hg (N := 4) ?hd (cs := #[.int .i64 0, .int .i64 0, .int .i64 0, .int .i64 0, .int .i64 0, .int .i64 0]) (t := 102) ?hr ?_; (case hd => rfl); (case hg => rfl); (case hr => first | (go_simp; done) | (go_simp; rfl)); intro gb183 hg w4 hbox hb; have n0_ := Aside0.mk (below_step (by repeat (first | (with_reducible first | exact HB.out | apply below_alloc | apply pw_below_drewN | apply below_drew1) | exact HB.out)) hb); have n1_ := Aside0.mk (hbox); have n2_ := Aside0.mk ((by rw [hg]; exact (below_size (by repeat (first | (with_reducible first | exact HB.out | apply below_alloc | apply pw_below_drewN | apply below_drew1) | exact HB.out))) : w.heap.size ≤ gb183)); have n3_ := Aside0.mk ((by rw [hg]; exact (below_size (by repeat (first | (with_reducible first | exact HB.out | apply below_alloc | apply pw_below_drewN | apply below_drew1) | exact HB.out))) : w.heap.size ≤ gb183)); clear HB; have HB := n0_; have BK183 := n1_; have GW183 := n2_; have GE183 := n3_; clear n0_ n1_ n2_ n3_; clear hb hbox hg) | ((with_reducible refine gate_callee (f := 112) rfl ?_); refine goesL_ (some 10) rfl rfl Try.func112 (by kernel_rfl) rfl #[.slice A0 l0.length c0, .int .i64 a1] rfl (by (try simp only [List.map_toArray, List.map_cons, List.map_nil]); first | done | rfl | (simp only [List.length_drop, List.length_take]; rfl)) ?_; (with_reducible refine (tube_at.calls k _ _ l0 a1 t184 t185 t186 t187 t188 t189 t190 _ ?side1 ?side2 A3.out).mono ?_); (case side1 => repeat (first | exact (Kd.C_below HR0.out HB.out) | (with_reducible refine Kd.C_alloc ?_ _) | (with_reducible refine Kd.C_drewN ?_ _) | (with_reducible refine Kd.C_drew ?_))); (case side2 => exact HC0.out); rintro e w5 ⟨rfl, hb⟩; refine ⟨_, rfl, ?_⟩; have n0_ := Aside0.mk (blk_below (g := gb183) (o := .cells #[.int .i64 0, .int .i64 0, .int .i64 0, .int .i64 0, .int .i64 0, .int .i64 0] 102 (0, 0)) (by (with_reducible repeat (first | refine blk_drewN ?_ _ | refine blk_drew ?_ | refine blk_alloc ?_ _)); exact BK183.out) hb); have n1_ := Aside0.mk (below_step (by repeat (first | (with_reducible first | exact HB.out | apply below_alloc | apply pw_below_drewN | apply below_drew1 | refine below_set ?_ GE183.out) | exact HB.out)) hb); clear BK183; clear HB; have BK183 := n0_; have HB := n1_; clear n0_ n1_; (try clear hb); (try clear hb2); (try clear hk); (try clear hi)) | ((with_reducible refine gate_dst (N := 5) rfl ?_); refine box_event ?hg (N := 5) ?hd (cs := #[.int .i64 0, .int .i64 0, .int .i64 0, .int .i64 0, .int .i64 0, .int .i64 0]) (t := 102) ?hr ?_; (case hd => rfl); (case hg => rfl); (case hr => first | (go_simp; done) | (go_simp; rfl)); intro gb191 hg w6 hbox hb; have n0_ := Aside0.mk (blk_below (g := gb183) (o := .cells #[.int .i64 0, .int .i64 0, .int .i64 0, .int .i64 0, .int .i64 0, .int .i64 0] 102 (0, 0)) (by (with_reducible repeat (first | refine blk_drewN ?_ _ | refine blk_drew ?_ | refine blk_alloc ?_ _)); exact BK183.out) hb); have n1_ := Aside0.mk (below_step (by repeat (first | (with_reducible first | exact HB.out | apply below_alloc | apply pw_below_drewN | apply below_drew1 | refine below_set ?_ GE183.out) | exact HB.out)) hb); have n2_ := Aside0.mk (hbox); have n3_ := Aside0.mk ((by rw [hg]; exact (below_size (by repeat (first | (with_reducible first | exact HB.out | apply below_alloc | apply pw_below_drewN | apply below_drew1 | refine below_set ?_ GE183.out) | exact HB.out))) : w.heap.size ≤ gb191)); have n4_ := Aside0.mk ((by rw [hg]; exact (below_size (by repeat (first | (with_reducible first | exact HB.out | apply below_alloc | apply pw_below_drewN | apply below_drew1 | refine below_set ?_ GE183.out) | exact HB.out))) : w.heap.size ≤ gb191)); have n5_ := Aside0.mk ((by rw [hg]; exact Nat.ne_of_lt (blk_lt (g := gb183) (o := .cells #[.int .i64 0, .int .i64 0, .int .i64 0, .int .i64 0, .int .i64 0, .int .i64 0] 102 (0, 0)) (by (with_reducible repeat (first | refine blk_drewN ?_ _ | refine blk_drew ?_ | refine blk_alloc ?_ _)); exact BK183.out)) : gb183 ≠ gb191)); have n6_ := Aside0.mk ((by rw [hg]; exact Nat.ne_of_gt (blk_lt (g := gb183) (o := .cells #[.int .i64 0, .int .i64 0, .int .i64 0, .int .i64 0, .int .i64 0, .int .i64 0] 102 (0, 0)) (by (with_reducible repeat (first | refine blk_drewN ?_ _ | refine blk_drew ?_ | refine blk_alloc ?_ _)); exact BK183.out)) : gb191 ≠ gb183)); clear BK183; clear HB; have BK183 := n0_; have HB := n1_; have BK191 := n2_; have GW191 := n3_; have GE191 := n4_; have NB183_191 := n5_; have NB191_183 := n6_; clear n0_ n1_ n2_ n3_ n4_ n5_ n6_; clear hb hbox hg; have hnb7 := NB191_183.out; have hnc7 := NB183_191.out; have hcz8_0 : w6.cell? ⟨gb191, 0, none⟩ = some (.int .i64 0) := (blk_cell BK191.out 0).trans rfl; have hcz8_1 : w6.cell? ⟨gb191, 1, none⟩ = some (.int .i64 0) := (blk_cell BK191.out 1).trans rfl; have hcz8_2 : w6.cell? ⟨gb191, 2, none⟩ = some (.int .i64 0) := (blk_cell BK191.out 2).trans rfl; have hcz8_3 : w6.cell? ⟨gb191, 3, none⟩ = some (.int .i64 0) := (blk_cell BK191.out 3).trans rfl; have hcz8_4 : w6.cell? ⟨gb191, 4, none⟩ = some (.int .i64 0) := (blk_cell BK191.out 4).trans rfl; have hcz8_5 : w6.cell? ⟨gb191, 5, none⟩ = some (.int .i64 0) := (blk_cell BK191.out 5).trans rfl; have hfz8_0 := blk_frozen BK191.out 0; have hfz8_1 := blk_frozen BK191.out 1; have hfz8_2 := blk_frozen BK191.out 2; have hfz8_3 := blk_frozen BK191.out 3; have hfz8_4 := blk_frozen BK191.out 4; have hfz8_5 := blk_frozen BK191.out 5; have hcz9_0 : w6.cell? ⟨gb183, 0, none⟩ = some (.int .i64 0) := (blk_cell BK183.out 0).trans rfl; have hcz9_1 : w6.cell? ⟨gb183, 1, none⟩ = some (.int .i64 0) := (blk_cell BK183.out 1).trans rfl; have hcz9_2 : w6.cell? ⟨gb183, 2, none⟩ = some (.int .i64 0) := (blk_cell BK183.out 2).trans rfl; have hcz9_3 : w6.cell? ⟨gb183, 3, none⟩ = some (.int .i64 0) := (blk_cell BK183.out 3).trans rfl; have hcz9_4 : w6.cell? ⟨gb183, 4, none⟩ = some (.int .i64 0) := (blk_cell BK183.out 4).trans rfl; have hcz9_5 : w6.cell? ⟨gb183, 5, none⟩ = some (.int .i64 0) := (blk_cell BK183.out 5).trans rfl; have hfz9_0 := blk_frozen BK183.out 0; have hfz9_1 := blk_frozen BK183.out 1; have hfz9_2 := blk_frozen BK183.out 2; have hfz9_3 := blk_frozen BK183.out 3; have hfz9_4 := blk_frozen BK183.out 4; have hfz9_5 := blk_frozen BK183.out 5))
 refine bodyPost_ret (results_cell_row rfl _ _ gb183 102 #[.int .i64 t184, .int .i64 t185, .int .i64 t186, .int .i64 t187, .int .i64 t188, .int .i64 t189] (0, 0) _ rfl (by (with_reducible repeat (first | refine blk_drewN ?_ _ | refine blk_drew ?_ | refine blk_alloc ?_ _)); refine blk_put (cs := #[.int .i64 t184, .int .i64 t185, .int .i64 t186, .int .i64 t187, .int .i64 t188, .int .i64 0]) ?_ 5 _ rfl; (with_reducible repeat (first | refine blk_drewN ?_ _ | refine blk_drew ?_ | refine blk_alloc ?_ _)); refine blk_put (cs := #[.int .i64 t184, .int .i64 t185, .int .i64 t186, .int .i64 t187, .int .i64 0, .int .i64 0]) ?_ 4 _ rfl; (with_reducible repeat (first | refine blk_drewN ?_ _ | refine blk_drew ?_ | refine blk_alloc ?_ _)); refine blk_put (cs := #[.int .i64 t184, .int .i64 t185, .int .i64 t186, .int .i64 0, .int .i64 0, .int .i64 0]) ?_ 3 _ rfl; (with_reducible repeat (first | refine blk_drewN ?_ _ | refine blk_drew ?_ | refine blk_alloc ?_ _)); refine blk_put (cs := #[.int .i64 t184, .int .i64 t185, .int .i64 0, .int .i64 0, .int .i64 0, .int .i64 0]) ?_ 2 _ rfl; (with_reducible repeat (first | refine blk_drewN ?_ _ | refine blk_drew ?_ | refine blk_alloc ?_ _)); refine blk_put (cs := #[.int .i64 t184, .int .i64 0, .int .i64 0, .int .i64 0, .int .i64 0, .int .i64 0]) ?_ 1 _ rfl; (with_reducible repeat (first | refine blk_drewN ?_ _ | refine blk_drew ?_ | refine blk_alloc ?_ _)); refine blk_put (cs := #[.int .i64 0, .int .i64 0, .int .i64 0, .int .i64 0, .int .i64 0, .int .i64 0]) ?_ 0 _ rfl; (with_reducible repeat (first | refine blk_drewN ?_ _ | refine blk_drew ?_ | refine blk_alloc ?_ _)); refine blk_far ?_ NB183_191.out _; (with_reducible repeat (first | refine blk_drewN ?_ _ | refine blk_drew ?_ | refine blk_alloc ?_ _)); refine blk_far ?_ NB183_191.out _; (with_reducible repeat (first | refine blk_drewN ?_ _ | refine blk_drew ?_ | refine blk_alloc ?_ _)); refine blk_far ?_ NB183_191.out _; (with_reducible repeat (first | refine blk_drewN ?_ _ | refine blk_drew ?_ | refine blk_alloc ?_ _)); refine blk_far ?_ NB183_191.out _; (with_reducible repeat (first | refine blk_drewN ?_ _ | refine blk_drew ?_ | refine blk_alloc ?_ _)); refine blk_far ?_ NB183_191.out _; (with_reducible repeat (first | refine blk_drewN ?_ _ | refine blk_drew ?_ | refine blk_alloc ?_ _)); refine blk_far ?_ NB183_191.out _; (with_reducible repeat (first | refine blk_drewN ?_ _ | refine blk_drew ?_ | refine blk_alloc ?_ _)); exact BK183.out) Try.underlying102 rfl (by kernel_rfl)) rfl ?_
 exact ⟨by first | rfl | (simp [errW_none, errW_some] <;> rfl) | (simp [*, errW_none, errW_some] <;> rfl), by repeat (first | (with_reducible first | exact HB.out | apply below_alloc | apply pw_below_drewN | apply below_drew1 | refine below_set ?_ GE183.out | refine below_set ?_ GE191.out) | exact HB.out)⟩

/-! ### probe_Margin: function 40 -/
def probe_Margin.l0 : Nat → List (S102) → List (S102) → Int → Int → Int → Int → Option (Int × Int)
  | 0, _, _, _, _, _, _ => none
  | k + 1, x0, x1, x7, x8, x9, x10 => if x10 ≤ x8 then ((tube_Point.f k x0 x10).bind fun bt198 => ((tube_Point.f k x1 x10).bind fun bt204 => ((probe_surplus.f bt198.1 bt198.2.1 bt198.2.2.1 bt198.2.2.2.1 bt198.2.2.2.2.1 bt198.2.2.2.2.2 bt204.1 bt204.2.1 bt204.2.2.1 bt204.2.2.2.1 bt204.2.2.2.2.1 bt204.2.2.2.2.2).bind fun t212 => (if x10 = x7 then (probe_Margin.l0 k x0 x1 x7 x8 t212 (wrap64 (x10 + 1))) else (if t212 < x9 then (probe_Margin.l0 k x0 x1 x7 x8 t212 (wrap64 (x10 + 1))) else (probe_Margin.l0 k x0 x1 x7 x8 x9 (wrap64 (x10 + 1)))))))) else (some (x9, 0))
def probe_Margin.f (k : Nat) (l0 : List (S102)) (l1 : List (S102)) : Option (Int × Int) := (probe_check.f k 0 0 (([l0, l1] : List (List (S102))))).bind fun t195 => (if t195 = 0 then ((probe_common.f l0 l1).bind fun bt196 => (if bt196.1 > bt196.2 then (some (0, 8)) else (probe_Margin.l0 k l0 l1 bt196.1 bt196.2 0 bt196.1))) else (some (0, t195)))
theorem probe_Margin.mono_l : ∀ k, (∀ y0 y1 y2 y3 y4 y5, LeO (probe_Margin.l0 k y0 y1 y2 y3 y4 y5) (probe_Margin.l0 (k + 1) y0 y1 y2 y3 y4 y5))
  | 0 => fun _ _ _ _ _ _ r h => by simp [probe_Margin.l0] at h
  | k + 1 => by
    have ih0 := probe_Margin.mono_l k
    · intro y0 y1 y2 y3 y4 y5
      unfold probe_Margin.l0
      repeat' first
      | (with_reducible exact ih0 _ _ _ _ _ _)
      | (with_reducible exact probe_check.mono _ _ _ _)
      | (with_reducible exact tube_Point.mono _ _ _)
      | (with_reducible exact LeO.refl _)
      | (with_reducible exact LeO.none _)
      | (with_reducible refine LeO.ite ?_ ?_)
      | (with_reducible refine LeO.bind ?_ (fun _ => ?_))
      | exact ih0 _ _ _ _ _ _
      | exact probe_check.mono _ _ _ _
      | exact tube_Point.mono _ _ _
      | exact LeO.none _
      | refine LeO.ite ?_ ?_
      | refine LeO.bind ?_ (fun _ => ?_)
theorem probe_Margin.mono : ∀ a0 a1 k, LeO (probe_Margin.f k a0 a1) (probe_Margin.f (k + 1) a0 a1) := by
  intro a0 a1 k
  have ih0 := probe_Margin.mono_l k
  unfold probe_Margin.f
  repeat' first
      | (with_reducible exact ih0 _ _ _ _ _ _)
      | (with_reducible exact probe_check.mono _ _ _ _)
      | (with_reducible exact tube_Point.mono _ _ _)
      | (with_reducible exact LeO.refl _)
      | (with_reducible exact LeO.none _)
      | (with_reducible refine LeO.ite ?_ ?_)
      | (with_reducible refine LeO.bind ?_ (fun _ => ?_))
      | exact ih0 _ _ _ _ _ _
      | exact probe_check.mono _ _ _ _
      | exact tube_Point.mono _ _ _
      | exact LeO.none _
      | refine LeO.ite ?_ ?_
      | refine LeO.bind ?_ (fun _ => ?_)
set_option maxHeartbeats 8000000 in
set_option maxRecDepth 100000 in
theorem probe_Margin.calls (k : Nat) (P0_ : Nat → Prop) (A0 : Option Addr) (c0 : Nat) (l0 : List (S102)) (P1_ : Nat → Prop) (A1 : Option Addr) (c1 : Nat) (l1 : List (S102)) (r1 : Int) (r2 : Int) (w : World) (hs0 : Kd.V k102 102 w w.heap.size (fun k_ => P0_ k_) (.slice A0 l0.length c0) l0) (hs1 : Kd.V k102 102 w w.heap.size (fun k_ => P1_ k_) (.slice A1 l1.length c1) l1) (h : probe_Margin.f k l0 l1 = some (r1, r2)) :
    Calls Try.prog 40 #[.slice A0 l0.length c0, .slice A1 l1.length c1] w fun e w' => e = .returned (.tuple #[.int .i64 r1, .int .i64 r2]) ∧ Below w.heap.size w w' := by
 have hu25 := Try.underlying25
 have hu102 := Try.underlying102
 have HO0 := Aside0.mk (show Kd.V k102 102 w w.heap.size (fun k_ => ((P0_ k_ ∨ P1_ k_) ∨ w.heap.size ≤ k_)) (.slice A0 l0.length c0) l0 from Kd.V_mono hs0 (fun k_ hk => .inl (.inl hk)))
 have HO1 := Aside0.mk (show Kd.V k102 102 w w.heap.size (fun k_ => ((P0_ k_ ∨ P1_ k_) ∨ w.heap.size ≤ k_)) (.slice A1 l1.length c1) l1 from Kd.V_mono hs1 (fun k_ hk => .inl (.inr hk)))
 have HB := Aside0.mk (Below.refl w.heap.size w)
 have H : ((probe_check.f k 0 0 (([l0, l1] : List (List (S102))))).bind fun t195 => (if t195 = 0 then ((probe_common.f l0 l1).bind fun bt196 => (if bt196.1 > bt196.2 then (some (0, 8)) else (probe_Margin.l0 k l0 l1 bt196.1 bt196.2 0 bt196.1))) else (some (0, t195)))) = some (r1, r2) := h
 clear h
 obtain ⟨y192, hy192⟩ : ∃ y_ : List (List (S102)), y_ = (([l0, l1] : List (List (S102)))) := ⟨_, rfl⟩
 replace H : ((probe_check.f k 0 0 y192).bind fun t195 => (if t195 = 0 then ((probe_common.f l0 l1).bind fun bt196 => (if bt196.1 > bt196.2 then (some (0, 8)) else (probe_Margin.l0 k l0 l1 bt196.1 bt196.2 0 bt196.1))) else (some (0, t195)))) = some (r1, r2) := by first | (rw [hy192]; with_reducible exact H) | (have H2_ := (Option.bind_some _ _).symm.trans H; rw [hy192]; with_reducible exact H2_) | (have H2_ := (Option.bind_some _ _).symm.trans H; with_reducible exact H2_) | with_reducible exact H | (rw [hy192]; exact H) | exact H
 have Ny192 := Aside0.mk hy192
 clear hy192
 replace H := Option.bind_eq_some_iff.mp H
 obtain ⟨t195, A30, H⟩ := H
 replace H : (if t195 = 0 then ((probe_common.f l0 l1).bind fun bt196 => (if bt196.1 > bt196.2 then (some (0, 8)) else (probe_Margin.l0 k l0 l1 bt196.1 bt196.2 0 bt196.1))) else (some (0, t195))) = some (r1, r2) := H
 have A3 := Aside0.mk A30
 clear A30
 refine Or.elim (Classical.em (t195 = 0)) (fun c4 => ?p2_) (fun c4 => ?n2_)
 case' p2_ =>
  rw [if_pos c4] at H
  have c4b0 : (t195 == 0) = true := beq_iff_eq.mpr c4
  have c4b1 : (t195 != 0) = false := bne_eq_false_iff_eq.mpr c4
  clear c4
  replace H := Option.bind_eq_some_iff.mp H
  obtain ⟨⟨t196, t197⟩, A50, H⟩ := H
  replace H : (if t196 > t197 then (some (0, 8)) else (probe_Margin.l0 k l0 l1 t196 t197 0 t196)) = some (r1, r2) := H
  have A5 := Aside0.mk A50
  clear A50
  refine Or.elim (Classical.em (t196 > t197)) (fun c6 => ?p3_) (fun c6 => ?n3_)
  case' p3_ =>
   rw [if_pos c6] at H
   have c6b0 : decide (t197 < t196) = true := decide_eq_true c6
   clear c6
   simp only [Option.some.injEq, Prod.mk.injEq] at H
   obtain ⟨rfl, rfl⟩ := H
   have hm1_0 := Aside0.mk trivial
  case' n3_ =>
   rw [if_neg c6] at H
   have c6b0 : decide (t197 < t196) = false := decide_eq_false c6
   clear c6
   have hm1_1 := Aside0.mk trivial
 case' n2_ =>
  rw [if_neg c4] at H
  have c4b0 : (t195 == 0) = false := beq_eq_false_iff_ne.mpr c4
  have c4b1 : (t195 != 0) = true := bne_iff_ne.mpr c4
  simp only [Option.some.injEq, Prod.mk.injEq] at H
  obtain ⟨rfl, rfl⟩ := H
  have hm1_0 := Aside0.mk trivial
 all_goals
  first
   | clear hm1_0
     go_enter Try.func40, Try.ntmps40
     go_wp2_with (first | ((with_reducible refine gate_dst (N := 17) rfl ?_); refine Kd.N_lit (Kd.slice 102 k102) _ 23 ?hg (N' := 17) ?hd (xs := ([l0, l1] : List (List (S102)))) (inner := [.slice A0 l0.length c0, .slice A1 l1.length c1]) (ok := (fun k_ => ((P0_ k_ ∨ P1_ k_) ∨ w.heap.size ≤ k_))) (okp := (fun k_ => ((P0_ k_ ∨ P1_ k_) ∨ w.heap.size ≤ k_))) ?hr ?hp (fun _ hk => hk) ((show ∀ k_, w.heap.size ≤ k_ → (fun k_ => ((P0_ k_ ∨ P1_ k_) ∨ w.heap.size ≤ k_)) k_ from fun k_ hk => (.inr (Nat.le_trans (below_size (by repeat (first | (with_reducible first | exact HB.out | apply below_alloc | apply pw_below_drewN | apply below_drew1) | exact HB.out))) hk))) _ (Nat.le_refl _)) (Below.refl _ _) (Nat.le_refl _) (by simp) ?_; (case hd => rfl); (case hg => rfl); (case hr => first | (go_simp; done) | (go_simp; rfl)); (case hp => exact (Reps.one (show Kd.FK (Kd.slice 102 k102) _ _ l0 [.slice A0 l0.length c0] from (Kd.FK_slice_mk (Kd.V_reads' (Kd.V_mono (ok' := (fun k_ => ((P0_ k_ ∨ P1_ k_) ∨ w.heap.size ≤ k_))) (HO0.out) (fun k_ hk => hk))).2.1 (Kd.V_F (Kd.V_mono (ok' := (fun k_ => ((P0_ k_ ∨ P1_ k_) ∨ w.heap.size ≤ k_))) (HO0.out) (fun k_ hk => hk))))) (Reps.one (show Kd.FK (Kd.slice 102 k102) _ _ l1 [.slice A1 l1.length c1] from (Kd.FK_slice_mk (Kd.V_reads' (Kd.V_mono (ok' := (fun k_ => ((P0_ k_ ∨ P1_ k_) ∨ w.heap.size ≤ k_))) (HO1.out) (fun k_ hk => hk))).2.1 (Kd.V_F (Kd.V_mono (ok' := (fun k_ => ((P0_ k_ ∨ P1_ k_) ∨ w.heap.size ≤ k_))) (HO1.out) (fun k_ hk => hk))))) (Reps.none _ _)))); intro v193 wx53161 hox53161 hb hg_ hnew_; clear hg_ hnew_; (first | rw [← Ny192.out] at hox53161 | (simp only [Int.reduceToNat] at hox53161; rw [← Ny192.out] at hox53161)); have n0_ := Aside0.mk (Kd.V_elder' (by (with_reducible repeat (first | apply Kd.V_alloc | apply Kd.V_drewN | apply Kd.V_drew)); exact HO0.out) (Kd.N_base hox53161) hb); have n1_ := Aside0.mk (Kd.V_elder' (by (with_reducible repeat (first | apply Kd.V_alloc | apply Kd.V_drewN | apply Kd.V_drew)); exact HO1.out) (Kd.N_base hox53161) hb); have n2_ := Aside0.mk (Kd.N_lower hox53161 (below_size (by repeat (first | (with_reducible first | exact HB.out | apply below_alloc | apply pw_below_drewN | apply below_drew1) | exact HB.out)))); have n3_ := Aside0.mk (below_step (by repeat (first | (with_reducible first | exact HB.out | apply below_alloc | apply pw_below_drewN | apply below_drew1) | exact HB.out)) hb); clear HO0; clear HO1; clear HB; have HO0 := n0_; have HO1 := n1_; have HO194 := n2_; have HB := n3_; clear n0_ n1_ n2_ n3_; clear hb hox53161; obtain ⟨Aox53161, cox53161, eox53161⟩ := Kd.N_slice HO194.out; subst eox53161) | ((with_reducible refine gate_callee (f := 42) rfl ?_); refine goesL_ (some 18) rfl rfl Try.func42 (by kernel_rfl) rfl #[.agg #[.int .i64 0, .int .i64 0], .slice Aox53161 y192.length cox53161] rfl (by (try simp only [List.map_toArray, List.map_cons, List.map_nil]); first | done | rfl | (simp only [List.length_drop, List.length_take]; rfl)) ?_; (with_reducible refine (probe_check.calls k 0 0 _ _ y192 t195 _ ?side1 ?side2 A3.out).mono ?_); (case side1 => repeat (first | exact (Kd.N_reads' HO194.out).2.2 | (with_reducible refine Kd.C_alloc ?_ _) | (with_reducible refine Kd.C_drewN ?_ _) | (with_reducible refine Kd.C_drew ?_))); (case side2 => exact (Kd.N_reads' HO194.out).2.1); rintro e wxa7ec1 ⟨rfl, hb⟩; refine ⟨_, rfl, ?_⟩; have n0_ := Aside0.mk (Kd.V_below (by (with_reducible repeat (first | apply Kd.V_alloc | apply Kd.V_drewN | apply Kd.V_drew)); exact HO0.out) hb); have n1_ := Aside0.mk (Kd.V_below (by (with_reducible repeat (first | apply Kd.V_alloc | apply Kd.V_drewN | apply Kd.V_drew)); exact HO1.out) hb); have n2_ := Aside0.mk (Kd.N_below (by (with_reducible repeat (first | apply Kd.N_alloc | apply Kd.N_drewN | apply Kd.N_drew)); exact HO194.out) hb); have n3_ := Aside0.mk (below_step (by repeat (first | (with_reducible first | exact HB.out | apply below_alloc | apply pw_below_drewN | apply below_drew1) | exact HB.out)) hb); clear HO0; clear HO1; clear HO194; clear HB; have HO0 := n0_; have HO1 := n1_; have HO194 := n2_; have HB := n3_; clear n0_ n1_ n2_ n3_; (try clear hb); (try clear hb2); (try clear hk); (try clear hi)) | ((with_reducible refine gate_callee (f := 86) rfl ?_); refine goesL_ (some 25) rfl rfl Try.func86 (by kernel_rfl) rfl #[.slice A0 l0.length c0, .slice A1 l1.length c1] rfl (by (try simp only [List.map_toArray, List.map_cons, List.map_nil]); first | done | rfl | (simp only [List.length_drop, List.length_take]; rfl)) ?_; (with_reducible refine (probe_common.calls _ _ l0 _ _ l1 t196 t197 _ ?side1 ?side2 ?side3 ?side4 A5.out).mono ?_); (case side1 => repeat (first | exact (Kd.V_reads' HO0.out).2.2 | (with_reducible refine Kd.C_alloc ?_ _) | (with_reducible refine Kd.C_drewN ?_ _) | (with_reducible refine Kd.C_drew ?_))); (case side2 => exact (Kd.V_reads' HO0.out).2.1); (case side3 => repeat (first | exact (Kd.V_reads' HO1.out).2.2 | (with_reducible refine Kd.C_alloc ?_ _) | (with_reducible refine Kd.C_drewN ?_ _) | (with_reducible refine Kd.C_drew ?_))); (case side4 => exact (Kd.V_reads' HO1.out).2.1); rintro e wxd4051 ⟨rfl, hb⟩; refine ⟨_, rfl, ?_⟩; have n0_ := Aside0.mk (Kd.V_below (by (with_reducible repeat (first | apply Kd.V_alloc | apply Kd.V_drewN | apply Kd.V_drew)); exact HO0.out) hb); have n1_ := Aside0.mk (Kd.V_below (by (with_reducible repeat (first | apply Kd.V_alloc | apply Kd.V_drewN | apply Kd.V_drew)); exact HO1.out) hb); have n2_ := Aside0.mk (Kd.N_below (by (with_reducible repeat (first | apply Kd.N_alloc | apply Kd.N_drewN | apply Kd.N_drew)); exact HO194.out) hb); have n3_ := Aside0.mk (below_step (by repeat (first | (with_reducible first | exact HB.out | apply below_alloc | apply pw_below_drewN | apply below_drew1) | exact HB.out)) hb); clear HO0; clear HO1; clear HO194; clear HB; have HO0 := n0_; have HO1 := n1_; have HO194 := n2_; have HB := n3_; clear n0_ n1_ n2_ n3_; (try clear hb); (try clear hb2); (try clear hk); (try clear hi)))
     go_ret2
     exact ⟨by first | rfl | (simp [errW_none, errW_some] <;> rfl) | (simp [*, errW_none, errW_some] <;> rfl), by repeat (first | (with_reducible first | exact HB.out | apply below_alloc | apply pw_below_drewN | apply below_drew1) | exact HB.out)⟩
   | clear hm1_1
     have H' := Aside0.mk H
     clear H
     go_enter Try.func40, Try.ntmps40
     go_wp2_with (first | ((with_reducible refine gate_dst (N := 17) rfl ?_); refine Kd.N_lit (Kd.slice 102 k102) _ 23 ?hg (N' := 17) ?hd (xs := ([l0, l1] : List (List (S102)))) (inner := [.slice A0 l0.length c0, .slice A1 l1.length c1]) (ok := (fun k_ => ((P0_ k_ ∨ P1_ k_) ∨ w.heap.size ≤ k_))) (okp := (fun k_ => ((P0_ k_ ∨ P1_ k_) ∨ w.heap.size ≤ k_))) ?hr ?hp (fun _ hk => hk) ((show ∀ k_, w.heap.size ≤ k_ → (fun k_ => ((P0_ k_ ∨ P1_ k_) ∨ w.heap.size ≤ k_)) k_ from fun k_ hk => (.inr (Nat.le_trans (below_size (by repeat (first | (with_reducible first | exact HB.out | apply below_alloc | apply pw_below_drewN | apply below_drew1) | exact HB.out))) hk))) _ (Nat.le_refl _)) (Below.refl _ _) (Nat.le_refl _) (by simp) ?_; (case hd => rfl); (case hg => rfl); (case hr => first | (go_simp; done) | (go_simp; rfl)); (case hp => exact (Reps.one (show Kd.FK (Kd.slice 102 k102) _ _ l0 [.slice A0 l0.length c0] from (Kd.FK_slice_mk (Kd.V_reads' (Kd.V_mono (ok' := (fun k_ => ((P0_ k_ ∨ P1_ k_) ∨ w.heap.size ≤ k_))) (HO0.out) (fun k_ hk => hk))).2.1 (Kd.V_F (Kd.V_mono (ok' := (fun k_ => ((P0_ k_ ∨ P1_ k_) ∨ w.heap.size ≤ k_))) (HO0.out) (fun k_ hk => hk))))) (Reps.one (show Kd.FK (Kd.slice 102 k102) _ _ l1 [.slice A1 l1.length c1] from (Kd.FK_slice_mk (Kd.V_reads' (Kd.V_mono (ok' := (fun k_ => ((P0_ k_ ∨ P1_ k_) ∨ w.heap.size ≤ k_))) (HO1.out) (fun k_ hk => hk))).2.1 (Kd.V_F (Kd.V_mono (ok' := (fun k_ => ((P0_ k_ ∨ P1_ k_) ∨ w.heap.size ≤ k_))) (HO1.out) (fun k_ hk => hk))))) (Reps.none _ _)))); intro v193 wx53161 hox53161 hb hg_ hnew_; clear hg_ hnew_; (first | rw [← Ny192.out] at hox53161 | (simp only [Int.reduceToNat] at hox53161; rw [← Ny192.out] at hox53161)); have n0_ := Aside0.mk (Kd.V_elder' (by (with_reducible repeat (first | apply Kd.V_alloc | apply Kd.V_drewN | apply Kd.V_drew)); exact HO0.out) (Kd.N_base hox53161) hb); have n1_ := Aside0.mk (Kd.V_elder' (by (with_reducible repeat (first | apply Kd.V_alloc | apply Kd.V_drewN | apply Kd.V_drew)); exact HO1.out) (Kd.N_base hox53161) hb); have n2_ := Aside0.mk (Kd.N_lower hox53161 (below_size (by repeat (first | (with_reducible first | exact HB.out | apply below_alloc | apply pw_below_drewN | apply below_drew1) | exact HB.out)))); have n3_ := Aside0.mk (below_step (by repeat (first | (with_reducible first | exact HB.out | apply below_alloc | apply pw_below_drewN | apply below_drew1) | exact HB.out)) hb); clear HO0; clear HO1; clear HB; have HO0 := n0_; have HO1 := n1_; have HO194 := n2_; have HB := n3_; clear n0_ n1_ n2_ n3_; clear hb hox53161; obtain ⟨Aox53161, cox53161, eox53161⟩ := Kd.N_slice HO194.out; subst eox53161) | ((with_reducible refine gate_callee (f := 42) rfl ?_); refine goesL_ (some 18) rfl rfl Try.func42 (by kernel_rfl) rfl #[.agg #[.int .i64 0, .int .i64 0], .slice Aox53161 y192.length cox53161] rfl (by (try simp only [List.map_toArray, List.map_cons, List.map_nil]); first | done | rfl | (simp only [List.length_drop, List.length_take]; rfl)) ?_; (with_reducible refine (probe_check.calls k 0 0 _ _ y192 t195 _ ?side1 ?side2 A3.out).mono ?_); (case side1 => repeat (first | exact (Kd.N_reads' HO194.out).2.2 | (with_reducible refine Kd.C_alloc ?_ _) | (with_reducible refine Kd.C_drewN ?_ _) | (with_reducible refine Kd.C_drew ?_))); (case side2 => exact (Kd.N_reads' HO194.out).2.1); rintro e wxa7ec1 ⟨rfl, hb⟩; refine ⟨_, rfl, ?_⟩; have n0_ := Aside0.mk (Kd.V_below (by (with_reducible repeat (first | apply Kd.V_alloc | apply Kd.V_drewN | apply Kd.V_drew)); exact HO0.out) hb); have n1_ := Aside0.mk (Kd.V_below (by (with_reducible repeat (first | apply Kd.V_alloc | apply Kd.V_drewN | apply Kd.V_drew)); exact HO1.out) hb); have n2_ := Aside0.mk (Kd.N_below (by (with_reducible repeat (first | apply Kd.N_alloc | apply Kd.N_drewN | apply Kd.N_drew)); exact HO194.out) hb); have n3_ := Aside0.mk (below_step (by repeat (first | (with_reducible first | exact HB.out | apply below_alloc | apply pw_below_drewN | apply below_drew1) | exact HB.out)) hb); clear HO0; clear HO1; clear HO194; clear HB; have HO0 := n0_; have HO1 := n1_; have HO194 := n2_; have HB := n3_; clear n0_ n1_ n2_ n3_; (try clear hb); (try clear hb2); (try clear hk); (try clear hi)) | ((with_reducible refine gate_callee (f := 86) rfl ?_); refine goesL_ (some 25) rfl rfl Try.func86 (by kernel_rfl) rfl #[.slice A0 l0.length c0, .slice A1 l1.length c1] rfl (by (try simp only [List.map_toArray, List.map_cons, List.map_nil]); first | done | rfl | (simp only [List.length_drop, List.length_take]; rfl)) ?_; (with_reducible refine (probe_common.calls _ _ l0 _ _ l1 t196 t197 _ ?side1 ?side2 ?side3 ?side4 A5.out).mono ?_); (case side1 => repeat (first | exact (Kd.V_reads' HO0.out).2.2 | (with_reducible refine Kd.C_alloc ?_ _) | (with_reducible refine Kd.C_drewN ?_ _) | (with_reducible refine Kd.C_drew ?_))); (case side2 => exact (Kd.V_reads' HO0.out).2.1); (case side3 => repeat (first | exact (Kd.V_reads' HO1.out).2.2 | (with_reducible refine Kd.C_alloc ?_ _) | (with_reducible refine Kd.C_drewN ?_ _) | (with_reducible refine Kd.C_drew ?_))); (case side4 => exact (Kd.V_reads' HO1.out).2.1); rintro e wxd4051 ⟨rfl, hb⟩; refine ⟨_, rfl, ?_⟩; have n0_ := Aside0.mk (Kd.V_below (by (with_reducible repeat (first | apply Kd.V_alloc | apply Kd.V_drewN | apply Kd.V_drew)); exact HO0.out) hb); have n1_ := Aside0.mk (Kd.V_below (by (with_reducible repeat (first | apply Kd.V_alloc | apply Kd.V_drewN | apply Kd.V_drew)); exact HO1.out) hb); have n2_ := Aside0.mk (Kd.N_below (by (with_reducible repeat (first | apply Kd.N_alloc | apply Kd.N_drewN | apply Kd.N_drew)); exact HO194.out) hb); have n3_ := Aside0.mk (below_step (by repeat (first | (with_reducible first | exact HB.out | apply below_alloc | apply pw_below_drewN | apply below_drew1) | exact HB.out)) hb); clear HO0; clear HO1; clear HO194; clear HB; have HO0 := n0_; have HO1 := n1_; have HO194 := n2_; have HB := n3_; clear n0_ n1_ n2_ n3_; (try clear hb); (try clear hb2); (try clear hk); (try clear hi)))
     go_loopg [9, 10] k (fun kq v9 v10 w' => ∃ (x9_1 : Int) (x10_1 : Int), v9 = .int .i64 x9_1 ∧ v10 = .int .i64 x10_1 ∧ Aside0 (probe_Margin.l0 kq l0 l1 t196 t197 x9_1 x10_1 = some (r1, r2)) ∧ Aside0 (kq ≤ k) ∧ Aside0 (Kd.V k102 102 w' w.heap.size (fun k_ => ((P0_ k_ ∨ P1_ k_) ∨ w.heap.size ≤ k_)) (.slice A0 l0.length c0) l0) ∧ Aside0 (Kd.V k102 102 w' w.heap.size (fun k_ => ((P0_ k_ ∨ P1_ k_) ∨ w.heap.size ≤ k_)) (.slice A1 l1.length c1) l1) ∧ Aside0 (Below w.heap.size w w'))
     case atStart => exact ⟨(0), (t196), (by first | rfl | (simp; done) | (simp [*]; done)), (by first | rfl | (simp; done) | (simp [*]; done)), H', ⟨Nat.le_refl _⟩, ⟨by (with_reducible repeat (first | apply Kd.V_alloc | apply Kd.V_drewN | apply Kd.V_drew)); exact Kd.V_mono HO0.out (fun _ hk => hk.1)⟩, ⟨by (with_reducible repeat (first | apply Kd.V_alloc | apply Kd.V_drewN | apply Kd.V_drew)); exact Kd.V_mono HO1.out (fun _ hk => hk.1)⟩, ⟨by repeat (first | (with_reducible first | exact HB.out | apply below_alloc | apply pw_below_drewN | apply below_drew1) | exact HB.out)⟩⟩
     case round =>
      clear H'
      (try clear c1); (try clear p2); (try clear c4); (try clear c4b0); (try clear c4b1); (try clear c6); (try clear c6b0); (try clear c8)
      obtain ⟨x9_1, x10_1, rfl, rfl, HA, HK1, HO_0, HO_1, HB⟩ := hrel
      cases gk with
      | zero => exact absurd HA.out (by simp [probe_Margin.l0])
      | succ k1 =>
       have H := HA.out
       clear HA
       simp only [probe_Margin.l0] at H
       refine Or.elim (Classical.em (x10_1 ≤ t197)) (fun c17 => ?p5_) (fun c17 => ?n5_)
       case' p5_ =>
        rw [if_pos c17] at H
        have c17b0 : decide (x10_1 ≤ t197) = true := decide_eq_true c17
        clear c17
        replace H := Option.bind_eq_some_iff.mp H
        obtain ⟨⟨t198, t199, t200, t201, t202, t203⟩, A180, H⟩ := H
        replace H : ((tube_Point.f k1 l1 x10_1).bind fun bt204 => ((probe_surplus.f t198 t199 t200 t201 t202 t203 bt204.1 bt204.2.1 bt204.2.2.1 bt204.2.2.2.1 bt204.2.2.2.2.1 bt204.2.2.2.2.2).bind fun t212 => (if x10_1 = t196 then (probe_Margin.l0 k1 l0 l1 t196 t197 t212 (wrap64 (x10_1 + 1))) else (if t212 < x9_1 then (probe_Margin.l0 k1 l0 l1 t196 t197 t212 (wrap64 (x10_1 + 1))) else (probe_Margin.l0 k1 l0 l1 t196 t197 x9_1 (wrap64 (x10_1 + 1))))))) = some (r1, r2) := H
        have A18 := Aside0.mk A180
        clear A180
        replace H := Option.bind_eq_some_iff.mp H
        obtain ⟨⟨t204, t205, t206, t207, t208, t209⟩, A190, H⟩ := H
        replace H : ((probe_surplus.f t198 t199 t200 t201 t202 t203 t204 t205 t206 t207 t208 t209).bind fun t212 => (if x10_1 = t196 then (probe_Margin.l0 k1 l0 l1 t196 t197 t212 (wrap64 (x10_1 + 1))) else (if t212 < x9_1 then (probe_Margin.l0 k1 l0 l1 t196 t197 t212 (wrap64 (x10_1 + 1))) else (probe_Margin.l0 k1 l0 l1 t196 t197 x9_1 (wrap64 (x10_1 + 1)))))) = some (r1, r2) := H
        have A19 := Aside0.mk A190
        clear A190
        replace H := Option.bind_eq_some_iff.mp H
        obtain ⟨t212, A200, H⟩ := H
        replace H : (if x10_1 = t196 then (probe_Margin.l0 k1 l0 l1 t196 t197 t212 (wrap64 (x10_1 + 1))) else (if t212 < x9_1 then (probe_Margin.l0 k1 l0 l1 t196 t197 t212 (wrap64 (x10_1 + 1))) else (probe_Margin.l0 k1 l0 l1 t196 t197 x9_1 (wrap64 (x10_1 + 1))))) = some (r1, r2) := H
        have A20 := Aside0.mk A200
        clear A200
        refine Or.elim (Classical.em (x10_1 = t196)) (fun c21 => ?p6_) (fun c21 => ?n6_)
        case' p6_ =>
         rw [if_pos c21] at H
         have c21b0 : (x10_1 == t196) = true := beq_iff_eq.mpr c21
         have c21b1 : (x10_1 != t196) = false := bne_eq_false_iff_eq.mpr c21
         clear c21
         have hm4_0 := Aside0.mk trivial
        case' n6_ =>
         rw [if_neg c21] at H
         have c21b0 : (x10_1 == t196) = false := beq_eq_false_iff_ne.mpr c21
         have c21b1 : (x10_1 != t196) = true := bne_iff_ne.mpr c21
         refine Or.elim (Classical.em (t212 < x9_1)) (fun c30 => ?p7_) (fun c30 => ?n7_)
         case' p7_ =>
          rw [if_pos c30] at H
          have c30b0 : decide (t212 < x9_1) = true := decide_eq_true c30
          clear c30
          have hm4_0 := Aside0.mk trivial
         case' n7_ =>
          rw [if_neg c30] at H
          have c30b0 : decide (t212 < x9_1) = false := decide_eq_false c30
          clear c30
          have hm4_0 := Aside0.mk trivial
       case' n5_ =>
        rw [if_neg c17] at H
        have c17b0 : decide (x10_1 ≤ t197) = false := decide_eq_false c17
        clear c17
        simp only [Option.some.injEq, Prod.mk.injEq] at H
        obtain ⟨rfl, rfl⟩ := H
        have hm4_1 := Aside0.mk trivial
       all_goals
        first
         | clear hm4_0
           have H' := Aside0.mk H
           clear H
           go_wp2_with (first | ((with_reducible refine gate_callee (f := 87) rfl ?_); refine goesL_ (some 39) rfl rfl Try.func87 (by kernel_rfl) rfl #[.slice A0 l0.length c0, .int .i64 x10_1] rfl (by (try simp only [List.map_toArray, List.map_cons, List.map_nil]); first | done | rfl | (simp only [List.length_drop, List.length_take]; rfl)) ?_; (with_reducible refine (tube_Point.calls k1 _ _ l0 x10_1 t198 t199 t200 t201 t202 t203 _ ?side1 ?side2 A18.out).mono ?_); (case side1 => repeat (first | exact (Kd.V_reads' HO_0.out).2.2 | (with_reducible refine Kd.C_alloc ?_ _) | (with_reducible refine Kd.C_drewN ?_ _) | (with_reducible refine Kd.C_drew ?_))); (case side2 => exact (Kd.V_reads' HO_0.out).2.1); rintro e wxb5cf1 ⟨rfl, hb⟩; refine ⟨_, rfl, ?_⟩; have n0_ := Aside0.mk (Kd.V_below (by (with_reducible repeat (first | apply Kd.V_alloc | apply Kd.V_drewN | apply Kd.V_drew)); exact HO_0.out) hb); have n1_ := Aside0.mk (Kd.V_below (by (with_reducible repeat (first | apply Kd.V_alloc | apply Kd.V_drewN | apply Kd.V_drew)); exact HO_1.out) hb); have n2_ := Aside0.mk (below_step (by repeat (first | (with_reducible first | exact HB.out | apply below_alloc | apply pw_below_drewN | apply below_drew1) | exact HB.out)) hb); clear HO_0; clear HO_1; clear HB; have HO_0 := n0_; have HO_1 := n1_; have HB := n2_; clear n0_ n1_ n2_; (try clear hb); (try clear hb2); (try clear hk); (try clear hi)) | ((with_reducible refine gate_callee (f := 87) rfl ?_); refine goesL_ (some 42) rfl rfl Try.func87 (by kernel_rfl) rfl #[.slice A1 l1.length c1, .int .i64 x10_1] rfl (by (try simp only [List.map_toArray, List.map_cons, List.map_nil]); first | done | rfl | (simp only [List.length_drop, List.length_take]; rfl)) ?_; (with_reducible refine (tube_Point.calls k1 _ _ l1 x10_1 t204 t205 t206 t207 t208 t209 _ ?side1 ?side2 A19.out).mono ?_); (case side1 => repeat (first | exact (Kd.V_reads' HO_1.out).2.2 | (with_reducible refine Kd.C_alloc ?_ _) | (with_reducible refine Kd.C_drewN ?_ _) | (with_reducible refine Kd.C_drew ?_))); (case side2 => exact (Kd.V_reads' HO_1.out).2.1); rintro e wx1b131 ⟨rfl, hb⟩; refine ⟨_, rfl, ?_⟩; have n0_ := Aside0.mk (Kd.V_below (by (with_reducible repeat (first | apply Kd.V_alloc | apply Kd.V_drewN | apply Kd.V_drew)); exact HO_0.out) hb); have n1_ := Aside0.mk (Kd.V_below (by (with_reducible repeat (first | apply Kd.V_alloc | apply Kd.V_drewN | apply Kd.V_drew)); exact HO_1.out) hb); have n2_ := Aside0.mk (below_step (by repeat (first | (with_reducible first | exact HB.out | apply below_alloc | apply pw_below_drewN | apply below_drew1) | exact HB.out)) hb); clear HO_0; clear HO_1; clear HB; have HO_0 := n0_; have HO_1 := n1_; have HB := n2_; clear n0_ n1_ n2_; (try clear hb); (try clear hb2); (try clear hk); (try clear hi)) | ((with_reducible refine gate_dst (N := 11) rfl ?_); refine box_event ?hg (N := 11) ?hd (cs := #[.int .i64 0, .int .i64 0, .int .i64 0, .int .i64 0, .int .i64 0, .int .i64 0]) (t := 102) ?hr ?_; (case hd => rfl); (case hg => rfl); (case hr => first | (go_simp; done) | (go_simp; rfl)); intro gb210 hg wx50b11 hbox hb; have n0_ := Aside0.mk (Kd.V_below (Kd.V_elderB (by (with_reducible repeat (first | apply Kd.V_alloc | apply Kd.V_drewN | apply Kd.V_drew)); exact HO_0.out) gb210 (Nat.le_of_eq hg.symm)) hb); have n1_ := Aside0.mk (Kd.V_below (Kd.V_elderB (by (with_reducible repeat (first | apply Kd.V_alloc | apply Kd.V_drewN | apply Kd.V_drew)); exact HO_1.out) gb210 (Nat.le_of_eq hg.symm)) hb); have n2_ := Aside0.mk (below_step (by repeat (first | (with_reducible first | exact HB.out | apply below_alloc | apply pw_below_drewN | apply below_drew1) | exact HB.out)) hb); have n3_ := Aside0.mk (hbox); have n4_ := Aside0.mk ((by rw [hg]; exact (below_size (by repeat (first | (with_reducible first | exact HB.out | apply below_alloc | apply pw_below_drewN | apply below_drew1) | exact HB.out))) : w.heap.size ≤ gb210)); have n5_ := Aside0.mk ((by rw [hg]; exact (below_size (by repeat (first | (with_reducible first | exact HB.out | apply below_alloc | apply pw_below_drewN | apply below_drew1) | exact HB.out))) : w.heap.size ≤ gb210)); clear HO_0; clear HO_1; clear HB; have HO_0 := n0_; have HO_1 := n1_; have HB := n2_; have BK210 := n3_; have GW210 := n4_; have GE210 := n5_; clear n0_ n1_ n2_ n3_ n4_ n5_; clear hb hbox hg) | ((with_reducible refine gate_dst (N := 12) rfl ?_); refine box_event ?hg (N := 12) ?hd (cs := #[.int .i64 0, .int .i64 0, .int .i64 0, .int .i64 0, .int .i64 0, .int .i64 0]) (t := 102) ?hr ?_; (case hd => rfl); (case hg => rfl); (case hr => first | (go_simp; done) | (go_simp; rfl)); intro gb211 hg wxae921 hbox hb; have n0_ := Aside0.mk (Kd.V_below (Kd.V_elderB (by (with_reducible repeat (first | apply Kd.V_alloc | apply Kd.V_drewN | apply Kd.V_drew)); exact HO_0.out) gb211 (Nat.le_of_eq hg.symm)) hb); have n1_ := Aside0.mk (Kd.V_below (Kd.V_elderB (by (with_reducible repeat (first | apply Kd.V_alloc | apply Kd.V_drewN | apply Kd.V_drew)); exact HO_1.out) gb211 (Nat.le_of_eq hg.symm)) hb); have n2_ := Aside0.mk (blk_below (g := gb210) (o := .cells #[.int .i64 0, .int .i64 0, .int .i64 0, .int .i64 0, .int .i64 0, .int .i64 0] 102 (0, 0)) (by (with_reducible repeat (first | refine blk_drewN ?_ _ | refine blk_drew ?_ | refine blk_alloc ?_ _)); exact BK210.out) hb); have n3_ := Aside0.mk (below_step (by repeat (first | (with_reducible first | exact HB.out | apply below_alloc | apply pw_below_drewN | apply below_drew1 | refine below_set ?_ GE210.out) | exact HB.out)) hb); have n4_ := Aside0.mk (hbox); have n5_ := Aside0.mk ((by rw [hg]; exact (below_size (by repeat (first | (with_reducible first | exact HB.out | apply below_alloc | apply pw_below_drewN | apply below_drew1 | refine below_set ?_ GE210.out) | exact HB.out))) : w.heap.size ≤ gb211)); have n6_ := Aside0.mk ((by rw [hg]; exact (below_size (by repeat (first | (with_reducible first | exact HB.out | apply below_alloc | apply pw_below_drewN | apply below_drew1 | refine below_set ?_ GE210.out) | exact HB.out))) : w.heap.size ≤ gb211)); have n7_ := Aside0.mk ((by rw [hg]; exact Nat.ne_of_lt (blk_lt (g := gb210) (o := .cells #[.int .i64 0, .int .i64 0, .int .i64 0, .int .i64 0, .int .i64 0, .int .i64 0] 102 (0, 0)) (by (with_reducible repeat (first | refine blk_drewN ?_ _ | refine blk_drew ?_ | refine blk_alloc ?_ _)); exact BK210.out)) : gb210 ≠ gb211)); have n8_ := Aside0.mk ((by rw [hg]; exact Nat.ne_of_gt (blk_lt (g := gb210) (o := .cells #[.int .i64 0, .int .i64 0, .int .i64 0, .int .i64 0, .int .i64 0, .int .i64 0] 102 (0, 0)) (by (with_reducible repeat (first | refine blk_drewN ?_ _ | refine blk_drew ?_ | refine blk_alloc ?_ _)); exact BK210.out)) : gb211 ≠ gb210)); clear HO_0; clear HO_1; clear BK210; clear HB; have HO_0 := n0_; have HO_1 := n1_; have BK210 := n2_; have HB := n3_; have BK211 := n4_; have GW211 := n5_; have GE211 := n6_; have NB210_211 := n7_; have NB211_210 := n8_; clear n0_ n1_ n2_ n3_ n4_ n5_ n6_ n7_ n8_; clear hb hbox hg; have hnbxae921 := NB210_211.out; have hncxae921 := NB211_210.out; have hczxae921 : wxae921.cell? ⟨gb210, 0, none⟩ = some (.int .i64 0) := (blk_cell BK210.out 0).trans rfl; have hczxae922 : wxae921.cell? ⟨gb210, 1, none⟩ = some (.int .i64 0) := (blk_cell BK210.out 1).trans rfl; have hczxae923 : wxae921.cell? ⟨gb210, 2, none⟩ = some (.int .i64 0) := (blk_cell BK210.out 2).trans rfl; have hczxae924 : wxae921.cell? ⟨gb210, 3, none⟩ = some (.int .i64 0) := (blk_cell BK210.out 3).trans rfl; have hczxae925 : wxae921.cell? ⟨gb210, 4, none⟩ = some (.int .i64 0) := (blk_cell BK210.out 4).trans rfl; have hczxae926 : wxae921.cell? ⟨gb210, 5, none⟩ = some (.int .i64 0) := (blk_cell BK210.out 5).trans rfl; have hfzxae921 := blk_frozen BK210.out 0; have hfzxae922 := blk_frozen BK210.out 1; have hfzxae923 := blk_frozen BK210.out 2; have hfzxae924 := blk_frozen BK210.out 3; have hfzxae925 := blk_frozen BK210.out 4; have hfzxae926 := blk_frozen BK210.out 5; have hczxae927 : wxae921.cell? ⟨gb211, 0, none⟩ = some (.int .i64 0) := (blk_cell BK211.out 0).trans rfl; have hczxae928 : wxae921.cell? ⟨gb211, 1, none⟩ = some (.int .i64 0) := (blk_cell BK211.out 1).trans rfl; have hczxae929 : wxae921.cell? ⟨gb211, 2, none⟩ = some (.int .i64 0) := (blk_cell BK211.out 2).trans rfl; have hczxae9210 : wxae921.cell? ⟨gb211, 3, none⟩ = some (.int .i64 0) := (blk_cell BK211.out 3).trans rfl; have hczxae9211 : wxae921.cell? ⟨gb211, 4, none⟩ = some (.int .i64 0) := (blk_cell BK211.out 4).trans rfl; have hczxae9212 : wxae921.cell? ⟨gb211, 5, none⟩ = some (.int .i64 0) := (blk_cell BK211.out 5).trans rfl; have hfzxae927 := blk_frozen BK211.out 0; have hfzxae928 := blk_frozen BK211.out 1; have hfzxae929 := blk_frozen BK211.out 2; have hfzxae9210 := blk_frozen BK211.out 3; have hfzxae9211 := blk_frozen BK211.out 4; have hfzxae9212 := blk_frozen BK211.out 5) | ((with_reducible refine gate_callee (f := 88) rfl ?_); refine goesL_ (some 45) rfl rfl Try.func88 (by kernel_rfl) rfl #[.agg #[.int .i64 t198, .int .i64 t199, .int .i64 t200, .int .i64 t201, .int .i64 t202, .int .i64 t203], .agg #[.int .i64 t204, .int .i64 t205, .int .i64 t206, .int .i64 t207, .int .i64 t208, .int .i64 t209]] rfl (by (try simp only [List.map_toArray, List.map_cons, List.map_nil]); first | done | rfl | (simp only [List.length_drop, List.length_take]; rfl)) ?_; (with_reducible refine (probe_surplus.calls t198 t199 t200 t201 t202 t203 t204 t205 t206 t207 t208 t209 t212 _ A20.out).mono ?_); rintro e wxb3651 ⟨rfl, hb⟩; refine ⟨_, rfl, ?_⟩; have n0_ := Aside0.mk (Kd.V_below (by (with_reducible repeat (first | apply Kd.V_alloc | apply Kd.V_drewN | apply Kd.V_drew)); exact (Kd.V_mono (Kd.V_mono (Kd.V_far (p := ⟨gb211, 5, none⟩) (Kd.V_far (p := ⟨gb211, 4, none⟩) (Kd.V_far (p := ⟨gb211, 3, none⟩) (Kd.V_far (p := ⟨gb211, 2, none⟩) (Kd.V_far (p := ⟨gb211, 1, none⟩) (Kd.V_far (p := ⟨gb211, 0, none⟩) (Kd.V_far (p := ⟨gb210, 5, none⟩) (Kd.V_far (p := ⟨gb210, 4, none⟩) (Kd.V_far (p := ⟨gb210, 3, none⟩) (Kd.V_far (p := ⟨gb210, 2, none⟩) (Kd.V_far (p := ⟨gb210, 1, none⟩) (Kd.V_far (p := ⟨gb210, 0, none⟩) (Kd.V_mono (Kd.V_mono HO_0.out (fun k_ hk => (⟨hk, hk.1.2⟩ : _ ∧ k_ ≠ gb210))) (fun k_ hk => (⟨hk, hk.1.2⟩ : _ ∧ k_ ≠ gb211))) (fun _ hk => hk.1.2) (.int .i64 t198)) (fun _ hk => hk.1.2) (.int .i64 t199)) (fun _ hk => hk.1.2) (.int .i64 t200)) (fun _ hk => hk.1.2) (.int .i64 t201)) (fun _ hk => hk.1.2) (.int .i64 t202)) (fun _ hk => hk.1.2) (.int .i64 t203)) (fun _ hk => hk.2) (.int .i64 t204)) (fun _ hk => hk.2) (.int .i64 t205)) (fun _ hk => hk.2) (.int .i64 t206)) (fun _ hk => hk.2) (.int .i64 t207)) (fun _ hk => hk.2) (.int .i64 t208)) (fun _ hk => hk.2) (.int .i64 t209)) (fun _ h_ => h_.1)) (fun _ h_ => h_.1))) hb); have n1_ := Aside0.mk (Kd.V_below (by (with_reducible repeat (first | apply Kd.V_alloc | apply Kd.V_drewN | apply Kd.V_drew)); exact (Kd.V_mono (Kd.V_mono (Kd.V_far (p := ⟨gb211, 5, none⟩) (Kd.V_far (p := ⟨gb211, 4, none⟩) (Kd.V_far (p := ⟨gb211, 3, none⟩) (Kd.V_far (p := ⟨gb211, 2, none⟩) (Kd.V_far (p := ⟨gb211, 1, none⟩) (Kd.V_far (p := ⟨gb211, 0, none⟩) (Kd.V_far (p := ⟨gb210, 5, none⟩) (Kd.V_far (p := ⟨gb210, 4, none⟩) (Kd.V_far (p := ⟨gb210, 3, none⟩) (Kd.V_far (p := ⟨gb210, 2, none⟩) (Kd.V_far (p := ⟨gb210, 1, none⟩) (Kd.V_far (p := ⟨gb210, 0, none⟩) (Kd.V_mono (Kd.V_mono HO_1.out (fun k_ hk => (⟨hk, hk.1.2⟩ : _ ∧ k_ ≠ gb210))) (fun k_ hk => (⟨hk, hk.1.2⟩ : _ ∧ k_ ≠ gb211))) (fun _ hk => hk.1.2) (.int .i64 t198)) (fun _ hk => hk.1.2) (.int .i64 t199)) (fun _ hk => hk.1.2) (.int .i64 t200)) (fun _ hk => hk.1.2) (.int .i64 t201)) (fun _ hk => hk.1.2) (.int .i64 t202)) (fun _ hk => hk.1.2) (.int .i64 t203)) (fun _ hk => hk.2) (.int .i64 t204)) (fun _ hk => hk.2) (.int .i64 t205)) (fun _ hk => hk.2) (.int .i64 t206)) (fun _ hk => hk.2) (.int .i64 t207)) (fun _ hk => hk.2) (.int .i64 t208)) (fun _ hk => hk.2) (.int .i64 t209)) (fun _ h_ => h_.1)) (fun _ h_ => h_.1))) hb); have n2_ := Aside0.mk (blk_below (g := gb210) (o := .cells #[.int .i64 t198, .int .i64 t199, .int .i64 t200, .int .i64 t201, .int .i64 t202, .int .i64 t203] 102 (0, 0)) (by (with_reducible repeat (first | refine blk_drewN ?_ _ | refine blk_drew ?_ | refine blk_alloc ?_ _)); refine blk_far ?_ NB210_211.out _; (with_reducible repeat (first | refine blk_drewN ?_ _ | refine blk_drew ?_ | refine blk_alloc ?_ _)); refine blk_far ?_ NB210_211.out _; (with_reducible repeat (first | refine blk_drewN ?_ _ | refine blk_drew ?_ | refine blk_alloc ?_ _)); refine blk_far ?_ NB210_211.out _; (with_reducible repeat (first | refine blk_drewN ?_ _ | refine blk_drew ?_ | refine blk_alloc ?_ _)); refine blk_far ?_ NB210_211.out _; (with_reducible repeat (first | refine blk_drewN ?_ _ | refine blk_drew ?_ | refine blk_alloc ?_ _)); refine blk_far ?_ NB210_211.out _; (with_reducible repeat (first | refine blk_drewN ?_ _ | refine blk_drew ?_ | refine blk_alloc ?_ _)); refine blk_far ?_ NB210_211.out _; (with_reducible repeat (first | refine blk_drewN ?_ _ | refine blk_drew ?_ | refine blk_alloc ?_ _)); refine blk_put (cs := #[.int .i64 t198, .int .i64 t199, .int .i64 t200, .int .i64 t201, .int .i64 t202, .int .i64 0]) ?_ 5 _ rfl; (with_reducible repeat (first | refine blk_drewN ?_ _ | refine blk_drew ?_ | refine blk_alloc ?_ _)); refine blk_put (cs := #[.int .i64 t198, .int .i64 t199, .int .i64 t200, .int .i64 t201, .int .i64 0, .int .i64 0]) ?_ 4 _ rfl; (with_reducible repeat (first | refine blk_drewN ?_ _ | refine blk_drew ?_ | refine blk_alloc ?_ _)); refine blk_put (cs := #[.int .i64 t198, .int .i64 t199, .int .i64 t200, .int .i64 0, .int .i64 0, .int .i64 0]) ?_ 3 _ rfl; (with_reducible repeat (first | refine blk_drewN ?_ _ | refine blk_drew ?_ | refine blk_alloc ?_ _)); refine blk_put (cs := #[.int .i64 t198, .int .i64 t199, .int .i64 0, .int .i64 0, .int .i64 0, .int .i64 0]) ?_ 2 _ rfl; (with_reducible repeat (first | refine blk_drewN ?_ _ | refine blk_drew ?_ | refine blk_alloc ?_ _)); refine blk_put (cs := #[.int .i64 t198, .int .i64 0, .int .i64 0, .int .i64 0, .int .i64 0, .int .i64 0]) ?_ 1 _ rfl; (with_reducible repeat (first | refine blk_drewN ?_ _ | refine blk_drew ?_ | refine blk_alloc ?_ _)); refine blk_put (cs := #[.int .i64 0, .int .i64 0, .int .i64 0, .int .i64 0, .int .i64 0, .int .i64 0]) ?_ 0 _ rfl; (with_reducible repeat (first | refine blk_drewN ?_ _ | refine blk_drew ?_ | refine blk_alloc ?_ _)); exact BK210.out) hb); have n3_ := Aside0.mk (blk_below (g := gb211) (o := .cells #[.int .i64 t204, .int .i64 t205, .int .i64 t206, .int .i64 t207, .int .i64 t208, .int .i64 t209] 102 (0, 0)) (by (with_reducible repeat (first | refine blk_drewN ?_ _ | refine blk_drew ?_ | refine blk_alloc ?_ _)); refine blk_put (cs := #[.int .i64 t204, .int .i64 t205, .int .i64 t206, .int .i64 t207, .int .i64 t208, .int .i64 0]) ?_ 5 _ rfl; (with_reducible repeat (first | refine blk_drewN ?_ _ | refine blk_drew ?_ | refine blk_alloc ?_ _)); refine blk_put (cs := #[.int .i64 t204, .int .i64 t205, .int .i64 t206, .int .i64 t207, .int .i64 0, .int .i64 0]) ?_ 4 _ rfl; (with_reducible repeat (first | refine blk_drewN ?_ _ | refine blk_drew ?_ | refine blk_alloc ?_ _)); refine blk_put (cs := #[.int .i64 t204, .int .i64 t205, .int .i64 t206, .int .i64 0, .int .i64 0, .int .i64 0]) ?_ 3 _ rfl; (with_reducible repeat (first | refine blk_drewN ?_ _ | refine blk_drew ?_ | refine blk_alloc ?_ _)); refine blk_put (cs := #[.int .i64 t204, .int .i64 t205, .int .i64 0, .int .i64 0, .int .i64 0, .int .i64 0]) ?_ 2 _ rfl; (with_reducible repeat (first | refine blk_drewN ?_ _ | refine blk_drew ?_ | refine blk_alloc ?_ _)); refine blk_put (cs := #[.int .i64 t204, .int .i64 0, .int .i64 0, .int .i64 0, .int .i64 0, .int .i64 0]) ?_ 1 _ rfl; (with_reducible repeat (first | refine blk_drewN ?_ _ | refine blk_drew ?_ | refine blk_alloc ?_ _)); refine blk_put (cs := #[.int .i64 0, .int .i64 0, .int .i64 0, .int .i64 0, .int .i64 0, .int .i64 0]) ?_ 0 _ rfl; (with_reducible repeat (first | refine blk_drewN ?_ _ | refine blk_drew ?_ | refine blk_alloc ?_ _)); refine blk_far ?_ NB211_210.out _; (with_reducible repeat (first | refine blk_drewN ?_ _ | refine blk_drew ?_ | refine blk_alloc ?_ _)); refine blk_far ?_ NB211_210.out _; (with_reducible repeat (first | refine blk_drewN ?_ _ | refine blk_drew ?_ | refine blk_alloc ?_ _)); refine blk_far ?_ NB211_210.out _; (with_reducible repeat (first | refine blk_drewN ?_ _ | refine blk_drew ?_ | refine blk_alloc ?_ _)); refine blk_far ?_ NB211_210.out _; (with_reducible repeat (first | refine blk_drewN ?_ _ | refine blk_drew ?_ | refine blk_alloc ?_ _)); refine blk_far ?_ NB211_210.out _; (with_reducible repeat (first | refine blk_drewN ?_ _ | refine blk_drew ?_ | refine blk_alloc ?_ _)); refine blk_far ?_ NB211_210.out _; (with_reducible repeat (first | refine blk_drewN ?_ _ | refine blk_drew ?_ | refine blk_alloc ?_ _)); exact BK211.out) hb); have n4_ := Aside0.mk (below_step (by repeat (first | (with_reducible first | exact HB.out | apply below_alloc | apply pw_below_drewN | apply below_drew1 | refine below_set ?_ GE210.out | refine below_set ?_ GE211.out) | exact HB.out)) hb); clear HO_0; clear HO_1; clear BK210; clear BK211; clear HB; have HO_0 := n0_; have HO_1 := n1_; have BK210 := n2_; have BK211 := n3_; have HB := n4_; clear n0_ n1_ n2_ n3_ n4_; (try clear hb); (try clear hb2); (try clear hk); (try clear hi)))
           go_roundg k1
           case measure => have := HK1.out; omega
           case rel => first | (exact ⟨(t212), (wrap64 (x10_1 + 1)), (by first | rfl | (simp; done) | (simp [*]; done)), (by first | rfl | (simp; done) | (simp [*]; done)), H', ⟨by have := HK1.out; omega⟩, ⟨by (with_reducible repeat (first | apply Kd.V_alloc | apply Kd.V_drewN | apply Kd.V_drew)); exact Kd.V_mono HO_0.out (fun _ hk => hk.1.1)⟩, ⟨by (with_reducible repeat (first | apply Kd.V_alloc | apply Kd.V_drewN | apply Kd.V_drew)); exact Kd.V_mono HO_1.out (fun _ hk => hk.1.1)⟩, ⟨by repeat (first | (with_reducible first | exact HB.out | apply below_alloc | apply pw_below_drewN | apply below_drew1 | refine below_set ?_ GE210.out | refine below_set ?_ GE211.out) | exact HB.out)⟩⟩) | (exact ⟨(x9_1), (wrap64 (x10_1 + 1)), (by first | rfl | (simp; done) | (simp [*]; done)), (by first | rfl | (simp; done) | (simp [*]; done)), H', ⟨by have := HK1.out; omega⟩, ⟨by (with_reducible repeat (first | apply Kd.V_alloc | apply Kd.V_drewN | apply Kd.V_drew)); exact Kd.V_mono HO_0.out (fun _ hk => hk.1.1)⟩, ⟨by (with_reducible repeat (first | apply Kd.V_alloc | apply Kd.V_drewN | apply Kd.V_drew)); exact Kd.V_mono HO_1.out (fun _ hk => hk.1.1)⟩, ⟨by repeat (first | (with_reducible first | exact HB.out | apply below_alloc | apply pw_below_drewN | apply below_drew1 | refine below_set ?_ GE210.out | refine below_set ?_ GE211.out) | exact HB.out)⟩⟩)
         | clear hm4_1
           go_wp2
           go_ret2
           exact ⟨by first | rfl | (simp [errW_none, errW_some] <;> rfl) | (simp [*, errW_none, errW_some] <;> rfl), by repeat (first | (with_reducible first | exact HB.out | apply below_alloc | apply pw_below_drewN | apply below_drew1) | exact HB.out)⟩

/-! ### skywaykeep1_probeWorks: function 13 -/
def skywaykeep1_probeWorks.f (k : Nat)  : Option (Bool) := (skywaykeep1_node.f 0 0 0 0 1 0).bind fun bt213 => ((skywaykeep1_node.f 0 8 0 0 2 0).bind fun bt219 => ((probe_Separated.f k bt213.1 bt213.2.1 bt213.2.2.1 bt213.2.2.2.1 bt213.2.2.2.2.1 bt213.2.2.2.2.2 bt219.1 bt219.2.1 bt219.2.2.1 bt219.2.2.2.1 bt219.2.2.2.2.1 bt219.2.2.2.2.2 5 10).bind fun bt225 => ((skywaykeep1_node.f 0 0 0 0 1 0).bind fun bt227 => ((skywaykeep1_node.f 0 3 5 0 1 0).bind fun bt236 => ((probe_Margin.f k (([(⟨(⟨bt227.1, (⟨bt227.2.1, bt227.2.2.1⟩ : S56), bt227.2.2.2.1⟩ : S90), bt227.2.2.2.2.1, bt227.2.2.2.2.2⟩ : S102)] : List (S102))) (([(⟨(⟨bt236.1, (⟨bt236.2.1, bt236.2.2.1⟩ : S56), bt236.2.2.2.1⟩ : S90), bt236.2.2.2.2.1, bt236.2.2.2.2.2⟩ : S102)] : List (S102)))).bind fun bt245 => (if bt225.2 = 0 then (if bt225.1 = true then (if bt245.2 = 0 then (some (bt245.1 == 3)) else (some false)) else (some false)) else (some false)))))))
theorem skywaykeep1_probeWorks.mono : ∀ k, LeO (skywaykeep1_probeWorks.f k ) (skywaykeep1_probeWorks.f (k + 1) ) := by
  intro  k
  unfold skywaykeep1_probeWorks.f
  repeat' first
      | (with_reducible exact probe_Margin.mono _ _ _)
      | (with_reducible exact probe_Separated.mono _ _ _ _ _ _ _ _ _ _ _ _ _ _ _)
      | (with_reducible exact LeO.refl _)
      | (with_reducible exact LeO.none _)
      | (with_reducible refine LeO.ite ?_ ?_)
      | (with_reducible refine LeO.bind ?_ (fun _ => ?_))
      | exact probe_Margin.mono _ _ _
      | exact probe_Separated.mono _ _ _ _ _ _ _ _ _ _ _ _ _ _ _
      | exact LeO.none _
      | refine LeO.ite ?_ ?_
      | refine LeO.bind ?_ (fun _ => ?_)
set_option maxHeartbeats 8000000 in
set_option maxRecDepth 100000 in
theorem skywaykeep1_probeWorks.calls (k : Nat)  (r : Bool) (w : World) (h : skywaykeep1_probeWorks.f k  = some r) :
    Calls Try.prog 13 #[] w fun e w' => e = .returned (.bool r) ∧ Below w.heap.size w w' := by
 have hu25 := Try.underlying25
 have HB := Aside0.mk (Below.refl w.heap.size w)
 have H : ((skywaykeep1_node.f 0 0 0 0 1 0).bind fun bt213 => ((skywaykeep1_node.f 0 8 0 0 2 0).bind fun bt219 => ((probe_Separated.f k bt213.1 bt213.2.1 bt213.2.2.1 bt213.2.2.2.1 bt213.2.2.2.2.1 bt213.2.2.2.2.2 bt219.1 bt219.2.1 bt219.2.2.1 bt219.2.2.2.1 bt219.2.2.2.2.1 bt219.2.2.2.2.2 5 10).bind fun bt225 => ((skywaykeep1_node.f 0 0 0 0 1 0).bind fun bt227 => ((skywaykeep1_node.f 0 3 5 0 1 0).bind fun bt236 => ((probe_Margin.f k (([(⟨(⟨bt227.1, (⟨bt227.2.1, bt227.2.2.1⟩ : S56), bt227.2.2.2.1⟩ : S90), bt227.2.2.2.2.1, bt227.2.2.2.2.2⟩ : S102)] : List (S102))) (([(⟨(⟨bt236.1, (⟨bt236.2.1, bt236.2.2.1⟩ : S56), bt236.2.2.2.1⟩ : S90), bt236.2.2.2.2.1, bt236.2.2.2.2.2⟩ : S102)] : List (S102)))).bind fun bt245 => (if bt225.2 = 0 then (if bt225.1 = true then (if bt245.2 = 0 then (some (bt245.1 == 3)) else (some false)) else (some false)) else (some false)))))))) = some r := h
 clear h
 replace H := Option.bind_eq_some_iff.mp H
 obtain ⟨⟨t213, t214, t215, t216, t217, t218⟩, A10, H⟩ := H
 replace H : ((skywaykeep1_node.f 0 8 0 0 2 0).bind fun bt219 => ((probe_Separated.f k t213 t214 t215 t216 t217 t218 bt219.1 bt219.2.1 bt219.2.2.1 bt219.2.2.2.1 bt219.2.2.2.2.1 bt219.2.2.2.2.2 5 10).bind fun bt225 => ((skywaykeep1_node.f 0 0 0 0 1 0).bind fun bt227 => ((skywaykeep1_node.f 0 3 5 0 1 0).bind fun bt236 => ((probe_Margin.f k (([(⟨(⟨bt227.1, (⟨bt227.2.1, bt227.2.2.1⟩ : S56), bt227.2.2.2.1⟩ : S90), bt227.2.2.2.2.1, bt227.2.2.2.2.2⟩ : S102)] : List (S102))) (([(⟨(⟨bt236.1, (⟨bt236.2.1, bt236.2.2.1⟩ : S56), bt236.2.2.2.1⟩ : S90), bt236.2.2.2.2.1, bt236.2.2.2.2.2⟩ : S102)] : List (S102)))).bind fun bt245 => (if bt225.2 = 0 then (if bt225.1 = true then (if bt245.2 = 0 then (some (bt245.1 == 3)) else (some false)) else (some false)) else (some false))))))) = some r := H
 have A1 := Aside0.mk A10
 clear A10
 replace H := Option.bind_eq_some_iff.mp H
 obtain ⟨⟨t219, t220, t221, t222, t223, t224⟩, A20, H⟩ := H
 replace H : ((probe_Separated.f k t213 t214 t215 t216 t217 t218 t219 t220 t221 t222 t223 t224 5 10).bind fun bt225 => ((skywaykeep1_node.f 0 0 0 0 1 0).bind fun bt227 => ((skywaykeep1_node.f 0 3 5 0 1 0).bind fun bt236 => ((probe_Margin.f k (([(⟨(⟨bt227.1, (⟨bt227.2.1, bt227.2.2.1⟩ : S56), bt227.2.2.2.1⟩ : S90), bt227.2.2.2.2.1, bt227.2.2.2.2.2⟩ : S102)] : List (S102))) (([(⟨(⟨bt236.1, (⟨bt236.2.1, bt236.2.2.1⟩ : S56), bt236.2.2.2.1⟩ : S90), bt236.2.2.2.2.1, bt236.2.2.2.2.2⟩ : S102)] : List (S102)))).bind fun bt245 => (if bt225.2 = 0 then (if bt225.1 = true then (if bt245.2 = 0 then (some (bt245.1 == 3)) else (some false)) else (some false)) else (some false)))))) = some r := H
 have A2 := Aside0.mk A20
 clear A20
 replace H := Option.bind_eq_some_iff.mp H
 obtain ⟨⟨t225, t226⟩, A30, H⟩ := H
 replace H : ((skywaykeep1_node.f 0 0 0 0 1 0).bind fun bt227 => ((skywaykeep1_node.f 0 3 5 0 1 0).bind fun bt236 => ((probe_Margin.f k (([(⟨(⟨bt227.1, (⟨bt227.2.1, bt227.2.2.1⟩ : S56), bt227.2.2.2.1⟩ : S90), bt227.2.2.2.2.1, bt227.2.2.2.2.2⟩ : S102)] : List (S102))) (([(⟨(⟨bt236.1, (⟨bt236.2.1, bt236.2.2.1⟩ : S56), bt236.2.2.2.1⟩ : S90), bt236.2.2.2.2.1, bt236.2.2.2.2.2⟩ : S102)] : List (S102)))).bind fun bt245 => (if t226 = 0 then (if t225 = true then (if bt245.2 = 0 then (some (bt245.1 == 3)) else (some false)) else (some false)) else (some false))))) = some r := H
 have A3 := Aside0.mk A30
 clear A30
 replace H := Option.bind_eq_some_iff.mp H
 obtain ⟨⟨t227, t228, t229, t230, t231, t232⟩, A40, H⟩ := H
 replace H : ((skywaykeep1_node.f 0 3 5 0 1 0).bind fun bt236 => ((probe_Margin.f k (([(⟨(⟨t227, (⟨t228, t229⟩ : S56), t230⟩ : S90), t231, t232⟩ : S102)] : List (S102))) (([(⟨(⟨bt236.1, (⟨bt236.2.1, bt236.2.2.1⟩ : S56), bt236.2.2.2.1⟩ : S90), bt236.2.2.2.2.1, bt236.2.2.2.2.2⟩ : S102)] : List (S102)))).bind fun bt245 => (if t226 = 0 then (if t225 = true then (if bt245.2 = 0 then (some (bt245.1 == 3)) else (some false)) else (some false)) else (some false)))) = some r := H
 have A4 := Aside0.mk A40
 clear A40
 obtain ⟨y233, hy233⟩ : ∃ y_ : List (S102), y_ = (([(⟨(⟨t227, (⟨t228, t229⟩ : S56), t230⟩ : S90), t231, t232⟩ : S102)] : List (S102))) := ⟨_, rfl⟩
 replace H : ((skywaykeep1_node.f 0 3 5 0 1 0).bind fun bt236 => ((probe_Margin.f k y233 (([(⟨(⟨bt236.1, (⟨bt236.2.1, bt236.2.2.1⟩ : S56), bt236.2.2.2.1⟩ : S90), bt236.2.2.2.2.1, bt236.2.2.2.2.2⟩ : S102)] : List (S102)))).bind fun bt245 => (if t226 = 0 then (if t225 = true then (if bt245.2 = 0 then (some (bt245.1 == 3)) else (some false)) else (some false)) else (some false)))) = some r := by first | (rw [hy233]; with_reducible exact H) | (have H2_ := (Option.bind_some _ _).symm.trans H; rw [hy233]; with_reducible exact H2_) | (have H2_ := (Option.bind_some _ _).symm.trans H; with_reducible exact H2_) | with_reducible exact H | (rw [hy233]; exact H) | exact H
 have Ny233 := Aside0.mk hy233
 clear hy233
 replace H := Option.bind_eq_some_iff.mp H
 obtain ⟨⟨t236, t237, t238, t239, t240, t241⟩, A50, H⟩ := H
 replace H : ((probe_Margin.f k y233 (([(⟨(⟨t236, (⟨t237, t238⟩ : S56), t239⟩ : S90), t240, t241⟩ : S102)] : List (S102)))).bind fun bt245 => (if t226 = 0 then (if t225 = true then (if bt245.2 = 0 then (some (bt245.1 == 3)) else (some false)) else (some false)) else (some false))) = some r := H
 have A5 := Aside0.mk A50
 clear A50
 obtain ⟨y242, hy242⟩ : ∃ y_ : List (S102), y_ = (([(⟨(⟨t236, (⟨t237, t238⟩ : S56), t239⟩ : S90), t240, t241⟩ : S102)] : List (S102))) := ⟨_, rfl⟩
 replace H : ((probe_Margin.f k y233 y242).bind fun bt245 => (if t226 = 0 then (if t225 = true then (if bt245.2 = 0 then (some (bt245.1 == 3)) else (some false)) else (some false)) else (some false))) = some r := by first | (rw [hy242]; with_reducible exact H) | (have H2_ := (Option.bind_some _ _).symm.trans H; rw [hy242]; with_reducible exact H2_) | (have H2_ := (Option.bind_some _ _).symm.trans H; with_reducible exact H2_) | with_reducible exact H | (rw [hy242]; exact H) | exact H
 have Ny242 := Aside0.mk hy242
 clear hy242
 replace H := Option.bind_eq_some_iff.mp H
 obtain ⟨⟨t245, t246⟩, A60, H⟩ := H
 replace H : (if t226 = 0 then (if t225 = true then (if t246 = 0 then (some (t245 == 3)) else (some false)) else (some false)) else (some false)) = some r := H
 have A6 := Aside0.mk A60
 clear A60
 refine Or.elim (Classical.em (t226 = 0)) (fun c7 => ?p2_) (fun c7 => ?n2_)
 case' p2_ =>
  rw [if_pos c7] at H
  have c7b0 : (t226 == 0) = true := beq_iff_eq.mpr c7
  have c7b1 : (t226 != 0) = false := bne_eq_false_iff_eq.mpr c7
  clear c7
  refine Or.elim (Classical.em (t225 = true)) (fun c8 => ?p3_) (fun c8 => ?n3_)
  case' p3_ =>
   subst c8
   have H1 : (if t246 = 0 then (some (t245 == 3)) else (some false)) = some r := by rw [if_pos rfl] at H; exact H
   clear H
   have H := H1
   clear H1
   refine Or.elim (Classical.em (t246 = 0)) (fun c9 => ?p4_) (fun c9 => ?n4_)
   case' p4_ =>
    rw [if_pos c9] at H
    have c9b0 : (t246 == 0) = true := beq_iff_eq.mpr c9
    have c9b1 : (t246 != 0) = false := bne_eq_false_iff_eq.mpr c9
    clear c9
   case' n4_ =>
    rw [if_neg c9] at H
    have c9b0 : (t246 == 0) = false := beq_eq_false_iff_ne.mpr c9
    have c9b1 : (t246 != 0) = true := bne_iff_ne.mpr c9
  case' n3_ =>
   replace c8 := Bool.eq_false_iff.mpr c8
   subst c8
   have H1 : (some false) = some r := by rw [if_neg (show ¬ (false = true) by decide)] at H; exact H
   clear H
   have H := H1
   clear H1
 case' n2_ =>
  rw [if_neg c7] at H
  have c7b0 : (t226 == 0) = false := beq_eq_false_iff_ne.mpr c7
  have c7b1 : (t226 != 0) = true := bne_iff_ne.mpr c7
 all_goals
  obtain rfl := Option.some.inj H
  go_enter Try.func13, Try.ntmps13
  go_wp2_with (first | ((with_reducible refine gate_callee (f := 39) rfl ?_); refine goesL_ (some 6) rfl rfl Try.func39 (by kernel_rfl) rfl #[.int .i64 0, .int .i64 0, .int .i64 0, .int .i64 0, .int .i64 1, .int .i64 0] rfl (by (try simp only [List.map_toArray, List.map_cons, List.map_nil]); first | done | rfl | (simp only [List.length_drop, List.length_take]; rfl)) ?_; (with_reducible refine (skywaykeep1_node.calls 0 0 0 0 1 0 t213 t214 t215 t216 t217 t218 _ A1.out).mono ?_); rintro e wxd5101 ⟨rfl, hb⟩; refine ⟨_, rfl, ?_⟩; have n0_ := Aside0.mk (below_step (by repeat (first | (with_reducible first | exact HB.out | apply below_alloc | apply pw_below_drewN | apply below_drew1) | exact HB.out)) hb); clear HB; have HB := n0_; clear n0_; (try clear hb); (try clear hb2); (try clear hk); (try clear hi)) | ((with_reducible refine gate_callee (f := 39) rfl ?_); refine goesL_ (some 7) rfl rfl Try.func39 (by kernel_rfl) rfl #[.int .i64 0, .int .i64 8, .int .i64 0, .int .i64 0, .int .i64 2, .int .i64 0] rfl (by (try simp only [List.map_toArray, List.map_cons, List.map_nil]); first | done | rfl | (simp only [List.length_drop, List.length_take]; rfl)) ?_; (with_reducible refine (skywaykeep1_node.calls 0 8 0 0 2 0 t219 t220 t221 t222 t223 t224 _ A2.out).mono ?_); rintro e wx81761 ⟨rfl, hb⟩; refine ⟨_, rfl, ?_⟩; have n0_ := Aside0.mk (below_step (by repeat (first | (with_reducible first | exact HB.out | apply below_alloc | apply pw_below_drewN | apply below_drew1) | exact HB.out)) hb); clear HB; have HB := n0_; clear n0_; (try clear hb); (try clear hb2); (try clear hk); (try clear hi)) | ((with_reducible refine gate_callee (f := 38) rfl ?_); refine goesL_ (some 9) rfl rfl Try.func38 (by kernel_rfl) rfl #[.agg #[.int .i64 t213, .int .i64 t214, .int .i64 t215, .int .i64 t216, .int .i64 t217, .int .i64 t218], .agg #[.int .i64 t219, .int .i64 t220, .int .i64 t221, .int .i64 t222, .int .i64 t223, .int .i64 t224], .agg #[.int .i64 5, .int .i64 10]] rfl (by (try simp only [List.map_toArray, List.map_cons, List.map_nil]); first | done | rfl | (simp only [List.length_drop, List.length_take]; rfl)) ?_; (with_reducible refine (probe_Separated.calls k t213 t214 t215 t216 t217 t218 t219 t220 t221 t222 t223 t224 5 10 false t226 _ A3.out).mono ?_); rintro e wx954d1 ⟨rfl, hb⟩; refine ⟨_, rfl, ?_⟩; have n0_ := Aside0.mk (below_step (by repeat (first | (with_reducible first | exact HB.out | apply below_alloc | apply pw_below_drewN | apply below_drew1) | exact HB.out)) hb); clear HB; have HB := n0_; clear n0_; (try clear hb); (try clear hb2); (try clear hk); (try clear hi)) | ((with_reducible refine gate_callee (f := 38) rfl ?_); refine goesL_ (some 9) rfl rfl Try.func38 (by kernel_rfl) rfl #[.agg #[.int .i64 t213, .int .i64 t214, .int .i64 t215, .int .i64 t216, .int .i64 t217, .int .i64 t218], .agg #[.int .i64 t219, .int .i64 t220, .int .i64 t221, .int .i64 t222, .int .i64 t223, .int .i64 t224], .agg #[.int .i64 5, .int .i64 10]] rfl (by (try simp only [List.map_toArray, List.map_cons, List.map_nil]); first | done | rfl | (simp only [List.length_drop, List.length_take]; rfl)) ?_; (with_reducible refine (probe_Separated.calls k t213 t214 t215 t216 t217 t218 t219 t220 t221 t222 t223 t224 5 10 true t226 _ A3.out).mono ?_); rintro e wx44fc1 ⟨rfl, hb⟩; refine ⟨_, rfl, ?_⟩; have n0_ := Aside0.mk (below_step (by repeat (first | (with_reducible first | exact HB.out | apply below_alloc | apply pw_below_drewN | apply below_drew1) | exact HB.out)) hb); clear HB; have HB := n0_; clear n0_; (try clear hb); (try clear hb2); (try clear hk); (try clear hi)) | ((with_reducible refine gate_callee (f := 38) rfl ?_); refine goesL_ (some 9) rfl rfl Try.func38 (by kernel_rfl) rfl #[.agg #[.int .i64 t213, .int .i64 t214, .int .i64 t215, .int .i64 t216, .int .i64 t217, .int .i64 t218], .agg #[.int .i64 t219, .int .i64 t220, .int .i64 t221, .int .i64 t222, .int .i64 t223, .int .i64 t224], .agg #[.int .i64 5, .int .i64 10]] rfl (by (try simp only [List.map_toArray, List.map_cons, List.map_nil]); first | done | rfl | (simp only [List.length_drop, List.length_take]; rfl)) ?_; (with_reducible refine (probe_Separated.calls k t213 t214 t215 t216 t217 t218 t219 t220 t221 t222 t223 t224 5 10 t225 t226 _ A3.out).mono ?_); rintro e wx84251 ⟨rfl, hb⟩; refine ⟨_, rfl, ?_⟩; have n0_ := Aside0.mk (below_step (by repeat (first | (with_reducible first | exact HB.out | apply below_alloc | apply pw_below_drewN | apply below_drew1) | exact HB.out)) hb); clear HB; have HB := n0_; clear n0_; (try clear hb); (try clear hb2); (try clear hk); (try clear hi)) | ((with_reducible refine gate_callee (f := 39) rfl ?_); refine goesL_ (some 13) rfl rfl Try.func39 (by kernel_rfl) rfl #[.int .i64 0, .int .i64 0, .int .i64 0, .int .i64 0, .int .i64 1, .int .i64 0] rfl (by (try simp only [List.map_toArray, List.map_cons, List.map_nil]); first | done | rfl | (simp only [List.length_drop, List.length_take]; rfl)) ?_; (with_reducible refine (skywaykeep1_node.calls 0 0 0 0 1 0 t227 t228 t229 t230 t231 t232 _ A4.out).mono ?_); rintro e wx4a3b1 ⟨rfl, hb⟩; refine ⟨_, rfl, ?_⟩; have n0_ := Aside0.mk (below_step (by repeat (first | (with_reducible first | exact HB.out | apply below_alloc | apply pw_below_drewN | apply below_drew1) | exact HB.out)) hb); clear HB; have HB := n0_; clear n0_; (try clear hb); (try clear hb2); (try clear hk); (try clear hi)) | ((with_reducible refine gate_dst (N := 14) rfl ?_); refine Kd.R_lit k102 _ 102 ?hg (N := 14) ?hd (xs := ([(⟨(⟨t227, (⟨t228, t229⟩ : S56), t230⟩ : S90), t231, t232⟩ : S102)] : List (S102))) (inner := [.int .i64 t227, .int .i64 t228, .int .i64 t229, .int .i64 t230, .int .i64 t231, .int .i64 t232]) (ok := fun _ => True) (okp := fun _ => True) ?hr ?hp (fun _ hk => hk) trivial (Below.refl _ _) (Nat.le_refl _) (by simp) ?_; (case hd => rfl); (case hg => rfl); (case hr => first | (go_simp; done) | (go_simp; rfl)); (case hp => exact (Reps.c6 (show Kd.M k102 _ _ _ (⟨(⟨t227, (⟨t228, t229⟩ : S56), t230⟩ : S90), t231, t232⟩ : S102) [.int .i64 t227, .int .i64 t228, .int .i64 t229, .int .i64 t230, .int .i64 t231, .int .i64 t232] from (k102_mkM _ _ _ (⟨(⟨t227, (⟨t228, t229⟩ : S56), t230⟩ : S90), t231, t232⟩ : S102) )) (Reps.none _ _))); intro v234 wx37ba1 hox37ba1 hb hg_ hnew_; clear hg_ hnew_; (first | rw [← Ny233.out] at hox37ba1 | (simp only [Int.reduceToNat] at hox37ba1; rw [← Ny233.out] at hox37ba1)); have n0_ := Aside0.mk (Kd.R_lower hox37ba1 (below_size (by repeat (first | (with_reducible first | exact HB.out | apply below_alloc | apply pw_below_drewN | apply below_drew1) | exact HB.out)))); have n1_ := Aside0.mk (below_step (by repeat (first | (with_reducible first | exact HB.out | apply below_alloc | apply pw_below_drewN | apply below_drew1) | exact HB.out)) hb); clear HB; have HO235 := n0_; have HB := n1_; clear n0_ n1_; clear hb hox37ba1) | ((with_reducible refine gate_callee (f := 39) rfl ?_); refine goesL_ (some 15) rfl rfl Try.func39 (by kernel_rfl) rfl #[.int .i64 0, .int .i64 3, .int .i64 5, .int .i64 0, .int .i64 1, .int .i64 0] rfl (by (try simp only [List.map_toArray, List.map_cons, List.map_nil]); first | done | rfl | (simp only [List.length_drop, List.length_take]; rfl)) ?_; (with_reducible refine (skywaykeep1_node.calls 0 3 5 0 1 0 t236 t237 t238 t239 t240 t241 _ A5.out).mono ?_); rintro e wx491a1 ⟨rfl, hb⟩; refine ⟨_, rfl, ?_⟩; have n0_ := Aside0.mk (Kd.R_below (by (with_reducible repeat (first | apply Kd.R_alloc | apply Kd.R_drewN | apply Kd.R_drew)); exact HO235.out) hb); have n1_ := Aside0.mk (below_step (by repeat (first | (with_reducible first | exact HB.out | apply below_alloc | apply pw_below_drewN | apply below_drew1) | exact HB.out)) hb); clear HO235; clear HB; have HO235 := n0_; have HB := n1_; clear n0_ n1_; (try clear hb); (try clear hb2); (try clear hk); (try clear hi)) | ((with_reducible refine gate_dst (N := 16) rfl ?_); refine Kd.R_lit k102 _ 102 ?hg (N := 16) ?hd (xs := ([(⟨(⟨t236, (⟨t237, t238⟩ : S56), t239⟩ : S90), t240, t241⟩ : S102)] : List (S102))) (inner := [.int .i64 t236, .int .i64 t237, .int .i64 t238, .int .i64 t239, .int .i64 t240, .int .i64 t241]) (ok := fun _ => True) (okp := fun _ => True) ?hr ?hp (fun _ hk => hk) trivial (Below.refl _ _) (Nat.le_refl _) (by simp) ?_; (case hd => rfl); (case hg => rfl); (case hr => first | (go_simp; done) | (go_simp; rfl)); (case hp => exact (Reps.c6 (show Kd.M k102 _ _ _ (⟨(⟨t236, (⟨t237, t238⟩ : S56), t239⟩ : S90), t240, t241⟩ : S102) [.int .i64 t236, .int .i64 t237, .int .i64 t238, .int .i64 t239, .int .i64 t240, .int .i64 t241] from (k102_mkM _ _ _ (⟨(⟨t236, (⟨t237, t238⟩ : S56), t239⟩ : S90), t240, t241⟩ : S102) )) (Reps.none _ _))); intro v243 wxe9451 hoxe9451 hb hg_ hnew_; clear hg_ hnew_; (first | rw [← Ny242.out] at hoxe9451 | (simp only [Int.reduceToNat] at hoxe9451; rw [← Ny242.out] at hoxe9451)); have n0_ := Aside0.mk (Kd.R_elder' (by (with_reducible repeat (first | apply Kd.R_alloc | apply Kd.R_drewN | apply Kd.R_drew)); exact HO235.out) (Kd.R_base hoxe9451) hb); have n1_ := Aside0.mk (Kd.R_lower (Kd.R_new' hoxe9451 (Kd.R_lt (by (with_reducible repeat (first | apply Kd.R_alloc | apply Kd.R_drewN | apply Kd.R_drew)); exact HO235.out))) (below_size (by repeat (first | (with_reducible first | exact HB.out | apply below_alloc | apply pw_below_drewN | apply below_drew1) | exact HB.out)))); have n2_ := Aside0.mk (below_step (by repeat (first | (with_reducible first | exact HB.out | apply below_alloc | apply pw_below_drewN | apply below_drew1) | exact HB.out)) hb); clear HO235; clear HB; have HO235 := n0_; have HO244 := n1_; have HB := n2_; clear n0_ n1_ n2_; clear hb hoxe9451; obtain ⟨Aoxe9451, coxe9451, eoxe9451⟩ := Kd.R_slice HO235.out; subst eoxe9451; obtain ⟨Aoxe9452, coxe9452, eoxe9452⟩ := Kd.R_slice HO244.out; subst eoxe9452) | ((with_reducible refine gate_callee (f := 40) rfl ?_); refine goesL_ (some 17) rfl rfl Try.func40 (by kernel_rfl) rfl #[.slice Aoxe9451 y233.length coxe9451, .slice Aoxe9452 y242.length coxe9452] rfl (by (try simp only [List.map_toArray, List.map_cons, List.map_nil]); first | done | rfl | (simp only [List.length_drop, List.length_take]; rfl)) ?_; (with_reducible refine (probe_Margin.calls k (fun k_ => some k_ = (.slice Aoxe9451 y233.length coxe9451 : Value).ownBlock) _ _ y233 (fun k_ => some k_ = (.slice Aoxe9452 y242.length coxe9452 : Value).ownBlock) _ _ y242 t245 t246 _ ?side1 ?side2 A6.out).mono ?_); (case side1 => exact Kd.R_V (Kd.R_tight rfl (HO235.out))); (case side2 => exact Kd.R_V (Kd.R_tight rfl (HO244.out))); rintro e wxaddf1 ⟨rfl, hb⟩; refine ⟨_, rfl, ?_⟩; have n0_ := Aside0.mk (Kd.R_below (by (with_reducible repeat (first | apply Kd.R_alloc | apply Kd.R_drewN | apply Kd.R_drew)); exact HO235.out) hb); have n1_ := Aside0.mk (Kd.R_below (by (with_reducible repeat (first | apply Kd.R_alloc | apply Kd.R_drewN | apply Kd.R_drew)); exact HO244.out) hb); have n2_ := Aside0.mk (below_step (by repeat (first | (with_reducible first | exact HB.out | apply below_alloc | apply pw_below_drewN | apply below_drew1) | exact HB.out)) hb); clear HO235; clear HO244; clear HB; have HO235 := n0_; have HO244 := n1_; have HB := n2_; clear n0_ n1_ n2_; (try clear hb); (try clear hb2); (try clear hk); (try clear hi)))
  go_ret
  exact ⟨by first | rfl | (simp [errW_none, errW_some] <;> rfl) | (simp [*, errW_none, errW_some] <;> rfl), by repeat (first | (with_reducible first | exact HB.out | apply below_alloc | apply pw_below_drewN | apply below_drew1) | exact HB.out)⟩

/-! ### skywaykeep1_long: function 14 -/
def skywaykeep1_long.l0 : Nat → List (List (S102)) → Int → Int → Option (Bool)
  | 0, _, _, _ => none
  | k + 1, x5, x6, x7 => if x7 < x6 then (if 0 ≤ x7 then (if x7 < (x5.length : Int) then (if ((rd_L4 x5 x7).length : Int) > 12 then (some true) else (if ((rd_L4 x5 x7).length : Int) > 0 then (if 0 ≤ (wrap64 (((rd_L4 x5 x7).length : Int) - 1)) then (if (wrap64 (((rd_L4 x5 x7).length : Int) - 1)) < ((rd_L4 x5 x7).length : Int) then (if 0 < ((rd_L4 x5 x7).length : Int) then (if (wrap64 (((rd_T102 (rd_L4 x5 x7) (wrap64 (((rd_L4 x5 x7).length : Int) - 1))).f0.f0) - ((rd_T102 (rd_L4 x5 x7) 0).f0.f0))) > 1500 then (some true) else (skywaykeep1_long.l0 k x5 x6 (wrap64 (x7 + 1)))) else (none)) else (none)) else (none)) else (skywaykeep1_long.l0 k x5 x6 (wrap64 (x7 + 1))))) else (none)) else (none)) else (some false)
def skywaykeep1_long.f (k : Nat) (l0 : List (List (S102))) : Option (Bool) := skywaykeep1_long.l0 k l0 (l0.length : Int) 0
theorem skywaykeep1_long.mono_l : ∀ k, (∀ y0 y1 y2, LeO (skywaykeep1_long.l0 k y0 y1 y2) (skywaykeep1_long.l0 (k + 1) y0 y1 y2))
  | 0 => fun _ _ _ r h => by simp [skywaykeep1_long.l0] at h
  | k + 1 => by
    have ih0 := skywaykeep1_long.mono_l k
    · intro y0 y1 y2
      unfold skywaykeep1_long.l0
      repeat' first
      | (with_reducible exact ih0 _ _ _)
      | (with_reducible exact LeO.refl _)
      | (with_reducible exact LeO.none _)
      | (with_reducible refine LeO.ite ?_ ?_)
      | (with_reducible refine LeO.bind ?_ (fun _ => ?_))
      | exact ih0 _ _ _
      | exact LeO.none _
      | refine LeO.ite ?_ ?_
      | refine LeO.bind ?_ (fun _ => ?_)
theorem skywaykeep1_long.mono : ∀ a0 k, LeO (skywaykeep1_long.f k a0) (skywaykeep1_long.f (k + 1) a0) := by
  intro a0 k
  have ih0 := skywaykeep1_long.mono_l k
  unfold skywaykeep1_long.f
  repeat' first
      | (with_reducible exact ih0 _ _ _)
      | (with_reducible exact LeO.refl _)
      | (with_reducible exact LeO.none _)
      | (with_reducible refine LeO.ite ?_ ?_)
      | (with_reducible refine LeO.bind ?_ (fun _ => ?_))
      | exact ih0 _ _ _
      | exact LeO.none _
      | refine LeO.ite ?_ ?_
      | refine LeO.bind ?_ (fun _ => ?_)
set_option maxHeartbeats 8000000 in
set_option maxRecDepth 100000 in
theorem skywaykeep1_long.calls (k : Nat) (A0 : Option Addr) (c0 : Nat) (l0 : List (List (S102))) (r : Bool) (w : World) (hr0 : Kd.C (Kd.slice 102 k102) w A0 l0.length l0) (hc0 : l0.length ≤ c0) (h : skywaykeep1_long.f k l0 = some r) :
    Calls Try.prog 14 #[.slice A0 l0.length c0] w fun e w' => e = .returned (.bool r) ∧ Below w.heap.size w w' := by
 have HR0 := Aside0.mk hr0
 have HC0 := Aside0.mk hc0
 clear hr0 hc0
 have HB := Aside0.mk (Below.refl w.heap.size w)
 have H : (skywaykeep1_long.l0 k l0 (l0.length : Int) 0) = some r := h
 clear h
 have H' := Aside0.mk H
 clear H
 go_enter Try.func14, Try.ntmps14
 go_wp2
 repeat (go_quiet (fail); try go_wp2)
 go_loopg [7] k (fun kq v7 w' => ∃ (x7_1 : Int), v7 = .int .i64 x7_1 ∧ Aside0 (skywaykeep1_long.l0 kq l0 (l0.length : Int) x7_1 = some r) ∧ Aside0 (kq ≤ k) ∧ Aside0 (Below w.heap.size w w'))
 case atStart => exact ⟨(0), (by first | rfl | (simp; done) | (simp [*]; done)), H', ⟨Nat.le_refl _⟩, ⟨by repeat (first | (with_reducible first | exact HB.out | apply below_alloc | apply pw_below_drewN | apply below_drew1) | exact HB.out)⟩⟩
 case round =>
  clear H'
  (try clear c1); (try clear p1)
  obtain ⟨x7_1, rfl, HA, HK1, HB⟩ := hrel
  cases gk with
  | zero => exact absurd HA.out (by simp [skywaykeep1_long.l0])
  | succ k1 =>
   have H := HA.out
   clear HA
   simp only [skywaykeep1_long.l0] at H
   refine Or.elim (Classical.em (x7_1 < (l0.length : Int))) (fun c2 => ?p2_) (fun c2 => ?n2_)
   case' p2_ =>
    rw [if_pos c2] at H
    have c2b0 : decide (x7_1 < (l0.length : Int)) = true := decide_eq_true c2
    clear c2
    refine Or.elim (Classical.em (0 ≤ x7_1)) (fun c3 => ?p3_) (fun c3 => ?n3_)
    case' p3_ =>
     rw [if_pos c3] at H
     have c3b0 : decide (0 ≤ x7_1) = true := decide_eq_true c3
     clear c3
     refine Or.elim (Classical.em (x7_1 < (l0.length : Int))) (fun c4 => ?p4_) (fun c4 => ?n4_)
     case' p4_ =>
      rw [if_pos c4] at H
      have c4b0 : decide (x7_1 < (l0.length : Int)) = true := decide_eq_true c4
      clear c4
      refine Or.elim (Classical.em (((rd_L4 l0 x7_1).length : Int) > 12)) (fun c5 => ?p5_) (fun c5 => ?n5_)
      case' p5_ =>
       rw [if_pos c5] at H
       have c5b0 : decide (12 < ((rd_L4 l0 x7_1).length : Int)) = true := decide_eq_true c5
       have c5b1 : decide (12 < (rd_L4 l0 x7_1).length) = true := decide_eq_true (by omega)
       clear c5
       have hm1_0 := Aside0.mk trivial
      case' n5_ =>
       rw [if_neg c5] at H
       have c5b0 : decide (12 < ((rd_L4 l0 x7_1).length : Int)) = false := decide_eq_false c5
       have c5b1 : decide (12 < (rd_L4 l0 x7_1).length) = false := decide_eq_false (by omega)
       clear c5
       refine Or.elim (Classical.em (((rd_L4 l0 x7_1).length : Int) > 0)) (fun c6 => ?p6_) (fun c6 => ?n6_)
       case' p6_ =>
        rw [if_pos c6] at H
        have c6b0 : decide (0 < ((rd_L4 l0 x7_1).length : Int)) = true := decide_eq_true c6
        have c6b1 : decide (0 < (rd_L4 l0 x7_1).length) = true := decide_eq_true (by omega)
        clear c6
        obtain ⟨ji7, hji7⟩ : ∃ j_ : Int, (wrap64 (((rd_L4 l0 x7_1).length : Int) - 1)) = j_ := ⟨_, rfl⟩
        replace H : (if 0 ≤ (ji7) then (if (ji7) < ((rd_L4 l0 x7_1).length : Int) then (if 0 < ((rd_L4 l0 x7_1).length : Int) then (if (wrap64 (((rd_T102 (rd_L4 l0 x7_1) (ji7)).f0.f0) - ((rd_T102 (rd_L4 l0 x7_1) 0).f0.f0))) > 1500 then (some true) else (skywaykeep1_long.l0 k1 l0 (l0.length : Int) (wrap64 (x7_1 + 1)))) else (none)) else (none)) else (none)) = some r := by first | (rw [hji7] at H; exact H) | (simp only [hji7] at H ⊢; exact H)
        have hji7w : (IntKind.i64.wrap (((rd_L4 l0 x7_1).length : Int) - 1)) = ji7 := (i64_w _).trans hji7
        refine Or.elim (Classical.em (0 ≤ (ji7))) (fun c8 => ?p7_) (fun c8 => ?n7_)
        case' p7_ =>
         rw [if_pos c8] at H
         have c8b0 : decide (0 ≤ (ji7)) = true := decide_eq_true c8
         clear c8
         refine Or.elim (Classical.em ((ji7) < ((rd_L4 l0 x7_1).length : Int))) (fun c9 => ?p8_) (fun c9 => ?n8_)
         case' p8_ =>
          rw [if_pos c9] at H
          have c9b0 : decide ((ji7) < ((rd_L4 l0 x7_1).length : Int)) = true := decide_eq_true c9
          clear c9
          refine Or.elim (Classical.em (0 < ((rd_L4 l0 x7_1).length : Int))) (fun c10 => ?p9_) (fun c10 => ?n9_)
          case' p9_ =>
           rw [if_pos c10] at H
           have c10b0 : decide (0 < ((rd_L4 l0 x7_1).length : Int)) = true := decide_eq_true c10
           have c10b1 : decide (0 < (rd_L4 l0 x7_1).length) = true := decide_eq_true (by omega)
           clear c10
           refine Or.elim (Classical.em ((wrap64 (((rd_T102 (rd_L4 l0 x7_1) (ji7)).f0.f0) - ((rd_T102 (rd_L4 l0 x7_1) 0).f0.f0))) > 1500)) (fun c11 => ?p10_) (fun c11 => ?n10_)
           case' p10_ =>
            rw [if_pos c11] at H
            have c11b0 : decide (1500 < (wrap64 (((rd_T102 (rd_L4 l0 x7_1) (ji7)).f0.f0) - ((rd_T102 (rd_L4 l0 x7_1) 0).f0.f0)))) = true := decide_eq_true c11
            clear c11
            have hm1_1 := Aside0.mk trivial
           case' n10_ =>
            rw [if_neg c11] at H
            have c11b0 : decide (1500 < (wrap64 (((rd_T102 (rd_L4 l0 x7_1) (ji7)).f0.f0) - ((rd_T102 (rd_L4 l0 x7_1) 0).f0.f0)))) = false := decide_eq_false c11
            clear c11
            have hm1_2 := Aside0.mk trivial
          case' n9_ =>
           rw [if_neg c10] at H
           exact absurd H (by simp)
         case' n8_ =>
          rw [if_neg c9] at H
          exact absurd H (by simp)
        case' n7_ =>
         rw [if_neg c8] at H
         exact absurd H (by simp)
       case' n6_ =>
        rw [if_neg c6] at H
        have c6b0 : decide (0 < ((rd_L4 l0 x7_1).length : Int)) = false := decide_eq_false c6
        have c6b1 : decide (0 < (rd_L4 l0 x7_1).length) = false := decide_eq_false (by omega)
        clear c6
        have hm1_3 := Aside0.mk trivial
     case' n4_ =>
      rw [if_neg c4] at H
      exact absurd H (by simp)
    case' n3_ =>
     rw [if_neg c3] at H
     exact absurd H (by simp)
   case' n2_ =>
    rw [if_neg c2] at H
    have c2b0 : decide (x7_1 < (l0.length : Int)) = false := decide_eq_false c2
    clear c2
    have hm1_4 := Aside0.mk trivial
   all_goals
    first
     | (first | (have _hm := hm1_0) | (have _hm := hm1_1) | (have _hm := hm1_4))
       obtain rfl := Option.some.inj H
       first
        | (first | (have _hm := hm1_0) | (have _hm := hm1_1))
          have p247 : 0 ≤ (x7_1 : Int) := of_decide_eq_true (by first | (with_reducible assumption) | assumption)
          have q247 : x7_1 < (l0.length : Int) := of_decide_eq_true (by first | (with_reducible assumption) | assumption)
          obtain ⟨ad247, A247_0, c247_0, e247, hx247_0, hl247_0, hi247_0⟩ := at_L4 HR0.out x7_1 p247 q247
          cases e247
          replace hx247_0 := (HB.out.cell (World.block_lt_of_cell? w _ hx247_0)).trans hx247_0
          have HR247_0 := Aside0.mk hi247_0
          have HC247_0 := Aside0.mk hl247_0
          clear hi247_0 hl247_0
          replace p247 := eq_true p247
          replace q247 := eq_true q247
          first
           | clear hm1_0
             go_wp2
             repeat (go_quiet (fail); try go_wp2)
             go_ret
             exact ⟨by first | rfl | (simp [errW_none, errW_some] <;> rfl) | (simp [*, errW_none, errW_some] <;> rfl), by repeat (first | (with_reducible first | exact HB.out | apply below_alloc | apply pw_below_drewN | apply below_drew1) | exact HB.out)⟩
           | clear hm1_1
             have p248 : 0 ≤ ((ji7) : Int) := of_decide_eq_true (by first | (with_reducible assumption) | assumption)
             have q248 : (ji7) < ((rd_L4 l0 x7_1).length : Int) := of_decide_eq_true (by first | (with_reducible assumption) | assumption)
             obtain ⟨ad248, e248, hx248_0, hx248_1, hx248_2, hx248_3, hx248_4, hx248_5⟩ := at_T102 HR247_0.out (ji7) p248 q248
             cases e248
             replace hx248_0 := (HB.out.cell (World.block_lt_of_cell? w _ hx248_0)).trans hx248_0
             replace hx248_1 := (HB.out.cell (World.block_lt_of_cell? w _ hx248_1)).trans hx248_1
             replace hx248_2 := (HB.out.cell (World.block_lt_of_cell? w _ hx248_2)).trans hx248_2
             replace hx248_3 := (HB.out.cell (World.block_lt_of_cell? w _ hx248_3)).trans hx248_3
             replace hx248_4 := (HB.out.cell (World.block_lt_of_cell? w _ hx248_4)).trans hx248_4
             replace hx248_5 := (HB.out.cell (World.block_lt_of_cell? w _ hx248_5)).trans hx248_5
             replace p248 := eq_true p248
             replace q248 := eq_true q248
             have p249 : 0 ≤ (0 : Int) := (by omega)
             have q249 : 0 < ((rd_L4 l0 x7_1).length : Int) := of_decide_eq_true (by first | (with_reducible assumption) | assumption)
             obtain ⟨ad249, e249, hx249_0, hx249_1, hx249_2, hx249_3, hx249_4, hx249_5⟩ := at_T102 HR247_0.out 0 p249 q249
             obtain rfl : ad248 = ad249 := (by injection e249)
             have qi249 : (0 < (rd_L4 l0 x7_1).length) = True := eq_true (by omega)
             (try rw [show ((0 : Int)).toNat = 0 from rfl] at hx249_0)
             (try rw [show 0 * 6 = 0 from rfl] at hx249_0)
             (try rw [Addr.add_zero'] at hx249_0)
             (try rw [show ((0 : Int)).toNat = 0 from rfl] at hx249_1)
             (try rw [show 0 * 6 = 0 from rfl] at hx249_1)
             (try rw [Addr.add_zero'] at hx249_1)
             (try rw [show ((0 : Int)).toNat = 0 from rfl] at hx249_2)
             (try rw [show 0 * 6 = 0 from rfl] at hx249_2)
             (try rw [Addr.add_zero'] at hx249_2)
             (try rw [show ((0 : Int)).toNat = 0 from rfl] at hx249_3)
             (try rw [show 0 * 6 = 0 from rfl] at hx249_3)
             (try rw [Addr.add_zero'] at hx249_3)
             (try rw [show ((0 : Int)).toNat = 0 from rfl] at hx249_4)
             (try rw [show 0 * 6 = 0 from rfl] at hx249_4)
             (try rw [Addr.add_zero'] at hx249_4)
             (try rw [show ((0 : Int)).toNat = 0 from rfl] at hx249_5)
             (try rw [show 0 * 6 = 0 from rfl] at hx249_5)
             (try rw [Addr.add_zero'] at hx249_5)
             replace hx249_0 := (HB.out.cell (World.block_lt_of_cell? w _ hx249_0)).trans hx249_0
             replace hx249_1 := (HB.out.cell (World.block_lt_of_cell? w _ hx249_1)).trans hx249_1
             replace hx249_2 := (HB.out.cell (World.block_lt_of_cell? w _ hx249_2)).trans hx249_2
             replace hx249_3 := (HB.out.cell (World.block_lt_of_cell? w _ hx249_3)).trans hx249_3
             replace hx249_4 := (HB.out.cell (World.block_lt_of_cell? w _ hx249_4)).trans hx249_4
             replace hx249_5 := (HB.out.cell (World.block_lt_of_cell? w _ hx249_5)).trans hx249_5
             replace p249 := eq_true p249
             replace q249 := eq_true q249
             go_wp2
             repeat (go_quiet (fail); try go_wp2)
             go_ret
             exact ⟨by first | rfl | (simp [errW_none, errW_some] <;> rfl) | (simp only [← hji7]; first | rfl | (simp [errW_none, errW_some] <;> rfl)) | (simp [*, errW_none, errW_some] <;> rfl), by repeat (first | (with_reducible first | exact HB.out | apply below_alloc | apply pw_below_drewN | apply below_drew1) | exact HB.out)⟩
        | clear hm1_4
          go_wp2
          repeat (go_quiet (fail); try go_wp2)
          go_ret
          exact ⟨by first | rfl | (simp [errW_none, errW_some] <;> rfl) | (simp [*, errW_none, errW_some] <;> rfl), by repeat (first | (with_reducible first | exact HB.out | apply below_alloc | apply pw_below_drewN | apply below_drew1) | exact HB.out)⟩
     | (first | (have _hm := hm1_2) | (have _hm := hm1_3))
       have H' := Aside0.mk H
       clear H
       have p247 : 0 ≤ (x7_1 : Int) := of_decide_eq_true (by first | (with_reducible assumption) | assumption)
       have q247 : x7_1 < (l0.length : Int) := of_decide_eq_true (by first | (with_reducible assumption) | assumption)
       obtain ⟨ad247, A247_0, c247_0, e247, hx247_0, hl247_0, hi247_0⟩ := at_L4 HR0.out x7_1 p247 q247
       cases e247
       replace hx247_0 := (HB.out.cell (World.block_lt_of_cell? w _ hx247_0)).trans hx247_0
       have HR247_0 := Aside0.mk hi247_0
       have HC247_0 := Aside0.mk hl247_0
       clear hi247_0 hl247_0
       replace p247 := eq_true p247
       replace q247 := eq_true q247
       first
        | clear hm1_2
          have p248 : 0 ≤ ((ji7) : Int) := of_decide_eq_true (by first | (with_reducible assumption) | assumption)
          have q248 : (ji7) < ((rd_L4 l0 x7_1).length : Int) := of_decide_eq_true (by first | (with_reducible assumption) | assumption)
          obtain ⟨ad248, e248, hx248_0, hx248_1, hx248_2, hx248_3, hx248_4, hx248_5⟩ := at_T102 HR247_0.out (ji7) p248 q248
          cases e248
          replace hx248_0 := (HB.out.cell (World.block_lt_of_cell? w _ hx248_0)).trans hx248_0
          replace hx248_1 := (HB.out.cell (World.block_lt_of_cell? w _ hx248_1)).trans hx248_1
          replace hx248_2 := (HB.out.cell (World.block_lt_of_cell? w _ hx248_2)).trans hx248_2
          replace hx248_3 := (HB.out.cell (World.block_lt_of_cell? w _ hx248_3)).trans hx248_3
          replace hx248_4 := (HB.out.cell (World.block_lt_of_cell? w _ hx248_4)).trans hx248_4
          replace hx248_5 := (HB.out.cell (World.block_lt_of_cell? w _ hx248_5)).trans hx248_5
          replace p248 := eq_true p248
          replace q248 := eq_true q248
          have p249 : 0 ≤ (0 : Int) := (by omega)
          have q249 : 0 < ((rd_L4 l0 x7_1).length : Int) := of_decide_eq_true (by first | (with_reducible assumption) | assumption)
          obtain ⟨ad249, e249, hx249_0, hx249_1, hx249_2, hx249_3, hx249_4, hx249_5⟩ := at_T102 HR247_0.out 0 p249 q249
          obtain rfl : ad248 = ad249 := (by injection e249)
          have qi249 : (0 < (rd_L4 l0 x7_1).length) = True := eq_true (by omega)
          (try rw [show ((0 : Int)).toNat = 0 from rfl] at hx249_0)
          (try rw [show 0 * 6 = 0 from rfl] at hx249_0)
          (try rw [Addr.add_zero'] at hx249_0)
          (try rw [show ((0 : Int)).toNat = 0 from rfl] at hx249_1)
          (try rw [show 0 * 6 = 0 from rfl] at hx249_1)
          (try rw [Addr.add_zero'] at hx249_1)
          (try rw [show ((0 : Int)).toNat = 0 from rfl] at hx249_2)
          (try rw [show 0 * 6 = 0 from rfl] at hx249_2)
          (try rw [Addr.add_zero'] at hx249_2)
          (try rw [show ((0 : Int)).toNat = 0 from rfl] at hx249_3)
          (try rw [show 0 * 6 = 0 from rfl] at hx249_3)
          (try rw [Addr.add_zero'] at hx249_3)
          (try rw [show ((0 : Int)).toNat = 0 from rfl] at hx249_4)
          (try rw [show 0 * 6 = 0 from rfl] at hx249_4)
          (try rw [Addr.add_zero'] at hx249_4)
          (try rw [show ((0 : Int)).toNat = 0 from rfl] at hx249_5)
          (try rw [show 0 * 6 = 0 from rfl] at hx249_5)
          (try rw [Addr.add_zero'] at hx249_5)
          replace hx249_0 := (HB.out.cell (World.block_lt_of_cell? w _ hx249_0)).trans hx249_0
          replace hx249_1 := (HB.out.cell (World.block_lt_of_cell? w _ hx249_1)).trans hx249_1
          replace hx249_2 := (HB.out.cell (World.block_lt_of_cell? w _ hx249_2)).trans hx249_2
          replace hx249_3 := (HB.out.cell (World.block_lt_of_cell? w _ hx249_3)).trans hx249_3
          replace hx249_4 := (HB.out.cell (World.block_lt_of_cell? w _ hx249_4)).trans hx249_4
          replace hx249_5 := (HB.out.cell (World.block_lt_of_cell? w _ hx249_5)).trans hx249_5
          replace p249 := eq_true p249
          replace q249 := eq_true q249
          go_wp2
          repeat (go_quiet (fail); try go_wp2)
          first | go_roundg k1 | (subst hji7; go_roundg k1)
          case measure => have := HK1.out; omega
          case rel => exact ⟨(wrap64 (x7_1 + 1)), (by first | rfl | (simp; done) | (simp [*]; done)), H', ⟨by have := HK1.out; omega⟩, ⟨by repeat (first | (with_reducible first | exact HB.out | apply below_alloc | apply pw_below_drewN | apply below_drew1) | exact HB.out)⟩⟩
        | clear hm1_3
          go_wp2
          repeat (go_quiet (fail); try go_wp2)
          go_roundg k1
          case measure => have := HK1.out; omega
          case rel => exact ⟨(wrap64 (x7_1 + 1)), (by first | rfl | (simp; done) | (simp [*]; done)), H', ⟨by have := HK1.out; omega⟩, ⟨by repeat (first | (with_reducible first | exact HB.out | apply below_alloc | apply pw_below_drewN | apply below_drew1) | exact HB.out)⟩⟩

end Go.Proofs.Yteaddpieonkboac.PProbeWider
