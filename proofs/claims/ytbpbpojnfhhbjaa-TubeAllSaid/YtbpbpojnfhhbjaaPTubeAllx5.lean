/- Made by a program of this session (wip/tools/myprint.py, over the kit's printer): that the Go functions answer as the Lean functions printed beside them. -/
import Derived.Test.YtbpbpojnfhhbjaaPTubeAllx0
import Derived.Test.YtbpbpojnfhhbjaaPTubeAllx2
import Derived.Test.YtbpbpojnfhhbjaaPTubeAllx4
namespace Go.Proofs.Ytbpbpojnfhhbjaa.PTubeAll
open Go.RowKit Go.Proofs.YtbpbpojnfhhbjaaW.PrintWords Go.Proofs.YtbpbpojnfhhbjaaW.PrintLast Go.Proofs.YtbpbpojnfhhbjaaW.PrintMore
attribute [local go_sem] max2_int min2_int max_two min_two max_three min_three max_four min_four   -- for this text's walks alone
set_option linter.unusedVariables false
set_option linter.unusedSimpArgs false

/-! ### tube_At: function 38 -/
def tube_At.f (k : Nat) (l0 : List (S88)) (a1 : Int) : Option (Int × Int × Int × Int × Int × Int × Int) := (tube_Check.f k l0).bind fun t137 => (if t137 = 0 then ((tube_at.f k l0 a1).bind fun bt138 => (some (bt138.1, bt138.2.1, bt138.2.2.1, bt138.2.2.2.1, bt138.2.2.2.2.1, bt138.2.2.2.2.2.1, bt138.2.2.2.2.2.2))) else (some (0, 0, 0, 0, 0, 0, t137)))
theorem tube_At.mono : ∀ a0 a1 k, LeO (tube_At.f k a0 a1) (tube_At.f (k + 1) a0 a1) := by
  intro a0 a1 k
  unfold tube_At.f
  repeat' first
      | (with_reducible exact tube_Check.mono _ _)
      | (with_reducible exact tube_at.mono _ _ _)
      | (with_reducible exact LeO.refl _)
      | (with_reducible exact LeO.none _)
      | (with_reducible refine LeO.ite ?_ ?_)
      | (with_reducible refine LeO.bind ?_ (fun _ => ?_))
      | exact tube_Check.mono _ _
      | exact tube_at.mono _ _ _
      | exact LeO.none _
      | refine LeO.ite ?_ ?_
      | refine LeO.bind ?_ (fun _ => ?_)
set_option maxHeartbeats 8000000 in
set_option maxRecDepth 100000 in
theorem tube_At.calls (k : Nat) (A0 : Option Addr) (c0 : Nat) (l0 : List (S88)) (a1 : Int) (r1 : Int) (r2 : Int) (r3 : Int) (r4 : Int) (r5 : Int) (r6 : Int) (r7 : Int) (w : World) (hr0 : Kd.C k88 w A0 l0.length l0) (hc0 : l0.length ≤ c0) (h : tube_At.f k l0 a1 = some (r1, r2, r3, r4, r5, r6, r7)) :
    Calls Try.prog 38 #[.slice A0 l0.length c0, .int .i64 a1] w fun e w' => e = .returned (.tuple #[.agg #[.int .i64 r1, .int .i64 r2, .int .i64 r3, .int .i64 r4, .int .i64 r5, .int .i64 r6], .int .i64 r7]) ∧ Below w.heap.size w w' := by
 have hu88 := Try.underlying88
 have HR0 := Aside0.mk hr0
 have HC0 := Aside0.mk hc0
 clear hr0 hc0
 have HB := Aside0.mk (Below.refl w.heap.size w)
 have H : ((tube_Check.f k l0).bind fun t137 => (if t137 = 0 then ((tube_at.f k l0 a1).bind fun bt138 => (some (bt138.1, bt138.2.1, bt138.2.2.1, bt138.2.2.2.1, bt138.2.2.2.2.1, bt138.2.2.2.2.2.1, bt138.2.2.2.2.2.2))) else (some (0, 0, 0, 0, 0, 0, t137)))) = some (r1, r2, r3, r4, r5, r6, r7) := h
 clear h
 replace H := Option.bind_eq_some_iff.mp H
 obtain ⟨t137, A30, H⟩ := H
 replace H : (if t137 = 0 then ((tube_at.f k l0 a1).bind fun bt138 => (some (bt138.1, bt138.2.1, bt138.2.2.1, bt138.2.2.2.1, bt138.2.2.2.2.1, bt138.2.2.2.2.2.1, bt138.2.2.2.2.2.2))) else (some (0, 0, 0, 0, 0, 0, t137))) = some (r1, r2, r3, r4, r5, r6, r7) := H
 have A3 := Aside0.mk A30
 clear A30
 refine Or.elim (Classical.em (t137 = 0)) (fun c4 => ?p2_) (fun c4 => ?n2_)
 case' p2_ =>
  rw [if_pos c4] at H
  have c4b0 : (t137 == 0) = true := beq_iff_eq.mpr c4
  have c4b1 : (t137 != 0) = false := bne_eq_false_iff_eq.mpr c4
  clear c4
  replace H := Option.bind_eq_some_iff.mp H
  obtain ⟨⟨t138, t139, t140, t141, t142, t143, t144⟩, A50, H⟩ := H
  replace H : (some (t138, t139, t140, t141, t142, t143, t144)) = some (r1, r2, r3, r4, r5, r6, r7) := H
  have A5 := Aside0.mk A50
  clear A50
  simp only [Option.some.injEq, Prod.mk.injEq] at H
  obtain ⟨rfl, rfl, rfl, rfl, rfl, rfl, rfl⟩ := H
  have hm1_0 := Aside0.mk trivial
 case' n2_ =>
  rw [if_neg c4] at H
  have c4b0 : (t137 == 0) = false := beq_eq_false_iff_ne.mpr c4
  have c4b1 : (t137 != 0) = true := bne_iff_ne.mpr c4
  simp only [Option.some.injEq, Prod.mk.injEq] at H
  obtain ⟨rfl, rfl, rfl, rfl, rfl, rfl, rfl⟩ := H
  have hm1_1 := Aside0.mk trivial
 all_goals
  go_enter Try.func38, Try.ntmps38
  go_wp2_with (first | ((with_reducible refine gate_dst (N := 4) rfl ?_); refine box_event ?hg (N := 4) ?hd (cs := #[.int .i64 0, .int .i64 0, .int .i64 0, .int .i64 0, .int .i64 0, .int .i64 0]) (t := 88) ?hr ?_; (case hd => rfl); (case hg => rfl); (case hr => first | (go_simp; done) | (go_simp; rfl)); intro gb136 hg wx02111 hbox hb; have n0_ := Aside0.mk (below_step (by repeat (first | (with_reducible first | exact HB.out | apply below_alloc | apply pw_below_drewN | apply below_drew1) | exact HB.out)) hb); have n1_ := Aside0.mk (hbox); have n2_ := Aside0.mk ((by rw [hg]; exact (below_size (by repeat (first | (with_reducible first | exact HB.out | apply below_alloc | apply pw_below_drewN | apply below_drew1) | exact HB.out))) : w.heap.size ≤ gb136)); have n3_ := Aside0.mk ((by rw [hg]; exact (below_size (by repeat (first | (with_reducible first | exact HB.out | apply below_alloc | apply pw_below_drewN | apply below_drew1) | exact HB.out))) : w.heap.size ≤ gb136)); clear HB; have HB := n0_; have BK136 := n1_; have GW136 := n2_; have GE136 := n3_; clear n0_ n1_ n2_ n3_; clear hb hbox hg) | ((with_reducible refine gate_callee (f := 39) rfl ?_); refine goesL_ (some 8) rfl rfl Try.func39 (by kernel_rfl) rfl #[.slice A0 l0.length c0] rfl (by (try simp only [List.map_toArray, List.map_cons, List.map_nil]); first | done | rfl | (simp only [List.length_drop, List.length_take]; rfl)) ?_; (with_reducible refine (tube_Check.calls k _ _ l0 t137 _ ?side1 ?side2 A3.out).mono ?_); (case side1 => repeat (first | exact (Kd.C_below HR0.out HB.out) | (with_reducible refine Kd.C_alloc ?_ _) | (with_reducible refine Kd.C_drewN ?_ _) | (with_reducible refine Kd.C_drew ?_))); (case side2 => exact HC0.out); rintro e wxff641 ⟨rfl, hb⟩; refine ⟨_, rfl, ?_⟩; have n0_ := Aside0.mk (blk_below (g := gb136) (o := .cells #[.int .i64 0, .int .i64 0, .int .i64 0, .int .i64 0, .int .i64 0, .int .i64 0] 88 (0, 0)) (by (with_reducible repeat (first | refine blk_drewN ?_ _ | refine blk_drew ?_ | refine blk_alloc ?_ _)); exact BK136.out) hb); have n1_ := Aside0.mk (below_step (by repeat (first | (with_reducible first | exact HB.out | apply below_alloc | apply pw_below_drewN | apply below_drew1 | refine below_set ?_ GE136.out) | exact HB.out)) hb); clear BK136; clear HB; have BK136 := n0_; have HB := n1_; clear n0_ n1_; (try clear hb); (try clear hb2); (try clear hk); (try clear hi); have hczxff641 : wxff641.cell? ⟨gb136, 0, none⟩ = some (.int .i64 0) := (blk_cell BK136.out 0).trans rfl; have hczxff642 : wxff641.cell? ⟨gb136, 1, none⟩ = some (.int .i64 0) := (blk_cell BK136.out 1).trans rfl; have hczxff643 : wxff641.cell? ⟨gb136, 2, none⟩ = some (.int .i64 0) := (blk_cell BK136.out 2).trans rfl; have hczxff644 : wxff641.cell? ⟨gb136, 3, none⟩ = some (.int .i64 0) := (blk_cell BK136.out 3).trans rfl; have hczxff645 : wxff641.cell? ⟨gb136, 4, none⟩ = some (.int .i64 0) := (blk_cell BK136.out 4).trans rfl; have hczxff646 : wxff641.cell? ⟨gb136, 5, none⟩ = some (.int .i64 0) := (blk_cell BK136.out 5).trans rfl; have hfzxff641 := blk_frozen BK136.out 0; have hfzxff642 := blk_frozen BK136.out 1; have hfzxff643 := blk_frozen BK136.out 2; have hfzxff644 := blk_frozen BK136.out 3; have hfzxff645 := blk_frozen BK136.out 4; have hfzxff646 := blk_frozen BK136.out 5) | ((with_reducible refine gate_callee (f := 39) rfl ?_); refine goesL_ (some 8) rfl rfl Try.func39 (by kernel_rfl) rfl #[.slice A0 l0.length c0] rfl (by (try simp only [List.map_toArray, List.map_cons, List.map_nil]); first | done | rfl | (simp only [List.length_drop, List.length_take]; rfl)) ?_; (with_reducible refine (tube_Check.calls k _ _ l0 t137 _ ?side1 ?side2 A3.out).mono ?_); (case side1 => repeat (first | exact (Kd.C_below HR0.out HB.out) | (with_reducible refine Kd.C_alloc ?_ _) | (with_reducible refine Kd.C_drewN ?_ _) | (with_reducible refine Kd.C_drew ?_))); (case side2 => exact HC0.out); rintro e wx26ce1 ⟨rfl, hb⟩; refine ⟨_, rfl, ?_⟩; have n0_ := Aside0.mk (blk_below (g := gb136) (o := .cells #[.int .i64 0, .int .i64 0, .int .i64 0, .int .i64 0, .int .i64 0, .int .i64 0] 88 (0, 0)) (by (with_reducible repeat (first | refine blk_drewN ?_ _ | refine blk_drew ?_ | refine blk_alloc ?_ _)); exact BK136.out) hb); have n1_ := Aside0.mk (below_step (by repeat (first | (with_reducible first | exact HB.out | apply below_alloc | apply pw_below_drewN | apply below_drew1 | refine below_set ?_ GE136.out) | exact HB.out)) hb); clear BK136; clear HB; have BK136 := n0_; have HB := n1_; clear n0_ n1_; (try clear hb); (try clear hb2); (try clear hk); (try clear hi)) | ((with_reducible refine gate_callee (f := 86) rfl ?_); refine goesL_ (some 15) rfl rfl Try.func86 (by kernel_rfl) rfl #[.slice A0 l0.length c0, .int .i64 a1] rfl (by (try simp only [List.map_toArray, List.map_cons, List.map_nil]); first | done | rfl | (simp only [List.length_drop, List.length_take]; rfl)) ?_; (with_reducible refine (tube_at.calls k _ _ l0 a1 t138 t139 t140 t141 t142 t143 t144 _ ?side1 ?side2 A5.out).mono ?_); (case side1 => repeat (first | exact (Kd.C_below HR0.out HB.out) | (with_reducible refine Kd.C_alloc ?_ _) | (with_reducible refine Kd.C_drewN ?_ _) | (with_reducible refine Kd.C_drew ?_))); (case side2 => exact HC0.out); rintro e wx33341 ⟨rfl, hb⟩; refine ⟨_, rfl, ?_⟩; have n0_ := Aside0.mk (blk_below (g := gb136) (o := .cells #[.int .i64 0, .int .i64 0, .int .i64 0, .int .i64 0, .int .i64 0, .int .i64 0] 88 (0, 0)) (by (with_reducible repeat (first | refine blk_drewN ?_ _ | refine blk_drew ?_ | refine blk_alloc ?_ _)); exact BK136.out) hb); have n1_ := Aside0.mk (below_step (by repeat (first | (with_reducible first | exact HB.out | apply below_alloc | apply pw_below_drewN | apply below_drew1 | refine below_set ?_ GE136.out) | exact HB.out)) hb); clear BK136; clear HB; have BK136 := n0_; have HB := n1_; clear n0_ n1_; (try clear hb); (try clear hb2); (try clear hk); (try clear hi); have hczx33341 : wx33341.cell? ⟨gb136, 0, none⟩ = some (.int .i64 0) := (blk_cell BK136.out 0).trans rfl; have hczx33342 : wx33341.cell? ⟨gb136, 1, none⟩ = some (.int .i64 0) := (blk_cell BK136.out 1).trans rfl; have hczx33343 : wx33341.cell? ⟨gb136, 2, none⟩ = some (.int .i64 0) := (blk_cell BK136.out 2).trans rfl; have hczx33344 : wx33341.cell? ⟨gb136, 3, none⟩ = some (.int .i64 0) := (blk_cell BK136.out 3).trans rfl; have hczx33345 : wx33341.cell? ⟨gb136, 4, none⟩ = some (.int .i64 0) := (blk_cell BK136.out 4).trans rfl; have hczx33346 : wx33341.cell? ⟨gb136, 5, none⟩ = some (.int .i64 0) := (blk_cell BK136.out 5).trans rfl; have hfzx33341 := blk_frozen BK136.out 0; have hfzx33342 := blk_frozen BK136.out 1; have hfzx33343 := blk_frozen BK136.out 2; have hfzx33344 := blk_frozen BK136.out 3; have hfzx33345 := blk_frozen BK136.out 4; have hfzx33346 := blk_frozen BK136.out 5))
  first
   | clear hm1_0
     refine bodyPost_ret (results_ct rfl _ _ gb136 88 #[.int .i64 t138, .int .i64 t139, .int .i64 t140, .int .i64 t141, .int .i64 t142, .int .i64 t143] (0, 0) _ rfl (by (with_reducible repeat (first | refine blk_drewN ?_ _ | refine blk_drew ?_ | refine blk_alloc ?_ _)); refine blk_put (cs := #[.int .i64 t138, .int .i64 t139, .int .i64 t140, .int .i64 t141, .int .i64 t142, .int .i64 0]) ?_ 5 _ rfl; (with_reducible repeat (first | refine blk_drewN ?_ _ | refine blk_drew ?_ | refine blk_alloc ?_ _)); refine blk_put (cs := #[.int .i64 t138, .int .i64 t139, .int .i64 t140, .int .i64 t141, .int .i64 0, .int .i64 0]) ?_ 4 _ rfl; (with_reducible repeat (first | refine blk_drewN ?_ _ | refine blk_drew ?_ | refine blk_alloc ?_ _)); refine blk_put (cs := #[.int .i64 t138, .int .i64 t139, .int .i64 t140, .int .i64 0, .int .i64 0, .int .i64 0]) ?_ 3 _ rfl; (with_reducible repeat (first | refine blk_drewN ?_ _ | refine blk_drew ?_ | refine blk_alloc ?_ _)); refine blk_put (cs := #[.int .i64 t138, .int .i64 t139, .int .i64 0, .int .i64 0, .int .i64 0, .int .i64 0]) ?_ 2 _ rfl; (with_reducible repeat (first | refine blk_drewN ?_ _ | refine blk_drew ?_ | refine blk_alloc ?_ _)); refine blk_put (cs := #[.int .i64 t138, .int .i64 0, .int .i64 0, .int .i64 0, .int .i64 0, .int .i64 0]) ?_ 1 _ rfl; (with_reducible repeat (first | refine blk_drewN ?_ _ | refine blk_drew ?_ | refine blk_alloc ?_ _)); refine blk_put (cs := #[.int .i64 0, .int .i64 0, .int .i64 0, .int .i64 0, .int .i64 0, .int .i64 0]) ?_ 0 _ rfl; (with_reducible repeat (first | refine blk_drewN ?_ _ | refine blk_drew ?_ | refine blk_alloc ?_ _)); exact BK136.out) Try.underlying88 rfl (by kernel_rfl)) rfl ?_
     exact ⟨by first | rfl | (simp [errW_none, errW_some] <;> rfl) | (simp [*, errW_none, errW_some] <;> rfl), by repeat (first | (with_reducible first | exact HB.out | apply below_alloc | apply pw_below_drewN | apply below_drew1 | refine below_set ?_ GE136.out) | exact HB.out)⟩
   | clear hm1_1
     refine bodyPost_ret (results_ct rfl _ _ gb136 88 #[.int .i64 0, .int .i64 0, .int .i64 0, .int .i64 0, .int .i64 0, .int .i64 0] (0, 0) _ rfl (by (with_reducible repeat (first | refine blk_drewN ?_ _ | refine blk_drew ?_ | refine blk_alloc ?_ _)); refine blk_put (cs := #[.int .i64 0, .int .i64 0, .int .i64 0, .int .i64 0, .int .i64 0, .int .i64 0]) ?_ 5 _ rfl; (with_reducible repeat (first | refine blk_drewN ?_ _ | refine blk_drew ?_ | refine blk_alloc ?_ _)); refine blk_put (cs := #[.int .i64 0, .int .i64 0, .int .i64 0, .int .i64 0, .int .i64 0, .int .i64 0]) ?_ 4 _ rfl; (with_reducible repeat (first | refine blk_drewN ?_ _ | refine blk_drew ?_ | refine blk_alloc ?_ _)); refine blk_put (cs := #[.int .i64 0, .int .i64 0, .int .i64 0, .int .i64 0, .int .i64 0, .int .i64 0]) ?_ 3 _ rfl; (with_reducible repeat (first | refine blk_drewN ?_ _ | refine blk_drew ?_ | refine blk_alloc ?_ _)); refine blk_put (cs := #[.int .i64 0, .int .i64 0, .int .i64 0, .int .i64 0, .int .i64 0, .int .i64 0]) ?_ 2 _ rfl; (with_reducible repeat (first | refine blk_drewN ?_ _ | refine blk_drew ?_ | refine blk_alloc ?_ _)); refine blk_put (cs := #[.int .i64 0, .int .i64 0, .int .i64 0, .int .i64 0, .int .i64 0, .int .i64 0]) ?_ 1 _ rfl; (with_reducible repeat (first | refine blk_drewN ?_ _ | refine blk_drew ?_ | refine blk_alloc ?_ _)); refine blk_put (cs := #[.int .i64 0, .int .i64 0, .int .i64 0, .int .i64 0, .int .i64 0, .int .i64 0]) ?_ 0 _ rfl; (with_reducible repeat (first | refine blk_drewN ?_ _ | refine blk_drew ?_ | refine blk_alloc ?_ _)); exact BK136.out) Try.underlying88 rfl (by kernel_rfl)) rfl ?_
     exact ⟨by first | rfl | (simp [errW_none, errW_some] <;> rfl) | (simp [*, errW_none, errW_some] <;> rfl), by repeat (first | (with_reducible first | exact HB.out | apply below_alloc | apply pw_below_drewN | apply below_drew1 | refine below_set ?_ GE136.out) | exact HB.out)⟩

/-! ### plane_Sub: function 58 -/
def plane_Sub.f (a0_0 : Int) (a0_1 : Int) (a1_0 : Int) (a1_1 : Int) : Option (Int × Int) := some (wrap64 (a0_0 - a1_0), wrap64 (a0_1 - a1_1))
set_option maxHeartbeats 8000000 in
set_option maxRecDepth 100000 in
theorem plane_Sub.calls (a0_0 : Int) (a0_1 : Int) (a1_0 : Int) (a1_1 : Int) (r1 : Int) (r2 : Int) (w : World) (h : plane_Sub.f a0_0 a0_1 a1_0 a1_1 = some (r1, r2)) :
    Calls Try.prog 58 #[.agg #[.int .i64 a0_0, .int .i64 a0_1], .agg #[.int .i64 a1_0, .int .i64 a1_1]] w fun e w' => e = .returned (.agg #[.int .i64 r1, .int .i64 r2]) ∧ Below w.heap.size w w' := by
 have hu36 := Try.underlying36
 have HB := Aside0.mk (Below.refl w.heap.size w)
 have H : (some (wrap64 (a0_0 - a1_0), wrap64 (a0_1 - a1_1))) = some (r1, r2) := h
 clear h
 simp only [Option.some.injEq, Prod.mk.injEq] at H
 obtain ⟨rfl, rfl⟩ := H
 go_enter Try.func58, Try.ntmps58
 go_wp2_with (first | ((with_reducible refine gate_dst (N := 2) rfl ?_); refine box_event ?hg (N := 2) ?hd (cs := #[.int .i64 a0_0, .int .i64 a0_1]) (t := 36) ?hr ?_; (case hd => rfl); (case hg => rfl); (case hr => first | (go_simp; done) | (go_simp; rfl)); intro gb145 hg w3 hbox hb; have n0_ := Aside0.mk (below_step (by repeat (first | (with_reducible first | exact HB.out | apply below_alloc | apply pw_below_drewN | apply below_drew1) | exact HB.out)) hb); have n1_ := Aside0.mk (hbox); have n2_ := Aside0.mk ((by rw [hg]; exact (below_size (by repeat (first | (with_reducible first | exact HB.out | apply below_alloc | apply pw_below_drewN | apply below_drew1) | exact HB.out))) : w.heap.size ≤ gb145)); have n3_ := Aside0.mk ((by rw [hg]; exact (below_size (by repeat (first | (with_reducible first | exact HB.out | apply below_alloc | apply pw_below_drewN | apply below_drew1) | exact HB.out))) : w.heap.size ≤ gb145)); clear HB; have HB := n0_; have BK145 := n1_; have GW145 := n2_; have GE145 := n3_; clear n0_ n1_ n2_ n3_; clear hb hbox hg) | ((with_reducible refine gate_dst (N := 3) rfl ?_); refine box_event ?hg (N := 3) ?hd (cs := #[.int .i64 a1_0, .int .i64 a1_1]) (t := 36) ?hr ?_; (case hd => rfl); (case hg => rfl); (case hr => first | (go_simp; done) | (go_simp; rfl)); intro gb146 hg w4 hbox hb; have n0_ := Aside0.mk (blk_below (g := gb145) (o := .cells #[.int .i64 a0_0, .int .i64 a0_1] 36 (0, 0)) (by (with_reducible repeat (first | refine blk_drewN ?_ _ | refine blk_drew ?_ | refine blk_alloc ?_ _)); exact BK145.out) hb); have n1_ := Aside0.mk (below_step (by repeat (first | (with_reducible first | exact HB.out | apply below_alloc | apply pw_below_drewN | apply below_drew1 | refine below_set ?_ GE145.out) | exact HB.out)) hb); have n2_ := Aside0.mk (hbox); have n3_ := Aside0.mk ((by rw [hg]; exact (below_size (by repeat (first | (with_reducible first | exact HB.out | apply below_alloc | apply pw_below_drewN | apply below_drew1 | refine below_set ?_ GE145.out) | exact HB.out))) : w.heap.size ≤ gb146)); have n4_ := Aside0.mk ((by rw [hg]; exact (below_size (by repeat (first | (with_reducible first | exact HB.out | apply below_alloc | apply pw_below_drewN | apply below_drew1 | refine below_set ?_ GE145.out) | exact HB.out))) : w.heap.size ≤ gb146)); have n5_ := Aside0.mk ((by rw [hg]; exact Nat.ne_of_lt (blk_lt (g := gb145) (o := .cells #[.int .i64 a0_0, .int .i64 a0_1] 36 (0, 0)) (by (with_reducible repeat (first | refine blk_drewN ?_ _ | refine blk_drew ?_ | refine blk_alloc ?_ _)); exact BK145.out)) : gb145 ≠ gb146)); have n6_ := Aside0.mk ((by rw [hg]; exact Nat.ne_of_gt (blk_lt (g := gb145) (o := .cells #[.int .i64 a0_0, .int .i64 a0_1] 36 (0, 0)) (by (with_reducible repeat (first | refine blk_drewN ?_ _ | refine blk_drew ?_ | refine blk_alloc ?_ _)); exact BK145.out)) : gb146 ≠ gb145)); clear BK145; clear HB; have BK145 := n0_; have HB := n1_; have BK146 := n2_; have GW146 := n3_; have GE146 := n4_; have NB145_146 := n5_; have NB146_145 := n6_; clear n0_ n1_ n2_ n3_ n4_ n5_ n6_; clear hb hbox hg) | ((with_reducible refine gate_dst (N := 4) rfl ?_); refine box_event ?hg (N := 4) ?hd (cs := #[.int .i64 0, .int .i64 0]) (t := 36) ?hr ?_; (case hd => rfl); (case hg => rfl); (case hr => first | (go_simp; done) | (go_simp; rfl)); intro gb147 hg w5 hbox hb; have n0_ := Aside0.mk (blk_below (g := gb145) (o := .cells #[.int .i64 a0_0, .int .i64 a0_1] 36 (0, 0)) (by (with_reducible repeat (first | refine blk_drewN ?_ _ | refine blk_drew ?_ | refine blk_alloc ?_ _)); exact BK145.out) hb); have n1_ := Aside0.mk (blk_below (g := gb146) (o := .cells #[.int .i64 a1_0, .int .i64 a1_1] 36 (0, 0)) (by (with_reducible repeat (first | refine blk_drewN ?_ _ | refine blk_drew ?_ | refine blk_alloc ?_ _)); exact BK146.out) hb); have n2_ := Aside0.mk (below_step (by repeat (first | (with_reducible first | exact HB.out | apply below_alloc | apply pw_below_drewN | apply below_drew1 | refine below_set ?_ GE145.out | refine below_set ?_ GE146.out) | exact HB.out)) hb); have n3_ := Aside0.mk (hbox); have n4_ := Aside0.mk ((by rw [hg]; exact (below_size (by repeat (first | (with_reducible first | exact HB.out | apply below_alloc | apply pw_below_drewN | apply below_drew1 | refine below_set ?_ GE145.out | refine below_set ?_ GE146.out) | exact HB.out))) : w.heap.size ≤ gb147)); have n5_ := Aside0.mk ((by rw [hg]; exact (below_size (by repeat (first | (with_reducible first | exact HB.out | apply below_alloc | apply pw_below_drewN | apply below_drew1 | refine below_set ?_ GE145.out | refine below_set ?_ GE146.out) | exact HB.out))) : w.heap.size ≤ gb147)); have n6_ := Aside0.mk ((by rw [hg]; exact Nat.ne_of_lt (blk_lt (g := gb145) (o := .cells #[.int .i64 a0_0, .int .i64 a0_1] 36 (0, 0)) (by (with_reducible repeat (first | refine blk_drewN ?_ _ | refine blk_drew ?_ | refine blk_alloc ?_ _)); exact BK145.out)) : gb145 ≠ gb147)); have n7_ := Aside0.mk ((by rw [hg]; exact Nat.ne_of_gt (blk_lt (g := gb145) (o := .cells #[.int .i64 a0_0, .int .i64 a0_1] 36 (0, 0)) (by (with_reducible repeat (first | refine blk_drewN ?_ _ | refine blk_drew ?_ | refine blk_alloc ?_ _)); exact BK145.out)) : gb147 ≠ gb145)); have n8_ := Aside0.mk ((by rw [hg]; exact Nat.ne_of_lt (blk_lt (g := gb146) (o := .cells #[.int .i64 a1_0, .int .i64 a1_1] 36 (0, 0)) (by (with_reducible repeat (first | refine blk_drewN ?_ _ | refine blk_drew ?_ | refine blk_alloc ?_ _)); exact BK146.out)) : gb146 ≠ gb147)); have n9_ := Aside0.mk ((by rw [hg]; exact Nat.ne_of_gt (blk_lt (g := gb146) (o := .cells #[.int .i64 a1_0, .int .i64 a1_1] 36 (0, 0)) (by (with_reducible repeat (first | refine blk_drewN ?_ _ | refine blk_drew ?_ | refine blk_alloc ?_ _)); exact BK146.out)) : gb147 ≠ gb146)); clear BK145; clear BK146; clear HB; have BK145 := n0_; have BK146 := n1_; have HB := n2_; have BK147 := n3_; have GW147 := n4_; have GE147 := n5_; have NB145_147 := n6_; have NB147_145 := n7_; have NB146_147 := n8_; have NB147_146 := n9_; clear n0_ n1_ n2_ n3_ n4_ n5_ n6_ n7_ n8_ n9_; clear hb hbox hg; have hnb6 := NB145_146.out; have hnc6 := NB146_145.out; have hnb7 := NB145_147.out; have hnc7 := NB147_145.out; have hcz8_0 : w5.cell? ⟨gb145, 0, none⟩ = some (.int .i64 a0_0) := (blk_cell BK145.out 0).trans rfl; have hcz8_1 : w5.cell? ⟨gb145, 1, none⟩ = some (.int .i64 a0_1) := (blk_cell BK145.out 1).trans rfl; have hfz8_0 := blk_frozen BK145.out 0; have hfz8_1 := blk_frozen BK145.out 1; have hnb9 := NB146_147.out; have hnc9 := NB147_146.out; have hcz10_0 : w5.cell? ⟨gb146, 0, none⟩ = some (.int .i64 a1_0) := (blk_cell BK146.out 0).trans rfl; have hcz10_1 : w5.cell? ⟨gb146, 1, none⟩ = some (.int .i64 a1_1) := (blk_cell BK146.out 1).trans rfl; have hfz10_0 := blk_frozen BK146.out 0; have hfz10_1 := blk_frozen BK146.out 1; have hcz11_0 : w5.cell? ⟨gb147, 0, none⟩ = some (.int .i64 0) := (blk_cell BK147.out 0).trans rfl; have hcz11_1 : w5.cell? ⟨gb147, 1, none⟩ = some (.int .i64 0) := (blk_cell BK147.out 1).trans rfl; have hfz11_0 := blk_frozen BK147.out 0; have hfz11_1 := blk_frozen BK147.out 1))
 refine bodyPost_ret (results_cell_row rfl _ _ gb147 36 #[.int .i64 (wrap64 (a0_0 - a1_0)), .int .i64 (wrap64 (a0_1 - a1_1))] (0, 0) _ rfl (by (with_reducible repeat (first | refine blk_drewN ?_ _ | refine blk_drew ?_ | refine blk_alloc ?_ _)); refine blk_put (cs := #[.int .i64 (wrap64 (a0_0 - a1_0)), .int .i64 0]) ?_ 1 _ rfl; (with_reducible repeat (first | refine blk_drewN ?_ _ | refine blk_drew ?_ | refine blk_alloc ?_ _)); refine blk_put (cs := #[.int .i64 0, .int .i64 0]) ?_ 0 _ rfl; (with_reducible repeat (first | refine blk_drewN ?_ _ | refine blk_drew ?_ | refine blk_alloc ?_ _)); exact BK147.out) Try.underlying36 rfl (by kernel_rfl)) rfl ?_
 exact ⟨by first | rfl | (simp [errW_none, errW_some] <;> rfl) | (simp [*, errW_none, errW_some] <;> rfl), by repeat (first | (with_reducible first | exact HB.out | apply below_alloc | apply pw_below_drewN | apply below_drew1 | refine below_set ?_ GE145.out | refine below_set ?_ GE146.out | refine below_set ?_ GE147.out) | exact HB.out)⟩

/-! ### plane_Dot: function 59 -/
def plane_Dot.f (a0_0 : Int) (a0_1 : Int) (a1_0 : Int) (a1_1 : Int) : Option (Int) := some (wrap64 ((wrap64 (a0_0 * a1_0)) + (wrap64 (a0_1 * a1_1))))
set_option maxHeartbeats 8000000 in
set_option maxRecDepth 100000 in
theorem plane_Dot.calls (a0_0 : Int) (a0_1 : Int) (a1_0 : Int) (a1_1 : Int) (r : Int) (w : World) (h : plane_Dot.f a0_0 a0_1 a1_0 a1_1 = some r) :
    Calls Try.prog 59 #[.agg #[.int .i64 a0_0, .int .i64 a0_1], .agg #[.int .i64 a1_0, .int .i64 a1_1]] w fun e w' => e = .returned (.int .i64 r) ∧ Below w.heap.size w w' := by
 have hu36 := Try.underlying36
 have HB := Aside0.mk (Below.refl w.heap.size w)
 have H : (some (wrap64 ((wrap64 (a0_0 * a1_0)) + (wrap64 (a0_1 * a1_1))))) = some r := h
 clear h
 obtain rfl := Option.some.inj H
 go_enter Try.func59, Try.ntmps59
 go_wp2_with (first | ((with_reducible refine gate_dst (N := 2) rfl ?_); refine box_event ?hg (N := 2) ?hd (cs := #[.int .i64 a0_0, .int .i64 a0_1]) (t := 36) ?hr ?_; (case hd => rfl); (case hg => rfl); (case hr => first | (go_simp; done) | (go_simp; rfl)); intro gb148 hg w3 hbox hb; have n0_ := Aside0.mk (below_step (by repeat (first | (with_reducible first | exact HB.out | apply below_alloc | apply pw_below_drewN | apply below_drew1) | exact HB.out)) hb); have n1_ := Aside0.mk (hbox); have n2_ := Aside0.mk ((by rw [hg]; exact (below_size (by repeat (first | (with_reducible first | exact HB.out | apply below_alloc | apply pw_below_drewN | apply below_drew1) | exact HB.out))) : w.heap.size ≤ gb148)); have n3_ := Aside0.mk ((by rw [hg]; exact (below_size (by repeat (first | (with_reducible first | exact HB.out | apply below_alloc | apply pw_below_drewN | apply below_drew1) | exact HB.out))) : w.heap.size ≤ gb148)); clear HB; have HB := n0_; have BK148 := n1_; have GW148 := n2_; have GE148 := n3_; clear n0_ n1_ n2_ n3_; clear hb hbox hg) | ((with_reducible refine gate_dst (N := 3) rfl ?_); refine box_event ?hg (N := 3) ?hd (cs := #[.int .i64 a1_0, .int .i64 a1_1]) (t := 36) ?hr ?_; (case hd => rfl); (case hg => rfl); (case hr => first | (go_simp; done) | (go_simp; rfl)); intro gb149 hg w4 hbox hb; have n0_ := Aside0.mk (blk_below (g := gb148) (o := .cells #[.int .i64 a0_0, .int .i64 a0_1] 36 (0, 0)) (by (with_reducible repeat (first | refine blk_drewN ?_ _ | refine blk_drew ?_ | refine blk_alloc ?_ _)); exact BK148.out) hb); have n1_ := Aside0.mk (below_step (by repeat (first | (with_reducible first | exact HB.out | apply below_alloc | apply pw_below_drewN | apply below_drew1 | refine below_set ?_ GE148.out) | exact HB.out)) hb); have n2_ := Aside0.mk (hbox); have n3_ := Aside0.mk ((by rw [hg]; exact (below_size (by repeat (first | (with_reducible first | exact HB.out | apply below_alloc | apply pw_below_drewN | apply below_drew1 | refine below_set ?_ GE148.out) | exact HB.out))) : w.heap.size ≤ gb149)); have n4_ := Aside0.mk ((by rw [hg]; exact (below_size (by repeat (first | (with_reducible first | exact HB.out | apply below_alloc | apply pw_below_drewN | apply below_drew1 | refine below_set ?_ GE148.out) | exact HB.out))) : w.heap.size ≤ gb149)); have n5_ := Aside0.mk ((by rw [hg]; exact Nat.ne_of_lt (blk_lt (g := gb148) (o := .cells #[.int .i64 a0_0, .int .i64 a0_1] 36 (0, 0)) (by (with_reducible repeat (first | refine blk_drewN ?_ _ | refine blk_drew ?_ | refine blk_alloc ?_ _)); exact BK148.out)) : gb148 ≠ gb149)); have n6_ := Aside0.mk ((by rw [hg]; exact Nat.ne_of_gt (blk_lt (g := gb148) (o := .cells #[.int .i64 a0_0, .int .i64 a0_1] 36 (0, 0)) (by (with_reducible repeat (first | refine blk_drewN ?_ _ | refine blk_drew ?_ | refine blk_alloc ?_ _)); exact BK148.out)) : gb149 ≠ gb148)); clear BK148; clear HB; have BK148 := n0_; have HB := n1_; have BK149 := n2_; have GW149 := n3_; have GE149 := n4_; have NB148_149 := n5_; have NB149_148 := n6_; clear n0_ n1_ n2_ n3_ n4_ n5_ n6_; clear hb hbox hg; have hnb5 := NB148_149.out; have hnc5 := NB149_148.out; have hcz6_0 : w4.cell? ⟨gb148, 0, none⟩ = some (.int .i64 a0_0) := (blk_cell BK148.out 0).trans rfl; have hcz6_1 : w4.cell? ⟨gb148, 1, none⟩ = some (.int .i64 a0_1) := (blk_cell BK148.out 1).trans rfl; have hfz6_0 := blk_frozen BK148.out 0; have hfz6_1 := blk_frozen BK148.out 1; have hcz7_0 : w4.cell? ⟨gb149, 0, none⟩ = some (.int .i64 a1_0) := (blk_cell BK149.out 0).trans rfl; have hcz7_1 : w4.cell? ⟨gb149, 1, none⟩ = some (.int .i64 a1_1) := (blk_cell BK149.out 1).trans rfl; have hfz7_0 := blk_frozen BK149.out 0; have hfz7_1 := blk_frozen BK149.out 1))
 go_ret
 exact ⟨by first | rfl | (simp [errW_none, errW_some] <;> rfl) | (simp [*, errW_none, errW_some] <;> rfl), by repeat (first | (with_reducible first | exact HB.out | apply below_alloc | apply pw_below_drewN | apply below_drew1 | refine below_set ?_ GE148.out | refine below_set ?_ GE149.out) | exact HB.out)⟩

/-! ### plane_Square: function 20 -/
def plane_Square.f (a0_0 : Int) (a0_1 : Int) (a1_0 : Int) (a1_1 : Int) : Option (Int) := (plane_Sub.f a0_0 a0_1 a1_0 a1_1).bind fun bt152 => ((plane_Dot.f bt152.1 bt152.2 bt152.1 bt152.2).bind fun t155 => (some t155))
set_option maxHeartbeats 8000000 in
set_option maxRecDepth 100000 in
theorem plane_Square.calls (a0_0 : Int) (a0_1 : Int) (a1_0 : Int) (a1_1 : Int) (r : Int) (w : World) (h : plane_Square.f a0_0 a0_1 a1_0 a1_1 = some r) :
    Calls Try.prog 20 #[.agg #[.int .i64 a0_0, .int .i64 a0_1], .agg #[.int .i64 a1_0, .int .i64 a1_1]] w fun e w' => e = .returned (.int .i64 r) ∧ Below w.heap.size w w' := by
 have hu36 := Try.underlying36
 have HB := Aside0.mk (Below.refl w.heap.size w)
 have H : ((plane_Sub.f a0_0 a0_1 a1_0 a1_1).bind fun bt152 => ((plane_Dot.f bt152.1 bt152.2 bt152.1 bt152.2).bind fun t155 => (some t155))) = some r := h
 clear h
 replace H := Option.bind_eq_some_iff.mp H
 obtain ⟨⟨t152, t153⟩, A30, H⟩ := H
 replace H : ((plane_Dot.f t152 t153 t152 t153).bind fun t155 => (some t155)) = some r := H
 have A3 := Aside0.mk A30
 clear A30
 replace H := Option.bind_eq_some_iff.mp H
 obtain ⟨t155, A40, H⟩ := H
 replace H : (some t155) = some r := H
 have A4 := Aside0.mk A40
 clear A40
 obtain rfl := Option.some.inj H
 go_enter Try.func20, Try.ntmps20
 go_wp2_with (first | ((with_reducible refine gate_dst (N := 2) rfl ?_); refine box_event ?hg (N := 2) ?hd (cs := #[.int .i64 a0_0, .int .i64 a0_1]) (t := 36) ?hr ?_; (case hd => rfl); (case hg => rfl); (case hr => first | (go_simp; done) | (go_simp; rfl)); intro gb150 hg w5 hbox hb; have n0_ := Aside0.mk (below_step (by repeat (first | (with_reducible first | exact HB.out | apply below_alloc | apply pw_below_drewN | apply below_drew1) | exact HB.out)) hb); have n1_ := Aside0.mk (hbox); have n2_ := Aside0.mk ((by rw [hg]; exact (below_size (by repeat (first | (with_reducible first | exact HB.out | apply below_alloc | apply pw_below_drewN | apply below_drew1) | exact HB.out))) : w.heap.size ≤ gb150)); have n3_ := Aside0.mk ((by rw [hg]; exact (below_size (by repeat (first | (with_reducible first | exact HB.out | apply below_alloc | apply pw_below_drewN | apply below_drew1) | exact HB.out))) : w.heap.size ≤ gb150)); clear HB; have HB := n0_; have BK150 := n1_; have GW150 := n2_; have GE150 := n3_; clear n0_ n1_ n2_ n3_; clear hb hbox hg) | ((with_reducible refine gate_dst (N := 3) rfl ?_); refine box_event ?hg (N := 3) ?hd (cs := #[.int .i64 a1_0, .int .i64 a1_1]) (t := 36) ?hr ?_; (case hd => rfl); (case hg => rfl); (case hr => first | (go_simp; done) | (go_simp; rfl)); intro gb151 hg w6 hbox hb; have n0_ := Aside0.mk (blk_below (g := gb150) (o := .cells #[.int .i64 a0_0, .int .i64 a0_1] 36 (0, 0)) (by (with_reducible repeat (first | refine blk_drewN ?_ _ | refine blk_drew ?_ | refine blk_alloc ?_ _)); exact BK150.out) hb); have n1_ := Aside0.mk (below_step (by repeat (first | (with_reducible first | exact HB.out | apply below_alloc | apply pw_below_drewN | apply below_drew1 | refine below_set ?_ GE150.out) | exact HB.out)) hb); have n2_ := Aside0.mk (hbox); have n3_ := Aside0.mk ((by rw [hg]; exact (below_size (by repeat (first | (with_reducible first | exact HB.out | apply below_alloc | apply pw_below_drewN | apply below_drew1 | refine below_set ?_ GE150.out) | exact HB.out))) : w.heap.size ≤ gb151)); have n4_ := Aside0.mk ((by rw [hg]; exact (below_size (by repeat (first | (with_reducible first | exact HB.out | apply below_alloc | apply pw_below_drewN | apply below_drew1 | refine below_set ?_ GE150.out) | exact HB.out))) : w.heap.size ≤ gb151)); have n5_ := Aside0.mk ((by rw [hg]; exact Nat.ne_of_lt (blk_lt (g := gb150) (o := .cells #[.int .i64 a0_0, .int .i64 a0_1] 36 (0, 0)) (by (with_reducible repeat (first | refine blk_drewN ?_ _ | refine blk_drew ?_ | refine blk_alloc ?_ _)); exact BK150.out)) : gb150 ≠ gb151)); have n6_ := Aside0.mk ((by rw [hg]; exact Nat.ne_of_gt (blk_lt (g := gb150) (o := .cells #[.int .i64 a0_0, .int .i64 a0_1] 36 (0, 0)) (by (with_reducible repeat (first | refine blk_drewN ?_ _ | refine blk_drew ?_ | refine blk_alloc ?_ _)); exact BK150.out)) : gb151 ≠ gb150)); clear BK150; clear HB; have BK150 := n0_; have HB := n1_; have BK151 := n2_; have GW151 := n3_; have GE151 := n4_; have NB150_151 := n5_; have NB151_150 := n6_; clear n0_ n1_ n2_ n3_ n4_ n5_ n6_; clear hb hbox hg; have hnb7 := NB150_151.out; have hnc7 := NB151_150.out; have hcz8_0 : w6.cell? ⟨gb150, 0, none⟩ = some (.int .i64 a0_0) := (blk_cell BK150.out 0).trans rfl; have hcz8_1 : w6.cell? ⟨gb150, 1, none⟩ = some (.int .i64 a0_1) := (blk_cell BK150.out 1).trans rfl; have hfz8_0 := blk_frozen BK150.out 0; have hfz8_1 := blk_frozen BK150.out 1; have hcz9_0 : w6.cell? ⟨gb151, 0, none⟩ = some (.int .i64 a1_0) := (blk_cell BK151.out 0).trans rfl; have hcz9_1 : w6.cell? ⟨gb151, 1, none⟩ = some (.int .i64 a1_1) := (blk_cell BK151.out 1).trans rfl; have hfz9_0 := blk_frozen BK151.out 0; have hfz9_1 := blk_frozen BK151.out 1) | ((with_reducible refine gate_callee (f := 58) rfl ?_); refine goesL_ (some 8) rfl rfl Try.func58 (by kernel_rfl) rfl #[.agg #[.int .i64 a0_0, .int .i64 a0_1], .agg #[.int .i64 a1_0, .int .i64 a1_1]] rfl (by (try simp only [List.map_toArray, List.map_cons, List.map_nil]); first | done | rfl | (simp only [List.length_drop, List.length_take]; rfl)) ?_; (with_reducible refine (plane_Sub.calls a0_0 a0_1 a1_0 a1_1 t152 t153 _ A3.out).mono ?_); rintro e w10 ⟨rfl, hb⟩; refine ⟨_, rfl, ?_⟩; have n0_ := Aside0.mk (blk_below (g := gb150) (o := .cells #[.int .i64 a0_0, .int .i64 a0_1] 36 (0, 0)) (by (with_reducible repeat (first | refine blk_drewN ?_ _ | refine blk_drew ?_ | refine blk_alloc ?_ _)); exact BK150.out) hb); have n1_ := Aside0.mk (blk_below (g := gb151) (o := .cells #[.int .i64 a1_0, .int .i64 a1_1] 36 (0, 0)) (by (with_reducible repeat (first | refine blk_drewN ?_ _ | refine blk_drew ?_ | refine blk_alloc ?_ _)); exact BK151.out) hb); have n2_ := Aside0.mk (below_step (by repeat (first | (with_reducible first | exact HB.out | apply below_alloc | apply pw_below_drewN | apply below_drew1 | refine below_set ?_ GE150.out | refine below_set ?_ GE151.out) | exact HB.out)) hb); clear BK150; clear BK151; clear HB; have BK150 := n0_; have BK151 := n1_; have HB := n2_; clear n0_ n1_ n2_; (try clear hb); (try clear hb2); (try clear hk); (try clear hi)) | ((with_reducible refine gate_dst (N := 5) rfl ?_); refine box_event ?hg (N := 5) ?hd (cs := #[.int .i64 0, .int .i64 0]) (t := 36) ?hr ?_; (case hd => rfl); (case hg => rfl); (case hr => first | (go_simp; done) | (go_simp; rfl)); intro gb154 hg w11 hbox hb; have n0_ := Aside0.mk (blk_below (g := gb150) (o := .cells #[.int .i64 a0_0, .int .i64 a0_1] 36 (0, 0)) (by (with_reducible repeat (first | refine blk_drewN ?_ _ | refine blk_drew ?_ | refine blk_alloc ?_ _)); exact BK150.out) hb); have n1_ := Aside0.mk (blk_below (g := gb151) (o := .cells #[.int .i64 a1_0, .int .i64 a1_1] 36 (0, 0)) (by (with_reducible repeat (first | refine blk_drewN ?_ _ | refine blk_drew ?_ | refine blk_alloc ?_ _)); exact BK151.out) hb); have n2_ := Aside0.mk (below_step (by repeat (first | (with_reducible first | exact HB.out | apply below_alloc | apply pw_below_drewN | apply below_drew1 | refine below_set ?_ GE150.out | refine below_set ?_ GE151.out) | exact HB.out)) hb); have n3_ := Aside0.mk (hbox); have n4_ := Aside0.mk ((by rw [hg]; exact (below_size (by repeat (first | (with_reducible first | exact HB.out | apply below_alloc | apply pw_below_drewN | apply below_drew1 | refine below_set ?_ GE150.out | refine below_set ?_ GE151.out) | exact HB.out))) : w.heap.size ≤ gb154)); have n5_ := Aside0.mk ((by rw [hg]; exact (below_size (by repeat (first | (with_reducible first | exact HB.out | apply below_alloc | apply pw_below_drewN | apply below_drew1 | refine below_set ?_ GE150.out | refine below_set ?_ GE151.out) | exact HB.out))) : w.heap.size ≤ gb154)); have n6_ := Aside0.mk ((by rw [hg]; exact Nat.ne_of_lt (blk_lt (g := gb150) (o := .cells #[.int .i64 a0_0, .int .i64 a0_1] 36 (0, 0)) (by (with_reducible repeat (first | refine blk_drewN ?_ _ | refine blk_drew ?_ | refine blk_alloc ?_ _)); exact BK150.out)) : gb150 ≠ gb154)); have n7_ := Aside0.mk ((by rw [hg]; exact Nat.ne_of_gt (blk_lt (g := gb150) (o := .cells #[.int .i64 a0_0, .int .i64 a0_1] 36 (0, 0)) (by (with_reducible repeat (first | refine blk_drewN ?_ _ | refine blk_drew ?_ | refine blk_alloc ?_ _)); exact BK150.out)) : gb154 ≠ gb150)); have n8_ := Aside0.mk ((by rw [hg]; exact Nat.ne_of_lt (blk_lt (g := gb151) (o := .cells #[.int .i64 a1_0, .int .i64 a1_1] 36 (0, 0)) (by (with_reducible repeat (first | refine blk_drewN ?_ _ | refine blk_drew ?_ | refine blk_alloc ?_ _)); exact BK151.out)) : gb151 ≠ gb154)); have n9_ := Aside0.mk ((by rw [hg]; exact Nat.ne_of_gt (blk_lt (g := gb151) (o := .cells #[.int .i64 a1_0, .int .i64 a1_1] 36 (0, 0)) (by (with_reducible repeat (first | refine blk_drewN ?_ _ | refine blk_drew ?_ | refine blk_alloc ?_ _)); exact BK151.out)) : gb154 ≠ gb151)); clear BK150; clear BK151; clear HB; have BK150 := n0_; have BK151 := n1_; have HB := n2_; have BK154 := n3_; have GW154 := n4_; have GE154 := n5_; have NB150_154 := n6_; have NB154_150 := n7_; have NB151_154 := n8_; have NB154_151 := n9_; clear n0_ n1_ n2_ n3_ n4_ n5_ n6_ n7_ n8_ n9_; clear hb hbox hg; have hnb12 := NB154_150.out; have hnc12 := NB150_154.out; have hnb13 := NB154_151.out; have hnc13 := NB151_154.out; have hcz14_0 : w11.cell? ⟨gb154, 0, none⟩ = some (.int .i64 0) := (blk_cell BK154.out 0).trans rfl; have hcz14_1 : w11.cell? ⟨gb154, 1, none⟩ = some (.int .i64 0) := (blk_cell BK154.out 1).trans rfl; have hfz14_0 := blk_frozen BK154.out 0; have hfz14_1 := blk_frozen BK154.out 1) | ((with_reducible refine gate_callee (f := 59) rfl ?_); refine goesL_ (some 11) rfl rfl Try.func59 (by kernel_rfl) rfl #[.agg #[.int .i64 t152, .int .i64 t153], .agg #[.int .i64 t152, .int .i64 t153]] rfl (by (try simp only [List.map_toArray, List.map_cons, List.map_nil]); first | done | rfl | (simp only [List.length_drop, List.length_take]; rfl)) ?_; (with_reducible refine (plane_Dot.calls t152 t153 t152 t153 t155 _ A4.out).mono ?_); rintro e w15 ⟨rfl, hb⟩; refine ⟨_, rfl, ?_⟩; have n0_ := Aside0.mk (blk_below (g := gb150) (o := .cells #[.int .i64 a0_0, .int .i64 a0_1] 36 (0, 0)) (by (with_reducible repeat (first | refine blk_drewN ?_ _ | refine blk_drew ?_ | refine blk_alloc ?_ _)); refine blk_far ?_ NB150_154.out _; (with_reducible repeat (first | refine blk_drewN ?_ _ | refine blk_drew ?_ | refine blk_alloc ?_ _)); refine blk_far ?_ NB150_154.out _; (with_reducible repeat (first | refine blk_drewN ?_ _ | refine blk_drew ?_ | refine blk_alloc ?_ _)); exact BK150.out) hb); have n1_ := Aside0.mk (blk_below (g := gb151) (o := .cells #[.int .i64 a1_0, .int .i64 a1_1] 36 (0, 0)) (by (with_reducible repeat (first | refine blk_drewN ?_ _ | refine blk_drew ?_ | refine blk_alloc ?_ _)); refine blk_far ?_ NB151_154.out _; (with_reducible repeat (first | refine blk_drewN ?_ _ | refine blk_drew ?_ | refine blk_alloc ?_ _)); refine blk_far ?_ NB151_154.out _; (with_reducible repeat (first | refine blk_drewN ?_ _ | refine blk_drew ?_ | refine blk_alloc ?_ _)); exact BK151.out) hb); have n2_ := Aside0.mk (blk_below (g := gb154) (o := .cells #[.int .i64 t152, .int .i64 t153] 36 (0, 0)) (by (with_reducible repeat (first | refine blk_drewN ?_ _ | refine blk_drew ?_ | refine blk_alloc ?_ _)); refine blk_put (cs := #[.int .i64 t152, .int .i64 0]) ?_ 1 _ rfl; (with_reducible repeat (first | refine blk_drewN ?_ _ | refine blk_drew ?_ | refine blk_alloc ?_ _)); refine blk_put (cs := #[.int .i64 0, .int .i64 0]) ?_ 0 _ rfl; (with_reducible repeat (first | refine blk_drewN ?_ _ | refine blk_drew ?_ | refine blk_alloc ?_ _)); exact BK154.out) hb); have n3_ := Aside0.mk (below_step (by repeat (first | (with_reducible first | exact HB.out | apply below_alloc | apply pw_below_drewN | apply below_drew1 | refine below_set ?_ GE150.out | refine below_set ?_ GE151.out | refine below_set ?_ GE154.out) | exact HB.out)) hb); clear BK150; clear BK151; clear BK154; clear HB; have BK150 := n0_; have BK151 := n1_; have BK154 := n2_; have HB := n3_; clear n0_ n1_ n2_ n3_; (try clear hb); (try clear hb2); (try clear hk); (try clear hi)))
 go_ret
 exact ⟨by first | rfl | (simp [errW_none, errW_some] <;> rfl) | (simp [*, errW_none, errW_some] <;> rfl), by repeat (first | (with_reducible first | exact HB.out | apply below_alloc | apply pw_below_drewN | apply below_drew1 | refine below_set ?_ GE150.out | refine below_set ?_ GE151.out | refine below_set ?_ GE154.out) | exact HB.out)⟩

/-! ### plane_Within: function 87 -/
def plane_Within.f (a0_0 : Int) (a0_1 : Int) (a1_0 : Int) (a1_1 : Int) (a2 : Int) : Option (Bool) := if a2 ≥ 0 then (if a2 ≤ 8000000 then ((plane_Square.f a0_0 a0_1 a1_0 a1_1).bind fun t158 => (some (decide (t158 ≤ (wrap64 (a2 * a2)))))) else (some false)) else (some false)
set_option maxHeartbeats 8000000 in
set_option maxRecDepth 100000 in
theorem plane_Within.calls (a0_0 : Int) (a0_1 : Int) (a1_0 : Int) (a1_1 : Int) (a2 : Int) (r : Bool) (w : World) (h : plane_Within.f a0_0 a0_1 a1_0 a1_1 a2 = some r) :
    Calls Try.prog 87 #[.agg #[.int .i64 a0_0, .int .i64 a0_1], .agg #[.int .i64 a1_0, .int .i64 a1_1], .int .i64 a2] w fun e w' => e = .returned (.bool r) ∧ Below w.heap.size w w' := by
 have hu36 := Try.underlying36
 have HB := Aside0.mk (Below.refl w.heap.size w)
 have H : (if a2 ≥ 0 then (if a2 ≤ 8000000 then ((plane_Square.f a0_0 a0_1 a1_0 a1_1).bind fun t158 => (some (decide (t158 ≤ (wrap64 (a2 * a2)))))) else (some false)) else (some false)) = some r := h
 clear h
 refine Or.elim (Classical.em (a2 ≥ 0)) (fun c4 => ?p2_) (fun c4 => ?n2_)
 case' p2_ =>
  rw [if_pos c4] at H
  have c4b0 : decide (0 ≤ a2) = true := decide_eq_true c4
  clear c4
  refine Or.elim (Classical.em (a2 ≤ 8000000)) (fun c5 => ?p3_) (fun c5 => ?n3_)
  case' p3_ =>
   rw [if_pos c5] at H
   have c5b0 : decide (a2 ≤ 8000000) = true := decide_eq_true c5
   clear c5
   replace H := Option.bind_eq_some_iff.mp H
   obtain ⟨t158, A60, H⟩ := H
   replace H : (some (decide (t158 ≤ (wrap64 (a2 * a2))))) = some r := H
   have A6 := Aside0.mk A60
   clear A60
  case' n3_ =>
   rw [if_neg c5] at H
   have c5b0 : decide (a2 ≤ 8000000) = false := decide_eq_false c5
   clear c5
 case' n2_ =>
  rw [if_neg c4] at H
  have c4b0 : decide (0 ≤ a2) = false := decide_eq_false c4
  clear c4
 all_goals
  obtain rfl := Option.some.inj H
  go_enter Try.func87, Try.ntmps87
  go_wp2_with (first | ((with_reducible refine gate_dst (N := 3) rfl ?_); refine box_event ?hg (N := 3) ?hd (cs := #[.int .i64 a0_0, .int .i64 a0_1]) (t := 36) ?hr ?_; (case hd => rfl); (case hg => rfl); (case hr => first | (go_simp; done) | (go_simp; rfl)); intro gb156 hg wx99d01 hbox hb; have n0_ := Aside0.mk (below_step (by repeat (first | (with_reducible first | exact HB.out | apply below_alloc | apply pw_below_drewN | apply below_drew1) | exact HB.out)) hb); have n1_ := Aside0.mk (hbox); have n2_ := Aside0.mk ((by rw [hg]; exact (below_size (by repeat (first | (with_reducible first | exact HB.out | apply below_alloc | apply pw_below_drewN | apply below_drew1) | exact HB.out))) : w.heap.size ≤ gb156)); have n3_ := Aside0.mk ((by rw [hg]; exact (below_size (by repeat (first | (with_reducible first | exact HB.out | apply below_alloc | apply pw_below_drewN | apply below_drew1) | exact HB.out))) : w.heap.size ≤ gb156)); clear HB; have HB := n0_; have BK156 := n1_; have GW156 := n2_; have GE156 := n3_; clear n0_ n1_ n2_ n3_; clear hb hbox hg) | ((with_reducible refine gate_dst (N := 4) rfl ?_); refine box_event ?hg (N := 4) ?hd (cs := #[.int .i64 a1_0, .int .i64 a1_1]) (t := 36) ?hr ?_; (case hd => rfl); (case hg => rfl); (case hr => first | (go_simp; done) | (go_simp; rfl)); intro gb157 hg wx7c391 hbox hb; have n0_ := Aside0.mk (blk_below (g := gb156) (o := .cells #[.int .i64 a0_0, .int .i64 a0_1] 36 (0, 0)) (by (with_reducible repeat (first | refine blk_drewN ?_ _ | refine blk_drew ?_ | refine blk_alloc ?_ _)); exact BK156.out) hb); have n1_ := Aside0.mk (below_step (by repeat (first | (with_reducible first | exact HB.out | apply below_alloc | apply pw_below_drewN | apply below_drew1 | refine below_set ?_ GE156.out) | exact HB.out)) hb); have n2_ := Aside0.mk (hbox); have n3_ := Aside0.mk ((by rw [hg]; exact (below_size (by repeat (first | (with_reducible first | exact HB.out | apply below_alloc | apply pw_below_drewN | apply below_drew1 | refine below_set ?_ GE156.out) | exact HB.out))) : w.heap.size ≤ gb157)); have n4_ := Aside0.mk ((by rw [hg]; exact (below_size (by repeat (first | (with_reducible first | exact HB.out | apply below_alloc | apply pw_below_drewN | apply below_drew1 | refine below_set ?_ GE156.out) | exact HB.out))) : w.heap.size ≤ gb157)); have n5_ := Aside0.mk ((by rw [hg]; exact Nat.ne_of_lt (blk_lt (g := gb156) (o := .cells #[.int .i64 a0_0, .int .i64 a0_1] 36 (0, 0)) (by (with_reducible repeat (first | refine blk_drewN ?_ _ | refine blk_drew ?_ | refine blk_alloc ?_ _)); exact BK156.out)) : gb156 ≠ gb157)); have n6_ := Aside0.mk ((by rw [hg]; exact Nat.ne_of_gt (blk_lt (g := gb156) (o := .cells #[.int .i64 a0_0, .int .i64 a0_1] 36 (0, 0)) (by (with_reducible repeat (first | refine blk_drewN ?_ _ | refine blk_drew ?_ | refine blk_alloc ?_ _)); exact BK156.out)) : gb157 ≠ gb156)); clear BK156; clear HB; have BK156 := n0_; have HB := n1_; have BK157 := n2_; have GW157 := n3_; have GE157 := n4_; have NB156_157 := n5_; have NB157_156 := n6_; clear n0_ n1_ n2_ n3_ n4_ n5_ n6_; clear hb hbox hg; have hnbx7c391 := NB156_157.out; have hncx7c391 := NB157_156.out; have hczx7c391 : wx7c391.cell? ⟨gb156, 0, none⟩ = some (.int .i64 a0_0) := (blk_cell BK156.out 0).trans rfl; have hczx7c392 : wx7c391.cell? ⟨gb156, 1, none⟩ = some (.int .i64 a0_1) := (blk_cell BK156.out 1).trans rfl; have hfzx7c391 := blk_frozen BK156.out 0; have hfzx7c392 := blk_frozen BK156.out 1; have hczx7c393 : wx7c391.cell? ⟨gb157, 0, none⟩ = some (.int .i64 a1_0) := (blk_cell BK157.out 0).trans rfl; have hczx7c394 : wx7c391.cell? ⟨gb157, 1, none⟩ = some (.int .i64 a1_1) := (blk_cell BK157.out 1).trans rfl; have hfzx7c393 := blk_frozen BK157.out 0; have hfzx7c394 := blk_frozen BK157.out 1) | ((with_reducible refine gate_dst (N := 4) rfl ?_); refine box_event ?hg (N := 4) ?hd (cs := #[.int .i64 a1_0, .int .i64 a1_1]) (t := 36) ?hr ?_; (case hd => rfl); (case hg => rfl); (case hr => first | (go_simp; done) | (go_simp; rfl)); intro gb157 hg wx02751 hbox hb; have n0_ := Aside0.mk (blk_below (g := gb156) (o := .cells #[.int .i64 a0_0, .int .i64 a0_1] 36 (0, 0)) (by (with_reducible repeat (first | refine blk_drewN ?_ _ | refine blk_drew ?_ | refine blk_alloc ?_ _)); exact BK156.out) hb); have n1_ := Aside0.mk (below_step (by repeat (first | (with_reducible first | exact HB.out | apply below_alloc | apply pw_below_drewN | apply below_drew1 | refine below_set ?_ GE156.out) | exact HB.out)) hb); have n2_ := Aside0.mk (hbox); have n3_ := Aside0.mk ((by rw [hg]; exact (below_size (by repeat (first | (with_reducible first | exact HB.out | apply below_alloc | apply pw_below_drewN | apply below_drew1 | refine below_set ?_ GE156.out) | exact HB.out))) : w.heap.size ≤ gb157)); have n4_ := Aside0.mk ((by rw [hg]; exact (below_size (by repeat (first | (with_reducible first | exact HB.out | apply below_alloc | apply pw_below_drewN | apply below_drew1 | refine below_set ?_ GE156.out) | exact HB.out))) : w.heap.size ≤ gb157)); have n5_ := Aside0.mk ((by rw [hg]; exact Nat.ne_of_lt (blk_lt (g := gb156) (o := .cells #[.int .i64 a0_0, .int .i64 a0_1] 36 (0, 0)) (by (with_reducible repeat (first | refine blk_drewN ?_ _ | refine blk_drew ?_ | refine blk_alloc ?_ _)); exact BK156.out)) : gb156 ≠ gb157)); have n6_ := Aside0.mk ((by rw [hg]; exact Nat.ne_of_gt (blk_lt (g := gb156) (o := .cells #[.int .i64 a0_0, .int .i64 a0_1] 36 (0, 0)) (by (with_reducible repeat (first | refine blk_drewN ?_ _ | refine blk_drew ?_ | refine blk_alloc ?_ _)); exact BK156.out)) : gb157 ≠ gb156)); clear BK156; clear HB; have BK156 := n0_; have HB := n1_; have BK157 := n2_; have GW157 := n3_; have GE157 := n4_; have NB156_157 := n5_; have NB157_156 := n6_; clear n0_ n1_ n2_ n3_ n4_ n5_ n6_; clear hb hbox hg) | (go_at_call 20; (with_reducible refine (plane_Square.calls a0_0 a0_1 a1_0 a1_1 t158 _ A6.out).mono ?_); rintro e wx23301 ⟨rfl, hb⟩; have n0_ := Aside0.mk (blk_below (g := gb156) (o := .cells #[.int .i64 a0_0, .int .i64 a0_1] 36 (0, 0)) (by (with_reducible repeat (first | refine blk_drewN ?_ _ | refine blk_drew ?_ | refine blk_alloc ?_ _)); exact BK156.out) hb); have n1_ := Aside0.mk (blk_below (g := gb157) (o := .cells #[.int .i64 a1_0, .int .i64 a1_1] 36 (0, 0)) (by (with_reducible repeat (first | refine blk_drewN ?_ _ | refine blk_drew ?_ | refine blk_alloc ?_ _)); exact BK157.out) hb); have n2_ := Aside0.mk (below_step (by repeat (first | (with_reducible first | exact HB.out | apply below_alloc | apply pw_below_drewN | apply below_drew1 | refine below_set ?_ GE156.out | refine below_set ?_ GE157.out) | exact HB.out)) hb); clear BK156; clear BK157; clear HB; have BK156 := n0_; have BK157 := n1_; have HB := n2_; clear n0_ n1_ n2_; (try clear hb); (try clear hb2); (try clear hk); (try clear hi)))
  go_ret
  exact ⟨by first | rfl | (simp [errW_none, errW_some] <;> rfl) | (simp [*, errW_none, errW_some] <;> rfl), by repeat (first | (with_reducible first | exact HB.out | apply below_alloc | apply pw_below_drewN | apply below_drew1 | refine below_set ?_ GE156.out | refine below_set ?_ GE157.out) | exact HB.out)⟩

/-! ### tube_Has: function 41 -/
def tube_Has.f (k : Nat) (l0 : List (S88)) (a1 : Int) (a2_0 : Int) (a2_1 : Int) (a3 : Int) : Option (Bool × Int) := (tube_At.f k l0 a1).bind fun bt160 => (if bt160.2.2.2.2.2.2 = 0 then ((plane_Check.f a2_0 a2_1).bind fun t168 => (if t168 = 0 then (if a3 < 0 then (some (false, 4)) else (if a3 > 60000 then (some (false, 4)) else ((plane_Within.f bt160.2.1 bt160.2.2.1 a2_0 a2_1 bt160.2.2.2.2.1).bind fun t169 => (if t169 = true then (some (decide ((mx (wrap64 (a3 - bt160.2.2.2.1)) (wrap64 (bt160.2.2.2.1 - a3))) ≤ bt160.2.2.2.2.2.1), 0)) else (some (false, 0)))))) else (some (false, t168)))) else (some (false, bt160.2.2.2.2.2.2)))
theorem tube_Has.mono : ∀ a0 a1 a2 a3 a4 k, LeO (tube_Has.f k a0 a1 a2 a3 a4) (tube_Has.f (k + 1) a0 a1 a2 a3 a4) := by
  intro a0 a1 a2 a3 a4 k
  unfold tube_Has.f
  repeat' first
      | (with_reducible exact tube_At.mono _ _ _)
      | (with_reducible exact LeO.refl _)
      | (with_reducible exact LeO.none _)
      | (with_reducible refine LeO.ite ?_ ?_)
      | (with_reducible refine LeO.bind ?_ (fun _ => ?_))
      | exact tube_At.mono _ _ _
      | exact LeO.none _
      | refine LeO.ite ?_ ?_
      | refine LeO.bind ?_ (fun _ => ?_)
set_option maxHeartbeats 8000000 in
set_option maxRecDepth 100000 in
theorem tube_Has.calls (k : Nat) (A0 : Option Addr) (c0 : Nat) (l0 : List (S88)) (a1 : Int) (a2_0 : Int) (a2_1 : Int) (a3 : Int) (r1 : Bool) (r2 : Int) (w : World) (hr0 : Kd.C k88 w A0 l0.length l0) (hc0 : l0.length ≤ c0) (h : tube_Has.f k l0 a1 a2_0 a2_1 a3 = some (r1, r2)) :
    Calls Try.prog 41 #[.slice A0 l0.length c0, .int .i64 a1, .agg #[.int .i64 a2_0, .int .i64 a2_1], .int .i64 a3] w fun e w' => e = .returned (.tuple #[.bool r1, .int .i64 r2]) ∧ Below w.heap.size w w' := by
 have hu36 := Try.underlying36
 have hu88 := Try.underlying88
 have HR0 := Aside0.mk hr0
 have HC0 := Aside0.mk hc0
 clear hr0 hc0
 have HB := Aside0.mk (Below.refl w.heap.size w)
 have H : ((tube_At.f k l0 a1).bind fun bt160 => (if bt160.2.2.2.2.2.2 = 0 then ((plane_Check.f a2_0 a2_1).bind fun t168 => (if t168 = 0 then (if a3 < 0 then (some (false, 4)) else (if a3 > 60000 then (some (false, 4)) else ((plane_Within.f bt160.2.1 bt160.2.2.1 a2_0 a2_1 bt160.2.2.2.2.1).bind fun t169 => (if t169 = true then (some (decide ((mx (wrap64 (a3 - bt160.2.2.2.1)) (wrap64 (bt160.2.2.2.1 - a3))) ≤ bt160.2.2.2.2.2.1), 0)) else (some (false, 0)))))) else (some (false, t168)))) else (some (false, bt160.2.2.2.2.2.2)))) = some (r1, r2) := h
 clear h
 replace H := Option.bind_eq_some_iff.mp H
 obtain ⟨⟨t160, t161, t162, t163, t164, t165, t166⟩, A50, H⟩ := H
 replace H : (if t166 = 0 then ((plane_Check.f a2_0 a2_1).bind fun t168 => (if t168 = 0 then (if a3 < 0 then (some (false, 4)) else (if a3 > 60000 then (some (false, 4)) else ((plane_Within.f t161 t162 a2_0 a2_1 t164).bind fun t169 => (if t169 = true then (some (decide ((mx (wrap64 (a3 - t163)) (wrap64 (t163 - a3))) ≤ t165), 0)) else (some (false, 0)))))) else (some (false, t168)))) else (some (false, t166))) = some (r1, r2) := H
 have A5 := Aside0.mk A50
 clear A50
 refine Or.elim (Classical.em (t166 = 0)) (fun c6 => ?p2_) (fun c6 => ?n2_)
 case' p2_ =>
  rw [if_pos c6] at H
  have c6b0 : (t166 == 0) = true := beq_iff_eq.mpr c6
  have c6b1 : (t166 != 0) = false := bne_eq_false_iff_eq.mpr c6
  clear c6
  replace H := Option.bind_eq_some_iff.mp H
  obtain ⟨t168, A70, H⟩ := H
  replace H : (if t168 = 0 then (if a3 < 0 then (some (false, 4)) else (if a3 > 60000 then (some (false, 4)) else ((plane_Within.f t161 t162 a2_0 a2_1 t164).bind fun t169 => (if t169 = true then (some (decide ((mx (wrap64 (a3 - t163)) (wrap64 (t163 - a3))) ≤ t165), 0)) else (some (false, 0)))))) else (some (false, t168))) = some (r1, r2) := H
  have A7 := Aside0.mk A70
  clear A70
  refine Or.elim (Classical.em (t168 = 0)) (fun c8 => ?p3_) (fun c8 => ?n3_)
  case' p3_ =>
   rw [if_pos c8] at H
   have c8b0 : (t168 == 0) = true := beq_iff_eq.mpr c8
   have c8b1 : (t168 != 0) = false := bne_eq_false_iff_eq.mpr c8
   clear c8
   refine Or.elim (Classical.em (a3 < 0)) (fun c9 => ?p4_) (fun c9 => ?n4_)
   case' p4_ =>
    rw [if_pos c9] at H
    have c9b0 : decide (a3 < 0) = true := decide_eq_true c9
    clear c9
    simp only [Option.some.injEq, Prod.mk.injEq] at H
    obtain ⟨rfl, rfl⟩ := H
    have hm1_0 := Aside0.mk trivial
   case' n4_ =>
    rw [if_neg c9] at H
    have c9b0 : decide (a3 < 0) = false := decide_eq_false c9
    clear c9
    refine Or.elim (Classical.em (a3 > 60000)) (fun c17 => ?p5_) (fun c17 => ?n5_)
    case' p5_ =>
     rw [if_pos c17] at H
     have c17b0 : decide (60000 < a3) = true := decide_eq_true c17
     clear c17
     simp only [Option.some.injEq, Prod.mk.injEq] at H
     obtain ⟨rfl, rfl⟩ := H
     have hm1_0 := Aside0.mk trivial
    case' n5_ =>
     rw [if_neg c17] at H
     have c17b0 : decide (60000 < a3) = false := decide_eq_false c17
     clear c17
     replace H := Option.bind_eq_some_iff.mp H
     obtain ⟨t169, A250, H⟩ := H
     replace H : (if t169 = true then (some (decide ((mx (wrap64 (a3 - t163)) (wrap64 (t163 - a3))) ≤ t165), 0)) else (some (false, 0))) = some (r1, r2) := H
     have A25 := Aside0.mk A250
     clear A250
     refine Or.elim (Classical.em (t169 = true)) (fun c26 => ?p6_) (fun c26 => ?n6_)
     case' p6_ =>
      subst c26
      have H1 : (some (decide ((mx (wrap64 (a3 - t163)) (wrap64 (t163 - a3))) ≤ t165), 0)) = some (r1, r2) := by rw [if_pos rfl] at H; exact H
      clear H
      have H := H1
      clear H1
      obtain ⟨ji27, hji27⟩ : ∃ j_ : Int, (mx (wrap64 (a3 - t163)) (wrap64 (t163 - a3))) = j_ := ⟨_, rfl⟩
      replace H : (some (decide ((ji27) ≤ t165), 0)) = some (r1, r2) := by first | (rw [hji27] at H; exact H) | (simp only [hji27] at H ⊢; exact H)
      (try rw [hji27] at A5)
      (try rw [hji27] at A7)
      (try rw [hji27] at A25)
      have hji27_ : (if (wrap64 (a3 - t163)) < (wrap64 (t163 - a3)) then (wrap64 (t163 - a3)) else (wrap64 (a3 - t163))) = ji27 := hji27
      simp only [Option.some.injEq, Prod.mk.injEq] at H
      obtain ⟨rfl, rfl⟩ := H
      have hm1_1 := Aside0.mk trivial
     case' n6_ =>
      replace c26 := Bool.eq_false_iff.mpr c26
      subst c26
      have H1 : (some (false, 0)) = some (r1, r2) := by rw [if_neg (show ¬ (false = true) by decide)] at H; exact H
      clear H
      have H := H1
      clear H1
      simp only [Option.some.injEq, Prod.mk.injEq] at H
      obtain ⟨rfl, rfl⟩ := H
      have hm1_0 := Aside0.mk trivial
  case' n3_ =>
   rw [if_neg c8] at H
   have c8b0 : (t168 == 0) = false := beq_eq_false_iff_ne.mpr c8
   have c8b1 : (t168 != 0) = true := bne_iff_ne.mpr c8
   simp only [Option.some.injEq, Prod.mk.injEq] at H
   obtain ⟨rfl, rfl⟩ := H
   have hm1_0 := Aside0.mk trivial
 case' n2_ =>
  rw [if_neg c6] at H
  have c6b0 : (t166 == 0) = false := beq_eq_false_iff_ne.mpr c6
  have c6b1 : (t166 != 0) = true := bne_iff_ne.mpr c6
  simp only [Option.some.injEq, Prod.mk.injEq] at H
  obtain ⟨rfl, rfl⟩ := H
  have hm1_0 := Aside0.mk trivial
 all_goals
  go_enter Try.func41, Try.ntmps41
  go_wp2_with (first | ((with_reducible refine gate_dst (N := 6) rfl ?_); (try (refine gate_guard (by rfl) ?_; dsimp only)); refine box_event ?hg (N := 6) ?hd (cs := #[.int .i64 a2_0, .int .i64 a2_1]) (t := 36) ?hr ?_; (case hd => rfl); (case hg => rfl); (case hr => first | (go_simp; done) | (go_simp; rfl)); intro gb159 hg wxdc5e1 hbox hb; have n0_ := Aside0.mk (below_step (by repeat (first | (with_reducible first | exact HB.out | apply below_alloc | apply pw_below_drewN | apply below_drew1) | exact HB.out)) hb); have n1_ := Aside0.mk (hbox); have n2_ := Aside0.mk ((by rw [hg]; exact (below_size (by repeat (first | (with_reducible first | exact HB.out | apply below_alloc | apply pw_below_drewN | apply below_drew1) | exact HB.out))) : w.heap.size ≤ gb159)); have n3_ := Aside0.mk ((by rw [hg]; exact (below_size (by repeat (first | (with_reducible first | exact HB.out | apply below_alloc | apply pw_below_drewN | apply below_drew1) | exact HB.out))) : w.heap.size ≤ gb159)); clear HB; have HB := n0_; have BK159 := n1_; have GW159 := n2_; have GE159 := n3_; clear n0_ n1_ n2_ n3_; clear hb hbox hg) | ((with_reducible refine gate_callee (f := 38) rfl ?_); refine goesL_ (some 16) rfl rfl Try.func38 (by kernel_rfl) rfl #[.slice A0 l0.length c0, .int .i64 a1] rfl (by (try simp only [List.map_toArray, List.map_cons, List.map_nil]); first | done | rfl | (simp only [List.length_drop, List.length_take]; rfl)) ?_; (with_reducible refine (tube_At.calls k _ _ l0 a1 t160 t161 t162 t163 t164 t165 t166 _ ?side1 ?side2 A5.out).mono ?_); (case side1 => repeat (first | exact (Kd.C_below HR0.out HB.out) | (with_reducible refine Kd.C_alloc ?_ _) | (with_reducible refine Kd.C_drewN ?_ _) | (with_reducible refine Kd.C_drew ?_))); (case side2 => exact HC0.out); rintro e wxb01e1 ⟨rfl, hb⟩; refine ⟨_, rfl, ?_⟩; have n0_ := Aside0.mk (blk_below (g := gb159) (o := .cells #[.int .i64 a2_0, .int .i64 a2_1] 36 (0, 0)) (by (with_reducible repeat (first | refine blk_drewN ?_ _ | refine blk_drew ?_ | refine blk_alloc ?_ _)); exact BK159.out) hb); have n1_ := Aside0.mk (below_step (by repeat (first | (with_reducible first | exact HB.out | apply below_alloc | apply pw_below_drewN | apply below_drew1 | refine below_set ?_ GE159.out) | exact HB.out)) hb); clear BK159; clear HB; have BK159 := n0_; have HB := n1_; clear n0_ n1_; (try clear hb); (try clear hb2); (try clear hk); (try clear hi)) | ((with_reducible refine gate_dst (N := 10) rfl ?_); (try (refine gate_guard (by rfl) ?_; dsimp only)); refine box_event ?hg (N := 10) ?hd (cs := #[.int .i64 0, .int .i64 0, .int .i64 0, .int .i64 0, .int .i64 0, .int .i64 0]) (t := 88) ?hr ?_; (case hd => rfl); (case hg => rfl); (case hr => first | (go_simp; done) | (go_simp; rfl)); intro gb167 hg wxf72b1 hbox hb; have n0_ := Aside0.mk (blk_below (g := gb159) (o := .cells #[.int .i64 a2_0, .int .i64 a2_1] 36 (0, 0)) (by (with_reducible repeat (first | refine blk_drewN ?_ _ | refine blk_drew ?_ | refine blk_alloc ?_ _)); exact BK159.out) hb); have n1_ := Aside0.mk (below_step (by repeat (first | (with_reducible first | exact HB.out | apply below_alloc | apply pw_below_drewN | apply below_drew1 | refine below_set ?_ GE159.out) | exact HB.out)) hb); have n2_ := Aside0.mk (hbox); have n3_ := Aside0.mk ((by rw [hg]; exact (below_size (by repeat (first | (with_reducible first | exact HB.out | apply below_alloc | apply pw_below_drewN | apply below_drew1 | refine below_set ?_ GE159.out) | exact HB.out))) : w.heap.size ≤ gb167)); have n4_ := Aside0.mk ((by rw [hg]; exact (below_size (by repeat (first | (with_reducible first | exact HB.out | apply below_alloc | apply pw_below_drewN | apply below_drew1 | refine below_set ?_ GE159.out) | exact HB.out))) : w.heap.size ≤ gb167)); have n5_ := Aside0.mk ((by rw [hg]; exact Nat.ne_of_lt (blk_lt (g := gb159) (o := .cells #[.int .i64 a2_0, .int .i64 a2_1] 36 (0, 0)) (by (with_reducible repeat (first | refine blk_drewN ?_ _ | refine blk_drew ?_ | refine blk_alloc ?_ _)); exact BK159.out)) : gb159 ≠ gb167)); have n6_ := Aside0.mk ((by rw [hg]; exact Nat.ne_of_gt (blk_lt (g := gb159) (o := .cells #[.int .i64 a2_0, .int .i64 a2_1] 36 (0, 0)) (by (with_reducible repeat (first | refine blk_drewN ?_ _ | refine blk_drew ?_ | refine blk_alloc ?_ _)); exact BK159.out)) : gb167 ≠ gb159)); clear BK159; clear HB; have BK159 := n0_; have HB := n1_; have BK167 := n2_; have GW167 := n3_; have GE167 := n4_; have NB159_167 := n5_; have NB167_159 := n6_; clear n0_ n1_ n2_ n3_ n4_ n5_ n6_; clear hb hbox hg; have hnbxf72b1 := NB167_159.out; have hncxf72b1 := NB159_167.out; have hczxf72b1 : wxf72b1.cell? ⟨gb167, 0, none⟩ = some (.int .i64 0) := (blk_cell BK167.out 0).trans rfl; have hczxf72b2 : wxf72b1.cell? ⟨gb167, 1, none⟩ = some (.int .i64 0) := (blk_cell BK167.out 1).trans rfl; have hczxf72b3 : wxf72b1.cell? ⟨gb167, 2, none⟩ = some (.int .i64 0) := (blk_cell BK167.out 2).trans rfl; have hczxf72b4 : wxf72b1.cell? ⟨gb167, 3, none⟩ = some (.int .i64 0) := (blk_cell BK167.out 3).trans rfl; have hczxf72b5 : wxf72b1.cell? ⟨gb167, 4, none⟩ = some (.int .i64 0) := (blk_cell BK167.out 4).trans rfl; have hczxf72b6 : wxf72b1.cell? ⟨gb167, 5, none⟩ = some (.int .i64 0) := (blk_cell BK167.out 5).trans rfl; have hfzxf72b1 := blk_frozen BK167.out 0; have hfzxf72b2 := blk_frozen BK167.out 1; have hfzxf72b3 := blk_frozen BK167.out 2; have hfzxf72b4 := blk_frozen BK167.out 3; have hfzxf72b5 := blk_frozen BK167.out 4; have hfzxf72b6 := blk_frozen BK167.out 5; have hczxf72b7 : wxf72b1.cell? ⟨gb159, 0, none⟩ = some (.int .i64 a2_0) := (blk_cell BK159.out 0).trans rfl; have hczxf72b8 : wxf72b1.cell? ⟨gb159, 1, none⟩ = some (.int .i64 a2_1) := (blk_cell BK159.out 1).trans rfl; have hfzxf72b7 := blk_frozen BK159.out 0; have hfzxf72b8 := blk_frozen BK159.out 1) | ((with_reducible refine gate_dst (N := 10) rfl ?_); (try (refine gate_guard (by rfl) ?_; dsimp only)); refine box_event ?hg (N := 10) ?hd (cs := #[.int .i64 0, .int .i64 0, .int .i64 0, .int .i64 0, .int .i64 0, .int .i64 0]) (t := 88) ?hr ?_; (case hd => rfl); (case hg => rfl); (case hr => first | (go_simp; done) | (go_simp; rfl)); intro gb167 hg wx94d71 hbox hb; have n0_ := Aside0.mk (blk_below (g := gb159) (o := .cells #[.int .i64 a2_0, .int .i64 a2_1] 36 (0, 0)) (by (with_reducible repeat (first | refine blk_drewN ?_ _ | refine blk_drew ?_ | refine blk_alloc ?_ _)); exact BK159.out) hb); have n1_ := Aside0.mk (below_step (by repeat (first | (with_reducible first | exact HB.out | apply below_alloc | apply pw_below_drewN | apply below_drew1 | refine below_set ?_ GE159.out) | exact HB.out)) hb); have n2_ := Aside0.mk (hbox); have n3_ := Aside0.mk ((by rw [hg]; exact (below_size (by repeat (first | (with_reducible first | exact HB.out | apply below_alloc | apply pw_below_drewN | apply below_drew1 | refine below_set ?_ GE159.out) | exact HB.out))) : w.heap.size ≤ gb167)); have n4_ := Aside0.mk ((by rw [hg]; exact (below_size (by repeat (first | (with_reducible first | exact HB.out | apply below_alloc | apply pw_below_drewN | apply below_drew1 | refine below_set ?_ GE159.out) | exact HB.out))) : w.heap.size ≤ gb167)); have n5_ := Aside0.mk ((by rw [hg]; exact Nat.ne_of_lt (blk_lt (g := gb159) (o := .cells #[.int .i64 a2_0, .int .i64 a2_1] 36 (0, 0)) (by (with_reducible repeat (first | refine blk_drewN ?_ _ | refine blk_drew ?_ | refine blk_alloc ?_ _)); exact BK159.out)) : gb159 ≠ gb167)); have n6_ := Aside0.mk ((by rw [hg]; exact Nat.ne_of_gt (blk_lt (g := gb159) (o := .cells #[.int .i64 a2_0, .int .i64 a2_1] 36 (0, 0)) (by (with_reducible repeat (first | refine blk_drewN ?_ _ | refine blk_drew ?_ | refine blk_alloc ?_ _)); exact BK159.out)) : gb167 ≠ gb159)); clear BK159; clear HB; have BK159 := n0_; have HB := n1_; have BK167 := n2_; have GW167 := n3_; have GE167 := n4_; have NB159_167 := n5_; have NB167_159 := n6_; clear n0_ n1_ n2_ n3_ n4_ n5_ n6_; clear hb hbox hg; have hnbx94d71 := NB167_159.out; have hncx94d71 := NB159_167.out; have hczx94d71 : wx94d71.cell? ⟨gb167, 0, none⟩ = some (.int .i64 0) := (blk_cell BK167.out 0).trans rfl; have hczx94d72 : wx94d71.cell? ⟨gb167, 1, none⟩ = some (.int .i64 0) := (blk_cell BK167.out 1).trans rfl; have hczx94d73 : wx94d71.cell? ⟨gb167, 2, none⟩ = some (.int .i64 0) := (blk_cell BK167.out 2).trans rfl; have hczx94d74 : wx94d71.cell? ⟨gb167, 3, none⟩ = some (.int .i64 0) := (blk_cell BK167.out 3).trans rfl; have hczx94d75 : wx94d71.cell? ⟨gb167, 4, none⟩ = some (.int .i64 0) := (blk_cell BK167.out 4).trans rfl; have hczx94d76 : wx94d71.cell? ⟨gb167, 5, none⟩ = some (.int .i64 0) := (blk_cell BK167.out 5).trans rfl; have hfzx94d71 := blk_frozen BK167.out 0; have hfzx94d72 := blk_frozen BK167.out 1; have hfzx94d73 := blk_frozen BK167.out 2; have hfzx94d74 := blk_frozen BK167.out 3; have hfzx94d75 := blk_frozen BK167.out 4; have hfzx94d76 := blk_frozen BK167.out 5) | ((with_reducible refine gate_callee (f := 57) rfl ?_); refine goesL_ (some 23) rfl rfl Try.func57 (by kernel_rfl) rfl #[.agg #[.int .i64 a2_0, .int .i64 a2_1]] rfl (by (try simp only [List.map_toArray, List.map_cons, List.map_nil]); first | done | rfl | (simp only [List.length_drop, List.length_take]; rfl)) ?_; (with_reducible refine (plane_Check.calls a2_0 a2_1 t168 _ A7.out).mono ?_); rintro e wx41b71 ⟨rfl, hb⟩; refine ⟨_, rfl, ?_⟩; have n0_ := Aside0.mk (blk_below (g := gb159) (o := .cells #[.int .i64 a2_0, .int .i64 a2_1] 36 (0, 0)) (by (with_reducible repeat (first | refine blk_drewN ?_ _ | refine blk_drew ?_ | refine blk_alloc ?_ _)); refine blk_far ?_ NB159_167.out _; (with_reducible repeat (first | refine blk_drewN ?_ _ | refine blk_drew ?_ | refine blk_alloc ?_ _)); refine blk_far ?_ NB159_167.out _; (with_reducible repeat (first | refine blk_drewN ?_ _ | refine blk_drew ?_ | refine blk_alloc ?_ _)); refine blk_far ?_ NB159_167.out _; (with_reducible repeat (first | refine blk_drewN ?_ _ | refine blk_drew ?_ | refine blk_alloc ?_ _)); refine blk_far ?_ NB159_167.out _; (with_reducible repeat (first | refine blk_drewN ?_ _ | refine blk_drew ?_ | refine blk_alloc ?_ _)); refine blk_far ?_ NB159_167.out _; (with_reducible repeat (first | refine blk_drewN ?_ _ | refine blk_drew ?_ | refine blk_alloc ?_ _)); refine blk_far ?_ NB159_167.out _; (with_reducible repeat (first | refine blk_drewN ?_ _ | refine blk_drew ?_ | refine blk_alloc ?_ _)); exact BK159.out) hb); have n1_ := Aside0.mk (blk_below (g := gb167) (o := .cells #[.int .i64 t160, .int .i64 t161, .int .i64 t162, .int .i64 t163, .int .i64 t164, .int .i64 t165] 88 (0, 0)) (by (with_reducible repeat (first | refine blk_drewN ?_ _ | refine blk_drew ?_ | refine blk_alloc ?_ _)); refine blk_put (cs := #[.int .i64 t160, .int .i64 t161, .int .i64 t162, .int .i64 t163, .int .i64 t164, .int .i64 0]) ?_ 5 _ rfl; (with_reducible repeat (first | refine blk_drewN ?_ _ | refine blk_drew ?_ | refine blk_alloc ?_ _)); refine blk_put (cs := #[.int .i64 t160, .int .i64 t161, .int .i64 t162, .int .i64 t163, .int .i64 0, .int .i64 0]) ?_ 4 _ rfl; (with_reducible repeat (first | refine blk_drewN ?_ _ | refine blk_drew ?_ | refine blk_alloc ?_ _)); refine blk_put (cs := #[.int .i64 t160, .int .i64 t161, .int .i64 t162, .int .i64 0, .int .i64 0, .int .i64 0]) ?_ 3 _ rfl; (with_reducible repeat (first | refine blk_drewN ?_ _ | refine blk_drew ?_ | refine blk_alloc ?_ _)); refine blk_put (cs := #[.int .i64 t160, .int .i64 t161, .int .i64 0, .int .i64 0, .int .i64 0, .int .i64 0]) ?_ 2 _ rfl; (with_reducible repeat (first | refine blk_drewN ?_ _ | refine blk_drew ?_ | refine blk_alloc ?_ _)); refine blk_put (cs := #[.int .i64 t160, .int .i64 0, .int .i64 0, .int .i64 0, .int .i64 0, .int .i64 0]) ?_ 1 _ rfl; (with_reducible repeat (first | refine blk_drewN ?_ _ | refine blk_drew ?_ | refine blk_alloc ?_ _)); refine blk_put (cs := #[.int .i64 0, .int .i64 0, .int .i64 0, .int .i64 0, .int .i64 0, .int .i64 0]) ?_ 0 _ rfl; (with_reducible repeat (first | refine blk_drewN ?_ _ | refine blk_drew ?_ | refine blk_alloc ?_ _)); exact BK167.out) hb); have n2_ := Aside0.mk (below_step (by repeat (first | (with_reducible first | exact HB.out | apply below_alloc | apply pw_below_drewN | apply below_drew1 | refine below_set ?_ GE159.out | refine below_set ?_ GE167.out) | exact HB.out)) hb); clear BK159; clear BK167; clear HB; have BK159 := n0_; have BK167 := n1_; have HB := n2_; clear n0_ n1_ n2_; (try clear hb); (try clear hb2); (try clear hk); (try clear hi); have hczx41b71 : wx41b71.cell? ⟨gb167, 0, none⟩ = some (.int .i64 t160) := (blk_cell BK167.out 0).trans rfl; have hczx41b72 : wx41b71.cell? ⟨gb167, 1, none⟩ = some (.int .i64 t161) := (blk_cell BK167.out 1).trans rfl; have hczx41b73 : wx41b71.cell? ⟨gb167, 2, none⟩ = some (.int .i64 t162) := (blk_cell BK167.out 2).trans rfl; have hczx41b74 : wx41b71.cell? ⟨gb167, 3, none⟩ = some (.int .i64 t163) := (blk_cell BK167.out 3).trans rfl; have hczx41b75 : wx41b71.cell? ⟨gb167, 4, none⟩ = some (.int .i64 t164) := (blk_cell BK167.out 4).trans rfl; have hczx41b76 : wx41b71.cell? ⟨gb167, 5, none⟩ = some (.int .i64 t165) := (blk_cell BK167.out 5).trans rfl; have hfzx41b71 := blk_frozen BK167.out 0; have hfzx41b72 := blk_frozen BK167.out 1; have hfzx41b73 := blk_frozen BK167.out 2; have hfzx41b74 := blk_frozen BK167.out 3; have hfzx41b75 := blk_frozen BK167.out 4; have hfzx41b76 := blk_frozen BK167.out 5; have hczx41b77 : wx41b71.cell? ⟨gb159, 0, none⟩ = some (.int .i64 a2_0) := (blk_cell BK159.out 0).trans rfl; have hczx41b78 : wx41b71.cell? ⟨gb159, 1, none⟩ = some (.int .i64 a2_1) := (blk_cell BK159.out 1).trans rfl; have hfzx41b77 := blk_frozen BK159.out 0; have hfzx41b78 := blk_frozen BK159.out 1) | ((with_reducible refine gate_callee (f := 57) rfl ?_); refine goesL_ (some 23) rfl rfl Try.func57 (by kernel_rfl) rfl #[.agg #[.int .i64 a2_0, .int .i64 a2_1]] rfl (by (try simp only [List.map_toArray, List.map_cons, List.map_nil]); first | done | rfl | (simp only [List.length_drop, List.length_take]; rfl)) ?_; (with_reducible refine (plane_Check.calls a2_0 a2_1 t168 _ A7.out).mono ?_); rintro e wxfc2a1 ⟨rfl, hb⟩; refine ⟨_, rfl, ?_⟩; have n0_ := Aside0.mk (blk_below (g := gb159) (o := .cells #[.int .i64 a2_0, .int .i64 a2_1] 36 (0, 0)) (by (with_reducible repeat (first | refine blk_drewN ?_ _ | refine blk_drew ?_ | refine blk_alloc ?_ _)); refine blk_far ?_ NB159_167.out _; (with_reducible repeat (first | refine blk_drewN ?_ _ | refine blk_drew ?_ | refine blk_alloc ?_ _)); refine blk_far ?_ NB159_167.out _; (with_reducible repeat (first | refine blk_drewN ?_ _ | refine blk_drew ?_ | refine blk_alloc ?_ _)); refine blk_far ?_ NB159_167.out _; (with_reducible repeat (first | refine blk_drewN ?_ _ | refine blk_drew ?_ | refine blk_alloc ?_ _)); refine blk_far ?_ NB159_167.out _; (with_reducible repeat (first | refine blk_drewN ?_ _ | refine blk_drew ?_ | refine blk_alloc ?_ _)); refine blk_far ?_ NB159_167.out _; (with_reducible repeat (first | refine blk_drewN ?_ _ | refine blk_drew ?_ | refine blk_alloc ?_ _)); refine blk_far ?_ NB159_167.out _; (with_reducible repeat (first | refine blk_drewN ?_ _ | refine blk_drew ?_ | refine blk_alloc ?_ _)); exact BK159.out) hb); have n1_ := Aside0.mk (blk_below (g := gb167) (o := .cells #[.int .i64 t160, .int .i64 t161, .int .i64 t162, .int .i64 t163, .int .i64 t164, .int .i64 t165] 88 (0, 0)) (by (with_reducible repeat (first | refine blk_drewN ?_ _ | refine blk_drew ?_ | refine blk_alloc ?_ _)); refine blk_put (cs := #[.int .i64 t160, .int .i64 t161, .int .i64 t162, .int .i64 t163, .int .i64 t164, .int .i64 0]) ?_ 5 _ rfl; (with_reducible repeat (first | refine blk_drewN ?_ _ | refine blk_drew ?_ | refine blk_alloc ?_ _)); refine blk_put (cs := #[.int .i64 t160, .int .i64 t161, .int .i64 t162, .int .i64 t163, .int .i64 0, .int .i64 0]) ?_ 4 _ rfl; (with_reducible repeat (first | refine blk_drewN ?_ _ | refine blk_drew ?_ | refine blk_alloc ?_ _)); refine blk_put (cs := #[.int .i64 t160, .int .i64 t161, .int .i64 t162, .int .i64 0, .int .i64 0, .int .i64 0]) ?_ 3 _ rfl; (with_reducible repeat (first | refine blk_drewN ?_ _ | refine blk_drew ?_ | refine blk_alloc ?_ _)); refine blk_put (cs := #[.int .i64 t160, .int .i64 t161, .int .i64 0, .int .i64 0, .int .i64 0, .int .i64 0]) ?_ 2 _ rfl; (with_reducible repeat (first | refine blk_drewN ?_ _ | refine blk_drew ?_ | refine blk_alloc ?_ _)); refine blk_put (cs := #[.int .i64 t160, .int .i64 0, .int .i64 0, .int .i64 0, .int .i64 0, .int .i64 0]) ?_ 1 _ rfl; (with_reducible repeat (first | refine blk_drewN ?_ _ | refine blk_drew ?_ | refine blk_alloc ?_ _)); refine blk_put (cs := #[.int .i64 0, .int .i64 0, .int .i64 0, .int .i64 0, .int .i64 0, .int .i64 0]) ?_ 0 _ rfl; (with_reducible repeat (first | refine blk_drewN ?_ _ | refine blk_drew ?_ | refine blk_alloc ?_ _)); exact BK167.out) hb); have n2_ := Aside0.mk (below_step (by repeat (first | (with_reducible first | exact HB.out | apply below_alloc | apply pw_below_drewN | apply below_drew1 | refine below_set ?_ GE159.out | refine below_set ?_ GE167.out) | exact HB.out)) hb); clear BK159; clear BK167; clear HB; have BK159 := n0_; have BK167 := n1_; have HB := n2_; clear n0_ n1_ n2_; (try clear hb); (try clear hb2); (try clear hk); (try clear hi)) | ((with_reducible refine gate_callee (f := 87) rfl ?_); refine goesL_ (some 39) rfl rfl Try.func87 (by kernel_rfl) rfl #[.agg #[.int .i64 t161, .int .i64 t162], .agg #[.int .i64 a2_0, .int .i64 a2_1], .int .i64 t164] rfl (by (try simp only [List.map_toArray, List.map_cons, List.map_nil]); first | done | rfl | (simp only [List.length_drop, List.length_take]; rfl)) ?_; (with_reducible refine (plane_Within.calls t161 t162 a2_0 a2_1 t164 true _ A25.out).mono ?_); rintro e wxd60d1 ⟨rfl, hb⟩; refine ⟨_, rfl, ?_⟩; have n0_ := Aside0.mk (blk_below (g := gb159) (o := .cells #[.int .i64 a2_0, .int .i64 a2_1] 36 (0, 0)) (by (with_reducible repeat (first | refine blk_drewN ?_ _ | refine blk_drew ?_ | refine blk_alloc ?_ _)); exact BK159.out) hb); have n1_ := Aside0.mk (blk_below (g := gb167) (o := .cells #[.int .i64 t160, .int .i64 t161, .int .i64 t162, .int .i64 t163, .int .i64 t164, .int .i64 t165] 88 (0, 0)) (by (with_reducible repeat (first | refine blk_drewN ?_ _ | refine blk_drew ?_ | refine blk_alloc ?_ _)); exact BK167.out) hb); have n2_ := Aside0.mk (below_step (by repeat (first | (with_reducible first | exact HB.out | apply below_alloc | apply pw_below_drewN | apply below_drew1 | refine below_set ?_ GE159.out | refine below_set ?_ GE167.out) | exact HB.out)) hb); clear BK159; clear BK167; clear HB; have BK159 := n0_; have BK167 := n1_; have HB := n2_; clear n0_ n1_ n2_; (try clear hb); (try clear hb2); (try clear hk); (try clear hi); have hczxd60d1 : wxd60d1.cell? ⟨gb167, 0, none⟩ = some (.int .i64 t160) := (blk_cell BK167.out 0).trans rfl; have hczxd60d2 : wxd60d1.cell? ⟨gb167, 1, none⟩ = some (.int .i64 t161) := (blk_cell BK167.out 1).trans rfl; have hczxd60d3 : wxd60d1.cell? ⟨gb167, 2, none⟩ = some (.int .i64 t162) := (blk_cell BK167.out 2).trans rfl; have hczxd60d4 : wxd60d1.cell? ⟨gb167, 3, none⟩ = some (.int .i64 t163) := (blk_cell BK167.out 3).trans rfl; have hczxd60d5 : wxd60d1.cell? ⟨gb167, 4, none⟩ = some (.int .i64 t164) := (blk_cell BK167.out 4).trans rfl; have hczxd60d6 : wxd60d1.cell? ⟨gb167, 5, none⟩ = some (.int .i64 t165) := (blk_cell BK167.out 5).trans rfl; have hfzxd60d1 := blk_frozen BK167.out 0; have hfzxd60d2 := blk_frozen BK167.out 1; have hfzxd60d3 := blk_frozen BK167.out 2; have hfzxd60d4 := blk_frozen BK167.out 3; have hfzxd60d5 := blk_frozen BK167.out 4; have hfzxd60d6 := blk_frozen BK167.out 5) | ((with_reducible refine gate_callee (f := 87) rfl ?_); refine goesL_ (some 39) rfl rfl Try.func87 (by kernel_rfl) rfl #[.agg #[.int .i64 t161, .int .i64 t162], .agg #[.int .i64 a2_0, .int .i64 a2_1], .int .i64 t164] rfl (by (try simp only [List.map_toArray, List.map_cons, List.map_nil]); first | done | rfl | (simp only [List.length_drop, List.length_take]; rfl)) ?_; (with_reducible refine (plane_Within.calls t161 t162 a2_0 a2_1 t164 false _ A25.out).mono ?_); rintro e wxae421 ⟨rfl, hb⟩; refine ⟨_, rfl, ?_⟩; have n0_ := Aside0.mk (blk_below (g := gb159) (o := .cells #[.int .i64 a2_0, .int .i64 a2_1] 36 (0, 0)) (by (with_reducible repeat (first | refine blk_drewN ?_ _ | refine blk_drew ?_ | refine blk_alloc ?_ _)); exact BK159.out) hb); have n1_ := Aside0.mk (blk_below (g := gb167) (o := .cells #[.int .i64 t160, .int .i64 t161, .int .i64 t162, .int .i64 t163, .int .i64 t164, .int .i64 t165] 88 (0, 0)) (by (with_reducible repeat (first | refine blk_drewN ?_ _ | refine blk_drew ?_ | refine blk_alloc ?_ _)); exact BK167.out) hb); have n2_ := Aside0.mk (below_step (by repeat (first | (with_reducible first | exact HB.out | apply below_alloc | apply pw_below_drewN | apply below_drew1 | refine below_set ?_ GE159.out | refine below_set ?_ GE167.out) | exact HB.out)) hb); clear BK159; clear BK167; clear HB; have BK159 := n0_; have BK167 := n1_; have HB := n2_; clear n0_ n1_ n2_; (try clear hb); (try clear hb2); (try clear hk); (try clear hi)))
  go_ret2
  first
   | clear hm1_0
     exact ⟨by first | rfl | (simp [errW_none, errW_some] <;> rfl) | (simp [*, errW_none, errW_some] <;> rfl), by repeat (first | (with_reducible first | exact HB.out | apply below_alloc | apply pw_below_drewN | apply below_drew1 | refine below_set ?_ GE159.out | refine below_set ?_ GE167.out) | exact HB.out)⟩
   | clear hm1_1
     exact ⟨by first | rfl | (simp [errW_none, errW_some] <;> rfl) | (simp only [← hji27]; first | rfl | (simp [errW_none, errW_some] <;> rfl)) | (simp [*, errW_none, errW_some] <;> rfl), by repeat (first | (with_reducible first | exact HB.out | apply below_alloc | apply pw_below_drewN | apply below_drew1 | refine below_set ?_ GE159.out | refine below_set ?_ GE167.out) | exact HB.out)⟩

/-! ### fly_Check: function 76 -/
mutual
def fly_Check.l0 : Nat → List (S71) → List (S71) → Int → Int → Option (Int)
  | 0, _, _, _, _ => none
  | k + 1, x0, x14, x15, x16 => if x16 < x15 then (if 0 ≤ x16 then (if x16 < (x14.length : Int) then (if ((rd_T71 x14 x16).f0) < 0 then (fly_Check.j1 k x0 x14 x15 x16 true ((rd_T71 x14 x16).f0) ((rd_T71 x14 x16).f1.f0) ((rd_T71 x14 x16).f1.f1) ((rd_T71 x14 x16).f2)) else (if ((rd_T71 x14 x16).f0) > 200000 then (fly_Check.j1 k x0 x14 x15 x16 true ((rd_T71 x14 x16).f0) ((rd_T71 x14 x16).f1.f0) ((rd_T71 x14 x16).f1.f1) ((rd_T71 x14 x16).f2)) else (if x16 > 0 then (if 0 ≤ (wrap64 (x16 - 1)) then (if (wrap64 (x16 - 1)) < (x0.length : Int) then (fly_Check.j1 k x0 x14 x15 x16 (decide (((rd_T71 x14 x16).f0) ≤ ((rd_T71 x0 (wrap64 (x16 - 1))).f0))) ((rd_T71 x14 x16).f0) ((rd_T71 x14 x16).f1.f0) ((rd_T71 x14 x16).f1.f1) ((rd_T71 x14 x16).f2)) else (none)) else (none)) else (fly_Check.j1 k x0 x14 x15 x16 false ((rd_T71 x14 x16).f0) ((rd_T71 x14 x16).f1.f0) ((rd_T71 x14 x16).f1.f1) ((rd_T71 x14 x16).f2))))) else (none)) else (none)) else (some 0)
def fly_Check.j1 : Nat → List (S71) → List (S71) → Int → Int → Bool → Int → Int → Int → Int → Option (Int)
  | 0, _, _, _, _, _, _, _, _, _ => none
  | k + 1, x0, x14, x15, x16, x43, x172000, x172001, x172002, x172003 => if x43 = true then (some 12) else ((plane_Check.f x172001 x172002).bind fun t173 => (if t173 = 0 then (if x172003 < 0 then (some 4) else (if x172003 > 60000 then (some 4) else (fly_Check.l0 k x0 x14 x15 (wrap64 (x16 + 1))))) else (some t173)))
end
def fly_Check.f (k : Nat) (l0 : List (S71)) : Option (Int) := if (l0.length : Int) > 64 then (some 2) else (if (l0.length : Int) = 0 then (some 3) else (fly_Check.l0 k l0 l0 (l0.length : Int) 0))
theorem fly_Check.mono_l : ∀ k, (∀ y0 y1 y2 y3, LeO (fly_Check.l0 k y0 y1 y2 y3) (fly_Check.l0 (k + 1) y0 y1 y2 y3)) ∧ (∀ y0 y1 y2 y3 y4 y5 y6 y7 y8, LeO (fly_Check.j1 k y0 y1 y2 y3 y4 y5 y6 y7 y8) (fly_Check.j1 (k + 1) y0 y1 y2 y3 y4 y5 y6 y7 y8))
  | 0 => ⟨fun _ _ _ _ r h => by simp [fly_Check.l0] at h, fun _ _ _ _ _ _ _ _ _ r h => by simp [fly_Check.j1] at h⟩
  | k + 1 => by
    obtain ⟨ih0, ih1⟩ := fly_Check.mono_l k
    refine ⟨?_, ?_⟩
    · intro y0 y1 y2 y3
      unfold fly_Check.l0
      repeat' first
      | (with_reducible exact ih0 _ _ _ _)
      | (with_reducible exact ih1 _ _ _ _ _ _ _ _ _)
      | (with_reducible exact LeO.refl _)
      | (with_reducible exact LeO.none _)
      | (with_reducible refine LeO.ite ?_ ?_)
      | (with_reducible refine LeO.bind ?_ (fun _ => ?_))
      | exact ih0 _ _ _ _
      | exact ih1 _ _ _ _ _ _ _ _ _
      | exact LeO.none _
      | refine LeO.ite ?_ ?_
      | refine LeO.bind ?_ (fun _ => ?_)
    · intro y0 y1 y2 y3 y4 y5 y6 y7 y8
      unfold fly_Check.j1
      repeat' first
      | (with_reducible exact ih0 _ _ _ _)
      | (with_reducible exact ih1 _ _ _ _ _ _ _ _ _)
      | (with_reducible exact LeO.refl _)
      | (with_reducible exact LeO.none _)
      | (with_reducible refine LeO.ite ?_ ?_)
      | (with_reducible refine LeO.bind ?_ (fun _ => ?_))
      | exact ih0 _ _ _ _
      | exact ih1 _ _ _ _ _ _ _ _ _
      | exact LeO.none _
      | refine LeO.ite ?_ ?_
      | refine LeO.bind ?_ (fun _ => ?_)
theorem fly_Check.mono : ∀ a0 k, LeO (fly_Check.f k a0) (fly_Check.f (k + 1) a0) := by
  intro a0 k
  obtain ⟨ih0, ih1⟩ := fly_Check.mono_l k
  unfold fly_Check.f
  repeat' first
      | (with_reducible exact ih0 _ _ _ _)
      | (with_reducible exact ih1 _ _ _ _ _ _ _ _ _)
      | (with_reducible exact LeO.refl _)
      | (with_reducible exact LeO.none _)
      | (with_reducible refine LeO.ite ?_ ?_)
      | (with_reducible refine LeO.bind ?_ (fun _ => ?_))
      | exact ih0 _ _ _ _
      | exact ih1 _ _ _ _ _ _ _ _ _
      | exact LeO.none _
      | refine LeO.ite ?_ ?_
      | refine LeO.bind ?_ (fun _ => ?_)
set_option maxHeartbeats 8000000 in
set_option maxRecDepth 100000 in
theorem fly_Check.calls (k : Nat) (A0 : Option Addr) (c0 : Nat) (l0 : List (S71)) (r : Int) (w : World) (hr0 : Kd.C k71 w A0 l0.length l0) (hc0 : l0.length ≤ c0) (h : fly_Check.f k l0 = some r) :
    Calls Try.prog 76 #[.slice A0 l0.length c0] w fun e w' => e = .returned (.int .i64 r) ∧ Below w.heap.size w w' := by
 have hu71 := Try.underlying71
 have hu36 := Try.underlying36
 have HR0 := Aside0.mk hr0
 have HC0 := Aside0.mk hc0
 clear hr0 hc0
 have HB := Aside0.mk (Below.refl w.heap.size w)
 have H : (if (l0.length : Int) > 64 then (some 2) else (if (l0.length : Int) = 0 then (some 3) else (fly_Check.l0 k l0 l0 (l0.length : Int) 0))) = some r := h
 clear h
 refine Or.elim (Classical.em ((l0.length : Int) > 64)) (fun c2 => ?p2_) (fun c2 => ?n2_)
 case' p2_ =>
  rw [if_pos c2] at H
  have c2b0 : decide (64 < (l0.length : Int)) = true := decide_eq_true c2
  have c2b1 : decide (64 < l0.length) = true := decide_eq_true (by omega)
  clear c2
  have hm1_0 := Aside0.mk trivial
 case' n2_ =>
  rw [if_neg c2] at H
  have c2b0 : decide (64 < (l0.length : Int)) = false := decide_eq_false c2
  have c2b1 : decide (64 < l0.length) = false := decide_eq_false (by omega)
  clear c2
  refine Or.elim (Classical.em ((l0.length : Int) = 0)) (fun c3 => ?p3_) (fun c3 => ?n3_)
  case' p3_ =>
   rw [if_pos c3] at H
   have c3b0 : ((l0.length : Int) == 0) = true := beq_iff_eq.mpr c3
   have c3b1 : ((l0.length : Int) != 0) = false := bne_eq_false_iff_eq.mpr c3
   clear c3
   have hm1_0 := Aside0.mk trivial
  case' n3_ =>
   rw [if_neg c3] at H
   have c3b0 : ((l0.length : Int) == 0) = false := beq_eq_false_iff_ne.mpr c3
   have c3b1 : ((l0.length : Int) != 0) = true := bne_iff_ne.mpr c3
   have c3b2 : ¬ (l0 = []) := fun h_ => c3 (by rw [h_]; rfl)
   have hm1_1 := Aside0.mk trivial
 all_goals
  first
   | clear hm1_0
     obtain rfl := Option.some.inj H
     go_enter Try.func76, Try.ntmps76
     go_wp2
     repeat (go_quiet (fail); try go_wp2)
     go_ret
     exact ⟨by first | rfl | (simp [errW_none, errW_some] <;> rfl) | (simp [*, errW_none, errW_some] <;> rfl), by repeat (first | (with_reducible first | exact HB.out | apply below_alloc | apply pw_below_drewN | apply below_drew1) | exact HB.out)⟩
   | clear hm1_1
     have H' := Aside0.mk H
     clear H
     go_enter Try.func76, Try.ntmps76
     go_wp2
     repeat (go_quiet (fail); try go_wp2)
     go_loopg [16] k (fun kq v16 w' => ∃ (x16_1 : Int), v16 = .int .i64 x16_1 ∧ Aside0 (fly_Check.l0 kq l0 l0 (l0.length : Int) x16_1 = some r) ∧ Aside0 (kq ≤ k) ∧ Aside0 (Below w.heap.size w w'))
     case atStart => exact ⟨(0), (by first | rfl | (simp; done) | (simp [*]; done)), H', ⟨Nat.le_refl _⟩, ⟨by repeat (first | (with_reducible first | exact HB.out | apply below_alloc | apply pw_below_drewN | apply below_drew1) | exact HB.out)⟩⟩
     case round =>
      clear H'
      (try clear c2); (try clear c2b0); (try clear c2b1); (try clear p2); (try clear c3); (try clear c3b0); (try clear c3b1); (try clear c3b2)
      obtain ⟨x16_1, rfl, HA, HK1, HB⟩ := hrel
      cases gk with
      | zero => exact absurd HA.out (by simp [fly_Check.l0])
      | succ k1 =>
       have H := HA.out
       clear HA
       simp only [fly_Check.l0] at H
       by_cases c4 : x16_1 < (l0.length : Int)
       · rw [if_pos c4] at H
         have c4b0 : decide (x16_1 < (l0.length : Int)) = true := decide_eq_true c4
         clear c4
         by_cases c5 : 0 ≤ x16_1
         · rw [if_pos c5] at H
           have c5b0 : decide (0 ≤ x16_1) = true := decide_eq_true c5
           clear c5
           by_cases c6 : x16_1 < (l0.length : Int)
           · rw [if_pos c6] at H
             have c6b0 : decide (x16_1 < (l0.length : Int)) = true := decide_eq_true c6
             clear c6
             have HC7 := Aside0.mk H
             clear H
             have p170 : 0 ≤ (x16_1 : Int) := of_decide_eq_true (by first | (with_reducible assumption) | assumption)
             have q170 : x16_1 < (l0.length : Int) := of_decide_eq_true (by first | (with_reducible assumption) | assumption)
             obtain ⟨ad170, e170, hx170_0, hx170_1, hx170_2, hx170_3⟩ := at_T71 HR0.out x16_1 p170 q170
             cases e170
             replace hx170_0 := (HB.out.cell (World.block_lt_of_cell? w _ hx170_0)).trans hx170_0
             replace hx170_1 := (HB.out.cell (World.block_lt_of_cell? w _ hx170_1)).trans hx170_1
             replace hx170_2 := (HB.out.cell (World.block_lt_of_cell? w _ hx170_2)).trans hx170_2
             replace hx170_3 := (HB.out.cell (World.block_lt_of_cell? w _ hx170_3)).trans hx170_3
             replace p170 := eq_true p170
             replace q170 := eq_true q170
             go_upto_region 8 with (first | ((with_reducible refine gate_dst (N := 4) rfl ?_); refine box_event ?hg (N := 4) ?hd (cs := #[.int .i64 0, .int .i64 0, .int .i64 0, .int .i64 0]) (t := 71) ?hr ?_; (case hd => rfl); (case hg => rfl); (case hr => first | (go_simp; done) | (go_simp; rfl)); intro gb171 hg wxf40c1 hbox hb; have n0_ := Aside0.mk (below_step (by repeat (first | (with_reducible first | exact HB.out | apply below_alloc | apply pw_below_drewN | apply below_drew1) | exact HB.out)) hb); have n1_ := Aside0.mk (hbox); have n2_ := Aside0.mk ((by rw [hg]; exact (below_size (by repeat (first | (with_reducible first | exact HB.out | apply below_alloc | apply pw_below_drewN | apply below_drew1) | exact HB.out))) : w.heap.size ≤ gb171)); have n3_ := Aside0.mk ((by rw [hg]; exact (below_size (by repeat (first | (with_reducible first | exact HB.out | apply below_alloc | apply pw_below_drewN | apply below_drew1) | exact HB.out))) : w.heap.size ≤ gb171)); clear HB; have HB := n0_; have BK171 := n1_; have GW171 := n2_; have GE171 := n3_; clear n0_ n1_ n2_ n3_; clear hb hbox hg; have hczxf40c1 : wxf40c1.cell? ⟨gb171, 0, none⟩ = some (.int .i64 0) := (blk_cell BK171.out 0).trans rfl; have hczxf40c2 : wxf40c1.cell? ⟨gb171, 1, none⟩ = some (.int .i64 0) := (blk_cell BK171.out 1).trans rfl; have hczxf40c3 : wxf40c1.cell? ⟨gb171, 2, none⟩ = some (.int .i64 0) := (blk_cell BK171.out 2).trans rfl; have hczxf40c4 : wxf40c1.cell? ⟨gb171, 3, none⟩ = some (.int .i64 0) := (blk_cell BK171.out 3).trans rfl; have hfzxf40c1 := blk_frozen BK171.out 0; have hfzxf40c2 := blk_frozen BK171.out 1; have hfzxf40c3 := blk_frozen BK171.out 2; have hfzxf40c4 := blk_frozen BK171.out 3))
             repeat (go_quiet (first | ((with_reducible refine gate_dst (N := 4) rfl ?_); refine box_event ?hg (N := 4) ?hd (cs := #[.int .i64 0, .int .i64 0, .int .i64 0, .int .i64 0]) (t := 71) ?hr ?_; (case hd => rfl); (case hg => rfl); (case hr => first | (go_simp; done) | (go_simp; rfl)); intro gb171 hg wxf40c1 hbox hb; have n0_ := Aside0.mk (below_step (by repeat (first | (with_reducible first | exact HB.out | apply below_alloc | apply pw_below_drewN | apply below_drew1) | exact HB.out)) hb); have n1_ := Aside0.mk (hbox); have n2_ := Aside0.mk ((by rw [hg]; exact (below_size (by repeat (first | (with_reducible first | exact HB.out | apply below_alloc | apply pw_below_drewN | apply below_drew1) | exact HB.out))) : w.heap.size ≤ gb171)); have n3_ := Aside0.mk ((by rw [hg]; exact (below_size (by repeat (first | (with_reducible first | exact HB.out | apply below_alloc | apply pw_below_drewN | apply below_drew1) | exact HB.out))) : w.heap.size ≤ gb171)); clear HB; have HB := n0_; have BK171 := n1_; have GW171 := n2_; have GE171 := n3_; clear n0_ n1_ n2_ n3_; clear hb hbox hg; have hczxf40c1 : wxf40c1.cell? ⟨gb171, 0, none⟩ = some (.int .i64 0) := (blk_cell BK171.out 0).trans rfl; have hczxf40c2 : wxf40c1.cell? ⟨gb171, 1, none⟩ = some (.int .i64 0) := (blk_cell BK171.out 1).trans rfl; have hczxf40c3 : wxf40c1.cell? ⟨gb171, 2, none⟩ = some (.int .i64 0) := (blk_cell BK171.out 2).trans rfl; have hczxf40c4 : wxf40c1.cell? ⟨gb171, 3, none⟩ = some (.int .i64 0) := (blk_cell BK171.out 3).trans rfl; have hfzxf40c1 := blk_frozen BK171.out 0; have hfzxf40c2 := blk_frozen BK171.out 1; have hfzxf40c3 := blk_frozen BK171.out 2; have hfzxf40c4 := blk_frozen BK171.out 3)); go_upto_region 8 with (first | ((with_reducible refine gate_dst (N := 4) rfl ?_); refine box_event ?hg (N := 4) ?hd (cs := #[.int .i64 0, .int .i64 0, .int .i64 0, .int .i64 0]) (t := 71) ?hr ?_; (case hd => rfl); (case hg => rfl); (case hr => first | (go_simp; done) | (go_simp; rfl)); intro gb171 hg wxf40c1 hbox hb; have n0_ := Aside0.mk (below_step (by repeat (first | (with_reducible first | exact HB.out | apply below_alloc | apply pw_below_drewN | apply below_drew1) | exact HB.out)) hb); have n1_ := Aside0.mk (hbox); have n2_ := Aside0.mk ((by rw [hg]; exact (below_size (by repeat (first | (with_reducible first | exact HB.out | apply below_alloc | apply pw_below_drewN | apply below_drew1) | exact HB.out))) : w.heap.size ≤ gb171)); have n3_ := Aside0.mk ((by rw [hg]; exact (below_size (by repeat (first | (with_reducible first | exact HB.out | apply below_alloc | apply pw_below_drewN | apply below_drew1) | exact HB.out))) : w.heap.size ≤ gb171)); clear HB; have HB := n0_; have BK171 := n1_; have GW171 := n2_; have GE171 := n3_; clear n0_ n1_ n2_ n3_; clear hb hbox hg; have hczxf40c1 : wxf40c1.cell? ⟨gb171, 0, none⟩ = some (.int .i64 0) := (blk_cell BK171.out 0).trans rfl; have hczxf40c2 : wxf40c1.cell? ⟨gb171, 1, none⟩ = some (.int .i64 0) := (blk_cell BK171.out 1).trans rfl; have hczxf40c3 : wxf40c1.cell? ⟨gb171, 2, none⟩ = some (.int .i64 0) := (blk_cell BK171.out 2).trans rfl; have hczxf40c4 : wxf40c1.cell? ⟨gb171, 3, none⟩ = some (.int .i64 0) := (blk_cell BK171.out 3).trans rfl; have hfzxf40c1 := blk_frozen BK171.out 0; have hfzxf40c2 := blk_frozen BK171.out 1; have hfzxf40c3 := blk_frozen BK171.out 2; have hfzxf40c4 := blk_frozen BK171.out 3)))
             (try simp only [Act.put, List.setIfInBounds_toArray, List.set_cons_zero, List.set_cons_succ])
             go_cut [43] (fun v43 wc => ∃ (kq : Nat) (x43_6 : Bool), v43 = .bool x43_6 ∧ Aside0 (fly_Check.j1 kq l0 l0 (l0.length : Int) x16_1 x43_6 ((rd_T71 l0 x16_1).f0) ((rd_T71 l0 x16_1).f1.f0) ((rd_T71 l0 x16_1).f1.f1) ((rd_T71 l0 x16_1).f2) = some r) ∧ Aside0 (kq ≤ k1) ∧ Aside0 (wc.heap[gb171]? = some (.cells #[.int .i64 ((rd_T71 l0 x16_1).f0), .int .i64 ((rd_T71 l0 x16_1).f1.f0), .int .i64 ((rd_T71 l0 x16_1).f1.f1), .int .i64 ((rd_T71 l0 x16_1).f2)] 71 (0, 0))) ∧ Aside0 (Below w.heap.size w wc))
             case first =>
              have H := HC7.out
              clear HC7
              refine Or.elim (Classical.em (((rd_T71 l0 x16_1).f0) < 0)) (fun c10 => ?p5_) (fun c10 => ?n5_)
              case' p5_ =>
               rw [if_pos c10] at H
               have c10b0 : decide (((rd_T71 l0 x16_1).f0) < 0) = true := decide_eq_true c10
               clear c10
               (first | rw [c10b0] | (simp only [i64_w, i32_w]; rw [c10b0]) | skip)
               have hm4_0 := Aside0.mk trivial
              case' n5_ =>
               rw [if_neg c10] at H
               have c10b0 : decide (((rd_T71 l0 x16_1).f0) < 0) = false := decide_eq_false c10
               clear c10
               (first | rw [c10b0] | (simp only [i64_w, i32_w]; rw [c10b0]) | skip)
               refine Or.elim (Classical.em (((rd_T71 l0 x16_1).f0) > 200000)) (fun c12 => ?p6_) (fun c12 => ?n6_)
               case' p6_ =>
                rw [if_pos c12] at H
                have c12b0 : decide (200000 < ((rd_T71 l0 x16_1).f0)) = true := decide_eq_true c12
                clear c12
                have hm4_0 := Aside0.mk trivial
               case' n6_ =>
                rw [if_neg c12] at H
                have c12b0 : decide (200000 < ((rd_T71 l0 x16_1).f0)) = false := decide_eq_false c12
                clear c12
                refine Or.elim (Classical.em (x16_1 > 0)) (fun c14 => ?p7_) (fun c14 => ?n7_)
                case' p7_ =>
                 rw [if_pos c14] at H
                 have c14b0 : decide (0 < x16_1) = true := decide_eq_true c14
                 clear c14
                 obtain ⟨ji15, hji15⟩ : ∃ j_ : Int, (wrap64 (x16_1 - 1)) = j_ := ⟨_, rfl⟩
                 replace H : (if 0 ≤ (ji15) then (if (ji15) < (l0.length : Int) then (fly_Check.j1 k1 l0 l0 (l0.length : Int) x16_1 (decide (((rd_T71 l0 x16_1).f0) ≤ ((rd_T71 l0 (ji15)).f0))) ((rd_T71 l0 x16_1).f0) ((rd_T71 l0 x16_1).f1.f0) ((rd_T71 l0 x16_1).f1.f1) ((rd_T71 l0 x16_1).f2)) else (none)) else (none)) = some r := by first | (rw [hji15] at H; exact H) | (simp only [hji15] at H ⊢; exact H)
                 have hji15w : (IntKind.i64.wrap (x16_1 - 1)) = ji15 := (i64_w _).trans hji15
                 refine Or.elim (Classical.em (0 ≤ (ji15))) (fun c16 => ?p8_) (fun c16 => ?n8_)
                 case' p8_ =>
                  rw [if_pos c16] at H
                  have c16b0 : decide (0 ≤ (ji15)) = true := decide_eq_true c16
                  clear c16
                  refine Or.elim (Classical.em ((ji15) < (l0.length : Int))) (fun c17 => ?p9_) (fun c17 => ?n9_)
                  case' p9_ =>
                   rw [if_pos c17] at H
                   have c17b0 : decide ((ji15) < (l0.length : Int)) = true := decide_eq_true c17
                   clear c17
                   have hm4_1 := Aside0.mk trivial
                  case' n9_ =>
                   rw [if_neg c17] at H
                   exact absurd H (by simp)
                 case' n8_ =>
                  rw [if_neg c16] at H
                  exact absurd H (by simp)
                case' n7_ =>
                 rw [if_neg c14] at H
                 have c14b0 : decide (0 < x16_1) = false := decide_eq_false c14
                 clear c14
                 have hm4_0 := Aside0.mk trivial
              all_goals
               have H' := Aside0.mk H
               clear H
               have hczzd1 : wxf40c1.cell? ⟨gb171, 0, none⟩ = some (.int .i64 0) := (blk_cell BK171.out 0).trans rfl
               have hczzd2 : wxf40c1.cell? ⟨gb171, 1, none⟩ = some (.int .i64 0) := (blk_cell BK171.out 1).trans rfl
               have hczzd3 : wxf40c1.cell? ⟨gb171, 2, none⟩ = some (.int .i64 0) := (blk_cell BK171.out 2).trans rfl
               have hczzd4 : wxf40c1.cell? ⟨gb171, 3, none⟩ = some (.int .i64 0) := (blk_cell BK171.out 3).trans rfl
               have hfzzd1 := blk_frozen BK171.out 0
               have hfzzd2 := blk_frozen BK171.out 1
               have hfzzd3 := blk_frozen BK171.out 2
               have hfzzd4 := blk_frozen BK171.out 3
               first
                | clear hm4_0
                  go_wp2
                  repeat (go_quiet (fail); try go_wp2)
                  go_meet
                  case rel => first | (exact ⟨_, (true), (by first | rfl | (simp; done) | (simp [*]; done)), H', ⟨by have := HK1.out; first | omega | exact Nat.le_refl _⟩, ⟨by (with_reducible repeat (first | refine blk_drewN ?_ _ | refine blk_drew ?_ | refine blk_alloc ?_ _)); refine blk_put (cs := #[.int .i64 ((rd_T71 l0 x16_1).f0), .int .i64 ((rd_T71 l0 x16_1).f1.f0), .int .i64 ((rd_T71 l0 x16_1).f1.f1), .int .i64 0]) ?_ 3 _ rfl; (with_reducible repeat (first | refine blk_drewN ?_ _ | refine blk_drew ?_ | refine blk_alloc ?_ _)); refine blk_put (cs := #[.int .i64 ((rd_T71 l0 x16_1).f0), .int .i64 ((rd_T71 l0 x16_1).f1.f0), .int .i64 0, .int .i64 0]) ?_ 2 _ rfl; (with_reducible repeat (first | refine blk_drewN ?_ _ | refine blk_drew ?_ | refine blk_alloc ?_ _)); refine blk_put (cs := #[.int .i64 ((rd_T71 l0 x16_1).f0), .int .i64 0, .int .i64 0, .int .i64 0]) ?_ 1 _ rfl; (with_reducible repeat (first | refine blk_drewN ?_ _ | refine blk_drew ?_ | refine blk_alloc ?_ _)); refine blk_put (cs := #[.int .i64 0, .int .i64 0, .int .i64 0, .int .i64 0]) ?_ 0 _ rfl; (with_reducible repeat (first | refine blk_drewN ?_ _ | refine blk_drew ?_ | refine blk_alloc ?_ _)); exact BK171.out⟩, ⟨by repeat (first | (with_reducible first | exact HB.out | apply below_alloc | apply pw_below_drewN | apply below_drew1 | refine below_set ?_ GE171.out) | exact HB.out)⟩⟩) | (exact ⟨_, (false), (by first | rfl | (simp; done) | (simp [*]; done)), H', ⟨by have := HK1.out; first | omega | exact Nat.le_refl _⟩, ⟨by (with_reducible repeat (first | refine blk_drewN ?_ _ | refine blk_drew ?_ | refine blk_alloc ?_ _)); refine blk_put (cs := #[.int .i64 ((rd_T71 l0 x16_1).f0), .int .i64 ((rd_T71 l0 x16_1).f1.f0), .int .i64 ((rd_T71 l0 x16_1).f1.f1), .int .i64 0]) ?_ 3 _ rfl; (with_reducible repeat (first | refine blk_drewN ?_ _ | refine blk_drew ?_ | refine blk_alloc ?_ _)); refine blk_put (cs := #[.int .i64 ((rd_T71 l0 x16_1).f0), .int .i64 ((rd_T71 l0 x16_1).f1.f0), .int .i64 0, .int .i64 0]) ?_ 2 _ rfl; (with_reducible repeat (first | refine blk_drewN ?_ _ | refine blk_drew ?_ | refine blk_alloc ?_ _)); refine blk_put (cs := #[.int .i64 ((rd_T71 l0 x16_1).f0), .int .i64 0, .int .i64 0, .int .i64 0]) ?_ 1 _ rfl; (with_reducible repeat (first | refine blk_drewN ?_ _ | refine blk_drew ?_ | refine blk_alloc ?_ _)); refine blk_put (cs := #[.int .i64 0, .int .i64 0, .int .i64 0, .int .i64 0]) ?_ 0 _ rfl; (with_reducible repeat (first | refine blk_drewN ?_ _ | refine blk_drew ?_ | refine blk_alloc ?_ _)); exact BK171.out⟩, ⟨by repeat (first | (with_reducible first | exact HB.out | apply below_alloc | apply pw_below_drewN | apply below_drew1 | refine below_set ?_ GE171.out) | exact HB.out)⟩⟩)
                | clear hm4_1
                  have p172 : 0 ≤ ((ji15) : Int) := of_decide_eq_true (by first | (with_reducible assumption) | assumption)
                  have q172 : (ji15) < (l0.length : Int) := of_decide_eq_true (by first | (with_reducible assumption) | assumption)
                  obtain ⟨ad172, e172, hx172_0, hx172_1, hx172_2, hx172_3⟩ := at_T71 HR0.out (ji15) p172 q172
                  obtain rfl : ad170 = ad172 := (by injection e172)
                  have hn172_0 : ad170.block ≠ gb171 := Nat.ne_of_lt (Nat.lt_of_lt_of_le (by have := World.block_lt_of_cell? _ _ hx172_0; first | rwa [add_block] at this | exact this) GW171.out)
                  have hn172_1 : ad170.block ≠ gb171 := Nat.ne_of_lt (Nat.lt_of_lt_of_le (by have := World.block_lt_of_cell? _ _ hx172_0; first | rwa [add_block] at this | exact this) GW171.out)
                  have hn172_2 : ad170.block ≠ gb171 := Nat.ne_of_lt (Nat.lt_of_lt_of_le (by have := World.block_lt_of_cell? _ _ hx172_0; first | rwa [add_block] at this | exact this) GW171.out)
                  have hn172_3 : ad170.block ≠ gb171 := Nat.ne_of_lt (Nat.lt_of_lt_of_le (by have := World.block_lt_of_cell? _ _ hx172_0; first | rwa [add_block] at this | exact this) GW171.out)
                  replace hx172_0 := (HB.out.cell (World.block_lt_of_cell? w _ hx172_0)).trans hx172_0
                  replace hx172_1 := (HB.out.cell (World.block_lt_of_cell? w _ hx172_1)).trans hx172_1
                  replace hx172_2 := (HB.out.cell (World.block_lt_of_cell? w _ hx172_2)).trans hx172_2
                  replace hx172_3 := (HB.out.cell (World.block_lt_of_cell? w _ hx172_3)).trans hx172_3
                  (try have hb172_0 := fun (n_ : Nat) => (show (wxf40c1.drewN n_).cell? _ = some _ from hx172_0))
                  replace hx172_0 := (cell_far (p := ⟨gb171, 0, none⟩) (by first | (rw [add_block]; exact hn172_0) | (show (Addr.add _ _).block ≠ _; rw [add_block]; exact hn172_0) | exact hn172_0) (.int .i64 ((rd_T71 l0 x16_1).f0))).trans hx172_0
                  (try replace hb172_0 := fun (n_ : Nat) => ((cell_far (p := ⟨gb171, 0, none⟩) (by first | (rw [add_block]; exact hn172_0) | (show (Addr.add _ _).block ≠ _; rw [add_block]; exact hn172_0) | exact hn172_0) (.int .i64 ((rd_T71 l0 x16_1).f0)))).trans (hb172_0 n_))
                  (try have hb172_1 := fun (n_ : Nat) => (show (wxf40c1.drewN n_).cell? _ = some _ from hx172_1))
                  replace hx172_1 := (cell_far (p := ⟨gb171, 0, none⟩) (by first | (rw [add_block]; exact hn172_0) | (show (Addr.add _ _).block ≠ _; rw [add_block]; exact hn172_0) | exact hn172_0) (.int .i64 ((rd_T71 l0 x16_1).f0))).trans hx172_1
                  (try replace hb172_1 := fun (n_ : Nat) => ((cell_far (p := ⟨gb171, 0, none⟩) (by first | (rw [add_block]; exact hn172_0) | (show (Addr.add _ _).block ≠ _; rw [add_block]; exact hn172_0) | exact hn172_0) (.int .i64 ((rd_T71 l0 x16_1).f0)))).trans (hb172_1 n_))
                  (try have hb172_2 := fun (n_ : Nat) => (show (wxf40c1.drewN n_).cell? _ = some _ from hx172_2))
                  replace hx172_2 := (cell_far (p := ⟨gb171, 0, none⟩) (by first | (rw [add_block]; exact hn172_0) | (show (Addr.add _ _).block ≠ _; rw [add_block]; exact hn172_0) | exact hn172_0) (.int .i64 ((rd_T71 l0 x16_1).f0))).trans hx172_2
                  (try replace hb172_2 := fun (n_ : Nat) => ((cell_far (p := ⟨gb171, 0, none⟩) (by first | (rw [add_block]; exact hn172_0) | (show (Addr.add _ _).block ≠ _; rw [add_block]; exact hn172_0) | exact hn172_0) (.int .i64 ((rd_T71 l0 x16_1).f0)))).trans (hb172_2 n_))
                  (try have hb172_3 := fun (n_ : Nat) => (show (wxf40c1.drewN n_).cell? _ = some _ from hx172_3))
                  replace hx172_3 := (cell_far (p := ⟨gb171, 0, none⟩) (by first | (rw [add_block]; exact hn172_0) | (show (Addr.add _ _).block ≠ _; rw [add_block]; exact hn172_0) | exact hn172_0) (.int .i64 ((rd_T71 l0 x16_1).f0))).trans hx172_3
                  (try replace hb172_3 := fun (n_ : Nat) => ((cell_far (p := ⟨gb171, 0, none⟩) (by first | (rw [add_block]; exact hn172_0) | (show (Addr.add _ _).block ≠ _; rw [add_block]; exact hn172_0) | exact hn172_0) (.int .i64 ((rd_T71 l0 x16_1).f0)))).trans (hb172_3 n_))
                  replace hx172_0 := (cell_far (p := ⟨gb171, 1, none⟩) (by first | (rw [add_block]; exact hn172_1) | (show (Addr.add _ _).block ≠ _; rw [add_block]; exact hn172_1) | exact hn172_1) (.int .i64 ((rd_T71 l0 x16_1).f1.f0))).trans hx172_0
                  (try replace hb172_0 := fun (n_ : Nat) => ((cell_far (p := ⟨gb171, 1, none⟩) (by first | (rw [add_block]; exact hn172_1) | (show (Addr.add _ _).block ≠ _; rw [add_block]; exact hn172_1) | exact hn172_1) (.int .i64 ((rd_T71 l0 x16_1).f1.f0)))).trans (hb172_0 n_))
                  replace hx172_1 := (cell_far (p := ⟨gb171, 1, none⟩) (by first | (rw [add_block]; exact hn172_1) | (show (Addr.add _ _).block ≠ _; rw [add_block]; exact hn172_1) | exact hn172_1) (.int .i64 ((rd_T71 l0 x16_1).f1.f0))).trans hx172_1
                  (try replace hb172_1 := fun (n_ : Nat) => ((cell_far (p := ⟨gb171, 1, none⟩) (by first | (rw [add_block]; exact hn172_1) | (show (Addr.add _ _).block ≠ _; rw [add_block]; exact hn172_1) | exact hn172_1) (.int .i64 ((rd_T71 l0 x16_1).f1.f0)))).trans (hb172_1 n_))
                  replace hx172_2 := (cell_far (p := ⟨gb171, 1, none⟩) (by first | (rw [add_block]; exact hn172_1) | (show (Addr.add _ _).block ≠ _; rw [add_block]; exact hn172_1) | exact hn172_1) (.int .i64 ((rd_T71 l0 x16_1).f1.f0))).trans hx172_2
                  (try replace hb172_2 := fun (n_ : Nat) => ((cell_far (p := ⟨gb171, 1, none⟩) (by first | (rw [add_block]; exact hn172_1) | (show (Addr.add _ _).block ≠ _; rw [add_block]; exact hn172_1) | exact hn172_1) (.int .i64 ((rd_T71 l0 x16_1).f1.f0)))).trans (hb172_2 n_))
                  replace hx172_3 := (cell_far (p := ⟨gb171, 1, none⟩) (by first | (rw [add_block]; exact hn172_1) | (show (Addr.add _ _).block ≠ _; rw [add_block]; exact hn172_1) | exact hn172_1) (.int .i64 ((rd_T71 l0 x16_1).f1.f0))).trans hx172_3
                  (try replace hb172_3 := fun (n_ : Nat) => ((cell_far (p := ⟨gb171, 1, none⟩) (by first | (rw [add_block]; exact hn172_1) | (show (Addr.add _ _).block ≠ _; rw [add_block]; exact hn172_1) | exact hn172_1) (.int .i64 ((rd_T71 l0 x16_1).f1.f0)))).trans (hb172_3 n_))
                  replace hx172_0 := (cell_far (p := ⟨gb171, 2, none⟩) (by first | (rw [add_block]; exact hn172_2) | (show (Addr.add _ _).block ≠ _; rw [add_block]; exact hn172_2) | exact hn172_2) (.int .i64 ((rd_T71 l0 x16_1).f1.f1))).trans hx172_0
                  (try replace hb172_0 := fun (n_ : Nat) => ((cell_far (p := ⟨gb171, 2, none⟩) (by first | (rw [add_block]; exact hn172_2) | (show (Addr.add _ _).block ≠ _; rw [add_block]; exact hn172_2) | exact hn172_2) (.int .i64 ((rd_T71 l0 x16_1).f1.f1)))).trans (hb172_0 n_))
                  replace hx172_1 := (cell_far (p := ⟨gb171, 2, none⟩) (by first | (rw [add_block]; exact hn172_2) | (show (Addr.add _ _).block ≠ _; rw [add_block]; exact hn172_2) | exact hn172_2) (.int .i64 ((rd_T71 l0 x16_1).f1.f1))).trans hx172_1
                  (try replace hb172_1 := fun (n_ : Nat) => ((cell_far (p := ⟨gb171, 2, none⟩) (by first | (rw [add_block]; exact hn172_2) | (show (Addr.add _ _).block ≠ _; rw [add_block]; exact hn172_2) | exact hn172_2) (.int .i64 ((rd_T71 l0 x16_1).f1.f1)))).trans (hb172_1 n_))
                  replace hx172_2 := (cell_far (p := ⟨gb171, 2, none⟩) (by first | (rw [add_block]; exact hn172_2) | (show (Addr.add _ _).block ≠ _; rw [add_block]; exact hn172_2) | exact hn172_2) (.int .i64 ((rd_T71 l0 x16_1).f1.f1))).trans hx172_2
                  (try replace hb172_2 := fun (n_ : Nat) => ((cell_far (p := ⟨gb171, 2, none⟩) (by first | (rw [add_block]; exact hn172_2) | (show (Addr.add _ _).block ≠ _; rw [add_block]; exact hn172_2) | exact hn172_2) (.int .i64 ((rd_T71 l0 x16_1).f1.f1)))).trans (hb172_2 n_))
                  replace hx172_3 := (cell_far (p := ⟨gb171, 2, none⟩) (by first | (rw [add_block]; exact hn172_2) | (show (Addr.add _ _).block ≠ _; rw [add_block]; exact hn172_2) | exact hn172_2) (.int .i64 ((rd_T71 l0 x16_1).f1.f1))).trans hx172_3
                  (try replace hb172_3 := fun (n_ : Nat) => ((cell_far (p := ⟨gb171, 2, none⟩) (by first | (rw [add_block]; exact hn172_2) | (show (Addr.add _ _).block ≠ _; rw [add_block]; exact hn172_2) | exact hn172_2) (.int .i64 ((rd_T71 l0 x16_1).f1.f1)))).trans (hb172_3 n_))
                  replace hx172_0 := (cell_far (p := ⟨gb171, 3, none⟩) (by first | (rw [add_block]; exact hn172_3) | (show (Addr.add _ _).block ≠ _; rw [add_block]; exact hn172_3) | exact hn172_3) (.int .i64 ((rd_T71 l0 x16_1).f2))).trans hx172_0
                  (try replace hb172_0 := fun (n_ : Nat) => ((cell_far (p := ⟨gb171, 3, none⟩) (by first | (rw [add_block]; exact hn172_3) | (show (Addr.add _ _).block ≠ _; rw [add_block]; exact hn172_3) | exact hn172_3) (.int .i64 ((rd_T71 l0 x16_1).f2)))).trans (hb172_0 n_))
                  replace hx172_1 := (cell_far (p := ⟨gb171, 3, none⟩) (by first | (rw [add_block]; exact hn172_3) | (show (Addr.add _ _).block ≠ _; rw [add_block]; exact hn172_3) | exact hn172_3) (.int .i64 ((rd_T71 l0 x16_1).f2))).trans hx172_1
                  (try replace hb172_1 := fun (n_ : Nat) => ((cell_far (p := ⟨gb171, 3, none⟩) (by first | (rw [add_block]; exact hn172_3) | (show (Addr.add _ _).block ≠ _; rw [add_block]; exact hn172_3) | exact hn172_3) (.int .i64 ((rd_T71 l0 x16_1).f2)))).trans (hb172_1 n_))
                  replace hx172_2 := (cell_far (p := ⟨gb171, 3, none⟩) (by first | (rw [add_block]; exact hn172_3) | (show (Addr.add _ _).block ≠ _; rw [add_block]; exact hn172_3) | exact hn172_3) (.int .i64 ((rd_T71 l0 x16_1).f2))).trans hx172_2
                  (try replace hb172_2 := fun (n_ : Nat) => ((cell_far (p := ⟨gb171, 3, none⟩) (by first | (rw [add_block]; exact hn172_3) | (show (Addr.add _ _).block ≠ _; rw [add_block]; exact hn172_3) | exact hn172_3) (.int .i64 ((rd_T71 l0 x16_1).f2)))).trans (hb172_2 n_))
                  replace hx172_3 := (cell_far (p := ⟨gb171, 3, none⟩) (by first | (rw [add_block]; exact hn172_3) | (show (Addr.add _ _).block ≠ _; rw [add_block]; exact hn172_3) | exact hn172_3) (.int .i64 ((rd_T71 l0 x16_1).f2))).trans hx172_3
                  (try replace hb172_3 := fun (n_ : Nat) => ((cell_far (p := ⟨gb171, 3, none⟩) (by first | (rw [add_block]; exact hn172_3) | (show (Addr.add _ _).block ≠ _; rw [add_block]; exact hn172_3) | exact hn172_3) (.int .i64 ((rd_T71 l0 x16_1).f2)))).trans (hb172_3 n_))
                  (try have hy172_0 := hb172_0)
                  (try clear hb172_0)
                  (try have hy172_1 := hb172_1)
                  (try clear hb172_1)
                  (try have hy172_2 := hb172_2)
                  (try clear hb172_2)
                  (try have hy172_3 := hb172_3)
                  (try clear hb172_3)
                  clear hn172_0
                  clear hn172_1
                  clear hn172_2
                  clear hn172_3
                  replace p172 := eq_true p172
                  replace q172 := eq_true q172
                  go_wp2
                  repeat (go_quiet (fail); try go_wp2)
                  go_meet
                  case rel => exact ⟨_, (decide (((rd_T71 l0 x16_1).f0) ≤ ((rd_T71 l0 (ji15)).f0))), (by first | rfl | (simp; done) | (simp only [← hji15] <;> (first | rfl | (simp; done))) | (simp [*]; done) | (refine congrArg Value.bool ?_; rw [Bool.eq_iff_iff]; simp only [beq_iff_eq, decide_eq_true_eq, List.length_take]; omega)), H', ⟨by have := HK1.out; first | omega | exact Nat.le_refl _⟩, ⟨by (with_reducible repeat (first | refine blk_drewN ?_ _ | refine blk_drew ?_ | refine blk_alloc ?_ _)); refine blk_put (cs := #[.int .i64 ((rd_T71 l0 x16_1).f0), .int .i64 ((rd_T71 l0 x16_1).f1.f0), .int .i64 ((rd_T71 l0 x16_1).f1.f1), .int .i64 0]) ?_ 3 _ rfl; (with_reducible repeat (first | refine blk_drewN ?_ _ | refine blk_drew ?_ | refine blk_alloc ?_ _)); refine blk_put (cs := #[.int .i64 ((rd_T71 l0 x16_1).f0), .int .i64 ((rd_T71 l0 x16_1).f1.f0), .int .i64 0, .int .i64 0]) ?_ 2 _ rfl; (with_reducible repeat (first | refine blk_drewN ?_ _ | refine blk_drew ?_ | refine blk_alloc ?_ _)); refine blk_put (cs := #[.int .i64 ((rd_T71 l0 x16_1).f0), .int .i64 0, .int .i64 0, .int .i64 0]) ?_ 1 _ rfl; (with_reducible repeat (first | refine blk_drewN ?_ _ | refine blk_drew ?_ | refine blk_alloc ?_ _)); refine blk_put (cs := #[.int .i64 0, .int .i64 0, .int .i64 0, .int .i64 0]) ?_ 0 _ rfl; (with_reducible repeat (first | refine blk_drewN ?_ _ | refine blk_drew ?_ | refine blk_alloc ?_ _)); exact BK171.out⟩, ⟨by repeat (first | (with_reducible first | exact HB.out | apply below_alloc | apply pw_below_drewN | apply below_drew1 | refine below_set ?_ GE171.out) | exact HB.out)⟩⟩
             case rest =>
              clear HC7
              (try clear c1); (try clear p1); (try clear q1); (try clear hx1); (try clear c2); (try clear c2b0); (try clear c2b1); (try clear p2); (try clear c3); (try clear c3b0); (try clear c3b1); (try clear c3b2); (try clear c4); (try clear c4b0); (try clear c5); (try clear c5b0); (try clear c6); (try clear c6b0); (try clear p6); (try clear c7); (try clear c10); (try clear c10b0); (try clear c12); (try clear c12b0); (try clear c14); (try clear c14b0); (try clear c16); (try clear c16b0); (try clear c17); (try clear c17b0); (try clear p17); (try clear q17); (try clear hx17); (try clear hczzc1); (try clear hczzc2); (try clear hczzc3); (try clear hczzc4); (try clear hczzc5); (try clear hczzc6); (try clear hczzc7)
              (try clear hczzc8); (try clear hczzc9); (try clear hczzc10); (try clear hczzc11); (try clear hczzc12); (try clear hczzc13); (try clear hczzc14); (try clear hczzc15); (try clear hczzc16); (try clear hczxf40c1); (try clear hczxf40c2); (try clear hczxf40c3); (try clear hczxf40c4); (try clear hfzzc1); (try clear hfzzc2); (try clear hfzzc3); (try clear hfzzc4); (try clear hfzzc5); (try clear hfzzc6); (try clear hfzzc7); (try clear hfzzc8); (try clear hfzzc9); (try clear hfzzc10); (try clear hfzzc11); (try clear hfzzc12); (try clear hfzzc13); (try clear hfzzc14); (try clear hfzzc15); (try clear hfzzc16); (try clear hfzxf40c1); (try clear hfzxf40c2); (try clear hfzxf40c3); (try clear hfzxf40c4); (try clear hx170_0); (try clear hx170_1); (try clear hx170_2); (try clear hx170_3); (try clear hx172_0); (try clear hx172_1); (try clear hx172_2)
              (try clear hx172_3); (try clear p170); (try clear p172); (try clear p2); (try clear q170); (try clear q172)
              obtain ⟨kq, x43_6, rfl, HA, HJ6, BK171, HB⟩ := hcut
              cases kq with
              | zero => exact absurd HA.out (by simp [fly_Check.j1])
              | succ kj6 =>
               have H := HA.out
               clear HA
               simp only [fly_Check.j1] at H
               refine Or.elim (Classical.em (x43_6 = true)) (fun c20 => ?p11_) (fun c20 => ?n11_)
               case' p11_ =>
                subst c20
                have H1 : (some 12) = some r := by rw [if_pos rfl] at H; exact H
                clear H
                have H := H1
                clear H1
                have hm10_0 := Aside0.mk trivial
               case' n11_ =>
                replace c20 := Bool.eq_false_iff.mpr c20
                subst c20
                have H1 : ((plane_Check.f ((rd_T71 l0 x16_1).f1.f0) ((rd_T71 l0 x16_1).f1.f1)).bind fun t173 => (if t173 = 0 then (if ((rd_T71 l0 x16_1).f2) < 0 then (some 4) else (if ((rd_T71 l0 x16_1).f2) > 60000 then (some 4) else (fly_Check.l0 kj6 l0 l0 (l0.length : Int) (wrap64 (x16_1 + 1))))) else (some t173))) = some r := by rw [if_neg (show ¬ (false = true) by decide)] at H; exact H
                clear H
                have H := H1
                clear H1
                replace H := Option.bind_eq_some_iff.mp H
                obtain ⟨t173, A210, H⟩ := H
                replace H : (if t173 = 0 then (if ((rd_T71 l0 x16_1).f2) < 0 then (some 4) else (if ((rd_T71 l0 x16_1).f2) > 60000 then (some 4) else (fly_Check.l0 kj6 l0 l0 (l0.length : Int) (wrap64 (x16_1 + 1))))) else (some t173)) = some r := H
                have A21 := Aside0.mk A210
                clear A210
                refine Or.elim (Classical.em (t173 = 0)) (fun c22 => ?p12_) (fun c22 => ?n12_)
                case' p12_ =>
                 rw [if_pos c22] at H
                 have c22b0 : (t173 == 0) = true := beq_iff_eq.mpr c22
                 have c22b1 : (t173 != 0) = false := bne_eq_false_iff_eq.mpr c22
                 clear c22
                 refine Or.elim (Classical.em (((rd_T71 l0 x16_1).f2) < 0)) (fun c23 => ?p13_) (fun c23 => ?n13_)
                 case' p13_ =>
                  rw [if_pos c23] at H
                  have c23b0 : decide (((rd_T71 l0 x16_1).f2) < 0) = true := decide_eq_true c23
                  clear c23
                  have hm10_1 := Aside0.mk trivial
                 case' n13_ =>
                  rw [if_neg c23] at H
                  have c23b0 : decide (((rd_T71 l0 x16_1).f2) < 0) = false := decide_eq_false c23
                  clear c23
                  refine Or.elim (Classical.em (((rd_T71 l0 x16_1).f2) > 60000)) (fun c27 => ?p14_) (fun c27 => ?n14_)
                  case' p14_ =>
                   rw [if_pos c27] at H
                   have c27b0 : decide (60000 < ((rd_T71 l0 x16_1).f2)) = true := decide_eq_true c27
                   clear c27
                   have hm10_1 := Aside0.mk trivial
                  case' n14_ =>
                   rw [if_neg c27] at H
                   have c27b0 : decide (60000 < ((rd_T71 l0 x16_1).f2)) = false := decide_eq_false c27
                   clear c27
                   have hm10_2 := Aside0.mk trivial
                case' n12_ =>
                 rw [if_neg c22] at H
                 have c22b0 : (t173 == 0) = false := beq_eq_false_iff_ne.mpr c22
                 have c22b1 : (t173 != 0) = true := bne_iff_ne.mpr c22
                 have hm10_3 := Aside0.mk trivial
               all_goals
                first
                 | (first | (have _hm := hm10_0) | (have _hm := hm10_1) | (have _hm := hm10_3))
                   obtain rfl := Option.some.inj H
                   first
                    | clear hm10_0
                      go_wp2
                      repeat (go_quiet (fail); try go_wp2)
                      go_ret
                      exact ⟨by first | rfl | (simp [errW_none, errW_some] <;> rfl) | (simp [*, errW_none, errW_some] <;> rfl), by repeat (first | (with_reducible first | exact HB.out | apply below_alloc | apply pw_below_drewN | apply below_drew1 | refine below_set ?_ GE171.out) | exact HB.out)⟩
                    | (first | (have _hm := hm10_1) | (have _hm := hm10_3))
                      have hczze1 : wc.cell? ⟨gb171, 0, none⟩ = some (.int .i64 ((rd_T71 l0 x16_1).f0)) := (blk_cell BK171.out 0).trans rfl
                      have hczze2 : wc.cell? ⟨gb171, 1, none⟩ = some (.int .i64 ((rd_T71 l0 x16_1).f1.f0)) := (blk_cell BK171.out 1).trans rfl
                      have hczze3 : wc.cell? ⟨gb171, 2, none⟩ = some (.int .i64 ((rd_T71 l0 x16_1).f1.f1)) := (blk_cell BK171.out 2).trans rfl
                      have hczze4 : wc.cell? ⟨gb171, 3, none⟩ = some (.int .i64 ((rd_T71 l0 x16_1).f2)) := (blk_cell BK171.out 3).trans rfl
                      have hfzze1 := blk_frozen BK171.out 0
                      have hfzze2 := blk_frozen BK171.out 1
                      have hfzze3 := blk_frozen BK171.out 2
                      have hfzze4 := blk_frozen BK171.out 3
                      go_wp2_with (first | (go_at_call 57; (with_reducible refine (plane_Check.calls ((rd_T71 l0 x16_1).f1.f0) ((rd_T71 l0 x16_1).f1.f1) t173 _ A21.out).mono ?_); rintro e wx2b931 ⟨rfl, hb⟩; have n0_ := Aside0.mk (blk_below (g := gb171) (o := .cells #[.int .i64 ((rd_T71 l0 x16_1).f0), .int .i64 ((rd_T71 l0 x16_1).f1.f0), .int .i64 ((rd_T71 l0 x16_1).f1.f1), .int .i64 ((rd_T71 l0 x16_1).f2)] 71 (0, 0)) (by (with_reducible repeat (first | refine blk_drewN ?_ _ | refine blk_drew ?_ | refine blk_alloc ?_ _)); exact BK171.out) hb); have n1_ := Aside0.mk (below_step (by repeat (first | (with_reducible first | exact HB.out | apply below_alloc | apply pw_below_drewN | apply below_drew1 | refine below_set ?_ GE171.out) | exact HB.out)) hb); clear BK171; clear HB; have BK171 := n0_; have HB := n1_; clear n0_ n1_; (try clear hb); (try clear hb2); (try clear hk); (try clear hi); have hczy5a7c40 : wx2b931.cell? ⟨gb171, 0, none⟩ = some (.int .i64 ((rd_T71 l0 x16_1).f0)) := (blk_cell BK171.out 0).trans rfl; have hczy5a7c41 : wx2b931.cell? ⟨gb171, 1, none⟩ = some (.int .i64 ((rd_T71 l0 x16_1).f1.f0)) := (blk_cell BK171.out 1).trans rfl; have hczy5a7c42 : wx2b931.cell? ⟨gb171, 2, none⟩ = some (.int .i64 ((rd_T71 l0 x16_1).f1.f1)) := (blk_cell BK171.out 2).trans rfl; have hczy5a7c43 : wx2b931.cell? ⟨gb171, 3, none⟩ = some (.int .i64 ((rd_T71 l0 x16_1).f2)) := (blk_cell BK171.out 3).trans rfl; have hfzy5a7c44 := blk_frozen BK171.out 0; have hfzy5a7c45 := blk_frozen BK171.out 1; have hfzy5a7c46 := blk_frozen BK171.out 2; have hfzy5a7c47 := blk_frozen BK171.out 3))
                      first
                       | clear hm10_1
                         repeat (go_quiet (first | (go_at_call 57; (with_reducible refine (plane_Check.calls ((rd_T71 l0 x16_1).f1.f0) ((rd_T71 l0 x16_1).f1.f1) t173 _ A21.out).mono ?_); rintro e wx2b931 ⟨rfl, hb⟩; have n0_ := Aside0.mk (blk_below (g := gb171) (o := .cells #[.int .i64 ((rd_T71 l0 x16_1).f0), .int .i64 ((rd_T71 l0 x16_1).f1.f0), .int .i64 ((rd_T71 l0 x16_1).f1.f1), .int .i64 ((rd_T71 l0 x16_1).f2)] 71 (0, 0)) (by (with_reducible repeat (first | refine blk_drewN ?_ _ | refine blk_drew ?_ | refine blk_alloc ?_ _)); exact BK171.out) hb); have n1_ := Aside0.mk (below_step (by repeat (first | (with_reducible first | exact HB.out | apply below_alloc | apply pw_below_drewN | apply below_drew1 | refine below_set ?_ GE171.out) | exact HB.out)) hb); clear BK171; clear HB; have BK171 := n0_; have HB := n1_; clear n0_ n1_; (try clear hb); (try clear hb2); (try clear hk); (try clear hi); have hczze5 : wx2b931.cell? ⟨gb171, 0, none⟩ = some (.int .i64 ((rd_T71 l0 x16_1).f0)) := (blk_cell BK171.out 0).trans rfl; have hczze6 : wx2b931.cell? ⟨gb171, 1, none⟩ = some (.int .i64 ((rd_T71 l0 x16_1).f1.f0)) := (blk_cell BK171.out 1).trans rfl; have hczze7 : wx2b931.cell? ⟨gb171, 2, none⟩ = some (.int .i64 ((rd_T71 l0 x16_1).f1.f1)) := (blk_cell BK171.out 2).trans rfl; have hczze8 : wx2b931.cell? ⟨gb171, 3, none⟩ = some (.int .i64 ((rd_T71 l0 x16_1).f2)) := (blk_cell BK171.out 3).trans rfl; have hfzze5 := blk_frozen BK171.out 0; have hfzze6 := blk_frozen BK171.out 1; have hfzze7 := blk_frozen BK171.out 2; have hfzze8 := blk_frozen BK171.out 3)); try go_wp2_with (first | (go_at_call 57; (with_reducible refine (plane_Check.calls ((rd_T71 l0 x16_1).f1.f0) ((rd_T71 l0 x16_1).f1.f1) t173 _ A21.out).mono ?_); rintro e wx2b931 ⟨rfl, hb⟩; have n0_ := Aside0.mk (blk_below (g := gb171) (o := .cells #[.int .i64 ((rd_T71 l0 x16_1).f0), .int .i64 ((rd_T71 l0 x16_1).f1.f0), .int .i64 ((rd_T71 l0 x16_1).f1.f1), .int .i64 ((rd_T71 l0 x16_1).f2)] 71 (0, 0)) (by (with_reducible repeat (first | refine blk_drewN ?_ _ | refine blk_drew ?_ | refine blk_alloc ?_ _)); exact BK171.out) hb); have n1_ := Aside0.mk (below_step (by repeat (first | (with_reducible first | exact HB.out | apply below_alloc | apply pw_below_drewN | apply below_drew1 | refine below_set ?_ GE171.out) | exact HB.out)) hb); clear BK171; clear HB; have BK171 := n0_; have HB := n1_; clear n0_ n1_; (try clear hb); (try clear hb2); (try clear hk); (try clear hi); have hczze5 : wx2b931.cell? ⟨gb171, 0, none⟩ = some (.int .i64 ((rd_T71 l0 x16_1).f0)) := (blk_cell BK171.out 0).trans rfl; have hczze6 : wx2b931.cell? ⟨gb171, 1, none⟩ = some (.int .i64 ((rd_T71 l0 x16_1).f1.f0)) := (blk_cell BK171.out 1).trans rfl; have hczze7 : wx2b931.cell? ⟨gb171, 2, none⟩ = some (.int .i64 ((rd_T71 l0 x16_1).f1.f1)) := (blk_cell BK171.out 2).trans rfl; have hczze8 : wx2b931.cell? ⟨gb171, 3, none⟩ = some (.int .i64 ((rd_T71 l0 x16_1).f2)) := (blk_cell BK171.out 3).trans rfl; have hfzze5 := blk_frozen BK171.out 0; have hfzze6 := blk_frozen BK171.out 1; have hfzze7 := blk_frozen BK171.out 2; have hfzze8 := blk_frozen BK171.out 3)))
                         go_ret
                         exact ⟨by first | rfl | (simp [errW_none, errW_some] <;> rfl) | (simp [*, errW_none, errW_some] <;> rfl), by repeat (first | (with_reducible first | exact HB.out | apply below_alloc | apply pw_below_drewN | apply below_drew1 | refine below_set ?_ GE171.out) | exact HB.out)⟩
                       | clear hm10_3
                         repeat (go_quiet (first | (go_at_call 57; (with_reducible refine (plane_Check.calls ((rd_T71 l0 x16_1).f1.f0) ((rd_T71 l0 x16_1).f1.f1) t173 _ A21.out).mono ?_); rintro e wx48c71 ⟨rfl, hb⟩; have n0_ := Aside0.mk (blk_below (g := gb171) (o := .cells #[.int .i64 ((rd_T71 l0 x16_1).f0), .int .i64 ((rd_T71 l0 x16_1).f1.f0), .int .i64 ((rd_T71 l0 x16_1).f1.f1), .int .i64 ((rd_T71 l0 x16_1).f2)] 71 (0, 0)) (by (with_reducible repeat (first | refine blk_drewN ?_ _ | refine blk_drew ?_ | refine blk_alloc ?_ _)); exact BK171.out) hb); have n1_ := Aside0.mk (below_step (by repeat (first | (with_reducible first | exact HB.out | apply below_alloc | apply pw_below_drewN | apply below_drew1 | refine below_set ?_ GE171.out) | exact HB.out)) hb); clear BK171; clear HB; have BK171 := n0_; have HB := n1_; clear n0_ n1_; (try clear hb); (try clear hb2); (try clear hk); (try clear hi))); try go_wp2_with (first | (go_at_call 57; (with_reducible refine (plane_Check.calls ((rd_T71 l0 x16_1).f1.f0) ((rd_T71 l0 x16_1).f1.f1) t173 _ A21.out).mono ?_); rintro e wx48c71 ⟨rfl, hb⟩; have n0_ := Aside0.mk (blk_below (g := gb171) (o := .cells #[.int .i64 ((rd_T71 l0 x16_1).f0), .int .i64 ((rd_T71 l0 x16_1).f1.f0), .int .i64 ((rd_T71 l0 x16_1).f1.f1), .int .i64 ((rd_T71 l0 x16_1).f2)] 71 (0, 0)) (by (with_reducible repeat (first | refine blk_drewN ?_ _ | refine blk_drew ?_ | refine blk_alloc ?_ _)); exact BK171.out) hb); have n1_ := Aside0.mk (below_step (by repeat (first | (with_reducible first | exact HB.out | apply below_alloc | apply pw_below_drewN | apply below_drew1 | refine below_set ?_ GE171.out) | exact HB.out)) hb); clear BK171; clear HB; have BK171 := n0_; have HB := n1_; clear n0_ n1_; (try clear hb); (try clear hb2); (try clear hk); (try clear hi))))
                         go_ret
                         exact ⟨by first | rfl | (simp [errW_none, errW_some] <;> rfl) | (simp [*, errW_none, errW_some] <;> rfl), by repeat (first | (with_reducible first | exact HB.out | apply below_alloc | apply pw_below_drewN | apply below_drew1 | refine below_set ?_ GE171.out) | exact HB.out)⟩
                 | clear hm10_2
                   have H' := Aside0.mk H
                   clear H
                   have hczze1 : wc.cell? ⟨gb171, 0, none⟩ = some (.int .i64 ((rd_T71 l0 x16_1).f0)) := (blk_cell BK171.out 0).trans rfl
                   have hczze2 : wc.cell? ⟨gb171, 1, none⟩ = some (.int .i64 ((rd_T71 l0 x16_1).f1.f0)) := (blk_cell BK171.out 1).trans rfl
                   have hczze3 : wc.cell? ⟨gb171, 2, none⟩ = some (.int .i64 ((rd_T71 l0 x16_1).f1.f1)) := (blk_cell BK171.out 2).trans rfl
                   have hczze4 : wc.cell? ⟨gb171, 3, none⟩ = some (.int .i64 ((rd_T71 l0 x16_1).f2)) := (blk_cell BK171.out 3).trans rfl
                   have hfzze1 := blk_frozen BK171.out 0
                   have hfzze2 := blk_frozen BK171.out 1
                   have hfzze3 := blk_frozen BK171.out 2
                   have hfzze4 := blk_frozen BK171.out 3
                   go_wp2_with (first | (go_at_call 57; (with_reducible refine (plane_Check.calls ((rd_T71 l0 x16_1).f1.f0) ((rd_T71 l0 x16_1).f1.f1) t173 _ A21.out).mono ?_); rintro e wx2b931 ⟨rfl, hb⟩; have n0_ := Aside0.mk (blk_below (g := gb171) (o := .cells #[.int .i64 ((rd_T71 l0 x16_1).f0), .int .i64 ((rd_T71 l0 x16_1).f1.f0), .int .i64 ((rd_T71 l0 x16_1).f1.f1), .int .i64 ((rd_T71 l0 x16_1).f2)] 71 (0, 0)) (by (with_reducible repeat (first | refine blk_drewN ?_ _ | refine blk_drew ?_ | refine blk_alloc ?_ _)); exact BK171.out) hb); have n1_ := Aside0.mk (below_step (by repeat (first | (with_reducible first | exact HB.out | apply below_alloc | apply pw_below_drewN | apply below_drew1 | refine below_set ?_ GE171.out) | exact HB.out)) hb); clear BK171; clear HB; have BK171 := n0_; have HB := n1_; clear n0_ n1_; (try clear hb); (try clear hb2); (try clear hk); (try clear hi); have hczy5a7c40 : wx2b931.cell? ⟨gb171, 0, none⟩ = some (.int .i64 ((rd_T71 l0 x16_1).f0)) := (blk_cell BK171.out 0).trans rfl; have hczy5a7c41 : wx2b931.cell? ⟨gb171, 1, none⟩ = some (.int .i64 ((rd_T71 l0 x16_1).f1.f0)) := (blk_cell BK171.out 1).trans rfl; have hczy5a7c42 : wx2b931.cell? ⟨gb171, 2, none⟩ = some (.int .i64 ((rd_T71 l0 x16_1).f1.f1)) := (blk_cell BK171.out 2).trans rfl; have hczy5a7c43 : wx2b931.cell? ⟨gb171, 3, none⟩ = some (.int .i64 ((rd_T71 l0 x16_1).f2)) := (blk_cell BK171.out 3).trans rfl; have hfzy5a7c44 := blk_frozen BK171.out 0; have hfzy5a7c45 := blk_frozen BK171.out 1; have hfzy5a7c46 := blk_frozen BK171.out 2; have hfzy5a7c47 := blk_frozen BK171.out 3))
                   repeat (go_quiet (first | (go_at_call 57; (with_reducible refine (plane_Check.calls ((rd_T71 l0 x16_1).f1.f0) ((rd_T71 l0 x16_1).f1.f1) t173 _ A21.out).mono ?_); rintro e wx2b931 ⟨rfl, hb⟩; have n0_ := Aside0.mk (blk_below (g := gb171) (o := .cells #[.int .i64 ((rd_T71 l0 x16_1).f0), .int .i64 ((rd_T71 l0 x16_1).f1.f0), .int .i64 ((rd_T71 l0 x16_1).f1.f1), .int .i64 ((rd_T71 l0 x16_1).f2)] 71 (0, 0)) (by (with_reducible repeat (first | refine blk_drewN ?_ _ | refine blk_drew ?_ | refine blk_alloc ?_ _)); exact BK171.out) hb); have n1_ := Aside0.mk (below_step (by repeat (first | (with_reducible first | exact HB.out | apply below_alloc | apply pw_below_drewN | apply below_drew1 | refine below_set ?_ GE171.out) | exact HB.out)) hb); clear BK171; clear HB; have BK171 := n0_; have HB := n1_; clear n0_ n1_; (try clear hb); (try clear hb2); (try clear hk); (try clear hi); have hczze5 : wx2b931.cell? ⟨gb171, 0, none⟩ = some (.int .i64 ((rd_T71 l0 x16_1).f0)) := (blk_cell BK171.out 0).trans rfl; have hczze6 : wx2b931.cell? ⟨gb171, 1, none⟩ = some (.int .i64 ((rd_T71 l0 x16_1).f1.f0)) := (blk_cell BK171.out 1).trans rfl; have hczze7 : wx2b931.cell? ⟨gb171, 2, none⟩ = some (.int .i64 ((rd_T71 l0 x16_1).f1.f1)) := (blk_cell BK171.out 2).trans rfl; have hczze8 : wx2b931.cell? ⟨gb171, 3, none⟩ = some (.int .i64 ((rd_T71 l0 x16_1).f2)) := (blk_cell BK171.out 3).trans rfl; have hfzze5 := blk_frozen BK171.out 0; have hfzze6 := blk_frozen BK171.out 1; have hfzze7 := blk_frozen BK171.out 2; have hfzze8 := blk_frozen BK171.out 3)); try go_wp2_with (first | (go_at_call 57; (with_reducible refine (plane_Check.calls ((rd_T71 l0 x16_1).f1.f0) ((rd_T71 l0 x16_1).f1.f1) t173 _ A21.out).mono ?_); rintro e wx2b931 ⟨rfl, hb⟩; have n0_ := Aside0.mk (blk_below (g := gb171) (o := .cells #[.int .i64 ((rd_T71 l0 x16_1).f0), .int .i64 ((rd_T71 l0 x16_1).f1.f0), .int .i64 ((rd_T71 l0 x16_1).f1.f1), .int .i64 ((rd_T71 l0 x16_1).f2)] 71 (0, 0)) (by (with_reducible repeat (first | refine blk_drewN ?_ _ | refine blk_drew ?_ | refine blk_alloc ?_ _)); exact BK171.out) hb); have n1_ := Aside0.mk (below_step (by repeat (first | (with_reducible first | exact HB.out | apply below_alloc | apply pw_below_drewN | apply below_drew1 | refine below_set ?_ GE171.out) | exact HB.out)) hb); clear BK171; clear HB; have BK171 := n0_; have HB := n1_; clear n0_ n1_; (try clear hb); (try clear hb2); (try clear hk); (try clear hi); have hczze5 : wx2b931.cell? ⟨gb171, 0, none⟩ = some (.int .i64 ((rd_T71 l0 x16_1).f0)) := (blk_cell BK171.out 0).trans rfl; have hczze6 : wx2b931.cell? ⟨gb171, 1, none⟩ = some (.int .i64 ((rd_T71 l0 x16_1).f1.f0)) := (blk_cell BK171.out 1).trans rfl; have hczze7 : wx2b931.cell? ⟨gb171, 2, none⟩ = some (.int .i64 ((rd_T71 l0 x16_1).f1.f1)) := (blk_cell BK171.out 2).trans rfl; have hczze8 : wx2b931.cell? ⟨gb171, 3, none⟩ = some (.int .i64 ((rd_T71 l0 x16_1).f2)) := (blk_cell BK171.out 3).trans rfl; have hfzze5 := blk_frozen BK171.out 0; have hfzze6 := blk_frozen BK171.out 1; have hfzze7 := blk_frozen BK171.out 2; have hfzze8 := blk_frozen BK171.out 3)))
                   go_roundg kj6
                   case measure => have := HK1.out; have := HJ6.out; omega
                   case rel => exact ⟨(wrap64 (x16_1 + 1)), (by first | rfl | (simp; done) | (simp [*]; done)), H', ⟨by have := HK1.out; have := HJ6.out; omega⟩, ⟨by repeat (first | (with_reducible first | exact HB.out | apply below_alloc | apply pw_below_drewN | apply below_drew1 | refine below_set ?_ GE171.out) | exact HB.out)⟩⟩
           · rw [if_neg c6] at H
             exact absurd H (by simp)
         · rw [if_neg c5] at H
           exact absurd H (by simp)
       · rw [if_neg c4] at H
         have c4b0 : decide (x16_1 < (l0.length : Int)) = false := decide_eq_false c4
         clear c4
         obtain rfl := Option.some.inj H
         go_wp2
         repeat (go_quiet (fail); try go_wp2)
         go_ret
         exact ⟨by first | rfl | (simp [errW_none, errW_some] <;> rfl) | (simp [*, errW_none, errW_some] <;> rfl), by repeat (first | (with_reducible first | exact HB.out | apply below_alloc | apply pw_below_drewN | apply below_drew1) | exact HB.out)⟩

end Go.Proofs.Ytbpbpojnfhhbjaa.PTubeAll
