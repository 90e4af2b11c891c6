/- Made by a program of this session (wip/tools/myprint.py, over the kit's printer): that the Go functions answer as the Lean functions printed beside them. -/
import Derived.Test.YtbpbpojnfhhbjaaPFlyClosedx0
import Derived.Test.YtbpbpojnfhhbjaaPFlyClosedx2
import Derived.Test.YtbpbpojnfhhbjaaPFlyClosedx3
import Derived.Test.YtbpbpojnfhhbjaaPFlyClosedx9
namespace Go.Proofs.Ytbpbpojnfhhbjaa.PFlyClosed
open Go.RowKit Go.Proofs.YtbpbpojnfhhbjaaW.PrintWords Go.Proofs.YtbpbpojnfhhbjaaW.PrintLast Go.Proofs.YtbpbpojnfhhbjaaW.PrintMore
attribute [local go_sem] max2_int min2_int max_two min_two max_three min_three max_four min_four   -- for this text's walks alone
set_option linter.unusedVariables false
set_option linter.unusedSimpArgs false

/-! ### volume_Has: function 33 -/
def volume_Has.f (k : Nat) (l0_0 : List (S36)) (a0_1 : Int) (a0_2 : Int) (a1_0 : Int) (a1_1 : Int) (a2 : Int) : Option (Bool × Int) := (volume_Check.f k l0_0 a0_1 a0_2).bind fun t265 => (if t265 = 0 then ((plane_Check.f a1_0 a1_1).bind fun t266 => (if t266 = 0 then (if a2 < 0 then (some (false, 4)) else (if a2 > 60000 then (some (false, 4)) else ((polygon_Locate.f k l0_0 a1_0 a1_1).bind fun bt267 => (if bt267.1 ≥ 0 then (if a2 ≥ a0_1 then (some (decide (a2 < a0_2), bt267.2)) else (some (false, bt267.2))) else (some (false, bt267.2)))))) else (some (false, t266)))) else (some (false, t265)))
theorem volume_Has.mono : ∀ a0 a1 a2 a3 a4 a5 k, LeO (volume_Has.f k a0 a1 a2 a3 a4 a5) (volume_Has.f (k + 1) a0 a1 a2 a3 a4 a5) := by
  intro a0 a1 a2 a3 a4 a5 k
  unfold volume_Has.f
  repeat' first
      | (with_reducible exact polygon_Locate.mono _ _ _ _)
      | (with_reducible exact volume_Check.mono _ _ _ _)
      | (with_reducible exact LeO.refl _)
      | (with_reducible exact LeO.none _)
      | (with_reducible refine LeO.ite ?_ ?_)
      | (with_reducible refine LeO.bind ?_ (fun _ => ?_))
      | exact polygon_Locate.mono _ _ _ _
      | exact volume_Check.mono _ _ _ _
      | exact LeO.none _
      | refine LeO.ite ?_ ?_
      | refine LeO.bind ?_ (fun _ => ?_)
set_option maxHeartbeats 8000000 in
set_option maxRecDepth 100000 in
theorem volume_Has.calls (k : Nat) (A0_0 : Option Addr) (c0_0 : Nat) (l0_0 : List (S36)) (a0_1 : Int) (a0_2 : Int) (a1_0 : Int) (a1_1 : Int) (a2 : Int) (r1 : Bool) (r2 : Int) (w : World) (hr0_0 : Kd.C k36 w A0_0 l0_0.length l0_0) (hc0_0 : l0_0.length ≤ c0_0) (h : volume_Has.f k l0_0 a0_1 a0_2 a1_0 a1_1 a2 = some (r1, r2)) :
    Calls Try.prog 33 #[.agg #[.slice A0_0 l0_0.length c0_0, .int .i64 a0_1, .int .i64 a0_2], .agg #[.int .i64 a1_0, .int .i64 a1_1], .int .i64 a2] w fun e w' => e = .returned (.tuple #[.bool r1, .int .i64 r2]) ∧ Below w.heap.size w w' := by
 have hu62 := Try.underlying62
 have hu36 := Try.underlying36
 have HR0_0 := Aside0.mk hr0_0
 have HC0_0 := Aside0.mk hc0_0
 clear hr0_0 hc0_0
 have HB := Aside0.mk (Below.refl w.heap.size w)
 have H : ((volume_Check.f k l0_0 a0_1 a0_2).bind fun t265 => (if t265 = 0 then ((plane_Check.f a1_0 a1_1).bind fun t266 => (if t266 = 0 then (if a2 < 0 then (some (false, 4)) else (if a2 > 60000 then (some (false, 4)) else ((polygon_Locate.f k l0_0 a1_0 a1_1).bind fun bt267 => (if bt267.1 ≥ 0 then (if a2 ≥ a0_1 then (some (decide (a2 < a0_2), bt267.2)) else (some (false, bt267.2))) else (some (false, bt267.2)))))) else (some (false, t266)))) else (some (false, t265)))) = some (r1, r2) := h
 clear h
 replace H := Option.bind_eq_some_iff.mp H
 obtain ⟨t265, A40, H⟩ := H
 replace H : (if t265 = 0 then ((plane_Check.f a1_0 a1_1).bind fun t266 => (if t266 = 0 then (if a2 < 0 then (some (false, 4)) else (if a2 > 60000 then (some (false, 4)) else ((polygon_Locate.f k l0_0 a1_0 a1_1).bind fun bt267 => (if bt267.1 ≥ 0 then (if a2 ≥ a0_1 then (some (decide (a2 < a0_2), bt267.2)) else (some (false, bt267.2))) else (some (false, bt267.2)))))) else (some (false, t266)))) else (some (false, t265))) = some (r1, r2) := H
 have A4 := Aside0.mk A40
 clear A40
 refine Or.elim (Classical.em (t265 = 0)) (fun c5 => ?p2_) (fun c5 => ?n2_)
 case' p2_ =>
  rw [if_pos c5] at H
  have c5b0 : (t265 == 0) = true := beq_iff_eq.mpr c5
  have c5b1 : (t265 != 0) = false := bne_eq_false_iff_eq.mpr c5
  clear c5
  replace H := Option.bind_eq_some_iff.mp H
  obtain ⟨t266, A60, H⟩ := H
  replace H : (if t266 = 0 then (if a2 < 0 then (some (false, 4)) else (if a2 > 60000 then (some (false, 4)) else ((polygon_Locate.f k l0_0 a1_0 a1_1).bind fun bt267 => (if bt267.1 ≥ 0 then (if a2 ≥ a0_1 then (some (decide (a2 < a0_2), bt267.2)) else (some (false, bt267.2))) else (some (false, bt267.2)))))) else (some (false, t266))) = some (r1, r2) := H
  have A6 := Aside0.mk A60
  clear A60
  refine Or.elim (Classical.em (t266 = 0)) (fun c7 => ?p3_) (fun c7 => ?n3_)
  case' p3_ =>
   rw [if_pos c7] at H
   have c7b0 : (t266 == 0) = true := beq_iff_eq.mpr c7
   have c7b1 : (t266 != 0) = false := bne_eq_false_iff_eq.mpr c7
   clear c7
   refine Or.elim (Classical.em (a2 < 0)) (fun c8 => ?p4_) (fun c8 => ?n4_)
   case' p4_ =>
    rw [if_pos c8] at H
    have c8b0 : decide (a2 < 0) = true := decide_eq_true c8
    clear c8
    simp only [Option.some.injEq, Prod.mk.injEq] at H
    obtain ⟨rfl, rfl⟩ := H
   case' n4_ =>
    rw [if_neg c8] at H
    have c8b0 : decide (a2 < 0) = false := decide_eq_false c8
    clear c8
    refine Or.elim (Classical.em (a2 > 60000)) (fun c16 => ?p5_) (fun c16 => ?n5_)
    case' p5_ =>
     rw [if_pos c16] at H
     have c16b0 : decide (60000 < a2) = true := decide_eq_true c16
     clear c16
     simp only [Option.some.injEq, Prod.mk.injEq] at H
     obtain ⟨rfl, rfl⟩ := H
    case' n5_ =>
     rw [if_neg c16] at H
     have c16b0 : decide (60000 < a2) = false := decide_eq_false c16
     clear c16
     replace H := Option.bind_eq_some_iff.mp H
     obtain ⟨⟨t267, t268⟩, A240, H⟩ := H
     replace H : (if t267 ≥ 0 then (if a2 ≥ a0_1 then (some (decide (a2 < a0_2), t268)) else (some (false, t268))) else (some (false, t268))) = some (r1, r2) := H
     have A24 := Aside0.mk A240
     clear A240
     refine Or.elim (Classical.em (t267 ≥ 0)) (fun c25 => ?p6_) (fun c25 => ?n6_)
     case' p6_ =>
      rw [if_pos c25] at H
      have c25b0 : decide (0 ≤ t267) = true := decide_eq_true c25
      clear c25
      refine Or.elim (Classical.em (a2 ≥ a0_1)) (fun c26 => ?p7_) (fun c26 => ?n7_)
      case' p7_ =>
       rw [if_pos c26] at H
       have c26b0 : decide (a0_1 ≤ a2) = true := decide_eq_true c26
       clear c26
       simp only [Option.some.injEq, Prod.mk.injEq] at H
       obtain ⟨rfl, rfl⟩ := H
      case' n7_ =>
       rw [if_neg c26] at H
       have c26b0 : decide (a0_1 ≤ a2) = false := decide_eq_false c26
       clear c26
       simp only [Option.some.injEq, Prod.mk.injEq] at H
       obtain ⟨rfl, rfl⟩ := H
     case' n6_ =>
      rw [if_neg c25] at H
      have c25b0 : decide (0 ≤ t267) = false := decide_eq_false c25
      clear c25
      simp only [Option.some.injEq, Prod.mk.injEq] at H
      obtain ⟨rfl, rfl⟩ := H
  case' n3_ =>
   rw [if_neg c7] at H
   have c7b0 : (t266 == 0) = false := beq_eq_false_iff_ne.mpr c7
   have c7b1 : (t266 != 0) = true := bne_iff_ne.mpr c7
   simp only [Option.some.injEq, Prod.mk.injEq] at H
   obtain ⟨rfl, rfl⟩ := H
 case' n2_ =>
  rw [if_neg c5] at H
  have c5b0 : (t265 == 0) = false := beq_eq_false_iff_ne.mpr c5
  have c5b1 : (t265 != 0) = true := bne_iff_ne.mpr c5
  simp only [Option.some.injEq, Prod.mk.injEq] at H
  obtain ⟨rfl, rfl⟩ := H
 all_goals
  go_enter Try.func33, Try.ntmps33
  go_wp2_with (first | ((with_reducible refine gate_dst (N := 3) rfl ?_); refine box_event ?hg (N := 3) ?hd (cs := #[.slice A0_0 l0_0.length c0_0, .int .i64 a0_1, .int .i64 a0_2]) (t := 62) ?hr ?_; (case hd => rfl); (case hg => rfl); (case hr => first | (go_simp; done) | (go_simp; rfl)); intro gb263 hg wx59031 hbox hb; have n0_ := Aside0.mk (below_step (by repeat (first | (with_reducible first | exact HB.out | apply below_alloc | apply pw_below_drewN | apply below_drew1) | exact HB.out)) hb); have n1_ := Aside0.mk (hbox); have n2_ := Aside0.mk ((by rw [hg]; exact (below_size (by repeat (first | (with_reducible first | exact HB.out | apply below_alloc | apply pw_below_drewN | apply below_drew1) | exact HB.out))) : w.heap.size ≤ gb263)); have n3_ := Aside0.mk ((by rw [hg]; exact (below_size (by repeat (first | (with_reducible first | exact HB.out | apply below_alloc | apply pw_below_drewN | apply below_drew1) | exact HB.out))) : w.heap.size ≤ gb263)); clear HB; have HB := n0_; have BK263 := n1_; have GW263 := n2_; have GE263 := n3_; clear n0_ n1_ n2_ n3_; clear hb hbox hg) | ((with_reducible refine gate_dst (N := 4) rfl ?_); refine box_event ?hg (N := 4) ?hd (cs := #[.int .i64 a1_0, .int .i64 a1_1]) (t := 36) ?hr ?_; (case hd => rfl); (case hg => rfl); (case hr => first | (go_simp; done) | (go_simp; rfl)); intro gb264 hg wx6cb41 hbox hb; have n0_ := Aside0.mk (blk_below (g := gb263) (o := .cells #[.slice A0_0 l0_0.length c0_0, .int .i64 a0_1, .int .i64 a0_2] 62 (0, 0)) (by (with_reducible repeat (first | refine blk_drewN ?_ _ | refine blk_drew ?_ | refine blk_alloc ?_ _)); exact BK263.out) hb); have n1_ := Aside0.mk (below_step (by repeat (first | (with_reducible first | exact HB.out | apply below_alloc | apply pw_below_drewN | apply below_drew1 | refine below_set ?_ GE263.out) | exact HB.out)) hb); have n2_ := Aside0.mk (hbox); have n3_ := Aside0.mk ((by rw [hg]; exact (below_size (by repeat (first | (with_reducible first | exact HB.out | apply below_alloc | apply pw_below_drewN | apply below_drew1 | refine below_set ?_ GE263.out) | exact HB.out))) : w.heap.size ≤ gb264)); have n4_ := Aside0.mk ((by rw [hg]; exact (below_size (by repeat (first | (with_reducible first | exact HB.out | apply below_alloc | apply pw_below_drewN | apply below_drew1 | refine below_set ?_ GE263.out) | exact HB.out))) : w.heap.size ≤ gb264)); have n5_ := Aside0.mk ((by rw [hg]; exact Nat.ne_of_lt (blk_lt (g := gb263) (o := .cells #[.slice A0_0 l0_0.length c0_0, .int .i64 a0_1, .int .i64 a0_2] 62 (0, 0)) (by (with_reducible repeat (first | refine blk_drewN ?_ _ | refine blk_drew ?_ | refine blk_alloc ?_ _)); exact BK263.out)) : gb263 ≠ gb264)); have n6_ := Aside0.mk ((by rw [hg]; exact Nat.ne_of_gt (blk_lt (g := gb263) (o := .cells #[.slice A0_0 l0_0.length c0_0, .int .i64 a0_1, .int .i64 a0_2] 62 (0, 0)) (by (with_reducible repeat (first | refine blk_drewN ?_ _ | refine blk_drew ?_ | refine blk_alloc ?_ _)); exact BK263.out)) : gb264 ≠ gb263)); clear BK263; clear HB; have BK263 := n0_; have HB := n1_; have BK264 := n2_; have GW264 := n3_; have GE264 := n4_; have NB263_264 := n5_; have NB264_263 := n6_; clear n0_ n1_ n2_ n3_ n4_ n5_ n6_; clear hb hbox hg; have hnbx6cb41 := NB263_264.out; have hncx6cb41 := NB264_263.out; have hczx6cb41 : wx6cb41.cell? ⟨gb263, 0, none⟩ = some (.slice A0_0 l0_0.length c0_0) := (blk_cell BK263.out 0).trans rfl; have hczx6cb42 : wx6cb41.cell? ⟨gb263, 1, none⟩ = some (.int .i64 a0_1) := (blk_cell BK263.out 1).trans rfl; have hczx6cb43 : wx6cb41.cell? ⟨gb263, 2, none⟩ = some (.int .i64 a0_2) := (blk_cell BK263.out 2).trans rfl; have hfzx6cb41 := blk_frozen BK263.out 0; have hfzx6cb42 := blk_frozen BK263.out 1; have hfzx6cb43 := blk_frozen BK263.out 2) | ((with_reducible refine gate_callee (f := 79) rfl ?_); refine goesL_ (some 13) rfl rfl Try.func79 (by kernel_rfl) rfl #[.agg #[.slice A0_0 l0_0.length c0_0, .int .i64 a0_1, .int .i64 a0_2]] rfl (by (try simp only [List.map_toArray, List.map_cons, List.map_nil]); first | done | rfl | (simp only [List.length_drop, List.length_take]; rfl)) ?_; (with_reducible refine (volume_Check.calls k _ _ l0_0 a0_1 a0_2 t265 _ ?side1 ?side2 A4.out).mono ?_); (case side1 => repeat (first | exact (Kd.C_below HR0_0.out HB.out) | (with_reducible refine Kd.C_alloc ?_ _) | (with_reducible refine Kd.C_drewN ?_ _) | (with_reducible refine Kd.C_drew ?_))); (case side2 => exact HC0_0.out); rintro e wx54811 ⟨rfl, hb⟩; refine ⟨_, rfl, ?_⟩; have n0_ := Aside0.mk (blk_below (g := gb263) (o := .cells #[.slice A0_0 l0_0.length c0_0, .int .i64 a0_1, .int .i64 a0_2] 62 (0, 0)) (by (with_reducible repeat (first | refine blk_drewN ?_ _ | refine blk_drew ?_ | refine blk_alloc ?_ _)); exact BK263.out) hb); have n1_ := Aside0.mk (blk_below (g := gb264) (o := .cells #[.int .i64 a1_0, .int .i64 a1_1] 36 (0, 0)) (by (with_reducible repeat (first | refine blk_drewN ?_ _ | refine blk_drew ?_ | refine blk_alloc ?_ _)); exact BK264.out) hb); have n2_ := Aside0.mk (below_step (by repeat (first | (with_reducible first | exact HB.out | apply below_alloc | apply pw_below_drewN | apply below_drew1 | refine below_set ?_ GE263.out | refine below_set ?_ GE264.out) | exact HB.out)) hb); clear BK263; clear BK264; clear HB; have BK263 := n0_; have BK264 := n1_; have HB := n2_; clear n0_ n1_ n2_; (try clear hb); (try clear hb2); (try clear hk); (try clear hi); have hczx54811 : wx54811.cell? ⟨gb264, 0, none⟩ = some (.int .i64 a1_0) := (blk_cell BK264.out 0).trans rfl; have hczx54812 : wx54811.cell? ⟨gb264, 1, none⟩ = some (.int .i64 a1_1) := (blk_cell BK264.out 1).trans rfl; have hfzx54811 := blk_frozen BK264.out 0; have hfzx54812 := blk_frozen BK264.out 1) | ((with_reducible refine gate_callee (f := 79) rfl ?_); refine goesL_ (some 13) rfl rfl Try.func79 (by kernel_rfl) rfl #[.agg #[.slice A0_0 l0_0.length c0_0, .int .i64 a0_1, .int .i64 a0_2]] rfl (by (try simp only [List.map_toArray, List.map_cons, List.map_nil]); first | done | rfl | (simp only [List.length_drop, List.length_take]; rfl)) ?_; (with_reducible refine (volume_Check.calls k _ _ l0_0 a0_1 a0_2 t265 _ ?side1 ?side2 A4.out).mono ?_); (case side1 => repeat (first | exact (Kd.C_below HR0_0.out HB.out) | (with_reducible refine Kd.C_alloc ?_ _) | (with_reducible refine Kd.C_drewN ?_ _) | (with_reducible refine Kd.C_drew ?_))); (case side2 => exact HC0_0.out); rintro e wxac6a1 ⟨rfl, hb⟩; refine ⟨_, rfl, ?_⟩; have n0_ := Aside0.mk (blk_below (g := gb263) (o := .cells #[.slice A0_0 l0_0.length c0_0, .int .i64 a0_1, .int .i64 a0_2] 62 (0, 0)) (by (with_reducible repeat (first | refine blk_drewN ?_ _ | refine blk_drew ?_ | refine blk_alloc ?_ _)); exact BK263.out) hb); have n1_ := Aside0.mk (blk_below (g := gb264) (o := .cells #[.int .i64 a1_0, .int .i64 a1_1] 36 (0, 0)) (by (with_reducible repeat (first | refine blk_drewN ?_ _ | refine blk_drew ?_ | refine blk_alloc ?_ _)); exact BK264.out) hb); have n2_ := Aside0.mk (below_step (by repeat (first | (with_reducible first | exact HB.out | apply below_alloc | apply pw_below_drewN | apply below_drew1 | refine below_set ?_ GE263.out | refine below_set ?_ GE264.out) | exact HB.out)) hb); clear BK263; clear BK264; clear HB; have BK263 := n0_; have BK264 := n1_; have HB := n2_; clear n0_ n1_ n2_; (try clear hb); (try clear hb2); (try clear hk); (try clear hi)) | ((with_reducible refine gate_callee (f := 57) rfl ?_); refine goesL_ (some 18) rfl rfl Try.func57 (by kernel_rfl) rfl #[.agg #[.int .i64 a1_0, .int .i64 a1_1]] rfl (by (try simp only [List.map_toArray, List.map_cons, List.map_nil]); first | done | rfl | (simp only [List.length_drop, List.length_take]; rfl)) ?_; (with_reducible refine (plane_Check.calls a1_0 a1_1 t266 _ A6.out).mono ?_); rintro e wxf2af1 ⟨rfl, hb⟩; refine ⟨_, rfl, ?_⟩; have n0_ := Aside0.mk (blk_below (g := gb263) (o := .cells #[.slice A0_0 l0_0.length c0_0, .int .i64 a0_1, .int .i64 a0_2] 62 (0, 0)) (by (with_reducible repeat (first | refine blk_drewN ?_ _ | refine blk_drew ?_ | refine blk_alloc ?_ _)); exact BK263.out) hb); have n1_ := Aside0.mk (blk_below (g := gb264) (o := .cells #[.int .i64 a1_0, .int .i64 a1_1] 36 (0, 0)) (by (with_reducible repeat (first | refine blk_drewN ?_ _ | refine blk_drew ?_ | refine blk_alloc ?_ _)); exact BK264.out) hb); have n2_ := Aside0.mk (below_step (by repeat (first | (with_reducible first | exact HB.out | apply below_alloc | apply pw_below_drewN | apply below_drew1 | refine below_set ?_ GE263.out | refine below_set ?_ GE264.out) | exact HB.out)) hb); clear BK263; clear BK264; clear HB; have BK263 := n0_; have BK264 := n1_; have HB := n2_; clear n0_ n1_ n2_; (try clear hb); (try clear hb2); (try clear hk); (try clear hi); have hczxf2af1 : wxf2af1.cell? ⟨gb263, 0, none⟩ = some (.slice A0_0 l0_0.length c0_0) := (blk_cell BK263.out 0).trans rfl; have hczxf2af2 : wxf2af1.cell? ⟨gb263, 1, none⟩ = some (.int .i64 a0_1) := (blk_cell BK263.out 1).trans rfl; have hczxf2af3 : wxf2af1.cell? ⟨gb263, 2, none⟩ = some (.int .i64 a0_2) := (blk_cell BK263.out 2).trans rfl; have hfzxf2af1 := blk_frozen BK263.out 0; have hfzxf2af2 := blk_frozen BK263.out 1; have hfzxf2af3 := blk_frozen BK263.out 2; have hczxf2af4 : wxf2af1.cell? ⟨gb264, 0, none⟩ = some (.int .i64 a1_0) := (blk_cell BK264.out 0).trans rfl; have hczxf2af5 : wxf2af1.cell? ⟨gb264, 1, none⟩ = some (.int .i64 a1_1) := (blk_cell BK264.out 1).trans rfl; have hfzxf2af4 := blk_frozen BK264.out 0; have hfzxf2af5 := blk_frozen BK264.out 1) | ((with_reducible refine gate_callee (f := 57) rfl ?_); refine goesL_ (some 18) rfl rfl Try.func57 (by kernel_rfl) rfl #[.agg #[.int .i64 a1_0, .int .i64 a1_1]] rfl (by (try simp only [List.map_toArray, List.map_cons, List.map_nil]); first | done | rfl | (simp only [List.length_drop, List.length_take]; rfl)) ?_; (with_reducible refine (plane_Check.calls a1_0 a1_1 t266 _ A6.out).mono ?_); rintro e wx86e41 ⟨rfl, hb⟩; refine ⟨_, rfl, ?_⟩; have n0_ := Aside0.mk (blk_below (g := gb263) (o := .cells #[.slice A0_0 l0_0.length c0_0, .int .i64 a0_1, .int .i64 a0_2] 62 (0, 0)) (by (with_reducible repeat (first | refine blk_drewN ?_ _ | refine blk_drew ?_ | refine blk_alloc ?_ _)); exact BK263.out) hb); have n1_ := Aside0.mk (blk_below (g := gb264) (o := .cells #[.int .i64 a1_0, .int .i64 a1_1] 36 (0, 0)) (by (with_reducible repeat (first | refine blk_drewN ?_ _ | refine blk_drew ?_ | refine blk_alloc ?_ _)); exact BK264.out) hb); have n2_ := Aside0.mk (below_step (by repeat (first | (with_reducible first | exact HB.out | apply below_alloc | apply pw_below_drewN | apply below_drew1 | refine below_set ?_ GE263.out | refine below_set ?_ GE264.out) | exact HB.out)) hb); clear BK263; clear BK264; clear HB; have BK263 := n0_; have BK264 := n1_; have HB := n2_; clear n0_ n1_ n2_; (try clear hb); (try clear hb2); (try clear hk); (try clear hi)) | ((with_reducible refine gate_callee (f := 28) rfl ?_); refine goesL_ (some 32) rfl rfl Try.func28 (by kernel_rfl) rfl #[.slice A0_0 l0_0.length c0_0, .agg #[.int .i64 a1_0, .int .i64 a1_1]] rfl (by (try simp only [List.map_toArray, List.map_cons, List.map_nil]); first | done | rfl | (simp only [List.length_drop, List.length_take]; rfl)) ?_; (with_reducible refine (polygon_Locate.calls k _ _ l0_0 a1_0 a1_1 t267 t268 _ ?side1 ?side2 A24.out).mono ?_); (case side1 => repeat (first | exact (Kd.C_below HR0_0.out HB.out) | (with_reducible refine Kd.C_alloc ?_ _) | (with_reducible refine Kd.C_drewN ?_ _) | (with_reducible refine Kd.C_drew ?_))); (case side2 => exact HC0_0.out); rintro e wxfd841 ⟨rfl, hb⟩; refine ⟨_, rfl, ?_⟩; have n0_ := Aside0.mk (blk_below (g := gb263) (o := .cells #[.slice A0_0 l0_0.length c0_0, .int .i64 a0_1, .int .i64 a0_2] 62 (0, 0)) (by (with_reducible repeat (first | refine blk_drewN ?_ _ | refine blk_drew ?_ | refine blk_alloc ?_ _)); exact BK263.out) hb); have n1_ := Aside0.mk (blk_below (g := gb264) (o := .cells #[.int .i64 a1_0, .int .i64 a1_1] 36 (0, 0)) (by (with_reducible repeat (first | refine blk_drewN ?_ _ | refine blk_drew ?_ | refine blk_alloc ?_ _)); exact BK264.out) hb); have n2_ := Aside0.mk (below_step (by repeat (first | (with_reducible first | exact HB.out | apply below_alloc | apply pw_below_drewN | apply below_drew1 | refine below_set ?_ GE263.out | refine below_set ?_ GE264.out) | exact HB.out)) hb); clear BK263; clear BK264; clear HB; have BK263 := n0_; have BK264 := n1_; have HB := n2_; clear n0_ n1_ n2_; (try clear hb); (try clear hb2); (try clear hk); (try clear hi); have hczxfd841 : wxfd841.cell? ⟨gb263, 0, none⟩ = some (.slice A0_0 l0_0.length c0_0) := (blk_cell BK263.out 0).trans rfl; have hczxfd842 : wxfd841.cell? ⟨gb263, 1, none⟩ = some (.int .i64 a0_1) := (blk_cell BK263.out 1).trans rfl; have hczxfd843 : wxfd841.cell? ⟨gb263, 2, none⟩ = some (.int .i64 a0_2) := (blk_cell BK263.out 2).trans rfl; have hfzxfd841 := blk_frozen BK263.out 0; have hfzxfd842 := blk_frozen BK263.out 1; have hfzxfd843 := blk_frozen BK263.out 2) | ((with_reducible refine gate_callee (f := 28) rfl ?_); refine goesL_ (some 32) rfl rfl Try.func28 (by kernel_rfl) rfl #[.slice A0_0 l0_0.length c0_0, .agg #[.int .i64 a1_0, .int .i64 a1_1]] rfl (by (try simp only [List.map_toArray, List.map_cons, List.map_nil]); first | done | rfl | (simp only [List.length_drop, List.length_take]; rfl)) ?_; (with_reducible refine (polygon_Locate.calls k _ _ l0_0 a1_0 a1_1 t267 t268 _ ?side1 ?side2 A24.out).mono ?_); (case side1 => repeat (first | exact (Kd.C_below HR0_0.out HB.out) | (with_reducible refine Kd.C_alloc ?_ _) | (with_reducible refine Kd.C_drewN ?_ _) | (with_reducible refine Kd.C_drew ?_))); (case side2 => exact HC0_0.out); rintro e wx4f421 ⟨rfl, hb⟩; refine ⟨_, rfl, ?_⟩; have n0_ := Aside0.mk (blk_below (g := gb263) (o := .cells #[.slice A0_0 l0_0.length c0_0, .int .i64 a0_1, .int .i64 a0_2] 62 (0, 0)) (by (with_reducible repeat (first | refine blk_drewN ?_ _ | refine blk_drew ?_ | refine blk_alloc ?_ _)); exact BK263.out) hb); have n1_ := Aside0.mk (blk_below (g := gb264) (o := .cells #[.int .i64 a1_0, .int .i64 a1_1] 36 (0, 0)) (by (with_reducible repeat (first | refine blk_drewN ?_ _ | refine blk_drew ?_ | refine blk_alloc ?_ _)); exact BK264.out) hb); have n2_ := Aside0.mk (below_step (by repeat (first | (with_reducible first | exact HB.out | apply below_alloc | apply pw_below_drewN | apply below_drew1 | refine below_set ?_ GE263.out | refine below_set ?_ GE264.out) | exact HB.out)) hb); clear BK263; clear BK264; clear HB; have BK263 := n0_; have BK264 := n1_; have HB := n2_; clear n0_ n1_ n2_; (try clear hb); (try clear hb2); (try clear hk); (try clear hi)))
  go_ret2
  exact ⟨by first | rfl | (simp [errW_none, errW_some] <;> rfl) | (simp [*, errW_none, errW_some] <;> rfl), by repeat (first | (with_reducible first | exact HB.out | apply below_alloc | apply pw_below_drewN | apply below_drew1 | refine below_set ?_ GE263.out | refine below_set ?_ GE264.out) | exact HB.out)⟩

/-! ### api_Span_112: function 112 -/
/-- Where a predicate holds first. -/
def api_Span_112.f (l0 : List (S140)) (p : (S140) → Bool) : Option Int := some (IdxF.idx p l0)
set_option maxHeartbeats 8000000 in
set_option maxRecDepth 100000 in
theorem api_Span_112.calls (A0 : Option Addr) (c0 : Nat) (l0 : List (S140)) (p : (S140) → Bool) {F : Value} (r : Int) (w : World) (hr0 : Kd.C k140 w A0 l0.length l0) (hc0 : l0.length ≤ c0) (hp : IdxF.Pred Try.prog k140 true F p w) (h : api_Span_112.f l0 p = some r) :
    Calls Try.prog 112 #[.slice A0 l0.length c0, F] w fun e w' => e = .returned (.int .i64 r) ∧ Below w.heap.size w w' := by
  obtain ⟨g, lb, rfl, eg, hp⟩ := hp
  obtain rfl := Option.some.inj h
  clear h
  have hbig := hr0.2.1
  go_enter Try.func112, Try.ntmps112
  go_wp2
  go_loopg [5, 8] l0.length (fun gg _ s8 wr => ∃ kk : Nat, kk ≤ l0.length ∧ l0.length - kk ≤ gg ∧ s8 = .int .i64 kk ∧ Aside0 (Below w.heap.size w wr) ∧ Aside0 (∀ j (h : j < l0.length), j < kk → p l0[j] = false))
  case atStart => exact ⟨0, Nat.zero_le _, by omega, rfl, ⟨Below.refl _ w⟩, ⟨fun j _ hj => absurd hj (Nat.not_lt_zero _)⟩⟩
  case round =>
    obtain ⟨kk, hkk, hg, rfl, BW, AJ⟩ := hrel
    by_cases hlt : kk < l0.length
    · have hltz : (kk : Int) < (l0.length : Int) := by omega
      obtain ⟨ad, cs, rfl, hlen, hK, hcell⟩ := Kd.C_get (Kd.C_below hr0 BW.out) z140 (kk : Int) (by omega) hltz
      have hx : l0.getD (kk : Int).toNat z140 = l0[kk] := by rw [Int.toNat_natCast, List.getD_eq_getElem?_getD, List.getElem?_eq_getElem hlt]; rfl
      rw [hx] at hK
      obtain ⟨v0_, v1_, rfl⟩ := IdxF.len2 hlen
      have hx0_ : wr.cell? (ad.add (kk * 2)) = some v0_ := by first | exact hcell 0 v0_ rfl | simpa using hcell 0 v0_ rfl
      have hx1_ : wr.cell? ⟨(ad.add (kk * 2)).block, (ad.add (kk * 2)).off + 1, none⟩ = some v1_ := by rw [← add_field _ _ 1 (by omega)]; exact hcell 1 _ rfl
      have hcall : Calls Try.prog g (#[.agg #[v0_, v1_]] ++ lb) wr fun e w' => e = .returned (.bool (p l0[kk])) ∧ Below wr.heap.size wr w' := hp wr l0[kk] _ BW.out hK
      clear hcell hx hp hK hlen
      cases hq : p l0[kk] with
      | true =>
        rw [hq] at hcall
        go_wp2_with (go_at_fn g; refine hcall.mono ?_; rintro e w' ⟨rfl, hb'⟩)
        go_ret
        refine ⟨?_, below_step BW.out hb'⟩
        rw [IdxF.idx_hit p l0 hlt hq (fun j h => AJ.out j _ h)]
        rfl
      | false =>
        rw [hq] at hcall
        go_wp2_with (go_at_fn g; refine hcall.mono ?_; rintro e w' ⟨rfl, hb'⟩)
        go_roundg (l0.length - (kk + 1))
        case measure => omega
        case rel =>
          refine ⟨kk + 1, by omega, by omega, by go_num, ⟨below_step BW.out hb'⟩, ⟨fun j h hj => ?_⟩⟩
          by_cases e : j = kk
          · subst e
            exact hq
          · exact AJ.out j h (by omega)
    · have hltz : ¬ (kk : Int) < (l0.length : Int) := by omega
      go_wp2
      go_ret
      refine ⟨?_, BW.out⟩
      rw [IdxF.idx_miss p l0 (fun j h => AJ.out j h (by omega))]
      rfl

/-! ### api_Span_81: function 81 -/
/-- Whether a predicate holds somewhere. -/
def api_Span_81.f (l0 : List (S140)) (p : (S140) → Bool) : Option Bool := some (l0.any p)
set_option maxHeartbeats 8000000 in
set_option maxRecDepth 100000 in
theorem api_Span_81.calls (A0 : Option Addr) (c0 : Nat) (l0 : List (S140)) (p : (S140) → Bool) {F : Value} (r : Bool) (w : World) (hr0 : Kd.C k140 w A0 l0.length l0) (hc0 : l0.length ≤ c0) (hp : IdxF.Pred Try.prog k140 true F p w) (h : api_Span_81.f l0 p = some r) :
    Calls Try.prog 81 #[.slice A0 l0.length c0, F] w fun e w' => e = .returned (.bool r) ∧ Below w.heap.size w w' := by
  obtain rfl := Option.some.inj h
  clear h
  rw [← IdxF.idx_any]
  have hi := api_Span_112.calls A0 c0 l0 p (IdxF.idx p l0) w hr0 hc0 hp rfl
  obtain ⟨g, lb, rfl, eg, hp⟩ := hp
  have e6 : ∀ args w, (callFunc 112 args).run Try.prog w = .ok (.enter 112 args) w := enters_of Try.func112 (by kernel_rfl) rfl
  go_enter Try.func81, Try.ntmps81
  go_wp2_with (go_at_call 112; refine hi.mono ?_; rintro e w' ⟨rfl, hb'⟩)
  go_ret
  exact ⟨rfl, hb'⟩

/-! ### volume_During_1: function 82 -/
/-- Whether a time is in an interval. -/
def volume_During_1.p (t : Int) (x : S140) : Bool := decide (t ≥ x.f0) && decide (t < x.f1)
set_option maxHeartbeats 8000000 in
set_option maxRecDepth 100000 in
theorem volume_During_1.pred {t : Int} {b ty : Nat} {w : World} (hb : w.heap[b]? = some (.cells #[.int .i64 t] ty (0, 0))) : IdxF.Pred Try.prog k140 true (.func (.func 82) #[] #[.pointer (some ⟨b, 0, none⟩)]) (volume_During_1.p t) w := by
  refine ⟨82, _, rfl, enters_of Try.func82 (by kernel_rfl) rfl, fun W x cs hW hK => ?_⟩
  obtain rfl := k140_open hK
  have hbW := blk_below hb hW
  have hc : W.cell? ⟨b, 0, none⟩ = some (.int .i64 t) := (blk_cell hbW 0).trans rfl
  have hlt := blk_lt hbW
  clear hb hbW hW hK
  unfold volume_During_1.p
  generalize x.f0 = x0
  generalize x.f1 = x1
  change Calls Try.prog 82 #[.agg #[.int .i64 x0, .int .i64 x1], .pointer (some ⟨b, 0, none⟩)] W _
  by_cases c1 : t ≥ x0 <;> by_cases c2 : t < x1
  all_goals
    go_enter Try.func82, Try.ntmps82
    go_wp2
    go_ret
    exact ⟨by simp [c1, c2], below_alloc (Below.refl _ _) _⟩

/-! ### volume_During: function 34 -/
def volume_During.f (k : Nat) (l0 : List (S140)) (a1 : Int) : Option (Bool × Int) := (volume_CheckSpans.f k l0).bind fun t270 => (if t270 = 0 then ((api_Span_81.f l0 (volume_During_1.p a1)).bind fun t271 => (some (t271, 0))) else (some (false, t270)))
theorem volume_During.mono : ∀ a0 a1 k, LeO (volume_During.f k a0 a1) (volume_During.f (k + 1) a0 a1) := by
  intro a0 a1 k
  unfold volume_During.f
  repeat' first
      | (with_reducible exact volume_CheckSpans.mono _ _)
      | (with_reducible exact LeO.refl _)
      | (with_reducible exact LeO.none _)
      | (with_reducible refine LeO.ite ?_ ?_)
      | (with_reducible refine LeO.bind ?_ (fun _ => ?_))
      | exact volume_CheckSpans.mono _ _
      | exact LeO.none _
      | refine LeO.ite ?_ ?_
      | refine LeO.bind ?_ (fun _ => ?_)
set_option maxHeartbeats 8000000 in
set_option maxRecDepth 100000 in
theorem volume_During.calls (k : Nat) (A0 : Option Addr) (c0 : Nat) (l0 : List (S140)) (a1 : Int) (r1 : Bool) (r2 : Int) (w : World) (hr0 : Kd.C k140 w A0 l0.length l0) (hc0 : l0.length ≤ c0) (h : volume_During.f k l0 a1 = some (r1, r2)) :
    Calls Try.prog 34 #[.slice A0 l0.length c0, .int .i64 a1] w fun e w' => e = .returned (.tuple #[.bool r1, .int .i64 r2]) ∧ Below w.heap.size w w' := by
 have HR0 := Aside0.mk hr0
 have HC0 := Aside0.mk hc0
 clear hr0 hc0
 have HB := Aside0.mk (Below.refl w.heap.size w)
 have H : ((volume_CheckSpans.f k l0).bind fun t270 => (if t270 = 0 then ((api_Span_81.f l0 (volume_During_1.p a1)).bind fun t271 => (some (t271, 0))) else (some (false, t270)))) = some (r1, r2) := h
 clear h
 replace H := Option.bind_eq_some_iff.mp H
 obtain ⟨t270, A30, H⟩ := H
 replace H : (if t270 = 0 then ((api_Span_81.f l0 (volume_During_1.p a1)).bind fun t271 => (some (t271, 0))) else (some (false, t270))) = some (r1, r2) := H
 have A3 := Aside0.mk A30
 clear A30
 refine Or.elim (Classical.em (t270 = 0)) (fun c4 => ?p2_) (fun c4 => ?n2_)
 case' p2_ =>
  rw [if_pos c4] at H
  have c4b0 : (t270 == 0) = true := beq_iff_eq.mpr c4
  have c4b1 : (t270 != 0) = false := bne_eq_false_iff_eq.mpr c4
  clear c4
  replace H := Option.bind_eq_some_iff.mp H
  obtain ⟨t271, A50, H⟩ := H
  replace H : (some (t271, 0)) = some (r1, r2) := H
  have A5 := Aside0.mk A50
  clear A50
  simp only [Option.some.injEq, Prod.mk.injEq] at H
  obtain ⟨rfl, rfl⟩ := H
 case' n2_ =>
  rw [if_neg c4] at H
  have c4b0 : (t270 == 0) = false := beq_eq_false_iff_ne.mpr c4
  have c4b1 : (t270 != 0) = true := bne_iff_ne.mpr c4
  simp only [Option.some.injEq, Prod.mk.injEq] at H
  obtain ⟨rfl, rfl⟩ := H
 all_goals
  go_enter Try.func34, Try.ntmps34
  go_wp2_with (first | ((with_reducible refine gate_dst (N := 3) rfl ?_); refine box_event ?hg (N := 3) ?hd (cs := #[.int .i64 a1]) (t := 3) ?hr ?_; (case hd => rfl); (case hg => rfl); (case hr => first | (go_simp; done) | (go_simp; rfl)); intro gb269 hg wx2ff31 hbox hb; have n0_ := Aside0.mk (below_step (by repeat (first | (with_reducible first | exact HB.out | apply below_alloc | apply pw_below_drewN | apply below_drew1) | exact HB.out)) hb); have n1_ := Aside0.mk (hbox); have n2_ := Aside0.mk ((by rw [hg]; exact (below_size (by repeat (first | (with_reducible first | exact HB.out | apply below_alloc | apply pw_below_drewN | apply below_drew1) | exact HB.out))) : w.heap.size ≤ gb269)); have n3_ := Aside0.mk ((by rw [hg]; exact (below_size (by repeat (first | (with_reducible first | exact HB.out | apply below_alloc | apply pw_below_drewN | apply below_drew1) | exact HB.out))) : w.heap.size ≤ gb269)); clear HB; have HB := n0_; have BK269 := n1_; have GW269 := n2_; have GE269 := n3_; clear n0_ n1_ n2_ n3_; clear hb hbox hg) | ((with_reducible refine gate_callee (f := 80) rfl ?_); refine goesL_ (some 8) rfl rfl Try.func80 (by kernel_rfl) rfl #[.slice A0 l0.length c0] rfl (by (try simp only [List.map_toArray, List.map_cons, List.map_nil]); first | done | rfl | (simp only [List.length_drop, List.length_take]; rfl)) ?_; (with_reducible refine (volume_CheckSpans.calls k _ _ l0 t270 _ ?side1 ?side2 A3.out).mono ?_); (case side1 => repeat (first | exact (Kd.C_below HR0.out HB.out) | (with_reducible refine Kd.C_alloc ?_ _) | (with_reducible refine Kd.C_drewN ?_ _) | (with_reducible refine Kd.C_drew ?_))); (case side2 => exact HC0.out); rintro e wx94091 ⟨rfl, hb⟩; refine ⟨_, rfl, ?_⟩; have n0_ := Aside0.mk (blk_below (g := gb269) (o := .cells #[.int .i64 a1] 3 (0, 0)) (by (with_reducible repeat (first | refine blk_drewN ?_ _ | refine blk_drew ?_ | refine blk_alloc ?_ _)); exact BK269.out) hb); have n1_ := Aside0.mk (below_step (by repeat (first | (with_reducible first | exact HB.out | apply below_alloc | apply pw_below_drewN | apply below_drew1 | refine below_set ?_ GE269.out) | exact HB.out)) hb); clear BK269; clear HB; have BK269 := n0_; have HB := n1_; clear n0_ n1_; (try clear hb); (try clear hb2); (try clear hk); (try clear hi)) | ((with_reducible refine gate_callee (f := 81) rfl ?_); refine goesL_ (some 14) rfl rfl Try.func81 (by kernel_rfl) rfl #[.slice A0 l0.length c0, .func (.func 82) #[] #[.pointer (some ⟨gb269, 0, none⟩)]] rfl (by (try simp only [List.map_toArray, List.map_cons, List.map_nil]); first | done | rfl | (simp only [List.length_drop, List.length_take]; rfl)) ?_; (with_reducible refine (api_Span_81.calls _ _ l0 (volume_During_1.p a1) t271 _ ?side1 ?side2 ?side3 A5.out).mono ?_); (case side1 => repeat (first | exact (Kd.C_below HR0.out HB.out) | (with_reducible refine Kd.C_alloc ?_ _) | (with_reducible refine Kd.C_drewN ?_ _) | (with_reducible refine Kd.C_drew ?_))); (case side2 => exact HC0.out); (case side3 => exact volume_During_1.pred (by (with_reducible repeat (first | refine blk_drewN ?_ _ | refine blk_drew ?_ | refine blk_alloc ?_ _)); exact BK269.out)); rintro e wx3f341 ⟨rfl, hb⟩; refine ⟨_, rfl, ?_⟩; have n0_ := Aside0.mk (blk_below (g := gb269) (o := .cells #[.int .i64 a1] 3 (0, 0)) (by (with_reducible repeat (first | refine blk_drewN ?_ _ | refine blk_drew ?_ | refine blk_alloc ?_ _)); exact BK269.out) hb); have n1_ := Aside0.mk (below_step (by repeat (first | (with_reducible first | exact HB.out | apply below_alloc | apply pw_below_drewN | apply below_drew1 | refine below_set ?_ GE269.out) | exact HB.out)) hb); clear BK269; clear HB; have BK269 := n0_; have HB := n1_; clear n0_ n1_; (try clear hb); (try clear hb2); (try clear hk); (try clear hi)))
  go_ret2
  exact ⟨by first | rfl | (simp [errW_none, errW_some] <;> rfl) | (simp [*, errW_none, errW_some] <;> rfl), by repeat (first | (with_reducible first | exact HB.out | apply below_alloc | apply pw_below_drewN | apply below_drew1 | refine below_set ?_ GE269.out) | exact HB.out)⟩

/-! ### skywaykeep1_FlyClosed_1: function 31 -/
section
open Go Go.RowKit
/-- Whether a path is in a closed volume at a second. -/
def skywaykeep1_FlyClosed_1.f (k : Nat) (l0 : List S71) (x : S65) (t : Int) : Option Bool :=
  (fly_At.f k l0 t).bind fun n => (volume_Has.f k x.f1.f0 x.f1.f1 x.f1.f2 n.2.1 n.2.2.1 n.2.2.2.1).bind fun h => (volume_During.f k x.f2 t).bind fun s =>
    some (((n.2.2.2.2 == 0) && (h.2 == 0)) && (s.2 == 0) && h.1 && s.1)
set_option maxRecDepth 100000 in
set_option maxHeartbeats 8000000 in
theorem skywaykeep1_FlyClosed_1.calls (k : Nat) {b0 : Nat} {A0 : Option Addr} {c0 : Nat} {l0 : List S71} {nm : ByteArray} {A1 : Option Addr} {c1 : Nat} {l1 : List S36} {lo hi : Int} {A2 : Option Addr} {c2 : Nat} {l2 : List S140} {t : Int} {r : Bool} {w : World} (h0 : w.heap[b0]? = some (.cells #[.slice A0 l0.length c0] 69 (0, 0)))
    (hr0 : Kd.C k71 w A0 l0.length l0) (hc0 : l0.length ≤ c0) (hr1 : Kd.C k36 w A1 l1.length l1) (hc1 : l1.length ≤ c1) (hr2 : Kd.C k140 w A2 l2.length l2) (hc2 : l2.length ≤ c2) (h : skywaykeep1_FlyClosed_1.f k l0 ⟨nm, ⟨l1, lo, hi⟩, l2⟩ t = some r) :
    Calls Try.prog 31 #[.agg #[.string nm, .slice A1 l1.length c1, .int .i64 lo, .int .i64 hi, .slice A2 l2.length c2], .int .i64 t, .pointer (some ⟨b0, 0, none⟩)] w fun e w' => e = .returned (.bool r) ∧ Below w.heap.size w w' := by
  unfold skywaykeep1_FlyClosed_1.f at h
  obtain ⟨⟨x1, x2, x3, x4, x5⟩, hx, h⟩ := Option.bind_eq_some_iff.1 h
  obtain ⟨⟨y1, y2⟩, hy, h⟩ := Option.bind_eq_some_iff.1 h
  obtain ⟨⟨z1, z2⟩, hz, h⟩ := Option.bind_eq_some_iff.1 h
  dsimp only at hy hz h
  have HH := Aside0.mk (Option.some.inj h)
  obtain ⟨W0, hW0⟩ : ∃ W0, w.alloc (.cells #[.string nm, .slice A1 l1.length c1, .int .i64 lo, .int .i64 hi, .slice A2 l2.length c2] 65) = W0 := ⟨_, rfl⟩
  have B0 := Aside0.mk (show Below w.heap.size w W0 by rw [← hW0]; exact below_alloc (Below.refl _ _) _)
  have d0 : W0.cell? ⟨b0, 0, none⟩ = some (.slice A0 l0.length c0) := (blk_cell (blk_below h0 B0.out) 0).trans rfl
  have X0 := Aside0.mk (show W0.heap[w.heap.size]? = some (.cells #[.string nm, .slice A1 l1.length c1, .int .i64 lo, .int .i64 hi, .slice A2 l2.length c2] 65 (0, 0)) by rw [← hW0]; exact blk_new w _)
  have HR1 := Aside0.mk hr1
  have HR2 := Aside0.mk hr2
  have HR0 := Aside0.mk (Kd.C_below hr0 B0.out)
  clear h hr1 hr2 hr0 h0
  go_enter Try.func31, Try.ntmps31
  go_wp2_with (first
    | (go_at_call 32; refine (fly_At.calls k A0 c0 l0 t x1 x2 x3 x4 x5 W0 HR0.out hc0 hx).mono ?_; rintro e w1 ⟨rfl, hb1⟩; clear hx d0; have B1 := Aside0.mk (below_alloc (below_step B0.out hb1) (.cells #[.int .i64 x1, .int .i64 x2, .int .i64 x3, .int .i64 x4] 71)); have X1 := Aside0.mk (blk_alloc (blk_below X0.out hb1) (.cells #[.int .i64 x1, .int .i64 x2, .int .i64 x3, .int .i64 x4] 71)); have m1 : (w1.alloc (.cells #[.int .i64 x1, .int .i64 x2, .int .i64 x3, .int .i64 x4] 71)).cell? ⟨w.heap.size, 1, none⟩ = some (.slice A1 l1.length c1) := (blk_cell X1.out 1).trans rfl; have m2 : (w1.alloc (.cells #[.int .i64 x1, .int .i64 x2, .int .i64 x3, .int .i64 x4] 71)).cell? ⟨w.heap.size, 2, none⟩ = some (.int .i64 lo) := (blk_cell X1.out 2).trans rfl; have m3 : (w1.alloc (.cells #[.int .i64 x1, .int .i64 x2, .int .i64 x3, .int .i64 x4] 71)).cell? ⟨w.heap.size, 3, none⟩ = some (.int .i64 hi) := (blk_cell X1.out 3).trans rfl; clear X0)
    | (go_at_call 33; refine (volume_Has.calls k A1 c1 l1 lo hi x2 x3 x4 y1 y2 _ (Kd.C_below HR1.out B1.out) hc1 hy).mono ?_; rintro e w2 ⟨rfl, hb2⟩; clear hy m1 m2 m3; have B2 := Aside0.mk (below_step B1.out hb2); have m4 : w2.cell? ⟨w.heap.size, 4, none⟩ = some (.slice A2 l2.length c2) := (blk_cell (blk_below X1.out hb2) 4).trans rfl; clear X1 B1 hb1 hb2)
    | (go_at_call 34; refine (volume_During.calls k A2 c2 l2 t z1 z2 _ (Kd.C_below HR2.out B2.out) hc2 hz).mono ?_; rintro e w3 ⟨rfl, hb3⟩; clear hz m4; have B3 := Aside0.mk (below_step B2.out hb3); clear hb3; by_cases q1 : x5 = 0 <;> by_cases q2 : y2 = 0 <;> by_cases q3 : z2 = 0))
  all_goals
    go_ret
    refine ⟨congrArg (fun b => Ending.returned (Value.bool b)) (HH.out.symm.trans ?_).symm, B3.out⟩
    simp [*]
end

end Go.Proofs.Ytbpbpojnfhhbjaa.PFlyClosed
