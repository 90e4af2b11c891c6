/- Made by a program of this session (wip/tools/myprint.py, over the kit's printer): that the Go functions answer as the Lean functions printed beside them. -/
import Derived.Test.YtbpbpojnfhhbjaaPFlyClosedx0
import Derived.Test.YtbpbpojnfhhbjaaPFlyClosedx1
import Derived.Test.YtbpbpojnfhhbjaaPFlyClosedx3
namespace Go.Proofs.Ytbpbpojnfhhbjaa.PFlyClosed
open Go.RowKit Go.Proofs.YtbpbpojnfhhbjaaW.PrintWords Go.Proofs.YtbpbpojnfhhbjaaW.PrintLast Go.Proofs.YtbpbpojnfhhbjaaW.PrintMore
attribute [local go_sem] max2_int min2_int max_two min_two max_three min_three max_four min_four   -- for this text's walks alone
set_option linter.unusedVariables false
set_option linter.unusedSimpArgs false

attribute [local go_sem high] eqA71
/-! ### aircraft_Check: function 109 -/
mutual
def aircraft_Check.j0 : Nat → Bool → ByteArray → Int → Int → Int → Int → Int → Int → Option (Int)
  | 0, _, _, _, _, _, _, _, _ => none
  | k + 1, x8, x136000, x136001, x136002, x136003, x136004, x136005, x136006 => if x8 = true then (some 1) else (if x136002 < 1 then (aircraft_Check.j1 k true x136000 x136001 x136002 x136003 x136004 x136005 x136006) else (aircraft_Check.j1 k (decide (x136002 > 60000)) x136000 x136001 x136002 x136003 x136004 x136005 x136006))
def aircraft_Check.j1 : Nat → Bool → ByteArray → Int → Int → Int → Int → Int → Int → Option (Int)
  | 0, _, _, _, _, _, _, _, _ => none
  | k + 1, x17, x136000, x136001, x136002, x136003, x136004, x136005, x136006 => if x17 = true then (aircraft_Check.j2 k x17 x136000 x136001 x136002 x136003 x136004 x136005 x136006) else (if x136003 < 1 then (aircraft_Check.j2 k true x136000 x136001 x136002 x136003 x136004 x136005 x136006) else (if x136003 > 200 then (aircraft_Check.j2 k (decide (x136003 > 200)) x136000 x136001 x136002 x136003 x136004 x136005 x136006) else (if x136004 < 1 then (aircraft_Check.j2 k true x136000 x136001 x136002 x136003 x136004 x136005 x136006) else (aircraft_Check.j2 k (decide (x136004 > 200)) x136000 x136001 x136002 x136003 x136004 x136005 x136006))))
def aircraft_Check.j2 : Nat → Bool → ByteArray → Int → Int → Int → Int → Int → Int → Option (Int)
  | 0, _, _, _, _, _, _, _, _ => none
  | k + 1, x17, x136000, x136001, x136002, x136003, x136004, x136005, x136006 => if x17 = true then (some 4) else (if x136005 < 1 then (aircraft_Check.j3 k true x136000 x136001 x136002 x136003 x136004 x136005 x136006) else (if x136005 > 400 then (aircraft_Check.j3 k true x136000 x136001 x136002 x136003 x136004 x136005 x136006) else (if x136006 < 1 then (aircraft_Check.j3 k true x136000 x136001 x136002 x136003 x136004 x136005 x136006) else (aircraft_Check.j3 k (decide (x136006 > 400)) x136000 x136001 x136002 x136003 x136004 x136005 x136006))))
def aircraft_Check.j3 : Nat → Bool → ByteArray → Int → Int → Int → Int → Int → Int → Option (Int)
  | 0, _, _, _, _, _, _, _, _ => none
  | k + 1, x42, x136000, x136001, x136002, x136003, x136004, x136005, x136006 => if x42 = true then (some 4) else (if x136005 > x136006 then (some 3) else (some 0))
end
def aircraft_Check.f (k : Nat) (a0_0 : ByteArray) (a0_1 : Int) (a0_2 : Int) (a0_3 : Int) (a0_4 : Int) (a0_5 : Int) (a0_6 : Int) : Option (Int) := (chart_Name.f k a0_0).bind fun t136 => (if t136 = true then (if a0_1 < 0 then (aircraft_Check.j0 k true a0_0 a0_1 a0_2 a0_3 a0_4 a0_5 a0_6) else (aircraft_Check.j0 k (decide (a0_1 > 3)) a0_0 a0_1 a0_2 a0_3 a0_4 a0_5 a0_6)) else (some 5))
theorem aircraft_Check.mono_l : ∀ k, (∀ y0 y1 y2 y3 y4 y5 y6 y7, LeO (aircraft_Check.j0 k y0 y1 y2 y3 y4 y5 y6 y7) (aircraft_Check.j0 (k + 1) y0 y1 y2 y3 y4 y5 y6 y7)) ∧ (∀ y0 y1 y2 y3 y4 y5 y6 y7, LeO (aircraft_Check.j1 k y0 y1 y2 y3 y4 y5 y6 y7) (aircraft_Check.j1 (k + 1) y0 y1 y2 y3 y4 y5 y6 y7)) ∧ (∀ y0 y1 y2 y3 y4 y5 y6 y7, LeO (aircraft_Check.j2 k y0 y1 y2 y3 y4 y5 y6 y7) (aircraft_Check.j2 (k + 1) y0 y1 y2 y3 y4 y5 y6 y7)) ∧ (∀ y0 y1 y2 y3 y4 y5 y6 y7, LeO (aircraft_Check.j3 k y0 y1 y2 y3 y4 y5 y6 y7) (aircraft_Check.j3 (k + 1) y0 y1 y2 y3 y4 y5 y6 y7))
  | 0 => ⟨fun _ _ _ _ _ _ _ _ r h => by simp [aircraft_Check.j0] at h, fun _ _ _ _ _ _ _ _ r h => by simp [aircraft_Check.j1] at h, fun _ _ _ _ _ _ _ _ r h => by simp [aircraft_Check.j2] at h, fun _ _ _ _ _ _ _ _ r h => by simp [aircraft_Check.j3] at h⟩
  | k + 1 => by
    obtain ⟨ih0, ih1, ih2, ih3⟩ := aircraft_Check.mono_l k
    refine ⟨?_, ?_, ?_, ?_⟩
    · intro y0 y1 y2 y3 y4 y5 y6 y7
      unfold aircraft_Check.j0
      repeat' first
      | (with_reducible exact ih0 _ _ _ _ _ _ _ _)
      | (with_reducible exact ih1 _ _ _ _ _ _ _ _)
      | (with_reducible exact ih2 _ _ _ _ _ _ _ _)
      | (with_reducible exact ih3 _ _ _ _ _ _ _ _)
      | (with_reducible exact chart_Name.mono _ _)
      | (with_reducible exact LeO.refl _)
      | (with_reducible exact LeO.none _)
      | (with_reducible refine LeO.ite ?_ ?_)
      | (with_reducible refine LeO.bind ?_ (fun _ => ?_))
      | exact ih0 _ _ _ _ _ _ _ _
      | exact ih1 _ _ _ _ _ _ _ _
      | exact ih2 _ _ _ _ _ _ _ _
      | exact ih3 _ _ _ _ _ _ _ _
      | exact chart_Name.mono _ _
      | exact LeO.none _
      | refine LeO.ite ?_ ?_
      | refine LeO.bind ?_ (fun _ => ?_)
    · intro y0 y1 y2 y3 y4 y5 y6 y7
      unfold aircraft_Check.j1
      repeat' first
      | (with_reducible exact ih0 _ _ _ _ _ _ _ _)
      | (with_reducible exact ih1 _ _ _ _ _ _ _ _)
      | (with_reducible exact ih2 _ _ _ _ _ _ _ _)
      | (with_reducible exact ih3 _ _ _ _ _ _ _ _)
      | (with_reducible exact chart_Name.mono _ _)
      | (with_reducible exact LeO.refl _)
      | (with_reducible exact LeO.none _)
      | (with_reducible refine LeO.ite ?_ ?_)
      | (with_reducible refine LeO.bind ?_ (fun _ => ?_))
      | exact ih0 _ _ _ _ _ _ _ _
      | exact ih1 _ _ _ _ _ _ _ _
      | exact ih2 _ _ _ _ _ _ _ _
      | exact ih3 _ _ _ _ _ _ _ _
      | exact chart_Name.mono _ _
      | exact LeO.none _
      | refine LeO.ite ?_ ?_
      | refine LeO.bind ?_ (fun _ => ?_)
    · intro y0 y1 y2 y3 y4 y5 y6 y7
      unfold aircraft_Check.j2
      repeat' first
      | (with_reducible exact ih0 _ _ _ _ _ _ _ _)
      | (with_reducible exact ih1 _ _ _ _ _ _ _ _)
      | (with_reducible exact ih2 _ _ _ _ _ _ _ _)
      | (with_reducible exact ih3 _ _ _ _ _ _ _ _)
      | (with_reducible exact chart_Name.mono _ _)
      | (with_reducible exact LeO.refl _)
      | (with_reducible exact LeO.none _)
      | (with_reducible refine LeO.ite ?_ ?_)
      | (with_reducible refine LeO.bind ?_ (fun _ => ?_))
      | exact ih0 _ _ _ _ _ _ _ _
      | exact ih1 _ _ _ _ _ _ _ _
      | exact ih2 _ _ _ _ _ _ _ _
      | exact ih3 _ _ _ _ _ _ _ _
      | exact chart_Name.mono _ _
      | exact LeO.none _
      | refine LeO.ite ?_ ?_
      | refine LeO.bind ?_ (fun _ => ?_)
    · intro y0 y1 y2 y3 y4 y5 y6 y7
      unfold aircraft_Check.j3
      repeat' first
      | (with_reducible exact ih0 _ _ _ _ _ _ _ _)
      | (with_reducible exact ih1 _ _ _ _ _ _ _ _)
      | (with_reducible exact ih2 _ _ _ _ _ _ _ _)
      | (with_reducible exact ih3 _ _ _ _ _ _ _ _)
      | (with_reducible exact chart_Name.mono _ _)
      | (with_reducible exact LeO.refl _)
      | (with_reducible exact LeO.none _)
      | (with_reducible refine LeO.ite ?_ ?_)
      | (with_reducible refine LeO.bind ?_ (fun _ => ?_))
      | exact ih0 _ _ _ _ _ _ _ _
      | exact ih1 _ _ _ _ _ _ _ _
      | exact ih2 _ _ _ _ _ _ _ _
      | exact ih3 _ _ _ _ _ _ _ _
      | exact chart_Name.mono _ _
      | exact LeO.none _
      | refine LeO.ite ?_ ?_
      | refine LeO.bind ?_ (fun _ => ?_)
theorem aircraft_Check.mono : ∀ a0 a1 a2 a3 a4 a5 a6 k, LeO (aircraft_Check.f k a0 a1 a2 a3 a4 a5 a6) (aircraft_Check.f (k + 1) a0 a1 a2 a3 a4 a5 a6) := by
  intro a0 a1 a2 a3 a4 a5 a6 k
  obtain ⟨ih0, ih1, ih2, ih3⟩ := aircraft_Check.mono_l k
  unfold aircraft_Check.f
  repeat' first
      | (with_reducible exact ih0 _ _ _ _ _ _ _ _)
      | (with_reducible exact ih1 _ _ _ _ _ _ _ _)
      | (with_reducible exact ih2 _ _ _ _ _ _ _ _)
      | (with_reducible exact ih3 _ _ _ _ _ _ _ _)
      | (with_reducible exact chart_Name.mono _ _)
      | (with_reducible exact LeO.refl _)
      | (with_reducible exact LeO.none _)
      | (with_reducible refine LeO.ite ?_ ?_)
      | (with_reducible refine LeO.bind ?_ (fun _ => ?_))
      | exact ih0 _ _ _ _ _ _ _ _
      | exact ih1 _ _ _ _ _ _ _ _
      | exact ih2 _ _ _ _ _ _ _ _
      | exact ih3 _ _ _ _ _ _ _ _
      | exact chart_Name.mono _ _
      | exact LeO.none _
      | refine LeO.ite ?_ ?_
      | refine LeO.bind ?_ (fun _ => ?_)
set_option maxHeartbeats 8000000 in
set_option maxRecDepth 100000 in
theorem aircraft_Check.calls (k : Nat) (a0_0 : ByteArray) (a0_1 : Int) (a0_2 : Int) (a0_3 : Int) (a0_4 : Int) (a0_5 : Int) (a0_6 : Int) (r : Int) (w : World) (h : aircraft_Check.f k a0_0 a0_1 a0_2 a0_3 a0_4 a0_5 a0_6 = some r) :
    Calls Try.prog 109 #[.agg #[.string a0_0, .int .i64 a0_1, .int .i64 a0_2, .int .i64 a0_3, .int .i64 a0_4, .int .i64 a0_5, .int .i64 a0_6]] w fun e w' => e = .returned (.int .i64 r) ∧ Below w.heap.size w w' := by
 have hu132 := Try.underlying132
 have HB := Aside0.mk (Below.refl w.heap.size w)
 have H : ((chart_Name.f k a0_0).bind fun t136 => (if t136 = true then (if a0_1 < 0 then (aircraft_Check.j0 k true a0_0 a0_1 a0_2 a0_3 a0_4 a0_5 a0_6) else (aircraft_Check.j0 k (decide (a0_1 > 3)) a0_0 a0_1 a0_2 a0_3 a0_4 a0_5 a0_6)) else (some 5))) = some r := h
 clear h
 replace H := Option.bind_eq_some_iff.mp H
 obtain ⟨t136, A20, H⟩ := H
 replace H : (if t136 = true then (if a0_1 < 0 then (aircraft_Check.j0 k true a0_0 a0_1 a0_2 a0_3 a0_4 a0_5 a0_6) else (aircraft_Check.j0 k (decide (a0_1 > 3)) a0_0 a0_1 a0_2 a0_3 a0_4 a0_5 a0_6)) else (some 5)) = some r := H
 have A2 := Aside0.mk A20
 clear A20
 by_cases c3 : t136 = true
 · subst c3
   have H1 : (if a0_1 < 0 then (aircraft_Check.j0 k true a0_0 a0_1 a0_2 a0_3 a0_4 a0_5 a0_6) else (aircraft_Check.j0 k (decide (a0_1 > 3)) a0_0 a0_1 a0_2 a0_3 a0_4 a0_5 a0_6)) = some r := by rw [if_pos rfl] at H; exact H
   clear H
   have H := H1
   clear H1
   have HC4 := Aside0.mk H
   clear H
   go_enter Try.func109, Try.ntmps109
   go_upto_region 3 with (first | ((with_reducible refine gate_dst (N := 1) rfl ?_); refine box_event ?hg (N := 1) ?hd (cs := #[.string a0_0, .int .i64 a0_1, .int .i64 a0_2, .int .i64 a0_3, .int .i64 a0_4, .int .i64 a0_5, .int .i64 a0_6]) (t := 132) ?hr ?_; (case hd => rfl); (case hg => rfl); (case hr => first | (go_simp; done) | (go_simp; rfl)); intro gb135 hg wxe5a31 hbox hb; have n0_ := Aside0.mk (below_step (by repeat (first | (with_reducible first | exact HB.out | apply below_alloc | apply pw_below_drewN | apply below_drew1) | exact HB.out)) hb); have n1_ := Aside0.mk (hbox); have n2_ := Aside0.mk ((by rw [hg]; exact (below_size (by repeat (first | (with_reducible first | exact HB.out | apply below_alloc | apply pw_below_drewN | apply below_drew1) | exact HB.out))) : w.heap.size ≤ gb135)); have n3_ := Aside0.mk ((by rw [hg]; exact (below_size (by repeat (first | (with_reducible first | exact HB.out | apply below_alloc | apply pw_below_drewN | apply below_drew1) | exact HB.out))) : w.heap.size ≤ gb135)); clear HB; have HB := n0_; have BK135 := n1_; have GW135 := n2_; have GE135 := n3_; clear n0_ n1_ n2_ n3_; clear hb hbox hg; have hczxe5a31 : wxe5a31.cell? ⟨gb135, 0, none⟩ = some (.string a0_0) := (blk_cell BK135.out 0).trans rfl; have hczxe5a32 : wxe5a31.cell? ⟨gb135, 1, none⟩ = some (.int .i64 a0_1) := (blk_cell BK135.out 1).trans rfl; have hczxe5a33 : wxe5a31.cell? ⟨gb135, 2, none⟩ = some (.int .i64 a0_2) := (blk_cell BK135.out 2).trans rfl; have hczxe5a34 : wxe5a31.cell? ⟨gb135, 3, none⟩ = some (.int .i64 a0_3) := (blk_cell BK135.out 3).trans rfl; have hczxe5a35 : wxe5a31.cell? ⟨gb135, 4, none⟩ = some (.int .i64 a0_4) := (blk_cell BK135.out 4).trans rfl; have hczxe5a36 : wxe5a31.cell? ⟨gb135, 5, none⟩ = some (.int .i64 a0_5) := (blk_cell BK135.out 5).trans rfl; have hczxe5a37 : wxe5a31.cell? ⟨gb135, 6, none⟩ = some (.int .i64 a0_6) := (blk_cell BK135.out 6).trans rfl; have hfzxe5a31 := blk_frozen BK135.out 0; have hfzxe5a32 := blk_frozen BK135.out 1; have hfzxe5a33 := blk_frozen BK135.out 2; have hfzxe5a34 := blk_frozen BK135.out 3; have hfzxe5a35 := blk_frozen BK135.out 4; have hfzxe5a36 := blk_frozen BK135.out 5; have hfzxe5a37 := blk_frozen BK135.out 6) | ((with_reducible refine gate_callee (f := 48) rfl ?_); refine goesL_ (some 6) rfl rfl Try.func48 (by kernel_rfl) rfl #[.string a0_0] rfl (by (try simp only [List.map_toArray, List.map_cons, List.map_nil]); first | done | rfl | (simp only [List.length_drop, List.length_take]; rfl)) ?_; (with_reducible refine (chart_Name.calls k a0_0 true _ A2.out).mono ?_); rintro e wx3e2b1 ⟨rfl, hb⟩; refine ⟨_, rfl, ?_⟩; have n0_ := Aside0.mk (blk_below (g := gb135) (o := .cells #[.string a0_0, .int .i64 a0_1, .int .i64 a0_2, .int .i64 a0_3, .int .i64 a0_4, .int .i64 a0_5, .int .i64 a0_6] 132 (0, 0)) (by (with_reducible repeat (first | refine blk_drewN ?_ _ | refine blk_drew ?_ | refine blk_alloc ?_ _)); exact BK135.out) hb); have n1_ := Aside0.mk (below_step (by repeat (first | (with_reducible first | exact HB.out | apply below_alloc | apply pw_below_drewN | apply below_drew1 | refine below_set ?_ GE135.out) | exact HB.out)) hb); clear BK135; clear HB; have BK135 := n0_; have HB := n1_; clear n0_ n1_; (try clear hb); (try clear hb2); (try clear hk); (try clear hi)))
   (try simp only [Act.put, List.setIfInBounds_toArray, List.set_cons_zero, List.set_cons_succ])
   go_cut [8] (fun v8 wc => ∃ (kq : Nat) (x8_3 : Bool), v8 = .bool x8_3 ∧ Aside0 (aircraft_Check.j0 kq x8_3 a0_0 a0_1 a0_2 a0_3 a0_4 a0_5 a0_6 = some r) ∧ Aside0 (kq ≤ k) ∧ Aside0 (wc.heap[gb135]? = some (.cells #[.string a0_0, .int .i64 a0_1, .int .i64 a0_2, .int .i64 a0_3, .int .i64 a0_4, .int .i64 a0_5, .int .i64 a0_6] 132 (0, 0))) ∧ Aside0 (Below w.heap.size w wc))
   case first =>
    have H := HC4.out
    clear HC4
    refine Or.elim (Classical.em (a0_1 < 0)) (fun c8 => ?p2_) (fun c8 => ?n2_)
    case' p2_ =>
     rw [if_pos c8] at H
     have c8b0 : decide (a0_1 < 0) = true := decide_eq_true c8
     clear c8
     (first | rw [c8b0] | (simp only [i64_w, i32_w]; rw [c8b0]) | skip)
    case' n2_ =>
     rw [if_neg c8] at H
     have c8b0 : decide (a0_1 < 0) = false := decide_eq_false c8
     clear c8
     (first | rw [c8b0] | (simp only [i64_w, i32_w]; rw [c8b0]) | skip)
    all_goals
     have H' := Aside0.mk H
     clear H
     have hczzb1 : wx3e2b1.cell? ⟨gb135, 0, none⟩ = some (.string a0_0) := (blk_cell BK135.out 0).trans rfl
     have hczzb2 : wx3e2b1.cell? ⟨gb135, 1, none⟩ = some (.int .i64 a0_1) := (blk_cell BK135.out 1).trans rfl
     have hczzb3 : wx3e2b1.cell? ⟨gb135, 2, none⟩ = some (.int .i64 a0_2) := (blk_cell BK135.out 2).trans rfl
     have hczzb4 : wx3e2b1.cell? ⟨gb135, 3, none⟩ = some (.int .i64 a0_3) := (blk_cell BK135.out 3).trans rfl
     have hczzb5 : wx3e2b1.cell? ⟨gb135, 4, none⟩ = some (.int .i64 a0_4) := (blk_cell BK135.out 4).trans rfl
     have hczzb6 : wx3e2b1.cell? ⟨gb135, 5, none⟩ = some (.int .i64 a0_5) := (blk_cell BK135.out 5).trans rfl
     have hczzb7 : wx3e2b1.cell? ⟨gb135, 6, none⟩ = some (.int .i64 a0_6) := (blk_cell BK135.out 6).trans rfl
     have hfzzb1 := blk_frozen BK135.out 0
     have hfzzb2 := blk_frozen BK135.out 1
     have hfzzb3 := blk_frozen BK135.out 2
     have hfzzb4 := blk_frozen BK135.out 3
     have hfzzb5 := blk_frozen BK135.out 4
     have hfzzb6 := blk_frozen BK135.out 5
     have hfzzb7 := blk_frozen BK135.out 6
     go_wp2
     go_meet
     case rel => first | (exact ⟨_, (true), (by first | rfl | (simp; done) | (simp [*]; done)), H', ⟨by first | omega | exact Nat.le_refl _⟩, ⟨by (with_reducible repeat (first | refine blk_drewN ?_ _ | refine blk_drew ?_ | refine blk_alloc ?_ _)); exact BK135.out⟩, ⟨by repeat (first | (with_reducible first | exact HB.out | apply below_alloc | apply pw_below_drewN | apply below_drew1 | refine below_set ?_ GE135.out) | exact HB.out)⟩⟩) | (exact ⟨_, (decide (a0_1 > 3)), (by first | rfl | (simp; done) | (simp [*]; done)), H', ⟨by first | omega | exact Nat.le_refl _⟩, ⟨by (with_reducible repeat (first | refine blk_drewN ?_ _ | refine blk_drew ?_ | refine blk_alloc ?_ _)); exact BK135.out⟩, ⟨by repeat (first | (with_reducible first | exact HB.out | apply below_alloc | apply pw_below_drewN | apply below_drew1 | refine below_set ?_ GE135.out) | exact HB.out)⟩⟩)
   case rest =>
    clear HC4
    (try clear c1); (try clear p2); (try clear c3); (try clear c4); (try clear c8); (try clear c8b0); (try clear c10); (try clear hczza8); (try clear hczza9); (try clear hczza10); (try clear hczza11); (try clear hczza12); (try clear hczza13); (try clear hczza14); (try clear hczxe5a31); (try clear hczxe5a32); (try clear hczxe5a33); (try clear hczxe5a34); (try clear hczxe5a35); (try clear hczxe5a36); (try clear hczxe5a37); (try clear hczza1); (try clear hczza2); (try clear hczza3); (try clear hczza4); (try clear hczza5); (try clear hczza6); (try clear hczza7); (try clear hfzza8); (try clear hfzza9); (try clear hfzza10); (try clear hfzza11); (try clear hfzza12); (try clear hfzza13); (try clear hfzza14); (try clear hfzxe5a31); (try clear hfzxe5a32); (try clear hfzxe5a33); (try clear hfzxe5a34); (try clear hfzxe5a35)
    (try clear hfzxe5a36); (try clear hfzxe5a37); (try clear hfzza1); (try clear hfzza2); (try clear hfzza3); (try clear hfzza4); (try clear hfzza5); (try clear hfzza6); (try clear hfzza7)
    obtain ⟨kq, x8_3, rfl, HA, HJ3, BK135, HB⟩ := hcut
    cases kq with
    | zero => exact absurd HA.out (by simp [aircraft_Check.j0])
    | succ kj3 =>
     have H := HA.out
     clear HA
     simp only [aircraft_Check.j0] at H
     by_cases c11 : x8_3 = true
     · subst c11
       have H1 : (some 1) = some r := by rw [if_pos rfl] at H; exact H
       clear H
       have H := H1
       clear H1
       obtain rfl := Option.some.inj H
       go_wp2
       go_ret
       exact ⟨by first | rfl | (simp [errW_none, errW_some] <;> rfl) | (simp [*, errW_none, errW_some] <;> rfl), by repeat (first | (with_reducible first | exact HB.out | apply below_alloc | apply pw_below_drewN | apply below_drew1 | refine below_set ?_ GE135.out) | exact HB.out)⟩
     · replace c11 := Bool.eq_false_iff.mpr c11
       subst c11
       have H1 : (if a0_2 < 1 then (aircraft_Check.j1 kj3 true a0_0 a0_1 a0_2 a0_3 a0_4 a0_5 a0_6) else (aircraft_Check.j1 kj3 (decide (a0_2 > 60000)) a0_0 a0_1 a0_2 a0_3 a0_4 a0_5 a0_6)) = some r := by rw [if_neg (show ¬ (false = true) by decide)] at H; exact H
       clear H
       have H := H1
       clear H1
       have HC12 := Aside0.mk H
       clear H
       go_upto_region 5 with (fail)
       go_cut [17] (fun v17 wc => ∃ (kq : Nat) (x17_11 : Bool), v17 = .bool x17_11 ∧ Aside0 (aircraft_Check.j1 kq x17_11 a0_0 a0_1 a0_2 a0_3 a0_4 a0_5 a0_6 = some r) ∧ Aside0 (kq ≤ kj3) ∧ Aside0 (wc.heap[gb135]? = some (.cells #[.string a0_0, .int .i64 a0_1, .int .i64 a0_2, .int .i64 a0_3, .int .i64 a0_4, .int .i64 a0_5, .int .i64 a0_6] 132 (0, 0))) ∧ Aside0 (Below w.heap.size w wc))
       case first =>
        have H := HC12.out
        clear HC12
        refine Or.elim (Classical.em (a0_2 < 1)) (fun c13 => ?p4_) (fun c13 => ?n4_)
        case' p4_ =>
         rw [if_pos c13] at H
         have c13b0 : decide (a0_2 < 1) = true := decide_eq_true c13
         clear c13
         (first | rw [c13b0] | (simp only [i64_w, i32_w]; rw [c13b0]) | skip)
        case' n4_ =>
         rw [if_neg c13] at H
         have c13b0 : decide (a0_2 < 1) = false := decide_eq_false c13
         clear c13
         (first | rw [c13b0] | (simp only [i64_w, i32_w]; rw [c13b0]) | skip)
        all_goals
         have H' := Aside0.mk H
         clear H
         have hczzd1 : wc.cell? ⟨gb135, 0, none⟩ = some (.string a0_0) := (blk_cell BK135.out 0).trans rfl
         have hczzd2 : wc.cell? ⟨gb135, 1, none⟩ = some (.int .i64 a0_1) := (blk_cell BK135.out 1).trans rfl
         have hczzd3 : wc.cell? ⟨gb135, 2, none⟩ = some (.int .i64 a0_2) := (blk_cell BK135.out 2).trans rfl
         have hczzd4 : wc.cell? ⟨gb135, 3, none⟩ = some (.int .i64 a0_3) := (blk_cell BK135.out 3).trans rfl
         have hczzd5 : wc.cell? ⟨gb135, 4, none⟩ = some (.int .i64 a0_4) := (blk_cell BK135.out 4).trans rfl
         have hczzd6 : wc.cell? ⟨gb135, 5, none⟩ = some (.int .i64 a0_5) := (blk_cell BK135.out 5).trans rfl
         have hczzd7 : wc.cell? ⟨gb135, 6, none⟩ = some (.int .i64 a0_6) := (blk_cell BK135.out 6).trans rfl
         have hfzzd1 := blk_frozen BK135.out 0
         have hfzzd2 := blk_frozen BK135.out 1
         have hfzzd3 := blk_frozen BK135.out 2
         have hfzzd4 := blk_frozen BK135.out 3
         have hfzzd5 := blk_frozen BK135.out 4
         have hfzzd6 := blk_frozen BK135.out 5
         have hfzzd7 := blk_frozen BK135.out 6
         go_wp2
         go_meet
         case rel => first | (exact ⟨_, (true), (by first | rfl | (simp; done) | (simp [*]; done)), H', ⟨by have := HJ3.out; first | omega | exact Nat.le_refl _⟩, ⟨by (with_reducible repeat (first | refine blk_drewN ?_ _ | refine blk_drew ?_ | refine blk_alloc ?_ _)); exact BK135.out⟩, ⟨by repeat (first | (with_reducible first | exact HB.out | apply below_alloc | apply pw_below_drewN | apply below_drew1 | refine below_set ?_ GE135.out) | exact HB.out)⟩⟩) | (exact ⟨_, (decide (a0_2 > 60000)), (by first | rfl | (simp; done) | (simp [*]; done)), H', ⟨by have := HJ3.out; first | omega | exact Nat.le_refl _⟩, ⟨by (with_reducible repeat (first | refine blk_drewN ?_ _ | refine blk_drew ?_ | refine blk_alloc ?_ _)); exact BK135.out⟩, ⟨by repeat (first | (with_reducible first | exact HB.out | apply below_alloc | apply pw_below_drewN | apply below_drew1 | refine below_set ?_ GE135.out) | exact HB.out)⟩⟩)
       case rest =>
        clear HC12
        (try clear c1); (try clear p2); (try clear c3); (try clear c4); (try clear c8); (try clear c8b0); (try clear c10); (try clear c11); (try clear c13); (try clear c13b0); (try clear hczzc15); (try clear hczzc16); (try clear hczzc17); (try clear hczzc18); (try clear hczzc19); (try clear hczzc20); (try clear hczzc21); (try clear hczzc1); (try clear hczzc2); (try clear hczzc3); (try clear hczzc4); (try clear hczzc5); (try clear hczzc6); (try clear hczzc7); (try clear hczzc8); (try clear hczzc9); (try clear hczzc10); (try clear hczzc11); (try clear hczzc12); (try clear hczzc13); (try clear hczzc14); (try clear hczxe5a31); (try clear hczxe5a32); (try clear hczxe5a33); (try clear hczxe5a34); (try clear hczxe5a35); (try clear hczxe5a36); (try clear hczxe5a37); (try clear hczzc22); (try clear hczzc23)
        (try clear hczzc24); (try clear hczzc25); (try clear hczzc26); (try clear hczzc27); (try clear hczzc28); (try clear hfzzc15); (try clear hfzzc16); (try clear hfzzc17); (try clear hfzzc18); (try clear hfzzc19); (try clear hfzzc20); (try clear hfzzc21); (try clear hfzzc1); (try clear hfzzc2); (try clear hfzzc3); (try clear hfzzc4); (try clear hfzzc5); (try clear hfzzc6); (try clear hfzzc7); (try clear hfzzc8); (try clear hfzzc9); (try clear hfzzc10); (try clear hfzzc11); (try clear hfzzc12); (try clear hfzzc13); (try clear hfzzc14); (try clear hfzxe5a31); (try clear hfzxe5a32); (try clear hfzxe5a33); (try clear hfzxe5a34); (try clear hfzxe5a35); (try clear hfzxe5a36); (try clear hfzxe5a37); (try clear hfzzc22); (try clear hfzzc23); (try clear hfzzc24); (try clear hfzzc25); (try clear hfzzc26); (try clear hfzzc27); (try clear hfzzc28)
        (try clear p2)
        obtain ⟨kq, x17_11, rfl, HA, HJ11, BK135, HB⟩ := hcut
        cases kq with
        | zero => exact absurd HA.out (by simp [aircraft_Check.j1])
        | succ kj11 =>
         have H := HA.out
         clear HA
         simp only [aircraft_Check.j1] at H
         have HC16 := Aside0.mk H
         clear H
         go_upto_if 17 with (fail)
         go_cut [17] (fun v17 wc => ∃ (kq : Nat) (x17_15 : Bool), v17 = .bool x17_15 ∧ Aside0 (aircraft_Check.j2 kq x17_15 a0_0 a0_1 a0_2 a0_3 a0_4 a0_5 a0_6 = some r) ∧ Aside0 (kq ≤ kj11) ∧ Aside0 (wc.heap[gb135]? = some (.cells #[.string a0_0, .int .i64 a0_1, .int .i64 a0_2, .int .i64 a0_3, .int .i64 a0_4, .int .i64 a0_5, .int .i64 a0_6] 132 (0, 0))) ∧ Aside0 (Below w.heap.size w wc))
         case first =>
          have H := HC16.out
          clear HC16
          refine Or.elim (Classical.em (x17_11 = true)) (fun c17 => ?p6_) (fun c17 => ?n6_)
          case' p6_ =>
           subst c17
           have H1 : (aircraft_Check.j2 kj11 true a0_0 a0_1 a0_2 a0_3 a0_4 a0_5 a0_6) = some r := by rw [if_pos rfl] at H; exact H
           clear H
           have H := H1
           clear H1
           have hm5_0 := Aside0.mk trivial
          case' n6_ =>
           replace c17 := Bool.eq_false_iff.mpr c17
           subst c17
           have H1 : (if a0_3 < 1 then (aircraft_Check.j2 kj11 true a0_0 a0_1 a0_2 a0_3 a0_4 a0_5 a0_6) else (if a0_3 > 200 then (aircraft_Check.j2 kj11 (decide (a0_3 > 200)) a0_0 a0_1 a0_2 a0_3 a0_4 a0_5 a0_6) else (if a0_4 < 1 then (aircraft_Check.j2 kj11 true a0_0 a0_1 a0_2 a0_3 a0_4 a0_5 a0_6) else (aircraft_Check.j2 kj11 (decide (a0_4 > 200)) a0_0 a0_1 a0_2 a0_3 a0_4 a0_5 a0_6)))) = some r := by rw [if_neg (show ¬ (false = true) by decide)] at H; exact H
           clear H
           have H := H1
           clear H1
           refine Or.elim (Classical.em (a0_3 < 1)) (fun c18 => ?p7_) (fun c18 => ?n7_)
           case' p7_ =>
            rw [if_pos c18] at H
            have c18b0 : decide (a0_3 < 1) = true := decide_eq_true c18
            clear c18
            (first | rw [c18b0] | (simp only [i64_w, i32_w]; rw [c18b0]) | skip)
            have hm5_1 := Aside0.mk trivial
           case' n7_ =>
            rw [if_neg c18] at H
            have c18b0 : decide (a0_3 < 1) = false := decide_eq_false c18
            clear c18
            (first | rw [c18b0] | (simp only [i64_w, i32_w]; rw [c18b0]) | skip)
            refine Or.elim (Classical.em (a0_3 > 200)) (fun c20 => ?p8_) (fun c20 => ?n8_)
            case' p8_ =>
             rw [if_pos c20] at H
             have c20b0 : decide (200 < a0_3) = true := decide_eq_true c20
             clear c20
             have hm5_1 := Aside0.mk trivial
            case' n8_ =>
             rw [if_neg c20] at H
             have c20b0 : decide (200 < a0_3) = false := decide_eq_false c20
             clear c20
             refine Or.elim (Classical.em (a0_4 < 1)) (fun c22 => ?p9_) (fun c22 => ?n9_)
             case' p9_ =>
              rw [if_pos c22] at H
              have c22b0 : decide (a0_4 < 1) = true := decide_eq_true c22
              clear c22
              have hm5_1 := Aside0.mk trivial
             case' n9_ =>
              rw [if_neg c22] at H
              have c22b0 : decide (a0_4 < 1) = false := decide_eq_false c22
              clear c22
              have hm5_1 := Aside0.mk trivial
          all_goals
           have H' := Aside0.mk H
           clear H
           first
            | clear hm5_0
              go_wp2
              go_meet
              case rel => exact ⟨_, (true), (by first | rfl | (simp; done) | (simp [*]; done)), H', ⟨by have := HJ3.out; have := HJ11.out; first | omega | exact Nat.le_refl _⟩, ⟨by (with_reducible repeat (first | refine blk_drewN ?_ _ | refine blk_drew ?_ | refine blk_alloc ?_ _)); exact BK135.out⟩, ⟨by repeat (first | (with_reducible first | exact HB.out | apply below_alloc | apply pw_below_drewN | apply below_drew1 | refine below_set ?_ GE135.out) | exact HB.out)⟩⟩
            | clear hm5_1
              have hczzf1 : wc.cell? ⟨gb135, 0, none⟩ = some (.string a0_0) := (blk_cell BK135.out 0).trans rfl
              have hczzf2 : wc.cell? ⟨gb135, 1, none⟩ = some (.int .i64 a0_1) := (blk_cell BK135.out 1).trans rfl
              have hczzf3 : wc.cell? ⟨gb135, 2, none⟩ = some (.int .i64 a0_2) := (blk_cell BK135.out 2).trans rfl
              have hczzf4 : wc.cell? ⟨gb135, 3, none⟩ = some (.int .i64 a0_3) := (blk_cell BK135.out 3).trans rfl
              have hczzf5 : wc.cell? ⟨gb135, 4, none⟩ = some (.int .i64 a0_4) := (blk_cell BK135.out 4).trans rfl
              have hczzf6 : wc.cell? ⟨gb135, 5, none⟩ = some (.int .i64 a0_5) := (blk_cell BK135.out 5).trans rfl
              have hczzf7 : wc.cell? ⟨gb135, 6, none⟩ = some (.int .i64 a0_6) := (blk_cell BK135.out 6).trans rfl
              have hfzzf1 := blk_frozen BK135.out 0
              have hfzzf2 := blk_frozen BK135.out 1
              have hfzzf3 := blk_frozen BK135.out 2
              have hfzzf4 := blk_frozen BK135.out 3
              have hfzzf5 := blk_frozen BK135.out 4
              have hfzzf6 := blk_frozen BK135.out 5
              have hfzzf7 := blk_frozen BK135.out 6
              go_wp2
              go_meet
              case rel => first | (exact ⟨_, (true), (by first | rfl | (simp; done) | (simp [*]; done)), H', ⟨by have := HJ3.out; have := HJ11.out; first | omega | exact Nat.le_refl _⟩, ⟨by (with_reducible repeat (first | refine blk_drewN ?_ _ | refine blk_drew ?_ | refine blk_alloc ?_ _)); exact BK135.out⟩, ⟨by repeat (first | (with_reducible first | exact HB.out | apply below_alloc | apply pw_below_drewN | apply below_drew1 | refine below_set ?_ GE135.out) | exact HB.out)⟩⟩) | (exact ⟨_, (decide (a0_3 > 200)), (by first | rfl | (simp; done) | (simp [*]; done)), H', ⟨by have := HJ3.out; have := HJ11.out; first | omega | exact Nat.le_refl _⟩, ⟨by (with_reducible repeat (first | refine blk_drewN ?_ _ | refine blk_drew ?_ | refine blk_alloc ?_ _)); exact BK135.out⟩, ⟨by repeat (first | (with_reducible first | exact HB.out | apply below_alloc | apply pw_below_drewN | apply below_drew1 | refine below_set ?_ GE135.out) | exact HB.out)⟩⟩) | (exact ⟨_, (decide (a0_4 > 200)), (by first | rfl | (simp; done) | (simp [*]; done)), H', ⟨by have := HJ3.out; have := HJ11.out; first | omega | exact Nat.le_refl _⟩, ⟨by (with_reducible repeat (first | refine blk_drewN ?_ _ | refine blk_drew ?_ | refine blk_alloc ?_ _)); exact BK135.out⟩, ⟨by repeat (first | (with_reducible first | exact HB.out | apply below_alloc | apply pw_below_drewN | apply below_drew1 | refine below_set ?_ GE135.out) | exact HB.out)⟩⟩)
         case rest =>
          clear HC16
          (try clear c1); (try clear c2); (try clear p2); (try clear c3); (try clear c4); (try clear c8); (try clear c8b0); (try clear c10); (try clear c11); (try clear c13); (try clear c13b0); (try clear c17); (try clear c18); (try clear c18b0); (try clear c20); (try clear c20b0); (try clear c22); (try clear c22b0); (try clear hczzc15); (try clear hczzc16); (try clear hczzc17); (try clear hczzc18); (try clear hczzc19); (try clear hczzc20); (try clear hczzc21); (try clear hczzc1); (try clear hczzc2); (try clear hczzc3); (try clear hczzc4); (try clear hczzc5); (try clear hczzc6); (try clear hczzc7); (try clear hczzc8); (try clear hczzc9); (try clear hczzc10); (try clear hczzc11); (try clear hczzc12); (try clear hczzc13); (try clear hczzc14); (try clear hczzc29)
          (try clear hczzc30); (try clear hczzc31); (try clear hczzc32); (try clear hczzc33); (try clear hczzc34); (try clear hczzc35); (try clear hczzc36); (try clear hczzc37); (try clear hczzc38); (try clear hczzc39); (try clear hczzc40); (try clear hczzc41); (try clear hczzc42); (try clear hczzc43); (try clear hczzc44); (try clear hczzc45); (try clear hczzc46); (try clear hczzc47); (try clear hczzc48); (try clear hczzc49); (try clear hczzc50); (try clear hczzc51); (try clear hczzc52); (try clear hczzc53); (try clear hczzc54); (try clear hczzc55); (try clear hczzc56); (try clear hczxe5a31); (try clear hczxe5a32); (try clear hczxe5a33); (try clear hczxe5a34); (try clear hczxe5a35); (try clear hczxe5a36); (try clear hczxe5a37); (try clear hczzc22); (try clear hczzc23); (try clear hczzc24); (try clear hczzc25); (try clear hczzc26); (try clear hczzc27)
          (try clear hczzc28); (try clear hfzzc15); (try clear hfzzc16); (try clear hfzzc17); (try clear hfzzc18); (try clear hfzzc19); (try clear hfzzc20); (try clear hfzzc21); (try clear hfzzc1); (try clear hfzzc2); (try clear hfzzc3); (try clear hfzzc4); (try clear hfzzc5); (try clear hfzzc6); (try clear hfzzc7); (try clear hfzzc8); (try clear hfzzc9); (try clear hfzzc10); (try clear hfzzc11); (try clear hfzzc12); (try clear hfzzc13); (try clear hfzzc14); (try clear hfzzc29); (try clear hfzzc30); (try clear hfzzc31); (try clear hfzzc32); (try clear hfzzc33); (try clear hfzzc34); (try clear hfzzc35); (try clear hfzzc36); (try clear hfzzc37); (try clear hfzzc38); (try clear hfzzc39); (try clear hfzzc40); (try clear hfzzc41); (try clear hfzzc42); (try clear hfzzc43); (try clear hfzzc44); (try clear hfzzc45); (try clear hfzzc46)
          (try clear hfzzc47); (try clear hfzzc48); (try clear hfzzc49); (try clear hfzzc50); (try clear hfzzc51); (try clear hfzzc52); (try clear hfzzc53); (try clear hfzzc54); (try clear hfzzc55); (try clear hfzzc56); (try clear hfzxe5a31); (try clear hfzxe5a32); (try clear hfzxe5a33); (try clear hfzxe5a34); (try clear hfzxe5a35); (try clear hfzxe5a36); (try clear hfzxe5a37); (try clear hfzzc22); (try clear hfzzc23); (try clear hfzzc24); (try clear hfzzc25); (try clear hfzzc26); (try clear hfzzc27); (try clear hfzzc28); (try clear p2)
          obtain ⟨kq, x17_15, rfl, HA, HJ15, BK135, HB⟩ := hcut
          cases kq with
          | zero => exact absurd HA.out (by simp [aircraft_Check.j2])
          | succ kj15 =>
           have H := HA.out
           clear HA
           simp only [aircraft_Check.j2] at H
           by_cases c25 : x17_15 = true
           · subst c25
             have H1 : (some 4) = some r := by rw [if_pos rfl] at H; exact H
             clear H
             have H := H1
             clear H1
             obtain rfl := Option.some.inj H
             go_wp2
             go_ret
             exact ⟨by first | rfl | (simp [errW_none, errW_some] <;> rfl) | (simp [*, errW_none, errW_some] <;> rfl), by repeat (first | (with_reducible first | exact HB.out | apply below_alloc | apply pw_below_drewN | apply below_drew1 | refine below_set ?_ GE135.out) | exact HB.out)⟩
           · replace c25 := Bool.eq_false_iff.mpr c25
             subst c25
             have H1 : (if a0_5 < 1 then (aircraft_Check.j3 kj15 true a0_0 a0_1 a0_2 a0_3 a0_4 a0_5 a0_6) else (if a0_5 > 400 then (aircraft_Check.j3 kj15 true a0_0 a0_1 a0_2 a0_3 a0_4 a0_5 a0_6) else (if a0_6 < 1 then (aircraft_Check.j3 kj15 true a0_0 a0_1 a0_2 a0_3 a0_4 a0_5 a0_6) else (aircraft_Check.j3 kj15 (decide (a0_6 > 400)) a0_0 a0_1 a0_2 a0_3 a0_4 a0_5 a0_6)))) = some r := by rw [if_neg (show ¬ (false = true) by decide)] at H; exact H
             clear H
             have H := H1
             clear H1
             have HC26 := Aside0.mk H
             clear H
             go_upto_region 9 with (fail)
             go_cut [42] (fun v42 wc => ∃ (kq : Nat) (x42_25 : Bool), v42 = .bool x42_25 ∧ Aside0 (aircraft_Check.j3 kq x42_25 a0_0 a0_1 a0_2 a0_3 a0_4 a0_5 a0_6 = some r) ∧ Aside0 (kq ≤ kj15) ∧ Aside0 (wc.heap[gb135]? = some (.cells #[.string a0_0, .int .i64 a0_1, .int .i64 a0_2, .int .i64 a0_3, .int .i64 a0_4, .int .i64 a0_5, .int .i64 a0_6] 132 (0, 0))) ∧ Aside0 (Below w.heap.size w wc))
             case first =>
              have H := HC26.out
              clear HC26
              refine Or.elim (Classical.em (a0_5 < 1)) (fun c27 => ?p11_) (fun c27 => ?n11_)
              case' p11_ =>
               rw [if_pos c27] at H
               have c27b0 : decide (a0_5 < 1) = true := decide_eq_true c27
               clear c27
               (first | rw [c27b0] | (simp only [i64_w, i32_w]; rw [c27b0]) | skip)
              case' n11_ =>
               rw [if_neg c27] at H
               have c27b0 : decide (a0_5 < 1) = false := decide_eq_false c27
               clear c27
               (first | rw [c27b0] | (simp only [i64_w, i32_w]; rw [c27b0]) | skip)
               refine Or.elim (Classical.em (a0_5 > 400)) (fun c29 => ?p12_) (fun c29 => ?n12_)
               case' p12_ =>
                rw [if_pos c29] at H
                have c29b0 : decide (400 < a0_5) = true := decide_eq_true c29
                clear c29
               case' n12_ =>
                rw [if_neg c29] at H
                have c29b0 : decide (400 < a0_5) = false := decide_eq_false c29
                clear c29
                refine Or.elim (Classical.em (a0_6 < 1)) (fun c31 => ?p13_) (fun c31 => ?n13_)
                case' p13_ =>
                 rw [if_pos c31] at H
                 have c31b0 : decide (a0_6 < 1) = true := decide_eq_true c31
                 clear c31
                case' n13_ =>
                 rw [if_neg c31] at H
                 have c31b0 : decide (a0_6 < 1) = false := decide_eq_false c31
                 clear c31
              all_goals
               have H' := Aside0.mk H
               clear H
               have hczzh1 : wc.cell? ⟨gb135, 0, none⟩ = some (.string a0_0) := (blk_cell BK135.out 0).trans rfl
               have hczzh2 : wc.cell? ⟨gb135, 1, none⟩ = some (.int .i64 a0_1) := (blk_cell BK135.out 1).trans rfl
               have hczzh3 : wc.cell? ⟨gb135, 2, none⟩ = some (.int .i64 a0_2) := (blk_cell BK135.out 2).trans rfl
               have hczzh4 : wc.cell? ⟨gb135, 3, none⟩ = some (.int .i64 a0_3) := (blk_cell BK135.out 3).trans rfl
               have hczzh5 : wc.cell? ⟨gb135, 4, none⟩ = some (.int .i64 a0_4) := (blk_cell BK135.out 4).trans rfl
               have hczzh6 : wc.cell? ⟨gb135, 5, none⟩ = some (.int .i64 a0_5) := (blk_cell BK135.out 5).trans rfl
               have hczzh7 : wc.cell? ⟨gb135, 6, none⟩ = some (.int .i64 a0_6) := (blk_cell BK135.out 6).trans rfl
               have hfzzh1 := blk_frozen BK135.out 0
               have hfzzh2 := blk_frozen BK135.out 1
               have hfzzh3 := blk_frozen BK135.out 2
               have hfzzh4 := blk_frozen BK135.out 3
               have hfzzh5 := blk_frozen BK135.out 4
               have hfzzh6 := blk_frozen BK135.out 5
               have hfzzh7 := blk_frozen BK135.out 6
               go_wp2
               go_meet
               case rel => first | (exact ⟨_, (true), (by first | rfl | (simp; done) | (simp [*]; done)), H', ⟨by have := HJ3.out; have := HJ11.out; have := HJ15.out; first | omega | exact Nat.le_refl _⟩, ⟨by (with_reducible repeat (first | refine blk_drewN ?_ _ | refine blk_drew ?_ | refine blk_alloc ?_ _)); exact BK135.out⟩, ⟨by repeat (first | (with_reducible first | exact HB.out | apply below_alloc | apply pw_below_drewN | apply below_drew1 | refine below_set ?_ GE135.out) | exact HB.out)⟩⟩) | (exact ⟨_, (decide (a0_6 > 400)), (by first | rfl | (simp; done) | (simp [*]; done)), H', ⟨by have := HJ3.out; have := HJ11.out; have := HJ15.out; first | omega | exact Nat.le_refl _⟩, ⟨by (with_reducible repeat (first | refine blk_drewN ?_ _ | refine blk_drew ?_ | refine blk_alloc ?_ _)); exact BK135.out⟩, ⟨by repeat (first | (with_reducible first | exact HB.out | apply below_alloc | apply pw_below_drewN | apply below_drew1 | refine below_set ?_ GE135.out) | exact HB.out)⟩⟩)
             case rest =>
              clear HC26
              (try clear c1); (try clear c2); (try clear p2); (try clear c3); (try clear c4); (try clear c8); (try clear c8b0); (try clear c10); (try clear c11); (try clear c13); (try clear c13b0); (try clear c17); (try clear c18); (try clear c18b0); (try clear c20); (try clear c20b0); (try clear c22); (try clear c22b0); (try clear c25); (try clear c27); (try clear c27b0); (try clear c29); (try clear c29b0); (try clear c31); (try clear c31b0); (try clear hczzg29); (try clear hczzg30); (try clear hczzg31); (try clear hczzg32); (try clear hczzg33); (try clear hczzg34); (try clear hczzg35); (try clear hczzg36); (try clear hczzg37); (try clear hczzg38); (try clear hczzg39); (try clear hczzg40); (try clear hczzg41); (try clear hczzg42); (try clear hczzg43)
              (try clear hczzg44); (try clear hczzg45); (try clear hczzg46); (try clear hczzg47); (try clear hczzg48); (try clear hczzg49); (try clear hczzg50); (try clear hczzg51); (try clear hczzg52); (try clear hczzg53); (try clear hczzg54); (try clear hczzg55); (try clear hczzg56); (try clear hczzg57); (try clear hczzg58); (try clear hczzg59); (try clear hczzg60); (try clear hczzg61); (try clear hczzg62); (try clear hczzg63); (try clear hczzg64); (try clear hczzg65); (try clear hczzg66); (try clear hczzg67); (try clear hczzg68); (try clear hczzg69); (try clear hczzg70); (try clear hczzg71); (try clear hczzg72); (try clear hczzg73); (try clear hczzg74); (try clear hczzg75); (try clear hczzg76); (try clear hczzg77); (try clear hczzg1); (try clear hczzg2); (try clear hczzg3); (try clear hczzg4); (try clear hczzg5); (try clear hczzg6)
              (try clear hczzg7); (try clear hczzg8); (try clear hczzg9); (try clear hczzg10); (try clear hczzg11); (try clear hczzg12); (try clear hczzg13); (try clear hczzg14); (try clear hczzg15); (try clear hczzg16); (try clear hczzg17); (try clear hczzg18); (try clear hczzg19); (try clear hczzg20); (try clear hczzg21); (try clear hczzg22); (try clear hczzg23); (try clear hczzg24); (try clear hczzg25); (try clear hczzg26); (try clear hczzg27); (try clear hczzg28); (try clear hczxe5a31); (try clear hczxe5a32); (try clear hczxe5a33); (try clear hczxe5a34); (try clear hczxe5a35); (try clear hczxe5a36); (try clear hczxe5a37); (try clear hczzg78); (try clear hczzg79); (try clear hczzg80); (try clear hczzg81); (try clear hczzg82); (try clear hczzg83); (try clear hczzg84); (try clear hfzzg29); (try clear hfzzg30); (try clear hfzzg31); (try clear hfzzg32)
              (try clear hfzzg33); (try clear hfzzg34); (try clear hfzzg35); (try clear hfzzg36); (try clear hfzzg37); (try clear hfzzg38); (try clear hfzzg39); (try clear hfzzg40); (try clear hfzzg41); (try clear hfzzg42); (try clear hfzzg43); (try clear hfzzg44); (try clear hfzzg45); (try clear hfzzg46); (try clear hfzzg47); (try clear hfzzg48); (try clear hfzzg49); (try clear hfzzg50); (try clear hfzzg51); (try clear hfzzg52); (try clear hfzzg53); (try clear hfzzg54); (try clear hfzzg55); (try clear hfzzg56); (try clear hfzzg57); (try clear hfzzg58); (try clear hfzzg59); (try clear hfzzg60); (try clear hfzzg61); (try clear hfzzg62); (try clear hfzzg63); (try clear hfzzg64); (try clear hfzzg65); (try clear hfzzg66); (try clear hfzzg67); (try clear hfzzg68); (try clear hfzzg69); (try clear hfzzg70); (try clear hfzzg71); (try clear hfzzg72)
              (try clear hfzzg73); (try clear hfzzg74); (try clear hfzzg75); (try clear hfzzg76); (try clear hfzzg77); (try clear hfzzg1); (try clear hfzzg2); (try clear hfzzg3); (try clear hfzzg4); (try clear hfzzg5); (try clear hfzzg6); (try clear hfzzg7); (try clear hfzzg8); (try clear hfzzg9); (try clear hfzzg10); (try clear hfzzg11); (try clear hfzzg12); (try clear hfzzg13); (try clear hfzzg14); (try clear hfzzg15); (try clear hfzzg16); (try clear hfzzg17); (try clear hfzzg18); (try clear hfzzg19); (try clear hfzzg20); (try clear hfzzg21); (try clear hfzzg22); (try clear hfzzg23); (try clear hfzzg24); (try clear hfzzg25); (try clear hfzzg26); (try clear hfzzg27); (try clear hfzzg28); (try clear hfzxe5a31); (try clear hfzxe5a32); (try clear hfzxe5a33); (try clear hfzxe5a34); (try clear hfzxe5a35); (try clear hfzxe5a36); (try clear hfzxe5a37)
              (try clear hfzzg78); (try clear hfzzg79); (try clear hfzzg80); (try clear hfzzg81); (try clear hfzzg82); (try clear hfzzg83); (try clear hfzzg84); (try clear p2)
              obtain ⟨kq, x42_25, rfl, HA, HJ25, BK135, HB⟩ := hcut
              cases kq with
              | zero => exact absurd HA.out (by simp [aircraft_Check.j3])
              | succ kj25 =>
               have H := HA.out
               clear HA
               simp only [aircraft_Check.j3] at H
               refine Or.elim (Classical.em (x42_25 = true)) (fun c34 => ?p15_) (fun c34 => ?n15_)
               case' p15_ =>
                subst c34
                have H1 : (some 4) = some r := by rw [if_pos rfl] at H; exact H
                clear H
                have H := H1
                clear H1
                have hm14_0 := Aside0.mk trivial
               case' n15_ =>
                replace c34 := Bool.eq_false_iff.mpr c34
                subst c34
                have H1 : (if a0_5 > a0_6 then (some 3) else (some 0)) = some r := by rw [if_neg (show ¬ (false = true) by decide)] at H; exact H
                clear H
                have H := H1
                clear H1
                refine Or.elim (Classical.em (a0_5 > a0_6)) (fun c35 => ?p16_) (fun c35 => ?n16_)
                case' p16_ =>
                 rw [if_pos c35] at H
                 have c35b0 : decide (a0_6 < a0_5) = true := decide_eq_true c35
                 clear c35
                 have hm14_1 := Aside0.mk trivial
                case' n16_ =>
                 rw [if_neg c35] at H
                 have c35b0 : decide (a0_6 < a0_5) = false := decide_eq_false c35
                 clear c35
                 have hm14_1 := Aside0.mk trivial
               all_goals
                obtain rfl := Option.some.inj H
                first
                 | clear hm14_0
                   go_wp2
                   go_ret
                   exact ⟨by first | rfl | (simp [errW_none, errW_some] <;> rfl) | (simp [*, errW_none, errW_some] <;> rfl), by repeat (first | (with_reducible first | exact HB.out | apply below_alloc | apply pw_below_drewN | apply below_drew1 | refine below_set ?_ GE135.out) | exact HB.out)⟩
                 | clear hm14_1
                   have hczzi1 : wc.cell? ⟨gb135, 0, none⟩ = some (.string a0_0) := (blk_cell BK135.out 0).trans rfl
                   have hczzi2 : wc.cell? ⟨gb135, 1, none⟩ = some (.int .i64 a0_1) := (blk_cell BK135.out 1).trans rfl
                   have hczzi3 : wc.cell? ⟨gb135, 2, none⟩ = some (.int .i64 a0_2) := (blk_cell BK135.out 2).trans rfl
                   have hczzi4 : wc.cell? ⟨gb135, 3, none⟩ = some (.int .i64 a0_3) := (blk_cell BK135.out 3).trans rfl
                   have hczzi5 : wc.cell? ⟨gb135, 4, none⟩ = some (.int .i64 a0_4) := (blk_cell BK135.out 4).trans rfl
                   have hczzi6 : wc.cell? ⟨gb135, 5, none⟩ = some (.int .i64 a0_5) := (blk_cell BK135.out 5).trans rfl
                   have hczzi7 : wc.cell? ⟨gb135, 6, none⟩ = some (.int .i64 a0_6) := (blk_cell BK135.out 6).trans rfl
                   have hfzzi1 := blk_frozen BK135.out 0
                   have hfzzi2 := blk_frozen BK135.out 1
                   have hfzzi3 := blk_frozen BK135.out 2
                   have hfzzi4 := blk_frozen BK135.out 3
                   have hfzzi5 := blk_frozen BK135.out 4
                   have hfzzi6 := blk_frozen BK135.out 5
                   have hfzzi7 := blk_frozen BK135.out 6
                   go_wp2
                   go_ret
                   exact ⟨by first | rfl | (simp [errW_none, errW_some] <;> rfl) | (simp [*, errW_none, errW_some] <;> rfl), by repeat (first | (with_reducible first | exact HB.out | apply below_alloc | apply pw_below_drewN | apply below_drew1 | refine below_set ?_ GE135.out) | exact HB.out)⟩
 · replace c3 := Bool.eq_false_iff.mpr c3
   subst c3
   have H1 : (some 5) = some r := by rw [if_neg (show ¬ (false = true) by decide)] at H; exact H
   clear H
   have H := H1
   clear H1
   obtain rfl := Option.some.inj H
   go_enter Try.func109, Try.ntmps109
   go_wp2_with (first | ((with_reducible refine gate_dst (N := 1) rfl ?_); refine box_event ?hg (N := 1) ?hd (cs := #[.string a0_0, .int .i64 a0_1, .int .i64 a0_2, .int .i64 a0_3, .int .i64 a0_4, .int .i64 a0_5, .int .i64 a0_6]) (t := 132) ?hr ?_; (case hd => rfl); (case hg => rfl); (case hr => first | (go_simp; done) | (go_simp; rfl)); intro gb135 hg wxe5a31 hbox hb; have n0_ := Aside0.mk (below_step (by repeat (first | (with_reducible first | exact HB.out | apply below_alloc | apply pw_below_drewN | apply below_drew1) | exact HB.out)) hb); have n1_ := Aside0.mk (hbox); have n2_ := Aside0.mk ((by rw [hg]; exact (below_size (by repeat (first | (with_reducible first | exact HB.out | apply below_alloc | apply pw_below_drewN | apply below_drew1) | exact HB.out))) : w.heap.size ≤ gb135)); have n3_ := Aside0.mk ((by rw [hg]; exact (below_size (by repeat (first | (with_reducible first | exact HB.out | apply below_alloc | apply pw_below_drewN | apply below_drew1) | exact HB.out))) : w.heap.size ≤ gb135)); clear HB; have HB := n0_; have BK135 := n1_; have GW135 := n2_; have GE135 := n3_; clear n0_ n1_ n2_ n3_; clear hb hbox hg; have hczxe5a31 : wxe5a31.cell? ⟨gb135, 0, none⟩ = some (.string a0_0) := (blk_cell BK135.out 0).trans rfl; have hczxe5a32 : wxe5a31.cell? ⟨gb135, 1, none⟩ = some (.int .i64 a0_1) := (blk_cell BK135.out 1).trans rfl; have hczxe5a33 : wxe5a31.cell? ⟨gb135, 2, none⟩ = some (.int .i64 a0_2) := (blk_cell BK135.out 2).trans rfl; have hczxe5a34 : wxe5a31.cell? ⟨gb135, 3, none⟩ = some (.int .i64 a0_3) := (blk_cell BK135.out 3).trans rfl; have hczxe5a35 : wxe5a31.cell? ⟨gb135, 4, none⟩ = some (.int .i64 a0_4) := (blk_cell BK135.out 4).trans rfl; have hczxe5a36 : wxe5a31.cell? ⟨gb135, 5, none⟩ = some (.int .i64 a0_5) := (blk_cell BK135.out 5).trans rfl; have hczxe5a37 : wxe5a31.cell? ⟨gb135, 6, none⟩ = some (.int .i64 a0_6) := (blk_cell BK135.out 6).trans rfl; have hfzxe5a31 := blk_frozen BK135.out 0; have hfzxe5a32 := blk_frozen BK135.out 1; have hfzxe5a33 := blk_frozen BK135.out 2; have hfzxe5a34 := blk_frozen BK135.out 3; have hfzxe5a35 := blk_frozen BK135.out 4; have hfzxe5a36 := blk_frozen BK135.out 5; have hfzxe5a37 := blk_frozen BK135.out 6) | ((with_reducible refine gate_callee (f := 48) rfl ?_); refine goesL_ (some 6) rfl rfl Try.func48 (by kernel_rfl) rfl #[.string a0_0] rfl (by (try simp only [List.map_toArray, List.map_cons, List.map_nil]); first | done | rfl | (simp only [List.length_drop, List.length_take]; rfl)) ?_; (with_reducible refine (chart_Name.calls k a0_0 false _ A2.out).mono ?_); rintro e wx83671 ⟨rfl, hb⟩; refine ⟨_, rfl, ?_⟩; have n0_ := Aside0.mk (blk_below (g := gb135) (o := .cells #[.string a0_0, .int .i64 a0_1, .int .i64 a0_2, .int .i64 a0_3, .int .i64 a0_4, .int .i64 a0_5, .int .i64 a0_6] 132 (0, 0)) (by (with_reducible repeat (first | refine blk_drewN ?_ _ | refine blk_drew ?_ | refine blk_alloc ?_ _)); exact BK135.out) hb); have n1_ := Aside0.mk (below_step (by repeat (first | (with_reducible first | exact HB.out | apply below_alloc | apply pw_below_drewN | apply below_drew1 | refine below_set ?_ GE135.out) | exact HB.out)) hb); clear BK135; clear HB; have BK135 := n0_; have HB := n1_; clear n0_ n1_; (try clear hb); (try clear hb2); (try clear hk); (try clear hi)))
   go_ret
   exact ⟨by first | rfl | (simp [errW_none, errW_some] <;> rfl) | (simp [*, errW_none, errW_some] <;> rfl), by repeat (first | (with_reducible first | exact HB.out | apply below_alloc | apply pw_below_drewN | apply below_drew1 | refine below_set ?_ GE135.out) | exact HB.out)⟩

/-! ### fly_Profile: function 74 -/
def fly_Profile.f (k : Nat) (a0_0 : ByteArray) (a0_1 : Int) (a0_2 : Int) (a0_3 : Int) (a0_4 : Int) (a0_5 : Int) (a0_6 : Int) (a1 : Int) (a2 : Int) (a3 : Int) : Option (Int × Int) := (aircraft_Check.f k a0_0 a0_1 a0_2 a0_3 a0_4 a0_5 a0_6).bind fun t138 => (if t138 = 0 then (if a1 > a0_2 then (some (0, 20)) else (if a1 < 0 then (some (0, 4)) else (if a2 < 0 then (some (0, 4)) else (if a2 > 200000 then (some (0, 4)) else (if a3 < 0 then (some (0, 4)) else (if a3 > a2 then (some (0, 4)) else (some (mn (mn a1 (wrap64 (a0_3 * a3))) (wrap64 (a0_4 * (wrap64 (a2 - a3)))), 0)))))))) else (some (0, t138)))
theorem fly_Profile.mono : ∀ a0 a1 a2 a3 a4 a5 a6 a7 a8 a9 k, LeO (fly_Profile.f k a0 a1 a2 a3 a4 a5 a6 a7 a8 a9) (fly_Profile.f (k + 1) a0 a1 a2 a3 a4 a5 a6 a7 a8 a9) := by
  intro a0 a1 a2 a3 a4 a5 a6 a7 a8 a9 k
  unfold fly_Profile.f
  repeat' first
      | (with_reducible exact aircraft_Check.mono _ _ _ _ _ _ _ _)
      | (with_reducible exact LeO.refl _)
      | (with_reducible exact LeO.none _)
      | (with_reducible refine LeO.ite ?_ ?_)
      | (with_reducible refine LeO.bind ?_ (fun _ => ?_))
      | exact aircraft_Check.mono _ _ _ _ _ _ _ _
      | exact LeO.none _
      | refine LeO.ite ?_ ?_
      | refine LeO.bind ?_ (fun _ => ?_)
set_option maxHeartbeats 8000000 in
set_option maxRecDepth 100000 in
theorem fly_Profile.calls (k : Nat) (a0_0 : ByteArray) (a0_1 : Int) (a0_2 : Int) (a0_3 : Int) (a0_4 : Int) (a0_5 : Int) (a0_6 : Int) (a1 : Int) (a2 : Int) (a3 : Int) (r1 : Int) (r2 : Int) (w : World) (h : fly_Profile.f k a0_0 a0_1 a0_2 a0_3 a0_4 a0_5 a0_6 a1 a2 a3 = some (r1, r2)) :
    Calls Try.prog 74 #[.agg #[.string a0_0, .int .i64 a0_1, .int .i64 a0_2, .int .i64 a0_3, .int .i64 a0_4, .int .i64 a0_5, .int .i64 a0_6], .int .i64 a1, .int .i64 a2, .int .i64 a3] w fun e w' => e = .returned (.tuple #[.int .i64 r1, .int .i64 r2]) ∧ Below w.heap.size w w' := by
 have hu132 := Try.underlying132
 have HB := Aside0.mk (Below.refl w.heap.size w)
 have H : ((aircraft_Check.f k a0_0 a0_1 a0_2 a0_3 a0_4 a0_5 a0_6).bind fun t138 => (if t138 = 0 then (if a1 > a0_2 then (some (0, 20)) else (if a1 < 0 then (some (0, 4)) else (if a2 < 0 then (some (0, 4)) else (if a2 > 200000 then (some (0, 4)) else (if a3 < 0 then (some (0, 4)) else (if a3 > a2 then (some (0, 4)) else (some (mn (mn a1 (wrap64 (a0_3 * a3))) (wrap64 (a0_4 * (wrap64 (a2 - a3)))), 0)))))))) else (some (0, t138)))) = some (r1, r2) := h
 clear h
 replace H := Option.bind_eq_some_iff.mp H
 obtain ⟨t138, A50, H⟩ := H
 replace H : (if t138 = 0 then (if a1 > a0_2 then (some (0, 20)) else (if a1 < 0 then (some (0, 4)) else (if a2 < 0 then (some (0, 4)) else (if a2 > 200000 then (some (0, 4)) else (if a3 < 0 then (some (0, 4)) else (if a3 > a2 then (some (0, 4)) else (some (mn (mn a1 (wrap64 (a0_3 * a3))) (wrap64 (a0_4 * (wrap64 (a2 - a3)))), 0)))))))) else (some (0, t138))) = some (r1, r2) := H
 have A5 := Aside0.mk A50
 clear A50
 refine Or.elim (Classical.em (t138 = 0)) (fun c6 => ?p2_) (fun c6 => ?n2_)
 case' p2_ =>
  rw [if_pos c6] at H
  have c6b0 : (t138 == 0) = true := beq_iff_eq.mpr c6
  have c6b1 : (t138 != 0) = false := bne_eq_false_iff_eq.mpr c6
  clear c6
  refine Or.elim (Classical.em (a1 > a0_2)) (fun c7 => ?p3_) (fun c7 => ?n3_)
  case' p3_ =>
   rw [if_pos c7] at H
   have c7b0 : decide (a0_2 < a1) = true := decide_eq_true c7
   clear c7
   simp only [Option.some.injEq, Prod.mk.injEq] at H
   obtain ⟨rfl, rfl⟩ := H
   have hm1_0 := Aside0.mk trivial
  case' n3_ =>
   rw [if_neg c7] at H
   have c7b0 : decide (a0_2 < a1) = false := decide_eq_false c7
   clear c7
   refine Or.elim (Classical.em (a1 < 0)) (fun c12 => ?p4_) (fun c12 => ?n4_)
   case' p4_ =>
    rw [if_pos c12] at H
    have c12b0 : decide (a1 < 0) = true := decide_eq_true c12
    clear c12
    simp only [Option.some.injEq, Prod.mk.injEq] at H
    obtain ⟨rfl, rfl⟩ := H
    have hm1_0 := Aside0.mk trivial
   case' n4_ =>
    rw [if_neg c12] at H
    have c12b0 : decide (a1 < 0) = false := decide_eq_false c12
    clear c12
    refine Or.elim (Classical.em (a2 < 0)) (fun c17 => ?p5_) (fun c17 => ?n5_)
    case' p5_ =>
     rw [if_pos c17] at H
     have c17b0 : decide (a2 < 0) = true := decide_eq_true c17
     clear c17
     simp only [Option.some.injEq, Prod.mk.injEq] at H
     obtain ⟨rfl, rfl⟩ := H
     have hm1_0 := Aside0.mk trivial
    case' n5_ =>
     rw [if_neg c17] at H
     have c17b0 : decide (a2 < 0) = false := decide_eq_false c17
     clear c17
     refine Or.elim (Classical.em (a2 > 200000)) (fun c22 => ?p6_) (fun c22 => ?n6_)
     case' p6_ =>
      rw [if_pos c22] at H
      have c22b0 : decide (200000 < a2) = true := decide_eq_true c22
      clear c22
      simp only [Option.some.injEq, Prod.mk.injEq] at H
      obtain ⟨rfl, rfl⟩ := H
      have hm1_0 := Aside0.mk trivial
     case' n6_ =>
      rw [if_neg c22] at H
      have c22b0 : decide (200000 < a2) = false := decide_eq_false c22
      clear c22
      refine Or.elim (Classical.em (a3 < 0)) (fun c27 => ?p7_) (fun c27 => ?n7_)
      case' p7_ =>
       rw [if_pos c27] at H
       have c27b0 : decide (a3 < 0) = true := decide_eq_true c27
       clear c27
       simp only [Option.some.injEq, Prod.mk.injEq] at H
       obtain ⟨rfl, rfl⟩ := H
       have hm1_0 := Aside0.mk trivial
      case' n7_ =>
       rw [if_neg c27] at H
       have c27b0 : decide (a3 < 0) = false := decide_eq_false c27
       clear c27
       refine Or.elim (Classical.em (a3 > a2)) (fun c32 => ?p8_) (fun c32 => ?n8_)
       case' p8_ =>
        rw [if_pos c32] at H
        have c32b0 : decide (a2 < a3) = true := decide_eq_true c32
        clear c32
        simp only [Option.some.injEq, Prod.mk.injEq] at H
        obtain ⟨rfl, rfl⟩ := H
        have hm1_0 := Aside0.mk trivial
       case' n8_ =>
        rw [if_neg c32] at H
        have c32b0 : decide (a2 < a3) = false := decide_eq_false c32
        clear c32
        obtain ⟨ji37, hji37⟩ : ∃ j_ : Int, (mn a1 (wrap64 (a0_3 * a3))) = j_ := ⟨_, rfl⟩
        replace H : (some (mn (ji37) (wrap64 (a0_4 * (wrap64 (a2 - a3)))), 0)) = some (r1, r2) := by first | (rw [hji37] at H; exact H) | (simp only [hji37] at H ⊢; exact H)
        (try rw [hji37] at A5)
        have hji37_ : (if (wrap64 (a0_3 * a3)) < a1 then (wrap64 (a0_3 * a3)) else a1) = ji37 := hji37
        obtain ⟨ji38, hji38⟩ : ∃ j_ : Int, (mn (ji37) (wrap64 (a0_4 * (wrap64 (a2 - a3))))) = j_ := ⟨_, rfl⟩
        replace H : (some (ji38, 0)) = some (r1, r2) := by first | (rw [hji38] at H; exact H) | (simp only [hji38] at H ⊢; exact H)
        (try rw [hji38] at A5)
        have hji38_ : (if (wrap64 (a0_4 * (wrap64 (a2 - a3)))) < (ji37) then (wrap64 (a0_4 * (wrap64 (a2 - a3)))) else (ji37)) = ji38 := hji38
        simp only [Option.some.injEq, Prod.mk.injEq] at H
        obtain ⟨rfl, rfl⟩ := H
        have hm1_1 := Aside0.mk trivial
 case' n2_ =>
  rw [if_neg c6] at H
  have c6b0 : (t138 == 0) = false := beq_eq_false_iff_ne.mpr c6
  have c6b1 : (t138 != 0) = true := bne_iff_ne.mpr c6
  simp only [Option.some.injEq, Prod.mk.injEq] at H
  obtain ⟨rfl, rfl⟩ := H
  have hm1_0 := Aside0.mk trivial
 all_goals
  go_enter Try.func74, Try.ntmps74
  go_wp2_with (first | ((with_reducible refine gate_dst (N := 4) rfl ?_); refine box_event ?hg (N := 4) ?hd (cs := #[.string a0_0, .int .i64 a0_1, .int .i64 a0_2, .int .i64 a0_3, .int .i64 a0_4, .int .i64 a0_5, .int .i64 a0_6]) (t := 132) ?hr ?_; (case hd => rfl); (case hg => rfl); (case hr => first | (go_simp; done) | (go_simp; rfl)); intro gb137 hg wx576a1 hbox hb; have n0_ := Aside0.mk (below_step (by repeat (first | (with_reducible first | exact HB.out | apply below_alloc | apply pw_below_drewN | apply below_drew1) | exact HB.out)) hb); have n1_ := Aside0.mk (hbox); have n2_ := Aside0.mk ((by rw [hg]; exact (below_size (by repeat (first | (with_reducible first | exact HB.out | apply below_alloc | apply pw_below_drewN | apply below_drew1) | exact HB.out))) : w.heap.size ≤ gb137)); have n3_ := Aside0.mk ((by rw [hg]; exact (below_size (by repeat (first | (with_reducible first | exact HB.out | apply below_alloc | apply pw_below_drewN | apply below_drew1) | exact HB.out))) : w.heap.size ≤ gb137)); clear HB; have HB := n0_; have BK137 := n1_; have GW137 := n2_; have GE137 := n3_; clear n0_ n1_ n2_ n3_; clear hb hbox hg; have hczx576a1 : wx576a1.cell? ⟨gb137, 0, none⟩ = some (.string a0_0) := (blk_cell BK137.out 0).trans rfl; have hczx576a2 : wx576a1.cell? ⟨gb137, 1, none⟩ = some (.int .i64 a0_1) := (blk_cell BK137.out 1).trans rfl; have hczx576a3 : wx576a1.cell? ⟨gb137, 2, none⟩ = some (.int .i64 a0_2) := (blk_cell BK137.out 2).trans rfl; have hczx576a4 : wx576a1.cell? ⟨gb137, 3, none⟩ = some (.int .i64 a0_3) := (blk_cell BK137.out 3).trans rfl; have hczx576a5 : wx576a1.cell? ⟨gb137, 4, none⟩ = some (.int .i64 a0_4) := (blk_cell BK137.out 4).trans rfl; have hczx576a6 : wx576a1.cell? ⟨gb137, 5, none⟩ = some (.int .i64 a0_5) := (blk_cell BK137.out 5).trans rfl; have hczx576a7 : wx576a1.cell? ⟨gb137, 6, none⟩ = some (.int .i64 a0_6) := (blk_cell BK137.out 6).trans rfl; have hfzx576a1 := blk_frozen BK137.out 0; have hfzx576a2 := blk_frozen BK137.out 1; have hfzx576a3 := blk_frozen BK137.out 2; have hfzx576a4 := blk_frozen BK137.out 3; have hfzx576a5 := blk_frozen BK137.out 4; have hfzx576a6 := blk_frozen BK137.out 5; have hfzx576a7 := blk_frozen BK137.out 6) | ((with_reducible refine gate_callee (f := 109) rfl ?_); refine goesL_ (some 12) rfl rfl Try.func109 (by kernel_rfl) rfl #[.agg #[.string a0_0, .int .i64 a0_1, .int .i64 a0_2, .int .i64 a0_3, .int .i64 a0_4, .int .i64 a0_5, .int .i64 a0_6]] rfl (by (try simp only [List.map_toArray, List.map_cons, List.map_nil]); first | done | rfl | (simp only [List.length_drop, List.length_take]; rfl)) ?_; (with_reducible refine (aircraft_Check.calls k a0_0 a0_1 a0_2 a0_3 a0_4 a0_5 a0_6 t138 _ A5.out).mono ?_); rintro e wxd30b1 ⟨rfl, hb⟩; refine ⟨_, rfl, ?_⟩; have n0_ := Aside0.mk (blk_below (g := gb137) (o := .cells #[.string a0_0, .int .i64 a0_1, .int .i64 a0_2, .int .i64 a0_3, .int .i64 a0_4, .int .i64 a0_5, .int .i64 a0_6] 132 (0, 0)) (by (with_reducible repeat (first | refine blk_drewN ?_ _ | refine blk_drew ?_ | refine blk_alloc ?_ _)); exact BK137.out) hb); have n1_ := Aside0.mk (below_step (by repeat (first | (with_reducible first | exact HB.out | apply below_alloc | apply pw_below_drewN | apply below_drew1 | refine below_set ?_ GE137.out) | exact HB.out)) hb); clear BK137; clear HB; have BK137 := n0_; have HB := n1_; clear n0_ n1_; (try clear hb); (try clear hb2); (try clear hk); (try clear hi); have hczxd30b1 : wxd30b1.cell? ⟨gb137, 0, none⟩ = some (.string a0_0) := (blk_cell BK137.out 0).trans rfl; have hczxd30b2 : wxd30b1.cell? ⟨gb137, 1, none⟩ = some (.int .i64 a0_1) := (blk_cell BK137.out 1).trans rfl; have hczxd30b3 : wxd30b1.cell? ⟨gb137, 2, none⟩ = some (.int .i64 a0_2) := (blk_cell BK137.out 2).trans rfl; have hczxd30b4 : wxd30b1.cell? ⟨gb137, 3, none⟩ = some (.int .i64 a0_3) := (blk_cell BK137.out 3).trans rfl; have hczxd30b5 : wxd30b1.cell? ⟨gb137, 4, none⟩ = some (.int .i64 a0_4) := (blk_cell BK137.out 4).trans rfl; have hczxd30b6 : wxd30b1.cell? ⟨gb137, 5, none⟩ = some (.int .i64 a0_5) := (blk_cell BK137.out 5).trans rfl; have hczxd30b7 : wxd30b1.cell? ⟨gb137, 6, none⟩ = some (.int .i64 a0_6) := (blk_cell BK137.out 6).trans rfl; have hfzxd30b1 := blk_frozen BK137.out 0; have hfzxd30b2 := blk_frozen BK137.out 1; have hfzxd30b3 := blk_frozen BK137.out 2; have hfzxd30b4 := blk_frozen BK137.out 3; have hfzxd30b5 := blk_frozen BK137.out 4; have hfzxd30b6 := blk_frozen BK137.out 5; have hfzxd30b7 := blk_frozen BK137.out 6) | ((with_reducible refine gate_callee (f := 109) rfl ?_); refine goesL_ (some 12) rfl rfl Try.func109 (by kernel_rfl) rfl #[.agg #[.string a0_0, .int .i64 a0_1, .int .i64 a0_2, .int .i64 a0_3, .int .i64 a0_4, .int .i64 a0_5, .int .i64 a0_6]] rfl (by (try simp only [List.map_toArray, List.map_cons, List.map_nil]); first | done | rfl | (simp only [List.length_drop, List.length_take]; rfl)) ?_; (with_reducible refine (aircraft_Check.calls k a0_0 a0_1 a0_2 a0_3 a0_4 a0_5 a0_6 t138 _ A5.out).mono ?_); rintro e wx1dcb1 ⟨rfl, hb⟩; refine ⟨_, rfl, ?_⟩; have n0_ := Aside0.mk (blk_below (g := gb137) (o := .cells #[.string a0_0, .int .i64 a0_1, .int .i64 a0_2, .int .i64 a0_3, .int .i64 a0_4, .int .i64 a0_5, .int .i64 a0_6] 132 (0, 0)) (by (with_reducible repeat (first | refine blk_drewN ?_ _ | refine blk_drew ?_ | refine blk_alloc ?_ _)); exact BK137.out) hb); have n1_ := Aside0.mk (below_step (by repeat (first | (with_reducible first | exact HB.out | apply below_alloc | apply pw_below_drewN | apply below_drew1 | refine below_set ?_ GE137.out) | exact HB.out)) hb); clear BK137; clear HB; have BK137 := n0_; have HB := n1_; clear n0_ n1_; (try clear hb); (try clear hb2); (try clear hk); (try clear hi)))
  go_ret2
  first
   | clear hm1_0
     exact ⟨by first | rfl | (simp [errW_none, errW_some] <;> rfl) | (simp [*, errW_none, errW_some] <;> rfl), by repeat (first | (with_reducible first | exact HB.out | apply below_alloc | apply pw_below_drewN | apply below_drew1 | refine below_set ?_ GE137.out) | exact HB.out)⟩
   | clear hm1_1
     exact ⟨by first | rfl | (simp [errW_none, errW_some] <;> rfl) | (simp only [← hji37, ← hji38]; first | rfl | (simp [errW_none, errW_some] <;> rfl)) | (simp [*, errW_none, errW_some] <;> rfl), by repeat (first | (with_reducible first | exact HB.out | apply below_alloc | apply pw_below_drewN | apply below_drew1 | refine below_set ?_ GE137.out) | exact HB.out)⟩

/-! ### skywaykeep1_jet: function 75 -/
def skywaykeep1_jet.f  : Option (ByteArray × Int × Int × Int × Int × Int × Int) := some ((⟨#[65, 51, 50, 48]⟩ : ByteArray), 1, 39000, 40, 50, 70, 250)
set_option maxHeartbeats 8000000 in
set_option maxRecDepth 100000 in
theorem skywaykeep1_jet.calls  (r1 : ByteArray) (r2 : Int) (r3 : Int) (r4 : Int) (r5 : Int) (r6 : Int) (r7 : Int) (w : World) (h : skywaykeep1_jet.f  = some (r1, r2, r3, r4, r5, r6, r7)) :
    Calls Try.prog 75 #[] w fun e w' => e = .returned (.agg #[.string r1, .int .i64 r2, .int .i64 r3, .int .i64 r4, .int .i64 r5, .int .i64 r6, .int .i64 r7]) ∧ Below w.heap.size w w' := by
 have hu132 := Try.underlying132
 have HB := Aside0.mk (Below.refl w.heap.size w)
 have H : (some ((⟨#[65, 51, 50, 48]⟩ : ByteArray), 1, 39000, 40, 50, 70, 250)) = some (r1, r2, r3, r4, r5, r6, r7) := h
 clear h
 simp only [Option.some.injEq, Prod.mk.injEq] at H
 obtain ⟨rfl, rfl, rfl, rfl, rfl, rfl, rfl⟩ := H
 go_enter Try.func75, Try.ntmps75
 go_wp2_with (first | ((with_reducible refine gate_dst (N := 0) rfl ?_); refine box_event ?hg (N := 0) ?hd (cs := #[.string (⟨#[]⟩ : ByteArray), .int .i64 0, .int .i64 0, .int .i64 0, .int .i64 0, .int .i64 0, .int .i64 0]) (t := 132) ?hr ?_; (case hd => rfl); (case hg => rfl); (case hr => first | (go_simp; done) | (go_simp; rfl)); intro gb139 hg w1 hbox hb; have n0_ := Aside0.mk (below_step (by repeat (first | (with_reducible first | exact HB.out | apply below_alloc | apply pw_below_drewN | apply below_drew1) | exact HB.out)) hb); have n1_ := Aside0.mk (hbox); have n2_ := Aside0.mk ((by rw [hg]; exact (below_size (by repeat (first | (with_reducible first | exact HB.out | apply below_alloc | apply pw_below_drewN | apply below_drew1) | exact HB.out))) : w.heap.size ≤ gb139)); have n3_ := Aside0.mk ((by rw [hg]; exact (below_size (by repeat (first | (with_reducible first | exact HB.out | apply below_alloc | apply pw_below_drewN | apply below_drew1) | exact HB.out))) : w.heap.size ≤ gb139)); clear HB; have HB := n0_; have BK139 := n1_; have GW139 := n2_; have GE139 := n3_; clear n0_ n1_ n2_ n3_; clear hb hbox hg; have hcz2_0 : w1.cell? ⟨gb139, 0, none⟩ = some (.string (⟨#[]⟩ : ByteArray)) := (blk_cell BK139.out 0).trans rfl; have hcz2_1 : w1.cell? ⟨gb139, 1, none⟩ = some (.int .i64 0) := (blk_cell BK139.out 1).trans rfl; have hcz2_2 : w1.cell? ⟨gb139, 2, none⟩ = some (.int .i64 0) := (blk_cell BK139.out 2).trans rfl; have hcz2_3 : w1.cell? ⟨gb139, 3, none⟩ = some (.int .i64 0) := (blk_cell BK139.out 3).trans rfl; have hcz2_4 : w1.cell? ⟨gb139, 4, none⟩ = some (.int .i64 0) := (blk_cell BK139.out 4).trans rfl; have hcz2_5 : w1.cell? ⟨gb139, 5, none⟩ = some (.int .i64 0) := (blk_cell BK139.out 5).trans rfl; have hcz2_6 : w1.cell? ⟨gb139, 6, none⟩ = some (.int .i64 0) := (blk_cell BK139.out 6).trans rfl; have hfz2_0 := blk_frozen BK139.out 0; have hfz2_1 := blk_frozen BK139.out 1; have hfz2_2 := blk_frozen BK139.out 2; have hfz2_3 := blk_frozen BK139.out 3; have hfz2_4 := blk_frozen BK139.out 4; have hfz2_5 := blk_frozen BK139.out 5; have hfz2_6 := blk_frozen BK139.out 6))
 refine bodyPost_ret (results_cell_row rfl _ _ gb139 132 #[.string (⟨#[65, 51, 50, 48]⟩ : ByteArray), .int .i64 1, .int .i64 39000, .int .i64 40, .int .i64 50, .int .i64 70, .int .i64 250] (0, 0) _ rfl (by (with_reducible repeat (first | refine blk_drewN ?_ _ | refine blk_drew ?_ | refine blk_alloc ?_ _)); refine blk_put (cs := #[.string (⟨#[65, 51, 50, 48]⟩ : ByteArray), .int .i64 1, .int .i64 39000, .int .i64 40, .int .i64 50, .int .i64 70, .int .i64 0]) ?_ 6 _ rfl; (with_reducible repeat (first | refine blk_drewN ?_ _ | refine blk_drew ?_ | refine blk_alloc ?_ _)); refine blk_put (cs := #[.string (⟨#[65, 51, 50, 48]⟩ : ByteArray), .int .i64 1, .int .i64 39000, .int .i64 40, .int .i64 50, .int .i64 0, .int .i64 0]) ?_ 5 _ rfl; (with_reducible repeat (first | refine blk_drewN ?_ _ | refine blk_drew ?_ | refine blk_alloc ?_ _)); refine blk_put (cs := #[.string (⟨#[65, 51, 50, 48]⟩ : ByteArray), .int .i64 1, .int .i64 39000, .int .i64 40, .int .i64 0, .int .i64 0, .int .i64 0]) ?_ 4 _ rfl; (with_reducible repeat (first | refine blk_drewN ?_ _ | refine blk_drew ?_ | refine blk_alloc ?_ _)); refine blk_put (cs := #[.string (⟨#[65, 51, 50, 48]⟩ : ByteArray), .int .i64 1, .int .i64 39000, .int .i64 0, .int .i64 0, .int .i64 0, .int .i64 0]) ?_ 3 _ rfl; (with_reducible repeat (first | refine blk_drewN ?_ _ | refine blk_drew ?_ | refine blk_alloc ?_ _)); refine blk_put (cs := #[.string (⟨#[65, 51, 50, 48]⟩ : ByteArray), .int .i64 1, .int .i64 0, .int .i64 0, .int .i64 0, .int .i64 0, .int .i64 0]) ?_ 2 _ rfl; (with_reducible repeat (first | refine blk_drewN ?_ _ | refine blk_drew ?_ | refine blk_alloc ?_ _)); refine blk_put (cs := #[.string (⟨#[65, 51, 50, 48]⟩ : ByteArray), .int .i64 0, .int .i64 0, .int .i64 0, .int .i64 0, .int .i64 0, .int .i64 0]) ?_ 1 _ rfl; (with_reducible repeat (first | refine blk_drewN ?_ _ | refine blk_drew ?_ | refine blk_alloc ?_ _)); refine blk_put (cs := #[.string (⟨#[]⟩ : ByteArray), .int .i64 0, .int .i64 0, .int .i64 0, .int .i64 0, .int .i64 0, .int .i64 0]) ?_ 0 _ rfl; (with_reducible repeat (first | refine blk_drewN ?_ _ | refine blk_drew ?_ | refine blk_alloc ?_ _)); exact BK139.out) Try.underlying132 rfl (by kernel_rfl)) rfl ?_
 exact ⟨by first | rfl | (simp [errW_none, errW_some] <;> rfl) | (simp [*, errW_none, errW_some] <;> rfl), by repeat (first | (with_reducible first | exact HB.out | apply below_alloc | apply pw_below_drewN | apply below_drew1 | refine below_set ?_ GE139.out) | exact HB.out)⟩

/-! ### skywaykeep1_flyWorks: function 29 -/
def skywaykeep1_flyWorks.f (k : Nat)  : Option (Bool) := (fly_At.f k (([(⟨10, (⟨0, 0⟩ : S36), 100⟩ : S71), (⟨14, (⟨(-3), 0⟩ : S36), 97⟩ : S71)] : List (S71))) 11).bind fun bt143 => ((skywaykeep1_jet.f).bind fun bt149 => ((fly_Profile.f k bt149.1 bt149.2.1 bt149.2.2.1 bt149.2.2.2.1 bt149.2.2.2.2.1 bt149.2.2.2.2.2.1 bt149.2.2.2.2.2.2 1000 100 2).bind fun bt156 => (if bt143.2.2.2.2 = 0 then (if (bt143.1 == 11 && ((bt143.2.1 == (-1) && (bt143.2.2.1 == 0)) && (bt143.2.2.2.1 == 99))) = true then (if bt156.2 = 0 then (some (bt156.1 == 80)) else (some false)) else (some false)) else (some false))))
theorem skywaykeep1_flyWorks.mono : ∀ k, LeO (skywaykeep1_flyWorks.f k ) (skywaykeep1_flyWorks.f (k + 1) ) := by
  intro  k
  unfold skywaykeep1_flyWorks.f
  repeat' first
      | (with_reducible exact fly_At.mono _ _ _)
      | (with_reducible exact fly_Profile.mono _ _ _ _ _ _ _ _ _ _ _)
      | (with_reducible exact LeO.refl _)
      | (with_reducible exact LeO.none _)
      | (with_reducible refine LeO.ite ?_ ?_)
      | (with_reducible refine LeO.bind ?_ (fun _ => ?_))
      | exact fly_At.mono _ _ _
      | exact fly_Profile.mono _ _ _ _ _ _ _ _ _ _ _
      | exact LeO.none _
      | refine LeO.ite ?_ ?_
      | refine LeO.bind ?_ (fun _ => ?_)
set_option maxHeartbeats 8000000 in
set_option maxRecDepth 100000 in
theorem skywaykeep1_flyWorks.calls (k : Nat)  (r : Bool) (w : World) (h : skywaykeep1_flyWorks.f k  = some r) :
    Calls Try.prog 29 #[] w fun e w' => e = .returned (.bool r) ∧ Below w.heap.size w w' := by
 have hu71 := Try.underlying71
 have hu36 := Try.underlying36
 have HB := Aside0.mk (Below.refl w.heap.size w)
 have H : ((fly_At.f k (([(⟨10, (⟨0, 0⟩ : S36), 100⟩ : S71), (⟨14, (⟨(-3), 0⟩ : S36), 97⟩ : S71)] : List (S71))) 11).bind fun bt143 => ((skywaykeep1_jet.f).bind fun bt149 => ((fly_Profile.f k bt149.1 bt149.2.1 bt149.2.2.1 bt149.2.2.2.1 bt149.2.2.2.2.1 bt149.2.2.2.2.2.1 bt149.2.2.2.2.2.2 1000 100 2).bind fun bt156 => (if bt143.2.2.2.2 = 0 then (if (bt143.1 == 11 && ((bt143.2.1 == (-1) && (bt143.2.2.1 == 0)) && (bt143.2.2.2.1 == 99))) = true then (if bt156.2 = 0 then (some (bt156.1 == 80)) else (some false)) else (some false)) else (some false))))) = some r := h
 clear h
 obtain ⟨y140, hy140⟩ : ∃ y_ : List (S71), y_ = (([(⟨10, (⟨0, 0⟩ : S36), 100⟩ : S71), (⟨14, (⟨(-3), 0⟩ : S36), 97⟩ : S71)] : List (S71))) := ⟨_, rfl⟩
 replace H : ((fly_At.f k y140 11).bind fun bt143 => ((skywaykeep1_jet.f).bind fun bt149 => ((fly_Profile.f k bt149.1 bt149.2.1 bt149.2.2.1 bt149.2.2.2.1 bt149.2.2.2.2.1 bt149.2.2.2.2.2.1 bt149.2.2.2.2.2.2 1000 100 2).bind fun bt156 => (if bt143.2.2.2.2 = 0 then (if (bt143.1 == 11 && ((bt143.2.1 == (-1) && (bt143.2.2.1 == 0)) && (bt143.2.2.2.1 == 99))) = true then (if bt156.2 = 0 then (some (bt156.1 == 80)) else (some false)) else (some false)) else (some false))))) = some r := by first | (rw [hy140]; with_reducible exact H) | (have H2_ := (Option.bind_some _ _).symm.trans H; rw [hy140]; with_reducible exact H2_) | (have H2_ := (Option.bind_some _ _).symm.trans H; with_reducible exact H2_) | with_reducible exact H | (rw [hy140]; exact H) | exact H
 have Ny140 := Aside0.mk hy140
 clear hy140
 replace H := Option.bind_eq_some_iff.mp H
 obtain ⟨⟨t143, t144, t145, t146, t147⟩, A10, H⟩ := H
 replace H : ((skywaykeep1_jet.f).bind fun bt149 => ((fly_Profile.f k bt149.1 bt149.2.1 bt149.2.2.1 bt149.2.2.2.1 bt149.2.2.2.2.1 bt149.2.2.2.2.2.1 bt149.2.2.2.2.2.2 1000 100 2).bind fun bt156 => (if t147 = 0 then (if (t143 == 11 && ((t144 == (-1) && (t145 == 0)) && (t146 == 99))) = true then (if bt156.2 = 0 then (some (bt156.1 == 80)) else (some false)) else (some false)) else (some false)))) = some r := H
 have A1 := Aside0.mk A10
 clear A10
 replace H := Option.bind_eq_some_iff.mp H
 obtain ⟨⟨t149, t150, t151, t152, t153, t154, t155⟩, A20, H⟩ := H
 replace H : ((fly_Profile.f k t149 t150 t151 t152 t153 t154 t155 1000 100 2).bind fun bt156 => (if t147 = 0 then (if (t143 == 11 && ((t144 == (-1) && (t145 == 0)) && (t146 == 99))) = true then (if bt156.2 = 0 then (some (bt156.1 == 80)) else (some false)) else (some false)) else (some false))) = some r := H
 have A2 := Aside0.mk A20
 clear A20
 replace H := Option.bind_eq_some_iff.mp H
 obtain ⟨⟨t156, t157⟩, A30, H⟩ := H
 replace H : (if t147 = 0 then (if (t143 == 11 && ((t144 == (-1) && (t145 == 0)) && (t146 == 99))) = true then (if t157 = 0 then (some (t156 == 80)) else (some false)) else (some false)) else (some false)) = some r := H
 have A3 := Aside0.mk A30
 clear A30
 refine Or.elim (Classical.em (t147 = 0)) (fun c4 => ?p2_) (fun c4 => ?n2_)
 case' p2_ =>
  rw [if_pos c4] at H
  have c4b0 : (t147 == 0) = true := beq_iff_eq.mpr c4
  have c4b1 : (t147 != 0) = false := bne_eq_false_iff_eq.mpr c4
  clear c4
  refine Or.elim (Classical.em ((t143 == 11 && ((t144 == (-1) && (t145 == 0)) && (t146 == 99))) = true)) (fun c5 => ?p3_) (fun c5 => ?n3_)
  case' p3_ =>
   rw [if_pos c5] at H
   have c5b0 : (t143 == 11 && ((t144 == (-1) && (t145 == 0)) && (t146 == 99))) = true := c5
   (try (have c5b1 : decide (t143 = 11 && ((t144 == (-1) && (t145 == 0)) && (t146 == 99))) = true := by simpa using c5))
   (try (have c5b2 : (t143 == 11 && ((t144 == (-1) && (t145 == 0)) && (t146 == 99))) = true := by simpa using c5))
   clear c5
   refine Or.elim (Classical.em (t157 = 0)) (fun c6 => ?p4_) (fun c6 => ?n4_)
   case' p4_ =>
    rw [if_pos c6] at H
    have c6b0 : (t157 == 0) = true := beq_iff_eq.mpr c6
    have c6b1 : (t157 != 0) = false := bne_eq_false_iff_eq.mpr c6
    clear c6
   case' n4_ =>
    rw [if_neg c6] at H
    have c6b0 : (t157 == 0) = false := beq_eq_false_iff_ne.mpr c6
    have c6b1 : (t157 != 0) = true := bne_iff_ne.mpr c6
  case' n3_ =>
   rw [if_neg c5] at H
   have c5b0 : (t143 == 11 && ((t144 == (-1) && (t145 == 0)) && (t146 == 99))) = false := by simpa using c5
   (try (have c5b1 : decide (t143 = 11 && ((t144 == (-1) && (t145 == 0)) && (t146 == 99))) = false := by simpa using c5))
   (try (have c5b2 : (t143 == 11 && ((t144 == (-1) && (t145 == 0)) && (t146 == 99))) = false := by simpa using c5))
   (try (have c5b3 : ¬ (t143 = 11 && ((t144 == (-1) && (t145 == 0)) && (t146 == 99))) := by simpa using c5))
   clear c5
 case' n2_ =>
  rw [if_neg c4] at H
  have c4b0 : (t147 == 0) = false := beq_eq_false_iff_ne.mpr c4
  have c4b1 : (t147 != 0) = true := bne_iff_ne.mpr c4
 all_goals
  obtain rfl := Option.some.inj H
  go_enter Try.func29, Try.ntmps29
  go_wp2_with (first | ((with_reducible refine gate_dst (N := 9) rfl ?_); refine Kd.R_lit k71 _ 71 ?hg (N := 9) ?hd (xs := ([(⟨10, (⟨0, 0⟩ : S36), 100⟩ : S71), (⟨14, (⟨(-3), 0⟩ : S36), 97⟩ : S71)] : List (S71))) (inner := [.int .i64 10, .int .i64 0, .int .i64 0, .int .i64 100, .int .i64 14, .int .i64 (-3), .int .i64 0, .int .i64 97]) (ok := fun _ => True) (okp := fun _ => True) ?hr ?hp (fun _ hk => hk) trivial (Below.refl _ _) (Nat.le_refl _) (by simp) ?_; (case hd => rfl); (case hg => rfl); (case hr => first | (go_simp; done) | (go_simp; rfl)); (case hp => exact (Reps.c4 (show Kd.M k71 _ _ _ (⟨10, (⟨0, 0⟩ : S36), 100⟩ : S71) [.int .i64 10, .int .i64 0, .int .i64 0, .int .i64 100] from (k71_mkM _ _ _ (⟨10, (⟨0, 0⟩ : S36), 100⟩ : S71) )) (Reps.c4 (show Kd.M k71 _ _ _ (⟨14, (⟨(-3), 0⟩ : S36), 97⟩ : S71) [.int .i64 14, .int .i64 (-3), .int .i64 0, .int .i64 97] from (k71_mkM _ _ _ (⟨14, (⟨(-3), 0⟩ : S36), 97⟩ : S71) )) (Reps.none _ _)))); intro v141 wx1f0e1 hox1f0e1 hb hg_ hnew_; clear hg_ hnew_; (first | rw [← Ny140.out] at hox1f0e1 | (simp only [Int.reduceToNat] at hox1f0e1; rw [← Ny140.out] at hox1f0e1)); have n0_ := Aside0.mk (Kd.R_lower hox1f0e1 (below_size (by repeat (first | (with_reducible first | exact HB.out | apply below_alloc | apply pw_below_drewN | apply below_drew1) | exact HB.out)))); have n1_ := Aside0.mk (below_step (by repeat (first | (with_reducible first | exact HB.out | apply below_alloc | apply pw_below_drewN | apply below_drew1) | exact HB.out)) hb); clear HB; have HO142 := n0_; have HB := n1_; clear n0_ n1_; clear hb hox1f0e1; obtain ⟨Aox1f0e1, cox1f0e1, eox1f0e1⟩ := Kd.R_slice HO142.out; subst eox1f0e1) | ((with_reducible refine gate_callee (f := 32) rfl ?_); refine goesL_ (some 10) rfl rfl Try.func32 (by kernel_rfl) rfl #[.slice Aox1f0e1 y140.length cox1f0e1, .int .i64 11] rfl (by (try simp only [List.map_toArray, List.map_cons, List.map_nil]); first | done | rfl | (simp only [List.length_drop, List.length_take]; rfl)) ?_; (with_reducible refine (fly_At.calls k _ _ y140 11 t143 t144 t145 t146 t147 _ ?side1 ?side2 A1.out).mono ?_); (case side1 => repeat (first | exact (Kd.R_reads' HO142.out).2.2 | (with_reducible refine Kd.C_alloc ?_ _) | (with_reducible refine Kd.C_drewN ?_ _) | (with_reducible refine Kd.C_drew ?_))); (case side2 => exact (Kd.R_reads' HO142.out).2.1); rintro e wx80101 ⟨rfl, hb⟩; refine ⟨_, rfl, ?_⟩; have n0_ := Aside0.mk (Kd.R_below (by (with_reducible repeat (first | apply Kd.R_alloc | apply Kd.R_drewN | apply Kd.R_drew)); exact HO142.out) hb); have n1_ := Aside0.mk (below_step (by repeat (first | (with_reducible first | exact HB.out | apply below_alloc | apply pw_below_drewN | apply below_drew1) | exact HB.out)) hb); clear HO142; clear HB; have HO142 := n0_; have HB := n1_; clear n0_ n1_; (try clear hb); (try clear hb2); (try clear hk); (try clear hi)) | ((with_reducible refine gate_dst (N := 1) rfl ?_); refine box_event ?hg (N := 1) ?hd (cs := #[.int .i64 0, .int .i64 0, .int .i64 0, .int .i64 0]) (t := 71) ?hr ?_; (case hd => rfl); (case hg => rfl); (case hr => first | (go_simp; done) | (go_simp; rfl)); intro gb148 hg wxe38c1 hbox hb; have n0_ := Aside0.mk (Kd.R_below (Kd.R_elderB (by (with_reducible repeat (first | apply Kd.R_alloc | apply Kd.R_drewN | apply Kd.R_drew)); exact HO142.out) gb148 (Nat.le_of_eq hg.symm)) hb); have n1_ := Aside0.mk (below_step (by repeat (first | (with_reducible first | exact HB.out | apply below_alloc | apply pw_below_drewN | apply below_drew1) | exact HB.out)) hb); have n2_ := Aside0.mk (hbox); have n3_ := Aside0.mk ((by rw [hg]; exact (below_size (by repeat (first | (with_reducible first | exact HB.out | apply below_alloc | apply pw_below_drewN | apply below_drew1) | exact HB.out))) : w.heap.size ≤ gb148)); have n4_ := Aside0.mk ((by rw [hg]; exact (below_size (by repeat (first | (with_reducible first | exact HB.out | apply below_alloc | apply pw_below_drewN | apply below_drew1) | exact HB.out))) : w.heap.size ≤ gb148)); clear HO142; clear HB; have HO142 := n0_; have HB := n1_; have BK148 := n2_; have GW148 := n3_; have GE148 := n4_; clear n0_ n1_ n2_ n3_ n4_; clear hb hbox hg; have hczxe38c1 : wxe38c1.cell? ⟨gb148, 0, none⟩ = some (.int .i64 0) := (blk_cell BK148.out 0).trans rfl; have hczxe38c2 : wxe38c1.cell? ⟨gb148, 1, none⟩ = some (.int .i64 0) := (blk_cell BK148.out 1).trans rfl; have hczxe38c3 : wxe38c1.cell? ⟨gb148, 2, none⟩ = some (.int .i64 0) := (blk_cell BK148.out 2).trans rfl; have hczxe38c4 : wxe38c1.cell? ⟨gb148, 3, none⟩ = some (.int .i64 0) := (blk_cell BK148.out 3).trans rfl; have hfzxe38c1 := blk_frozen BK148.out 0; have hfzxe38c2 := blk_frozen BK148.out 1; have hfzxe38c3 := blk_frozen BK148.out 2; have hfzxe38c4 := blk_frozen BK148.out 3) | ((with_reducible refine gate_callee (f := 75) rfl ?_); refine goesL_ (some 14) rfl rfl Try.func75 (by kernel_rfl) rfl #[] rfl (by (try simp only [List.map_toArray, List.map_cons, List.map_nil]); first | done | rfl | (simp only [List.length_drop, List.length_take]; rfl)) ?_; (with_reducible refine (skywaykeep1_jet.calls  t149 t150 t151 t152 t153 t154 t155 _ A2.out).mono ?_); rintro e wxa20a1 ⟨rfl, hb⟩; refine ⟨_, rfl, ?_⟩; have n0_ := Aside0.mk (Kd.R_below (by (with_reducible repeat (first | apply Kd.R_alloc | apply Kd.R_drewN | apply Kd.R_drew)); exact (Kd.R_mono (Kd.R_far (p := ⟨gb148, 3, none⟩) (Kd.R_far (p := ⟨gb148, 2, none⟩) (Kd.R_far (p := ⟨gb148, 1, none⟩) (Kd.R_far (p := ⟨gb148, 0, none⟩) (Kd.R_mono HO142.out (fun k_ hk => (⟨hk, hk.2⟩ : _ ∧ k_ ≠ gb148))) (fun _ hk => hk.2) (.int .i64 t143)) (fun _ hk => hk.2) (.int .i64 t144)) (fun _ hk => hk.2) (.int .i64 t145)) (fun _ hk => hk.2) (.int .i64 t146)) (fun _ h_ => h_.1))) hb); have n1_ := Aside0.mk (blk_below (g := gb148) (o := .cells #[.int .i64 t143, .int .i64 t144, .int .i64 t145, .int .i64 t146] 71 (0, 0)) (by (with_reducible repeat (first | refine blk_drewN ?_ _ | refine blk_drew ?_ | refine blk_alloc ?_ _)); refine blk_put (cs := #[.int .i64 t143, .int .i64 t144, .int .i64 t145, .int .i64 0]) ?_ 3 _ rfl; (with_reducible repeat (first | refine blk_drewN ?_ _ | refine blk_drew ?_ | refine blk_alloc ?_ _)); refine blk_put (cs := #[.int .i64 t143, .int .i64 t144, .int .i64 0, .int .i64 0]) ?_ 2 _ rfl; (with_reducible repeat (first | refine blk_drewN ?_ _ | refine blk_drew ?_ | refine blk_alloc ?_ _)); refine blk_put (cs := #[.int .i64 t143, .int .i64 0, .int .i64 0, .int .i64 0]) ?_ 1 _ rfl; (with_reducible repeat (first | refine blk_drewN ?_ _ | refine blk_drew ?_ | refine blk_alloc ?_ _)); refine blk_put (cs := #[.int .i64 0, .int .i64 0, .int .i64 0, .int .i64 0]) ?_ 0 _ rfl; (with_reducible repeat (first | refine blk_drewN ?_ _ | refine blk_drew ?_ | refine blk_alloc ?_ _)); exact BK148.out) hb); have n2_ := Aside0.mk (below_step (by repeat (first | (with_reducible first | exact HB.out | apply below_alloc | apply pw_below_drewN | apply below_drew1 | refine below_set ?_ GE148.out) | exact HB.out)) hb); clear HO142; clear BK148; clear HB; have HO142 := n0_; have BK148 := n1_; have HB := n2_; clear n0_ n1_ n2_; (try clear hb); (try clear hb2); (try clear hk); (try clear hi)) | ((with_reducible refine gate_callee (f := 74) rfl ?_); refine goesL_ (some 15) rfl rfl Try.func74 (by kernel_rfl) rfl #[.agg #[.string t149, .int .i64 t150, .int .i64 t151, .int .i64 t152, .int .i64 t153, .int .i64 t154, .int .i64 t155], .int .i64 1000, .int .i64 100, .int .i64 2] rfl (by (try simp only [List.map_toArray, List.map_cons, List.map_nil]); first | done | rfl | (simp only [List.length_drop, List.length_take]; rfl)) ?_; (with_reducible refine (fly_Profile.calls k t149 t150 t151 t152 t153 t154 t155 1000 100 2 t156 t157 _ A3.out).mono ?_); rintro e wx069a1 ⟨rfl, hb⟩; refine ⟨_, rfl, ?_⟩; have n0_ := Aside0.mk (Kd.R_below (by (with_reducible repeat (first | apply Kd.R_alloc | apply Kd.R_drewN | apply Kd.R_drew)); exact HO142.out) hb); have n1_ := Aside0.mk (blk_below (g := gb148) (o := .cells #[.int .i64 t143, .int .i64 t144, .int .i64 t145, .int .i64 t146] 71 (0, 0)) (by (with_reducible repeat (first | refine blk_drewN ?_ _ | refine blk_drew ?_ | refine blk_alloc ?_ _)); exact BK148.out) hb); have n2_ := Aside0.mk (below_step (by repeat (first | (with_reducible first | exact HB.out | apply below_alloc | apply pw_below_drewN | apply below_drew1 | refine below_set ?_ GE148.out) | exact HB.out)) hb); clear HO142; clear BK148; clear HB; have HO142 := n0_; have BK148 := n1_; have HB := n2_; clear n0_ n1_ n2_; (try clear hb); (try clear hb2); (try clear hk); (try clear hi); have hczx069a1 : wx069a1.cell? ⟨gb148, 0, none⟩ = some (.int .i64 t143) := (blk_cell BK148.out 0).trans rfl; have hczx069a2 : wx069a1.cell? ⟨gb148, 1, none⟩ = some (.int .i64 t144) := (blk_cell BK148.out 1).trans rfl; have hczx069a3 : wx069a1.cell? ⟨gb148, 2, none⟩ = some (.int .i64 t145) := (blk_cell BK148.out 2).trans rfl; have hczx069a4 : wx069a1.cell? ⟨gb148, 3, none⟩ = some (.int .i64 t146) := (blk_cell BK148.out 3).trans rfl; have hfzx069a1 := blk_frozen BK148.out 0; have hfzx069a2 := blk_frozen BK148.out 1; have hfzx069a3 := blk_frozen BK148.out 2; have hfzx069a4 := blk_frozen BK148.out 3) | ((with_reducible refine gate_callee (f := 74) rfl ?_); refine goesL_ (some 15) rfl rfl Try.func74 (by kernel_rfl) rfl #[.agg #[.string t149, .int .i64 t150, .int .i64 t151, .int .i64 t152, .int .i64 t153, .int .i64 t154, .int .i64 t155], .int .i64 1000, .int .i64 100, .int .i64 2] rfl (by (try simp only [List.map_toArray, List.map_cons, List.map_nil]); first | done | rfl | (simp only [List.length_drop, List.length_take]; rfl)) ?_; (with_reducible refine (fly_Profile.calls k t149 t150 t151 t152 t153 t154 t155 1000 100 2 t156 t157 _ A3.out).mono ?_); rintro e wxa3561 ⟨rfl, hb⟩; refine ⟨_, rfl, ?_⟩; have n0_ := Aside0.mk (Kd.R_below (by (with_reducible repeat (first | apply Kd.R_alloc | apply Kd.R_drewN | apply Kd.R_drew)); exact HO142.out) hb); have n1_ := Aside0.mk (blk_below (g := gb148) (o := .cells #[.int .i64 t143, .int .i64 t144, .int .i64 t145, .int .i64 t146] 71 (0, 0)) (by (with_reducible repeat (first | refine blk_drewN ?_ _ | refine blk_drew ?_ | refine blk_alloc ?_ _)); exact BK148.out) hb); have n2_ := Aside0.mk (below_step (by repeat (first | (with_reducible first | exact HB.out | apply below_alloc | apply pw_below_drewN | apply below_drew1 | refine below_set ?_ GE148.out) | exact HB.out)) hb); clear HO142; clear BK148; clear HB; have HO142 := n0_; have BK148 := n1_; have HB := n2_; clear n0_ n1_ n2_; (try clear hb); (try clear hb2); (try clear hk); (try clear hi)))
  go_ret
  exact ⟨by first | rfl | (simp [errW_none, errW_some] <;> rfl) | (simp [*, errW_none, errW_some] <;> rfl), by repeat (first | (with_reducible first | exact HB.out | apply below_alloc | apply pw_below_drewN | apply below_drew1 | refine below_set ?_ GE148.out) | exact HB.out)⟩

/-! ### plane_Sub: function 58 -/
def plane_Sub.f (a0_0 : Int) (a0_1 : Int) (a1_0 : Int) (a1_1 : Int) : Option (Int × Int) := some (wrap64 (a0_0 - a1_0), wrap64 (a0_1 - a1_1))
set_option maxHeartbeats 8000000 in
set_option maxRecDepth 100000 in
theorem plane_Sub.calls (a0_0 : Int) (a0_1 : Int) (a1_0 : Int) (a1_1 : Int) (r1 : Int) (r2 : Int) (w : World) (h : plane_Sub.f a0_0 a0_1 a1_0 a1_1 = some (r1, r2)) :
    Calls Try.prog 58 #[.agg #[.int .i64 a0_0, .int .i64 a0_1], .agg #[.int .i64 a1_0, .int .i64 a1_1]] w fun e w' => e = .returned (.agg #[.int .i64 r1, .int .i64 r2]) ∧ Below w.heap.size w w' := by
 have hu36 := Try.underlying36
 have HB := Aside0.mk (Below.refl w.heap.size w)
 have H : (some (wrap64 (a0_0 - a1_0), wrap64 (a0_1 - a1_1))) = some (r1, r2) := h
 clear h
 simp only [Option.some.injEq, Prod.mk.injEq] at H
 obtain ⟨rfl, rfl⟩ := H
 go_enter Try.func58, Try.ntmps58
 go_wp2_with (first | ((with_reducible refine gate_dst (N := 2) rfl ?_); refine box_event ?hg (N := 2) ?hd (cs := #[.int .i64 a0_0, .int .i64 a0_1]) (t := 36) ?hr ?_; (case hd => rfl); (case hg => rfl); (case hr => first | (go_simp; done) | (go_simp; rfl)); intro gb158 hg w3 hbox hb; have n0_ := Aside0.mk (below_step (by repeat (first | (with_reducible first | exact HB.out | apply below_alloc | apply pw_below_drewN | apply below_drew1) | exact HB.out)) hb); have n1_ := Aside0.mk (hbox); have n2_ := Aside0.mk ((by rw [hg]; exact (below_size (by repeat (first | (with_reducible first | exact HB.out | apply below_alloc | apply pw_below_drewN | apply below_drew1) | exact HB.out))) : w.heap.size ≤ gb158)); have n3_ := Aside0.mk ((by rw [hg]; exact (below_size (by repeat (first | (with_reducible first | exact HB.out | apply below_alloc | apply pw_below_drewN | apply below_drew1) | exact HB.out))) : w.heap.size ≤ gb158)); clear HB; have HB := n0_; have BK158 := n1_; have GW158 := n2_; have GE158 := n3_; clear n0_ n1_ n2_ n3_; clear hb hbox hg) | ((with_reducible refine gate_dst (N := 3) rfl ?_); refine box_event ?hg (N := 3) ?hd (cs := #[.int .i64 a1_0, .int .i64 a1_1]) (t := 36) ?hr ?_; (case hd => rfl); (case hg => rfl); (case hr => first | (go_simp; done) | (go_simp; rfl)); intro gb159 hg w4 hbox hb; have n0_ := Aside0.mk (blk_below (g := gb158) (o := .cells #[.int .i64 a0_0, .int .i64 a0_1] 36 (0, 0)) (by (with_reducible repeat (first | refine blk_drewN ?_ _ | refine blk_drew ?_ | refine blk_alloc ?_ _)); exact BK158.out) hb); have n1_ := Aside0.mk (below_step (by repeat (first | (with_reducible first | exact HB.out | apply below_alloc | apply pw_below_drewN | apply below_drew1 | refine below_set ?_ GE158.out) | exact HB.out)) hb); have n2_ := Aside0.mk (hbox); have n3_ := Aside0.mk ((by rw [hg]; exact (below_size (by repeat (first | (with_reducible first | exact HB.out | apply below_alloc | apply pw_below_drewN | apply below_drew1 | refine below_set ?_ GE158.out) | exact HB.out))) : w.heap.size ≤ gb159)); have n4_ := Aside0.mk ((by rw [hg]; exact (below_size (by repeat (first | (with_reducible first | exact HB.out | apply below_alloc | apply pw_below_drewN | apply below_drew1 | refine below_set ?_ GE158.out) | exact HB.out))) : w.heap.size ≤ gb159)); have n5_ := Aside0.mk ((by rw [hg]; exact Nat.ne_of_lt (blk_lt (g := gb158) (o := .cells #[.int .i64 a0_0, .int .i64 a0_1] 36 (0, 0)) (by (with_reducible repeat (first | refine blk_drewN ?_ _ | refine blk_drew ?_ | refine blk_alloc ?_ _)); exact BK158.out)) : gb158 ≠ gb159)); have n6_ := Aside0.mk ((by rw [hg]; exact Nat.ne_of_gt (blk_lt (g := gb158) (o := .cells #[.int .i64 a0_0, .int .i64 a0_1] 36 (0, 0)) (by (with_reducible repeat (first | refine blk_drewN ?_ _ | refine blk_drew ?_ | refine blk_alloc ?_ _)); exact BK158.out)) : gb159 ≠ gb158)); clear BK158; clear HB; have BK158 := n0_; have HB := n1_; have BK159 := n2_; have GW159 := n3_; have GE159 := n4_; have NB158_159 := n5_; have NB159_158 := n6_; clear n0_ n1_ n2_ n3_ n4_ n5_ n6_; clear hb hbox hg) | ((with_reducible refine gate_dst (N := 4) rfl ?_); refine box_event ?hg (N := 4) ?hd (cs := #[.int .i64 0, .int .i64 0]) (t := 36) ?hr ?_; (case hd => rfl); (case hg => rfl); (case hr => first | (go_simp; done) | (go_simp; rfl)); intro gb160 hg w5 hbox hb; have n0_ := Aside0.mk (blk_below (g := gb158) (o := .cells #[.int .i64 a0_0, .int .i64 a0_1] 36 (0, 0)) (by (with_reducible repeat (first | refine blk_drewN ?_ _ | refine blk_drew ?_ | refine blk_alloc ?_ _)); exact BK158.out) hb); have n1_ := Aside0.mk (blk_below (g := gb159) (o := .cells #[.int .i64 a1_0, .int .i64 a1_1] 36 (0, 0)) (by (with_reducible repeat (first | refine blk_drewN ?_ _ | refine blk_drew ?_ | refine blk_alloc ?_ _)); exact BK159.out) hb); have n2_ := Aside0.mk (below_step (by repeat (first | (with_reducible first | exact HB.out | apply below_alloc | apply pw_below_drewN | apply below_drew1 | refine below_set ?_ GE158.out | refine below_set ?_ GE159.out) | exact HB.out)) hb); have n3_ := Aside0.mk (hbox); have n4_ := Aside0.mk ((by rw [hg]; exact (below_size (by repeat (first | (with_reducible first | exact HB.out | apply below_alloc | apply pw_below_drewN | apply below_drew1 | refine below_set ?_ GE158.out | refine below_set ?_ GE159.out) | exact HB.out))) : w.heap.size ≤ gb160)); have n5_ := Aside0.mk ((by rw [hg]; exact (below_size (by repeat (first | (with_reducible first | exact HB.out | apply below_alloc | apply pw_below_drewN | apply below_drew1 | refine below_set ?_ GE158.out | refine below_set ?_ GE159.out) | exact HB.out))) : w.heap.size ≤ gb160)); have n6_ := Aside0.mk ((by rw [hg]; exact Nat.ne_of_lt (blk_lt (g := gb158) (o := .cells #[.int .i64 a0_0, .int .i64 a0_1] 36 (0, 0)) (by (with_reducible repeat (first | refine blk_drewN ?_ _ | refine blk_drew ?_ | refine blk_alloc ?_ _)); exact BK158.out)) : gb158 ≠ gb160)); have n7_ := Aside0.mk ((by rw [hg]; exact Nat.ne_of_gt (blk_lt (g := gb158) (o := .cells #[.int .i64 a0_0, .int .i64 a0_1] 36 (0, 0)) (by (with_reducible repeat (first | refine blk_drewN ?_ _ | refine blk_drew ?_ | refine blk_alloc ?_ _)); exact BK158.out)) : gb160 ≠ gb158)); have n8_ := Aside0.mk ((by rw [hg]; exact Nat.ne_of_lt (blk_lt (g := gb159) (o := .cells #[.int .i64 a1_0, .int .i64 a1_1] 36 (0, 0)) (by (with_reducible repeat (first | refine blk_drewN ?_ _ | refine blk_drew ?_ | refine blk_alloc ?_ _)); exact BK159.out)) : gb159 ≠ gb160)); have n9_ := Aside0.mk ((by rw [hg]; exact Nat.ne_of_gt (blk_lt (g := gb159) (o := .cells #[.int .i64 a1_0, .int .i64 a1_1] 36 (0, 0)) (by (with_reducible repeat (first | refine blk_drewN ?_ _ | refine blk_drew ?_ | refine blk_alloc ?_ _)); exact BK159.out)) : gb160 ≠ gb159)); clear BK158; clear BK159; clear HB; have BK158 := n0_; have BK159 := n1_; have HB := n2_; have BK160 := n3_; have GW160 := n4_; have GE160 := n5_; have NB158_160 := n6_; have NB160_158 := n7_; have NB159_160 := n8_; have NB160_159 := n9_; clear n0_ n1_ n2_ n3_ n4_ n5_ n6_ n7_ n8_ n9_; clear hb hbox hg; have hnb6 := NB158_159.out; have hnc6 := NB159_158.out; have hnb7 := NB158_160.out; have hnc7 := NB160_158.out; have hcz8_0 : w5.cell? ⟨gb158, 0, none⟩ = some (.int .i64 a0_0) := (blk_cell BK158.out 0).trans rfl; have hcz8_1 : w5.cell? ⟨gb158, 1, none⟩ = some (.int .i64 a0_1) := (blk_cell BK158.out 1).trans rfl; have hfz8_0 := blk_frozen BK158.out 0; have hfz8_1 := blk_frozen BK158.out 1; have hnb9 := NB159_160.out; have hnc9 := NB160_159.out; have hcz10_0 : w5.cell? ⟨gb159, 0, none⟩ = some (.int .i64 a1_0) := (blk_cell BK159.out 0).trans rfl; have hcz10_1 : w5.cell? ⟨gb159, 1, none⟩ = some (.int .i64 a1_1) := (blk_cell BK159.out 1).trans rfl; have hfz10_0 := blk_frozen BK159.out 0; have hfz10_1 := blk_frozen BK159.out 1; have hcz11_0 : w5.cell? ⟨gb160, 0, none⟩ = some (.int .i64 0) := (blk_cell BK160.out 0).trans rfl; have hcz11_1 : w5.cell? ⟨gb160, 1, none⟩ = some (.int .i64 0) := (blk_cell BK160.out 1).trans rfl; have hfz11_0 := blk_frozen BK160.out 0; have hfz11_1 := blk_frozen BK160.out 1))
 refine bodyPost_ret (results_cell_row rfl _ _ gb160 36 #[.int .i64 (wrap64 (a0_0 - a1_0)), .int .i64 (wrap64 (a0_1 - a1_1))] (0, 0) _ rfl (by (with_reducible repeat (first | refine blk_drewN ?_ _ | refine blk_drew ?_ | refine blk_alloc ?_ _)); refine blk_put (cs := #[.int .i64 (wrap64 (a0_0 - a1_0)), .int .i64 0]) ?_ 1 _ rfl; (with_reducible repeat (first | refine blk_drewN ?_ _ | refine blk_drew ?_ | refine blk_alloc ?_ _)); refine blk_put (cs := #[.int .i64 0, .int .i64 0]) ?_ 0 _ rfl; (with_reducible repeat (first | refine blk_drewN ?_ _ | refine blk_drew ?_ | refine blk_alloc ?_ _)); exact BK160.out) Try.underlying36 rfl (by kernel_rfl)) rfl ?_
 exact ⟨by first | rfl | (simp [errW_none, errW_some] <;> rfl) | (simp [*, errW_none, errW_some] <;> rfl), by repeat (first | (with_reducible first | exact HB.out | apply below_alloc | apply pw_below_drewN | apply below_drew1 | refine below_set ?_ GE158.out | refine below_set ?_ GE159.out | refine below_set ?_ GE160.out) | exact HB.out)⟩

/-! ### plane_Cross: function 139 -/
def plane_Cross.f (a0_0 : Int) (a0_1 : Int) (a1_0 : Int) (a1_1 : Int) : Option (Int) := some (wrap64 ((wrap64 (a0_0 * a1_1)) - (wrap64 (a0_1 * a1_0))))
set_option maxHeartbeats 8000000 in
set_option maxRecDepth 100000 in
theorem plane_Cross.calls (a0_0 : Int) (a0_1 : Int) (a1_0 : Int) (a1_1 : Int) (r : Int) (w : World) (h : plane_Cross.f a0_0 a0_1 a1_0 a1_1 = some r) :
    Calls Try.prog 139 #[.agg #[.int .i64 a0_0, .int .i64 a0_1], .agg #[.int .i64 a1_0, .int .i64 a1_1]] w fun e w' => e = .returned (.int .i64 r) ∧ Below w.heap.size w w' := by
 have hu36 := Try.underlying36
 have HB := Aside0.mk (Below.refl w.heap.size w)
 have H : (some (wrap64 ((wrap64 (a0_0 * a1_1)) - (wrap64 (a0_1 * a1_0))))) = some r := h
 clear h
 obtain rfl := Option.some.inj H
 go_enter Try.func139, Try.ntmps139
 go_wp2_with (first | ((with_reducible refine gate_dst (N := 2) rfl ?_); refine box_event ?hg (N := 2) ?hd (cs := #[.int .i64 a0_0, .int .i64 a0_1]) (t := 36) ?hr ?_; (case hd => rfl); (case hg => rfl); (case hr => first | (go_simp; done) | (go_simp; rfl)); intro gb161 hg w3 hbox hb; have n0_ := Aside0.mk (below_step (by repeat (first | (with_reducible first | exact HB.out | apply below_alloc | apply pw_below_drewN | apply below_drew1) | exact HB.out)) hb); have n1_ := Aside0.mk (hbox); have n2_ := Aside0.mk ((by rw [hg]; exact (below_size (by repeat (first | (with_reducible first | exact HB.out | apply below_alloc | apply pw_below_drewN | apply below_drew1) | exact HB.out))) : w.heap.size ≤ gb161)); have n3_ := Aside0.mk ((by rw [hg]; exact (below_size (by repeat (first | (with_reducible first | exact HB.out | apply below_alloc | apply pw_below_drewN | apply below_drew1) | exact HB.out))) : w.heap.size ≤ gb161)); clear HB; have HB := n0_; have BK161 := n1_; have GW161 := n2_; have GE161 := n3_; clear n0_ n1_ n2_ n3_; clear hb hbox hg) | ((with_reducible refine gate_dst (N := 3) rfl ?_); refine box_event ?hg (N := 3) ?hd (cs := #[.int .i64 a1_0, .int .i64 a1_1]) (t := 36) ?hr ?_; (case hd => rfl); (case hg => rfl); (case hr => first | (go_simp; done) | (go_simp; rfl)); intro gb162 hg w4 hbox hb; have n0_ := Aside0.mk (blk_below (g := gb161) (o := .cells #[.int .i64 a0_0, .int .i64 a0_1] 36 (0, 0)) (by (with_reducible repeat (first | refine blk_drewN ?_ _ | refine blk_drew ?_ | refine blk_alloc ?_ _)); exact BK161.out) hb); have n1_ := Aside0.mk (below_step (by repeat (first | (with_reducible first | exact HB.out | apply below_alloc | apply pw_below_drewN | apply below_drew1 | refine below_set ?_ GE161.out) | exact HB.out)) hb); have n2_ := Aside0.mk (hbox); have n3_ := Aside0.mk ((by rw [hg]; exact (below_size (by repeat (first | (with_reducible first | exact HB.out | apply below_alloc | apply pw_below_drewN | apply below_drew1 | refine below_set ?_ GE161.out) | exact HB.out))) : w.heap.size ≤ gb162)); have n4_ := Aside0.mk ((by rw [hg]; exact (below_size (by repeat (first | (with_reducible first | exact HB.out | apply below_alloc | apply pw_below_drewN | apply below_drew1 | refine below_set ?_ GE161.out) | exact HB.out))) : w.heap.size ≤ gb162)); have n5_ := Aside0.mk ((by rw [hg]; exact Nat.ne_of_lt (blk_lt (g := gb161) (o := .cells #[.int .i64 a0_0, .int .i64 a0_1] 36 (0, 0)) (by (with_reducible repeat (first | refine blk_drewN ?_ _ | refine blk_drew ?_ | refine blk_alloc ?_ _)); exact BK161.out)) : gb161 ≠ gb162)); have n6_ := Aside0.mk ((by rw [hg]; exact Nat.ne_of_gt (blk_lt (g := gb161) (o := .cells #[.int .i64 a0_0, .int .i64 a0_1] 36 (0, 0)) (by (with_reducible repeat (first | refine blk_drewN ?_ _ | refine blk_drew ?_ | refine blk_alloc ?_ _)); exact BK161.out)) : gb162 ≠ gb161)); clear BK161; clear HB; have BK161 := n0_; have HB := n1_; have BK162 := n2_; have GW162 := n3_; have GE162 := n4_; have NB161_162 := n5_; have NB162_161 := n6_; clear n0_ n1_ n2_ n3_ n4_ n5_ n6_; clear hb hbox hg; have hnb5 := NB161_162.out; have hnc5 := NB162_161.out; have hcz6_0 : w4.cell? ⟨gb161, 0, none⟩ = some (.int .i64 a0_0) := (blk_cell BK161.out 0).trans rfl; have hcz6_1 : w4.cell? ⟨gb161, 1, none⟩ = some (.int .i64 a0_1) := (blk_cell BK161.out 1).trans rfl; have hfz6_0 := blk_frozen BK161.out 0; have hfz6_1 := blk_frozen BK161.out 1; have hcz7_0 : w4.cell? ⟨gb162, 0, none⟩ = some (.int .i64 a1_0) := (blk_cell BK162.out 0).trans rfl; have hcz7_1 : w4.cell? ⟨gb162, 1, none⟩ = some (.int .i64 a1_1) := (blk_cell BK162.out 1).trans rfl; have hfz7_0 := blk_frozen BK162.out 0; have hfz7_1 := blk_frozen BK162.out 1))
 go_ret
 exact ⟨by first | rfl | (simp [errW_none, errW_some] <;> rfl) | (simp [*, errW_none, errW_some] <;> rfl), by repeat (first | (with_reducible first | exact HB.out | apply below_alloc | apply pw_below_drewN | apply below_drew1 | refine below_set ?_ GE161.out | refine below_set ?_ GE162.out) | exact HB.out)⟩

end Go.Proofs.Ytbpbpojnfhhbjaa.PFlyClosed
