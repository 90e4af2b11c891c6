/- Made by a program of this session (wip/tools/myprint.py, over the kit's printer): that the Go functions answer as the Lean functions printed beside them. -/
import Derived.Test.YtaahnfajcbkknaaPFlyProfilex0
import Derived.Test.YtaahnfajcbkknaaPFlyProfilex3
namespace Go.Proofs.Ytaahnfajcbkknaa.PFlyProfile
open Go.RowKit Go.Proofs.YtaahnfajcbkknaaW.PrintWords Go.Proofs.YtaahnfajcbkknaaW.PrintLast Go.Proofs.YtaahnfajcbkknaaW.PrintMore
attribute [local go_sem] max2_int min2_int max_two min_two max_three min_three max_four min_four   -- for this text's walks alone
set_option linter.unusedVariables false
set_option linter.unusedSimpArgs false

/-! ### aircraft_Check: function 62 -/
mutual
def aircraft_Check.j0 : Nat → Bool → ByteArray → Int → Int → Int → Int → Int → Int → Option (Int)
  | 0, _, _, _, _, _, _, _, _ => none
  | k + 1, x8, x136000, x136001, x136002, x136003, x136004, x136005, x136006 => if x8 = true then (some 1) else (if x136002 < 1 then (aircraft_Check.j1 k true x136000 x136001 x136002 x136003 x136004 x136005 x136006) else (aircraft_Check.j1 k (decide (x136002 > 60000)) x136000 x136001 x136002 x136003 x136004 x136005 x136006))
def aircraft_Check.j1 : Nat → Bool → ByteArray → Int → Int → Int → Int → Int → Int → Option (Int)
  | 0, _, _, _, _, _, _, _, _ => none
  | k + 1, x17, x136000, x136001, x136002, x136003, x136004, x136005, x136006 => if x17 = true then (aircraft_Check.j2 k x17 x136000 x136001 x136002 x136003 x136004 x136005 x136006) else (if x136003 < 1 then (aircraft_Check.j2 k true x136000 x136001 x136002 x136003 x136004 x136005 x136006) else (if x136003 > 200 then (aircraft_Check.j2 k (decide (x136003 > 200)) x136000 x136001 x136002 x136003 x136004 x136005 x136006) else (if x136004 < 1 then (aircraft_Check.j2 k true x136000 x136001 x136002 x136003 x136004 x136005 x136006) else (aircraft_Check.j2 k (decide (x136004 > 200)) x136000 x136001 x136002 x136003 x136004 x136005 x136006))))
def aircraft_Check.j2 : Nat → Bool → ByteArray → Int → Int → Int → Int → Int → Int → Option (Int)
  | 0, _, _, _, _, _, _, _, _ => none
  | k + 1, x17, x136000, x136001, x136002, x136003, x136004, x136005, x136006 => if x17 = true then (some 4) else (if x136005 < 1 then (aircraft_Check.j3 k true x136000 x136001 x136002 x136003 x136004 x136005 x136006) else (if x136005 > 400 then (aircraft_Check.j3 k true x136000 x136001 x136002 x136003 x136004 x136005 x136006) else (if x136006 < 1 then (aircraft_Check.j3 k true x136000 x136001 x136002 x136003 x136004 x136005 x136006) else (aircraft_Check.j3 k (decide (x136006 > 400)) x136000 x136001 x136002 x136003 x136004 x136005 x136006))))
def aircraft_Check.j3 : Nat → Bool → ByteArray → Int → Int → Int → Int → Int → Int → Option (Int)
  | 0, _, _, _, _, _, _, _, _ => none
  | k + 1, x42, x136000, x136001, x136002, x136003, x136004, x136005, x136006 => if x42 = true then (some 4) else (if x136005 > x136006 then (some 3) else (some 0))
end
def aircraft_Check.f (k : Nat) (a0_0 : ByteArray) (a0_1 : Int) (a0_2 : Int) (a0_3 : Int) (a0_4 : Int) (a0_5 : Int) (a0_6 : Int) : Option (Int) := (chart_Name.f k a0_0).bind fun t136 => (if t136 = true then (if a0_1 < 0 then (aircraft_Check.j0 k true a0_0 a0_1 a0_2 a0_3 a0_4 a0_5 a0_6) else (aircraft_Check.j0 k (decide (a0_1 > 3)) a0_0 a0_1 a0_2 a0_3 a0_4 a0_5 a0_6)) else (some 5))
theorem aircraft_Check.mono_l : ∀ k, (∀ y0 y1 y2 y3 y4 y5 y6 y7, LeO (aircraft_Check.j0 k y0 y1 y2 y3 y4 y5 y6 y7) (aircraft_Check.j0 (k + 1) y0 y1 y2 y3 y4 y5 y6 y7)) ∧ (∀ y0 y1 y2 y3 y4 y5 y6 y7, LeO (aircraft_Check.j1 k y0 y1 y2 y3 y4 y5 y6 y7) (aircraft_Check.j1 (k + 1) y0 y1 y2 y3 y4 y5 y6 y7)) ∧ (∀ y0 y1 y2 y3 y4 y5 y6 y7, LeO (aircraft_Check.j2 k y0 y1 y2 y3 y4 y5 y6 y7) (aircraft_Check.j2 (k + 1) y0 y1 y2 y3 y4 y5 y6 y7)) ∧ (∀ y0 y1 y2 y3 y4 y5 y6 y7, LeO (aircraft_Check.j3 k y0 y1 y2 y3 y4 y5 y6 y7) (aircraft_Check.j3 (k + 1) y0 y1 y2 y3 y4 y5 y6 y7))
  | 0 => ⟨fun _ _ _ _ _ _ _ _ r h => by simp [aircraft_Check.j0] at h, fun _ _ _ _ _ _ _ _ r h => by simp [aircraft_Check.j1] at h, fun _ _ _ _ _ _ _ _ r h => by simp [aircraft_Check.j2] at h, fun _ _ _ _ _ _ _ _ r h => by simp [aircraft_Check.j3] at h⟩
  | k + 1 => by
    obtain ⟨ih0, ih1, ih2, ih3⟩ := aircraft_Check.mono_l k
    refine ⟨?_, ?_, ?_, ?_⟩
    · intro y0 y1 y2 y3 y4 y5 y6 y7
      unfold aircraft_Check.j0
      repeat' first
      | (with_reducible exact ih0 _ _ _ _ _ _ _ _)
      | (with_reducible exact ih1 _ _ _ _ _ _ _ _)
      | (with_reducible exact ih2 _ _ _ _ _ _ _ _)
      | (with_reducible exact ih3 _ _ _ _ _ _ _ _)
      | (with_reducible exact chart_Name.mono _ _)
      | (with_reducible exact LeO.refl _)
      | (with_reducible exact LeO.none _)
      | (with_reducible refine LeO.ite ?_ ?_)
      | (with_reducible refine LeO.bind ?_ (fun _ => ?_))
      | exact ih0 _ _ _ _ _ _ _ _
      | exact ih1 _ _ _ _ _ _ _ _
      | exact ih2 _ _ _ _ _ _ _ _
      | exact ih3 _ _ _ _ _ _ _ _
      | exact chart_Name.mono _ _
      | exact LeO.none _
      | refine LeO.ite ?_ ?_
      | refine LeO.bind ?_ (fun _ => ?_)
    · intro y0 y1 y2 y3 y4 y5 y6 y7
      unfold aircraft_Check.j1
      repeat' first
      | (with_reducible exact ih0 _ _ _ _ _ _ _ _)
      | (with_reducible exact ih1 _ _ _ _ _ _ _ _)
      | (with_reducible exact ih2 _ _ _ _ _ _ _ _)
      | (with_reducible exact ih3 _ _ _ _ _ _ _ _)
      | (with_reducible exact chart_Name.mono _ _)
      | (with_reducible exact LeO.refl _)
      | (with_reducible exact LeO.none _)
      | (with_reducible refine LeO.ite ?_ ?_)
      | (with_reducible refine LeO.bind ?_ (fun _ => ?_))
      | exact ih0 _ _ _ _ _ _ _ _
      | exact ih1 _ _ _ _ _ _ _ _
      | exact ih2 _ _ _ _ _ _ _ _
      | exact ih3 _ _ _ _ _ _ _ _
      | exact chart_Name.mono _ _
      | exact LeO.none _
      | refine LeO.ite ?_ ?_
      | refine LeO.bind ?_ (fun _ => ?_)
    · intro y0 y1 y2 y3 y4 y5 y6 y7
      unfold aircraft_Check.j2
      repeat' first
      | (with_reducible exact ih0 _ _ _ _ _ _ _ _)
      | (with_reducible exact ih1 _ _ _ _ _ _ _ _)
      | (with_reducible exact ih2 _ _ _ _ _ _ _ _)
      | (with_reducible exact ih3 _ _ _ _ _ _ _ _)
      | (with_reducible exact chart_Name.mono _ _)
      | (with_reducible exact LeO.refl _)
      | (with_reducible exact LeO.none _)
      | (with_reducible refine LeO.ite ?_ ?_)
      | (with_reducible refine LeO.bind ?_ (fun _ => ?_))
      | exact ih0 _ _ _ _ _ _ _ _
      | exact ih1 _ _ _ _ _ _ _ _
      | exact ih2 _ _ _ _ _ _ _ _
      | exact ih3 _ _ _ _ _ _ _ _
      | exact chart_Name.mono _ _
      | exact LeO.none _
      | refine LeO.ite ?_ ?_
      | refine LeO.bind ?_ (fun _ => ?_)
    · intro y0 y1 y2 y3 y4 y5 y6 y7
      unfold aircraft_Check.j3
      repeat' first
      | (with_reducible exact ih0 _ _ _ _ _ _ _ _)
      | (with_reducible exact ih1 _ _ _ _ _ _ _ _)
      | (with_reducible exact ih2 _ _ _ _ _ _ _ _)
      | (with_reducible exact ih3 _ _ _ _ _ _ _ _)
      | (with_reducible exact chart_Name.mono _ _)
      | (with_reducible exact LeO.refl _)
      | (with_reducible exact LeO.none _)
      | (with_reducible refine LeO.ite ?_ ?_)
      | (with_reducible refine LeO.bind ?_ (fun _ => ?_))
      | exact ih0 _ _ _ _ _ _ _ _
      | exact ih1 _ _ _ _ _ _ _ _
      | exact ih2 _ _ _ _ _ _ _ _
      | exact ih3 _ _ _ _ _ _ _ _
      | exact chart_Name.mono _ _
      | exact LeO.none _
      | refine LeO.ite ?_ ?_
      | refine LeO.bind ?_ (fun _ => ?_)
theorem aircraft_Check.mono : ∀ a0 a1 a2 a3 a4 a5 a6 k, LeO (aircraft_Check.f k a0 a1 a2 a3 a4 a5 a6) (aircraft_Check.f (k + 1) a0 a1 a2 a3 a4 a5 a6) := by
  intro a0 a1 a2 a3 a4 a5 a6 k
  obtain ⟨ih0, ih1, ih2, ih3⟩ := aircraft_Check.mono_l k
  unfold aircraft_Check.f
  repeat' first
      | (with_reducible exact ih0 _ _ _ _ _ _ _ _)
      | (with_reducible exact ih1 _ _ _ _ _ _ _ _)
      | (with_reducible exact ih2 _ _ _ _ _ _ _ _)
      | (with_reducible exact ih3 _ _ _ _ _ _ _ _)
      | (with_reducible exact chart_Name.mono _ _)
      | (with_reducible exact LeO.refl _)
      | (with_reducible exact LeO.none _)
      | (with_reducible refine LeO.ite ?_ ?_)
      | (with_reducible refine LeO.bind ?_ (fun _ => ?_))
      | exact ih0 _ _ _ _ _ _ _ _
      | exact ih1 _ _ _ _ _ _ _ _
      | exact ih2 _ _ _ _ _ _ _ _
      | exact ih3 _ _ _ _ _ _ _ _
      | exact chart_Name.mono _ _
      | exact LeO.none _
      | refine LeO.ite ?_ ?_
      | refine LeO.bind ?_ (fun _ => ?_)
set_option maxHeartbeats 8000000 in
set_option maxRecDepth 100000 in
theorem aircraft_Check.calls (k : Nat) (a0_0 : ByteArray) (a0_1 : Int) (a0_2 : Int) (a0_3 : Int) (a0_4 : Int) (a0_5 : Int) (a0_6 : Int) (r : Int) (w : World) (h : aircraft_Check.f k a0_0 a0_1 a0_2 a0_3 a0_4 a0_5 a0_6 = some r) :
    Calls Try.prog 62 #[.agg #[.string a0_0, .int .i64 a0_1, .int .i64 a0_2, .int .i64 a0_3, .int .i64 a0_4, .int .i64 a0_5, .int .i64 a0_6]] w fun e w' => e = .returned (.int .i64 r) ∧ Below w.heap.size w w' := by
 have hu63 := Try.underlying63
 have HB := Aside0.mk (Below.refl w.heap.size w)
 have H : ((chart_Name.f k a0_0).bind fun t136 => (if t136 = true then (if a0_1 < 0 then (aircraft_Check.j0 k true a0_0 a0_1 a0_2 a0_3 a0_4 a0_5 a0_6) else (aircraft_Check.j0 k (decide (a0_1 > 3)) a0_0 a0_1 a0_2 a0_3 a0_4 a0_5 a0_6)) else (some 5))) = some r := h
 clear h
 replace H := Option.bind_eq_some_iff.mp H
 obtain ⟨t136, A20, H⟩ := H
 replace H : (if t136 = true then (if a0_1 < 0 then (aircraft_Check.j0 k true a0_0 a0_1 a0_2 a0_3 a0_4 a0_5 a0_6) else (aircraft_Check.j0 k (decide (a0_1 > 3)) a0_0 a0_1 a0_2 a0_3 a0_4 a0_5 a0_6)) else (some 5)) = some r := H
 have A2 := Aside0.mk A20
 clear A20
 by_cases c3 : t136 = true
 · subst c3
   have H1 : (if a0_1 < 0 then (aircraft_Check.j0 k true a0_0 a0_1 a0_2 a0_3 a0_4 a0_5 a0_6) else (aircraft_Check.j0 k (decide (a0_1 > 3)) a0_0 a0_1 a0_2 a0_3 a0_4 a0_5 a0_6)) = some r := by rw [if_pos rfl] at H; exact H
   clear H
   have H := H1
   clear H1
   have HC4 := Aside0.mk H
   clear H
   go_enter Try.func62, Try.ntmps62
   go_upto_region 3 with (first | ((with_reducible refine gate_dst (N := 1) rfl ?_); refine box_event ?hg (N := 1) ?hd (cs := #[.string a0_0, .int .i64 a0_1, .int .i64 a0_2, .int .i64 a0_3, .int .i64 a0_4, .int .i64 a0_5, .int .i64 a0_6]) (t := 63) ?hr ?_; (case hd => rfl); (case hg => rfl); (case hr => first | (go_simp; done) | (go_simp; rfl)); intro gb135 hg wx43071 hbox hb; have n0_ := Aside0.mk (below_step (by repeat (first | (with_reducible first | exact HB.out | apply below_alloc | apply pw_below_drewN | apply below_drew1) | exact HB.out)) hb); have n1_ := Aside0.mk (hbox); have n2_ := Aside0.mk ((by rw [hg]; exact (below_size (by repeat (first | (with_reducible first | exact HB.out | apply below_alloc | apply pw_below_drewN | apply below_drew1) | exact HB.out))) : w.heap.size ≤ gb135)); have n3_ := Aside0.mk ((by rw [hg]; exact (below_size (by repeat (first | (with_reducible first | exact HB.out | apply below_alloc | apply pw_below_drewN | apply below_drew1) | exact HB.out))) : w.heap.size ≤ gb135)); clear HB; have HB := n0_; have BK135 := n1_; have GW135 := n2_; have GE135 := n3_; clear n0_ n1_ n2_ n3_; clear hb hbox hg; have hczx43071 : wx43071.cell? ⟨gb135, 0, none⟩ = some (.string a0_0) := (blk_cell BK135.out 0).trans rfl; have hczx43072 : wx43071.cell? ⟨gb135, 1, none⟩ = some (.int .i64 a0_1) := (blk_cell BK135.out 1).trans rfl; have hczx43073 : wx43071.cell? ⟨gb135, 2, none⟩ = some (.int .i64 a0_2) := (blk_cell BK135.out 2).trans rfl; have hczx43074 : wx43071.cell? ⟨gb135, 3, none⟩ = some (.int .i64 a0_3) := (blk_cell BK135.out 3).trans rfl; have hczx43075 : wx43071.cell? ⟨gb135, 4, none⟩ = some (.int .i64 a0_4) := (blk_cell BK135.out 4).trans rfl; have hczx43076 : wx43071.cell? ⟨gb135, 5, none⟩ = some (.int .i64 a0_5) := (blk_cell BK135.out 5).trans rfl; have hczx43077 : wx43071.cell? ⟨gb135, 6, none⟩ = some (.int .i64 a0_6) := (blk_cell BK135.out 6).trans rfl; have hfzx43071 := blk_frozen BK135.out 0; have hfzx43072 := blk_frozen BK135.out 1; have hfzx43073 := blk_frozen BK135.out 2; have hfzx43074 := blk_frozen BK135.out 3; have hfzx43075 := blk_frozen BK135.out 4; have hfzx43076 := blk_frozen BK135.out 5; have hfzx43077 := blk_frozen BK135.out 6) | ((with_reducible refine gate_callee (f := 73) rfl ?_); refine goesL_ (some 6) rfl rfl Try.func73 (by kernel_rfl) rfl #[.string a0_0] rfl (by (try simp only [List.map_toArray, List.map_cons, List.map_nil]); first | done | rfl | (simp only [List.length_drop, List.length_take]; rfl)) ?_; (with_reducible refine (chart_Name.calls k a0_0 true _ A2.out).mono ?_); rintro e wxdec31 ⟨rfl, hb⟩; refine ⟨_, rfl, ?_⟩; have n0_ := Aside0.mk (blk_below (g := gb135) (o := .cells #[.string a0_0, .int .i64 a0_1, .int .i64 a0_2, .int .i64 a0_3, .int .i64 a0_4, .int .i64 a0_5, .int .i64 a0_6] 63 (0, 0)) (by (with_reducible repeat (first | refine blk_drewN ?_ _ | refine blk_drew ?_ | refine blk_alloc ?_ _)); exact BK135.out) hb); have n1_ := Aside0.mk (below_step (by repeat (first | (with_reducible first | exact HB.out | apply below_alloc | apply pw_below_drewN | apply below_drew1 | refine below_set ?_ GE135.out) | exact HB.out)) hb); clear BK135; clear HB; have BK135 := n0_; have HB := n1_; clear n0_ n1_; (try clear hb); (try clear hb2); (try clear hk); (try clear hi)))
   (try simp only [Act.put, List.setIfInBounds_toArray, List.set_cons_zero, List.set_cons_succ])
   go_cut [8] (fun v8 wc => ∃ (kq : Nat) (x8_3 : Bool), v8 = .bool x8_3 ∧ Aside0 (aircraft_Check.j0 kq x8_3 a0_0 a0_1 a0_2 a0_3 a0_4 a0_5 a0_6 = some r) ∧ Aside0 (kq ≤ k) ∧ Aside0 (wc.heap[gb135]? = some (.cells #[.string a0_0, .int .i64 a0_1, .int .i64 a0_2, .int .i64 a0_3, .int .i64 a0_4, .int .i64 a0_5, .int .i64 a0_6] 63 (0, 0))) ∧ Aside0 (Below w.heap.size w wc))
   case first =>
    have H := HC4.out
    clear HC4
    refine Or.elim (Classical.em (a0_1 < 0)) (fun c8 => ?p2_) (fun c8 => ?n2_)
    case' p2_ =>
     rw [if_pos c8] at H
     have c8b0 : decide (a0_1 < 0) = true := decide_eq_true c8
     clear c8
     (first | rw [c8b0] | (simp only [i64_w, i32_w]; rw [c8b0]) | skip)
     have hm1_0 := Aside0.mk trivial
    case' n2_ =>
     rw [if_neg c8] at H
     have c8b0 : decide (a0_1 < 0) = false := decide_eq_false c8
     clear c8
     (first | rw [c8b0] | (simp only [i64_w, i32_w]; rw [c8b0]) | skip)
     have hm1_1 := Aside0.mk trivial
    all_goals
     have H' := Aside0.mk H
     clear H
     first
      | clear hm1_0
        have hczz1 : wxdec31.cell? ⟨gb135, 0, none⟩ = some (.string a0_0) := (blk_cell BK135.out 0).trans rfl
        have hczz2 : wxdec31.cell? ⟨gb135, 1, none⟩ = some (.int .i64 a0_1) := (blk_cell BK135.out 1).trans rfl
        have hczz3 : wxdec31.cell? ⟨gb135, 2, none⟩ = some (.int .i64 a0_2) := (blk_cell BK135.out 2).trans rfl
        have hczz4 : wxdec31.cell? ⟨gb135, 3, none⟩ = some (.int .i64 a0_3) := (blk_cell BK135.out 3).trans rfl
        have hczz5 : wxdec31.cell? ⟨gb135, 4, none⟩ = some (.int .i64 a0_4) := (blk_cell BK135.out 4).trans rfl
        have hczz6 : wxdec31.cell? ⟨gb135, 5, none⟩ = some (.int .i64 a0_5) := (blk_cell BK135.out 5).trans rfl
        have hczz7 : wxdec31.cell? ⟨gb135, 6, none⟩ = some (.int .i64 a0_6) := (blk_cell BK135.out 6).trans rfl
        have hfzz1 := blk_frozen BK135.out 0
        have hfzz2 := blk_frozen BK135.out 1
        have hfzz3 := blk_frozen BK135.out 2
        have hfzz4 := blk_frozen BK135.out 3
        have hfzz5 := blk_frozen BK135.out 4
        have hfzz6 := blk_frozen BK135.out 5
        have hfzz7 := blk_frozen BK135.out 6
        go_wp2
        go_meet
        case rel => exact ⟨_, (true), (by first | rfl | (simp; done) | (simp [*]; done)), H', ⟨by first | omega | exact Nat.le_refl _⟩, ⟨by (with_reducible repeat (first | refine blk_drewN ?_ _ | refine blk_drew ?_ | refine blk_alloc ?_ _)); exact BK135.out⟩, ⟨by repeat (first | (with_reducible first | exact HB.out | apply below_alloc | apply pw_below_drewN | apply below_drew1 | refine below_set ?_ GE135.out) | exact HB.out)⟩⟩
      | clear hm1_1
        have hczz8 : wxdec31.cell? ⟨gb135, 0, none⟩ = some (.string a0_0) := (blk_cell BK135.out 0).trans rfl
        have hczz9 : wxdec31.cell? ⟨gb135, 1, none⟩ = some (.int .i64 a0_1) := (blk_cell BK135.out 1).trans rfl
        have hczz10 : wxdec31.cell? ⟨gb135, 2, none⟩ = some (.int .i64 a0_2) := (blk_cell BK135.out 2).trans rfl
        have hczz11 : wxdec31.cell? ⟨gb135, 3, none⟩ = some (.int .i64 a0_3) := (blk_cell BK135.out 3).trans rfl
        have hczz12 : wxdec31.cell? ⟨gb135, 4, none⟩ = some (.int .i64 a0_4) := (blk_cell BK135.out 4).trans rfl
        have hczz13 : wxdec31.cell? ⟨gb135, 5, none⟩ = some (.int .i64 a0_5) := (blk_cell BK135.out 5).trans rfl
        have hczz14 : wxdec31.cell? ⟨gb135, 6, none⟩ = some (.int .i64 a0_6) := (blk_cell BK135.out 6).trans rfl
        have hfzz8 := blk_frozen BK135.out 0
        have hfzz9 := blk_frozen BK135.out 1
        have hfzz10 := blk_frozen BK135.out 2
        have hfzz11 := blk_frozen BK135.out 3
        have hfzz12 := blk_frozen BK135.out 4
        have hfzz13 := blk_frozen BK135.out 5
        have hfzz14 := blk_frozen BK135.out 6
        go_wp2
        go_meet
        case rel => exact ⟨_, (decide (a0_1 > 3)), (by first | rfl | (simp; done) | (simp [*]; done)), H', ⟨by first | omega | exact Nat.le_refl _⟩, ⟨by (with_reducible repeat (first | refine blk_drewN ?_ _ | refine blk_drew ?_ | refine blk_alloc ?_ _)); exact BK135.out⟩, ⟨by repeat (first | (with_reducible first | exact HB.out | apply below_alloc | apply pw_below_drewN | apply below_drew1 | refine below_set ?_ GE135.out) | exact HB.out)⟩⟩
   case rest =>
    clear HC4
    (try clear p2); (try clear c3); (try clear c6); (try clear c7); (try clear c8); (try clear c8b0); (try clear hczz8); (try clear hczz9); (try clear hczz10); (try clear hczz11); (try clear hczz12); (try clear hczz13); (try clear hczz14); (try clear hczx43071); (try clear hczx43072); (try clear hczx43073); (try clear hczx43074); (try clear hczx43075); (try clear hczx43076); (try clear hczx43077); (try clear hczz1); (try clear hczz2); (try clear hczz3); (try clear hczz4); (try clear hczz5); (try clear hczz6); (try clear hczz7); (try clear hfzz8); (try clear hfzz9); (try clear hfzz10); (try clear hfzz11); (try clear hfzz12); (try clear hfzz13); (try clear hfzz14); (try clear hfzx43071); (try clear hfzx43072); (try clear hfzx43073); (try clear hfzx43074); (try clear hfzx43075); (try clear hfzx43076)
    (try clear hfzx43077); (try clear hfzz1); (try clear hfzz2); (try clear hfzz3); (try clear hfzz4); (try clear hfzz5); (try clear hfzz6); (try clear hfzz7)
    obtain ⟨kq, x8_3, rfl, HA, HJ3, BK135, HB⟩ := hcut
    cases kq with
    | zero => exact absurd HA.out (by simp [aircraft_Check.j0])
    | succ kj3 =>
     have H := HA.out
     clear HA
     simp only [aircraft_Check.j0] at H
     by_cases c11 : x8_3 = true
     · subst c11
       have H1 : (some 1) = some r := by rw [if_pos rfl] at H; exact H
       clear H
       have H := H1
       clear H1
       obtain rfl := Option.some.inj H
       go_wp2
       go_ret
       exact ⟨by first | rfl | (simp [errW_none, errW_some] <;> rfl) | (simp [*, errW_none, errW_some] <;> rfl), by repeat (first | (with_reducible first | exact HB.out | apply below_alloc | apply pw_below_drewN | apply below_drew1 | refine below_set ?_ GE135.out) | exact HB.out)⟩
     · replace c11 := Bool.eq_false_iff.mpr c11
       subst c11
       have H1 : (if a0_2 < 1 then (aircraft_Check.j1 kj3 true a0_0 a0_1 a0_2 a0_3 a0_4 a0_5 a0_6) else (aircraft_Check.j1 kj3 (decide (a0_2 > 60000)) a0_0 a0_1 a0_2 a0_3 a0_4 a0_5 a0_6)) = some r := by rw [if_neg (show ¬ (false = true) by decide)] at H; exact H
       clear H
       have H := H1
       clear H1
       have HC12 := Aside0.mk H
       clear H
       go_upto_region 5 with (fail)
       go_cut [17] (fun v17 wc => ∃ (kq : Nat) (x17_11 : Bool), v17 = .bool x17_11 ∧ Aside0 (aircraft_Check.j1 kq x17_11 a0_0 a0_1 a0_2 a0_3 a0_4 a0_5 a0_6 = some r) ∧ Aside0 (kq ≤ kj3) ∧ Aside0 (wc.heap[gb135]? = some (.cells #[.string a0_0, .int .i64 a0_1, .int .i64 a0_2, .int .i64 a0_3, .int .i64 a0_4, .int .i64 a0_5, .int .i64 a0_6] 63 (0, 0))) ∧ Aside0 (Below w.heap.size w wc))
       case first =>
        have H := HC12.out
        clear HC12
        refine Or.elim (Classical.em (a0_2 < 1)) (fun c13 => ?p4_) (fun c13 => ?n4_)
        case' p4_ =>
         rw [if_pos c13] at H
         have c13b0 : decide (a0_2 < 1) = true := decide_eq_true c13
         clear c13
         (first | rw [c13b0] | (simp only [i64_w, i32_w]; rw [c13b0]) | skip)
         have hm3_0 := Aside0.mk trivial
        case' n4_ =>
         rw [if_neg c13] at H
         have c13b0 : decide (a0_2 < 1) = false := decide_eq_false c13
         clear c13
         (first | rw [c13b0] | (simp only [i64_w, i32_w]; rw [c13b0]) | skip)
         have hm3_1 := Aside0.mk trivial
        all_goals
         have H' := Aside0.mk H
         clear H
         first
          | clear hm3_0
            have hczz15 : wc.cell? ⟨gb135, 0, none⟩ = some (.string a0_0) := (blk_cell BK135.out 0).trans rfl
            have hczz16 : wc.cell? ⟨gb135, 1, none⟩ = some (.int .i64 a0_1) := (blk_cell BK135.out 1).trans rfl
            have hczz17 : wc.cell? ⟨gb135, 2, none⟩ = some (.int .i64 a0_2) := (blk_cell BK135.out 2).trans rfl
            have hczz18 : wc.cell? ⟨gb135, 3, none⟩ = some (.int .i64 a0_3) := (blk_cell BK135.out 3).trans rfl
            have hczz19 : wc.cell? ⟨gb135, 4, none⟩ = some (.int .i64 a0_4) := (blk_cell BK135.out 4).trans rfl
            have hczz20 : wc.cell? ⟨gb135, 5, none⟩ = some (.int .i64 a0_5) := (blk_cell BK135.out 5).trans rfl
            have hczz21 : wc.cell? ⟨gb135, 6, none⟩ = some (.int .i64 a0_6) := (blk_cell BK135.out 6).trans rfl
            have hfzz15 := blk_frozen BK135.out 0
            have hfzz16 := blk_frozen BK135.out 1
            have hfzz17 := blk_frozen BK135.out 2
            have hfzz18 := blk_frozen BK135.out 3
            have hfzz19 := blk_frozen BK135.out 4
            have hfzz20 := blk_frozen BK135.out 5
            have hfzz21 := blk_frozen BK135.out 6
            go_wp2
            go_meet
            case rel => exact ⟨_, (true), (by first | rfl | (simp; done) | (simp [*]; done)), H', ⟨by have := HJ3.out; first | omega | exact Nat.le_refl _⟩, ⟨by (with_reducible repeat (first | refine blk_drewN ?_ _ | refine blk_drew ?_ | refine blk_alloc ?_ _)); exact BK135.out⟩, ⟨by repeat (first | (with_reducible first | exact HB.out | apply below_alloc | apply pw_below_drewN | apply below_drew1 | refine below_set ?_ GE135.out) | exact HB.out)⟩⟩
          | clear hm3_1
            have hczz22 : wc.cell? ⟨gb135, 0, none⟩ = some (.string a0_0) := (blk_cell BK135.out 0).trans rfl
            have hczz23 : wc.cell? ⟨gb135, 1, none⟩ = some (.int .i64 a0_1) := (blk_cell BK135.out 1).trans rfl
            have hczz24 : wc.cell? ⟨gb135, 2, none⟩ = some (.int .i64 a0_2) := (blk_cell BK135.out 2).trans rfl
            have hczz25 : wc.cell? ⟨gb135, 3, none⟩ = some (.int .i64 a0_3) := (blk_cell BK135.out 3).trans rfl
            have hczz26 : wc.cell? ⟨gb135, 4, none⟩ = some (.int .i64 a0_4) := (blk_cell BK135.out 4).trans rfl
            have hczz27 : wc.cell? ⟨gb135, 5, none⟩ = some (.int .i64 a0_5) := (blk_cell BK135.out 5).trans rfl
            have hczz28 : wc.cell? ⟨gb135, 6, none⟩ = some (.int .i64 a0_6) := (blk_cell BK135.out 6).trans rfl
            have hfzz22 := blk_frozen BK135.out 0
            have hfzz23 := blk_frozen BK135.out 1
            have hfzz24 := blk_frozen BK135.out 2
            have hfzz25 := blk_frozen BK135.out 3
            have hfzz26 := blk_frozen BK135.out 4
            have hfzz27 := blk_frozen BK135.out 5
            have hfzz28 := blk_frozen BK135.out 6
            go_wp2
            go_meet
            case rel => exact ⟨_, (decide (a0_2 > 60000)), (by first | rfl | (simp; done) | (simp [*]; done)), H', ⟨by have := HJ3.out; first | omega | exact Nat.le_refl _⟩, ⟨by (with_reducible repeat (first | refine blk_drewN ?_ _ | refine blk_drew ?_ | refine blk_alloc ?_ _)); exact BK135.out⟩, ⟨by repeat (first | (with_reducible first | exact HB.out | apply below_alloc | apply pw_below_drewN | apply below_drew1 | refine below_set ?_ GE135.out) | exact HB.out)⟩⟩
       case rest =>
        clear HC12
        (try clear c1); (try clear p2); (try clear c3); (try clear c6); (try clear c7); (try clear c8); (try clear c8b0); (try clear c11); (try clear c13); (try clear c13b0); (try clear hczz8); (try clear hczz9); (try clear hczz10); (try clear hczz11); (try clear hczz12); (try clear hczz13); (try clear hczz14); (try clear hczz15); (try clear hczz16); (try clear hczz17); (try clear hczz18); (try clear hczz19); (try clear hczz20); (try clear hczz21); (try clear hczz22); (try clear hczz23); (try clear hczz24); (try clear hczz25); (try clear hczz26); (try clear hczz27); (try clear hczz28); (try clear hczx43071); (try clear hczx43072); (try clear hczx43073); (try clear hczx43074); (try clear hczx43075); (try clear hczx43076); (try clear hczx43077); (try clear hczz1); (try clear hczz2)
        (try clear hczz3); (try clear hczz4); (try clear hczz5); (try clear hczz6); (try clear hczz7); (try clear hfzz8); (try clear hfzz9); (try clear hfzz10); (try clear hfzz11); (try clear hfzz12); (try clear hfzz13); (try clear hfzz14); (try clear hfzz15); (try clear hfzz16); (try clear hfzz17); (try clear hfzz18); (try clear hfzz19); (try clear hfzz20); (try clear hfzz21); (try clear hfzz22); (try clear hfzz23); (try clear hfzz24); (try clear hfzz25); (try clear hfzz26); (try clear hfzz27); (try clear hfzz28); (try clear hfzx43071); (try clear hfzx43072); (try clear hfzx43073); (try clear hfzx43074); (try clear hfzx43075); (try clear hfzx43076); (try clear hfzx43077); (try clear hfzz1); (try clear hfzz2); (try clear hfzz3); (try clear hfzz4); (try clear hfzz5); (try clear hfzz6); (try clear hfzz7)
        (try clear p2)
        obtain ⟨kq, x17_11, rfl, HA, HJ11, BK135, HB⟩ := hcut
        cases kq with
        | zero => exact absurd HA.out (by simp [aircraft_Check.j1])
        | succ kj11 =>
         have H := HA.out
         clear HA
         simp only [aircraft_Check.j1] at H
         have HC16 := Aside0.mk H
         clear H
         go_upto_if 17 with (fail)
         go_cut [17] (fun v17 wc => ∃ (kq : Nat) (x17_15 : Bool), v17 = .bool x17_15 ∧ Aside0 (aircraft_Check.j2 kq x17_15 a0_0 a0_1 a0_2 a0_3 a0_4 a0_5 a0_6 = some r) ∧ Aside0 (kq ≤ kj11) ∧ Aside0 (wc.heap[gb135]? = some (.cells #[.string a0_0, .int .i64 a0_1, .int .i64 a0_2, .int .i64 a0_3, .int .i64 a0_4, .int .i64 a0_5, .int .i64 a0_6] 63 (0, 0))) ∧ Aside0 (Below w.heap.size w wc))
         case first =>
          have H := HC16.out
          clear HC16
          refine Or.elim (Classical.em (x17_11 = true)) (fun c17 => ?p6_) (fun c17 => ?n6_)
          case' p6_ =>
           subst c17
           have H1 : (aircraft_Check.j2 kj11 true a0_0 a0_1 a0_2 a0_3 a0_4 a0_5 a0_6) = some r := by rw [if_pos rfl] at H; exact H
           clear H
           have H := H1
           clear H1
           have hm5_0 := Aside0.mk trivial
          case' n6_ =>
           replace c17 := Bool.eq_false_iff.mpr c17
           subst c17
           have H1 : (if a0_3 < 1 then (aircraft_Check.j2 kj11 true a0_0 a0_1 a0_2 a0_3 a0_4 a0_5 a0_6) else (if a0_3 > 200 then (aircraft_Check.j2 kj11 (decide (a0_3 > 200)) a0_0 a0_1 a0_2 a0_3 a0_4 a0_5 a0_6) else (if a0_4 < 1 then (aircraft_Check.j2 kj11 true a0_0 a0_1 a0_2 a0_3 a0_4 a0_5 a0_6) else (aircraft_Check.j2 kj11 (decide (a0_4 > 200)) a0_0 a0_1 a0_2 a0_3 a0_4 a0_5 a0_6)))) = some r := by rw [if_neg (show ¬ (false = true) by decide)] at H; exact H
           clear H
           have H := H1
           clear H1
           refine Or.elim (Classical.em (a0_3 < 1)) (fun c18 => ?p7_) (fun c18 => ?n7_)
           case' p7_ =>
            rw [if_pos c18] at H
            have c18b0 : decide (a0_3 < 1) = true := decide_eq_true c18
            clear c18
            (first | rw [c18b0] | (simp only [i64_w, i32_w]; rw [c18b0]) | skip)
            have hm5_1 := Aside0.mk trivial
           case' n7_ =>
            rw [if_neg c18] at H
            have c18b0 : decide (a0_3 < 1) = false := decide_eq_false c18
            clear c18
            (first | rw [c18b0] | (simp only [i64_w, i32_w]; rw [c18b0]) | skip)
            refine Or.elim (Classical.em (a0_3 > 200)) (fun c20 => ?p8_) (fun c20 => ?n8_)
            case' p8_ =>
             rw [if_pos c20] at H
             have c20b0 : decide (200 < a0_3) = true := decide_eq_true c20
             clear c20
             have hm5_2 := Aside0.mk trivial
            case' n8_ =>
             rw [if_neg c20] at H
             have c20b0 : decide (200 < a0_3) = false := decide_eq_false c20
             clear c20
             refine Or.elim (Classical.em (a0_4 < 1)) (fun c22 => ?p9_) (fun c22 => ?n9_)
             case' p9_ =>
              rw [if_pos c22] at H
              have c22b0 : decide (a0_4 < 1) = true := decide_eq_true c22
              clear c22
              have hm5_3 := Aside0.mk trivial
             case' n9_ =>
              rw [if_neg c22] at H
              have c22b0 : decide (a0_4 < 1) = false := decide_eq_false c22
              clear c22
              have hm5_4 := Aside0.mk trivial
          all_goals
           have H' := Aside0.mk H
           clear H
           first
            | clear hm5_0
              go_wp2
              go_meet
              case rel => exact ⟨_, (true), (by first | rfl | (simp; done) | (simp [*]; done)), H', ⟨by have := HJ3.out; have := HJ11.out; first | omega | exact Nat.le_refl _⟩, ⟨by (with_reducible repeat (first | refine blk_drewN ?_ _ | refine blk_drew ?_ | refine blk_alloc ?_ _)); exact BK135.out⟩, ⟨by repeat (first | (with_reducible first | exact HB.out | apply below_alloc | apply pw_below_drewN | apply below_drew1 | refine below_set ?_ GE135.out) | exact HB.out)⟩⟩
            | clear hm5_1
              have hczz29 : wc.cell? ⟨gb135, 0, none⟩ = some (.string a0_0) := (blk_cell BK135.out 0).trans rfl
              have hczz30 : wc.cell? ⟨gb135, 1, none⟩ = some (.int .i64 a0_1) := (blk_cell BK135.out 1).trans rfl
              have hczz31 : wc.cell? ⟨gb135, 2, none⟩ = some (.int .i64 a0_2) := (blk_cell BK135.out 2).trans rfl
              have hczz32 : wc.cell? ⟨gb135, 3, none⟩ = some (.int .i64 a0_3) := (blk_cell BK135.out 3).trans rfl
              have hczz33 : wc.cell? ⟨gb135, 4, none⟩ = some (.int .i64 a0_4) := (blk_cell BK135.out 4).trans rfl
              have hczz34 : wc.cell? ⟨gb135, 5, none⟩ = some (.int .i64 a0_5) := (blk_cell BK135.out 5).trans rfl
              have hczz35 : wc.cell? ⟨gb135, 6, none⟩ = some (.int .i64 a0_6) := (blk_cell BK135.out 6).trans rfl
              have hfzz29 := blk_frozen BK135.out 0
              have hfzz30 := blk_frozen BK135.out 1
              have hfzz31 := blk_frozen BK135.out 2
              have hfzz32 := blk_frozen BK135.out 3
              have hfzz33 := blk_frozen BK135.out 4
              have hfzz34 := blk_frozen BK135.out 5
              have hfzz35 := blk_frozen BK135.out 6
              go_wp2
              go_meet
              case rel => exact ⟨_, (true), (by first | rfl | (simp; done) | (simp [*]; done)), H', ⟨by have := HJ3.out; have := HJ11.out; first | omega | exact Nat.le_refl _⟩, ⟨by (with_reducible repeat (first | refine blk_drewN ?_ _ | refine blk_drew ?_ | refine blk_alloc ?_ _)); exact BK135.out⟩, ⟨by repeat (first | (with_reducible first | exact HB.out | apply below_alloc | apply pw_below_drewN | apply below_drew1 | refine below_set ?_ GE135.out) | exact HB.out)⟩⟩
            | clear hm5_2
              have hczz36 : wc.cell? ⟨gb135, 0, none⟩ = some (.string a0_0) := (blk_cell BK135.out 0).trans rfl
              have hczz37 : wc.cell? ⟨gb135, 1, none⟩ = some (.int .i64 a0_1) := (blk_cell BK135.out 1).trans rfl
              have hczz38 : wc.cell? ⟨gb135, 2, none⟩ = some (.int .i64 a0_2) := (blk_cell BK135.out 2).trans rfl
              have hczz39 : wc.cell? ⟨gb135, 3, none⟩ = some (.int .i64 a0_3) := (blk_cell BK135.out 3).trans rfl
              have hczz40 : wc.cell? ⟨gb135, 4, none⟩ = some (.int .i64 a0_4) := (blk_cell BK135.out 4).trans rfl
              have hczz41 : wc.cell? ⟨gb135, 5, none⟩ = some (.int .i64 a0_5) := (blk_cell BK135.out 5).trans rfl
              have hczz42 : wc.cell? ⟨gb135, 6, none⟩ = some (.int .i64 a0_6) := (blk_cell BK135.out 6).trans rfl
              have hfzz36 := blk_frozen BK135.out 0
              have hfzz37 := blk_frozen BK135.out 1
              have hfzz38 := blk_frozen BK135.out 2
              have hfzz39 := blk_frozen BK135.out 3
              have hfzz40 := blk_frozen BK135.out 4
              have hfzz41 := blk_frozen BK135.out 5
              have hfzz42 := blk_frozen BK135.out 6
              go_wp2
              go_meet
              case rel => exact ⟨_, (decide (a0_3 > 200)), (by first | rfl | (simp; done) | (simp [*]; done)), H', ⟨by have := HJ3.out; have := HJ11.out; first | omega | exact Nat.le_refl _⟩, ⟨by (with_reducible repeat (first | refine blk_drewN ?_ _ | refine blk_drew ?_ | refine blk_alloc ?_ _)); exact BK135.out⟩, ⟨by repeat (first | (with_reducible first | exact HB.out | apply below_alloc | apply pw_below_drewN | apply below_drew1 | refine below_set ?_ GE135.out) | exact HB.out)⟩⟩
            | clear hm5_3
              have hczz43 : wc.cell? ⟨gb135, 0, none⟩ = some (.string a0_0) := (blk_cell BK135.out 0).trans rfl
              have hczz44 : wc.cell? ⟨gb135, 1, none⟩ = some (.int .i64 a0_1) := (blk_cell BK135.out 1).trans rfl
              have hczz45 : wc.cell? ⟨gb135, 2, none⟩ = some (.int .i64 a0_2) := (blk_cell BK135.out 2).trans rfl
              have hczz46 : wc.cell? ⟨gb135, 3, none⟩ = some (.int .i64 a0_3) := (blk_cell BK135.out 3).trans rfl
              have hczz47 : wc.cell? ⟨gb135, 4, none⟩ = some (.int .i64 a0_4) := (blk_cell BK135.out 4).trans rfl
              have hczz48 : wc.cell? ⟨gb135, 5, none⟩ = some (.int .i64 a0_5) := (blk_cell BK135.out 5).trans rfl
              have hczz49 : wc.cell? ⟨gb135, 6, none⟩ = some (.int .i64 a0_6) := (blk_cell BK135.out 6).trans rfl
              have hfzz43 := blk_frozen BK135.out 0
              have hfzz44 := blk_frozen BK135.out 1
              have hfzz45 := blk_frozen BK135.out 2
              have hfzz46 := blk_frozen BK135.out 3
              have hfzz47 := blk_frozen BK135.out 4
              have hfzz48 := blk_frozen BK135.out 5
              have hfzz49 := blk_frozen BK135.out 6
              go_wp2
              go_meet
              case rel => exact ⟨_, (true), (by first | rfl | (simp; done) | (simp [*]; done)), H', ⟨by have := HJ3.out; have := HJ11.out; first | omega | exact Nat.le_refl _⟩, ⟨by (with_reducible repeat (first | refine blk_drewN ?_ _ | refine blk_drew ?_ | refine blk_alloc ?_ _)); exact BK135.out⟩, ⟨by repeat (first | (with_reducible first | exact HB.out | apply below_alloc | apply pw_below_drewN | apply below_drew1 | refine below_set ?_ GE135.out) | exact HB.out)⟩⟩
            | clear hm5_4
              have hczz50 : wc.cell? ⟨gb135, 0, none⟩ = some (.string a0_0) := (blk_cell BK135.out 0).trans rfl
              have hczz51 : wc.cell? ⟨gb135, 1, none⟩ = some (.int .i64 a0_1) := (blk_cell BK135.out 1).trans rfl
              have hczz52 : wc.cell? ⟨gb135, 2, none⟩ = some (.int .i64 a0_2) := (blk_cell BK135.out 2).trans rfl
              have hczz53 : wc.cell? ⟨gb135, 3, none⟩ = some (.int .i64 a0_3) := (blk_cell BK135.out 3).trans rfl
              have hczz54 : wc.cell? ⟨gb135, 4, none⟩ = some (.int .i64 a0_4) := (blk_cell BK135.out 4).trans rfl
              have hczz55 : wc.cell? ⟨gb135, 5, none⟩ = some (.int .i64 a0_5) := (blk_cell BK135.out 5).trans rfl
              have hczz56 : wc.cell? ⟨gb135, 6, none⟩ = some (.int .i64 a0_6) := (blk_cell BK135.out 6).trans rfl
              have hfzz50 := blk_frozen BK135.out 0
              have hfzz51 := blk_frozen BK135.out 1
              have hfzz52 := blk_frozen BK135.out 2
              have hfzz53 := blk_frozen BK135.out 3
              have hfzz54 := blk_frozen BK135.out 4
              have hfzz55 := blk_frozen BK135.out 5
              have hfzz56 := blk_frozen BK135.out 6
              go_wp2
              go_meet
              case rel => exact ⟨_, (decide (a0_4 > 200)), (by first | rfl | (simp; done) | (simp [*]; done)), H', ⟨by have := HJ3.out; have := HJ11.out; first | omega | exact Nat.le_refl _⟩, ⟨by (with_reducible repeat (first | refine blk_drewN ?_ _ | refine blk_drew ?_ | refine blk_alloc ?_ _)); exact BK135.out⟩, ⟨by repeat (first | (with_reducible first | exact HB.out | apply below_alloc | apply pw_below_drewN | apply below_drew1 | refine below_set ?_ GE135.out) | exact HB.out)⟩⟩
         case rest =>
          clear HC16
          (try clear c1); (try clear c2); (try clear p2); (try clear c3); (try clear c6); (try clear c7); (try clear c8); (try clear c8b0); (try clear c11); (try clear c13); (try clear c13b0); (try clear c17); (try clear c18); (try clear c18b0); (try clear c20); (try clear c20b0); (try clear c22); (try clear c22b0); (try clear hczz8); (try clear hczz9); (try clear hczz10); (try clear hczz11); (try clear hczz12); (try clear hczz13); (try clear hczz14); (try clear hczz15); (try clear hczz16); (try clear hczz17); (try clear hczz18); (try clear hczz19); (try clear hczz20); (try clear hczz21); (try clear hczz22); (try clear hczz23); (try clear hczz24); (try clear hczz25); (try clear hczz26); (try clear hczz27); (try clear hczz28); (try clear hczz29)
          (try clear hczz30); (try clear hczz31); (try clear hczz32); (try clear hczz33); (try clear hczz34); (try clear hczz35); (try clear hczz36); (try clear hczz37); (try clear hczz38); (try clear hczz39); (try clear hczz40); (try clear hczz41); (try clear hczz42); (try clear hczz43); (try clear hczz44); (try clear hczz45); (try clear hczz46); (try clear hczz47); (try clear hczz48); (try clear hczz49); (try clear hczz50); (try clear hczz51); (try clear hczz52); (try clear hczz53); (try clear hczz54); (try clear hczz55); (try clear hczz56); (try clear hczx43071); (try clear hczx43072); (try clear hczx43073); (try clear hczx43074); (try clear hczx43075); (try clear hczx43076); (try clear hczx43077); (try clear hczz1); (try clear hczz2); (try clear hczz3); (try clear hczz4); (try clear hczz5); (try clear hczz6)
          (try clear hczz7); (try clear hfzz8); (try clear hfzz9); (try clear hfzz10); (try clear hfzz11); (try clear hfzz12); (try clear hfzz13); (try clear hfzz14); (try clear hfzz15); (try clear hfzz16); (try clear hfzz17); (try clear hfzz18); (try clear hfzz19); (try clear hfzz20); (try clear hfzz21); (try clear hfzz22); (try clear hfzz23); (try clear hfzz24); (try clear hfzz25); (try clear hfzz26); (try clear hfzz27); (try clear hfzz28); (try clear hfzz29); (try clear hfzz30); (try clear hfzz31); (try clear hfzz32); (try clear hfzz33); (try clear hfzz34); (try clear hfzz35); (try clear hfzz36); (try clear hfzz37); (try clear hfzz38); (try clear hfzz39); (try clear hfzz40); (try clear hfzz41); (try clear hfzz42); (try clear hfzz43); (try clear hfzz44); (try clear hfzz45); (try clear hfzz46)
          (try clear hfzz47); (try clear hfzz48); (try clear hfzz49); (try clear hfzz50); (try clear hfzz51); (try clear hfzz52); (try clear hfzz53); (try clear hfzz54); (try clear hfzz55); (try clear hfzz56); (try clear hfzx43071); (try clear hfzx43072); (try clear hfzx43073); (try clear hfzx43074); (try clear hfzx43075); (try clear hfzx43076); (try clear hfzx43077); (try clear hfzz1); (try clear hfzz2); (try clear hfzz3); (try clear hfzz4); (try clear hfzz5); (try clear hfzz6); (try clear hfzz7); (try clear p2)
          obtain ⟨kq, x17_15, rfl, HA, HJ15, BK135, HB⟩ := hcut
          cases kq with
          | zero => exact absurd HA.out (by simp [aircraft_Check.j2])
          | succ kj15 =>
           have H := HA.out
           clear HA
           simp only [aircraft_Check.j2] at H
           by_cases c25 : x17_15 = true
           · subst c25
             have H1 : (some 4) = some r := by rw [if_pos rfl] at H; exact H
             clear H
             have H := H1
             clear H1
             obtain rfl := Option.some.inj H
             go_wp2
             go_ret
             exact ⟨by first | rfl | (simp [errW_none, errW_some] <;> rfl) | (simp [*, errW_none, errW_some] <;> rfl), by repeat (first | (with_reducible first | exact HB.out | apply below_alloc | apply pw_below_drewN | apply below_drew1 | refine below_set ?_ GE135.out) | exact HB.out)⟩
           · replace c25 := Bool.eq_false_iff.mpr c25
             subst c25
             have H1 : (if a0_5 < 1 then (aircraft_Check.j3 kj15 true a0_0 a0_1 a0_2 a0_3 a0_4 a0_5 a0_6) else (if a0_5 > 400 then (aircraft_Check.j3 kj15 true a0_0 a0_1 a0_2 a0_3 a0_4 a0_5 a0_6) else (if a0_6 < 1 then (aircraft_Check.j3 kj15 true a0_0 a0_1 a0_2 a0_3 a0_4 a0_5 a0_6) else (aircraft_Check.j3 kj15 (decide (a0_6 > 400)) a0_0 a0_1 a0_2 a0_3 a0_4 a0_5 a0_6)))) = some r := by rw [if_neg (show ¬ (false = true) by decide)] at H; exact H
             clear H
             have H := H1
             clear H1
             have HC26 := Aside0.mk H
             clear H
             go_upto_region 9 with (fail)
             go_cut [42] (fun v42 wc => ∃ (kq : Nat) (x42_25 : Bool), v42 = .bool x42_25 ∧ Aside0 (aircraft_Check.j3 kq x42_25 a0_0 a0_1 a0_2 a0_3 a0_4 a0_5 a0_6 = some r) ∧ Aside0 (kq ≤ kj15) ∧ Aside0 (wc.heap[gb135]? = some (.cells #[.string a0_0, .int .i64 a0_1, .int .i64 a0_2, .int .i64 a0_3, .int .i64 a0_4, .int .i64 a0_5, .int .i64 a0_6] 63 (0, 0))) ∧ Aside0 (Below w.heap.size w wc))
             case first =>
              have H := HC26.out
              clear HC26
              refine Or.elim (Classical.em (a0_5 < 1)) (fun c27 => ?p11_) (fun c27 => ?n11_)
              case' p11_ =>
               rw [if_pos c27] at H
               have c27b0 : decide (a0_5 < 1) = true := decide_eq_true c27
               clear c27
               (first | rw [c27b0] | (simp only [i64_w, i32_w]; rw [c27b0]) | skip)
               have hm10_0 := Aside0.mk trivial
              case' n11_ =>
               rw [if_neg c27] at H
               have c27b0 : decide (a0_5 < 1) = false := decide_eq_false c27
               clear c27
               (first | rw [c27b0] | (simp only [i64_w, i32_w]; rw [c27b0]) | skip)
               refine Or.elim (Classical.em (a0_5 > 400)) (fun c29 => ?p12_) (fun c29 => ?n12_)
               case' p12_ =>
                rw [if_pos c29] at H
                have c29b0 : decide (400 < a0_5) = true := decide_eq_true c29
                clear c29
                have hm10_1 := Aside0.mk trivial
               case' n12_ =>
                rw [if_neg c29] at H
                have c29b0 : decide (400 < a0_5) = false := decide_eq_false c29
                clear c29
                refine Or.elim (Classical.em (a0_6 < 1)) (fun c31 => ?p13_) (fun c31 => ?n13_)
                case' p13_ =>
                 rw [if_pos c31] at H
                 have c31b0 : decide (a0_6 < 1) = true := decide_eq_true c31
                 clear c31
                 have hm10_2 := Aside0.mk trivial
                case' n13_ =>
                 rw [if_neg c31] at H
                 have c31b0 : decide (a0_6 < 1) = false := decide_eq_false c31
                 clear c31
                 have hm10_3 := Aside0.mk trivial
              all_goals
               have H' := Aside0.mk H
               clear H
               first
                | clear hm10_0
                  have hczz57 : wc.cell? ⟨gb135, 0, none⟩ = some (.string a0_0) := (blk_cell BK135.out 0).trans rfl
                  have hczz58 : wc.cell? ⟨gb135, 1, none⟩ = some (.int .i64 a0_1) := (blk_cell BK135.out 1).trans rfl
                  have hczz59 : wc.cell? ⟨gb135, 2, none⟩ = some (.int .i64 a0_2) := (blk_cell BK135.out 2).trans rfl
                  have hczz60 : wc.cell? ⟨gb135, 3, none⟩ = some (.int .i64 a0_3) := (blk_cell BK135.out 3).trans rfl
                  have hczz61 : wc.cell? ⟨gb135, 4, none⟩ = some (.int .i64 a0_4) := (blk_cell BK135.out 4).trans rfl
                  have hczz62 : wc.cell? ⟨gb135, 5, none⟩ = some (.int .i64 a0_5) := (blk_cell BK135.out 5).trans rfl
                  have hczz63 : wc.cell? ⟨gb135, 6, none⟩ = some (.int .i64 a0_6) := (blk_cell BK135.out 6).trans rfl
                  have hfzz57 := blk_frozen BK135.out 0
                  have hfzz58 := blk_frozen BK135.out 1
                  have hfzz59 := blk_frozen BK135.out 2
                  have hfzz60 := blk_frozen BK135.out 3
                  have hfzz61 := blk_frozen BK135.out 4
                  have hfzz62 := blk_frozen BK135.out 5
                  have hfzz63 := blk_frozen BK135.out 6
                  go_wp2
                  go_meet
                  case rel => exact ⟨_, (true), (by first | rfl | (simp; done) | (simp [*]; done)), H', ⟨by have := HJ3.out; have := HJ11.out; have := HJ15.out; first | omega | exact Nat.le_refl _⟩, ⟨by (with_reducible repeat (first | refine blk_drewN ?_ _ | refine blk_drew ?_ | refine blk_alloc ?_ _)); exact BK135.out⟩, ⟨by repeat (first | (with_reducible first | exact HB.out | apply below_alloc | apply pw_below_drewN | apply below_drew1 | refine below_set ?_ GE135.out) | exact HB.out)⟩⟩
                | clear hm10_1
                  have hczz64 : wc.cell? ⟨gb135, 0, none⟩ = some (.string a0_0) := (blk_cell BK135.out 0).trans rfl
                  have hczz65 : wc.cell? ⟨gb135, 1, none⟩ = some (.int .i64 a0_1) := (blk_cell BK135.out 1).trans rfl
                  have hczz66 : wc.cell? ⟨gb135, 2, none⟩ = some (.int .i64 a0_2) := (blk_cell BK135.out 2).trans rfl
                  have hczz67 : wc.cell? ⟨gb135, 3, none⟩ = some (.int .i64 a0_3) := (blk_cell BK135.out 3).trans rfl
                  have hczz68 : wc.cell? ⟨gb135, 4, none⟩ = some (.int .i64 a0_4) := (blk_cell BK135.out 4).trans rfl
                  have hczz69 : wc.cell? ⟨gb135, 5, none⟩ = some (.int .i64 a0_5) := (blk_cell BK135.out 5).trans rfl
                  have hczz70 : wc.cell? ⟨gb135, 6, none⟩ = some (.int .i64 a0_6) := (blk_cell BK135.out 6).trans rfl
                  have hfzz64 := blk_frozen BK135.out 0
                  have hfzz65 := blk_frozen BK135.out 1
                  have hfzz66 := blk_frozen BK135.out 2
                  have hfzz67 := blk_frozen BK135.out 3
                  have hfzz68 := blk_frozen BK135.out 4
                  have hfzz69 := blk_frozen BK135.out 5
                  have hfzz70 := blk_frozen BK135.out 6
                  go_wp2
                  go_meet
                  case rel => exact ⟨_, (true), (by first | rfl | (simp; done) | (simp [*]; done)), H', ⟨by have := HJ3.out; have := HJ11.out; have := HJ15.out; first | omega | exact Nat.le_refl _⟩, ⟨by (with_reducible repeat (first | refine blk_drewN ?_ _ | refine blk_drew ?_ | refine blk_alloc ?_ _)); exact BK135.out⟩, ⟨by repeat (first | (with_reducible first | exact HB.out | apply below_alloc | apply pw_below_drewN | apply below_drew1 | refine below_set ?_ GE135.out) | exact HB.out)⟩⟩
                | clear hm10_2
                  have hczz71 : wc.cell? ⟨gb135, 0, none⟩ = some (.string a0_0) := (blk_cell BK135.out 0).trans rfl
                  have hczz72 : wc.cell? ⟨gb135, 1, none⟩ = some (.int .i64 a0_1) := (blk_cell BK135.out 1).trans rfl
                  have hczz73 : wc.cell? ⟨gb135, 2, none⟩ = some (.int .i64 a0_2) := (blk_cell BK135.out 2).trans rfl
                  have hczz74 : wc.cell? ⟨gb135, 3, none⟩ = some (.int .i64 a0_3) := (blk_cell BK135.out 3).trans rfl
                  have hczz75 : wc.cell? ⟨gb135, 4, none⟩ = some (.int .i64 a0_4) := (blk_cell BK135.out 4).trans rfl
                  have hczz76 : wc.cell? ⟨gb135, 5, none⟩ = some (.int .i64 a0_5) := (blk_cell BK135.out 5).trans rfl
                  have hczz77 : wc.cell? ⟨gb135, 6, none⟩ = some (.int .i64 a0_6) := (blk_cell BK135.out 6).trans rfl
                  have hfzz71 := blk_frozen BK135.out 0
                  have hfzz72 := blk_frozen BK135.out 1
                  have hfzz73 := blk_frozen BK135.out 2
                  have hfzz74 := blk_frozen BK135.out 3
                  have hfzz75 := blk_frozen BK135.out 4
                  have hfzz76 := blk_frozen BK135.out 5
                  have hfzz77 := blk_frozen BK135.out 6
                  go_wp2
                  go_meet
                  case rel => exact ⟨_, (true), (by first | rfl | (simp; done) | (simp [*]; done)), H', ⟨by have := HJ3.out; have := HJ11.out; have := HJ15.out; first | omega | exact Nat.le_refl _⟩, ⟨by (with_reducible repeat (first | refine blk_drewN ?_ _ | refine blk_drew ?_ | refine blk_alloc ?_ _)); exact BK135.out⟩, ⟨by repeat (first | (with_reducible first | exact HB.out | apply below_alloc | apply pw_below_drewN | apply below_drew1 | refine below_set ?_ GE135.out) | exact HB.out)⟩⟩
                | clear hm10_3
                  have hczz78 : wc.cell? ⟨gb135, 0, none⟩ = some (.string a0_0) := (blk_cell BK135.out 0).trans rfl
                  have hczz79 : wc.cell? ⟨gb135, 1, none⟩ = some (.int .i64 a0_1) := (blk_cell BK135.out 1).trans rfl
                  have hczz80 : wc.cell? ⟨gb135, 2, none⟩ = some (.int .i64 a0_2) := (blk_cell BK135.out 2).trans rfl
                  have hczz81 : wc.cell? ⟨gb135, 3, none⟩ = some (.int .i64 a0_3) := (blk_cell BK135.out 3).trans rfl
                  have hczz82 : wc.cell? ⟨gb135, 4, none⟩ = some (.int .i64 a0_4) := (blk_cell BK135.out 4).trans rfl
                  have hczz83 : wc.cell? ⟨gb135, 5, none⟩ = some (.int .i64 a0_5) := (blk_cell BK135.out 5).trans rfl
                  have hczz84 : wc.cell? ⟨gb135, 6, none⟩ = some (.int .i64 a0_6) := (blk_cell BK135.out 6).trans rfl
                  have hfzz78 := blk_frozen BK135.out 0
                  have hfzz79 := blk_frozen BK135.out 1
                  have hfzz80 := blk_frozen BK135.out 2
                  have hfzz81 := blk_frozen BK135.out 3
                  have hfzz82 := blk_frozen BK135.out 4
                  have hfzz83 := blk_frozen BK135.out 5
                  have hfzz84 := blk_frozen BK135.out 6
                  go_wp2
                  go_meet
                  case rel => exact ⟨_, (decide (a0_6 > 400)), (by first | rfl | (simp; done) | (simp [*]; done)), H', ⟨by have := HJ3.out; have := HJ11.out; have := HJ15.out; first | omega | exact Nat.le_refl _⟩, ⟨by (with_reducible repeat (first | refine blk_drewN ?_ _ | refine blk_drew ?_ | refine blk_alloc ?_ _)); exact BK135.out⟩, ⟨by repeat (first | (with_reducible first | exact HB.out | apply below_alloc | apply pw_below_drewN | apply below_drew1 | refine below_set ?_ GE135.out) | exact HB.out)⟩⟩
             case rest =>
              clear HC26
              (try clear c1); (try clear c2); (try clear p2); (try clear c3); (try clear c6); (try clear c7); (try clear c8); (try clear c8b0); (try clear c11); (try clear c13); (try clear c13b0); (try clear c17); (try clear c18); (try clear c18b0); (try clear c20); (try clear c20b0); (try clear c22); (try clear c22b0); (try clear c25); (try clear c27); (try clear c27b0); (try clear c29); (try clear c29b0); (try clear c31); (try clear c31b0); (try clear hczz8); (try clear hczz9); (try clear hczz10); (try clear hczz11); (try clear hczz12); (try clear hczz13); (try clear hczz14); (try clear hczz15); (try clear hczz16); (try clear hczz17); (try clear hczz18); (try clear hczz19); (try clear hczz20); (try clear hczz21); (try clear hczz22)
              (try clear hczz23); (try clear hczz24); (try clear hczz25); (try clear hczz26); (try clear hczz27); (try clear hczz28); (try clear hczz29); (try clear hczz30); (try clear hczz31); (try clear hczz32); (try clear hczz33); (try clear hczz34); (try clear hczz35); (try clear hczz36); (try clear hczz37); (try clear hczz38); (try clear hczz39); (try clear hczz40); (try clear hczz41); (try clear hczz42); (try clear hczz43); (try clear hczz44); (try clear hczz45); (try clear hczz46); (try clear hczz47); (try clear hczz48); (try clear hczz49); (try clear hczz50); (try clear hczz51); (try clear hczz52); (try clear hczz53); (try clear hczz54); (try clear hczz55); (try clear hczz56); (try clear hczz57); (try clear hczz58); (try clear hczz59); (try clear hczz60); (try clear hczz61); (try clear hczz62)
              (try clear hczz63); (try clear hczz64); (try clear hczz65); (try clear hczz66); (try clear hczz67); (try clear hczz68); (try clear hczz69); (try clear hczz70); (try clear hczz71); (try clear hczz72); (try clear hczz73); (try clear hczz74); (try clear hczz75); (try clear hczz76); (try clear hczz77); (try clear hczz78); (try clear hczz79); (try clear hczz80); (try clear hczz81); (try clear hczz82); (try clear hczz83); (try clear hczz84); (try clear hczx43071); (try clear hczx43072); (try clear hczx43073); (try clear hczx43074); (try clear hczx43075); (try clear hczx43076); (try clear hczx43077); (try clear hczz1); (try clear hczz2); (try clear hczz3); (try clear hczz4); (try clear hczz5); (try clear hczz6); (try clear hczz7); (try clear hfzz8); (try clear hfzz9); (try clear hfzz10); (try clear hfzz11)
              (try clear hfzz12); (try clear hfzz13); (try clear hfzz14); (try clear hfzz15); (try clear hfzz16); (try clear hfzz17); (try clear hfzz18); (try clear hfzz19); (try clear hfzz20); (try clear hfzz21); (try clear hfzz22); (try clear hfzz23); (try clear hfzz24); (try clear hfzz25); (try clear hfzz26); (try clear hfzz27); (try clear hfzz28); (try clear hfzz29); (try clear hfzz30); (try clear hfzz31); (try clear hfzz32); (try clear hfzz33); (try clear hfzz34); (try clear hfzz35); (try clear hfzz36); (try clear hfzz37); (try clear hfzz38); (try clear hfzz39); (try clear hfzz40); (try clear hfzz41); (try clear hfzz42); (try clear hfzz43); (try clear hfzz44); (try clear hfzz45); (try clear hfzz46); (try clear hfzz47); (try clear hfzz48); (try clear hfzz49); (try clear hfzz50); (try clear hfzz51)
              (try clear hfzz52); (try clear hfzz53); (try clear hfzz54); (try clear hfzz55); (try clear hfzz56); (try clear hfzz57); (try clear hfzz58); (try clear hfzz59); (try clear hfzz60); (try clear hfzz61); (try clear hfzz62); (try clear hfzz63); (try clear hfzz64); (try clear hfzz65); (try clear hfzz66); (try clear hfzz67); (try clear hfzz68); (try clear hfzz69); (try clear hfzz70); (try clear hfzz71); (try clear hfzz72); (try clear hfzz73); (try clear hfzz74); (try clear hfzz75); (try clear hfzz76); (try clear hfzz77); (try clear hfzz78); (try clear hfzz79); (try clear hfzz80); (try clear hfzz81); (try clear hfzz82); (try clear hfzz83); (try clear hfzz84); (try clear hfzx43071); (try clear hfzx43072); (try clear hfzx43073); (try clear hfzx43074); (try clear hfzx43075); (try clear hfzx43076); (try clear hfzx43077)
              (try clear hfzz1); (try clear hfzz2); (try clear hfzz3); (try clear hfzz4); (try clear hfzz5); (try clear hfzz6); (try clear hfzz7); (try clear p2)
              obtain ⟨kq, x42_25, rfl, HA, HJ25, BK135, HB⟩ := hcut
              cases kq with
              | zero => exact absurd HA.out (by simp [aircraft_Check.j3])
              | succ kj25 =>
               have H := HA.out
               clear HA
               simp only [aircraft_Check.j3] at H
               refine Or.elim (Classical.em (x42_25 = true)) (fun c34 => ?p15_) (fun c34 => ?n15_)
               case' p15_ =>
                subst c34
                have H1 : (some 4) = some r := by rw [if_pos rfl] at H; exact H
                clear H
                have H := H1
                clear H1
                have hm14_0 := Aside0.mk trivial
               case' n15_ =>
                replace c34 := Bool.eq_false_iff.mpr c34
                subst c34
                have H1 : (if a0_5 > a0_6 then (some 3) else (some 0)) = some r := by rw [if_neg (show ¬ (false = true) by decide)] at H; exact H
                clear H
                have H := H1
                clear H1
                refine Or.elim (Classical.em (a0_5 > a0_6)) (fun c35 => ?p16_) (fun c35 => ?n16_)
                case' p16_ =>
                 rw [if_pos c35] at H
                 have c35b0 : decide (a0_6 < a0_5) = true := decide_eq_true c35
                 clear c35
                 have hm14_1 := Aside0.mk trivial
                case' n16_ =>
                 rw [if_neg c35] at H
                 have c35b0 : decide (a0_6 < a0_5) = false := decide_eq_false c35
                 clear c35
                 have hm14_2 := Aside0.mk trivial
               all_goals
                obtain rfl := Option.some.inj H
                first
                 | clear hm14_0
                   go_wp2
                   go_ret
                   exact ⟨by first | rfl | (simp [errW_none, errW_some] <;> rfl) | (simp [*, errW_none, errW_some] <;> rfl), by repeat (first | (with_reducible first | exact HB.out | apply below_alloc | apply pw_below_drewN | apply below_drew1 | refine below_set ?_ GE135.out) | exact HB.out)⟩
                 | clear hm14_1
                   have hczz85 : wc.cell? ⟨gb135, 0, none⟩ = some (.string a0_0) := (blk_cell BK135.out 0).trans rfl
                   have hczz86 : wc.cell? ⟨gb135, 1, none⟩ = some (.int .i64 a0_1) := (blk_cell BK135.out 1).trans rfl
                   have hczz87 : wc.cell? ⟨gb135, 2, none⟩ = some (.int .i64 a0_2) := (blk_cell BK135.out 2).trans rfl
                   have hczz88 : wc.cell? ⟨gb135, 3, none⟩ = some (.int .i64 a0_3) := (blk_cell BK135.out 3).trans rfl
                   have hczz89 : wc.cell? ⟨gb135, 4, none⟩ = some (.int .i64 a0_4) := (blk_cell BK135.out 4).trans rfl
                   have hczz90 : wc.cell? ⟨gb135, 5, none⟩ = some (.int .i64 a0_5) := (blk_cell BK135.out 5).trans rfl
                   have hczz91 : wc.cell? ⟨gb135, 6, none⟩ = some (.int .i64 a0_6) := (blk_cell BK135.out 6).trans rfl
                   have hfzz85 := blk_frozen BK135.out 0
                   have hfzz86 := blk_frozen BK135.out 1
                   have hfzz87 := blk_frozen BK135.out 2
                   have hfzz88 := blk_frozen BK135.out 3
                   have hfzz89 := blk_frozen BK135.out 4
                   have hfzz90 := blk_frozen BK135.out 5
                   have hfzz91 := blk_frozen BK135.out 6
                   go_wp2
                   go_ret
                   exact ⟨by first | rfl | (simp [errW_none, errW_some] <;> rfl) | (simp [*, errW_none, errW_some] <;> rfl), by repeat (first | (with_reducible first | exact HB.out | apply below_alloc | apply pw_below_drewN | apply below_drew1 | refine below_set ?_ GE135.out) | exact HB.out)⟩
                 | clear hm14_2
                   have hczz92 : wc.cell? ⟨gb135, 0, none⟩ = some (.string a0_0) := (blk_cell BK135.out 0).trans rfl
                   have hczz93 : wc.cell? ⟨gb135, 1, none⟩ = some (.int .i64 a0_1) := (blk_cell BK135.out 1).trans rfl
                   have hczz94 : wc.cell? ⟨gb135, 2, none⟩ = some (.int .i64 a0_2) := (blk_cell BK135.out 2).trans rfl
                   have hczz95 : wc.cell? ⟨gb135, 3, none⟩ = some (.int .i64 a0_3) := (blk_cell BK135.out 3).trans rfl
                   have hczz96 : wc.cell? ⟨gb135, 4, none⟩ = some (.int .i64 a0_4) := (blk_cell BK135.out 4).trans rfl
                   have hczz97 : wc.cell? ⟨gb135, 5, none⟩ = some (.int .i64 a0_5) := (blk_cell BK135.out 5).trans rfl
                   have hczz98 : wc.cell? ⟨gb135, 6, none⟩ = some (.int .i64 a0_6) := (blk_cell BK135.out 6).trans rfl
                   have hfzz92 := blk_frozen BK135.out 0
                   have hfzz93 := blk_frozen BK135.out 1
                   have hfzz94 := blk_frozen BK135.out 2
                   have hfzz95 := blk_frozen BK135.out 3
                   have hfzz96 := blk_frozen BK135.out 4
                   have hfzz97 := blk_frozen BK135.out 5
                   have hfzz98 := blk_frozen BK135.out 6
                   go_wp2
                   go_ret
                   exact ⟨by first | rfl | (simp [errW_none, errW_some] <;> rfl) | (simp [*, errW_none, errW_some] <;> rfl), by repeat (first | (with_reducible first | exact HB.out | apply below_alloc | apply pw_below_drewN | apply below_drew1 | refine below_set ?_ GE135.out) | exact HB.out)⟩
 · replace c3 := Bool.eq_false_iff.mpr c3
   subst c3
   have H1 : (some 5) = some r := by rw [if_neg (show ¬ (false = true) by decide)] at H; exact H
   clear H
   have H := H1
   clear H1
   obtain rfl := Option.some.inj H
   go_enter Try.func62, Try.ntmps62
   go_wp2_with (first | ((with_reducible refine gate_dst (N := 1) rfl ?_); refine box_event ?hg (N := 1) ?hd (cs := #[.string a0_0, .int .i64 a0_1, .int .i64 a0_2, .int .i64 a0_3, .int .i64 a0_4, .int .i64 a0_5, .int .i64 a0_6]) (t := 63) ?hr ?_; (case hd => rfl); (case hg => rfl); (case hr => first | (go_simp; done) | (go_simp; rfl)); intro gb135 hg wx43071 hbox hb; have n0_ := Aside0.mk (below_step (by repeat (first | (with_reducible first | exact HB.out | apply below_alloc | apply pw_below_drewN | apply below_drew1) | exact HB.out)) hb); have n1_ := Aside0.mk (hbox); have n2_ := Aside0.mk ((by rw [hg]; exact (below_size (by repeat (first | (with_reducible first | exact HB.out | apply below_alloc | apply pw_below_drewN | apply below_drew1) | exact HB.out))) : w.heap.size ≤ gb135)); have n3_ := Aside0.mk ((by rw [hg]; exact (below_size (by repeat (first | (with_reducible first | exact HB.out | apply below_alloc | apply pw_below_drewN | apply below_drew1) | exact HB.out))) : w.heap.size ≤ gb135)); clear HB; have HB := n0_; have BK135 := n1_; have GW135 := n2_; have GE135 := n3_; clear n0_ n1_ n2_ n3_; clear hb hbox hg; have hczx43071 : wx43071.cell? ⟨gb135, 0, none⟩ = some (.string a0_0) := (blk_cell BK135.out 0).trans rfl; have hczx43072 : wx43071.cell? ⟨gb135, 1, none⟩ = some (.int .i64 a0_1) := (blk_cell BK135.out 1).trans rfl; have hczx43073 : wx43071.cell? ⟨gb135, 2, none⟩ = some (.int .i64 a0_2) := (blk_cell BK135.out 2).trans rfl; have hczx43074 : wx43071.cell? ⟨gb135, 3, none⟩ = some (.int .i64 a0_3) := (blk_cell BK135.out 3).trans rfl; have hczx43075 : wx43071.cell? ⟨gb135, 4, none⟩ = some (.int .i64 a0_4) := (blk_cell BK135.out 4).trans rfl; have hczx43076 : wx43071.cell? ⟨gb135, 5, none⟩ = some (.int .i64 a0_5) := (blk_cell BK135.out 5).trans rfl; have hczx43077 : wx43071.cell? ⟨gb135, 6, none⟩ = some (.int .i64 a0_6) := (blk_cell BK135.out 6).trans rfl; have hfzx43071 := blk_frozen BK135.out 0; have hfzx43072 := blk_frozen BK135.out 1; have hfzx43073 := blk_frozen BK135.out 2; have hfzx43074 := blk_frozen BK135.out 3; have hfzx43075 := blk_frozen BK135.out 4; have hfzx43076 := blk_frozen BK135.out 5; have hfzx43077 := blk_frozen BK135.out 6) | ((with_reducible refine gate_callee (f := 73) rfl ?_); refine goesL_ (some 6) rfl rfl Try.func73 (by kernel_rfl) rfl #[.string a0_0] rfl (by (try simp only [List.map_toArray, List.map_cons, List.map_nil]); first | done | rfl | (simp only [List.length_drop, List.length_take]; rfl)) ?_; (with_reducible refine (chart_Name.calls k a0_0 false _ A2.out).mono ?_); rintro e wxbb151 ⟨rfl, hb⟩; refine ⟨_, rfl, ?_⟩; have n0_ := Aside0.mk (blk_below (g := gb135) (o := .cells #[.string a0_0, .int .i64 a0_1, .int .i64 a0_2, .int .i64 a0_3, .int .i64 a0_4, .int .i64 a0_5, .int .i64 a0_6] 63 (0, 0)) (by (with_reducible repeat (first | refine blk_drewN ?_ _ | refine blk_drew ?_ | refine blk_alloc ?_ _)); exact BK135.out) hb); have n1_ := Aside0.mk (below_step (by repeat (first | (with_reducible first | exact HB.out | apply below_alloc | apply pw_below_drewN | apply below_drew1 | refine below_set ?_ GE135.out) | exact HB.out)) hb); clear BK135; clear HB; have BK135 := n0_; have HB := n1_; clear n0_ n1_; (try clear hb); (try clear hb2); (try clear hk); (try clear hi)))
   go_ret
   exact ⟨by first | rfl | (simp [errW_none, errW_some] <;> rfl) | (simp [*, errW_none, errW_some] <;> rfl), by repeat (first | (with_reducible first | exact HB.out | apply below_alloc | apply pw_below_drewN | apply below_drew1 | refine below_set ?_ GE135.out) | exact HB.out)⟩

/-! ### fly_Profile: function 41 -/
def fly_Profile.f (k : Nat) (a0_0 : ByteArray) (a0_1 : Int) (a0_2 : Int) (a0_3 : Int) (a0_4 : Int) (a0_5 : Int) (a0_6 : Int) (a1 : Int) (a2 : Int) (a3 : Int) : Option (Int × Int) := (aircraft_Check.f k a0_0 a0_1 a0_2 a0_3 a0_4 a0_5 a0_6).bind fun t138 => (if t138 = 0 then (if a1 > a0_2 then (some (0, 20)) else (if a1 < 0 then (some (0, 4)) else (if a2 < 0 then (some (0, 4)) else (if a2 > 200000 then (some (0, 4)) else (if a3 < 0 then (some (0, 4)) else (if a3 > a2 then (some (0, 4)) else (some (mn (mn a1 (wrap64 (a0_3 * a3))) (wrap64 (a0_4 * (wrap64 (a2 - a3)))), 0)))))))) else (some (0, t138)))
theorem fly_Profile.mono : ∀ a0 a1 a2 a3 a4 a5 a6 a7 a8 a9 k, LeO (fly_Profile.f k a0 a1 a2 a3 a4 a5 a6 a7 a8 a9) (fly_Profile.f (k + 1) a0 a1 a2 a3 a4 a5 a6 a7 a8 a9) := by
  intro a0 a1 a2 a3 a4 a5 a6 a7 a8 a9 k
  unfold fly_Profile.f
  repeat' first
      | (with_reducible exact aircraft_Check.mono _ _ _ _ _ _ _ _)
      | (with_reducible exact LeO.refl _)
      | (with_reducible exact LeO.none _)
      | (with_reducible refine LeO.ite ?_ ?_)
      | (with_reducible refine LeO.bind ?_ (fun _ => ?_))
      | exact aircraft_Check.mono _ _ _ _ _ _ _ _
      | exact LeO.none _
      | refine LeO.ite ?_ ?_
      | refine LeO.bind ?_ (fun _ => ?_)
set_option maxHeartbeats 8000000 in
set_option maxRecDepth 100000 in
theorem fly_Profile.calls (k : Nat) (a0_0 : ByteArray) (a0_1 : Int) (a0_2 : Int) (a0_3 : Int) (a0_4 : Int) (a0_5 : Int) (a0_6 : Int) (a1 : Int) (a2 : Int) (a3 : Int) (r1 : Int) (r2 : Int) (w : World) (h : fly_Profile.f k a0_0 a0_1 a0_2 a0_3 a0_4 a0_5 a0_6 a1 a2 a3 = some (r1, r2)) :
    Calls Try.prog 41 #[.agg #[.string a0_0, .int .i64 a0_1, .int .i64 a0_2, .int .i64 a0_3, .int .i64 a0_4, .int .i64 a0_5, .int .i64 a0_6], .int .i64 a1, .int .i64 a2, .int .i64 a3] w fun e w' => e = .returned (.tuple #[.int .i64 r1, .int .i64 r2]) ∧ Below w.heap.size w w' := by
 have hu63 := Try.underlying63
 have HB := Aside0.mk (Below.refl w.heap.size w)
 have H : ((aircraft_Check.f k a0_0 a0_1 a0_2 a0_3 a0_4 a0_5 a0_6).bind fun t138 => (if t138 = 0 then (if a1 > a0_2 then (some (0, 20)) else (if a1 < 0 then (some (0, 4)) else (if a2 < 0 then (some (0, 4)) else (if a2 > 200000 then (some (0, 4)) else (if a3 < 0 then (some (0, 4)) else (if a3 > a2 then (some (0, 4)) else (some (mn (mn a1 (wrap64 (a0_3 * a3))) (wrap64 (a0_4 * (wrap64 (a2 - a3)))), 0)))))))) else (some (0, t138)))) = some (r1, r2) := h
 clear h
 replace H := Option.bind_eq_some_iff.mp H
 obtain ⟨t138, A50, H⟩ := H
 replace H : (if t138 = 0 then (if a1 > a0_2 then (some (0, 20)) else (if a1 < 0 then (some (0, 4)) else (if a2 < 0 then (some (0, 4)) else (if a2 > 200000 then (some (0, 4)) else (if a3 < 0 then (some (0, 4)) else (if a3 > a2 then (some (0, 4)) else (some (mn (mn a1 (wrap64 (a0_3 * a3))) (wrap64 (a0_4 * (wrap64 (a2 - a3)))), 0)))))))) else (some (0, t138))) = some (r1, r2) := H
 have A5 := Aside0.mk A50
 clear A50
 refine Or.elim (Classical.em (t138 = 0)) (fun c6 => ?p2_) (fun c6 => ?n2_)
 case' p2_ =>
  rw [if_pos c6] at H
  have c6b0 : (t138 == 0) = true := beq_iff_eq.mpr c6
  have c6b1 : (t138 != 0) = false := bne_eq_false_iff_eq.mpr c6
  clear c6
  refine Or.elim (Classical.em (a1 > a0_2)) (fun c7 => ?p3_) (fun c7 => ?n3_)
  case' p3_ =>
   rw [if_pos c7] at H
   have c7b0 : decide (a0_2 < a1) = true := decide_eq_true c7
   clear c7
   simp only [Option.some.injEq, Prod.mk.injEq] at H
   obtain ⟨rfl, rfl⟩ := H
   have hm1_0 := Aside0.mk trivial
  case' n3_ =>
   rw [if_neg c7] at H
   have c7b0 : decide (a0_2 < a1) = false := decide_eq_false c7
   clear c7
   refine Or.elim (Classical.em (a1 < 0)) (fun c12 => ?p4_) (fun c12 => ?n4_)
   case' p4_ =>
    rw [if_pos c12] at H
    have c12b0 : decide (a1 < 0) = true := decide_eq_true c12
    clear c12
    simp only [Option.some.injEq, Prod.mk.injEq] at H
    obtain ⟨rfl, rfl⟩ := H
    have hm1_0 := Aside0.mk trivial
   case' n4_ =>
    rw [if_neg c12] at H
    have c12b0 : decide (a1 < 0) = false := decide_eq_false c12
    clear c12
    refine Or.elim (Classical.em (a2 < 0)) (fun c17 => ?p5_) (fun c17 => ?n5_)
    case' p5_ =>
     rw [if_pos c17] at H
     have c17b0 : decide (a2 < 0) = true := decide_eq_true c17
     clear c17
     simp only [Option.some.injEq, Prod.mk.injEq] at H
     obtain ⟨rfl, rfl⟩ := H
     have hm1_0 := Aside0.mk trivial
    case' n5_ =>
     rw [if_neg c17] at H
     have c17b0 : decide (a2 < 0) = false := decide_eq_false c17
     clear c17
     refine Or.elim (Classical.em (a2 > 200000)) (fun c22 => ?p6_) (fun c22 => ?n6_)
     case' p6_ =>
      rw [if_pos c22] at H
      have c22b0 : decide (200000 < a2) = true := decide_eq_true c22
      clear c22
      simp only [Option.some.injEq, Prod.mk.injEq] at H
      obtain ⟨rfl, rfl⟩ := H
      have hm1_0 := Aside0.mk trivial
     case' n6_ =>
      rw [if_neg c22] at H
      have c22b0 : decide (200000 < a2) = false := decide_eq_false c22
      clear c22
      refine Or.elim (Classical.em (a3 < 0)) (fun c27 => ?p7_) (fun c27 => ?n7_)
      case' p7_ =>
       rw [if_pos c27] at H
       have c27b0 : decide (a3 < 0) = true := decide_eq_true c27
       clear c27
       simp only [Option.some.injEq, Prod.mk.injEq] at H
       obtain ⟨rfl, rfl⟩ := H
       have hm1_0 := Aside0.mk trivial
      case' n7_ =>
       rw [if_neg c27] at H
       have c27b0 : decide (a3 < 0) = false := decide_eq_false c27
       clear c27
       refine Or.elim (Classical.em (a3 > a2)) (fun c32 => ?p8_) (fun c32 => ?n8_)
       case' p8_ =>
        rw [if_pos c32] at H
        have c32b0 : decide (a2 < a3) = true := decide_eq_true c32
        clear c32
        simp only [Option.some.injEq, Prod.mk.injEq] at H
        obtain ⟨rfl, rfl⟩ := H
        have hm1_0 := Aside0.mk trivial
       case' n8_ =>
        rw [if_neg c32] at H
        have c32b0 : decide (a2 < a3) = false := decide_eq_false c32
        clear c32
        obtain ⟨ji37, hji37⟩ : ∃ j_ : Int, (mn a1 (wrap64 (a0_3 * a3))) = j_ := ⟨_, rfl⟩
        replace H : (some (mn (ji37) (wrap64 (a0_4 * (wrap64 (a2 - a3)))), 0)) = some (r1, r2) := by first | (rw [hji37] at H; exact H) | (simp only [hji37] at H ⊢; exact H)
        (try rw [hji37] at A5)
        have hji37_ : (if (wrap64 (a0_3 * a3)) < a1 then (wrap64 (a0_3 * a3)) else a1) = ji37 := hji37
        obtain ⟨ji38, hji38⟩ : ∃ j_ : Int, (mn (ji37) (wrap64 (a0_4 * (wrap64 (a2 - a3))))) = j_ := ⟨_, rfl⟩
        replace H : (some (ji38, 0)) = some (r1, r2) := by first | (rw [hji38] at H; exact H) | (simp only [hji38] at H ⊢; exact H)
        (try rw [hji38] at A5)
        have hji38_ : (if (wrap64 (a0_4 * (wrap64 (a2 - a3)))) < (ji37) then (wrap64 (a0_4 * (wrap64 (a2 - a3)))) else (ji37)) = ji38 := hji38
        simp only [Option.some.injEq, Prod.mk.injEq] at H
        obtain ⟨rfl, rfl⟩ := H
        have hm1_1 := Aside0.mk trivial
 case' n2_ =>
  rw [if_neg c6] at H
  have c6b0 : (t138 == 0) = false := beq_eq_false_iff_ne.mpr c6
  have c6b1 : (t138 != 0) = true := bne_iff_ne.mpr c6
  simp only [Option.some.injEq, Prod.mk.injEq] at H
  obtain ⟨rfl, rfl⟩ := H
  have hm1_0 := Aside0.mk trivial
 all_goals
  go_enter Try.func41, Try.ntmps41
  go_wp2_with (first | ((with_reducible refine gate_dst (N := 4) rfl ?_); refine box_event ?hg (N := 4) ?hd (cs := #[.string a0_0, .int .i64 a0_1, .int .i64 a0_2, .int .i64 a0_3, .int .i64 a0_4, .int .i64 a0_5, .int .i64 a0_6]) (t := 63) ?hr ?_; (case hd => rfl); (case hg => rfl); (case hr => first | (go_simp; done) | (go_simp; rfl)); intro gb137 hg wxfdb51 hbox hb; have n0_ := Aside0.mk (below_step (by repeat (first | (with_reducible first | exact HB.out | apply below_alloc | apply pw_below_drewN | apply below_drew1) | exact HB.out)) hb); have n1_ := Aside0.mk (hbox); have n2_ := Aside0.mk ((by rw [hg]; exact (below_size (by repeat (first | (with_reducible first | exact HB.out | apply below_alloc | apply pw_below_drewN | apply below_drew1) | exact HB.out))) : w.heap.size ≤ gb137)); have n3_ := Aside0.mk ((by rw [hg]; exact (below_size (by repeat (first | (with_reducible first | exact HB.out | apply below_alloc | apply pw_below_drewN | apply below_drew1) | exact HB.out))) : w.heap.size ≤ gb137)); clear HB; have HB := n0_; have BK137 := n1_; have GW137 := n2_; have GE137 := n3_; clear n0_ n1_ n2_ n3_; clear hb hbox hg; have hczxfdb51 : wxfdb51.cell? ⟨gb137, 0, none⟩ = some (.string a0_0) := (blk_cell BK137.out 0).trans rfl; have hczxfdb52 : wxfdb51.cell? ⟨gb137, 1, none⟩ = some (.int .i64 a0_1) := (blk_cell BK137.out 1).trans rfl; have hczxfdb53 : wxfdb51.cell? ⟨gb137, 2, none⟩ = some (.int .i64 a0_2) := (blk_cell BK137.out 2).trans rfl; have hczxfdb54 : wxfdb51.cell? ⟨gb137, 3, none⟩ = some (.int .i64 a0_3) := (blk_cell BK137.out 3).trans rfl; have hczxfdb55 : wxfdb51.cell? ⟨gb137, 4, none⟩ = some (.int .i64 a0_4) := (blk_cell BK137.out 4).trans rfl; have hczxfdb56 : wxfdb51.cell? ⟨gb137, 5, none⟩ = some (.int .i64 a0_5) := (blk_cell BK137.out 5).trans rfl; have hczxfdb57 : wxfdb51.cell? ⟨gb137, 6, none⟩ = some (.int .i64 a0_6) := (blk_cell BK137.out 6).trans rfl; have hfzxfdb51 := blk_frozen BK137.out 0; have hfzxfdb52 := blk_frozen BK137.out 1; have hfzxfdb53 := blk_frozen BK137.out 2; have hfzxfdb54 := blk_frozen BK137.out 3; have hfzxfdb55 := blk_frozen BK137.out 4; have hfzxfdb56 := blk_frozen BK137.out 5; have hfzxfdb57 := blk_frozen BK137.out 6) | ((with_reducible refine gate_callee (f := 62) rfl ?_); refine goesL_ (some 12) rfl rfl Try.func62 (by kernel_rfl) rfl #[.agg #[.string a0_0, .int .i64 a0_1, .int .i64 a0_2, .int .i64 a0_3, .int .i64 a0_4, .int .i64 a0_5, .int .i64 a0_6]] rfl (by (try simp only [List.map_toArray, List.map_cons, List.map_nil]); first | done | rfl | (simp only [List.length_drop, List.length_take]; rfl)) ?_; (with_reducible refine (aircraft_Check.calls k a0_0 a0_1 a0_2 a0_3 a0_4 a0_5 a0_6 t138 _ A5.out).mono ?_); rintro e wx30411 ⟨rfl, hb⟩; refine ⟨_, rfl, ?_⟩; have n0_ := Aside0.mk (blk_below (g := gb137) (o := .cells #[.string a0_0, .int .i64 a0_1, .int .i64 a0_2, .int .i64 a0_3, .int .i64 a0_4, .int .i64 a0_5, .int .i64 a0_6] 63 (0, 0)) (by (with_reducible repeat (first | refine blk_drewN ?_ _ | refine blk_drew ?_ | refine blk_alloc ?_ _)); exact BK137.out) hb); have n1_ := Aside0.mk (below_step (by repeat (first | (with_reducible first | exact HB.out | apply below_alloc | apply pw_below_drewN | apply below_drew1 | refine below_set ?_ GE137.out) | exact HB.out)) hb); clear BK137; clear HB; have BK137 := n0_; have HB := n1_; clear n0_ n1_; (try clear hb); (try clear hb2); (try clear hk); (try clear hi); have hczx30411 : wx30411.cell? ⟨gb137, 0, none⟩ = some (.string a0_0) := (blk_cell BK137.out 0).trans rfl; have hczx30412 : wx30411.cell? ⟨gb137, 1, none⟩ = some (.int .i64 a0_1) := (blk_cell BK137.out 1).trans rfl; have hczx30413 : wx30411.cell? ⟨gb137, 2, none⟩ = some (.int .i64 a0_2) := (blk_cell BK137.out 2).trans rfl; have hczx30414 : wx30411.cell? ⟨gb137, 3, none⟩ = some (.int .i64 a0_3) := (blk_cell BK137.out 3).trans rfl; have hczx30415 : wx30411.cell? ⟨gb137, 4, none⟩ = some (.int .i64 a0_4) := (blk_cell BK137.out 4).trans rfl; have hczx30416 : wx30411.cell? ⟨gb137, 5, none⟩ = some (.int .i64 a0_5) := (blk_cell BK137.out 5).trans rfl; have hczx30417 : wx30411.cell? ⟨gb137, 6, none⟩ = some (.int .i64 a0_6) := (blk_cell BK137.out 6).trans rfl; have hfzx30411 := blk_frozen BK137.out 0; have hfzx30412 := blk_frozen BK137.out 1; have hfzx30413 := blk_frozen BK137.out 2; have hfzx30414 := blk_frozen BK137.out 3; have hfzx30415 := blk_frozen BK137.out 4; have hfzx30416 := blk_frozen BK137.out 5; have hfzx30417 := blk_frozen BK137.out 6) | ((with_reducible refine gate_callee (f := 62) rfl ?_); refine goesL_ (some 12) rfl rfl Try.func62 (by kernel_rfl) rfl #[.agg #[.string a0_0, .int .i64 a0_1, .int .i64 a0_2, .int .i64 a0_3, .int .i64 a0_4, .int .i64 a0_5, .int .i64 a0_6]] rfl (by (try simp only [List.map_toArray, List.map_cons, List.map_nil]); first | done | rfl | (simp only [List.length_drop, List.length_take]; rfl)) ?_; (with_reducible refine (aircraft_Check.calls k a0_0 a0_1 a0_2 a0_3 a0_4 a0_5 a0_6 t138 _ A5.out).mono ?_); rintro e wx65101 ⟨rfl, hb⟩; refine ⟨_, rfl, ?_⟩; have n0_ := Aside0.mk (blk_below (g := gb137) (o := .cells #[.string a0_0, .int .i64 a0_1, .int .i64 a0_2, .int .i64 a0_3, .int .i64 a0_4, .int .i64 a0_5, .int .i64 a0_6] 63 (0, 0)) (by (with_reducible repeat (first | refine blk_drewN ?_ _ | refine blk_drew ?_ | refine blk_alloc ?_ _)); exact BK137.out) hb); have n1_ := Aside0.mk (below_step (by repeat (first | (with_reducible first | exact HB.out | apply below_alloc | apply pw_below_drewN | apply below_drew1 | refine below_set ?_ GE137.out) | exact HB.out)) hb); clear BK137; clear HB; have BK137 := n0_; have HB := n1_; clear n0_ n1_; (try clear hb); (try clear hb2); (try clear hk); (try clear hi)))
  go_ret2
  first
   | clear hm1_0
     exact ⟨by first | rfl | (simp [errW_none, errW_some] <;> rfl) | (simp [*, errW_none, errW_some] <;> rfl), by repeat (first | (with_reducible first | exact HB.out | apply below_alloc | apply pw_below_drewN | apply below_drew1 | refine below_set ?_ GE137.out) | exact HB.out)⟩
   | clear hm1_1
     exact ⟨by first | rfl | (simp [errW_none, errW_some] <;> rfl) | (simp only [← hji37, ← hji38]; first | rfl | (simp [errW_none, errW_some] <;> rfl)) | (simp [*, errW_none, errW_some] <;> rfl), by repeat (first | (with_reducible first | exact HB.out | apply below_alloc | apply pw_below_drewN | apply below_drew1 | refine below_set ?_ GE137.out) | exact HB.out)⟩

/-! ### skywaykeep1_jet: function 53 -/
def skywaykeep1_jet.f  : Option (ByteArray × Int × Int × Int × Int × Int × Int) := some ((⟨#[65, 51, 50, 48]⟩ : ByteArray), 1, 39000, 40, 50, 70, 250)
set_option maxHeartbeats 8000000 in
set_option maxRecDepth 100000 in
theorem skywaykeep1_jet.calls  (r1 : ByteArray) (r2 : Int) (r3 : Int) (r4 : Int) (r5 : Int) (r6 : Int) (r7 : Int) (w : World) (h : skywaykeep1_jet.f  = some (r1, r2, r3, r4, r5, r6, r7)) :
    Calls Try.prog 53 #[] w fun e w' => e = .returned (.agg #[.string r1, .int .i64 r2, .int .i64 r3, .int .i64 r4, .int .i64 r5, .int .i64 r6, .int .i64 r7]) ∧ Below w.heap.size w w' := by
 have hu63 := Try.underlying63
 have HB := Aside0.mk (Below.refl w.heap.size w)
 have H : (some ((⟨#[65, 51, 50, 48]⟩ : ByteArray), 1, 39000, 40, 50, 70, 250)) = some (r1, r2, r3, r4, r5, r6, r7) := h
 clear h
 simp only [Option.some.injEq, Prod.mk.injEq] at H
 obtain ⟨rfl, rfl, rfl, rfl, rfl, rfl, rfl⟩ := H
 go_enter Try.func53, Try.ntmps53
 go_wp2_with (first | ((with_reducible refine gate_dst (N := 0) rfl ?_); refine box_event ?hg (N := 0) ?hd (cs := #[.string (⟨#[]⟩ : ByteArray), .int .i64 0, .int .i64 0, .int .i64 0, .int .i64 0, .int .i64 0, .int .i64 0]) (t := 63) ?hr ?_; (case hd => rfl); (case hg => rfl); (case hr => first | (go_simp; done) | (go_simp; rfl)); intro gb139 hg w1 hbox hb; have n0_ := Aside0.mk (below_step (by repeat (first | (with_reducible first | exact HB.out | apply below_alloc | apply pw_below_drewN | apply below_drew1) | exact HB.out)) hb); have n1_ := Aside0.mk (hbox); have n2_ := Aside0.mk ((by rw [hg]; exact (below_size (by repeat (first | (with_reducible first | exact HB.out | apply below_alloc | apply pw_below_drewN | apply below_drew1) | exact HB.out))) : w.heap.size ≤ gb139)); have n3_ := Aside0.mk ((by rw [hg]; exact (below_size (by repeat (first | (with_reducible first | exact HB.out | apply below_alloc | apply pw_below_drewN | apply below_drew1) | exact HB.out))) : w.heap.size ≤ gb139)); clear HB; have HB := n0_; have BK139 := n1_; have GW139 := n2_; have GE139 := n3_; clear n0_ n1_ n2_ n3_; clear hb hbox hg; have hcz2_0 : w1.cell? ⟨gb139, 0, none⟩ = some (.string (⟨#[]⟩ : ByteArray)) := (blk_cell BK139.out 0).trans rfl; have hcz2_1 : w1.cell? ⟨gb139, 1, none⟩ = some (.int .i64 0) := (blk_cell BK139.out 1).trans rfl; have hcz2_2 : w1.cell? ⟨gb139, 2, none⟩ = some (.int .i64 0) := (blk_cell BK139.out 2).trans rfl; have hcz2_3 : w1.cell? ⟨gb139, 3, none⟩ = some (.int .i64 0) := (blk_cell BK139.out 3).trans rfl; have hcz2_4 : w1.cell? ⟨gb139, 4, none⟩ = some (.int .i64 0) := (blk_cell BK139.out 4).trans rfl; have hcz2_5 : w1.cell? ⟨gb139, 5, none⟩ = some (.int .i64 0) := (blk_cell BK139.out 5).trans rfl; have hcz2_6 : w1.cell? ⟨gb139, 6, none⟩ = some (.int .i64 0) := (blk_cell BK139.out 6).trans rfl; have hfz2_0 := blk_frozen BK139.out 0; have hfz2_1 := blk_frozen BK139.out 1; have hfz2_2 := blk_frozen BK139.out 2; have hfz2_3 := blk_frozen BK139.out 3; have hfz2_4 := blk_frozen BK139.out 4; have hfz2_5 := blk_frozen BK139.out 5; have hfz2_6 := blk_frozen BK139.out 6))
 refine bodyPost_ret (results_cell_row rfl _ _ gb139 63 #[.string (⟨#[65, 51, 50, 48]⟩ : ByteArray), .int .i64 1, .int .i64 39000, .int .i64 40, .int .i64 50, .int .i64 70, .int .i64 250] (0, 0) _ rfl (by (with_reducible repeat (first | refine blk_drewN ?_ _ | refine blk_drew ?_ | refine blk_alloc ?_ _)); refine blk_put (cs := #[.string (⟨#[65, 51, 50, 48]⟩ : ByteArray), .int .i64 1, .int .i64 39000, .int .i64 40, .int .i64 50, .int .i64 70, .int .i64 0]) ?_ 6 _ rfl; (with_reducible repeat (first | refine blk_drewN ?_ _ | refine blk_drew ?_ | refine blk_alloc ?_ _)); refine blk_put (cs := #[.string (⟨#[65, 51, 50, 48]⟩ : ByteArray), .int .i64 1, .int .i64 39000, .int .i64 40, .int .i64 50, .int .i64 0, .int .i64 0]) ?_ 5 _ rfl; (with_reducible repeat (first | refine blk_drewN ?_ _ | refine blk_drew ?_ | refine blk_alloc ?_ _)); refine blk_put (cs := #[.string (⟨#[65, 51, 50, 48]⟩ : ByteArray), .int .i64 1, .int .i64 39000, .int .i64 40, .int .i64 0, .int .i64 0, .int .i64 0]) ?_ 4 _ rfl; (with_reducible repeat (first | refine blk_drewN ?_ _ | refine blk_drew ?_ | refine blk_alloc ?_ _)); refine blk_put (cs := #[.string (⟨#[65, 51, 50, 48]⟩ : ByteArray), .int .i64 1, .int .i64 39000, .int .i64 0, .int .i64 0, .int .i64 0, .int .i64 0]) ?_ 3 _ rfl; (with_reducible repeat (first | refine blk_drewN ?_ _ | refine blk_drew ?_ | refine blk_alloc ?_ _)); refine blk_put (cs := #[.string (⟨#[65, 51, 50, 48]⟩ : ByteArray), .int .i64 1, .int .i64 0, .int .i64 0, .int .i64 0, .int .i64 0, .int .i64 0]) ?_ 2 _ rfl; (with_reducible repeat (first | refine blk_drewN ?_ _ | refine blk_drew ?_ | refine blk_alloc ?_ _)); refine blk_put (cs := #[.string (⟨#[65, 51, 50, 48]⟩ : ByteArray), .int .i64 0, .int .i64 0, .int .i64 0, .int .i64 0, .int .i64 0, .int .i64 0]) ?_ 1 _ rfl; (with_reducible repeat (first | refine blk_drewN ?_ _ | refine blk_drew ?_ | refine blk_alloc ?_ _)); refine blk_put (cs := #[.string (⟨#[]⟩ : ByteArray), .int .i64 0, .int .i64 0, .int .i64 0, .int .i64 0, .int .i64 0, .int .i64 0]) ?_ 0 _ rfl; (with_reducible repeat (first | refine blk_drewN ?_ _ | refine blk_drew ?_ | refine blk_alloc ?_ _)); exact BK139.out) Try.underlying63 rfl (by kernel_rfl)) rfl ?_
 exact ⟨by first | rfl | (simp [errW_none, errW_some] <;> rfl) | (simp [*, errW_none, errW_some] <;> rfl), by repeat (first | (with_reducible first | exact HB.out | apply below_alloc | apply pw_below_drewN | apply below_drew1 | refine below_set ?_ GE139.out) | exact HB.out)⟩

end Go.Proofs.Ytaahnfajcbkknaa.PFlyProfile
