/- Made by a program of this session (wip/tools/myprint.py, over the kit's printer): that the Go functions answer as the Lean functions printed beside them. -/
import Derived.Test.YtbpbpojnfhhbjaaTSq
import Derived.Test.YtbpbpojnfhhbjaaPRouteLengthx0
import Derived.Test.YtbpbpojnfhhbjaaPRouteLengthx2
import Derived.Test.YtbpbpojnfhhbjaaPRouteLengthx5
namespace Go.Proofs.Ytbpbpojnfhhbjaa.PRouteLength
open Go.RowKit Go.Proofs.YtbpbpojnfhhbjaaW.PrintWords Go.Proofs.YtbpbpojnfhhbjaaW.PrintLast Go.Proofs.YtbpbpojnfhhbjaaW.PrintMore
attribute [local go_sem] max2_int min2_int max_two min_two max_three min_three max_four min_four   -- for this text's walks alone
set_option linter.unusedVariables false
set_option linter.unusedSimpArgs false

/-! ### plantext_Check: function 63 -/
mutual
def plantext_Check.l0 : Nat → List ByteArray → Int → Int → ByteArray → ByteArray → ByteArray → ByteArray → Int → Int → Int → List ByteArray → Option (Int)
  | 0, _, _, _, _, _, _, _, _, _, _, _ => none
  | k + 1, x13, x14, x15, x158000, x158001, x158002, x158003, x158004, x158005, x158006, x158007 => if x15 < x14 then (if 0 ≤ x15 then (if x15 < (x13.length : Int) then ((chart_Name.f k (rdOf ByteArray.empty x13 x15)).bind fun t162 => (if t162 = true then (plantext_Check.l0 k x13 x14 (wrap64 (x15 + 1)) x158000 x158001 x158002 x158003 x158004 x158005 x158006 x158007) else (some 5))) else (none)) else (none)) else (if x158004 < 0 then (plantext_Check.j1 k true x158000 x158001 x158002 x158003 x158004 x158005 x158006 x158007) else (plantext_Check.j1 k (decide (x158004 > 200000)) x158000 x158001 x158002 x158003 x158004 x158005 x158006 x158007))
def plantext_Check.j1 : Nat → Bool → ByteArray → ByteArray → ByteArray → ByteArray → Int → Int → Int → List ByteArray → Option (Int)
  | 0, _, _, _, _, _, _, _, _, _ => none
  | k + 1, x23, x158000, x158001, x158002, x158003, x158004, x158005, x158006, x158007 => if x23 = true then (some 12) else (if x158005 < 1 then (plantext_Check.j2 k true x158000 x158001 x158002 x158003 x158004 x158005 x158006 x158007) else (if x158005 > 400 then (plantext_Check.j2 k true x158000 x158001 x158002 x158003 x158004 x158005 x158006 x158007) else (if x158006 < 1 then (plantext_Check.j2 k true x158000 x158001 x158002 x158003 x158004 x158005 x158006 x158007) else (plantext_Check.j2 k (decide (x158006 > 60000)) x158000 x158001 x158002 x158003 x158004 x158005 x158006 x158007))))
def plantext_Check.j2 : Nat → Bool → ByteArray → ByteArray → ByteArray → ByteArray → Int → Int → Int → List ByteArray → Option (Int)
  | 0, _, _, _, _, _, _, _, _, _ => none
  | k + 1, x32, x158000, x158001, x158002, x158003, x158004, x158005, x158006, x158007 => if x32 = true then (some 4) else (if (x158007.length : Int) > 24 then (some 2) else ((slices_ContainsFunc_string_string.f x158007 (plantext_Check_1.p)).bind fun t163 => (if t163 = true then (some 5) else (some 0))))
end
def plantext_Check.f (k : Nat) (a0_0 : ByteArray) (a0_1 : ByteArray) (a0_2 : ByteArray) (a0_3 : ByteArray) (a0_4 : Int) (a0_5 : Int) (a0_6 : Int) (l0_7 : List ByteArray) : Option (Int) := (some (([a0_0, a0_1, a0_2, a0_3] : List ByteArray) : List ByteArray)).bind fun y158 => (plantext_Check.l0 k y158 (y158.length : Int) 0 a0_0 a0_1 a0_2 a0_3 a0_4 a0_5 a0_6 l0_7)
theorem plantext_Check.mono_l : ∀ k, (∀ y0 y1 y2 y3 y4 y5 y6 y7 y8 y9 y10, LeO (plantext_Check.l0 k y0 y1 y2 y3 y4 y5 y6 y7 y8 y9 y10) (plantext_Check.l0 (k + 1) y0 y1 y2 y3 y4 y5 y6 y7 y8 y9 y10)) ∧ (∀ y0 y1 y2 y3 y4 y5 y6 y7 y8, LeO (plantext_Check.j1 k y0 y1 y2 y3 y4 y5 y6 y7 y8) (plantext_Check.j1 (k + 1) y0 y1 y2 y3 y4 y5 y6 y7 y8)) ∧ (∀ y0 y1 y2 y3 y4 y5 y6 y7 y8, LeO (plantext_Check.j2 k y0 y1 y2 y3 y4 y5 y6 y7 y8) (plantext_Check.j2 (k + 1) y0 y1 y2 y3 y4 y5 y6 y7 y8))
  | 0 => ⟨fun _ _ _ _ _ _ _ _ _ _ _ r h => by simp [plantext_Check.l0] at h, fun _ _ _ _ _ _ _ _ _ r h => by simp [plantext_Check.j1] at h, fun _ _ _ _ _ _ _ _ _ r h => by simp [plantext_Check.j2] at h⟩
  | k + 1 => by
    obtain ⟨ih0, ih1, ih2⟩ := plantext_Check.mono_l k
    refine ⟨?_, ?_, ?_⟩
    · intro y0 y1 y2 y3 y4 y5 y6 y7 y8 y9 y10
      unfold plantext_Check.l0
      repeat' first
      | (with_reducible exact ih0 _ _ _ _ _ _ _ _ _ _ _)
      | (with_reducible exact ih1 _ _ _ _ _ _ _ _ _)
      | (with_reducible exact ih2 _ _ _ _ _ _ _ _ _)
      | (with_reducible exact chart_Name.mono _ _)
      | (with_reducible exact LeO.refl _)
      | (with_reducible exact LeO.none _)
      | (with_reducible refine LeO.ite ?_ ?_)
      | (with_reducible refine LeO.bind ?_ (fun _ => ?_))
      | exact ih0 _ _ _ _ _ _ _ _ _ _ _
      | exact ih1 _ _ _ _ _ _ _ _ _
      | exact ih2 _ _ _ _ _ _ _ _ _
      | exact chart_Name.mono _ _
      | exact LeO.none _
      | refine LeO.ite ?_ ?_
      | refine LeO.bind ?_ (fun _ => ?_)
    · intro y0 y1 y2 y3 y4 y5 y6 y7 y8
      unfold plantext_Check.j1
      repeat' first
      | (with_reducible exact ih0 _ _ _ _ _ _ _ _ _ _ _)
      | (with_reducible exact ih1 _ _ _ _ _ _ _ _ _)
      | (with_reducible exact ih2 _ _ _ _ _ _ _ _ _)
      | (with_reducible exact chart_Name.mono _ _)
      | (with_reducible exact LeO.refl _)
      | (with_reducible exact LeO.none _)
      | (with_reducible refine LeO.ite ?_ ?_)
      | (with_reducible refine LeO.bind ?_ (fun _ => ?_))
      | exact ih0 _ _ _ _ _ _ _ _ _ _ _
      | exact ih1 _ _ _ _ _ _ _ _ _
      | exact ih2 _ _ _ _ _ _ _ _ _
      | exact chart_Name.mono _ _
      | exact LeO.none _
      | refine LeO.ite ?_ ?_
      | refine LeO.bind ?_ (fun _ => ?_)
    · intro y0 y1 y2 y3 y4 y5 y6 y7 y8
      unfold plantext_Check.j2
      repeat' first
      | (with_reducible exact ih0 _ _ _ _ _ _ _ _ _ _ _)
      | (with_reducible exact ih1 _ _ _ _ _ _ _ _ _)
      | (with_reducible exact ih2 _ _ _ _ _ _ _ _ _)
      | (with_reducible exact chart_Name.mono _ _)
      | (with_reducible exact LeO.refl _)
      | (with_reducible exact LeO.none _)
      | (with_reducible refine LeO.ite ?_ ?_)
      | (with_reducible refine LeO.bind ?_ (fun _ => ?_))
      | exact ih0 _ _ _ _ _ _ _ _ _ _ _
      | exact ih1 _ _ _ _ _ _ _ _ _
      | exact ih2 _ _ _ _ _ _ _ _ _
      | exact chart_Name.mono _ _
      | exact LeO.none _
      | refine LeO.ite ?_ ?_
      | refine LeO.bind ?_ (fun _ => ?_)
theorem plantext_Check.mono : ∀ a0 a1 a2 a3 a4 a5 a6 a7 k, LeO (plantext_Check.f k a0 a1 a2 a3 a4 a5 a6 a7) (plantext_Check.f (k + 1) a0 a1 a2 a3 a4 a5 a6 a7) := by
  intro a0 a1 a2 a3 a4 a5 a6 a7 k
  obtain ⟨ih0, ih1, ih2⟩ := plantext_Check.mono_l k
  unfold plantext_Check.f
  repeat' first
      | (with_reducible exact ih0 _ _ _ _ _ _ _ _ _ _ _)
      | (with_reducible exact ih1 _ _ _ _ _ _ _ _ _)
      | (with_reducible exact ih2 _ _ _ _ _ _ _ _ _)
      | (with_reducible exact chart_Name.mono _ _)
      | (with_reducible exact LeO.refl _)
      | (with_reducible exact LeO.none _)
      | (with_reducible refine LeO.ite ?_ ?_)
      | (with_reducible refine LeO.bind ?_ (fun _ => ?_))
      | exact ih0 _ _ _ _ _ _ _ _ _ _ _
      | exact ih1 _ _ _ _ _ _ _ _ _
      | exact ih2 _ _ _ _ _ _ _ _ _
      | exact chart_Name.mono _ _
      | exact LeO.none _
      | refine LeO.ite ?_ ?_
      | refine LeO.bind ?_ (fun _ => ?_)
set_option maxHeartbeats 8000000 in
set_option maxRecDepth 100000 in
theorem plantext_Check.calls (k : Nat) (a0_0 : ByteArray) (a0_1 : ByteArray) (a0_2 : ByteArray) (a0_3 : ByteArray) (a0_4 : Int) (a0_5 : Int) (a0_6 : Int) (A0_7 : Option Addr) (c0_7 : Nat) (l0_7 : List ByteArray) (r : Int) (w : World) (hr0_7 : Kd.C Kd.string w A0_7 l0_7.length l0_7) (hc0_7 : l0_7.length ≤ c0_7) (h : plantext_Check.f k a0_0 a0_1 a0_2 a0_3 a0_4 a0_5 a0_6 l0_7 = some r) :
    Calls Try.prog 63 #[.agg #[.string a0_0, .string a0_1, .string a0_2, .string a0_3, .int .i64 a0_4, .int .i64 a0_5, .int .i64 a0_6, .slice A0_7 l0_7.length c0_7]] w fun e w' => e = .returned (.int .i64 r) ∧ Below w.heap.size w w' := by
 have hu51 := Try.underlying51
 have HR0_7 := Aside0.mk hr0_7
 have HC0_7 := Aside0.mk hc0_7
 clear hr0_7 hc0_7
 have HB := Aside0.mk (Below.refl w.heap.size w)
 have H : ((some (([a0_0, a0_1, a0_2, a0_3] : List ByteArray) : List ByteArray)).bind fun y158 => (plantext_Check.l0 k y158 (y158.length : Int) 0 a0_0 a0_1 a0_2 a0_3 a0_4 a0_5 a0_6 l0_7)) = some r := h
 clear h
 obtain ⟨y158, hy158⟩ : ∃ y_ : List ByteArray, y_ = (([a0_0, a0_1, a0_2, a0_3] : List ByteArray)) := ⟨_, rfl⟩
 replace H : (plantext_Check.l0 k y158 (y158.length : Int) 0 a0_0 a0_1 a0_2 a0_3 a0_4 a0_5 a0_6 l0_7) = some r := by first | (rw [hy158]; with_reducible exact H) | (have H2_ := (Option.bind_some _ _).symm.trans H; rw [hy158]; with_reducible exact H2_) | (have H2_ := (Option.bind_some _ _).symm.trans H; with_reducible exact H2_) | with_reducible exact H | (rw [hy158]; exact H) | exact H
 have Ny158 := Aside0.mk hy158
 clear hy158
 have H' := Aside0.mk H
 clear H
 go_enter Try.func63, Try.ntmps63
 go_wp2_with (first | ((with_reducible refine gate_dst (N := 1) rfl ?_); refine box_event ?hg (N := 1) ?hd (cs := #[.string a0_0, .string a0_1, .string a0_2, .string a0_3, .int .i64 a0_4, .int .i64 a0_5, .int .i64 a0_6, .slice A0_7 l0_7.length c0_7]) (t := 51) ?hr ?_; (case hd => rfl); (case hg => rfl); (case hr => first | (go_simp; done) | (go_simp; rfl)); intro gb157 hg w2 hbox hb; have n0_ := Aside0.mk (below_step bel_s hb); have n1_ := Aside0.mk (hbox); have n2_ := Aside0.mk ((by rw [hg]; exact (below_size bel_s) : w.heap.size ≤ gb157)); have n3_ := Aside0.mk ((by rw [hg]; exact (below_size bel_s) : w.heap.size ≤ gb157)); clear HB; have HB := n0_; have BK157 := n1_; have GW157 := n2_; have GE157 := n3_; clear n0_ n1_ n2_ n3_; clear hb hbox hg; have hcz3_0 : w2.cell? ⟨gb157, 0, none⟩ = some (.string a0_0) := (blk_cell BK157.out 0).trans rfl; have hcz3_1 : w2.cell? ⟨gb157, 1, none⟩ = some (.string a0_1) := (blk_cell BK157.out 1).trans rfl; have hcz3_2 : w2.cell? ⟨gb157, 2, none⟩ = some (.string a0_2) := (blk_cell BK157.out 2).trans rfl; have hcz3_3 : w2.cell? ⟨gb157, 3, none⟩ = some (.string a0_3) := (blk_cell BK157.out 3).trans rfl; have hcz3_4 : w2.cell? ⟨gb157, 4, none⟩ = some (.int .i64 a0_4) := (blk_cell BK157.out 4).trans rfl; have hcz3_5 : w2.cell? ⟨gb157, 5, none⟩ = some (.int .i64 a0_5) := (blk_cell BK157.out 5).trans rfl; have hcz3_6 : w2.cell? ⟨gb157, 6, none⟩ = some (.int .i64 a0_6) := (blk_cell BK157.out 6).trans rfl; have hcz3_7 : w2.cell? ⟨gb157, 7, none⟩ = some (.slice A0_7 l0_7.length c0_7) := (blk_cell BK157.out 7).trans rfl; have hfz3_0 := blk_frozen BK157.out 0; have hfz3_1 := blk_frozen BK157.out 1; have hfz3_2 := blk_frozen BK157.out 2; have hfz3_3 := blk_frozen BK157.out 3; have hfz3_4 := blk_frozen BK157.out 4; have hfz3_5 := blk_frozen BK157.out 5; have hfz3_6 := blk_frozen BK157.out 6; have hfz3_7 := blk_frozen BK157.out 7) | ((with_reducible refine gate_dst (N := 13) rfl ?_); refine Kd.R_lit Kd.string _ 9 ?hg (N := 13) ?hd (xs := ([a0_0, a0_1, a0_2, a0_3] : List ByteArray)) (inner := [.string a0_0, .string a0_1, .string a0_2, .string a0_3]) (ok := fun _ => True) (okp := fun _ => True) ?hr ?hp (fun _ hk => hk) trivial (Below.refl _ _) (Nat.le_refl _) (by simp) ?_; (case hd => rfl); (case hg => rfl); (case hr => first | (go_simp; done) | (go_simp; rfl)); (case hp => exact (Reps.one (show Kd.M Kd.string _ _ _ a0_0 [.string a0_0] from rfl) (Reps.one (show Kd.M Kd.string _ _ _ a0_1 [.string a0_1] from rfl) (Reps.one (show Kd.M Kd.string _ _ _ a0_2 [.string a0_2] from rfl) (Reps.one (show Kd.M Kd.string _ _ _ a0_3 [.string a0_3] from rfl) (Reps.none _ _)))))); intro v159 w4 ho5 hb hg_ hnew_; clear hg_ hnew_; (first | rw [← Ny158.out] at ho5 | (simp only [Int.reduceToNat] at ho5; rw [← Ny158.out] at ho5)); have n0_ := Aside0.mk (Kd.R_lower ho5 (below_size bel_s)); have n1_ := Aside0.mk (blk_below (g := gb157) (o := .cells #[.string a0_0, .string a0_1, .string a0_2, .string a0_3, .int .i64 a0_4, .int .i64 a0_5, .int .i64 a0_6, .slice A0_7 l0_7.length c0_7] 51 (0, 0)) blk_s hb); have n2_ := Aside0.mk (below_step bel_s hb); clear BK157; clear HB; have HO160 := n0_; have BK157 := n1_; have HB := n2_; clear n0_ n1_ n2_; clear hb ho5; obtain ⟨Ao6, co6, eo6⟩ := Kd.R_slice HO160.out; subst eo6))
 go_loopg [15] k (fun kq v15 w' => ∃ (x15_1 : Int), v15 = .int .i64 x15_1 ∧ Aside0 (plantext_Check.l0 kq y158 (y158.length : Int) x15_1 a0_0 a0_1 a0_2 a0_3 a0_4 a0_5 a0_6 l0_7 = some r) ∧ Aside0 (kq ≤ k) ∧ Aside0 (Kd.R Kd.string 9 w' w.heap.size (fun _ => True) (.slice Ao6 y158.length co6) y158) ∧ Aside0 (w'.heap[gb157]? = some (.cells #[.string a0_0, .string a0_1, .string a0_2, .string a0_3, .int .i64 a0_4, .int .i64 a0_5, .int .i64 a0_6, (.slice A0_7 l0_7.length c0_7)] 51 (0, 0))) ∧ Aside0 (Below w.heap.size w w'))
 case atStart => exact ⟨(0), (by first | rfl | (simp; done) | (simp [*]; done)), H', ⟨Nat.le_refl _⟩, ⟨by (with_reducible repeat (first | apply Kd.R_alloc | apply Kd.R_drewN | apply Kd.R_drew)); exact HO160.out⟩, ⟨by (with_reducible repeat (first | refine blk_drewN ?_ _ | refine blk_drew ?_ | refine blk_alloc ?_ _)); exact BK157.out⟩, ⟨by repeat (first | (with_reducible first | exact HB.out | apply below_alloc | apply pw_below_drewN | apply below_drew1 | refine below_set ?_ GE157.out) | exact HB.out)⟩⟩
 case round =>
  clear H'
  (try clear p2); (try clear c6); (try clear hcz3_0); (try clear hcz3_1); (try clear hcz3_2); (try clear hcz3_3); (try clear hcz3_4); (try clear hcz3_5); (try clear hcz3_6); (try clear hcz3_7); (try clear hfz3_0); (try clear hfz3_1); (try clear hfz3_2); (try clear hfz3_3); (try clear hfz3_4); (try clear hfz3_5); (try clear hfz3_6); (try clear hfz3_7)
  obtain ⟨x15_1, rfl, HA, HK1, HO_13, BK157, HB⟩ := hrel
  cases gk with
  | zero => exact absurd HA.out (by simp [plantext_Check.l0])
  | succ k1 =>
   have H := HA.out
   clear HA
   simp only [plantext_Check.l0] at H
   by_cases c7 : x15_1 < (y158.length : Int)
   · rw [if_pos c7] at H
     have c7b0 : decide (x15_1 < (y158.length : Int)) = true := decide_eq_true c7
     clear c7
     by_cases c8 : 0 ≤ x15_1
     · rw [if_pos c8] at H
       have c8b0 : decide (0 ≤ x15_1) = true := decide_eq_true c8
       clear c8
       by_cases c9 : x15_1 < (y158.length : Int)
       · rw [if_pos c9] at H
         have c9b0 : decide (x15_1 < (y158.length : Int)) = true := decide_eq_true c9
         clear c9
         replace H := Option.bind_eq_some_iff.mp H
         obtain ⟨t162, A100, H⟩ := H
         replace H : (if t162 = true then (plantext_Check.l0 k1 y158 (y158.length : Int) (wrap64 (x15_1 + 1)) a0_0 a0_1 a0_2 a0_3 a0_4 a0_5 a0_6 l0_7) else (some 5)) = some r := H
         have A10 := Aside0.mk A100
         clear A100
         by_cases c11 : t162 = true
         · subst c11
           have H1 : (plantext_Check.l0 k1 y158 (y158.length : Int) (wrap64 (x15_1 + 1)) a0_0 a0_1 a0_2 a0_3 a0_4 a0_5 a0_6 l0_7) = some r := by rw [if_pos rfl] at H; exact H
           clear H
           have H := H1
           clear H1
           have H' := Aside0.mk H
           clear H
           have p161 : 0 ≤ (x15_1 : Int) := of_decide_eq_true (by first | (with_reducible assumption) | assumption)
           have q161 : x15_1 < (y158.length : Int) := of_decide_eq_true (by first | (with_reducible assumption) | assumption)
           obtain ⟨ad161, e161, hx161_0⟩ := Kd.at_string (Kd.R_reads' HO_13.out).2.2 x15_1 p161 q161
           cases e161
           replace p161 := eq_true p161
           replace q161 := eq_true q161
           go_wp2_with (first | ((with_reducible refine gate_callee (f := 48) rfl ?_); refine goesL_ (some 20) rfl rfl Try.func48 (by kernel_rfl) rfl #[.string (rdOf ByteArray.empty y158 x15_1)] rfl any_s ?_; (with_reducible refine (chart_Name.calls k1 (rdOf ByteArray.empty y158 x15_1) true _ A10.out).mono ?_); rintro e wx3abf1 ⟨rfl, hb⟩; refine ⟨_, rfl, ?_⟩; have n0_ := Aside0.mk (Kd.R_below (by (with_reducible repeat (first | apply Kd.R_alloc | apply Kd.R_drewN | apply Kd.R_drew)); exact HO_13.out) hb); have n1_ := Aside0.mk (blk_below (g := gb157) (o := .cells #[.string a0_0, .string a0_1, .string a0_2, .string a0_3, .int .i64 a0_4, .int .i64 a0_5, .int .i64 a0_6, .slice A0_7 l0_7.length c0_7] 51 (0, 0)) blk_s hb); have n2_ := Aside0.mk (below_step bel_s hb); clear HO_13; clear BK157; clear HB; have HO_13 := n0_; have BK157 := n1_; have HB := n2_; clear n0_ n1_ n2_; (try clear hb); (try clear hb2); (try clear hk); (try clear hi)))
           go_roundg k1
           case measure => have := HK1.out; omega
           case rel => exact ⟨(wrap64 (x15_1 + 1)), (by first | rfl | (simp; done) | (simp [*]; done)), H', ⟨by have := HK1.out; omega⟩, ⟨by (with_reducible repeat (first | apply Kd.R_alloc | apply Kd.R_drewN | apply Kd.R_drew)); exact HO_13.out⟩, ⟨by (with_reducible repeat (first | refine blk_drewN ?_ _ | refine blk_drew ?_ | refine blk_alloc ?_ _)); exact BK157.out⟩, ⟨by repeat (first | (with_reducible first | exact HB.out | apply below_alloc | apply pw_below_drewN | apply below_drew1 | refine below_set ?_ GE157.out) | exact HB.out)⟩⟩
         · replace c11 := Bool.eq_false_iff.mpr c11
           subst c11
           have H1 : (some 5) = some r := by rw [if_neg (show ¬ (false = true) by decide)] at H; exact H
           clear H
           have H := H1
           clear H1
           obtain rfl := Option.some.inj H
           have p161 : 0 ≤ (x15_1 : Int) := of_decide_eq_true (by first | (with_reducible assumption) | assumption)
           have q161 : x15_1 < (y158.length : Int) := of_decide_eq_true (by first | (with_reducible assumption) | assumption)
           obtain ⟨ad161, e161, hx161_0⟩ := Kd.at_string (Kd.R_reads' HO_13.out).2.2 x15_1 p161 q161
           cases e161
           replace p161 := eq_true p161
           replace q161 := eq_true q161
           go_wp2_with (first | ((with_reducible refine gate_callee (f := 48) rfl ?_); refine goesL_ (some 20) rfl rfl Try.func48 (by kernel_rfl) rfl #[.string (rdOf ByteArray.empty y158 x15_1)] rfl any_s ?_; (with_reducible refine (chart_Name.calls k1 (rdOf ByteArray.empty y158 x15_1) false _ A10.out).mono ?_); rintro e wx4bd71 ⟨rfl, hb⟩; refine ⟨_, rfl, ?_⟩; have n0_ := Aside0.mk (Kd.R_below (by (with_reducible repeat (first | apply Kd.R_alloc | apply Kd.R_drewN | apply Kd.R_drew)); exact HO_13.out) hb); have n1_ := Aside0.mk (blk_below (g := gb157) (o := .cells #[.string a0_0, .string a0_1, .string a0_2, .string a0_3, .int .i64 a0_4, .int .i64 a0_5, .int .i64 a0_6, .slice A0_7 l0_7.length c0_7] 51 (0, 0)) blk_s hb); have n2_ := Aside0.mk (below_step bel_s hb); clear HO_13; clear BK157; clear HB; have HO_13 := n0_; have BK157 := n1_; have HB := n2_; clear n0_ n1_ n2_; (try clear hb); (try clear hb2); (try clear hk); (try clear hi)))
           go_ret
           exact ⟨by first | rfl | (simp [errW_none, errW_some] <;> rfl) | (simp [*, errW_none, errW_some] <;> rfl), by repeat (first | (with_reducible first | exact HB.out | apply below_alloc | apply pw_below_drewN | apply below_drew1 | refine below_set ?_ GE157.out) | exact HB.out)⟩
       · rw [if_neg c9] at H
         exact absurd H (by simp)
     · rw [if_neg c8] at H
       exact absurd H (by simp)
   · rw [if_neg c7] at H
     have c7b0 : decide (x15_1 < (y158.length : Int)) = false := decide_eq_false c7
     clear c7
     have HC14 := Aside0.mk H
     clear H
     go_upto_region 7 with (fail)
     go_cut [23] (fun v23 wc => ∃ (kq : Nat) (x23_13 : Bool), v23 = .bool x23_13 ∧ Aside0 (plantext_Check.j1 kq x23_13 a0_0 a0_1 a0_2 a0_3 a0_4 a0_5 a0_6 l0_7 = some r) ∧ Aside0 (kq ≤ k1) ∧ Aside0 (wc.heap[gb157]? = some (.cells #[.string a0_0, .string a0_1, .string a0_2, .string a0_3, .int .i64 a0_4, .int .i64 a0_5, .int .i64 a0_6, (.slice A0_7 l0_7.length c0_7)] 51 (0, 0))) ∧ Aside0 (Below w.heap.size w wc))
     case first =>
      have H := HC14.out
      clear HC14
      refine Or.elim (Classical.em (a0_4 < 0)) (fun c15 => ?p2_) (fun c15 => ?n2_)
      case' p2_ =>
       rw [if_pos c15] at H
       have c15b0 : decide (a0_4 < 0) = true := decide_eq_true c15
       clear c15
       (first | rw [c15b0] | (simp only [i64_w, i32_w]; rw [c15b0]) | skip)
      case' n2_ =>
       rw [if_neg c15] at H
       have c15b0 : decide (a0_4 < 0) = false := decide_eq_false c15
       clear c15
       (first | rw [c15b0] | (simp only [i64_w, i32_w]; rw [c15b0]) | skip)
      all_goals
       have H' := Aside0.mk H
       clear H
       have hczzd1 : wr.cell? ⟨gb157, 0, none⟩ = some (.string a0_0) := (blk_cell BK157.out 0).trans rfl
       have hczzd2 : wr.cell? ⟨gb157, 1, none⟩ = some (.string a0_1) := (blk_cell BK157.out 1).trans rfl
       have hczzd3 : wr.cell? ⟨gb157, 2, none⟩ = some (.string a0_2) := (blk_cell BK157.out 2).trans rfl
       have hczzd4 : wr.cell? ⟨gb157, 3, none⟩ = some (.string a0_3) := (blk_cell BK157.out 3).trans rfl
       have hczzd5 : wr.cell? ⟨gb157, 4, none⟩ = some (.int .i64 a0_4) := (blk_cell BK157.out 4).trans rfl
       have hczzd6 : wr.cell? ⟨gb157, 5, none⟩ = some (.int .i64 a0_5) := (blk_cell BK157.out 5).trans rfl
       have hczzd7 : wr.cell? ⟨gb157, 6, none⟩ = some (.int .i64 a0_6) := (blk_cell BK157.out 6).trans rfl
       have hczzd8 : wr.cell? ⟨gb157, 7, none⟩ = some (.slice A0_7 l0_7.length c0_7) := (blk_cell BK157.out 7).trans rfl
       have hfzzd1 := blk_frozen BK157.out 0
       have hfzzd2 := blk_frozen BK157.out 1
       have hfzzd3 := blk_frozen BK157.out 2
       have hfzzd4 := blk_frozen BK157.out 3
       have hfzzd5 := blk_frozen BK157.out 4
       have hfzzd6 := blk_frozen BK157.out 5
       have hfzzd7 := blk_frozen BK157.out 6
       have hfzzd8 := blk_frozen BK157.out 7
       go_wp2
       go_meet
       case rel => first | (exact ⟨_, (true), (by first | rfl | (simp; done) | (simp [*]; done)), H', ⟨by have := HK1.out; first | omega | exact Nat.le_refl _⟩, ⟨by (with_reducible repeat (first | refine blk_drewN ?_ _ | refine blk_drew ?_ | refine blk_alloc ?_ _)); exact BK157.out⟩, ⟨by repeat (first | (with_reducible first | exact HB.out | apply below_alloc | apply pw_below_drewN | apply below_drew1 | refine below_set ?_ GE157.out) | exact HB.out)⟩⟩) | (exact ⟨_, (decide (a0_4 > 200000)), (by first | rfl | (simp; done) | (simp [*]; done)), H', ⟨by have := HK1.out; first | omega | exact Nat.le_refl _⟩, ⟨by (with_reducible repeat (first | refine blk_drewN ?_ _ | refine blk_drew ?_ | refine blk_alloc ?_ _)); exact BK157.out⟩, ⟨by repeat (first | (with_reducible first | exact HB.out | apply below_alloc | apply pw_below_drewN | apply below_drew1 | refine below_set ?_ GE157.out) | exact HB.out)⟩⟩)
     case rest =>
      clear HC14
      (try clear c1); (try clear p1); (try clear q1); (try clear hx1); (try clear p2); (try clear c4); (try clear c6); (try clear p6); (try clear c7); (try clear c7b0); (try clear c8); (try clear c8b0); (try clear c9); (try clear c9b0); (try clear c11); (try clear c15); (try clear c15b0); (try clear p16); (try clear q16); (try clear hx16); (try clear hczzc1); (try clear hczzc2); (try clear hczzc3); (try clear hczzc4); (try clear hczzc5); (try clear hczzc6); (try clear hczzc7); (try clear hczzc8); (try clear hczzc9); (try clear hczzc10); (try clear hczzc11); (try clear hczzc12); (try clear hczzc13); (try clear hczzc14); (try clear hczzc15); (try clear hczzc16); (try clear hcz3_0); (try clear hcz3_1); (try clear hcz3_2); (try clear hcz3_3)
      (try clear hcz3_4); (try clear hcz3_5); (try clear hcz3_6); (try clear hcz3_7); (try clear hfzzc1); (try clear hfzzc2); (try clear hfzzc3); (try clear hfzzc4); (try clear hfzzc5); (try clear hfzzc6); (try clear hfzzc7); (try clear hfzzc8); (try clear hfzzc9); (try clear hfzzc10); (try clear hfzzc11); (try clear hfzzc12); (try clear hfzzc13); (try clear hfzzc14); (try clear hfzzc15); (try clear hfzzc16); (try clear hfz3_0); (try clear hfz3_1); (try clear hfz3_2); (try clear hfz3_3); (try clear hfz3_4); (try clear hfz3_5); (try clear hfz3_6); (try clear hfz3_7); (try clear hx161_0); (try clear p161); (try clear p2); (try clear q161)
      obtain ⟨kq, x23_13, rfl, HA, HJ13, BK157, HB⟩ := hcut
      cases kq with
      | zero => exact absurd HA.out (by simp [plantext_Check.j1])
      | succ kj13 =>
       have H := HA.out
       clear HA
       simp only [plantext_Check.j1] at H
       by_cases c18 : x23_13 = true
       · subst c18
         have H1 : (some 12) = some r := by rw [if_pos rfl] at H; exact H
         clear H
         have H := H1
         clear H1
         obtain rfl := Option.some.inj H
         go_wp2
         go_ret
         exact ⟨by first | rfl | (simp [errW_none, errW_some] <;> rfl) | (simp [*, errW_none, errW_some] <;> rfl), by repeat (first | (with_reducible first | exact HB.out | apply below_alloc | apply pw_below_drewN | apply below_drew1 | refine below_set ?_ GE157.out) | exact HB.out)⟩
       · replace c18 := Bool.eq_false_iff.mpr c18
         subst c18
         have H1 : (if a0_5 < 1 then (plantext_Check.j2 kj13 true a0_0 a0_1 a0_2 a0_3 a0_4 a0_5 a0_6 l0_7) else (if a0_5 > 400 then (plantext_Check.j2 kj13 true a0_0 a0_1 a0_2 a0_3 a0_4 a0_5 a0_6 l0_7) else (if a0_6 < 1 then (plantext_Check.j2 kj13 true a0_0 a0_1 a0_2 a0_3 a0_4 a0_5 a0_6 l0_7) else (plantext_Check.j2 kj13 (decide (a0_6 > 60000)) a0_0 a0_1 a0_2 a0_3 a0_4 a0_5 a0_6 l0_7)))) = some r := by rw [if_neg (show ¬ (false = true) by decide)] at H; exact H
         clear H
         have H := H1
         clear H1
         have HC19 := Aside0.mk H
         clear H
         go_upto_region 9 with (fail)
         go_cut [32] (fun v32 wc => ∃ (kq : Nat) (x32_18 : Bool), v32 = .bool x32_18 ∧ Aside0 (plantext_Check.j2 kq x32_18 a0_0 a0_1 a0_2 a0_3 a0_4 a0_5 a0_6 l0_7 = some r) ∧ Aside0 (kq ≤ kj13) ∧ Aside0 (wc.heap[gb157]? = some (.cells #[.string a0_0, .string a0_1, .string a0_2, .string a0_3, .int .i64 a0_4, .int .i64 a0_5, .int .i64 a0_6, (.slice A0_7 l0_7.length c0_7)] 51 (0, 0))) ∧ Aside0 (Below w.heap.size w wc))
         case first =>
          have H := HC19.out
          clear HC19
          refine Or.elim (Classical.em (a0_5 < 1)) (fun c20 => ?p4_) (fun c20 => ?n4_)
          case' p4_ =>
           rw [if_pos c20] at H
           have c20b0 : decide (a0_5 < 1) = true := decide_eq_true c20
           clear c20
           (first | rw [c20b0] | (simp only [i64_w, i32_w]; rw [c20b0]) | skip)
          case' n4_ =>
           rw [if_neg c20] at H
           have c20b0 : decide (a0_5 < 1) = false := decide_eq_false c20
           clear c20
           (first | rw [c20b0] | (simp only [i64_w, i32_w]; rw [c20b0]) | skip)
           refine Or.elim (Classical.em (a0_5 > 400)) (fun c22 => ?p5_) (fun c22 => ?n5_)
           case' p5_ =>
            rw [if_pos c22] at H
            have c22b0 : decide (400 < a0_5) = true := decide_eq_true c22
            clear c22
           case' n5_ =>
            rw [if_neg c22] at H
            have c22b0 : decide (400 < a0_5) = false := decide_eq_false c22
            clear c22
            refine Or.elim (Classical.em (a0_6 < 1)) (fun c24 => ?p6_) (fun c24 => ?n6_)
            case' p6_ =>
             rw [if_pos c24] at H
             have c24b0 : decide (a0_6 < 1) = true := decide_eq_true c24
             clear c24
            case' n6_ =>
             rw [if_neg c24] at H
             have c24b0 : decide (a0_6 < 1) = false := decide_eq_false c24
             clear c24
          all_goals
           have H' := Aside0.mk H
           clear H
           have hczzf1 : wc.cell? ⟨gb157, 0, none⟩ = some (.string a0_0) := (blk_cell BK157.out 0).trans rfl
           have hczzf2 : wc.cell? ⟨gb157, 1, none⟩ = some (.string a0_1) := (blk_cell BK157.out 1).trans rfl
           have hczzf3 : wc.cell? ⟨gb157, 2, none⟩ = some (.string a0_2) := (blk_cell BK157.out 2).trans rfl
           have hczzf4 : wc.cell? ⟨gb157, 3, none⟩ = some (.string a0_3) := (blk_cell BK157.out 3).trans rfl
           have hczzf5 : wc.cell? ⟨gb157, 4, none⟩ = some (.int .i64 a0_4) := (blk_cell BK157.out 4).trans rfl
           have hczzf6 : wc.cell? ⟨gb157, 5, none⟩ = some (.int .i64 a0_5) := (blk_cell BK157.out 5).trans rfl
           have hczzf7 : wc.cell? ⟨gb157, 6, none⟩ = some (.int .i64 a0_6) := (blk_cell BK157.out 6).trans rfl
           have hczzf8 : wc.cell? ⟨gb157, 7, none⟩ = some (.slice A0_7 l0_7.length c0_7) := (blk_cell BK157.out 7).trans rfl
           have hfzzf1 := blk_frozen BK157.out 0
           have hfzzf2 := blk_frozen BK157.out 1
           have hfzzf3 := blk_frozen BK157.out 2
           have hfzzf4 := blk_frozen BK157.out 3
           have hfzzf5 := blk_frozen BK157.out 4
           have hfzzf6 := blk_frozen BK157.out 5
           have hfzzf7 := blk_frozen BK157.out 6
           have hfzzf8 := blk_frozen BK157.out 7
           go_wp2
           go_meet
           case rel => first | (exact ⟨_, (true), (by first | rfl | (simp; done) | (simp [*]; done)), H', ⟨by have := HK1.out; have := HJ13.out; first | omega | exact Nat.le_refl _⟩, ⟨by (with_reducible repeat (first | refine blk_drewN ?_ _ | refine blk_drew ?_ | refine blk_alloc ?_ _)); exact BK157.out⟩, ⟨by repeat (first | (with_reducible first | exact HB.out | apply below_alloc | apply pw_below_drewN | apply below_drew1 | refine below_set ?_ GE157.out) | exact HB.out)⟩⟩) | (exact ⟨_, (decide (a0_6 > 60000)), (by first | rfl | (simp; done) | (simp [*]; done)), H', ⟨by have := HK1.out; have := HJ13.out; first | omega | exact Nat.le_refl _⟩, ⟨by (with_reducible repeat (first | refine blk_drewN ?_ _ | refine blk_drew ?_ | refine blk_alloc ?_ _)); exact BK157.out⟩, ⟨by repeat (first | (with_reducible first | exact HB.out | apply below_alloc | apply pw_below_drewN | apply below_drew1 | refine below_set ?_ GE157.out) | exact HB.out)⟩⟩)
         case rest =>
          clear HC19
          (try clear c1); (try clear p1); (try clear q1); (try clear hx1); (try clear c2); (try clear p2); (try clear c4); (try clear c6); (try clear p6); (try clear c7); (try clear c7b0); (try clear c8); (try clear c8b0); (try clear c9); (try clear c9b0); (try clear c11); (try clear c15); (try clear c15b0); (try clear p16); (try clear q16); (try clear hx16); (try clear c18); (try clear c20); (try clear c20b0); (try clear c22); (try clear c22b0); (try clear c24); (try clear c24b0); (try clear hczze33); (try clear hczze34); (try clear hczze35); (try clear hczze36); (try clear hczze37); (try clear hczze38); (try clear hczze39); (try clear hczze40); (try clear hczze41); (try clear hczze42); (try clear hczze43); (try clear hczze44)
          (try clear hczze45); (try clear hczze46); (try clear hczze47); (try clear hczze48); (try clear hczze1); (try clear hczze2); (try clear hczze3); (try clear hczze4); (try clear hczze5); (try clear hczze6); (try clear hczze7); (try clear hczze8); (try clear hczze9); (try clear hczze10); (try clear hczze11); (try clear hczze12); (try clear hczze13); (try clear hczze14); (try clear hczze15); (try clear hczze16); (try clear hczze17); (try clear hczze18); (try clear hczze19); (try clear hczze20); (try clear hczze21); (try clear hczze22); (try clear hczze23); (try clear hczze24); (try clear hczze25); (try clear hczze26); (try clear hczze27); (try clear hczze28); (try clear hczze29); (try clear hczze30); (try clear hczze31); (try clear hczze32); (try clear hcz3_0); (try clear hcz3_1); (try clear hcz3_2); (try clear hcz3_3)
          (try clear hcz3_4); (try clear hcz3_5); (try clear hcz3_6); (try clear hcz3_7); (try clear hfzze33); (try clear hfzze34); (try clear hfzze35); (try clear hfzze36); (try clear hfzze37); (try clear hfzze38); (try clear hfzze39); (try clear hfzze40); (try clear hfzze41); (try clear hfzze42); (try clear hfzze43); (try clear hfzze44); (try clear hfzze45); (try clear hfzze46); (try clear hfzze47); (try clear hfzze48); (try clear hfzze1); (try clear hfzze2); (try clear hfzze3); (try clear hfzze4); (try clear hfzze5); (try clear hfzze6); (try clear hfzze7); (try clear hfzze8); (try clear hfzze9); (try clear hfzze10); (try clear hfzze11); (try clear hfzze12); (try clear hfzze13); (try clear hfzze14); (try clear hfzze15); (try clear hfzze16); (try clear hfzze17); (try clear hfzze18); (try clear hfzze19); (try clear hfzze20)
          (try clear hfzze21); (try clear hfzze22); (try clear hfzze23); (try clear hfzze24); (try clear hfzze25); (try clear hfzze26); (try clear hfzze27); (try clear hfzze28); (try clear hfzze29); (try clear hfzze30); (try clear hfzze31); (try clear hfzze32); (try clear hfz3_0); (try clear hfz3_1); (try clear hfz3_2); (try clear hfz3_3); (try clear hfz3_4); (try clear hfz3_5); (try clear hfz3_6); (try clear hfz3_7); (try clear hx161_0); (try clear p1); (try clear p16); (try clear p161); (try clear p2); (try clear p6); (try clear q1); (try clear q16); (try clear q161)
          obtain ⟨kq, x32_18, rfl, HA, HJ18, BK157, HB⟩ := hcut
          cases kq with
          | zero => exact absurd HA.out (by simp [plantext_Check.j2])
          | succ kj18 =>
           have H := HA.out
           clear HA
           simp only [plantext_Check.j2] at H
           refine Or.elim (Classical.em (x32_18 = true)) (fun c27 => ?p8_) (fun c27 => ?n8_)
           case' p8_ =>
            subst c27
            have H1 : (some 4) = some r := by rw [if_pos rfl] at H; exact H
            clear H
            have H := H1
            clear H1
            have hm7_0 := Aside0.mk trivial
           case' n8_ =>
            replace c27 := Bool.eq_false_iff.mpr c27
            subst c27
            have H1 : (if (l0_7.length : Int) > 24 then (some 2) else ((slices_ContainsFunc_string_string.f l0_7 (plantext_Check_1.p)).bind fun t163 => (if t163 = true then (some 5) else (some 0)))) = some r := by rw [if_neg (show ¬ (false = true) by decide)] at H; exact H
            clear H
            have H := H1
            clear H1
            refine Or.elim (Classical.em ((l0_7.length : Int) > 24)) (fun c28 => ?p9_) (fun c28 => ?n9_)
            case' p9_ =>
             rw [if_pos c28] at H
             have c28b0 : decide (24 < (l0_7.length : Int)) = true := decide_eq_true c28
             have c28b1 : decide (24 < l0_7.length) = true := decide_eq_true (by omega)
             clear c28
             have hm7_1 := Aside0.mk trivial
            case' n9_ =>
             rw [if_neg c28] at H
             have c28b0 : decide (24 < (l0_7.length : Int)) = false := decide_eq_false c28
             have c28b1 : decide (24 < l0_7.length) = false := decide_eq_false (by omega)
             clear c28
             replace H := Option.bind_eq_some_iff.mp H
             obtain ⟨t163, A300, H⟩ := H
             replace H : (if t163 = true then (some 5) else (some 0)) = some r := H
             have A30 := Aside0.mk A300
             clear A300
             refine Or.elim (Classical.em (t163 = true)) (fun c31 => ?p10_) (fun c31 => ?n10_)
             case' p10_ =>
              subst c31
              have H1 : (some 5) = some r := by rw [if_pos rfl] at H; exact H
              clear H
              have H := H1
              clear H1
              have hm7_2 := Aside0.mk trivial
             case' n10_ =>
              replace c31 := Bool.eq_false_iff.mpr c31
              subst c31
              have H1 : (some 0) = some r := by rw [if_neg (show ¬ (false = true) by decide)] at H; exact H
              clear H
              have H := H1
              clear H1
              have hm7_2 := Aside0.mk trivial
           all_goals
            obtain rfl := Option.some.inj H
            first
             | clear hm7_0
               go_wp2
               go_ret
               exact ⟨by first | rfl | (simp [errW_none, errW_some] <;> rfl) | (simp [*, errW_none, errW_some] <;> rfl), by repeat (first | (with_reducible first | exact HB.out | apply below_alloc | apply pw_below_drewN | apply below_drew1 | refine below_set ?_ GE157.out) | exact HB.out)⟩
             | (first | (have _hm := hm7_1) | (have _hm := hm7_2))
               have hczzg1 : wc.cell? ⟨gb157, 0, none⟩ = some (.string a0_0) := (blk_cell BK157.out 0).trans rfl
               have hczzg2 : wc.cell? ⟨gb157, 1, none⟩ = some (.string a0_1) := (blk_cell BK157.out 1).trans rfl
               have hczzg3 : wc.cell? ⟨gb157, 2, none⟩ = some (.string a0_2) := (blk_cell BK157.out 2).trans rfl
               have hczzg4 : wc.cell? ⟨gb157, 3, none⟩ = some (.string a0_3) := (blk_cell BK157.out 3).trans rfl
               have hczzg5 : wc.cell? ⟨gb157, 4, none⟩ = some (.int .i64 a0_4) := (blk_cell BK157.out 4).trans rfl
               have hczzg6 : wc.cell? ⟨gb157, 5, none⟩ = some (.int .i64 a0_5) := (blk_cell BK157.out 5).trans rfl
               have hczzg7 : wc.cell? ⟨gb157, 6, none⟩ = some (.int .i64 a0_6) := (blk_cell BK157.out 6).trans rfl
               have hczzg8 : wc.cell? ⟨gb157, 7, none⟩ = some (.slice A0_7 l0_7.length c0_7) := (blk_cell BK157.out 7).trans rfl
               have hfzzg1 := blk_frozen BK157.out 0
               have hfzzg2 := blk_frozen BK157.out 1
               have hfzzg3 := blk_frozen BK157.out 2
               have hfzzg4 := blk_frozen BK157.out 3
               have hfzzg5 := blk_frozen BK157.out 4
               have hfzzg6 := blk_frozen BK157.out 5
               have hfzzg7 := blk_frozen BK157.out 6
               have hfzzg8 := blk_frozen BK157.out 7
               first
                | clear hm7_1
                  go_wp2
                  go_ret
                  exact ⟨by first | rfl | (simp [errW_none, errW_some] <;> rfl) | (simp [*, errW_none, errW_some] <;> rfl), by repeat (first | (with_reducible first | exact HB.out | apply below_alloc | apply pw_below_drewN | apply below_drew1 | refine below_set ?_ GE157.out) | exact HB.out)⟩
                | clear hm7_2
                  go_wp2_with (first | ((with_reducible refine gate_callee (f := 97) rfl ?_); refine goesL_ (some 59) rfl rfl Try.func97 (by kernel_rfl) rfl #[.slice A0_7 l0_7.length c0_7, .func (.func 98) #[] #[]] rfl any_s ?_; (with_reducible refine (slices_ContainsFunc_string_string.calls _ _ l0_7 (plantext_Check_1.p) false _ ?side1 ?side2 ?side3 A30.out).mono ?_); (case side1 => repeat (first | exact (Kd.C_below HR0_7.out HB.out) | (with_reducible refine Kd.C_alloc ?_ _) | (with_reducible refine Kd.C_drewN ?_ _) | (with_reducible refine Kd.C_drew ?_))); (case side2 => exact HC0_7.out); (case side3 => exact plantext_Check_1.pred ); rintro e wx71511 ⟨rfl, hb⟩; refine ⟨_, rfl, ?_⟩; have n0_ := Aside0.mk (blk_below (g := gb157) (o := .cells #[.string a0_0, .string a0_1, .string a0_2, .string a0_3, .int .i64 a0_4, .int .i64 a0_5, .int .i64 a0_6, .slice A0_7 l0_7.length c0_7] 51 (0, 0)) blk_s hb); have n1_ := Aside0.mk (below_step bel_s hb); clear BK157; clear HB; have BK157 := n0_; have HB := n1_; clear n0_ n1_; (try clear hb); (try clear hb2); (try clear hk); (try clear hi)) | ((with_reducible refine gate_callee (f := 97) rfl ?_); refine goesL_ (some 59) rfl rfl Try.func97 (by kernel_rfl) rfl #[.slice A0_7 l0_7.length c0_7, .func (.func 98) #[] #[]] rfl any_s ?_; (with_reducible refine (slices_ContainsFunc_string_string.calls _ _ l0_7 (plantext_Check_1.p) true _ ?side1 ?side2 ?side3 A30.out).mono ?_); (case side1 => repeat (first | exact (Kd.C_below HR0_7.out HB.out) | (with_reducible refine Kd.C_alloc ?_ _) | (with_reducible refine Kd.C_drewN ?_ _) | (with_reducible refine Kd.C_drew ?_))); (case side2 => exact HC0_7.out); (case side3 => exact plantext_Check_1.pred ); rintro e wx495b1 ⟨rfl, hb⟩; refine ⟨_, rfl, ?_⟩; have n0_ := Aside0.mk (blk_below (g := gb157) (o := .cells #[.string a0_0, .string a0_1, .string a0_2, .string a0_3, .int .i64 a0_4, .int .i64 a0_5, .int .i64 a0_6, .slice A0_7 l0_7.length c0_7] 51 (0, 0)) blk_s hb); have n1_ := Aside0.mk (below_step bel_s hb); clear BK157; clear HB; have BK157 := n0_; have HB := n1_; clear n0_ n1_; (try clear hb); (try clear hb2); (try clear hk); (try clear hi)))
                  go_ret
                  exact ⟨by first | rfl | (simp [errW_none, errW_some] <;> rfl) | (simp [*, errW_none, errW_some] <;> rfl), by repeat (first | (with_reducible first | exact HB.out | apply below_alloc | apply pw_below_drewN | apply below_drew1 | refine below_set ?_ GE157.out) | exact HB.out)⟩

/-! ### api_Fix_99: function 99 -/
/-- Whether a predicate holds somewhere. -/
def api_Fix_99.f (l0 : List (S40)) (p : (S40) → Bool) : Option Bool := some (l0.any p)
set_option maxHeartbeats 8000000 in
set_option maxRecDepth 100000 in
theorem api_Fix_99.calls (A0 : Option Addr) (c0 : Nat) (l0 : List (S40)) (p : (S40) → Bool) {F : Value} (r : Bool) (w : World) (hr0 : Kd.C k40 w A0 l0.length l0) (hc0 : l0.length ≤ c0) (hp : IdxF.Pred Try.prog k40 true F p w) (h : api_Fix_99.f l0 p = some r) :
    Calls Try.prog 99 #[.slice A0 l0.length c0, F] w fun e w' => e = .returned (.bool r) ∧ Below w.heap.size w w' := by
  obtain rfl := Option.some.inj h
  clear h
  rw [← IdxF.idx_any]
  have hi := api_Fix_67.calls A0 c0 l0 p (IdxF.idx p l0) w hr0 hc0 hp rfl
  obtain ⟨g, lb, rfl, eg, hp⟩ := hp
  have e6 : ∀ args w, (callFunc 67 args).run Try.prog w = .ok (.enter 67 args) w := enters_of Try.func67 (by kernel_rfl) rfl
  go_enter Try.func99, Try.ntmps99
  go_wp2_with (go_at_call 67; refine hi.mono ?_; rintro e w' ⟨rfl, hb'⟩)
  go_ret
  exact ⟨rfl, hb'⟩

/-! ### route_isFix_1: function 100 -/
/-- Whether an element has this name. -/
def route_isFix_1.p (s : ByteArray) (x : S40) : Bool := decide (x.f0 = s)
set_option maxHeartbeats 8000000 in
set_option maxRecDepth 100000 in
theorem route_isFix_1.pred {s : ByteArray} {b ty : Nat} {w : World} (hb : w.heap[b]? = some (.cells #[.string s] ty (0, 0))) : IdxF.Pred Try.prog k40 true (.func (.func 100) #[] #[.pointer (some ⟨b, 0, none⟩)]) (route_isFix_1.p s) w := by
  refine ⟨100, _, rfl, enters_of Try.func100 (by kernel_rfl) rfl, fun W x cs hW hK => ?_⟩
  obtain rfl := k40_open hK
  have hbW := blk_below hb hW
  have hc : W.cell? ⟨b, 0, none⟩ = some (.string s) := (blk_cell hbW 0).trans rfl
  have hlt := blk_lt hbW
  clear hb hbW hW
  unfold route_isFix_1.p
  change Calls Try.prog 100 #[.agg #[.string x.f0, .int .i64 x.f1.f0, .int .i64 x.f1.f1], .pointer (some ⟨b, 0, none⟩)] W _
  generalize x.f0 = x0
  go_enter Try.func100, Try.ntmps100
  go_wp2
  go_ret
  exact ⟨by first | rfl | (rw [IdxF.str_eq]; rfl), below_alloc (Below.refl _ _) _⟩

/-! ### route_isFix: function 64 -/
def route_isFix.f (l0_0 : List (S40)) (l0_1 : List (S48)) (a1 : ByteArray) : Option (Bool) := (api_Fix_99.f l0_0 (route_isFix_1.p a1)).bind fun t166 => (some t166)
set_option maxHeartbeats 8000000 in
set_option maxRecDepth 100000 in
theorem route_isFix.calls (A0_0 : Option Addr) (c0_0 : Nat) (l0_0 : List (S40)) (A0_1 : Option Addr) (c0_1 : Nat) (l0_1 : List (S48)) (a1 : ByteArray) (r : Bool) (w : World) (hr0_0 : Kd.C k40 w A0_0 l0_0.length l0_0) (hc0_0 : l0_0.length ≤ c0_0) (hr0_1 : Kd.C k48 w A0_1 l0_1.length l0_1) (hc0_1 : l0_1.length ≤ c0_1) (h : route_isFix.f l0_0 l0_1 a1 = some r) :
    Calls Try.prog 64 #[.agg #[.slice A0_0 l0_0.length c0_0, .slice A0_1 l0_1.length c0_1], .string a1] w fun e w' => e = .returned (.bool r) ∧ Below w.heap.size w w' := by
 have hu25 := Try.underlying25
 have HR0_0 := Aside0.mk hr0_0
 have HC0_0 := Aside0.mk hc0_0
 clear hr0_0 hc0_0
 have HR0_1 := Aside0.mk hr0_1
 have HC0_1 := Aside0.mk hc0_1
 clear hr0_1 hc0_1
 have HB := Aside0.mk (Below.refl w.heap.size w)
 have H : ((api_Fix_99.f l0_0 (route_isFix_1.p a1)).bind fun t166 => (some t166)) = some r := h
 clear h
 replace H := Option.bind_eq_some_iff.mp H
 obtain ⟨t166, A30, H⟩ := H
 replace H : (some t166) = some r := H
 have A3 := Aside0.mk A30
 clear A30
 obtain rfl := Option.some.inj H
 go_enter Try.func64, Try.ntmps64
 go_wp2_with (first | ((with_reducible refine gate_dst (N := 2) rfl ?_); refine box_event ?hg (N := 2) ?hd (cs := #[.slice A0_0 l0_0.length c0_0, .slice A0_1 l0_1.length c0_1]) (t := 25) ?hr ?_; (case hd => rfl); (case hg => rfl); (case hr => first | (go_simp; done) | (go_simp; rfl)); intro gb164 hg w4 hbox hb; have n0_ := Aside0.mk (below_step bel_s hb); have n1_ := Aside0.mk (hbox); have n2_ := Aside0.mk ((by rw [hg]; exact (below_size bel_s) : w.heap.size ≤ gb164)); have n3_ := Aside0.mk ((by rw [hg]; exact (below_size bel_s) : w.heap.size ≤ gb164)); clear HB; have HB := n0_; have BK164 := n1_; have GW164 := n2_; have GE164 := n3_; clear n0_ n1_ n2_ n3_; clear hb hbox hg) | ((with_reducible refine gate_dst (N := 3) rfl ?_); refine box_event ?hg (N := 3) ?hd (cs := #[.string a1]) (t := 9) ?hr ?_; (case hd => rfl); (case hg => rfl); (case hr => first | (go_simp; done) | (go_simp; rfl)); intro gb165 hg w5 hbox hb; have n0_ := Aside0.mk (blk_below (g := gb164) (o := .cells #[.slice A0_0 l0_0.length c0_0, .slice A0_1 l0_1.length c0_1] 25 (0, 0)) blk_s hb); have n1_ := Aside0.mk (below_step bel_s hb); have n2_ := Aside0.mk (hbox); have n3_ := Aside0.mk ((by rw [hg]; exact (below_size bel_s) : w.heap.size ≤ gb165)); have n4_ := Aside0.mk ((by rw [hg]; exact (below_size bel_s) : w.heap.size ≤ gb165)); have n5_ := Aside0.mk ((by rw [hg]; exact Nat.ne_of_lt (blk_lt (g := gb164) (o := .cells #[.slice A0_0 l0_0.length c0_0, .slice A0_1 l0_1.length c0_1] 25 (0, 0)) blk_s) : gb164 ≠ gb165)); have n6_ := Aside0.mk ((by rw [hg]; exact Nat.ne_of_gt (blk_lt (g := gb164) (o := .cells #[.slice A0_0 l0_0.length c0_0, .slice A0_1 l0_1.length c0_1] 25 (0, 0)) blk_s) : gb165 ≠ gb164)); clear BK164; clear HB; have BK164 := n0_; have HB := n1_; have BK165 := n2_; have GW165 := n3_; have GE165 := n4_; have NB164_165 := n5_; have NB165_164 := n6_; clear n0_ n1_ n2_ n3_ n4_ n5_ n6_; clear hb hbox hg; have hnb6 := NB164_165.out; have hnc6 := NB165_164.out; have hcz7_0 : w5.cell? ⟨gb164, 0, none⟩ = some (.slice A0_0 l0_0.length c0_0) := (blk_cell BK164.out 0).trans rfl; have hcz7_1 : w5.cell? ⟨gb164, 1, none⟩ = some (.slice A0_1 l0_1.length c0_1) := (blk_cell BK164.out 1).trans rfl; have hfz7_0 := blk_frozen BK164.out 0; have hfz7_1 := blk_frozen BK164.out 1) | ((with_reducible refine gate_callee (f := 99) rfl ?_); refine goesL_ (some 8) rfl rfl Try.func99 (by kernel_rfl) rfl #[.slice A0_0 l0_0.length c0_0, .func (.func 100) #[] #[.pointer (some ⟨gb165, 0, none⟩)]] rfl any_s ?_; (with_reducible refine (api_Fix_99.calls _ _ l0_0 (route_isFix_1.p a1) t166 _ ?side1 ?side2 ?side3 A3.out).mono ?_); (case side1 => repeat (first | exact (Kd.C_below HR0_0.out HB.out) | (with_reducible refine Kd.C_alloc ?_ _) | (with_reducible refine Kd.C_drewN ?_ _) | (with_reducible refine Kd.C_drew ?_))); (case side2 => exact HC0_0.out); (case side3 => exact route_isFix_1.pred blk_s); rintro e w8 ⟨rfl, hb⟩; refine ⟨_, rfl, ?_⟩; have n0_ := Aside0.mk (blk_below (g := gb164) (o := .cells #[.slice A0_0 l0_0.length c0_0, .slice A0_1 l0_1.length c0_1] 25 (0, 0)) blk_s hb); have n1_ := Aside0.mk (blk_below (g := gb165) (o := .cells #[.string a1] 9 (0, 0)) blk_s hb); have n2_ := Aside0.mk (below_step bel_s hb); clear BK164; clear BK165; clear HB; have BK164 := n0_; have BK165 := n1_; have HB := n2_; clear n0_ n1_ n2_; (try clear hb); (try clear hb2); (try clear hk); (try clear hi)))
 go_ret
 exact ⟨by first | rfl | (simp [errW_none, errW_some] <;> rfl) | (simp [*, errW_none, errW_some] <;> rfl), by repeat (first | (with_reducible first | exact HB.out | apply below_alloc | apply pw_below_drewN | apply below_drew1 | refine below_set ?_ GE164.out | refine below_set ?_ GE165.out) | exact HB.out)⟩

/-! ### chart_Between_1: function 51 -/
/-- Whether an element has this name. -/
def chart_Between_1.p (s : ByteArray) (x : S48) : Bool := decide (x.f0 = s)
set_option maxHeartbeats 8000000 in
set_option maxRecDepth 100000 in
theorem chart_Between_1.pred {s : ByteArray} {b ty : Nat} {w : World} (hb : w.heap[b]? = some (.cells #[.string s] ty (0, 0))) : IdxF.Pred Try.prog k48 true (.func (.func 51) #[] #[.pointer (some ⟨b, 0, none⟩)]) (chart_Between_1.p s) w := by
  refine ⟨51, _, rfl, enters_of Try.func51 (by kernel_rfl) rfl, fun W x cs hW hK => ?_⟩
  obtain ⟨A1, c1, rfl, _⟩ := k48_open hK
  have hbW := blk_below hb hW
  have hc : W.cell? ⟨b, 0, none⟩ = some (.string s) := (blk_cell hbW 0).trans rfl
  have hlt := blk_lt hbW
  clear hb hbW hW
  unfold chart_Between_1.p
  change Calls Try.prog 51 #[.agg #[.string x.f0, .slice A1 x.f1.length c1], .pointer (some ⟨b, 0, none⟩)] W _
  generalize x.f0 = x0
  go_enter Try.func51, Try.ntmps51
  go_wp2
  go_ret
  exact ⟨by first | rfl | (rw [IdxF.str_eq]; rfl), below_alloc (Below.refl _ _) _⟩

/-! ### slices_Clone_string_string: function 53 -/
def slices_Clone_string_string.f (l0 : List ByteArray) : Option (List ByteArray) := (some (([] : List ByteArray) : List ByteArray)).bind fun y167 => (if y167.length + l0.length < 8796093022208 then (some (y167 ++ l0)) else (none))
theorem slices_Clone_string_string.nil_ (A_ : Option Addr) (n_ c_ : Nat) (w_ : World) : (binOp .eql 27 (.slice A_ n_ c_) (.slice none 0 0)).run Try.prog w_ = .ok (.bool A_.isNone) w_ := by
  have hu := Try.underlying27
  have hd : Op.maxDepth = (Op.maxDepth - 1) + 1 := rfl
  cases A_ <;> (simp only [binOp, Op.equal]; rw [hd]; simp [Op.equalIn, Sem.run_bind, run_underlying hu])
attribute [local go_sem high] slices_Clone_string_string.nil_
set_option maxHeartbeats 8000000 in
set_option maxRecDepth 100000 in
theorem slices_Clone_string_string.calls (A0 : Option Addr) (c0 : Nat) (l0 : List ByteArray) (r : List ByteArray) (w : World) (hr0 : Kd.C Kd.string w A0 l0.length l0) (hc0 : l0.length ≤ c0) (h : slices_Clone_string_string.f l0 = some r) :
    Calls Try.prog 53 #[.slice A0 l0.length c0] w fun e w' => ∃ v0_ : Value, e = .returned (v0_) ∧ Kd.R Kd.string 9 w' w.heap.size (fun _ => True) v0_ r ∧ Below w.heap.size w w' := by
  have hu_ := Try.underlying27
  obtain rfl | ⟨ad0_, hA0_⟩ : A0 = none ∨ ∃ ad_, A0 = some ad_ := by
    cases A0 with
    | none => exact Or.inl rfl
    | some a_ => exact Or.inr ⟨a_, rfl⟩
  · have hl0_ : l0 = [] := by
      cases l0 with
      | nil => rfl
      | cons x_ xs_ => obtain ⟨ad_, e_, _⟩ := hr0.2.2 (by simp); cases e_
    subst hl0_
    have hr_ : r = [] := by
      unfold slices_Clone_string_string.f at h
      simpa using h.symm
    subst hr_
    go_enter Try.func53, Try.ntmps53
    try go_wp2
    go_ret
    exact ⟨_, rfl, Kd.R_nil _ _ _ _ _, Below.refl _ _⟩
  · subst hA0_
    have HR0 := Aside0.mk hr0
    have HC0 := Aside0.mk hc0
    clear hr0 hc0
    have HB := Aside0.mk (Below.refl w.heap.size w)
    have H : ((some (([] : List ByteArray) : List ByteArray)).bind fun y167 => (if y167.length + l0.length < 8796093022208 then (some (y167 ++ l0)) else (none))) = some r := h
    clear h
    obtain ⟨y167, hy167⟩ : ∃ y_ : List ByteArray, y_ = (([] : List ByteArray)) := ⟨_, rfl⟩
    replace H : (if y167.length + l0.length < 8796093022208 then (some (y167 ++ l0)) else (none)) = some r := by first | (rw [hy167]; with_reducible exact H) | (have H2_ := (Option.bind_some _ _).symm.trans H; rw [hy167]; with_reducible exact H2_) | (have H2_ := (Option.bind_some _ _).symm.trans H; with_reducible exact H2_) | with_reducible exact H | (rw [hy167]; exact H) | exact H
    have Ny167 := Aside0.mk hy167
    clear hy167
    by_cases c2 : y167.length + l0.length < 8796093022208
    · rw [if_pos c2] at H
      have LMc2 := Aside0.mk c2
      clear c2
      obtain ⟨y170, hy170⟩ : ∃ y_ : List ByteArray, y_ = (y167 ++ l0) := ⟨_, rfl⟩
      replace H : (some y170) = some r := by first | (rw [hy170]; with_reducible exact H) | (have H2_ := (Option.bind_some _ _).symm.trans H; rw [hy170]; with_reducible exact H2_) | (have H2_ := (Option.bind_some _ _).symm.trans H; with_reducible exact H2_) | with_reducible exact H | (rw [hy170]; exact H) | exact H
      have Ny170 := Aside0.mk hy170
      clear hy170
      obtain rfl := Option.some.inj H
      go_enter Try.func53, Try.ntmps53
      go_wp2_with (first | ((with_reducible refine gate_dst (N := 5) rfl ?_); refine Kd.R_lit Kd.string _ 9 ?hg (N := 5) ?hd (xs := ([] : List ByteArray)) (inner := []) (ok := fun _ => True) (okp := fun _ => True) ?hr ?hp (fun _ hk => hk) trivial (Below.refl _ _) (Nat.le_refl _) (by simp) ?_; (case hd => rfl); (case hg => rfl); (case hr => first | (go_simp; done) | (go_simp; rfl)); (case hp => exact (Reps.none _ _)); intro v168 w3 ho4 hb hg_ hnew_; clear hg_ hnew_; (first | rw [← Ny167.out] at ho4 | (simp only [Int.reduceToNat] at ho4; rw [← Ny167.out] at ho4)); have n0_ := Aside0.mk (Kd.R_lower ho4 (below_size bel_s)); have n1_ := Aside0.mk (below_step bel_s hb); clear HB; have HO169 := n0_; have HB := n1_; clear n0_ n1_; clear hb ho4) | ((with_reducible refine gate_builtin (b := .append) (xs := #[.tmp 5, .tmp 6]) rfl ?_); at_builtin; refine Kd.R_append_rows Kd.string (w0 := w) w.heap.size rfl (.tmp 5) (.tmp 6) 27 9 (.string ⟨#[]⟩) 16 rfl Try.underlying27 info9 rfl (by decide) (by omega) v168 y167 l0 _ _ _ (fun _ => True) (fun _ => False) rfl rfl ?aO ?aR (fun _ _ h => h) (fun _ h => h.elim) ?aF ?aB ?aS ?aL ?_; (case aR => repeat (first | exact (Kd.C_below HR0.out HB.out) | (with_reducible refine Kd.C_alloc ?_ _) | (with_reducible refine Kd.C_drewN ?_ _) | (with_reducible refine Kd.C_drew ?_))); (case aB => exact bel_s); (case aF => exact (fun _ _ => trivial)); (case aO => exact (by (with_reducible repeat (first | apply Kd.R_alloc | apply Kd.R_drewN | apply Kd.R_drew)); exact HO169.out)); (case aS => exact (below_size bel_s)); (case aL => have := LMc2.out; omega); intro v171 w5 ho hb hg hat; rw [← Ny170.out] at ho; have n0_ := Aside0.mk (hb); have n1_ := Aside0.mk (ho); clear HB; clear HO169; have HB := n0_; have HO172 := n1_; clear n0_ n1_; clear ho hb hg hat))
      go_ret
      exact ⟨_, by first | rfl | (simp [errW_none, errW_some] <;> rfl) | (simp [*, errW_none, errW_some] <;> rfl), by (with_reducible repeat (first | apply Kd.R_alloc | apply Kd.R_drewN | apply Kd.R_drew)); exact HO172.out, by repeat (first | (with_reducible first | exact HB.out | apply below_alloc | apply pw_below_drewN | apply below_drew1) | exact HB.out)⟩
    · rw [if_neg c2] at H
      exact absurd H (by simp)

/-! ### slices_Reverse_string_string: function 54 -/
def slices_Reverse_string_string.l0 : Nat → List ByteArray → Int → Int → Option (List ByteArray)
  | 0, _, _, _ => none
  | k + 1, x0, x2, x3 => if x2 < x3 then (if 0 ≤ x3 then (if x3 < (x0.length : Int) then (if 0 ≤ x2 then (if x2 < (x0.length : Int) then (slices_Reverse_string_string.l0 k ((x0.set (x2 : Int).toNat (rdOf ByteArray.empty x0 x3)).set (x3 : Int).toNat (rdOf ByteArray.empty x0 x2)) (wrap64 (x2 + 1)) (wrap64 (x3 - 1))) else (none)) else (none)) else (none)) else (none)) else (some x0)
def slices_Reverse_string_string.f (k : Nat) (l0 : List ByteArray) : Option (List ByteArray) := slices_Reverse_string_string.l0 k l0 0 (wrap64 ((l0.length : Int) - 1))
theorem slices_Reverse_string_string.mono_l : ∀ k, (∀ y0 y1 y2, LeO (slices_Reverse_string_string.l0 k y0 y1 y2) (slices_Reverse_string_string.l0 (k + 1) y0 y1 y2))
  | 0 => fun _ _ _ r h => by simp [slices_Reverse_string_string.l0] at h
  | k + 1 => by
    have ih0 := slices_Reverse_string_string.mono_l k
    · intro y0 y1 y2
      unfold slices_Reverse_string_string.l0
      repeat' first
      | (with_reducible exact ih0 _ _ _)
      | (with_reducible exact LeO.refl _)
      | (with_reducible exact LeO.none _)
      | (with_reducible refine LeO.ite ?_ ?_)
      | (with_reducible refine LeO.bind ?_ (fun _ => ?_))
      | exact ih0 _ _ _
      | exact LeO.none _
      | refine LeO.ite ?_ ?_
      | refine LeO.bind ?_ (fun _ => ?_)
theorem slices_Reverse_string_string.mono : ∀ a0 k, LeO (slices_Reverse_string_string.f k a0) (slices_Reverse_string_string.f (k + 1) a0) := by
  intro a0 k
  have ih0 := slices_Reverse_string_string.mono_l k
  unfold slices_Reverse_string_string.f
  repeat' first
      | (with_reducible exact ih0 _ _ _)
      | (with_reducible exact LeO.refl _)
      | (with_reducible exact LeO.none _)
      | (with_reducible refine LeO.ite ?_ ?_)
      | (with_reducible refine LeO.bind ?_ (fun _ => ?_))
      | exact ih0 _ _ _
      | exact LeO.none _
      | refine LeO.ite ?_ ?_
      | refine LeO.bind ?_ (fun _ => ?_)
def slices_Reverse_string_string.T3 : Bool × List (List Nat × List Nat) := (true, [([], []), ([], []), ([], []), ([], []), ([], []), ([], []), ([4, 5], [4, 5]), ([6], [6]), ([], []), ([], []), ([8, 9], [8, 9]), ([10], [10]), ([0, 1, 0, 1, 4, 5, 6, 7, 11], [0, 1]), ([12, 7, 0, 1, 4, 5, 6, 7, 11], [7, 12]), ([2, 3, 0, 1, 2, 3, 4, 5, 6, 7, 8, 9, 10, 11, 12, 13], [2, 3]), ([14, 11, 13, 0, 1, 2, 3, 4, 5, 6, 7, 8, 9, 10, 11, 12, 13], [11, 14])])
def slices_Reverse_string_string.B3 : List Nat := [0, 0, 0, 0, 0, 0, 48, 112, 0, 0, 768, 1792, 4083, 8179, 16383, 32767]
theorem slices_Reverse_string_string.tab3 : rtab .any (opsOf Try.f54 3) = slices_Reverse_string_string.T3 := by kernel_rfl
theorem slices_Reverse_string_string.bits3 : waitsOk slices_Reverse_string_string.T3.2 slices_Reverse_string_string.B3 = true := by kernel_rfl
set_option maxHeartbeats 8000000 in
set_option maxRecDepth 100000 in
theorem slices_Reverse_string_string.calls (k : Nat) (P0_ : Nat → Prop) (u9000_ : Value) (l0 : List ByteArray) (r : List ByteArray) (w0 w : World) (hB : Below w0.heap.size w0 w) (ho0 : Kd.R Kd.string 9 w w0.heap.size P0_ u9000_ l0) (h : slices_Reverse_string_string.f k l0 = some r) :
    Calls Try.prog 54 #[u9000_] w fun e w' => e = .returned (.tuple #[]) ∧ Kd.R Kd.string 9 w' w0.heap.size (fun k_ => (P0_ k_ ∨ w.heap.size ≤ k_)) u9000_ r ∧ Below w0.heap.size w0 w' ∧ Kept w w' (fun k_ => P0_ k_) := by
 have HO0 := Aside0.mk (show Kd.R Kd.string 9 w w0.heap.size (fun k_ => (P0_ k_ ∨ w.heap.size ≤ k_)) u9000_ l0 from Kd.R_mono ho0 (fun k_ hk => (.inl hk)))
 have HK := Aside0.mk (Kept.refl w (fun k_ => P0_ k_))
 have HW0 := Aside0.mk hB.size
 have HB := Aside0.mk hB
 clear hB
 have H : (slices_Reverse_string_string.l0 k l0 0 (wrap64 ((l0.length : Int) - 1))) = some r := h
 clear h
 have H' := Aside0.mk H
 clear H
 obtain ⟨Ao2, co2, eo2⟩ := Kd.R_slice HO0.out
 subst eo2
 go_enter Try.func54, Try.ntmps54
 go_wp2
 go_loopg [2, 3] k (fun kq v2 v3 w' => ∃ (x0_1 : List ByteArray) (x2_1 : Int) (x3_1 : Int), v2 = .int .i64 x2_1 ∧ v3 = .int .i64 x3_1 ∧ Aside0 (slices_Reverse_string_string.l0 kq x0_1 x2_1 x3_1 = some r) ∧ Aside0 (kq ≤ k) ∧ Aside0 (Kd.R Kd.string 9 w' w0.heap.size (fun k_ => (P0_ k_ ∨ w.heap.size ≤ k_)) (.slice Ao2 l0.length co2) x0_1) ∧ Aside0 (Kept w w' (fun k_ => P0_ k_)) ∧ Aside0 (Below w0.heap.size w0 w'))
 case atStart => exact ⟨(l0), (0), (wrap64 ((l0.length : Int) - 1)), (by first | rfl | (simp; done) | (simp [*]; done)), (by first | rfl | (simp; done) | (simp [*]; done)), H', ⟨Nat.le_refl _⟩, ⟨by (with_reducible repeat (first | apply Kd.R_alloc | apply Kd.R_drewN | apply Kd.R_drew)); exact HO0.out⟩, ⟨by repeat (first | (with_reducible first | exact HK.out | apply Kept.alloc | apply Kept.drewN | apply Kept.drew) | exact HK.out)⟩, ⟨by repeat (first | (with_reducible first | exact HB.out | apply below_alloc | apply pw_below_drewN | apply below_drew1) | exact HB.out)⟩⟩
 case round =>
  clear H'
  (try clear p2)
  obtain ⟨x0_1, x2_1, x3_1, rfl, rfl, HA, HK1, HO_0, HK, HB⟩ := hrel
  have hl0_1 := (Kd.R_reads' HO_0.out).1
  rw [hl0_1] at HO_0
  (try simp only [hl0_1])
  cases gk with
  | zero => exact absurd HA.out (by simp [slices_Reverse_string_string.l0])
  | succ k1 =>
   have H := HA.out
   clear HA
   simp only [slices_Reverse_string_string.l0] at H
   by_cases c3 : x2_1 < x3_1
   · rw [if_pos c3] at H
     have c3b0 : decide (x2_1 < x3_1) = true := decide_eq_true c3
     clear c3
     by_cases c4 : 0 ≤ x3_1
     · rw [if_pos c4] at H
       have c4b0 : decide (0 ≤ x3_1) = true := decide_eq_true c4
       clear c4
       by_cases c5 : x3_1 < (x0_1.length : Int)
       · rw [if_pos c5] at H
         have c5b0 : decide (x3_1 < (x0_1.length : Int)) = true := decide_eq_true c5
         (try (have c5b0_hl0_1 := c5b0; simp only [hl0_1] at c5b0_hl0_1))
         clear c5
         by_cases c6 : 0 ≤ x2_1
         · rw [if_pos c6] at H
           have c6b0 : decide (0 ≤ x2_1) = true := decide_eq_true c6
           clear c6
           by_cases c7 : x2_1 < (x0_1.length : Int)
           · rw [if_pos c7] at H
             have c7b0 : decide (x2_1 < (x0_1.length : Int)) = true := decide_eq_true c7
             (try (have c7b0_hl0_1 := c7b0; simp only [hl0_1] at c7b0_hl0_1))
             clear c7
             obtain ⟨y175, hy175⟩ : ∃ y_ : List ByteArray, y_ = (x0_1.set (x2_1 : Int).toNat (rdOf ByteArray.empty x0_1 x3_1)) := ⟨_, rfl⟩
             replace H : (slices_Reverse_string_string.l0 k1 (y175.set (x3_1 : Int).toNat (rdOf ByteArray.empty x0_1 x2_1)) (wrap64 (x2_1 + 1)) (wrap64 (x3_1 - 1))) = some r := by first | (rw [hy175]; with_reducible exact H) | (have H2_ := (Option.bind_some _ _).symm.trans H; rw [hy175]; with_reducible exact H2_) | (have H2_ := (Option.bind_some _ _).symm.trans H; with_reducible exact H2_) | with_reducible exact H | (rw [hy175]; exact H) | exact H
             have Ny175 := Aside0.mk hy175
             clear hy175
             obtain ⟨y176, hy176⟩ : ∃ y_ : List ByteArray, y_ = (y175.set (x3_1 : Int).toNat (rdOf ByteArray.empty x0_1 x2_1)) := ⟨_, rfl⟩
             replace H : (slices_Reverse_string_string.l0 k1 y176 (wrap64 (x2_1 + 1)) (wrap64 (x3_1 - 1))) = some r := by first | (rw [hy176]; with_reducible exact H) | (have H2_ := (Option.bind_some _ _).symm.trans H; rw [hy176]; with_reducible exact H2_) | (have H2_ := (Option.bind_some _ _).symm.trans H; with_reducible exact H2_) | with_reducible exact H | (rw [hy176]; exact H) | exact H
             have Ny176 := Aside0.mk hy176
             clear hy176
             have H' := Aside0.mk H
             clear H
             try go_wp2
             have n0_ := Aside0.mk (Kd.R_drew HO_0.out)
             have n1_ := Aside0.mk (Kept.drew HK.out)
             have n2_ := Aside0.mk (below_drew1 HB.out)
             clear HO_0
             clear HK
             clear HB
             have HO_0 := n0_
             have HK := n1_
             have HB := n2_
             clear n0_ n1_ n2_
             have p173 : 0 ≤ (x3_1 : Int) := of_decide_eq_true (by first | (with_reducible assumption) | assumption)
             have q173 : x3_1 < (x0_1.length : Int) := of_decide_eq_true (by first | (with_reducible assumption) | assumption)
             obtain ⟨ad173, e173, hx173_0⟩ := Kd.at_string (Kd.R_reads' HO_0.out).2.2 x3_1 p173 q173
             cases e173
             replace p173 := eq_true p173
             replace q173 := eq_true q173
             have p174 : 0 ≤ (x2_1 : Int) := of_decide_eq_true (by first | (with_reducible assumption) | assumption)
             have q174 : x2_1 < (x0_1.length : Int) := of_decide_eq_true (by first | (with_reducible assumption) | assumption)
             obtain ⟨ad174, e174, hx174_0⟩ := Kd.at_string (Kd.R_reads' HO_0.out).2.2 x2_1 p174 q174
             obtain rfl : ad173 = ad174 := (by injection e174)
             replace p174 := eq_true p174
             replace q174 := eq_true q174
             have p8 : 0 ≤ (x2_1 : Int) := of_decide_eq_true (by first | (with_reducible assumption) | assumption)
             have q8 : (x2_1 : Int) < ((x0_1.length : Int) : Int) := of_decide_eq_true (by first | (with_reducible assumption) | assumption)
             obtain ⟨go8, cozc1, eozc1, gb8, gl8, cl8, HG8⟩ := Kd.R_form HO_0.out (by omega)
             (first | cases eozc1 | (injection eozc1 with ea_ en_ ec_; (first | subst ea_ | (injection ea_ with ea_; subst ea_)); subst ec_; clear en_))
             have GB8 := Aside0.mk gb8
             have GG8 := Aside0.mk HG8
             clear gb8 gl8 HG8
             have HMgo8 := Aside0.mk (show (P0_ go8 ∨ w.heap.size ≤ go8) from (HO_0.out.1 _ rfl))
             (first | simp only [add_plain] at hx173_0 | skip)
             (first | simp only [add_plain] at hx174_0 | skip)
             obtain ⟨hx8_0, hf8_0⟩ := Kd.R_celln (⟨#[]⟩ : ByteArray) HO_0.out (x2_1 : Int) p8 q8
             replace p8 := eq_true p8
             replace q8 := eq_true q8
             have HP11 := Kd.R_putn HO_0.out (x2_1 : Int) (rdOf ByteArray.empty x0_1 x3_1)
             rw [← Ny175.out] at HP11
             have HQ11 := Aside0.mk HP11
             clear HP11
             have p9 : 0 ≤ (x3_1 : Int) := of_decide_eq_true (by first | (with_reducible assumption) | assumption)
             have q9 : (x3_1 : Int) < ((x0_1.length : Int) : Int) := of_decide_eq_true (by first | (with_reducible assumption) | assumption)
             obtain ⟨hx9_0, hf9_0⟩ := Kd.R_celln (⟨#[]⟩ : ByteArray) HQ11.out (x3_1 : Int) p9 q9
             replace p9 := eq_true p9
             replace q9 := eq_true q9
             have HP12 := Kd.R_putn HQ11.out (x3_1 : Int) (rdOf ByteArray.empty x0_1 x2_1)
             rw [← Ny176.out] at HP12
             have HQ12 := Aside0.mk HP12
             clear HP12
             refine start_ (n := 16) (S := fun w' => w'.cell? ⟨go8, (x3_1).toNat, none⟩ = some (.string (rdOf ByteArray.empty x0_1 x3_1)) ∧ w'.cell? ⟨go8, (x2_1).toNat, none⟩ = some (.string (rdOf ByteArray.empty x0_1 x2_1))) (ds := [13, 15]) #[false, false, false, false, false, false, false, false, false, false, false, false, false, false, false, false] (by kernel_rfl) rfl rfl ⟨hx173_0, hx174_0⟩ (fun hHeld => ?_); refine with_tabW slices_Reverse_string_string.tab3 slices_Reverse_string_string.bits3 (fun HT_ HW_ => ?_)
             generalize wr.drew = wzc1 at HO_0 HK HB GG8 HQ11 HQ12 hf8_0 hf9_0 hx173_0 hx174_0 hx8_0 hx9_0 hHeld ⊢
             refine pure_ (i := 0) (N := some 14) (v := ?_) (a' := ?_) #[true, false, false, false, false, false, false, false, false, false, false, false, false, false, false, false] rfl rfl (any_of HT_.out (by kernel_rfl)) (fun _ _ _ h => h) (Or.inl ⟨by rfl, ?_⟩) ?_ ?_
             rotate_left
             · intro w'
               go_simp
               with_reducible rfl
             rotate_left
             · simp only [Act.put, List.setIfInBounds_toArray, List.set_cons_zero, List.set_cons_succ, i64_w, i32_w]
               rfl
             refine pure_ (i := 1) (N := some 15) (v := ?_) (a' := ?_) #[true, true, false, false, false, false, false, false, false, false, false, false, false, false, false, false] rfl rfl (any_of HT_.out (by kernel_rfl)) (fun _ _ _ h => h) (Or.inl ⟨by rfl, ?_⟩) ?_ ?_
             rotate_left
             · intro w'
               go_simp
               with_reducible rfl
             rotate_left
             · simp only [Act.put, List.setIfInBounds_toArray, List.set_cons_zero, List.set_cons_succ, i64_w, i32_w]
               rfl
             refine pure_ (i := 2) (N := some 16) (v := ?_) (a' := ?_) #[true, true, true, false, false, false, false, false, false, false, false, false, false, false, false, false] rfl rfl (any_of HT_.out (by kernel_rfl)) (fun _ _ _ h => h) (Or.inl ⟨by rfl, ?_⟩) ?_ ?_
             rotate_left
             · intro w'
               go_simp
               with_reducible rfl
             rotate_left
             · simp only [Act.put, List.setIfInBounds_toArray, List.set_cons_zero, List.set_cons_succ, i64_w, i32_w]
               rfl
             refine pure_ (i := 3) (N := some 17) (v := ?_) (a' := ?_) #[true, true, true, true, false, false, false, false, false, false, false, false, false, false, false, false] rfl rfl (any_of HT_.out (by kernel_rfl)) (fun _ _ _ h => h) (Or.inl ⟨by rfl, ?_⟩) ?_ ?_
             rotate_left
             · intro w'
               go_simp
               with_reducible rfl
             rotate_left
             · simp only [Act.put, List.setIfInBounds_toArray, List.set_cons_zero, List.set_cons_succ, i64_w, i32_w]
               rfl
             refine pure_ (i := 4) (N := some 18) (v := ?_) (a' := ?_) #[true, true, true, true, true, false, false, false, false, false, false, false, false, false, false, false] rfl rfl (any_of HT_.out (by kernel_rfl)) (fun _ _ _ h => h) (Or.inl ⟨by rfl, ?_⟩) ?_ ?_
             rotate_left
             · intro w'
               go_simp
               with_reducible rfl
             rotate_left
             · simp only [Act.put, List.setIfInBounds_toArray, List.set_cons_zero, List.set_cons_succ, i64_w, i32_w]
               rfl
             refine pure_ (i := 5) (N := some 19) (v := ?_) (a' := ?_) #[true, true, true, true, true, true, false, false, false, false, false, false, false, false, false, false] rfl rfl (any_of HT_.out (by kernel_rfl)) (fun _ _ _ h => h) (Or.inl ⟨by rfl, ?_⟩) ?_ ?_
             rotate_left
             · intro w'
               go_simp
               with_reducible rfl
             rotate_left
             · simp only [Act.put, List.setIfInBounds_toArray, List.set_cons_zero, List.set_cons_succ, i64_w, i32_w]
               rfl
             refine pure_ (i := 6) (N := some 20) (v := ?_) (a' := ?_) #[true, true, true, true, true, true, true, false, false, false, false, false, false, false, false, false] rfl rfl (any_of HT_.out (by kernel_rfl)) (fun _ _ _ h => h) (Or.inl ⟨by rfl, ?_⟩) ?_ ?_
             rotate_left
             · intro w'
               go_simp
               with_reducible rfl
             rotate_left
             · simp only [Act.put, List.setIfInBounds_toArray, List.set_cons_zero, List.set_cons_succ, i64_w, i32_w]
               rfl
             refine pure_ (i := 8) (N := some 22) (v := ?_) (a' := ?_) #[true, true, true, true, true, true, true, false, true, false, false, false, false, false, false, false] rfl rfl (any_of HT_.out (by kernel_rfl)) (fun _ _ _ h => h) (Or.inl ⟨by rfl, ?_⟩) ?_ ?_
             rotate_left
             · intro w'
               go_simp
               with_reducible rfl
             rotate_left
             · simp only [Act.put, List.setIfInBounds_toArray, List.set_cons_zero, List.set_cons_succ, i64_w, i32_w]
               rfl
             refine pure_ (i := 9) (N := some 23) (v := ?_) (a' := ?_) #[true, true, true, true, true, true, true, false, true, true, false, false, false, false, false, false] rfl rfl (any_of HT_.out (by kernel_rfl)) (fun _ _ _ h => h) (Or.inl ⟨by rfl, ?_⟩) ?_ ?_
             rotate_left
             · intro w'
               go_simp
               with_reducible rfl
             rotate_left
             · simp only [Act.put, List.setIfInBounds_toArray, List.set_cons_zero, List.set_cons_succ, i64_w, i32_w]
               rfl
             refine pure_ (i := 10) (N := some 24) (v := ?_) (a' := ?_) #[true, true, true, true, true, true, true, false, true, true, true, false, false, false, false, false] rfl rfl (any_of HT_.out (by kernel_rfl)) (fun _ _ _ h => h) (Or.inl ⟨by rfl, ?_⟩) ?_ ?_
             rotate_left
             · intro w'
               go_simp
               with_reducible rfl
             rotate_left
             · simp only [Act.put, List.setIfInBounds_toArray, List.set_cons_zero, List.set_cons_succ, i64_w, i32_w]
               rfl
             refine take_ (i := 7) (N := some 21) (v := ?_) (a' := ?_) #[true, true, true, true, true, true, true, true, true, true, true, false, false, false, false, false] rfl rfl (take_ofW HT_.out HW_.out (by kernel_rfl)) (fun _ _ _ h => h) (Or.inl ⟨by rfl, ?_⟩) hHeld ?_ ?_
             rotate_left
             · rintro w' ⟨s0, s1⟩
               go_simp
               with_reducible rfl
             rotate_left
             · simp only [Act.put, List.setIfInBounds_toArray, List.set_cons_zero, List.set_cons_succ, i64_w, i32_w]
               rfl
             refine take_ (i := 11) (N := some 25) (v := ?_) (a' := ?_) #[true, true, true, true, true, true, true, true, true, true, true, true, false, false, false, false] rfl rfl (take_ofW HT_.out HW_.out (by kernel_rfl)) (fun _ _ _ h => h) (Or.inl ⟨by rfl, ?_⟩) hHeld ?_ ?_
             rotate_left
             · rintro w' ⟨s0, s1⟩
               go_simp
               with_reducible rfl
             rotate_left
             · simp only [Act.put, List.setIfInBounds_toArray, List.set_cons_zero, List.set_cons_succ, i64_w, i32_w]
               rfl
             refine pure_ (i := 12) (N := some 26) (v := ?_) (a' := ?_) #[true, true, true, true, true, true, true, true, true, true, true, true, true, false, false, false] rfl rfl (any_of HT_.out (by kernel_rfl)) (fun _ _ _ h => h) (Or.inl ⟨by rfl, ?_⟩) ?_ ?_
             rotate_left
             · intro w'
               go_simp
               with_reducible rfl
             rotate_left
             · simp only [Act.put, List.setIfInBounds_toArray, List.set_cons_zero, List.set_cons_succ, i64_w, i32_w]
               rfl
             refine last_ (i := 13) (N := none) #[true, true, true, true, true, true, true, true, true, true, true, true, true, true, false, false] rfl rfl (one_of HT_.out (by kernel_rfl)) (by decide) (fun K hK => ?_)
             (with_reducible refine skip_ (w1 := ?_) ?hA_ ?hB_ ?_ ?_); (case hA_ => rfl); (case hB_ => rfl)
             rotate_left
             · go_simp
               rfl
             refine hK.out _ _ ?_
             clear hK K
             refine pure_ (i := 14) (N := some 27) (v := ?_) (a' := ?_) #[true, true, true, true, true, true, true, true, true, true, true, true, true, true, true, false] rfl rfl (any_of HT_.out (by kernel_rfl)) (fun _ _ _ h => h) (Or.inl ⟨by rfl, ?_⟩) ?_ ?_
             rotate_left
             · intro w'
               go_simp
               with_reducible rfl
             rotate_left
             · simp only [Act.put, List.setIfInBounds_toArray, List.set_cons_zero, List.set_cons_succ, i64_w, i32_w]
               rfl
             refine last_ (i := 15) (N := none) #[true, true, true, true, true, true, true, true, true, true, true, true, true, true, true, true] rfl rfl (one_of HT_.out (by kernel_rfl)) (by decide) (fun K hK => ?_)
             (with_reducible refine skip_ (w1 := ?_) ?hA_ ?hB_ ?_ ?_); (case hA_ => rfl); (case hB_ => rfl)
             rotate_left
             · go_simp
               rfl
             refine hK.out _ _ ?_
             clear hK K
             refine done_ (done_of HT_.out (by kernel_rfl)) ?_
             try go_wp2
             (try simp only [← hl0_1])
             go_roundg k1
             case measure => have := HK1.out; omega
             case rel => exact ⟨(y176), (wrap64 (x2_1 + 1)), (wrap64 (x3_1 - 1)), (by first | rfl | (simp; done) | (simp [*]; done)), (by first | rfl | (simp; done) | (simp [*]; done)), H', ⟨by have := HK1.out; omega⟩, ⟨by (try simp only [hl0_1]); (with_reducible repeat (first | apply Kd.R_alloc | apply Kd.R_drewN | apply Kd.R_drew)); exact HQ12.out⟩, ⟨by repeat (first | (with_reducible first | exact HK.out | apply Kept.alloc | apply Kept.drewN | apply Kept.drew | refine Kept.setCell ?_ HMgo8.out _ | refine Kept.setCell ?_ HMgo8.out _) | exact HK.out)⟩, ⟨by repeat (first | (with_reducible first | exact HB.out | apply below_alloc | apply pw_below_drewN | apply below_drew1 | refine below_set ?_ GB8.out | refine below_set ?_ GB8.out) | exact HB.out)⟩⟩
           · rw [if_neg c7] at H
             exact absurd H (by simp)
         · rw [if_neg c6] at H
           exact absurd H (by simp)
       · rw [if_neg c5] at H
         exact absurd H (by simp)
     · rw [if_neg c4] at H
       exact absurd H (by simp)
   · rw [if_neg c3] at H
     have c3b0 : decide (x2_1 < x3_1) = false := decide_eq_false c3
     clear c3
     obtain rfl := Option.some.inj H
     go_wp2
     first | go_end0 | ((try simp only [Exit.inBlock, Exit.then]); refine bodyPost_ret (results_none rfl _ _ _) rfl ?_)
     exact ⟨by first | rfl | (simp [errW_none, errW_some] <;> rfl) | (simp [*, errW_none, errW_some] <;> rfl), (by first | exact (by (with_reducible repeat (first | apply Kd.R_alloc | apply Kd.R_drewN | apply Kd.R_drew)); exact HO_0.out) | (simp only [hl0_1]; exact (by (with_reducible repeat (first | apply Kd.R_alloc | apply Kd.R_drewN | apply Kd.R_drew)); exact HO_0.out))), by repeat (first | (with_reducible first | exact HB.out | apply below_alloc | apply pw_below_drewN | apply below_drew1) | exact HB.out), by repeat (first | (with_reducible first | exact HK.out | apply Kept.alloc | apply Kept.drewN | apply Kept.drew) | exact HK.out)⟩

end Go.Proofs.Ytbpbpojnfhhbjaa.PRouteLength
