/- Made by a program of this session (wip/tools/myprint.py, over the kit's printer): that the Go functions answer as the Lean functions printed beside them. -/
import Derived.Test.YteaddpieonkboabPTubeCutsx0
import Derived.Test.YteaddpieonkboabPTubeCutsx1
import Derived.Test.YteaddpieonkboabPTubeCutsx2
import Derived.Test.YteaddpieonkboabPTubeCutsx5
import Derived.Test.YteaddpieonkboabPTubeCutsx6
import Derived.Test.YteaddpieonkboabPTubeCutsx7
namespace Go.Proofs.Yteaddpieonkboab.PTubeCuts
open Go.RowKit Go.Proofs.YteaddpieonkboabW.PrintWords Go.Proofs.YteaddpieonkboabW.PrintLast Go.Proofs.YteaddpieonkboabW.PrintMore
attribute [local go_sem] max2_int min2_int max_two min_two max_three min_three max_four min_four   -- for this text's walks alone
set_option linter.unusedVariables false
set_option linter.unusedSimpArgs false

attribute [local go_sem high] eqA30
/-! ### tube_Cut: function 21 -/
mutual
def tube_Cut.j0 : Nat → List (S30) → Int → Int → Bool → Int → Int → Int → Int → Int → Int → Int → Int → Int → Int → Int → Int → Option ((List (S30)) × Int)
  | 0, _, _, _, _, _, _, _, _, _, _, _, _, _, _, _, _ => none
  | k + 1, x0, x1, x2, x43, x212000, x212001, x212002, x212003, x212004, x212005, x220000, x220001, x220002, x220003, x220004, x220005 => if x43 = true then (some (([] : List (S30)), 12)) else (tube_Cut.l0 k x1 x2 (([(⟨(⟨x212000, (⟨x212001, x212002⟩ : S26), x212003⟩ : S28), x212004, x212005⟩ : S30)] : List (S30))) x0 (x0.length : Int) 0 x220000 x220001 x220002 x220003 x220004 x220005)
def tube_Cut.l0 : Nat → Int → Int → List (S30) → List (S30) → Int → Int → Int → Int → Int → Int → Int → Int → Option ((List (S30)) × Int)
  | 0, _, _, _, _, _, _, _, _, _, _, _, _ => none
  | k + 1, x1, x2, x13, x46, x47, x48, x220000, x220001, x220002, x220003, x220004, x220005 => if x48 < x47 then (if 0 ≤ x48 then (if x48 < (x46.length : Int) then (if ((rd_T30 x46 x48).f0.f0) > x1 then (if ((rd_T30 x46 x48).f0.f0) < x2 then (if x13.length < 2932031007402 then (tube_Cut.l0 k x1 x2 (x13 ++ [(⟨(⟨(rd_T30 x46 x48).f0.f0, (⟨(rd_T30 x46 x48).f0.f1.f0, (rd_T30 x46 x48).f0.f1.f1⟩ : S26), (rd_T30 x46 x48).f0.f2⟩ : S28), (rd_T30 x46 x48).f1, (rd_T30 x46 x48).f2⟩ : S30)]) x46 x47 (wrap64 (x48 + 1)) x220000 x220001 x220002 x220003 x220004 x220005) else (none)) else (tube_Cut.l0 k x1 x2 x13 x46 x47 (wrap64 (x48 + 1)) x220000 x220001 x220002 x220003 x220004 x220005)) else (tube_Cut.l0 k x1 x2 x13 x46 x47 (wrap64 (x48 + 1)) x220000 x220001 x220002 x220003 x220004 x220005)) else (none)) else (none)) else (if x2 > x1 then (if x13.length < 2932031007402 then (some ((x13 ++ [(⟨(⟨x220000, (⟨x220001, x220002⟩ : S26), x220003⟩ : S28), x220004, x220005⟩ : S30)]), 0)) else (none)) else (some (x13, 0)))
end
def tube_Cut.f (k : Nat) (l0 : List (S30)) (a1 : Int) (a2 : Int) : Option ((List (S30)) × Int) := (tube_Check.f k l0).bind fun t203 => (if t203 = 0 then ((tube_at.f k l0 a1).bind fun bt204 => ((tube_at.f k l0 a2).bind fun bt212 => (if bt204.2.2.2.2.2.2 = 0 then (if bt212.2.2.2.2.2.2 = 0 then (tube_Cut.j0 k l0 a1 a2 (decide (a1 > a2)) bt204.1 bt204.2.1 bt204.2.2.1 bt204.2.2.2.1 bt204.2.2.2.2.1 bt204.2.2.2.2.2.1 bt212.1 bt212.2.1 bt212.2.2.1 bt212.2.2.2.1 bt212.2.2.2.2.1 bt212.2.2.2.2.2.1) else (tube_Cut.j0 k l0 a1 a2 true bt204.1 bt204.2.1 bt204.2.2.1 bt204.2.2.2.1 bt204.2.2.2.2.1 bt204.2.2.2.2.2.1 bt212.1 bt212.2.1 bt212.2.2.1 bt212.2.2.2.1 bt212.2.2.2.2.1 bt212.2.2.2.2.2.1)) else (tube_Cut.j0 k l0 a1 a2 true bt204.1 bt204.2.1 bt204.2.2.1 bt204.2.2.2.1 bt204.2.2.2.2.1 bt204.2.2.2.2.2.1 bt212.1 bt212.2.1 bt212.2.2.1 bt212.2.2.2.1 bt212.2.2.2.2.1 bt212.2.2.2.2.2.1)))) else (some (([] : List (S30)), t203)))
theorem tube_Cut.mono_l : ∀ k, (∀ y0 y1 y2 y3 y4 y5 y6 y7 y8 y9 y10 y11 y12 y13 y14 y15, LeO (tube_Cut.j0 k y0 y1 y2 y3 y4 y5 y6 y7 y8 y9 y10 y11 y12 y13 y14 y15) (tube_Cut.j0 (k + 1) y0 y1 y2 y3 y4 y5 y6 y7 y8 y9 y10 y11 y12 y13 y14 y15)) ∧ (∀ y0 y1 y2 y3 y4 y5 y6 y7 y8 y9 y10 y11, LeO (tube_Cut.l0 k y0 y1 y2 y3 y4 y5 y6 y7 y8 y9 y10 y11) (tube_Cut.l0 (k + 1) y0 y1 y2 y3 y4 y5 y6 y7 y8 y9 y10 y11))
  | 0 => ⟨fun _ _ _ _ _ _ _ _ _ _ _ _ _ _ _ _ r h => by simp [tube_Cut.j0] at h, fun _ _ _ _ _ _ _ _ _ _ _ _ r h => by simp [tube_Cut.l0] at h⟩
  | k + 1 => by
    obtain ⟨ih0, ih1⟩ := tube_Cut.mono_l k
    refine ⟨?_, ?_⟩
    · intro y0 y1 y2 y3 y4 y5 y6 y7 y8 y9 y10 y11 y12 y13 y14 y15
      unfold tube_Cut.j0
      repeat' first
      | (with_reducible exact ih0 _ _ _ _ _ _ _ _ _ _ _ _ _ _ _ _)
      | (with_reducible exact ih1 _ _ _ _ _ _ _ _ _ _ _ _)
      | (with_reducible exact tube_Check.mono _ _)
      | (with_reducible exact tube_at.mono _ _ _)
      | (with_reducible exact LeO.refl _)
      | (with_reducible exact LeO.none _)
      | (with_reducible refine LeO.ite ?_ ?_)
      | (with_reducible refine LeO.bind ?_ (fun _ => ?_))
      | exact ih0 _ _ _ _ _ _ _ _ _ _ _ _ _ _ _ _
      | exact ih1 _ _ _ _ _ _ _ _ _ _ _ _
      | exact tube_Check.mono _ _
      | exact tube_at.mono _ _ _
      | exact LeO.none _
      | refine LeO.ite ?_ ?_
      | refine LeO.bind ?_ (fun _ => ?_)
    · intro y0 y1 y2 y3 y4 y5 y6 y7 y8 y9 y10 y11
      unfold tube_Cut.l0
      repeat' first
      | (with_reducible exact ih0 _ _ _ _ _ _ _ _ _ _ _ _ _ _ _ _)
      | (with_reducible exact ih1 _ _ _ _ _ _ _ _ _ _ _ _)
      | (with_reducible exact tube_Check.mono _ _)
      | (with_reducible exact tube_at.mono _ _ _)
      | (with_reducible exact LeO.refl _)
      | (with_reducible exact LeO.none _)
      | (with_reducible refine LeO.ite ?_ ?_)
      | (with_reducible refine LeO.bind ?_ (fun _ => ?_))
      | exact ih0 _ _ _ _ _ _ _ _ _ _ _ _ _ _ _ _
      | exact ih1 _ _ _ _ _ _ _ _ _ _ _ _
      | exact tube_Check.mono _ _
      | exact tube_at.mono _ _ _
      | exact LeO.none _
      | refine LeO.ite ?_ ?_
      | refine LeO.bind ?_ (fun _ => ?_)
theorem tube_Cut.mono : ∀ a0 a1 a2 k, LeO (tube_Cut.f k a0 a1 a2) (tube_Cut.f (k + 1) a0 a1 a2) := by
  intro a0 a1 a2 k
  obtain ⟨ih0, ih1⟩ := tube_Cut.mono_l k
  unfold tube_Cut.f
  repeat' first
      | (with_reducible exact ih0 _ _ _ _ _ _ _ _ _ _ _ _ _ _ _ _)
      | (with_reducible exact ih1 _ _ _ _ _ _ _ _ _ _ _ _)
      | (with_reducible exact tube_Check.mono _ _)
      | (with_reducible exact tube_at.mono _ _ _)
      | (with_reducible exact LeO.refl _)
      | (with_reducible exact LeO.none _)
      | (with_reducible refine LeO.ite ?_ ?_)
      | (with_reducible refine LeO.bind ?_ (fun _ => ?_))
      | exact ih0 _ _ _ _ _ _ _ _ _ _ _ _ _ _ _ _
      | exact ih1 _ _ _ _ _ _ _ _ _ _ _ _
      | exact tube_Check.mono _ _
      | exact tube_at.mono _ _ _
      | exact LeO.none _
      | refine LeO.ite ?_ ?_
      | refine LeO.bind ?_ (fun _ => ?_)
set_option maxHeartbeats 8000000 in
set_option maxRecDepth 100000 in
theorem tube_Cut.calls (k : Nat) (A0 : Option Addr) (c0 : Nat) (l0 : List (S30)) (a1 : Int) (a2 : Int) (r1 : List (S30)) (r2 : Int) (w : World) (hr0 : Kd.C k30 w A0 l0.length l0) (hc0 : l0.length ≤ c0) (h : tube_Cut.f k l0 a1 a2 = some (r1, r2)) :
    Calls Try.prog 21 #[.slice A0 l0.length c0, .int .i64 a1, .int .i64 a2] w fun e w' => ∃ v0_ : Value, e = .returned (.tuple #[v0_, .int .i64 r2]) ∧ Kd.R k30 30 w' w.heap.size (fun _ => True) v0_ r1 ∧ Below w.heap.size w w' := by
 have hu30 := Try.underlying30
 have HR0 := Aside0.mk hr0
 have HC0 := Aside0.mk hc0
 clear hr0 hc0
 have HB := Aside0.mk (Below.refl w.heap.size w)
 have H : ((tube_Check.f k l0).bind fun t203 => (if t203 = 0 then ((tube_at.f k l0 a1).bind fun bt204 => ((tube_at.f k l0 a2).bind fun bt212 => (if bt204.2.2.2.2.2.2 = 0 then (if bt212.2.2.2.2.2.2 = 0 then (tube_Cut.j0 k l0 a1 a2 (decide (a1 > a2)) bt204.1 bt204.2.1 bt204.2.2.1 bt204.2.2.2.1 bt204.2.2.2.2.1 bt204.2.2.2.2.2.1 bt212.1 bt212.2.1 bt212.2.2.1 bt212.2.2.2.1 bt212.2.2.2.2.1 bt212.2.2.2.2.2.1) else (tube_Cut.j0 k l0 a1 a2 true bt204.1 bt204.2.1 bt204.2.2.1 bt204.2.2.2.1 bt204.2.2.2.2.1 bt204.2.2.2.2.2.1 bt212.1 bt212.2.1 bt212.2.2.1 bt212.2.2.2.1 bt212.2.2.2.2.1 bt212.2.2.2.2.2.1)) else (tube_Cut.j0 k l0 a1 a2 true bt204.1 bt204.2.1 bt204.2.2.1 bt204.2.2.2.1 bt204.2.2.2.2.1 bt204.2.2.2.2.2.1 bt212.1 bt212.2.1 bt212.2.2.1 bt212.2.2.2.1 bt212.2.2.2.2.1 bt212.2.2.2.2.2.1)))) else (some (([] : List (S30)), t203)))) = some (r1, r2) := h
 clear h
 replace H := Option.bind_eq_some_iff.mp H
 obtain ⟨t203, A40, H⟩ := H
 replace H : (if t203 = 0 then ((tube_at.f k l0 a1).bind fun bt204 => ((tube_at.f k l0 a2).bind fun bt212 => (if bt204.2.2.2.2.2.2 = 0 then (if bt212.2.2.2.2.2.2 = 0 then (tube_Cut.j0 k l0 a1 a2 (decide (a1 > a2)) bt204.1 bt204.2.1 bt204.2.2.1 bt204.2.2.2.1 bt204.2.2.2.2.1 bt204.2.2.2.2.2.1 bt212.1 bt212.2.1 bt212.2.2.1 bt212.2.2.2.1 bt212.2.2.2.2.1 bt212.2.2.2.2.2.1) else (tube_Cut.j0 k l0 a1 a2 true bt204.1 bt204.2.1 bt204.2.2.1 bt204.2.2.2.1 bt204.2.2.2.2.1 bt204.2.2.2.2.2.1 bt212.1 bt212.2.1 bt212.2.2.1 bt212.2.2.2.1 bt212.2.2.2.2.1 bt212.2.2.2.2.2.1)) else (tube_Cut.j0 k l0 a1 a2 true bt204.1 bt204.2.1 bt204.2.2.1 bt204.2.2.2.1 bt204.2.2.2.2.1 bt204.2.2.2.2.2.1 bt212.1 bt212.2.1 bt212.2.2.1 bt212.2.2.2.1 bt212.2.2.2.2.1 bt212.2.2.2.2.2.1)))) else (some (([] : List (S30)), t203))) = some (r1, r2) := H
 have A4 := Aside0.mk A40
 clear A40
 refine Or.elim (Classical.em (t203 = 0)) (fun c5 => ?p2_) (fun c5 => ?n2_)
 case' p2_ =>
  rw [if_pos c5] at H
  have c5b0 : (t203 == 0) = true := beq_iff_eq.mpr c5
  have c5b1 : (t203 != 0) = false := bne_eq_false_iff_eq.mpr c5
  clear c5
  replace H := Option.bind_eq_some_iff.mp H
  obtain ⟨⟨t204, t205, t206, t207, t208, t209, t210⟩, A60, H⟩ := H
  replace H : ((tube_at.f k l0 a2).bind fun bt212 => (if t210 = 0 then (if bt212.2.2.2.2.2.2 = 0 then (tube_Cut.j0 k l0 a1 a2 (decide (a1 > a2)) t204 t205 t206 t207 t208 t209 bt212.1 bt212.2.1 bt212.2.2.1 bt212.2.2.2.1 bt212.2.2.2.2.1 bt212.2.2.2.2.2.1) else (tube_Cut.j0 k l0 a1 a2 true t204 t205 t206 t207 t208 t209 bt212.1 bt212.2.1 bt212.2.2.1 bt212.2.2.2.1 bt212.2.2.2.2.1 bt212.2.2.2.2.2.1)) else (tube_Cut.j0 k l0 a1 a2 true t204 t205 t206 t207 t208 t209 bt212.1 bt212.2.1 bt212.2.2.1 bt212.2.2.2.1 bt212.2.2.2.2.1 bt212.2.2.2.2.2.1))) = some (r1, r2) := H
  have A6 := Aside0.mk A60
  clear A60
  replace H := Option.bind_eq_some_iff.mp H
  obtain ⟨⟨t212, t213, t214, t215, t216, t217, t218⟩, A70, H⟩ := H
  replace H : (if t210 = 0 then (if t218 = 0 then (tube_Cut.j0 k l0 a1 a2 (decide (a1 > a2)) t204 t205 t206 t207 t208 t209 t212 t213 t214 t215 t216 t217) else (tube_Cut.j0 k l0 a1 a2 true t204 t205 t206 t207 t208 t209 t212 t213 t214 t215 t216 t217)) else (tube_Cut.j0 k l0 a1 a2 true t204 t205 t206 t207 t208 t209 t212 t213 t214 t215 t216 t217)) = some (r1, r2) := H
  have A7 := Aside0.mk A70
  clear A70
  have HC8 := Aside0.mk H
  clear H
  have hm1_0 := Aside0.mk trivial
 case' n2_ =>
  rw [if_neg c5] at H
  have c5b0 : (t203 == 0) = false := beq_eq_false_iff_ne.mpr c5
  have c5b1 : (t203 != 0) = true := bne_iff_ne.mpr c5
  simp only [Option.some.injEq, Prod.mk.injEq] at H
  obtain ⟨rfl, rfl⟩ := H
  have hm1_1 := Aside0.mk trivial
 all_goals
  go_enter Try.func21, Try.ntmps21
  first
   | clear hm1_0
     go_upto_region 6 with (first | ((with_reducible refine gate_callee (f := 20) rfl ?_); refine goesL_ (some 17) rfl rfl Try.func20 (by kernel_rfl) rfl #[.slice A0 l0.length c0] rfl (by (try simp only [List.map_toArray, List.map_cons, List.map_nil]); first | done | rfl | (simp only [List.length_drop, List.length_take]; rfl)) ?_; (with_reducible refine (tube_Check.calls k _ _ l0 t203 _ ?side1 ?side2 A4.out).mono ?_); (case side1 => repeat (first | exact HR0.out | (with_reducible refine Kd.C_alloc ?_ _) | (with_reducible refine Kd.C_drewN ?_ _) | (with_reducible refine Kd.C_drew ?_))); (case side2 => exact HC0.out); rintro e wx3d701 ⟨rfl, hb⟩; refine ⟨_, rfl, ?_⟩; have n0_ := Aside0.mk (below_step (by repeat (first | (with_reducible first | exact HB.out | apply below_alloc | apply pw_below_drewN | apply below_drew1) | exact HB.out)) hb); clear HB; have HB := n0_; clear n0_; (try clear hb); (try clear hb2); (try clear hk); (try clear hi)) | ((with_reducible refine gate_callee (f := 40) rfl ?_); refine goesL_ (some 24) rfl rfl Try.func40 (by kernel_rfl) rfl #[.slice A0 l0.length c0, .int .i64 a1] rfl (by (try simp only [List.map_toArray, List.map_cons, List.map_nil]); first | done | rfl | (simp only [List.length_drop, List.length_take]; rfl)) ?_; (with_reducible refine (tube_at.calls k _ _ l0 a1 t204 t205 t206 t207 t208 t209 t210 _ ?side1 ?side2 A6.out).mono ?_); (case side1 => repeat (first | exact (Kd.C_below HR0.out HB.out) | (with_reducible refine Kd.C_alloc ?_ _) | (with_reducible refine Kd.C_drewN ?_ _) | (with_reducible refine Kd.C_drew ?_))); (case side2 => exact HC0.out); rintro e wx0a331 ⟨rfl, hb⟩; refine ⟨_, rfl, ?_⟩; have n0_ := Aside0.mk (below_step (by repeat (first | (with_reducible first | exact HB.out | apply below_alloc | apply pw_below_drewN | apply below_drew1) | exact HB.out)) hb); clear HB; have HB := n0_; clear n0_; (try clear hb); (try clear hb2); (try clear hk); (try clear hi)) | ((with_reducible refine gate_dst (N := 9) rfl ?_); refine box_event ?hg (N := 9) ?hd (cs := #[.int .i64 0, .int .i64 0, .int .i64 0, .int .i64 0, .int .i64 0, .int .i64 0]) (t := 30) ?hr ?_; (case hd => rfl); (case hg => rfl); (case hr => first | (go_simp; done) | (go_simp; rfl)); intro gb211 hg wxb7481 hbox hb; have n0_ := Aside0.mk (below_step (by repeat (first | (with_reducible first | exact HB.out | apply below_alloc | apply pw_below_drewN | apply below_drew1) | exact HB.out)) hb); have n1_ := Aside0.mk (hbox); have n2_ := Aside0.mk ((by rw [hg]; exact (below_size (by repeat (first | (with_reducible first | exact HB.out | apply below_alloc | apply pw_below_drewN | apply below_drew1) | exact HB.out))) : w.heap.size ≤ gb211)); have n3_ := Aside0.mk ((by rw [hg]; exact (below_size (by repeat (first | (with_reducible first | exact HB.out | apply below_alloc | apply pw_below_drewN | apply below_drew1) | exact HB.out))) : w.heap.size ≤ gb211)); clear HB; have HB := n0_; have BK211 := n1_; have GW211 := n2_; have GE211 := n3_; clear n0_ n1_ n2_ n3_; clear hb hbox hg; have hczxb7481 : wxb7481.cell? ⟨gb211, 0, none⟩ = some (.int .i64 0) := (blk_cell BK211.out 0).trans rfl; have hczxb7482 : wxb7481.cell? ⟨gb211, 1, none⟩ = some (.int .i64 0) := (blk_cell BK211.out 1).trans rfl; have hczxb7483 : wxb7481.cell? ⟨gb211, 2, none⟩ = some (.int .i64 0) := (blk_cell BK211.out 2).trans rfl; have hczxb7484 : wxb7481.cell? ⟨gb211, 3, none⟩ = some (.int .i64 0) := (blk_cell BK211.out 3).trans rfl; have hczxb7485 : wxb7481.cell? ⟨gb211, 4, none⟩ = some (.int .i64 0) := (blk_cell BK211.out 4).trans rfl; have hczxb7486 : wxb7481.cell? ⟨gb211, 5, none⟩ = some (.int .i64 0) := (blk_cell BK211.out 5).trans rfl; have hfzxb7481 := blk_frozen BK211.out 0; have hfzxb7482 := blk_frozen BK211.out 1; have hfzxb7483 := blk_frozen BK211.out 2; have hfzxb7484 := blk_frozen BK211.out 3; have hfzxb7485 := blk_frozen BK211.out 4; have hfzxb7486 := blk_frozen BK211.out 5) | ((with_reducible refine gate_callee (f := 40) rfl ?_); refine goesL_ (some 30) rfl rfl Try.func40 (by kernel_rfl) rfl #[.slice A0 l0.length c0, .int .i64 a2] rfl (by (try simp only [List.map_toArray, List.map_cons, List.map_nil]); first | done | rfl | (simp only [List.length_drop, List.length_take]; rfl)) ?_; (with_reducible refine (tube_at.calls k _ _ l0 a2 t212 t213 t214 t215 t216 t217 t218 _ ?side1 ?side2 A7.out).mono ?_); (case side1 => exact Kd.C_below HR0.out (by repeat (first | (with_reducible first | exact HB.out | apply below_alloc | apply pw_below_drewN | apply below_drew1 | refine below_set ?_ GE211.out) | exact HB.out))); (case side2 => exact HC0.out); rintro e wx1d441 ⟨rfl, hb⟩; refine ⟨_, rfl, ?_⟩; have n0_ := Aside0.mk (blk_below (g := gb211) (o := .cells #[.int .i64 t204, .int .i64 t205, .int .i64 t206, .int .i64 t207, .int .i64 t208, .int .i64 t209] 30 (0, 0)) (by (with_reducible repeat (first | refine blk_drewN ?_ _ | refine blk_drew ?_ | refine blk_alloc ?_ _)); refine blk_put (cs := #[.int .i64 t204, .int .i64 t205, .int .i64 t206, .int .i64 t207, .int .i64 t208, .int .i64 0]) ?_ 5 _ rfl; (with_reducible repeat (first | refine blk_drewN ?_ _ | refine blk_drew ?_ | refine blk_alloc ?_ _)); refine blk_put (cs := #[.int .i64 t204, .int .i64 t205, .int .i64 t206, .int .i64 t207, .int .i64 0, .int .i64 0]) ?_ 4 _ rfl; (with_reducible repeat (first | refine blk_drewN ?_ _ | refine blk_drew ?_ | refine blk_alloc ?_ _)); refine blk_put (cs := #[.int .i64 t204, .int .i64 t205, .int .i64 t206, .int .i64 0, .int .i64 0, .int .i64 0]) ?_ 3 _ rfl; (with_reducible repeat (first | refine blk_drewN ?_ _ | refine blk_drew ?_ | refine blk_alloc ?_ _)); refine blk_put (cs := #[.int .i64 t204, .int .i64 t205, .int .i64 0, .int .i64 0, .int .i64 0, .int .i64 0]) ?_ 2 _ rfl; (with_reducible repeat (first | refine blk_drewN ?_ _ | refine blk_drew ?_ | refine blk_alloc ?_ _)); refine blk_put (cs := #[.int .i64 t204, .int .i64 0, .int .i64 0, .int .i64 0, .int .i64 0, .int .i64 0]) ?_ 1 _ rfl; (with_reducible repeat (first | refine blk_drewN ?_ _ | refine blk_drew ?_ | refine blk_alloc ?_ _)); refine blk_put (cs := #[.int .i64 0, .int .i64 0, .int .i64 0, .int .i64 0, .int .i64 0, .int .i64 0]) ?_ 0 _ rfl; (with_reducible repeat (first | refine blk_drewN ?_ _ | refine blk_drew ?_ | refine blk_alloc ?_ _)); exact BK211.out) hb); have n1_ := Aside0.mk (below_step (by repeat (first | (with_reducible first | exact HB.out | apply below_alloc | apply pw_below_drewN | apply below_drew1 | refine below_set ?_ GE211.out) | exact HB.out)) hb); clear BK211; clear HB; have BK211 := n0_; have HB := n1_; clear n0_ n1_; (try clear hb); (try clear hb2); (try clear hk); (try clear hi)) | ((with_reducible refine gate_dst (N := 11) rfl ?_); refine box_event ?hg (N := 11) ?hd (cs := #[.int .i64 0, .int .i64 0, .int .i64 0, .int .i64 0, .int .i64 0, .int .i64 0]) (t := 30) ?hr ?_; (case hd => rfl); (case hg => rfl); (case hr => first | (go_simp; done) | (go_simp; rfl)); intro gb219 hg wx5c5d1 hbox hb; have n0_ := Aside0.mk (blk_below (g := gb211) (o := .cells #[.int .i64 t204, .int .i64 t205, .int .i64 t206, .int .i64 t207, .int .i64 t208, .int .i64 t209] 30 (0, 0)) (by (with_reducible repeat (first | refine blk_drewN ?_ _ | refine blk_drew ?_ | refine blk_alloc ?_ _)); exact BK211.out) hb); have n1_ := Aside0.mk (below_step (by repeat (first | (with_reducible first | exact HB.out | apply below_alloc | apply pw_below_drewN | apply below_drew1 | refine below_set ?_ GE211.out) | exact HB.out)) hb); have n2_ := Aside0.mk (hbox); have n3_ := Aside0.mk ((by rw [hg]; exact (below_size (by repeat (first | (with_reducible first | exact HB.out | apply below_alloc | apply pw_below_drewN | apply below_drew1 | refine below_set ?_ GE211.out) | exact HB.out))) : w.heap.size ≤ gb219)); have n4_ := Aside0.mk ((by rw [hg]; exact (below_size (by repeat (first | (with_reducible first | exact HB.out | apply below_alloc | apply pw_below_drewN | apply below_drew1 | refine below_set ?_ GE211.out) | exact HB.out))) : w.heap.size ≤ gb219)); have n5_ := Aside0.mk ((by rw [hg]; exact Nat.ne_of_lt (blk_lt (g := gb211) (o := .cells #[.int .i64 t204, .int .i64 t205, .int .i64 t206, .int .i64 t207, .int .i64 t208, .int .i64 t209] 30 (0, 0)) (by (with_reducible repeat (first | refine blk_drewN ?_ _ | refine blk_drew ?_ | refine blk_alloc ?_ _)); exact BK211.out)) : gb211 ≠ gb219)); have n6_ := Aside0.mk ((by rw [hg]; exact Nat.ne_of_gt (blk_lt (g := gb211) (o := .cells #[.int .i64 t204, .int .i64 t205, .int .i64 t206, .int .i64 t207, .int .i64 t208, .int .i64 t209] 30 (0, 0)) (by (with_reducible repeat (first | refine blk_drewN ?_ _ | refine blk_drew ?_ | refine blk_alloc ?_ _)); exact BK211.out)) : gb219 ≠ gb211)); clear BK211; clear HB; have BK211 := n0_; have HB := n1_; have BK219 := n2_; have GW219 := n3_; have GE219 := n4_; have NB211_219 := n5_; have NB219_211 := n6_; clear n0_ n1_ n2_ n3_ n4_ n5_ n6_; clear hb hbox hg; have hnbx5c5d1 := NB219_211.out; have hncx5c5d1 := NB211_219.out; have hczx5c5d1 : wx5c5d1.cell? ⟨gb219, 0, none⟩ = some (.int .i64 0) := (blk_cell BK219.out 0).trans rfl; have hczx5c5d2 : wx5c5d1.cell? ⟨gb219, 1, none⟩ = some (.int .i64 0) := (blk_cell BK219.out 1).trans rfl; have hczx5c5d3 : wx5c5d1.cell? ⟨gb219, 2, none⟩ = some (.int .i64 0) := (blk_cell BK219.out 2).trans rfl; have hczx5c5d4 : wx5c5d1.cell? ⟨gb219, 3, none⟩ = some (.int .i64 0) := (blk_cell BK219.out 3).trans rfl; have hczx5c5d5 : wx5c5d1.cell? ⟨gb219, 4, none⟩ = some (.int .i64 0) := (blk_cell BK219.out 4).trans rfl; have hczx5c5d6 : wx5c5d1.cell? ⟨gb219, 5, none⟩ = some (.int .i64 0) := (blk_cell BK219.out 5).trans rfl; have hfzx5c5d1 := blk_frozen BK219.out 0; have hfzx5c5d2 := blk_frozen BK219.out 1; have hfzx5c5d3 := blk_frozen BK219.out 2; have hfzx5c5d4 := blk_frozen BK219.out 3; have hfzx5c5d5 := blk_frozen BK219.out 4; have hfzx5c5d6 := blk_frozen BK219.out 5))
     (try simp only [Act.put, List.setIfInBounds_toArray, List.set_cons_zero, List.set_cons_succ])
     go_cut [43] (fun v43 wc => ∃ (kq : Nat) (x43_7 : Bool), v43 = .bool x43_7 ∧ Aside0 (tube_Cut.j0 kq l0 a1 a2 x43_7 t204 t205 t206 t207 t208 t209 t212 t213 t214 t215 t216 t217 = some (r1, r2)) ∧ Aside0 (kq ≤ k) ∧ Aside0 (wc.heap[gb211]? = some (.cells #[.int .i64 t204, .int .i64 t205, .int .i64 t206, .int .i64 t207, .int .i64 t208, .int .i64 t209] 30 (0, 0))) ∧ Aside0 (wc.heap[gb219]? = some (.cells #[.int .i64 t212, .int .i64 t213, .int .i64 t214, .int .i64 t215, .int .i64 t216, .int .i64 t217] 30 (0, 0))) ∧ Aside0 (Below w.heap.size w wc))
     case first =>
      have H := HC8.out
      clear HC8
      refine Or.elim (Classical.em (t210 = 0)) (fun c17 => ?p4_) (fun c17 => ?n4_)
      case' p4_ =>
       rw [if_pos c17] at H
       have c17b0 : (t210 == 0) = true := beq_iff_eq.mpr c17
       have c17b1 : (t210 != 0) = false := bne_eq_false_iff_eq.mpr c17
       clear c17
       (first | rw [c17b0] | (simp only [i64_w, i32_w]; rw [c17b0]) | skip)
       refine Or.elim (Classical.em (t218 = 0)) (fun c18 => ?p5_) (fun c18 => ?n5_)
       case' p5_ =>
        rw [if_pos c18] at H
        have c18b0 : (t218 == 0) = true := beq_iff_eq.mpr c18
        have c18b1 : (t218 != 0) = false := bne_eq_false_iff_eq.mpr c18
        clear c18
       case' n5_ =>
        rw [if_neg c18] at H
        have c18b0 : (t218 == 0) = false := beq_eq_false_iff_ne.mpr c18
        have c18b1 : (t218 != 0) = true := bne_iff_ne.mpr c18
      case' n4_ =>
       rw [if_neg c17] at H
       have c17b0 : (t210 == 0) = false := beq_eq_false_iff_ne.mpr c17
       have c17b1 : (t210 != 0) = true := bne_iff_ne.mpr c17
       (first | rw [c17b0] | (simp only [i64_w, i32_w]; rw [c17b0]) | skip)
      all_goals
       have H' := Aside0.mk H
       clear H
       go_wp2
       go_meet
       case rel => first | (exact ⟨_, (decide (a1 > a2)), (by first | rfl | (simp; done) | (simp [*]; done)), H', ⟨by first | omega | exact Nat.le_refl _⟩, ⟨by (with_reducible repeat (first | refine blk_drewN ?_ _ | refine blk_drew ?_ | refine blk_alloc ?_ _)); refine blk_far ?_ NB211_219.out _; (with_reducible repeat (first | refine blk_drewN ?_ _ | refine blk_drew ?_ | refine blk_alloc ?_ _)); refine blk_far ?_ NB211_219.out _; (with_reducible repeat (first | refine blk_drewN ?_ _ | refine blk_drew ?_ | refine blk_alloc ?_ _)); refine blk_far ?_ NB211_219.out _; (with_reducible repeat (first | refine blk_drewN ?_ _ | refine blk_drew ?_ | refine blk_alloc ?_ _)); refine blk_far ?_ NB211_219.out _; (with_reducible repeat (first | refine blk_drewN ?_ _ | refine blk_drew ?_ | refine blk_alloc ?_ _)); refine blk_far ?_ NB211_219.out _; (with_reducible repeat (first | refine blk_drewN ?_ _ | refine blk_drew ?_ | refine blk_alloc ?_ _)); refine blk_far ?_ NB211_219.out _; (with_reducible repeat (first | refine blk_drewN ?_ _ | refine blk_drew ?_ | refine blk_alloc ?_ _)); exact BK211.out⟩, ⟨by (with_reducible repeat (first | refine blk_drewN ?_ _ | refine blk_drew ?_ | refine blk_alloc ?_ _)); refine blk_put (cs := #[.int .i64 t212, .int .i64 t213, .int .i64 t214, .int .i64 t215, .int .i64 t216, .int .i64 0]) ?_ 5 _ rfl; (with_reducible repeat (first | refine blk_drewN ?_ _ | refine blk_drew ?_ | refine blk_alloc ?_ _)); refine blk_put (cs := #[.int .i64 t212, .int .i64 t213, .int .i64 t214, .int .i64 t215, .int .i64 0, .int .i64 0]) ?_ 4 _ rfl; (with_reducible repeat (first | refine blk_drewN ?_ _ | refine blk_drew ?_ | refine blk_alloc ?_ _)); refine blk_put (cs := #[.int .i64 t212, .int .i64 t213, .int .i64 t214, .int .i64 0, .int .i64 0, .int .i64 0]) ?_ 3 _ rfl; (with_reducible repeat (first | refine blk_drewN ?_ _ | refine blk_drew ?_ | refine blk_alloc ?_ _)); refine blk_put (cs := #[.int .i64 t212, .int .i64 t213, .int .i64 0, .int .i64 0, .int .i64 0, .int .i64 0]) ?_ 2 _ rfl; (with_reducible repeat (first | refine blk_drewN ?_ _ | refine blk_drew ?_ | refine blk_alloc ?_ _)); refine blk_put (cs := #[.int .i64 t212, .int .i64 0, .int .i64 0, .int .i64 0, .int .i64 0, .int .i64 0]) ?_ 1 _ rfl; (with_reducible repeat (first | refine blk_drewN ?_ _ | refine blk_drew ?_ | refine blk_alloc ?_ _)); refine blk_put (cs := #[.int .i64 0, .int .i64 0, .int .i64 0, .int .i64 0, .int .i64 0, .int .i64 0]) ?_ 0 _ rfl; (with_reducible repeat (first | refine blk_drewN ?_ _ | refine blk_drew ?_ | refine blk_alloc ?_ _)); exact BK219.out⟩, ⟨by repeat (first | (with_reducible first | exact HB.out | apply below_alloc | apply pw_below_drewN | apply below_drew1 | refine below_set ?_ GE211.out | refine below_set ?_ GE219.out) | exact HB.out)⟩⟩) | (exact ⟨_, (true), (by first | rfl | (simp; done) | (simp [*]; done)), H', ⟨by first | omega | exact Nat.le_refl _⟩, ⟨by (with_reducible repeat (first | refine blk_drewN ?_ _ | refine blk_drew ?_ | refine blk_alloc ?_ _)); refine blk_far ?_ NB211_219.out _; (with_reducible repeat (first | refine blk_drewN ?_ _ | refine blk_drew ?_ | refine blk_alloc ?_ _)); refine blk_far ?_ NB211_219.out _; (with_reducible repeat (first | refine blk_drewN ?_ _ | refine blk_drew ?_ | refine blk_alloc ?_ _)); refine blk_far ?_ NB211_219.out _; (with_reducible repeat (first | refine blk_drewN ?_ _ | refine blk_drew ?_ | refine blk_alloc ?_ _)); refine blk_far ?_ NB211_219.out _; (with_reducible repeat (first | refine blk_drewN ?_ _ | refine blk_drew ?_ | refine blk_alloc ?_ _)); refine blk_far ?_ NB211_219.out _; (with_reducible repeat (first | refine blk_drewN ?_ _ | refine blk_drew ?_ | refine blk_alloc ?_ _)); refine blk_far ?_ NB211_219.out _; (with_reducible repeat (first | refine blk_drewN ?_ _ | refine blk_drew ?_ | refine blk_alloc ?_ _)); exact BK211.out⟩, ⟨by (with_reducible repeat (first | refine blk_drewN ?_ _ | refine blk_drew ?_ | refine blk_alloc ?_ _)); refine blk_put (cs := #[.int .i64 t212, .int .i64 t213, .int .i64 t214, .int .i64 t215, .int .i64 t216, .int .i64 0]) ?_ 5 _ rfl; (with_reducible repeat (first | refine blk_drewN ?_ _ | refine blk_drew ?_ | refine blk_alloc ?_ _)); refine blk_put (cs := #[.int .i64 t212, .int .i64 t213, .int .i64 t214, .int .i64 t215, .int .i64 0, .int .i64 0]) ?_ 4 _ rfl; (with_reducible repeat (first | refine blk_drewN ?_ _ | refine blk_drew ?_ | refine blk_alloc ?_ _)); refine blk_put (cs := #[.int .i64 t212, .int .i64 t213, .int .i64 t214, .int .i64 0, .int .i64 0, .int .i64 0]) ?_ 3 _ rfl; (with_reducible repeat (first | refine blk_drewN ?_ _ | refine blk_drew ?_ | refine blk_alloc ?_ _)); refine blk_put (cs := #[.int .i64 t212, .int .i64 t213, .int .i64 0, .int .i64 0, .int .i64 0, .int .i64 0]) ?_ 2 _ rfl; (with_reducible repeat (first | refine blk_drewN ?_ _ | refine blk_drew ?_ | refine blk_alloc ?_ _)); refine blk_put (cs := #[.int .i64 t212, .int .i64 0, .int .i64 0, .int .i64 0, .int .i64 0, .int .i64 0]) ?_ 1 _ rfl; (with_reducible repeat (first | refine blk_drewN ?_ _ | refine blk_drew ?_ | refine blk_alloc ?_ _)); refine blk_put (cs := #[.int .i64 0, .int .i64 0, .int .i64 0, .int .i64 0, .int .i64 0, .int .i64 0]) ?_ 0 _ rfl; (with_reducible repeat (first | refine blk_drewN ?_ _ | refine blk_drew ?_ | refine blk_alloc ?_ _)); exact BK219.out⟩, ⟨by repeat (first | (with_reducible first | exact HB.out | apply below_alloc | apply pw_below_drewN | apply below_drew1 | refine below_set ?_ GE211.out | refine below_set ?_ GE219.out) | exact HB.out)⟩⟩)
     case rest =>
      clear HC8
      (try clear c1); (try clear c2); (try clear p2); (try clear c4); (try clear c5); (try clear c5b0); (try clear c5b1); (try clear c15); (try clear c17); (try clear c17b0); (try clear c17b1); (try clear c18); (try clear c18b0); (try clear c18b1); (try clear hczxb7481); (try clear hczxb7482); (try clear hczxb7483); (try clear hczxb7484); (try clear hczxb7485); (try clear hczxb7486); (try clear hczx5c5d1); (try clear hczx5c5d2); (try clear hczx5c5d3); (try clear hczx5c5d4); (try clear hczx5c5d5); (try clear hczx5c5d6); (try clear hfzxb7481); (try clear hfzxb7482); (try clear hfzxb7483); (try clear hfzxb7484); (try clear hfzxb7485); (try clear hfzxb7486); (try clear hfzx5c5d1); (try clear hfzx5c5d2); (try clear hfzx5c5d3); (try clear hfzx5c5d4); (try clear hfzx5c5d5); (try clear hfzx5c5d6)
      obtain ⟨kq, x43_7, rfl, HA, HJ7, BK211, BK219, HB⟩ := hcut
      cases kq with
      | zero => exact absurd HA.out (by simp [tube_Cut.j0])
      | succ kj7 =>
       have H := HA.out
       clear HA
       simp only [tube_Cut.j0] at H
       by_cases c19 : x43_7 = true
       · subst c19
         have H1 : (some (([] : List (S30)), 12)) = some (r1, r2) := by rw [if_pos rfl] at H; exact H
         clear H
         have H := H1
         clear H1
         simp only [Option.some.injEq, Prod.mk.injEq] at H
         obtain ⟨rfl, rfl⟩ := H
         go_wp2
         go_ret2
         exact ⟨_, by first | rfl | (simp [errW_none, errW_some] <;> rfl) | (simp [*, errW_none, errW_some] <;> rfl), by first | exact Kd.R_nil _ _ _ _ _ | exact Kd.N_nil _ _ _ _ _ | exact Kd.V_nil _ _ _ _ _ | exact Kd.Q_nil _ _ _ _ _ | exact Kd.S_nil _ _ _ _ _, by repeat (first | (with_reducible first | exact HB.out | apply below_alloc | apply pw_below_drewN | apply below_drew1 | refine below_set ?_ GE211.out | refine below_set ?_ GE219.out) | exact HB.out)⟩
       · replace c19 := Bool.eq_false_iff.mpr c19
         subst c19
         have H1 : (tube_Cut.l0 kj7 a1 a2 (([(⟨(⟨t204, (⟨t205, t206⟩ : S26), t207⟩ : S28), t208, t209⟩ : S30)] : List (S30))) l0 (l0.length : Int) 0 t212 t213 t214 t215 t216 t217) = some (r1, r2) := by rw [if_neg (show ¬ (false = true) by decide)] at H; exact H
         clear H
         have H := H1
         clear H1
         obtain ⟨y220, hy220⟩ : ∃ y_ : List (S30), y_ = (([(⟨(⟨t204, (⟨t205, t206⟩ : S26), t207⟩ : S28), t208, t209⟩ : S30)] : List (S30))) := ⟨_, rfl⟩
         replace H : (tube_Cut.l0 kj7 a1 a2 y220 l0 (l0.length : Int) 0 t212 t213 t214 t215 t216 t217) = some (r1, r2) := by first | (rw [hy220]; with_reducible exact H) | (have H2_ := (Option.bind_some _ _).symm.trans H; rw [hy220]; with_reducible exact H2_) | (have H2_ := (Option.bind_some _ _).symm.trans H; with_reducible exact H2_) | with_reducible exact H | (rw [hy220]; exact H) | exact H
         have Ny220 := Aside0.mk hy220
         clear hy220
         have H' := Aside0.mk H
         clear H
         have hnbzc1 := NB211_219.out
         have hnczc1 := NB219_211.out
         have hczzc1 : wc.cell? ⟨gb211, 0, none⟩ = some (.int .i64 t204) := (blk_cell BK211.out 0).trans rfl
         have hczzc2 : wc.cell? ⟨gb211, 1, none⟩ = some (.int .i64 t205) := (blk_cell BK211.out 1).trans rfl
         have hczzc3 : wc.cell? ⟨gb211, 2, none⟩ = some (.int .i64 t206) := (blk_cell BK211.out 2).trans rfl
         have hczzc4 : wc.cell? ⟨gb211, 3, none⟩ = some (.int .i64 t207) := (blk_cell BK211.out 3).trans rfl
         have hczzc5 : wc.cell? ⟨gb211, 4, none⟩ = some (.int .i64 t208) := (blk_cell BK211.out 4).trans rfl
         have hczzc6 : wc.cell? ⟨gb211, 5, none⟩ = some (.int .i64 t209) := (blk_cell BK211.out 5).trans rfl
         have hfzzc1 := blk_frozen BK211.out 0
         have hfzzc2 := blk_frozen BK211.out 1
         have hfzzc3 := blk_frozen BK211.out 2
         have hfzzc4 := blk_frozen BK211.out 3
         have hfzzc5 := blk_frozen BK211.out 4
         have hfzzc6 := blk_frozen BK211.out 5
         go_wp2_with (first | ((with_reducible refine gate_dst (N := 45) rfl ?_); refine Kd.R_lit k30 _ 30 ?hg (N := 45) ?hd (xs := ([(⟨(⟨t204, (⟨t205, t206⟩ : S26), t207⟩ : S28), t208, t209⟩ : S30)] : List (S30))) (inner := [.int .i64 t204, .int .i64 t205, .int .i64 t206, .int .i64 t207, .int .i64 t208, .int .i64 t209]) (ok := fun _ => True) (okp := fun _ => True) ?hr ?hp (fun _ hk => hk) trivial (Below.refl _ _) (Nat.le_refl _) (by simp) ?_; (case hd => rfl); (case hg => rfl); (case hr => first | (go_simp; done) | (go_simp; rfl)); (case hp => exact (Reps.c6 (show Kd.M k30 _ _ _ (⟨(⟨t204, (⟨t205, t206⟩ : S26), t207⟩ : S28), t208, t209⟩ : S30) [.int .i64 t204, .int .i64 t205, .int .i64 t206, .int .i64 t207, .int .i64 t208, .int .i64 t209] from (k30_mkM _ _ _ (⟨(⟨t204, (⟨t205, t206⟩ : S26), t207⟩ : S28), t208, t209⟩ : S30) )) (Reps.none _ _))); intro v221 wx34671 hox34671 hb hg_ hnew_; clear hg_ hnew_; (first | rw [← Ny220.out] at hox34671 | (simp only [Int.reduceToNat] at hox34671; rw [← Ny220.out] at hox34671)); have n0_ := Aside0.mk (Kd.R_lower (Kd.R_newB (Kd.R_newB hox34671 (g := gb211) (o := .cells #[.int .i64 t204, .int .i64 t205, .int .i64 t206, .int .i64 t207, .int .i64 t208, .int .i64 t209] 30 (0, 0)) (by (with_reducible repeat (first | refine blk_drewN ?_ _ | refine blk_drew ?_ | refine blk_alloc ?_ _)); exact BK211.out)) (g := gb219) (o := .cells #[.int .i64 t212, .int .i64 t213, .int .i64 t214, .int .i64 t215, .int .i64 t216, .int .i64 t217] 30 (0, 0)) (by (with_reducible repeat (first | refine blk_drewN ?_ _ | refine blk_drew ?_ | refine blk_alloc ?_ _)); exact BK219.out)) (below_size (by repeat (first | (with_reducible first | exact HB.out | apply below_alloc | apply pw_below_drewN | apply below_drew1 | refine below_set ?_ GE211.out | refine below_set ?_ GE219.out) | exact HB.out)))); have n1_ := Aside0.mk (blk_below (g := gb211) (o := .cells #[.int .i64 t204, .int .i64 t205, .int .i64 t206, .int .i64 t207, .int .i64 t208, .int .i64 t209] 30 (0, 0)) (by (with_reducible repeat (first | refine blk_drewN ?_ _ | refine blk_drew ?_ | refine blk_alloc ?_ _)); exact BK211.out) hb); have n2_ := Aside0.mk (blk_below (g := gb219) (o := .cells #[.int .i64 t212, .int .i64 t213, .int .i64 t214, .int .i64 t215, .int .i64 t216, .int .i64 t217] 30 (0, 0)) (by (with_reducible repeat (first | refine blk_drewN ?_ _ | refine blk_drew ?_ | refine blk_alloc ?_ _)); exact BK219.out) hb); have n3_ := Aside0.mk (below_step (by repeat (first | (with_reducible first | exact HB.out | apply below_alloc | apply pw_below_drewN | apply below_drew1 | refine below_set ?_ GE211.out | refine below_set ?_ GE219.out) | exact HB.out)) hb); clear BK211; clear BK219; clear HB; have HO222 := n0_; have BK211 := n1_; have BK219 := n2_; have HB := n3_; clear n0_ n1_ n2_ n3_; clear hb hox34671))
         go_loopg [13, 48] kj7 (fun kq v13 v48 w' => ∃ (x13_2 : List (S30)) (x48_2 : Int), v48 = .int .i64 x48_2 ∧ Aside0 (tube_Cut.l0 kq a1 a2 x13_2 l0 (l0.length : Int) x48_2 t212 t213 t214 t215 t216 t217 = some (r1, r2)) ∧ Aside0 (kq ≤ kj7) ∧ Aside0 (Kd.R k30 30 w' w.heap.size (fun k_ => k_ ≠ gb211 ∧ k_ ≠ gb219) v13 x13_2) ∧ Aside0 (w'.heap[gb211]? = some (.cells #[.int .i64 t204, .int .i64 t205, .int .i64 t206, .int .i64 t207, .int .i64 t208, .int .i64 t209] 30 (0, 0))) ∧ Aside0 (w'.heap[gb219]? = some (.cells #[.int .i64 t212, .int .i64 t213, .int .i64 t214, .int .i64 t215, .int .i64 t216, .int .i64 t217] 30 (0, 0))) ∧ Aside0 (Below w.heap.size w w'))
         case atStart => exact ⟨(y220), (0), (by first | rfl | (simp; done) | (simp [*]; done)), H', ⟨Nat.le_refl _⟩, ⟨by (with_reducible repeat (first | apply Kd.R_alloc | apply Kd.R_drewN | apply Kd.R_drew)); exact Kd.R_mono HO222.out (fun _ hk => ⟨hk.1.2, hk.2⟩)⟩, ⟨by (with_reducible repeat (first | refine blk_drewN ?_ _ | refine blk_drew ?_ | refine blk_alloc ?_ _)); exact BK211.out⟩, ⟨by (with_reducible repeat (first | refine blk_drewN ?_ _ | refine blk_drew ?_ | refine blk_alloc ?_ _)); exact BK219.out⟩, ⟨by repeat (first | (with_reducible first | exact HB.out | apply below_alloc | apply pw_below_drewN | apply below_drew1 | refine below_set ?_ GE211.out | refine below_set ?_ GE219.out) | exact HB.out)⟩⟩
         case round =>
          clear H'
          (try clear c1); (try clear c2); (try clear p2); (try clear c4); (try clear c5); (try clear c5b0); (try clear c5b1); (try clear c6); (try clear c15); (try clear c17); (try clear c17b0); (try clear c17b1); (try clear c18); (try clear c18b0); (try clear c18b1); (try clear c19); (try clear c20); (try clear c21); (try clear hczxb7481); (try clear hczxb7482); (try clear hczxb7483); (try clear hczxb7484); (try clear hczxb7485); (try clear hczxb7486); (try clear hczx5c5d1); (try clear hczx5c5d2); (try clear hczx5c5d3); (try clear hczx5c5d4); (try clear hczx5c5d5); (try clear hczx5c5d6); (try clear hczzc1); (try clear hczzc2); (try clear hczzc3); (try clear hczzc4); (try clear hczzc5); (try clear hczzc6); (try clear hfzxb7481); (try clear hfzxb7482); (try clear hfzxb7483); (try clear hfzxb7484)
          (try clear hfzxb7485); (try clear hfzxb7486); (try clear hfzx5c5d1); (try clear hfzx5c5d2); (try clear hfzx5c5d3); (try clear hfzx5c5d4); (try clear hfzx5c5d5); (try clear hfzx5c5d6); (try clear hfzzc1); (try clear hfzzc2); (try clear hfzzc3); (try clear hfzzc4); (try clear hfzzc5); (try clear hfzzc6); (try clear p2)
          obtain ⟨x13_2, x48_2, rfl, HA, HK2, HO_13, BK211, BK219, HB⟩ := hrel
          cases gk with
          | zero => exact absurd HA.out (by simp [tube_Cut.l0])
          | succ k2 =>
           have H := HA.out
           clear HA
           simp only [tube_Cut.l0] at H
           refine Or.elim (Classical.em (x48_2 < (l0.length : Int))) (fun c24 => ?p7_) (fun c24 => ?n7_)
           case' p7_ =>
            rw [if_pos c24] at H
            have c24b0 : decide (x48_2 < (l0.length : Int)) = true := decide_eq_true c24
            clear c24
            refine Or.elim (Classical.em (0 ≤ x48_2)) (fun c25 => ?p8_) (fun c25 => ?n8_)
            case' p8_ =>
             rw [if_pos c25] at H
             have c25b0 : decide (0 ≤ x48_2) = true := decide_eq_true c25
             clear c25
             refine Or.elim (Classical.em (x48_2 < (l0.length : Int))) (fun c26 => ?p9_) (fun c26 => ?n9_)
             case' p9_ =>
              rw [if_pos c26] at H
              have c26b0 : decide (x48_2 < (l0.length : Int)) = true := decide_eq_true c26
              clear c26
              refine Or.elim (Classical.em (((rd_T30 l0 x48_2).f0.f0) > a1)) (fun c27 => ?p10_) (fun c27 => ?n10_)
              case' p10_ =>
               rw [if_pos c27] at H
               have c27b0 : decide (a1 < ((rd_T30 l0 x48_2).f0.f0)) = true := decide_eq_true c27
               clear c27
               refine Or.elim (Classical.em (((rd_T30 l0 x48_2).f0.f0) < a2)) (fun c28 => ?p11_) (fun c28 => ?n11_)
               case' p11_ =>
                rw [if_pos c28] at H
                have c28b0 : decide (((rd_T30 l0 x48_2).f0.f0) < a2) = true := decide_eq_true c28
                clear c28
                refine Or.elim (Classical.em (x13_2.length < 2932031007402)) (fun c29 => ?p12_) (fun c29 => ?n12_)
                case' p12_ =>
                 rw [if_pos c29] at H
                 have LMc29 := Aside0.mk c29
                 clear c29
                 obtain ⟨y225, hy225⟩ : ∃ y_ : List (S30), y_ = (x13_2 ++ [(⟨(⟨(rd_T30 l0 x48_2).f0.f0, (⟨(rd_T30 l0 x48_2).f0.f1.f0, (rd_T30 l0 x48_2).f0.f1.f1⟩ : S26), (rd_T30 l0 x48_2).f0.f2⟩ : S28), (rd_T30 l0 x48_2).f1, (rd_T30 l0 x48_2).f2⟩ : S30)]) := ⟨_, rfl⟩
                 replace H : (tube_Cut.l0 k2 a1 a2 y225 l0 (l0.length : Int) (wrap64 (x48_2 + 1)) t212 t213 t214 t215 t216 t217) = some (r1, r2) := by first | (rw [hy225]; with_reducible exact H) | (have H2_ := (Option.bind_some _ _).symm.trans H; rw [hy225]; with_reducible exact H2_) | (have H2_ := (Option.bind_some _ _).symm.trans H; with_reducible exact H2_) | with_reducible exact H | (rw [hy225]; exact H) | exact H
                 have Ny225 := Aside0.mk hy225
                 clear hy225
                 have hm6_0 := Aside0.mk trivial
                case' n12_ =>
                 rw [if_neg c29] at H
                 exact absurd H (by simp)
               case' n11_ =>
                rw [if_neg c28] at H
                have c28b0 : decide (((rd_T30 l0 x48_2).f0.f0) < a2) = false := decide_eq_false c28
                clear c28
                have hm6_0 := Aside0.mk trivial
              case' n10_ =>
               rw [if_neg c27] at H
               have c27b0 : decide (a1 < ((rd_T30 l0 x48_2).f0.f0)) = false := decide_eq_false c27
               clear c27
               have hm6_0 := Aside0.mk trivial
             case' n9_ =>
              rw [if_neg c26] at H
              exact absurd H (by simp)
            case' n8_ =>
             rw [if_neg c25] at H
             exact absurd H (by simp)
           case' n7_ =>
            rw [if_neg c24] at H
            have c24b0 : decide (x48_2 < (l0.length : Int)) = false := decide_eq_false c24
            clear c24
            refine Or.elim (Classical.em (a2 > a1)) (fun c43 => ?p13_) (fun c43 => ?n13_)
            case' p13_ =>
             rw [if_pos c43] at H
             have c43b0 : decide (a1 < a2) = true := decide_eq_true c43
             clear c43
             refine Or.elim (Classical.em (x13_2.length < 2932031007402)) (fun c44 => ?p14_) (fun c44 => ?n14_)
             case' p14_ =>
              rw [if_pos c44] at H
              have LMc44 := Aside0.mk c44
              clear c44
              obtain ⟨y228, hy228⟩ : ∃ y_ : List (S30), y_ = (x13_2 ++ [(⟨(⟨t212, (⟨t213, t214⟩ : S26), t215⟩ : S28), t216, t217⟩ : S30)]) := ⟨_, rfl⟩
              replace H : (some (y228, 0)) = some (r1, r2) := by first | (rw [hy228]; with_reducible exact H) | (have H2_ := (Option.bind_some _ _).symm.trans H; rw [hy228]; with_reducible exact H2_) | (have H2_ := (Option.bind_some _ _).symm.trans H; with_reducible exact H2_) | with_reducible exact H | (rw [hy228]; exact H) | exact H
              have Ny228 := Aside0.mk hy228
              clear hy228
              simp only [Option.some.injEq, Prod.mk.injEq] at H
              obtain ⟨rfl, rfl⟩ := H
              have hnbzc2 := NB219_211.out
              have hnczc2 := NB211_219.out
              have hczzc7 : wr.cell? ⟨gb219, 0, none⟩ = some (.int .i64 t212) := (blk_cell BK219.out 0).trans rfl
              have hczzc8 : wr.cell? ⟨gb219, 1, none⟩ = some (.int .i64 t213) := (blk_cell BK219.out 1).trans rfl
              have hczzc9 : wr.cell? ⟨gb219, 2, none⟩ = some (.int .i64 t214) := (blk_cell BK219.out 2).trans rfl
              have hczzc10 : wr.cell? ⟨gb219, 3, none⟩ = some (.int .i64 t215) := (blk_cell BK219.out 3).trans rfl
              have hczzc11 : wr.cell? ⟨gb219, 4, none⟩ = some (.int .i64 t216) := (blk_cell BK219.out 4).trans rfl
              have hczzc12 : wr.cell? ⟨gb219, 5, none⟩ = some (.int .i64 t217) := (blk_cell BK219.out 5).trans rfl
              have hfzzc7 := blk_frozen BK219.out 0
              have hfzzc8 := blk_frozen BK219.out 1
              have hfzzc9 := blk_frozen BK219.out 2
              have hfzzc10 := blk_frozen BK219.out 3
              have hfzzc11 := blk_frozen BK219.out 4
              have hfzzc12 := blk_frozen BK219.out 5
              have hm6_1 := Aside0.mk trivial
             case' n14_ =>
              rw [if_neg c44] at H
              exact absurd H (by simp)
            case' n13_ =>
             rw [if_neg c43] at H
             have c43b0 : decide (a1 < a2) = false := decide_eq_false c43
             clear c43
             simp only [Option.some.injEq, Prod.mk.injEq] at H
             obtain ⟨rfl, rfl⟩ := H
             have hm6_2 := Aside0.mk trivial
           all_goals
            first
             | clear hm6_0
               have H' := Aside0.mk H
               clear H
               have p223 : 0 ≤ (x48_2 : Int) := of_decide_eq_true (by first | (with_reducible assumption) | assumption)
               have q223 : x48_2 < (l0.length : Int) := of_decide_eq_true (by first | (with_reducible assumption) | assumption)
               obtain ⟨ad223, e223, hx223_0, hx223_1, hx223_2, hx223_3, hx223_4, hx223_5⟩ := at_T30 HR0.out x48_2 p223 q223
               cases e223
               replace hx223_0 := (HB.out.cell (World.block_lt_of_cell? w _ hx223_0)).trans hx223_0
               replace hx223_1 := (HB.out.cell (World.block_lt_of_cell? w _ hx223_1)).trans hx223_1
               replace hx223_2 := (HB.out.cell (World.block_lt_of_cell? w _ hx223_2)).trans hx223_2
               replace hx223_3 := (HB.out.cell (World.block_lt_of_cell? w _ hx223_3)).trans hx223_3
               replace hx223_4 := (HB.out.cell (World.block_lt_of_cell? w _ hx223_4)).trans hx223_4
               replace hx223_5 := (HB.out.cell (World.block_lt_of_cell? w _ hx223_5)).trans hx223_5
               replace p223 := eq_true p223
               replace q223 := eq_true q223
               go_wp2_with (first | ((with_reducible refine gate_dst (N := 15) rfl ?_); refine box_event ?hg (N := 15) ?hd (cs := #[.int .i64 0, .int .i64 0, .int .i64 0, .int .i64 0, .int .i64 0, .int .i64 0]) (t := 30) ?hr ?_; (case hd => rfl); (case hg => rfl); (case hr => first | (go_simp; done) | (go_simp; rfl)); intro gb224 hg wxc3161 hbox hb; have n0_ := Aside0.mk (Kd.R_below (Kd.R_elderB (by (with_reducible repeat (first | apply Kd.R_alloc | apply Kd.R_drewN | apply Kd.R_drew)); exact HO_13.out) gb224 (Nat.le_of_eq hg.symm)) hb); have n1_ := Aside0.mk (blk_below (g := gb211) (o := .cells #[.int .i64 t204, .int .i64 t205, .int .i64 t206, .int .i64 t207, .int .i64 t208, .int .i64 t209] 30 (0, 0)) (by (with_reducible repeat (first | refine blk_drewN ?_ _ | refine blk_drew ?_ | refine blk_alloc ?_ _)); exact BK211.out) hb); have n2_ := Aside0.mk (blk_below (g := gb219) (o := .cells #[.int .i64 t212, .int .i64 t213, .int .i64 t214, .int .i64 t215, .int .i64 t216, .int .i64 t217] 30 (0, 0)) (by (with_reducible repeat (first | refine blk_drewN ?_ _ | refine blk_drew ?_ | refine blk_alloc ?_ _)); exact BK219.out) hb); have n3_ := Aside0.mk (below_step (by repeat (first | (with_reducible first | exact HB.out | apply below_alloc | apply pw_below_drewN | apply below_drew1 | refine below_set ?_ GE211.out | refine below_set ?_ GE219.out) | exact HB.out)) hb); have n4_ := Aside0.mk (hbox); have n5_ := Aside0.mk ((by rw [hg]; exact (below_size (by repeat (first | (with_reducible first | exact HB.out | apply below_alloc | apply pw_below_drewN | apply below_drew1 | refine below_set ?_ GE211.out | refine below_set ?_ GE219.out) | exact HB.out))) : w.heap.size ≤ gb224)); have n6_ := Aside0.mk ((by rw [hg]; exact (below_size (by repeat (first | (with_reducible first | exact HB.out | apply below_alloc | apply pw_below_drewN | apply below_drew1 | refine below_set ?_ GE211.out | refine below_set ?_ GE219.out) | exact HB.out))) : w.heap.size ≤ gb224)); have n7_ := Aside0.mk ((by rw [hg]; exact Nat.ne_of_lt (blk_lt (g := gb211) (o := .cells #[.int .i64 t204, .int .i64 t205, .int .i64 t206, .int .i64 t207, .int .i64 t208, .int .i64 t209] 30 (0, 0)) (by (with_reducible repeat (first | refine blk_drewN ?_ _ | refine blk_drew ?_ | refine blk_alloc ?_ _)); exact BK211.out)) : gb211 ≠ gb224)); have n8_ := Aside0.mk ((by rw [hg]; exact Nat.ne_of_gt (blk_lt (g := gb211) (o := .cells #[.int .i64 t204, .int .i64 t205, .int .i64 t206, .int .i64 t207, .int .i64 t208, .int .i64 t209] 30 (0, 0)) (by (with_reducible repeat (first | refine blk_drewN ?_ _ | refine blk_drew ?_ | refine blk_alloc ?_ _)); exact BK211.out)) : gb224 ≠ gb211)); have n9_ := Aside0.mk ((by rw [hg]; exact Nat.ne_of_lt (blk_lt (g := gb219) (o := .cells #[.int .i64 t212, .int .i64 t213, .int .i64 t214, .int .i64 t215, .int .i64 t216, .int .i64 t217] 30 (0, 0)) (by (with_reducible repeat (first | refine blk_drewN ?_ _ | refine blk_drew ?_ | refine blk_alloc ?_ _)); exact BK219.out)) : gb219 ≠ gb224)); have n10_ := Aside0.mk ((by rw [hg]; exact Nat.ne_of_gt (blk_lt (g := gb219) (o := .cells #[.int .i64 t212, .int .i64 t213, .int .i64 t214, .int .i64 t215, .int .i64 t216, .int .i64 t217] 30 (0, 0)) (by (with_reducible repeat (first | refine blk_drewN ?_ _ | refine blk_drew ?_ | refine blk_alloc ?_ _)); exact BK219.out)) : gb224 ≠ gb219)); clear HO_13; clear BK211; clear BK219; clear HB; have HO_13 := n0_; have BK211 := n1_; have BK219 := n2_; have HB := n3_; have BK224 := n4_; have GW224 := n5_; have GE224 := n6_; have NB211_224 := n7_; have NB224_211 := n8_; have NB219_224 := n9_; have NB224_219 := n10_; clear n0_ n1_ n2_ n3_ n4_ n5_ n6_ n7_ n8_ n9_ n10_; clear hb hbox hg; have hnbxc3161 := NB224_211.out; have hncxc3161 := NB211_224.out; have hnbxc3162 := NB224_219.out; have hncxc3162 := NB219_224.out; have hczxc3161 : wxc3161.cell? ⟨gb224, 0, none⟩ = some (.int .i64 0) := (blk_cell BK224.out 0).trans rfl; have hczxc3162 : wxc3161.cell? ⟨gb224, 1, none⟩ = some (.int .i64 0) := (blk_cell BK224.out 1).trans rfl; have hczxc3163 : wxc3161.cell? ⟨gb224, 2, none⟩ = some (.int .i64 0) := (blk_cell BK224.out 2).trans rfl; have hczxc3164 : wxc3161.cell? ⟨gb224, 3, none⟩ = some (.int .i64 0) := (blk_cell BK224.out 3).trans rfl; have hczxc3165 : wxc3161.cell? ⟨gb224, 4, none⟩ = some (.int .i64 0) := (blk_cell BK224.out 4).trans rfl; have hczxc3166 : wxc3161.cell? ⟨gb224, 5, none⟩ = some (.int .i64 0) := (blk_cell BK224.out 5).trans rfl; have hfzxc3161 := blk_frozen BK224.out 0; have hfzxc3162 := blk_frozen BK224.out 1; have hfzxc3163 := blk_frozen BK224.out 2; have hfzxc3164 := blk_frozen BK224.out 3; have hfzxc3165 := blk_frozen BK224.out 4; have hfzxc3166 := blk_frozen BK224.out 5) | ((with_reducible refine gate_builtin (b := .append) (xs := #[.tmp 64, .tmp 66]) rfl ?_); at_builtin; refine Kd.R_append k30 (w0 := w) w.heap.size rfl (.tmp 64) (.tmp 66) 23 30 (.agg #[(.int .i64 0), (.int .i64 0), (.int .i64 0), (.int .i64 0), (.int .i64 0), (.int .i64 0)]) 48 rfl Try.underlying23 info30 rfl (by decide) (by omega) u13 x13_2 (⟨(⟨(rd_T30 l0 x48_2).f0.f0, (⟨(rd_T30 l0 x48_2).f0.f1.f0, (rd_T30 l0 x48_2).f0.f1.f1⟩ : S26), (rd_T30 l0 x48_2).f0.f2⟩ : S28), (rd_T30 l0 x48_2).f1, (rd_T30 l0 x48_2).f2⟩ : S30) [.int .i64 ((rd_T30 l0 x48_2).f0.f0), .int .i64 ((rd_T30 l0 x48_2).f0.f1.f0), .int .i64 ((rd_T30 l0 x48_2).f0.f1.f1), .int .i64 ((rd_T30 l0 x48_2).f0.f2), .int .i64 ((rd_T30 l0 x48_2).f1), .int .i64 ((rd_T30 l0 x48_2).f2)] (fun k_ => k_ ≠ gb211 ∧ k_ ≠ gb219 ∧ k_ ≠ gb224) (fun _ => False) rfl (by first | (go_simp; done) | (go_simp; rfl)) ?aP (fun _ hk => hk.elim) ?aF ?aO ?aB ?aS ?aL ?_; (case aP => exact k30_mkM _ _ _ (⟨(⟨(rd_T30 l0 x48_2).f0.f0, (⟨(rd_T30 l0 x48_2).f0.f1.f0, (rd_T30 l0 x48_2).f0.f1.f1⟩ : S26), (rd_T30 l0 x48_2).f0.f2⟩ : S28), (rd_T30 l0 x48_2).f1, (rd_T30 l0 x48_2).f2⟩ : S30)); (case aB => exact (by repeat (first | (with_reducible first | exact HB.out | apply below_alloc | apply pw_below_drewN | apply below_drew1 | refine below_set ?_ GE211.out | refine below_set ?_ GE219.out | refine below_set ?_ GE224.out) | exact HB.out))); (case aF => exact (fun k_ hk => ⟨Kd.freshB (g := gb211) (o := .cells #[.int .i64 t204, .int .i64 t205, .int .i64 t206, .int .i64 t207, .int .i64 t208, .int .i64 t209] 30 (0, 0)) (by (with_reducible repeat (first | refine blk_drewN ?_ _ | refine blk_drew ?_ | refine blk_alloc ?_ _)); refine blk_far ?_ NB211_224.out _; (with_reducible repeat (first | refine blk_drewN ?_ _ | refine blk_drew ?_ | refine blk_alloc ?_ _)); refine blk_far ?_ NB211_224.out _; (with_reducible repeat (first | refine blk_drewN ?_ _ | refine blk_drew ?_ | refine blk_alloc ?_ _)); refine blk_far ?_ NB211_224.out _; (with_reducible repeat (first | refine blk_drewN ?_ _ | refine blk_drew ?_ | refine blk_alloc ?_ _)); refine blk_far ?_ NB211_224.out _; (with_reducible repeat (first | refine blk_drewN ?_ _ | refine blk_drew ?_ | refine blk_alloc ?_ _)); refine blk_far ?_ NB211_224.out _; (with_reducible repeat (first | refine blk_drewN ?_ _ | refine blk_drew ?_ | refine blk_alloc ?_ _)); refine blk_far ?_ NB211_224.out _; (with_reducible repeat (first | refine blk_drewN ?_ _ | refine blk_drew ?_ | refine blk_alloc ?_ _)); exact BK211.out) k_ hk, Kd.freshB (g := gb219) (o := .cells #[.int .i64 t212, .int .i64 t213, .int .i64 t214, .int .i64 t215, .int .i64 t216, .int .i64 t217] 30 (0, 0)) (by (with_reducible repeat (first | refine blk_drewN ?_ _ | refine blk_drew ?_ | refine blk_alloc ?_ _)); refine blk_far ?_ NB219_224.out _; (with_reducible repeat (first | refine blk_drewN ?_ _ | refine blk_drew ?_ | refine blk_alloc ?_ _)); refine blk_far ?_ NB219_224.out _; (with_reducible repeat (first | refine blk_drewN ?_ _ | refine blk_drew ?_ | refine blk_alloc ?_ _)); refine blk_far ?_ NB219_224.out _; (with_reducible repeat (first | refine blk_drewN ?_ _ | refine blk_drew ?_ | refine blk_alloc ?_ _)); refine blk_far ?_ NB219_224.out _; (with_reducible repeat (first | refine blk_drewN ?_ _ | refine blk_drew ?_ | refine blk_alloc ?_ _)); refine blk_far ?_ NB219_224.out _; (with_reducible repeat (first | refine blk_drewN ?_ _ | refine blk_drew ?_ | refine blk_alloc ?_ _)); refine blk_far ?_ NB219_224.out _; (with_reducible repeat (first | refine blk_drewN ?_ _ | refine blk_drew ?_ | refine blk_alloc ?_ _)); exact BK219.out) k_ hk, Kd.freshB (g := gb224) (o := .cells #[.int .i64 ((rd_T30 l0 x48_2).f0.f0), .int .i64 ((rd_T30 l0 x48_2).f0.f1.f0), .int .i64 ((rd_T30 l0 x48_2).f0.f1.f1), .int .i64 ((rd_T30 l0 x48_2).f0.f2), .int .i64 ((rd_T30 l0 x48_2).f1), .int .i64 ((rd_T30 l0 x48_2).f2)] 30 (0, 0)) (by (with_reducible repeat (first | refine blk_drewN ?_ _ | refine blk_drew ?_ | refine blk_alloc ?_ _)); refine blk_put (cs := #[.int .i64 ((rd_T30 l0 x48_2).f0.f0), .int .i64 ((rd_T30 l0 x48_2).f0.f1.f0), .int .i64 ((rd_T30 l0 x48_2).f0.f1.f1), .int .i64 ((rd_T30 l0 x48_2).f0.f2), .int .i64 ((rd_T30 l0 x48_2).f1), .int .i64 0]) ?_ 5 _ rfl; (with_reducible repeat (first | refine blk_drewN ?_ _ | refine blk_drew ?_ | refine blk_alloc ?_ _)); refine blk_put (cs := #[.int .i64 ((rd_T30 l0 x48_2).f0.f0), .int .i64 ((rd_T30 l0 x48_2).f0.f1.f0), .int .i64 ((rd_T30 l0 x48_2).f0.f1.f1), .int .i64 ((rd_T30 l0 x48_2).f0.f2), .int .i64 0, .int .i64 0]) ?_ 4 _ rfl; (with_reducible repeat (first | refine blk_drewN ?_ _ | refine blk_drew ?_ | refine blk_alloc ?_ _)); refine blk_put (cs := #[.int .i64 ((rd_T30 l0 x48_2).f0.f0), .int .i64 ((rd_T30 l0 x48_2).f0.f1.f0), .int .i64 ((rd_T30 l0 x48_2).f0.f1.f1), .int .i64 0, .int .i64 0, .int .i64 0]) ?_ 3 _ rfl; (with_reducible repeat (first | refine blk_drewN ?_ _ | refine blk_drew ?_ | refine blk_alloc ?_ _)); refine blk_put (cs := #[.int .i64 ((rd_T30 l0 x48_2).f0.f0), .int .i64 ((rd_T30 l0 x48_2).f0.f1.f0), .int .i64 0, .int .i64 0, .int .i64 0, .int .i64 0]) ?_ 2 _ rfl; (with_reducible repeat (first | refine blk_drewN ?_ _ | refine blk_drew ?_ | refine blk_alloc ?_ _)); refine blk_put (cs := #[.int .i64 ((rd_T30 l0 x48_2).f0.f0), .int .i64 0, .int .i64 0, .int .i64 0, .int .i64 0, .int .i64 0]) ?_ 1 _ rfl; (with_reducible repeat (first | refine blk_drewN ?_ _ | refine blk_drew ?_ | refine blk_alloc ?_ _)); refine blk_put (cs := #[.int .i64 0, .int .i64 0, .int .i64 0, .int .i64 0, .int .i64 0, .int .i64 0]) ?_ 0 _ rfl; (with_reducible repeat (first | refine blk_drewN ?_ _ | refine blk_drew ?_ | refine blk_alloc ?_ _)); exact BK224.out) k_ hk⟩)); (case aO => exact (by (with_reducible repeat (first | apply Kd.R_alloc | apply Kd.R_drewN | apply Kd.R_drew)); exact Kd.R_mono (Kd.R_far (p := ⟨gb224, 5, none⟩) (Kd.R_far (p := ⟨gb224, 4, none⟩) (Kd.R_far (p := ⟨gb224, 3, none⟩) (Kd.R_far (p := ⟨gb224, 2, none⟩) (Kd.R_far (p := ⟨gb224, 1, none⟩) (Kd.R_far (p := ⟨gb224, 0, none⟩) (Kd.R_mono HO_13.out (fun k_ hk => (⟨hk, hk.2⟩ : _ ∧ k_ ≠ gb224))) (fun _ hk => hk.2) (.int .i64 ((rd_T30 l0 x48_2).f0.f0))) (fun _ hk => hk.2) (.int .i64 ((rd_T30 l0 x48_2).f0.f1.f0))) (fun _ hk => hk.2) (.int .i64 ((rd_T30 l0 x48_2).f0.f1.f1))) (fun _ hk => hk.2) (.int .i64 ((rd_T30 l0 x48_2).f0.f2))) (fun _ hk => hk.2) (.int .i64 ((rd_T30 l0 x48_2).f1))) (fun _ hk => hk.2) (.int .i64 ((rd_T30 l0 x48_2).f2))) (fun _ hk => ⟨hk.1.1.1, ⟨hk.1.1.2, hk.1.2⟩⟩))); (case aS => exact (below_size (by repeat (first | (with_reducible first | exact HB.out | apply below_alloc | apply pw_below_drewN | apply below_drew1 | refine below_set ?_ GE211.out | refine below_set ?_ GE219.out | refine below_set ?_ GE224.out) | exact HB.out)))); (case aL => have := LMc29.out; omega); intro v226 wxead91 ho hb hg hat; rw [← Ny225.out] at ho; have n0_ := Aside0.mk (blk_grown (g := gb211) (o := .cells #[.int .i64 t204, .int .i64 t205, .int .i64 t206, .int .i64 t207, .int .i64 t208, .int .i64 t209] 30 (0, 0)) (by (with_reducible repeat (first | refine blk_drewN ?_ _ | refine blk_drew ?_ | refine blk_alloc ?_ _)); refine blk_far ?_ NB211_224.out _; (with_reducible repeat (first | refine blk_drewN ?_ _ | refine blk_drew ?_ | refine blk_alloc ?_ _)); refine blk_far ?_ NB211_224.out _; (with_reducible repeat (first | refine blk_drewN ?_ _ | refine blk_drew ?_ | refine blk_alloc ?_ _)); refine blk_far ?_ NB211_224.out _; (with_reducible repeat (first | refine blk_drewN ?_ _ | refine blk_drew ?_ | refine blk_alloc ?_ _)); refine blk_far ?_ NB211_224.out _; (with_reducible repeat (first | refine blk_drewN ?_ _ | refine blk_drew ?_ | refine blk_alloc ?_ _)); refine blk_far ?_ NB211_224.out _; (with_reducible repeat (first | refine blk_drewN ?_ _ | refine blk_drew ?_ | refine blk_alloc ?_ _)); refine blk_far ?_ NB211_224.out _; (with_reducible repeat (first | refine blk_drewN ?_ _ | refine blk_drew ?_ | refine blk_alloc ?_ _)); exact BK211.out) hg (Kd.R_away HO_13.out (fun _ hk => hk.1.1))); have n1_ := Aside0.mk (blk_grown (g := gb219) (o := .cells #[.int .i64 t212, .int .i64 t213, .int .i64 t214, .int .i64 t215, .int .i64 t216, .int .i64 t217] 30 (0, 0)) (by (with_reducible repeat (first | refine blk_drewN ?_ _ | refine blk_drew ?_ | refine blk_alloc ?_ _)); refine blk_far ?_ NB219_224.out _; (with_reducible repeat (first | refine blk_drewN ?_ _ | refine blk_drew ?_ | refine blk_alloc ?_ _)); refine blk_far ?_ NB219_224.out _; (with_reducible repeat (first | refine blk_drewN ?_ _ | refine blk_drew ?_ | refine blk_alloc ?_ _)); refine blk_far ?_ NB219_224.out _; (with_reducible repeat (first | refine blk_drewN ?_ _ | refine blk_drew ?_ | refine blk_alloc ?_ _)); refine blk_far ?_ NB219_224.out _; (with_reducible repeat (first | refine blk_drewN ?_ _ | refine blk_drew ?_ | refine blk_alloc ?_ _)); refine blk_far ?_ NB219_224.out _; (with_reducible repeat (first | refine blk_drewN ?_ _ | refine blk_drew ?_ | refine blk_alloc ?_ _)); refine blk_far ?_ NB219_224.out _; (with_reducible repeat (first | refine blk_drewN ?_ _ | refine blk_drew ?_ | refine blk_alloc ?_ _)); exact BK219.out) hg (Kd.R_away HO_13.out (fun _ hk => hk.1.2))); have n2_ := Aside0.mk (blk_grown (g := gb224) (o := .cells #[.int .i64 ((rd_T30 l0 x48_2).f0.f0), .int .i64 ((rd_T30 l0 x48_2).f0.f1.f0), .int .i64 ((rd_T30 l0 x48_2).f0.f1.f1), .int .i64 ((rd_T30 l0 x48_2).f0.f2), .int .i64 ((rd_T30 l0 x48_2).f1), .int .i64 ((rd_T30 l0 x48_2).f2)] 30 (0, 0)) (by (with_reducible repeat (first | refine blk_drewN ?_ _ | refine blk_drew ?_ | refine blk_alloc ?_ _)); refine blk_put (cs := #[.int .i64 ((rd_T30 l0 x48_2).f0.f0), .int .i64 ((rd_T30 l0 x48_2).f0.f1.f0), .int .i64 ((rd_T30 l0 x48_2).f0.f1.f1), .int .i64 ((rd_T30 l0 x48_2).f0.f2), .int .i64 ((rd_T30 l0 x48_2).f1), .int .i64 0]) ?_ 5 _ rfl; (with_reducible repeat (first | refine blk_drewN ?_ _ | refine blk_drew ?_ | refine blk_alloc ?_ _)); refine blk_put (cs := #[.int .i64 ((rd_T30 l0 x48_2).f0.f0), .int .i64 ((rd_T30 l0 x48_2).f0.f1.f0), .int .i64 ((rd_T30 l0 x48_2).f0.f1.f1), .int .i64 ((rd_T30 l0 x48_2).f0.f2), .int .i64 0, .int .i64 0]) ?_ 4 _ rfl; (with_reducible repeat (first | refine blk_drewN ?_ _ | refine blk_drew ?_ | refine blk_alloc ?_ _)); refine blk_put (cs := #[.int .i64 ((rd_T30 l0 x48_2).f0.f0), .int .i64 ((rd_T30 l0 x48_2).f0.f1.f0), .int .i64 ((rd_T30 l0 x48_2).f0.f1.f1), .int .i64 0, .int .i64 0, .int .i64 0]) ?_ 3 _ rfl; (with_reducible repeat (first | refine blk_drewN ?_ _ | refine blk_drew ?_ | refine blk_alloc ?_ _)); refine blk_put (cs := #[.int .i64 ((rd_T30 l0 x48_2).f0.f0), .int .i64 ((rd_T30 l0 x48_2).f0.f1.f0), .int .i64 0, .int .i64 0, .int .i64 0, .int .i64 0]) ?_ 2 _ rfl; (with_reducible repeat (first | refine blk_drewN ?_ _ | refine blk_drew ?_ | refine blk_alloc ?_ _)); refine blk_put (cs := #[.int .i64 ((rd_T30 l0 x48_2).f0.f0), .int .i64 0, .int .i64 0, .int .i64 0, .int .i64 0, .int .i64 0]) ?_ 1 _ rfl; (with_reducible repeat (first | refine blk_drewN ?_ _ | refine blk_drew ?_ | refine blk_alloc ?_ _)); refine blk_put (cs := #[.int .i64 0, .int .i64 0, .int .i64 0, .int .i64 0, .int .i64 0, .int .i64 0]) ?_ 0 _ rfl; (with_reducible repeat (first | refine blk_drewN ?_ _ | refine blk_drew ?_ | refine blk_alloc ?_ _)); exact BK224.out) hg (Kd.R_away HO_13.out (fun _ hk => hk.2))); have n3_ := Aside0.mk (hb); have n4_ := Aside0.mk (ho); clear BK211; clear BK219; clear BK224; clear HB; clear HO_13; have BK211 := n0_; have BK219 := n1_; have BK224 := n2_; have HB := n3_; have HO227 := n4_; clear n0_ n1_ n2_ n3_ n4_; clear ho hb hg hat))
               go_roundg k2
               case measure => have := HJ7.out; have := HK2.out; omega
               case rel => first | (exact ⟨(y225), (wrap64 (x48_2 + 1)), (by first | rfl | (simp; done) | (simp [*]; done)), H', ⟨by have := HJ7.out; have := HK2.out; omega⟩, ⟨by (with_reducible repeat (first | apply Kd.R_alloc | apply Kd.R_drewN | apply Kd.R_drew)); exact Kd.R_mono HO227.out (fun _ hk => ⟨hk.1, hk.2.1⟩)⟩, ⟨by (with_reducible repeat (first | refine blk_drewN ?_ _ | refine blk_drew ?_ | refine blk_alloc ?_ _)); exact BK211.out⟩, ⟨by (with_reducible repeat (first | refine blk_drewN ?_ _ | refine blk_drew ?_ | refine blk_alloc ?_ _)); exact BK219.out⟩, ⟨by repeat (first | (with_reducible first | exact HB.out | apply below_alloc | apply pw_below_drewN | apply below_drew1 | refine below_set ?_ GE211.out | refine below_set ?_ GE219.out | refine below_set ?_ GE224.out) | exact HB.out)⟩⟩) | (exact ⟨(x13_2), (wrap64 (x48_2 + 1)), (by first | rfl | (simp; done) | (simp [*]; done)), H', ⟨by have := HJ7.out; have := HK2.out; omega⟩, ⟨by (with_reducible repeat (first | apply Kd.R_alloc | apply Kd.R_drewN | apply Kd.R_drew)); exact Kd.R_mono (Kd.R_far (p := ⟨gb224, 5, none⟩) (Kd.R_far (p := ⟨gb224, 4, none⟩) (Kd.R_far (p := ⟨gb224, 3, none⟩) (Kd.R_far (p := ⟨gb224, 2, none⟩) (Kd.R_far (p := ⟨gb224, 1, none⟩) (Kd.R_far (p := ⟨gb224, 0, none⟩) (Kd.R_mono HO_13.out (fun k_ hk => (⟨hk, hk.2⟩ : _ ∧ k_ ≠ gb224))) (fun _ hk => hk.2) (.int .i64 ((rd_T30 l0 x48_2).f0.f0))) (fun _ hk => hk.2) (.int .i64 ((rd_T30 l0 x48_2).f0.f1.f0))) (fun _ hk => hk.2) (.int .i64 ((rd_T30 l0 x48_2).f0.f1.f1))) (fun _ hk => hk.2) (.int .i64 ((rd_T30 l0 x48_2).f0.f2))) (fun _ hk => hk.2) (.int .i64 ((rd_T30 l0 x48_2).f1))) (fun _ hk => hk.2) (.int .i64 ((rd_T30 l0 x48_2).f2))) (fun _ hk => ⟨hk.1.1.1, hk.1.1.2⟩)⟩, ⟨by (with_reducible repeat (first | refine blk_drewN ?_ _ | refine blk_drew ?_ | refine blk_alloc ?_ _)); refine blk_far ?_ NB211_224.out _; (with_reducible repeat (first | refine blk_drewN ?_ _ | refine blk_drew ?_ | refine blk_alloc ?_ _)); refine blk_far ?_ NB211_224.out _; (with_reducible repeat (first | refine blk_drewN ?_ _ | refine blk_drew ?_ | refine blk_alloc ?_ _)); refine blk_far ?_ NB211_224.out _; (with_reducible repeat (first | refine blk_drewN ?_ _ | refine blk_drew ?_ | refine blk_alloc ?_ _)); refine blk_far ?_ NB211_224.out _; (with_reducible repeat (first | refine blk_drewN ?_ _ | refine blk_drew ?_ | refine blk_alloc ?_ _)); refine blk_far ?_ NB211_224.out _; (with_reducible repeat (first | refine blk_drewN ?_ _ | refine blk_drew ?_ | refine blk_alloc ?_ _)); refine blk_far ?_ NB211_224.out _; (with_reducible repeat (first | refine blk_drewN ?_ _ | refine blk_drew ?_ | refine blk_alloc ?_ _)); exact BK211.out⟩, ⟨by (with_reducible repeat (first | refine blk_drewN ?_ _ | refine blk_drew ?_ | refine blk_alloc ?_ _)); refine blk_far ?_ NB219_224.out _; (with_reducible repeat (first | refine blk_drewN ?_ _ | refine blk_drew ?_ | refine blk_alloc ?_ _)); refine blk_far ?_ NB219_224.out _; (with_reducible repeat (first | refine blk_drewN ?_ _ | refine blk_drew ?_ | refine blk_alloc ?_ _)); refine blk_far ?_ NB219_224.out _; (with_reducible repeat (first | refine blk_drewN ?_ _ | refine blk_drew ?_ | refine blk_alloc ?_ _)); refine blk_far ?_ NB219_224.out _; (with_reducible repeat (first | refine blk_drewN ?_ _ | refine blk_drew ?_ | refine blk_alloc ?_ _)); refine blk_far ?_ NB219_224.out _; (with_reducible repeat (first | refine blk_drewN ?_ _ | refine blk_drew ?_ | refine blk_alloc ?_ _)); refine blk_far ?_ NB219_224.out _; (with_reducible repeat (first | refine blk_drewN ?_ _ | refine blk_drew ?_ | refine blk_alloc ?_ _)); exact BK219.out⟩, ⟨by repeat (first | (with_reducible first | exact HB.out | apply below_alloc | apply pw_below_drewN | apply below_drew1 | refine below_set ?_ GE211.out | refine below_set ?_ GE219.out | refine below_set ?_ GE224.out) | exact HB.out)⟩⟩)
             | clear hm6_1
               go_wp2_with (first | ((with_reducible refine gate_builtin (b := .append) (xs := #[.tmp 72, .tmp 74]) rfl ?_); at_builtin; refine Kd.R_append k30 (w0 := w) w.heap.size rfl (.tmp 72) (.tmp 74) 23 30 (.agg #[(.int .i64 0), (.int .i64 0), (.int .i64 0), (.int .i64 0), (.int .i64 0), (.int .i64 0)]) 48 rfl Try.underlying23 info30 rfl (by decide) (by omega) u13 x13_2 (⟨(⟨t212, (⟨t213, t214⟩ : S26), t215⟩ : S28), t216, t217⟩ : S30) [.int .i64 t212, .int .i64 t213, .int .i64 t214, .int .i64 t215, .int .i64 t216, .int .i64 t217] (fun k_ => k_ ≠ gb211 ∧ k_ ≠ gb219) (fun _ => False) rfl rfl ?aP (fun _ hk => hk.elim) ?aF ?aO ?aB ?aS ?aL ?_; (case aP => exact k30_mkM _ _ _ (⟨(⟨t212, (⟨t213, t214⟩ : S26), t215⟩ : S28), t216, t217⟩ : S30)); (case aB => exact (by repeat (first | (with_reducible first | exact HB.out | apply below_alloc | apply pw_below_drewN | apply below_drew1 | refine below_set ?_ GE211.out | refine below_set ?_ GE219.out) | exact HB.out))); (case aF => exact (fun k_ hk => ⟨Kd.freshB (g := gb211) (o := .cells #[.int .i64 t204, .int .i64 t205, .int .i64 t206, .int .i64 t207, .int .i64 t208, .int .i64 t209] 30 (0, 0)) (by (with_reducible repeat (first | refine blk_drewN ?_ _ | refine blk_drew ?_ | refine blk_alloc ?_ _)); exact BK211.out) k_ hk, Kd.freshB (g := gb219) (o := .cells #[.int .i64 t212, .int .i64 t213, .int .i64 t214, .int .i64 t215, .int .i64 t216, .int .i64 t217] 30 (0, 0)) (by (with_reducible repeat (first | refine blk_drewN ?_ _ | refine blk_drew ?_ | refine blk_alloc ?_ _)); exact BK219.out) k_ hk⟩)); (case aO => exact (by (with_reducible repeat (first | apply Kd.R_alloc | apply Kd.R_drewN | apply Kd.R_drew)); exact HO_13.out)); (case aS => exact (below_size (by repeat (first | (with_reducible first | exact HB.out | apply below_alloc | apply pw_below_drewN | apply below_drew1 | refine below_set ?_ GE211.out | refine below_set ?_ GE219.out) | exact HB.out)))); (case aL => have := LMc44.out; omega); intro v229 wxaaeb1 ho hb hg hat; rw [← Ny228.out] at ho; have n0_ := Aside0.mk (blk_grown (g := gb211) (o := .cells #[.int .i64 t204, .int .i64 t205, .int .i64 t206, .int .i64 t207, .int .i64 t208, .int .i64 t209] 30 (0, 0)) (by (with_reducible repeat (first | refine blk_drewN ?_ _ | refine blk_drew ?_ | refine blk_alloc ?_ _)); exact BK211.out) hg (Kd.R_away HO_13.out (fun _ hk => hk.1))); have n1_ := Aside0.mk (blk_grown (g := gb219) (o := .cells #[.int .i64 t212, .int .i64 t213, .int .i64 t214, .int .i64 t215, .int .i64 t216, .int .i64 t217] 30 (0, 0)) (by (with_reducible repeat (first | refine blk_drewN ?_ _ | refine blk_drew ?_ | refine blk_alloc ?_ _)); exact BK219.out) hg (Kd.R_away HO_13.out (fun _ hk => hk.2))); have n2_ := Aside0.mk (hb); have n3_ := Aside0.mk (ho); clear BK211; clear BK219; clear HB; clear HO_13; have BK211 := n0_; have BK219 := n1_; have HB := n2_; have HO230 := n3_; clear n0_ n1_ n2_ n3_; clear ho hb hg hat))
               go_ret2
               exact ⟨_, by first | rfl | (simp [errW_none, errW_some] <;> rfl) | (simp [*, errW_none, errW_some] <;> rfl), by (with_reducible repeat (first | apply Kd.R_alloc | apply Kd.R_drewN | apply Kd.R_drew)); exact Kd.R_mono HO230.out (fun _ hk => trivial), by repeat (first | (with_reducible first | exact HB.out | apply below_alloc | apply pw_below_drewN | apply below_drew1 | refine below_set ?_ GE211.out | refine below_set ?_ GE219.out) | exact HB.out)⟩
             | clear hm6_2
               go_wp2
               go_ret2
               exact ⟨_, by first | rfl | (simp [errW_none, errW_some] <;> rfl) | (simp [*, errW_none, errW_some] <;> rfl), by (with_reducible repeat (first | apply Kd.R_alloc | apply Kd.R_drewN | apply Kd.R_drew)); exact Kd.R_mono HO_13.out (fun _ hk => trivial), by repeat (first | (with_reducible first | exact HB.out | apply below_alloc | apply pw_below_drewN | apply below_drew1 | refine below_set ?_ GE211.out | refine below_set ?_ GE219.out) | exact HB.out)⟩
   | clear hm1_1
     go_wp2_with (first | ((with_reducible refine gate_callee (f := 20) rfl ?_); refine goesL_ (some 17) rfl rfl Try.func20 (by kernel_rfl) rfl #[.slice A0 l0.length c0] rfl (by (try simp only [List.map_toArray, List.map_cons, List.map_nil]); first | done | rfl | (simp only [List.length_drop, List.length_take]; rfl)) ?_; (with_reducible refine (tube_Check.calls k _ _ l0 t203 _ ?side1 ?side2 A4.out).mono ?_); (case side1 => repeat (first | exact HR0.out | (with_reducible refine Kd.C_alloc ?_ _) | (with_reducible refine Kd.C_drewN ?_ _) | (with_reducible refine Kd.C_drew ?_))); (case side2 => exact HC0.out); rintro e wx3d701 ⟨rfl, hb⟩; refine ⟨_, rfl, ?_⟩; have n0_ := Aside0.mk (below_step (by repeat (first | (with_reducible first | exact HB.out | apply below_alloc | apply pw_below_drewN | apply below_drew1) | exact HB.out)) hb); clear HB; have HB := n0_; clear n0_; (try clear hb); (try clear hb2); (try clear hk); (try clear hi)))
     go_ret2
     exact ⟨_, by first | rfl | (simp [errW_none, errW_some] <;> rfl) | (simp [*, errW_none, errW_some] <;> rfl), by first | exact Kd.R_nil _ _ _ _ _ | exact Kd.N_nil _ _ _ _ _ | exact Kd.V_nil _ _ _ _ _ | exact Kd.Q_nil _ _ _ _ _ | exact Kd.S_nil _ _ _ _ _, by repeat (first | (with_reducible first | exact HB.out | apply below_alloc | apply pw_below_drewN | apply below_drew1) | exact HB.out)⟩

/-! ### skywaykeep1_TubeCuts_1: function 22 -/
def skywaykeep1_TubeCuts_1.f (a0 : Int) (a1 : Int) : Option (Bool) := if (wrap64 (a0 - a1)) > 1 then (some true) else (some (decide ((wrap64 (a1 - a0)) > 1)))
set_option maxHeartbeats 8000000 in
set_option maxRecDepth 100000 in
theorem skywaykeep1_TubeCuts_1.calls (a0 : Int) (a1 : Int) (r : Bool) (w : World) (h : skywaykeep1_TubeCuts_1.f a0 a1 = some r) :
    Calls Try.prog 22 #[.int .i64 a0, .int .i64 a1] w fun e w' => e = .returned (.bool r) ∧ Below w.heap.size w w' := by
 have HB := Aside0.mk (Below.refl w.heap.size w)
 have H : (if (wrap64 (a0 - a1)) > 1 then (some true) else (some (decide ((wrap64 (a1 - a0)) > 1)))) = some r := h
 clear h
 refine Or.elim (Classical.em ((wrap64 (a0 - a1)) > 1)) (fun c3 => ?p2_) (fun c3 => ?n2_)
 case' p2_ =>
  rw [if_pos c3] at H
  have c3b0 : decide (1 < (wrap64 (a0 - a1))) = true := decide_eq_true c3
  clear c3
 case' n2_ =>
  rw [if_neg c3] at H
  have c3b0 : decide (1 < (wrap64 (a0 - a1))) = false := decide_eq_false c3
  clear c3
 all_goals
  obtain rfl := Option.some.inj H
  go_enter Try.func22, Try.ntmps22
  go_wp2
  go_ret
  exact ⟨by first | rfl | (simp [errW_none, errW_some] <;> rfl) | (simp [*, errW_none, errW_some] <;> rfl), by repeat (first | (with_reducible first | exact HB.out | apply below_alloc | apply pw_below_drewN | apply below_drew1) | exact HB.out)⟩

/-! ### skywaykeep1_TubeCuts: function 5 -/
mutual
def skywaykeep1_TubeCuts.j0 : Nat → List (S30) → Int → Int → Int → List (S30) → Bool → Option (Bool)
  | 0, _, _, _, _, _, _ => none
  | k + 1, x0, x1, x2, x3, x9, x53 => if x53 = true then (some false) else ((tube_At.f k x0 (wrap64 (x1 + (Int.tmod (wrap64 ((Int.tmod x3 1000) + 1000)) 1000)))).bind fun bt239 => ((tube_At.f k x9 (wrap64 (x1 + (Int.tmod (wrap64 ((Int.tmod x3 1000) + 1000)) 1000)))).bind fun bt247 => (if bt239.2.2.2.2.2.2 = 0 then (skywaykeep1_TubeCuts.j1 k x1 x2 (wrap64 (x1 + (Int.tmod (wrap64 ((Int.tmod x3 1000) + 1000)) 1000))) (bt247.2.2.2.2.2.2 != 0) bt239.1 bt239.2.1 bt239.2.2.1 bt239.2.2.2.1 bt239.2.2.2.2.1 bt239.2.2.2.2.2.1 bt247.1 bt247.2.1 bt247.2.2.1 bt247.2.2.2.1 bt247.2.2.2.2.1 bt247.2.2.2.2.2.1) else (skywaykeep1_TubeCuts.j1 k x1 x2 (wrap64 (x1 + (Int.tmod (wrap64 ((Int.tmod x3 1000) + 1000)) 1000))) true bt239.1 bt239.2.1 bt239.2.2.1 bt239.2.2.2.1 bt239.2.2.2.2.1 bt239.2.2.2.2.2.1 bt247.1 bt247.2.1 bt247.2.2.1 bt247.2.2.2.1 bt247.2.2.2.2.1 bt247.2.2.2.2.2.1))))
def skywaykeep1_TubeCuts.j1 : Nat → Int → Int → Int → Bool → Int → Int → Int → Int → Int → Int → Int → Int → Int → Int → Int → Int → Option (Bool)
  | 0, _, _, _, _, _, _, _, _, _, _, _, _, _, _, _, _ => none
  | k + 1, x1, x2, x3, x77, x247000, x247001, x247002, x247003, x247004, x247005, x255000, x255001, x255002, x255003, x255004, x255005 => if x77 = true then (some (decide (x3 > x2))) else ((skywaykeep1_TubeCuts_1.f x247001 x255001).bind fun t255 => (if t255 = true then (some false) else ((skywaykeep1_TubeCuts_1.f x247002 x255002).bind fun t256 => (if t256 = true then (some false) else ((skywaykeep1_TubeCuts_1.f x247003 x255003).bind fun t257 => (if t257 = true then (some false) else ((skywaykeep1_TubeCuts_1.f x247004 x255004).bind fun t258 => (if t258 = true then (some false) else ((skywaykeep1_TubeCuts_1.f x247005 x255005).bind fun t259 => (if t259 = true then (some false) else (if x3 = x1 then (some ((x247000 == x255000 && ((x247001 == x255001 && (x247002 == x255002)) && (x247003 == x255003))) && (x247004 == x255004 && (x247005 == x255005)))) else (if x3 = x2 then (some ((x247000 == x255000 && ((x247001 == x255001 && (x247002 == x255002)) && (x247003 == x255003))) && (x247004 == x255004 && (x247005 == x255005)))) else (some true)))))))))))))
end
def skywaykeep1_TubeCuts.f (k : Nat) (l0 : List (S30)) (a1 : Int) (a2 : Int) (a3 : Int) : Option (Bool) := (skywaykeep1_tubeWorks.f k).bind fun t231 => (if t231 = true then ((tube_Cut.f k l0 a1 a2).bind fun bt232 => (if bt232.2 = 0 then ((tube_Check.f k bt232.1).bind fun t236 => (if t236 = 0 then (if 0 < (bt232.1.length : Int) then (if ((rd_T30 bt232.1 0).f0.f0) = a1 then (if 0 ≤ (wrap64 ((bt232.1.length : Int) - 1)) then (if (wrap64 ((bt232.1.length : Int) - 1)) < (bt232.1.length : Int) then (skywaykeep1_TubeCuts.j0 k l0 a1 a2 a3 bt232.1 (((rd_T30 bt232.1 (wrap64 ((bt232.1.length : Int) - 1))).f0.f0) != a2)) else (none)) else (none)) else (skywaykeep1_TubeCuts.j0 k l0 a1 a2 a3 bt232.1 true)) else (none)) else (skywaykeep1_TubeCuts.j0 k l0 a1 a2 a3 bt232.1 true))) else (some ((bt232.1.length : Int) == 0)))) else (some false))
theorem skywaykeep1_TubeCuts.mono_l : ∀ k, (∀ y0 y1 y2 y3 y4 y5, LeO (skywaykeep1_TubeCuts.j0 k y0 y1 y2 y3 y4 y5) (skywaykeep1_TubeCuts.j0 (k + 1) y0 y1 y2 y3 y4 y5)) ∧ (∀ y0 y1 y2 y3 y4 y5 y6 y7 y8 y9 y10 y11 y12 y13 y14 y15, LeO (skywaykeep1_TubeCuts.j1 k y0 y1 y2 y3 y4 y5 y6 y7 y8 y9 y10 y11 y12 y13 y14 y15) (skywaykeep1_TubeCuts.j1 (k + 1) y0 y1 y2 y3 y4 y5 y6 y7 y8 y9 y10 y11 y12 y13 y14 y15))
  | 0 => ⟨fun _ _ _ _ _ _ r h => by simp [skywaykeep1_TubeCuts.j0] at h, fun _ _ _ _ _ _ _ _ _ _ _ _ _ _ _ _ r h => by simp [skywaykeep1_TubeCuts.j1] at h⟩
  | k + 1 => by
    obtain ⟨ih0, ih1⟩ := skywaykeep1_TubeCuts.mono_l k
    refine ⟨?_, ?_⟩
    · intro y0 y1 y2 y3 y4 y5
      unfold skywaykeep1_TubeCuts.j0
      repeat' first
      | (with_reducible exact ih0 _ _ _ _ _ _)
      | (with_reducible exact ih1 _ _ _ _ _ _ _ _ _ _ _ _ _ _ _ _)
      | (with_reducible exact skywaykeep1_tubeWorks.mono _)
      | (with_reducible exact tube_At.mono _ _ _)
      | (with_reducible exact tube_Check.mono _ _)
      | (with_reducible exact tube_Cut.mono _ _ _ _)
      | (with_reducible exact LeO.refl _)
      | (with_reducible exact LeO.none _)
      | (with_reducible refine LeO.ite ?_ ?_)
      | (with_reducible refine LeO.bind ?_ (fun _ => ?_))
      | exact ih0 _ _ _ _ _ _
      | exact ih1 _ _ _ _ _ _ _ _ _ _ _ _ _ _ _ _
      | exact skywaykeep1_tubeWorks.mono _
      | exact tube_At.mono _ _ _
      | exact tube_Check.mono _ _
      | exact tube_Cut.mono _ _ _ _
      | exact LeO.none _
      | refine LeO.ite ?_ ?_
      | refine LeO.bind ?_ (fun _ => ?_)
    · intro y0 y1 y2 y3 y4 y5 y6 y7 y8 y9 y10 y11 y12 y13 y14 y15
      unfold skywaykeep1_TubeCuts.j1
      repeat' first
      | (with_reducible exact ih0 _ _ _ _ _ _)
      | (with_reducible exact ih1 _ _ _ _ _ _ _ _ _ _ _ _ _ _ _ _)
      | (with_reducible exact skywaykeep1_tubeWorks.mono _)
      | (with_reducible exact tube_At.mono _ _ _)
      | (with_reducible exact tube_Check.mono _ _)
      | (with_reducible exact tube_Cut.mono _ _ _ _)
      | (with_reducible exact LeO.refl _)
      | (with_reducible exact LeO.none _)
      | (with_reducible refine LeO.ite ?_ ?_)
      | (with_reducible refine LeO.bind ?_ (fun _ => ?_))
      | exact ih0 _ _ _ _ _ _
      | exact ih1 _ _ _ _ _ _ _ _ _ _ _ _ _ _ _ _
      | exact skywaykeep1_tubeWorks.mono _
      | exact tube_At.mono _ _ _
      | exact tube_Check.mono _ _
      | exact tube_Cut.mono _ _ _ _
      | exact LeO.none _
      | refine LeO.ite ?_ ?_
      | refine LeO.bind ?_ (fun _ => ?_)
theorem skywaykeep1_TubeCuts.mono : ∀ a0 a1 a2 a3 k, LeO (skywaykeep1_TubeCuts.f k a0 a1 a2 a3) (skywaykeep1_TubeCuts.f (k + 1) a0 a1 a2 a3) := by
  intro a0 a1 a2 a3 k
  obtain ⟨ih0, ih1⟩ := skywaykeep1_TubeCuts.mono_l k
  unfold skywaykeep1_TubeCuts.f
  repeat' first
      | (with_reducible exact ih0 _ _ _ _ _ _)
      | (with_reducible exact ih1 _ _ _ _ _ _ _ _ _ _ _ _ _ _ _ _)
      | (with_reducible exact skywaykeep1_tubeWorks.mono _)
      | (with_reducible exact tube_At.mono _ _ _)
      | (with_reducible exact tube_Check.mono _ _)
      | (with_reducible exact tube_Cut.mono _ _ _ _)
      | (with_reducible exact LeO.refl _)
      | (with_reducible exact LeO.none _)
      | (with_reducible refine LeO.ite ?_ ?_)
      | (with_reducible refine LeO.bind ?_ (fun _ => ?_))
      | exact ih0 _ _ _ _ _ _
      | exact ih1 _ _ _ _ _ _ _ _ _ _ _ _ _ _ _ _
      | exact skywaykeep1_tubeWorks.mono _
      | exact tube_At.mono _ _ _
      | exact tube_Check.mono _ _
      | exact tube_Cut.mono _ _ _ _
      | exact LeO.none _
      | refine LeO.ite ?_ ?_
      | refine LeO.bind ?_ (fun _ => ?_)
set_option maxHeartbeats 8000000 in
set_option maxRecDepth 100000 in
theorem skywaykeep1_TubeCuts.calls (k : Nat) (A0 : Option Addr) (c0 : Nat) (l0 : List (S30)) (a1 : Int) (a2 : Int) (a3 : Int) (r : Bool) (w : World) (hr0 : Kd.C k30 w A0 l0.length l0) (hc0 : l0.length ≤ c0) (h : skywaykeep1_TubeCuts.f k l0 a1 a2 a3 = some r) :
    Calls Try.prog 5 #[.slice A0 l0.length c0, .int .i64 a1, .int .i64 a2, .int .i64 a3] w fun e w' => e = .returned (.bool r) ∧ Below w.heap.size w w' := by
 have hu30 := Try.underlying30
 have HR0 := Aside0.mk hr0
 have HC0 := Aside0.mk hc0
 clear hr0 hc0
 have HB := Aside0.mk (Below.refl w.heap.size w)
 have H : ((skywaykeep1_tubeWorks.f k).bind fun t231 => (if t231 = true then ((tube_Cut.f k l0 a1 a2).bind fun bt232 => (if bt232.2 = 0 then ((tube_Check.f k bt232.1).bind fun t236 => (if t236 = 0 then (if 0 < (bt232.1.length : Int) then (if ((rd_T30 bt232.1 0).f0.f0) = a1 then (if 0 ≤ (wrap64 ((bt232.1.length : Int) - 1)) then (if (wrap64 ((bt232.1.length : Int) - 1)) < (bt232.1.length : Int) then (skywaykeep1_TubeCuts.j0 k l0 a1 a2 a3 bt232.1 (((rd_T30 bt232.1 (wrap64 ((bt232.1.length : Int) - 1))).f0.f0) != a2)) else (none)) else (none)) else (skywaykeep1_TubeCuts.j0 k l0 a1 a2 a3 bt232.1 true)) else (none)) else (skywaykeep1_TubeCuts.j0 k l0 a1 a2 a3 bt232.1 true))) else (some ((bt232.1.length : Int) == 0)))) else (some false))) = some r := h
 clear h
 replace H := Option.bind_eq_some_iff.mp H
 obtain ⟨t231, A50, H⟩ := H
 replace H : (if t231 = true then ((tube_Cut.f k l0 a1 a2).bind fun bt232 => (if bt232.2 = 0 then ((tube_Check.f k bt232.1).bind fun t236 => (if t236 = 0 then (if 0 < (bt232.1.length : Int) then (if ((rd_T30 bt232.1 0).f0.f0) = a1 then (if 0 ≤ (wrap64 ((bt232.1.length : Int) - 1)) then (if (wrap64 ((bt232.1.length : Int) - 1)) < (bt232.1.length : Int) then (skywaykeep1_TubeCuts.j0 k l0 a1 a2 a3 bt232.1 (((rd_T30 bt232.1 (wrap64 ((bt232.1.length : Int) - 1))).f0.f0) != a2)) else (none)) else (none)) else (skywaykeep1_TubeCuts.j0 k l0 a1 a2 a3 bt232.1 true)) else (none)) else (skywaykeep1_TubeCuts.j0 k l0 a1 a2 a3 bt232.1 true))) else (some ((bt232.1.length : Int) == 0)))) else (some false)) = some r := H
 have A5 := Aside0.mk A50
 clear A50
 refine Or.elim (Classical.em (t231 = true)) (fun c6 => ?p2_) (fun c6 => ?n2_)
 case' p2_ =>
  subst c6
  have H1 : ((tube_Cut.f k l0 a1 a2).bind fun bt232 => (if bt232.2 = 0 then ((tube_Check.f k bt232.1).bind fun t236 => (if t236 = 0 then (if 0 < (bt232.1.length : Int) then (if ((rd_T30 bt232.1 0).f0.f0) = a1 then (if 0 ≤ (wrap64 ((bt232.1.length : Int) - 1)) then (if (wrap64 ((bt232.1.length : Int) - 1)) < (bt232.1.length : Int) then (skywaykeep1_TubeCuts.j0 k l0 a1 a2 a3 bt232.1 (((rd_T30 bt232.1 (wrap64 ((bt232.1.length : Int) - 1))).f0.f0) != a2)) else (none)) else (none)) else (skywaykeep1_TubeCuts.j0 k l0 a1 a2 a3 bt232.1 true)) else (none)) else (skywaykeep1_TubeCuts.j0 k l0 a1 a2 a3 bt232.1 true))) else (some ((bt232.1.length : Int) == 0)))) = some r := by rw [if_pos rfl] at H; exact H
  clear H
  have H := H1
  clear H1
  replace H := Option.bind_eq_some_iff.mp H
  obtain ⟨⟨t232, t233⟩, A70, H⟩ := H
  replace H : (if t233 = 0 then ((tube_Check.f k t232).bind fun t236 => (if t236 = 0 then (if 0 < (t232.length : Int) then (if ((rd_T30 t232 0).f0.f0) = a1 then (if 0 ≤ (wrap64 ((t232.length : Int) - 1)) then (if (wrap64 ((t232.length : Int) - 1)) < (t232.length : Int) then (skywaykeep1_TubeCuts.j0 k l0 a1 a2 a3 t232 (((rd_T30 t232 (wrap64 ((t232.length : Int) - 1))).f0.f0) != a2)) else (none)) else (none)) else (skywaykeep1_TubeCuts.j0 k l0 a1 a2 a3 t232 true)) else (none)) else (skywaykeep1_TubeCuts.j0 k l0 a1 a2 a3 t232 true))) else (some ((t232.length : Int) == 0))) = some r := H
  have A7 := Aside0.mk A70
  clear A70
  refine Or.elim (Classical.em (t233 = 0)) (fun c8 => ?p3_) (fun c8 => ?n3_)
  case' p3_ =>
   rw [if_pos c8] at H
   have c8b0 : (t233 == 0) = true := beq_iff_eq.mpr c8
   have c8b1 : (t233 != 0) = false := bne_eq_false_iff_eq.mpr c8
   clear c8
   have HC9 := Aside0.mk H
   clear H
   have hm1_0 := Aside0.mk trivial
  case' n3_ =>
   rw [if_neg c8] at H
   have c8b0 : (t233 == 0) = false := beq_eq_false_iff_ne.mpr c8
   have c8b1 : (t233 != 0) = true := bne_iff_ne.mpr c8
   have hm1_1 := Aside0.mk trivial
 case' n2_ =>
  replace c6 := Bool.eq_false_iff.mpr c6
  subst c6
  have H1 : (some false) = some r := by rw [if_neg (show ¬ (false = true) by decide)] at H; exact H
  clear H
  have H := H1
  clear H1
  have hm1_1 := Aside0.mk trivial
 all_goals
  first
   | clear hm1_0
     go_enter Try.func5, Try.ntmps5
     go_upto_region 6 with (first | ((with_reducible refine gate_callee (f := 15) rfl ?_); refine goesL_ (some 16) rfl rfl Try.func15 (by kernel_rfl) rfl #[] rfl (by (try simp only [List.map_toArray, List.map_cons, List.map_nil]); first | done | rfl | (simp only [List.length_drop, List.length_take]; rfl)) ?_; (with_reducible refine (skywaykeep1_tubeWorks.calls k  true _ A5.out).mono ?_); rintro e wxbf1d1 ⟨rfl, hb⟩; refine ⟨_, rfl, ?_⟩; have n0_ := Aside0.mk (below_step (by repeat (first | (with_reducible first | exact HB.out | apply below_alloc | apply pw_below_drewN | apply below_drew1) | exact HB.out)) hb); clear HB; have HB := n0_; clear n0_; (try clear hb); (try clear hb2); (try clear hk); (try clear hi)) | ((with_reducible refine gate_callee (f := 21) rfl ?_); refine goesL_ (some 22) rfl rfl Try.func21 (by kernel_rfl) rfl #[.slice A0 l0.length c0, .int .i64 a1, .int .i64 a2] rfl (by (try simp only [List.map_toArray, List.map_cons, List.map_nil]); first | done | rfl | (simp only [List.length_drop, List.length_take]; rfl)) ?_; (with_reducible refine (tube_Cut.calls k _ _ l0 a1 a2 t232 t233 _ ?side1 ?side2 A7.out).mono ?_); (case side1 => repeat (first | exact (Kd.C_below HR0.out HB.out) | (with_reducible refine Kd.C_alloc ?_ _) | (with_reducible refine Kd.C_drewN ?_ _) | (with_reducible refine Kd.C_drew ?_))); (case side2 => exact HC0.out); rintro e wx6a8f1 ⟨v234, rfl, hox6a8f1, hb⟩; refine ⟨_, rfl, ?_⟩; have n0_ := Aside0.mk (Kd.R_lower hox6a8f1 (below_size (by repeat (first | (with_reducible first | exact HB.out | apply below_alloc | apply pw_below_drewN | apply below_drew1) | exact HB.out)))); have n1_ := Aside0.mk (below_step (by repeat (first | (with_reducible first | exact HB.out | apply below_alloc | apply pw_below_drewN | apply below_drew1) | exact HB.out)) hb); clear HB; have HO235 := n0_; have HB := n1_; clear n0_ n1_; (try clear hb); (try clear hb2); (try clear hk); (try clear hi); (try clear hox6a8f1)))
     (try simp only [Act.put, List.setIfInBounds_toArray, List.set_cons_zero, List.set_cons_succ])
     go_cut [53] (fun v53 wc => ∃ (kq : Nat) (x53_8 : Bool), v53 = .bool x53_8 ∧ Aside0 (skywaykeep1_TubeCuts.j0 kq l0 a1 a2 a3 t232 x53_8 = some r) ∧ Aside0 (kq ≤ k) ∧ Aside0 (Kd.R k30 30 wc w.heap.size (fun _ => True) v234 t232) ∧ Aside0 (Below w.heap.size w wc))
     case first =>
      have H := HC9.out
      clear HC9
      replace H := Option.bind_eq_some_iff.mp H
      obtain ⟨t236, A120, H⟩ := H
      replace H : (if t236 = 0 then (if 0 < (t232.length : Int) then (if ((rd_T30 t232 0).f0.f0) = a1 then (if 0 ≤ (wrap64 ((t232.length : Int) - 1)) then (if (wrap64 ((t232.length : Int) - 1)) < (t232.length : Int) then (skywaykeep1_TubeCuts.j0 k l0 a1 a2 a3 t232 (((rd_T30 t232 (wrap64 ((t232.length : Int) - 1))).f0.f0) != a2)) else (none)) else (none)) else (skywaykeep1_TubeCuts.j0 k l0 a1 a2 a3 t232 true)) else (none)) else (skywaykeep1_TubeCuts.j0 k l0 a1 a2 a3 t232 true)) = some r := H
      have A12 := Aside0.mk A120
      clear A120
      refine Or.elim (Classical.em (t236 = 0)) (fun c13 => ?p5_) (fun c13 => ?n5_)
      case' p5_ =>
       rw [if_pos c13] at H
       have c13b0 : (t236 == 0) = true := beq_iff_eq.mpr c13
       have c13b1 : (t236 != 0) = false := bne_eq_false_iff_eq.mpr c13
       clear c13
       (first | rw [c13b0] | (simp only [i64_w, i32_w]; rw [c13b0]) | skip)
       refine Or.elim (Classical.em (0 < (t232.length : Int))) (fun c14 => ?p6_) (fun c14 => ?n6_)
       case' p6_ =>
        rw [if_pos c14] at H
        have c14b0 : decide (0 < (t232.length : Int)) = true := decide_eq_true c14
        have c14b1 : decide (0 < t232.length) = true := decide_eq_true (by omega)
        clear c14
        refine Or.elim (Classical.em (((rd_T30 t232 0).f0.f0) = a1)) (fun c15 => ?p7_) (fun c15 => ?n7_)
        case' p7_ =>
         rw [if_pos c15] at H
         have c15b0 : (((rd_T30 t232 0).f0.f0) == a1) = true := beq_iff_eq.mpr c15
         have c15b1 : (((rd_T30 t232 0).f0.f0) != a1) = false := bne_eq_false_iff_eq.mpr c15
         clear c15
         obtain ⟨ji16, hji16⟩ : ∃ j_ : Int, (wrap64 ((t232.length : Int) - 1)) = j_ := ⟨_, rfl⟩
         replace H : (if 0 ≤ (ji16) then (if (ji16) < (t232.length : Int) then (skywaykeep1_TubeCuts.j0 k l0 a1 a2 a3 t232 (((rd_T30 t232 (ji16)).f0.f0) != a2)) else (none)) else (none)) = some r := by first | (rw [hji16] at H; exact H) | (simp only [hji16] at H ⊢; exact H)
         (try rw [hji16] at A12)
         have hji16w : (IntKind.i64.wrap ((t232.length : Int) - 1)) = ji16 := (i64_w _).trans hji16
         refine Or.elim (Classical.em (0 ≤ (ji16))) (fun c17 => ?p8_) (fun c17 => ?n8_)
         case' p8_ =>
          rw [if_pos c17] at H
          have c17b0 : decide (0 ≤ (ji16)) = true := decide_eq_true c17
          clear c17
          refine Or.elim (Classical.em ((ji16) < (t232.length : Int))) (fun c18 => ?p9_) (fun c18 => ?n9_)
          case' p9_ =>
           rw [if_pos c18] at H
           have c18b0 : decide ((ji16) < (t232.length : Int)) = true := decide_eq_true c18
           clear c18
          case' n9_ =>
           rw [if_neg c18] at H
           exact absurd H (by simp)
         case' n8_ =>
          rw [if_neg c17] at H
          exact absurd H (by simp)
        case' n7_ =>
         rw [if_neg c15] at H
         have c15b0 : (((rd_T30 t232 0).f0.f0) == a1) = false := beq_eq_false_iff_ne.mpr c15
         have c15b1 : (((rd_T30 t232 0).f0.f0) != a1) = true := bne_iff_ne.mpr c15
       case' n6_ =>
        rw [if_neg c14] at H
        exact absurd H (by simp)
      case' n5_ =>
       rw [if_neg c13] at H
       have c13b0 : (t236 == 0) = false := beq_eq_false_iff_ne.mpr c13
       have c13b1 : (t236 != 0) = true := bne_iff_ne.mpr c13
       (first | rw [c13b0] | (simp only [i64_w, i32_w]; rw [c13b0]) | skip)
      all_goals
       have H' := Aside0.mk H
       clear H
       obtain ⟨Aozb1, cozb1, eozb1⟩ := Kd.R_slice HO235.out
       subst eozb1
       go_wp2_with (first | ((with_reducible refine gate_callee (f := 20) rfl ?_); refine goesL_ (some 31) rfl rfl Try.func20 (by kernel_rfl) rfl #[.slice Aozb1 t232.length cozb1] rfl (by (try simp only [List.map_toArray, List.map_cons, List.map_nil]); first | done | rfl | (simp only [List.length_drop, List.length_take]; rfl)) ?_; (with_reducible refine (tube_Check.calls k _ _ t232 t236 _ ?side1 ?side2 A12.out).mono ?_); (case side1 => repeat (first | exact (Kd.R_reads' HO235.out).2.2 | (with_reducible refine Kd.C_alloc ?_ _) | (with_reducible refine Kd.C_drewN ?_ _) | (with_reducible refine Kd.C_drew ?_))); (case side2 => exact (Kd.R_reads' HO235.out).2.1); rintro e wxb79f1 ⟨rfl, hb⟩; refine ⟨_, rfl, ?_⟩; have n0_ := Aside0.mk (Kd.R_below (by (with_reducible repeat (first | apply Kd.R_alloc | apply Kd.R_drewN | apply Kd.R_drew)); exact HO235.out) hb); have n1_ := Aside0.mk (below_step (by repeat (first | (with_reducible first | exact HB.out | apply below_alloc | apply pw_below_drewN | apply below_drew1) | exact HB.out)) hb); clear HO235; clear HB; have HO235 := n0_; have HB := n1_; clear n0_ n1_; (try clear hb); (try clear hb2); (try clear hk); (try clear hi); have p237 : 0 ≤ (0 : Int) := (by omega); have q237 : 0 < (t232.length : Int) := of_decide_eq_true (by first | (with_reducible assumption) | assumption); obtain ⟨ad237, e237, hx237_0, hx237_1, hx237_2, hx237_3, hx237_4, hx237_5⟩ := at_T30 (Kd.R_reads' HO235.out).2.2 0 p237 q237; cases e237; have qi237 : (0 < t232.length) = True := eq_true (by omega); (try rw [show ((0 : Int)).toNat = 0 from rfl] at hx237_0); (try rw [show 0 * 6 = 0 from rfl] at hx237_0); (try rw [Addr.add_zero'] at hx237_0); (try rw [show ((0 : Int)).toNat = 0 from rfl] at hx237_1); (try rw [show 0 * 6 = 0 from rfl] at hx237_1); (try rw [Addr.add_zero'] at hx237_1); (try rw [show ((0 : Int)).toNat = 0 from rfl] at hx237_2); (try rw [show 0 * 6 = 0 from rfl] at hx237_2); (try rw [Addr.add_zero'] at hx237_2); (try rw [show ((0 : Int)).toNat = 0 from rfl] at hx237_3); (try rw [show 0 * 6 = 0 from rfl] at hx237_3); (try rw [Addr.add_zero'] at hx237_3); (try rw [show ((0 : Int)).toNat = 0 from rfl] at hx237_4); (try rw [show 0 * 6 = 0 from rfl] at hx237_4); (try rw [Addr.add_zero'] at hx237_4); (try rw [show ((0 : Int)).toNat = 0 from rfl] at hx237_5); (try rw [show 0 * 6 = 0 from rfl] at hx237_5); (try rw [Addr.add_zero'] at hx237_5); replace p237 := eq_true p237; replace q237 := eq_true q237; have p238 : 0 ≤ ((ji16) : Int) := of_decide_eq_true (by first | (with_reducible assumption) | assumption); have q238 : (ji16) < (t232.length : Int) := of_decide_eq_true (by first | (with_reducible assumption) | assumption); obtain ⟨ad238, e238, hx238_0, hx238_1, hx238_2, hx238_3, hx238_4, hx238_5⟩ := at_T30 (Kd.R_reads' HO235.out).2.2 (ji16) p238 q238; obtain rfl : ad237 = ad238 := (by injection e238); replace p238 := eq_true p238; replace q238 := eq_true q238) | ((with_reducible refine gate_callee (f := 20) rfl ?_); refine goesL_ (some 31) rfl rfl Try.func20 (by kernel_rfl) rfl #[.slice Aozb1 t232.length cozb1] rfl (by (try simp only [List.map_toArray, List.map_cons, List.map_nil]); first | done | rfl | (simp only [List.length_drop, List.length_take]; rfl)) ?_; (with_reducible refine (tube_Check.calls k _ _ t232 t236 _ ?side1 ?side2 A12.out).mono ?_); (case side1 => repeat (first | exact (Kd.R_reads' HO235.out).2.2 | (with_reducible refine Kd.C_alloc ?_ _) | (with_reducible refine Kd.C_drewN ?_ _) | (with_reducible refine Kd.C_drew ?_))); (case side2 => exact (Kd.R_reads' HO235.out).2.1); rintro e wxeb7a1 ⟨rfl, hb⟩; refine ⟨_, rfl, ?_⟩; have n0_ := Aside0.mk (Kd.R_below (by (with_reducible repeat (first | apply Kd.R_alloc | apply Kd.R_drewN | apply Kd.R_drew)); exact HO235.out) hb); have n1_ := Aside0.mk (below_step (by repeat (first | (with_reducible first | exact HB.out | apply below_alloc | apply pw_below_drewN | apply below_drew1) | exact HB.out)) hb); clear HO235; clear HB; have HO235 := n0_; have HB := n1_; clear n0_ n1_; (try clear hb); (try clear hb2); (try clear hk); (try clear hi); have p237 : 0 ≤ (0 : Int) := (by omega); have q237 : 0 < (t232.length : Int) := of_decide_eq_true (by first | (with_reducible assumption) | assumption); obtain ⟨ad237, e237, hx237_0, hx237_1, hx237_2, hx237_3, hx237_4, hx237_5⟩ := at_T30 (Kd.R_reads' HO235.out).2.2 0 p237 q237; cases e237; have qi237 : (0 < t232.length) = True := eq_true (by omega); (try rw [show ((0 : Int)).toNat = 0 from rfl] at hx237_0); (try rw [show 0 * 6 = 0 from rfl] at hx237_0); (try rw [Addr.add_zero'] at hx237_0); (try rw [show ((0 : Int)).toNat = 0 from rfl] at hx237_1); (try rw [show 0 * 6 = 0 from rfl] at hx237_1); (try rw [Addr.add_zero'] at hx237_1); (try rw [show ((0 : Int)).toNat = 0 from rfl] at hx237_2); (try rw [show 0 * 6 = 0 from rfl] at hx237_2); (try rw [Addr.add_zero'] at hx237_2); (try rw [show ((0 : Int)).toNat = 0 from rfl] at hx237_3); (try rw [show 0 * 6 = 0 from rfl] at hx237_3); (try rw [Addr.add_zero'] at hx237_3); (try rw [show ((0 : Int)).toNat = 0 from rfl] at hx237_4); (try rw [show 0 * 6 = 0 from rfl] at hx237_4); (try rw [Addr.add_zero'] at hx237_4); (try rw [show ((0 : Int)).toNat = 0 from rfl] at hx237_5); (try rw [show 0 * 6 = 0 from rfl] at hx237_5); (try rw [Addr.add_zero'] at hx237_5); replace p237 := eq_true p237; replace q237 := eq_true q237) | ((with_reducible refine gate_callee (f := 20) rfl ?_); refine goesL_ (some 31) rfl rfl Try.func20 (by kernel_rfl) rfl #[.slice Aozb1 t232.length cozb1] rfl (by (try simp only [List.map_toArray, List.map_cons, List.map_nil]); first | done | rfl | (simp only [List.length_drop, List.length_take]; rfl)) ?_; (with_reducible refine (tube_Check.calls k _ _ t232 t236 _ ?side1 ?side2 A12.out).mono ?_); (case side1 => repeat (first | exact (Kd.R_reads' HO235.out).2.2 | (with_reducible refine Kd.C_alloc ?_ _) | (with_reducible refine Kd.C_drewN ?_ _) | (with_reducible refine Kd.C_drew ?_))); (case side2 => exact (Kd.R_reads' HO235.out).2.1); rintro e wx9c731 ⟨rfl, hb⟩; refine ⟨_, rfl, ?_⟩; have n0_ := Aside0.mk (Kd.R_below (by (with_reducible repeat (first | apply Kd.R_alloc | apply Kd.R_drewN | apply Kd.R_drew)); exact HO235.out) hb); have n1_ := Aside0.mk (below_step (by repeat (first | (with_reducible first | exact HB.out | apply below_alloc | apply pw_below_drewN | apply below_drew1) | exact HB.out)) hb); clear HO235; clear HB; have HO235 := n0_; have HB := n1_; clear n0_ n1_; (try clear hb); (try clear hb2); (try clear hk); (try clear hi)))
       go_meet
       case rel => first | (exact ⟨_, ((((rd_T30 t232 (ji16)).f0.f0) != a2)), (by first | rfl | (simp; done) | (simp only [← hji16] <;> (first | rfl | simp)) | (simp [*]; done)), H', ⟨by first | omega | exact Nat.le_refl _⟩, ⟨by (with_reducible repeat (first | apply Kd.R_alloc | apply Kd.R_drewN | apply Kd.R_drew)); exact HO235.out⟩, ⟨by repeat (first | (with_reducible first | exact HB.out | apply below_alloc | apply pw_below_drewN | apply below_drew1) | exact HB.out)⟩⟩) | (exact ⟨_, (true), (by first | rfl | (simp; done) | (simp [*]; done)), H', ⟨by first | omega | exact Nat.le_refl _⟩, ⟨by (with_reducible repeat (first | apply Kd.R_alloc | apply Kd.R_drewN | apply Kd.R_drew)); exact HO235.out⟩, ⟨by repeat (first | (with_reducible first | exact HB.out | apply below_alloc | apply pw_below_drewN | apply below_drew1) | exact HB.out)⟩⟩)
     case rest =>
      clear HC9
      (try clear c1); (try clear p1); (try clear c2); (try clear p2); (try clear q2); (try clear hx2); (try clear qi2); (try clear c5); (try clear c6); (try clear p6); (try clear c8); (try clear c8b0); (try clear c8b1); (try clear c13); (try clear c13b0); (try clear c13b1); (try clear c14); (try clear c14b0); (try clear c14b1); (try clear c15); (try clear c15b0); (try clear c15b1); (try clear c17); (try clear c17b0); (try clear c18); (try clear c18b0); (try clear c20); (try clear c21); (try clear p23); (try clear q23); (try clear hx23); (try clear qi23); (try clear hx237_0); (try clear hx237_1); (try clear hx237_2); (try clear hx237_3); (try clear hx237_4); (try clear hx237_5); (try clear hx238_0); (try clear hx238_1)
      (try clear hx238_2); (try clear hx238_3); (try clear hx238_4); (try clear hx238_5); (try clear p237); (try clear p238); (try clear q237); (try clear q238)
      obtain ⟨kq, x53_8, rfl, HA, HJ8, HO_9, HB⟩ := hcut
      cases kq with
      | zero => exact absurd HA.out (by simp [skywaykeep1_TubeCuts.j0])
      | succ kj8 =>
       have H := HA.out
       clear HA
       simp only [skywaykeep1_TubeCuts.j0] at H
       by_cases c25 : x53_8 = true
       · subst c25
         have H1 : (some false) = some r := by rw [if_pos rfl] at H; exact H
         clear H
         have H := H1
         clear H1
         obtain rfl := Option.some.inj H
         go_wp2
         go_ret
         exact ⟨by first | rfl | (simp [errW_none, errW_some] <;> rfl) | (simp [*, errW_none, errW_some] <;> rfl), by repeat (first | (with_reducible first | exact HB.out | apply below_alloc | apply pw_below_drewN | apply below_drew1) | exact HB.out)⟩
       · replace c25 := Bool.eq_false_iff.mpr c25
         subst c25
         have H1 : ((tube_At.f kj8 l0 (wrap64 (a1 + (Int.tmod (wrap64 ((Int.tmod a3 1000) + 1000)) 1000)))).bind fun bt239 => ((tube_At.f kj8 t232 (wrap64 (a1 + (Int.tmod (wrap64 ((Int.tmod a3 1000) + 1000)) 1000)))).bind fun bt247 => (if bt239.2.2.2.2.2.2 = 0 then (skywaykeep1_TubeCuts.j1 kj8 a1 a2 (wrap64 (a1 + (Int.tmod (wrap64 ((Int.tmod a3 1000) + 1000)) 1000))) (bt247.2.2.2.2.2.2 != 0) bt239.1 bt239.2.1 bt239.2.2.1 bt239.2.2.2.1 bt239.2.2.2.2.1 bt239.2.2.2.2.2.1 bt247.1 bt247.2.1 bt247.2.2.1 bt247.2.2.2.1 bt247.2.2.2.2.1 bt247.2.2.2.2.2.1) else (skywaykeep1_TubeCuts.j1 kj8 a1 a2 (wrap64 (a1 + (Int.tmod (wrap64 ((Int.tmod a3 1000) + 1000)) 1000))) true bt239.1 bt239.2.1 bt239.2.2.1 bt239.2.2.2.1 bt239.2.2.2.2.1 bt239.2.2.2.2.2.1 bt247.1 bt247.2.1 bt247.2.2.1 bt247.2.2.2.1 bt247.2.2.2.2.1 bt247.2.2.2.2.2.1)))) = some r := by rw [if_neg (show ¬ (false = true) by decide)] at H; exact H
         clear H
         have H := H1
         clear H1
         replace H := Option.bind_eq_some_iff.mp H
         obtain ⟨⟨t239, t240, t241, t242, t243, t244, t245⟩, A260, H⟩ := H
         replace H : ((tube_At.f kj8 t232 (wrap64 (a1 + (Int.tmod (wrap64 ((Int.tmod a3 1000) + 1000)) 1000)))).bind fun bt247 => (if t245 = 0 then (skywaykeep1_TubeCuts.j1 kj8 a1 a2 (wrap64 (a1 + (Int.tmod (wrap64 ((Int.tmod a3 1000) + 1000)) 1000))) (bt247.2.2.2.2.2.2 != 0) t239 t240 t241 t242 t243 t244 bt247.1 bt247.2.1 bt247.2.2.1 bt247.2.2.2.1 bt247.2.2.2.2.1 bt247.2.2.2.2.2.1) else (skywaykeep1_TubeCuts.j1 kj8 a1 a2 (wrap64 (a1 + (Int.tmod (wrap64 ((Int.tmod a3 1000) + 1000)) 1000))) true t239 t240 t241 t242 t243 t244 bt247.1 bt247.2.1 bt247.2.2.1 bt247.2.2.2.1 bt247.2.2.2.2.1 bt247.2.2.2.2.2.1))) = some r := H
         have A26 := Aside0.mk A260
         clear A260
         replace H := Option.bind_eq_some_iff.mp H
         obtain ⟨⟨t247, t248, t249, t250, t251, t252, t253⟩, A270, H⟩ := H
         replace H : (if t245 = 0 then (skywaykeep1_TubeCuts.j1 kj8 a1 a2 (wrap64 (a1 + (Int.tmod (wrap64 ((Int.tmod a3 1000) + 1000)) 1000))) (t253 != 0) t239 t240 t241 t242 t243 t244 t247 t248 t249 t250 t251 t252) else (skywaykeep1_TubeCuts.j1 kj8 a1 a2 (wrap64 (a1 + (Int.tmod (wrap64 ((Int.tmod a3 1000) + 1000)) 1000))) true t239 t240 t241 t242 t243 t244 t247 t248 t249 t250 t251 t252)) = some r := H
         have A27 := Aside0.mk A270
         clear A270
         have HC28 := Aside0.mk H
         clear H
         go_upto_region 11 with (first | ((with_reducible refine gate_callee (f := 16) rfl ?_); refine goesL_ (some 63) rfl rfl Try.func16 (by kernel_rfl) rfl #[.slice A0 l0.length c0, .int .i64 (wrap64 (a1 + (Int.tmod (wrap64 ((Int.tmod a3 1000) + 1000)) 1000)))] rfl (by (try simp only [List.map_toArray, List.map_cons, List.map_nil]); first | done | rfl | (simp only [List.length_drop, List.length_take]; rfl)) ?_; (with_reducible refine (tube_At.calls kj8 _ _ l0 (wrap64 (a1 + (Int.tmod (wrap64 ((Int.tmod a3 1000) + 1000)) 1000))) t239 t240 t241 t242 t243 t244 t245 _ ?side1 ?side2 A26.out).mono ?_); (case side1 => repeat (first | exact (Kd.C_below HR0.out HB.out) | (with_reducible refine Kd.C_alloc ?_ _) | (with_reducible refine Kd.C_drewN ?_ _) | (with_reducible refine Kd.C_drew ?_))); (case side2 => exact HC0.out); rintro e wx7f8b1 ⟨rfl, hb⟩; refine ⟨_, rfl, ?_⟩; have n0_ := Aside0.mk (Kd.R_below (by (with_reducible repeat (first | apply Kd.R_alloc | apply Kd.R_drewN | apply Kd.R_drew)); exact HO_9.out) hb); have n1_ := Aside0.mk (below_step (by repeat (first | (with_reducible first | exact HB.out | apply below_alloc | apply pw_below_drewN | apply below_drew1) | exact HB.out)) hb); clear HO_9; clear HB; have HO_9 := n0_; have HB := n1_; clear n0_ n1_; (try clear hb); (try clear hb2); (try clear hk); (try clear hi)) | ((with_reducible refine gate_dst (N := 11) rfl ?_); (try (refine gate_guard (by rfl) ?_; dsimp only)); refine box_event ?hg (N := 11) ?hd (cs := #[.int .i64 0, .int .i64 0, .int .i64 0, .int .i64 0, .int .i64 0, .int .i64 0]) (t := 30) ?hr ?_; (case hd => rfl); (case hg => rfl); (case hr => first | (go_simp; done) | (go_simp; rfl)); intro gb246 hg wx44871 hbox hb; have n0_ := Aside0.mk (Kd.R_below (Kd.R_elderB (by (with_reducible repeat (first | apply Kd.R_alloc | apply Kd.R_drewN | apply Kd.R_drew)); exact HO_9.out) gb246 (Nat.le_of_eq hg.symm)) hb); have n1_ := Aside0.mk (below_step (by repeat (first | (with_reducible first | exact HB.out | apply below_alloc | apply pw_below_drewN | apply below_drew1) | exact HB.out)) hb); have n2_ := Aside0.mk (hbox); have n3_ := Aside0.mk ((by rw [hg]; exact (below_size (by repeat (first | (with_reducible first | exact HB.out | apply below_alloc | apply pw_below_drewN | apply below_drew1) | exact HB.out))) : w.heap.size ≤ gb246)); have n4_ := Aside0.mk ((by rw [hg]; exact (below_size (by repeat (first | (with_reducible first | exact HB.out | apply below_alloc | apply pw_below_drewN | apply below_drew1) | exact HB.out))) : w.heap.size ≤ gb246)); clear HO_9; clear HB; have HO_9 := n0_; have HB := n1_; have BK246 := n2_; have GW246 := n3_; have GE246 := n4_; clear n0_ n1_ n2_ n3_ n4_; clear hb hbox hg; have hczx44871 : wx44871.cell? ⟨gb246, 0, none⟩ = some (.int .i64 0) := (blk_cell BK246.out 0).trans rfl; have hczx44872 : wx44871.cell? ⟨gb246, 1, none⟩ = some (.int .i64 0) := (blk_cell BK246.out 1).trans rfl; have hczx44873 : wx44871.cell? ⟨gb246, 2, none⟩ = some (.int .i64 0) := (blk_cell BK246.out 2).trans rfl; have hczx44874 : wx44871.cell? ⟨gb246, 3, none⟩ = some (.int .i64 0) := (blk_cell BK246.out 3).trans rfl; have hczx44875 : wx44871.cell? ⟨gb246, 4, none⟩ = some (.int .i64 0) := (blk_cell BK246.out 4).trans rfl; have hczx44876 : wx44871.cell? ⟨gb246, 5, none⟩ = some (.int .i64 0) := (blk_cell BK246.out 5).trans rfl; have hfzx44871 := blk_frozen BK246.out 0; have hfzx44872 := blk_frozen BK246.out 1; have hfzx44873 := blk_frozen BK246.out 2; have hfzx44874 := blk_frozen BK246.out 3; have hfzx44875 := blk_frozen BK246.out 4; have hfzx44876 := blk_frozen BK246.out 5; obtain ⟨Aox44871, cox44871, eox44871⟩ := Kd.R_slice HO_9.out; subst eox44871) | ((with_reducible refine gate_callee (f := 16) rfl ?_); refine goesL_ (some 69) rfl rfl Try.func16 (by kernel_rfl) rfl #[.slice Aox44871 t232.length cox44871, .int .i64 (wrap64 (a1 + (Int.tmod (wrap64 ((Int.tmod a3 1000) + 1000)) 1000)))] rfl (by (try simp only [List.map_toArray, List.map_cons, List.map_nil]); first | done | rfl | (simp only [List.length_drop, List.length_take]; rfl)) ?_; (with_reducible refine (tube_At.calls kj8 _ _ t232 (wrap64 (a1 + (Int.tmod (wrap64 ((Int.tmod a3 1000) + 1000)) 1000))) t247 t248 t249 t250 t251 t252 t253 _ ?side1 ?side2 A27.out).mono ?_); (case side1 => refine (Kd.R_reads' (e := 30) (base := w.heap.size) (ok := fun k_ => (True ∧ k_ ≠ gb246)) (n := t232.length) (c := cox44871) ?_).2.2; exact (by (with_reducible repeat (first | apply Kd.R_alloc | apply Kd.R_drewN | apply Kd.R_drew)); exact (Kd.R_mono (Kd.R_far (p := ⟨gb246, 5, none⟩) (Kd.R_far (p := ⟨gb246, 4, none⟩) (Kd.R_far (p := ⟨gb246, 3, none⟩) (Kd.R_far (p := ⟨gb246, 2, none⟩) (Kd.R_far (p := ⟨gb246, 1, none⟩) (Kd.R_far (p := ⟨gb246, 0, none⟩) (Kd.R_mono HO_9.out (fun k_ hk => (⟨hk, hk.2⟩ : _ ∧ k_ ≠ gb246))) (fun _ hk => hk.2) (.int .i64 t239)) (fun _ hk => hk.2) (.int .i64 t240)) (fun _ hk => hk.2) (.int .i64 t241)) (fun _ hk => hk.2) (.int .i64 t242)) (fun _ hk => hk.2) (.int .i64 t243)) (fun _ hk => hk.2) (.int .i64 t244)) (fun _ h_ => h_.1)))); (case side2 => exact (Kd.R_reads' HO_9.out).2.1); rintro e wx496b1 ⟨rfl, hb⟩; refine ⟨_, rfl, ?_⟩; have n0_ := Aside0.mk (Kd.R_below (by (with_reducible repeat (first | apply Kd.R_alloc | apply Kd.R_drewN | apply Kd.R_drew)); exact (Kd.R_mono (Kd.R_far (p := ⟨gb246, 5, none⟩) (Kd.R_far (p := ⟨gb246, 4, none⟩) (Kd.R_far (p := ⟨gb246, 3, none⟩) (Kd.R_far (p := ⟨gb246, 2, none⟩) (Kd.R_far (p := ⟨gb246, 1, none⟩) (Kd.R_far (p := ⟨gb246, 0, none⟩) (Kd.R_mono HO_9.out (fun k_ hk => (⟨hk, hk.2⟩ : _ ∧ k_ ≠ gb246))) (fun _ hk => hk.2) (.int .i64 t239)) (fun _ hk => hk.2) (.int .i64 t240)) (fun _ hk => hk.2) (.int .i64 t241)) (fun _ hk => hk.2) (.int .i64 t242)) (fun _ hk => hk.2) (.int .i64 t243)) (fun _ hk => hk.2) (.int .i64 t244)) (fun _ h_ => h_.1))) hb); have n1_ := Aside0.mk (blk_below (g := gb246) (o := .cells #[.int .i64 t239, .int .i64 t240, .int .i64 t241, .int .i64 t242, .int .i64 t243, .int .i64 t244] 30 (0, 0)) (by (with_reducible repeat (first | refine blk_drewN ?_ _ | refine blk_drew ?_ | refine blk_alloc ?_ _)); refine blk_put (cs := #[.int .i64 t239, .int .i64 t240, .int .i64 t241, .int .i64 t242, .int .i64 t243, .int .i64 0]) ?_ 5 _ rfl; (with_reducible repeat (first | refine blk_drewN ?_ _ | refine blk_drew ?_ | refine blk_alloc ?_ _)); refine blk_put (cs := #[.int .i64 t239, .int .i64 t240, .int .i64 t241, .int .i64 t242, .int .i64 0, .int .i64 0]) ?_ 4 _ rfl; (with_reducible repeat (first | refine blk_drewN ?_ _ | refine blk_drew ?_ | refine blk_alloc ?_ _)); refine blk_put (cs := #[.int .i64 t239, .int .i64 t240, .int .i64 t241, .int .i64 0, .int .i64 0, .int .i64 0]) ?_ 3 _ rfl; (with_reducible repeat (first | refine blk_drewN ?_ _ | refine blk_drew ?_ | refine blk_alloc ?_ _)); refine blk_put (cs := #[.int .i64 t239, .int .i64 t240, .int .i64 0, .int .i64 0, .int .i64 0, .int .i64 0]) ?_ 2 _ rfl; (with_reducible repeat (first | refine blk_drewN ?_ _ | refine blk_drew ?_ | refine blk_alloc ?_ _)); refine blk_put (cs := #[.int .i64 t239, .int .i64 0, .int .i64 0, .int .i64 0, .int .i64 0, .int .i64 0]) ?_ 1 _ rfl; (with_reducible repeat (first | refine blk_drewN ?_ _ | refine blk_drew ?_ | refine blk_alloc ?_ _)); refine blk_put (cs := #[.int .i64 0, .int .i64 0, .int .i64 0, .int .i64 0, .int .i64 0, .int .i64 0]) ?_ 0 _ rfl; (with_reducible repeat (first | refine blk_drewN ?_ _ | refine blk_drew ?_ | refine blk_alloc ?_ _)); exact BK246.out) hb); have n2_ := Aside0.mk (below_step (by repeat (first | (with_reducible first | exact HB.out | apply below_alloc | apply pw_below_drewN | apply below_drew1 | refine below_set ?_ GE246.out) | exact HB.out)) hb); clear HO_9; clear BK246; clear HB; have HO_9 := n0_; have BK246 := n1_; have HB := n2_; clear n0_ n1_ n2_; (try clear hb); (try clear hb2); (try clear hk); (try clear hi)) | ((with_reducible refine gate_dst (N := 13) rfl ?_); (try (refine gate_guard (by rfl) ?_; dsimp only)); refine box_event ?hg (N := 13) ?hd (cs := #[.int .i64 0, .int .i64 0, .int .i64 0, .int .i64 0, .int .i64 0, .int .i64 0]) (t := 30) ?hr ?_; (case hd => rfl); (case hg => rfl); (case hr => first | (go_simp; done) | (go_simp; rfl)); intro gb254 hg wxd74c1 hbox hb; have n0_ := Aside0.mk (Kd.R_below (Kd.R_elderB (by (with_reducible repeat (first | apply Kd.R_alloc | apply Kd.R_drewN | apply Kd.R_drew)); exact HO_9.out) gb254 (Nat.le_of_eq hg.symm)) hb); have n1_ := Aside0.mk (blk_below (g := gb246) (o := .cells #[.int .i64 t239, .int .i64 t240, .int .i64 t241, .int .i64 t242, .int .i64 t243, .int .i64 t244] 30 (0, 0)) (by (with_reducible repeat (first | refine blk_drewN ?_ _ | refine blk_drew ?_ | refine blk_alloc ?_ _)); exact BK246.out) hb); have n2_ := Aside0.mk (below_step (by repeat (first | (with_reducible first | exact HB.out | apply below_alloc | apply pw_below_drewN | apply below_drew1 | refine below_set ?_ GE246.out) | exact HB.out)) hb); have n3_ := Aside0.mk (hbox); have n4_ := Aside0.mk ((by rw [hg]; exact (below_size (by repeat (first | (with_reducible first | exact HB.out | apply below_alloc | apply pw_below_drewN | apply below_drew1 | refine below_set ?_ GE246.out) | exact HB.out))) : w.heap.size ≤ gb254)); have n5_ := Aside0.mk ((by rw [hg]; exact (below_size (by repeat (first | (with_reducible first | exact HB.out | apply below_alloc | apply pw_below_drewN | apply below_drew1 | refine below_set ?_ GE246.out) | exact HB.out))) : w.heap.size ≤ gb254)); have n6_ := Aside0.mk ((by rw [hg]; exact Nat.ne_of_lt (blk_lt (g := gb246) (o := .cells #[.int .i64 t239, .int .i64 t240, .int .i64 t241, .int .i64 t242, .int .i64 t243, .int .i64 t244] 30 (0, 0)) (by (with_reducible repeat (first | refine blk_drewN ?_ _ | refine blk_drew ?_ | refine blk_alloc ?_ _)); exact BK246.out)) : gb246 ≠ gb254)); have n7_ := Aside0.mk ((by rw [hg]; exact Nat.ne_of_gt (blk_lt (g := gb246) (o := .cells #[.int .i64 t239, .int .i64 t240, .int .i64 t241, .int .i64 t242, .int .i64 t243, .int .i64 t244] 30 (0, 0)) (by (with_reducible repeat (first | refine blk_drewN ?_ _ | refine blk_drew ?_ | refine blk_alloc ?_ _)); exact BK246.out)) : gb254 ≠ gb246)); clear HO_9; clear BK246; clear HB; have HO_9 := n0_; have BK246 := n1_; have HB := n2_; have BK254 := n3_; have GW254 := n4_; have GE254 := n5_; have NB246_254 := n6_; have NB254_246 := n7_; clear n0_ n1_ n2_ n3_ n4_ n5_ n6_ n7_; clear hb hbox hg; have hnbxd74c1 := NB254_246.out; have hncxd74c1 := NB246_254.out; have hczxd74c1 : wxd74c1.cell? ⟨gb254, 0, none⟩ = some (.int .i64 0) := (blk_cell BK254.out 0).trans rfl; have hczxd74c2 : wxd74c1.cell? ⟨gb254, 1, none⟩ = some (.int .i64 0) := (blk_cell BK254.out 1).trans rfl; have hczxd74c3 : wxd74c1.cell? ⟨gb254, 2, none⟩ = some (.int .i64 0) := (blk_cell BK254.out 2).trans rfl; have hczxd74c4 : wxd74c1.cell? ⟨gb254, 3, none⟩ = some (.int .i64 0) := (blk_cell BK254.out 3).trans rfl; have hczxd74c5 : wxd74c1.cell? ⟨gb254, 4, none⟩ = some (.int .i64 0) := (blk_cell BK254.out 4).trans rfl; have hczxd74c6 : wxd74c1.cell? ⟨gb254, 5, none⟩ = some (.int .i64 0) := (blk_cell BK254.out 5).trans rfl; have hfzxd74c1 := blk_frozen BK254.out 0; have hfzxd74c2 := blk_frozen BK254.out 1; have hfzxd74c3 := blk_frozen BK254.out 2; have hfzxd74c4 := blk_frozen BK254.out 3; have hfzxd74c5 := blk_frozen BK254.out 4; have hfzxd74c6 := blk_frozen BK254.out 5))
         (try simp only [Act.put, List.setIfInBounds_toArray, List.set_cons_zero, List.set_cons_succ])
         go_cut [77] (fun v77 wc => ∃ (kq : Nat) (x77_27 : Bool), v77 = .bool x77_27 ∧ Aside0 (skywaykeep1_TubeCuts.j1 kq a1 a2 (wrap64 (a1 + (Int.tmod (wrap64 ((Int.tmod a3 1000) + 1000)) 1000))) x77_27 t239 t240 t241 t242 t243 t244 t247 t248 t249 t250 t251 t252 = some r) ∧ Aside0 (kq ≤ kj8) ∧ Aside0 (wc.heap[gb246]? = some (.cells #[.int .i64 t239, .int .i64 t240, .int .i64 t241, .int .i64 t242, .int .i64 t243, .int .i64 t244] 30 (0, 0))) ∧ Aside0 (wc.heap[gb254]? = some (.cells #[.int .i64 t247, .int .i64 t248, .int .i64 t249, .int .i64 t250, .int .i64 t251, .int .i64 t252] 30 (0, 0))) ∧ Aside0 (Below w.heap.size w wc))
         case first =>
          have H := HC28.out
          clear HC28
          refine Or.elim (Classical.em (t245 = 0)) (fun c37 => ?p11_) (fun c37 => ?n11_)
          case' p11_ =>
           rw [if_pos c37] at H
           have c37b0 : (t245 == 0) = true := beq_iff_eq.mpr c37
           have c37b1 : (t245 != 0) = false := bne_eq_false_iff_eq.mpr c37
           clear c37
           (first | rw [c37b0] | (simp only [i64_w, i32_w]; rw [c37b0]) | skip)
          case' n11_ =>
           rw [if_neg c37] at H
           have c37b0 : (t245 == 0) = false := beq_eq_false_iff_ne.mpr c37
           have c37b1 : (t245 != 0) = true := bne_iff_ne.mpr c37
           (first | rw [c37b0] | (simp only [i64_w, i32_w]; rw [c37b0]) | skip)
          all_goals
           have H' := Aside0.mk H
           clear H
           go_wp2
           go_meet
           case rel => first | (exact ⟨_, ((t253 != 0)), (by first | rfl | (simp; done) | (simp [*]; done)), H', ⟨by have := HJ8.out; first | omega | exact Nat.le_refl _⟩, ⟨by (with_reducible repeat (first | refine blk_drewN ?_ _ | refine blk_drew ?_ | refine blk_alloc ?_ _)); refine blk_far ?_ NB246_254.out _; (with_reducible repeat (first | refine blk_drewN ?_ _ | refine blk_drew ?_ | refine blk_alloc ?_ _)); refine blk_far ?_ NB246_254.out _; (with_reducible repeat (first | refine blk_drewN ?_ _ | refine blk_drew ?_ | refine blk_alloc ?_ _)); refine blk_far ?_ NB246_254.out _; (with_reducible repeat (first | refine blk_drewN ?_ _ | refine blk_drew ?_ | refine blk_alloc ?_ _)); refine blk_far ?_ NB246_254.out _; (with_reducible repeat (first | refine blk_drewN ?_ _ | refine blk_drew ?_ | refine blk_alloc ?_ _)); refine blk_far ?_ NB246_254.out _; (with_reducible repeat (first | refine blk_drewN ?_ _ | refine blk_drew ?_ | refine blk_alloc ?_ _)); refine blk_far ?_ NB246_254.out _; (with_reducible repeat (first | refine blk_drewN ?_ _ | refine blk_drew ?_ | refine blk_alloc ?_ _)); exact BK246.out⟩, ⟨by (with_reducible repeat (first | refine blk_drewN ?_ _ | refine blk_drew ?_ | refine blk_alloc ?_ _)); refine blk_put (cs := #[.int .i64 t247, .int .i64 t248, .int .i64 t249, .int .i64 t250, .int .i64 t251, .int .i64 0]) ?_ 5 _ rfl; (with_reducible repeat (first | refine blk_drewN ?_ _ | refine blk_drew ?_ | refine blk_alloc ?_ _)); refine blk_put (cs := #[.int .i64 t247, .int .i64 t248, .int .i64 t249, .int .i64 t250, .int .i64 0, .int .i64 0]) ?_ 4 _ rfl; (with_reducible repeat (first | refine blk_drewN ?_ _ | refine blk_drew ?_ | refine blk_alloc ?_ _)); refine blk_put (cs := #[.int .i64 t247, .int .i64 t248, .int .i64 t249, .int .i64 0, .int .i64 0, .int .i64 0]) ?_ 3 _ rfl; (with_reducible repeat (first | refine blk_drewN ?_ _ | refine blk_drew ?_ | refine blk_alloc ?_ _)); refine blk_put (cs := #[.int .i64 t247, .int .i64 t248, .int .i64 0, .int .i64 0, .int .i64 0, .int .i64 0]) ?_ 2 _ rfl; (with_reducible repeat (first | refine blk_drewN ?_ _ | refine blk_drew ?_ | refine blk_alloc ?_ _)); refine blk_put (cs := #[.int .i64 t247, .int .i64 0, .int .i64 0, .int .i64 0, .int .i64 0, .int .i64 0]) ?_ 1 _ rfl; (with_reducible repeat (first | refine blk_drewN ?_ _ | refine blk_drew ?_ | refine blk_alloc ?_ _)); refine blk_put (cs := #[.int .i64 0, .int .i64 0, .int .i64 0, .int .i64 0, .int .i64 0, .int .i64 0]) ?_ 0 _ rfl; (with_reducible repeat (first | refine blk_drewN ?_ _ | refine blk_drew ?_ | refine blk_alloc ?_ _)); exact BK254.out⟩, ⟨by repeat (first | (with_reducible first | exact HB.out | apply below_alloc | apply pw_below_drewN | apply below_drew1 | refine below_set ?_ GE246.out | refine below_set ?_ GE254.out) | exact HB.out)⟩⟩) | (exact ⟨_, (true), (by first | rfl | (simp; done) | (simp [*]; done)), H', ⟨by have := HJ8.out; first | omega | exact Nat.le_refl _⟩, ⟨by (with_reducible repeat (first | refine blk_drewN ?_ _ | refine blk_drew ?_ | refine blk_alloc ?_ _)); refine blk_far ?_ NB246_254.out _; (with_reducible repeat (first | refine blk_drewN ?_ _ | refine blk_drew ?_ | refine blk_alloc ?_ _)); refine blk_far ?_ NB246_254.out _; (with_reducible repeat (first | refine blk_drewN ?_ _ | refine blk_drew ?_ | refine blk_alloc ?_ _)); refine blk_far ?_ NB246_254.out _; (with_reducible repeat (first | refine blk_drewN ?_ _ | refine blk_drew ?_ | refine blk_alloc ?_ _)); refine blk_far ?_ NB246_254.out _; (with_reducible repeat (first | refine blk_drewN ?_ _ | refine blk_drew ?_ | refine blk_alloc ?_ _)); refine blk_far ?_ NB246_254.out _; (with_reducible repeat (first | refine blk_drewN ?_ _ | refine blk_drew ?_ | refine blk_alloc ?_ _)); refine blk_far ?_ NB246_254.out _; (with_reducible repeat (first | refine blk_drewN ?_ _ | refine blk_drew ?_ | refine blk_alloc ?_ _)); exact BK246.out⟩, ⟨by (with_reducible repeat (first | refine blk_drewN ?_ _ | refine blk_drew ?_ | refine blk_alloc ?_ _)); refine blk_put (cs := #[.int .i64 t247, .int .i64 t248, .int .i64 t249, .int .i64 t250, .int .i64 t251, .int .i64 0]) ?_ 5 _ rfl; (with_reducible repeat (first | refine blk_drewN ?_ _ | refine blk_drew ?_ | refine blk_alloc ?_ _)); refine blk_put (cs := #[.int .i64 t247, .int .i64 t248, .int .i64 t249, .int .i64 t250, .int .i64 0, .int .i64 0]) ?_ 4 _ rfl; (with_reducible repeat (first | refine blk_drewN ?_ _ | refine blk_drew ?_ | refine blk_alloc ?_ _)); refine blk_put (cs := #[.int .i64 t247, .int .i64 t248, .int .i64 t249, .int .i64 0, .int .i64 0, .int .i64 0]) ?_ 3 _ rfl; (with_reducible repeat (first | refine blk_drewN ?_ _ | refine blk_drew ?_ | refine blk_alloc ?_ _)); refine blk_put (cs := #[.int .i64 t247, .int .i64 t248, .int .i64 0, .int .i64 0, .int .i64 0, .int .i64 0]) ?_ 2 _ rfl; (with_reducible repeat (first | refine blk_drewN ?_ _ | refine blk_drew ?_ | refine blk_alloc ?_ _)); refine blk_put (cs := #[.int .i64 t247, .int .i64 0, .int .i64 0, .int .i64 0, .int .i64 0, .int .i64 0]) ?_ 1 _ rfl; (with_reducible repeat (first | refine blk_drewN ?_ _ | refine blk_drew ?_ | refine blk_alloc ?_ _)); refine blk_put (cs := #[.int .i64 0, .int .i64 0, .int .i64 0, .int .i64 0, .int .i64 0, .int .i64 0]) ?_ 0 _ rfl; (with_reducible repeat (first | refine blk_drewN ?_ _ | refine blk_drew ?_ | refine blk_alloc ?_ _)); exact BK254.out⟩, ⟨by repeat (first | (with_reducible first | exact HB.out | apply below_alloc | apply pw_below_drewN | apply below_drew1 | refine below_set ?_ GE246.out | refine below_set ?_ GE254.out) | exact HB.out)⟩⟩)
         case rest =>
          clear HC28
          (try clear c1); (try clear p1); (try clear c2); (try clear p2); (try clear q2); (try clear hx2); (try clear qi2); (try clear c3); (try clear c5); (try clear c6); (try clear p6); (try clear c8); (try clear c8b0); (try clear c8b1); (try clear c13); (try clear c13b0); (try clear c13b1); (try clear c14); (try clear c14b0); (try clear c14b1); (try clear c15); (try clear c15b0); (try clear c15b1); (try clear c16); (try clear c17); (try clear c17b0); (try clear c18); (try clear c18b0); (try clear c20); (try clear c21); (try clear p23); (try clear q23); (try clear hx23); (try clear qi23); (try clear c25); (try clear c35); (try clear c37); (try clear c37b0); (try clear c37b1); (try clear hczx44871)
          (try clear hczx44872); (try clear hczx44873); (try clear hczx44874); (try clear hczx44875); (try clear hczx44876); (try clear hczxd74c1); (try clear hczxd74c2); (try clear hczxd74c3); (try clear hczxd74c4); (try clear hczxd74c5); (try clear hczxd74c6); (try clear hfzx44871); (try clear hfzx44872); (try clear hfzx44873); (try clear hfzx44874); (try clear hfzx44875); (try clear hfzx44876); (try clear hfzxd74c1); (try clear hfzxd74c2); (try clear hfzxd74c3); (try clear hfzxd74c4); (try clear hfzxd74c5); (try clear hfzxd74c6); (try clear hx237_0); (try clear hx237_1); (try clear hx237_2); (try clear hx237_3); (try clear hx237_4); (try clear hx237_5); (try clear hx238_0); (try clear hx238_1); (try clear hx238_2); (try clear hx238_3); (try clear hx238_4); (try clear hx238_5); (try clear p1); (try clear p2); (try clear p23); (try clear p237); (try clear p238)
          (try clear p6); (try clear q2); (try clear q23); (try clear q237); (try clear q238)
          obtain ⟨kq, x77_27, rfl, HA, HJ27, BK246, BK254, HB⟩ := hcut
          cases kq with
          | zero => exact absurd HA.out (by simp [skywaykeep1_TubeCuts.j1])
          | succ kj27 =>
           have H := HA.out
           clear HA
           simp only [skywaykeep1_TubeCuts.j1] at H
           refine Or.elim (Classical.em (x77_27 = true)) (fun c38 => ?p13_) (fun c38 => ?n13_)
           case' p13_ =>
            subst c38
            have H1 : (some (decide ((wrap64 (a1 + (Int.tmod (wrap64 ((Int.tmod a3 1000) + 1000)) 1000))) > a2))) = some r := by rw [if_pos rfl] at H; exact H
            clear H
            have H := H1
            clear H1
            have hm12_0 := Aside0.mk trivial
           case' n13_ =>
            replace c38 := Bool.eq_false_iff.mpr c38
            subst c38
            have H1 : ((skywaykeep1_TubeCuts_1.f t240 t248).bind fun t255 => (if t255 = true then (some false) else ((skywaykeep1_TubeCuts_1.f t241 t249).bind fun t256 => (if t256 = true then (some false) else ((skywaykeep1_TubeCuts_1.f t242 t250).bind fun t257 => (if t257 = true then (some false) else ((skywaykeep1_TubeCuts_1.f t243 t251).bind fun t258 => (if t258 = true then (some false) else ((skywaykeep1_TubeCuts_1.f t244 t252).bind fun t259 => (if t259 = true then (some false) else (if (wrap64 (a1 + (Int.tmod (wrap64 ((Int.tmod a3 1000) + 1000)) 1000))) = a1 then (some ((t239 == t247 && ((t240 == t248 && (t241 == t249)) && (t242 == t250))) && (t243 == t251 && (t244 == t252)))) else (if (wrap64 (a1 + (Int.tmod (wrap64 ((Int.tmod a3 1000) + 1000)) 1000))) = a2 then (some ((t239 == t247 && ((t240 == t248 && (t241 == t249)) && (t242 == t250))) && (t243 == t251 && (t244 == t252)))) else (some true))))))))))))) = some r := by rw [if_neg (show ¬ (false = true) by decide)] at H; exact H
            clear H
            have H := H1
            clear H1
            replace H := Option.bind_eq_some_iff.mp H
            obtain ⟨t255, A390, H⟩ := H
            replace H : (if t255 = true then (some false) else ((skywaykeep1_TubeCuts_1.f t241 t249).bind fun t256 => (if t256 = true then (some false) else ((skywaykeep1_TubeCuts_1.f t242 t250).bind fun t257 => (if t257 = true then (some false) else ((skywaykeep1_TubeCuts_1.f t243 t251).bind fun t258 => (if t258 = true then (some false) else ((skywaykeep1_TubeCuts_1.f t244 t252).bind fun t259 => (if t259 = true then (some false) else (if (wrap64 (a1 + (Int.tmod (wrap64 ((Int.tmod a3 1000) + 1000)) 1000))) = a1 then (some ((t239 == t247 && ((t240 == t248 && (t241 == t249)) && (t242 == t250))) && (t243 == t251 && (t244 == t252)))) else (if (wrap64 (a1 + (Int.tmod (wrap64 ((Int.tmod a3 1000) + 1000)) 1000))) = a2 then (some ((t239 == t247 && ((t240 == t248 && (t241 == t249)) && (t242 == t250))) && (t243 == t251 && (t244 == t252)))) else (some true)))))))))))) = some r := H
            have A39 := Aside0.mk A390
            clear A390
            refine Or.elim (Classical.em (t255 = true)) (fun c40 => ?p14_) (fun c40 => ?n14_)
            case' p14_ =>
             subst c40
             have H1 : (some false) = some r := by rw [if_pos rfl] at H; exact H
             clear H
             have H := H1
             clear H1
             have hm12_1 := Aside0.mk trivial
            case' n14_ =>
             replace c40 := Bool.eq_false_iff.mpr c40
             subst c40
             have H1 : ((skywaykeep1_TubeCuts_1.f t241 t249).bind fun t256 => (if t256 = true then (some false) else ((skywaykeep1_TubeCuts_1.f t242 t250).bind fun t257 => (if t257 = true then (some false) else ((skywaykeep1_TubeCuts_1.f t243 t251).bind fun t258 => (if t258 = true then (some false) else ((skywaykeep1_TubeCuts_1.f t244 t252).bind fun t259 => (if t259 = true then (some false) else (if (wrap64 (a1 + (Int.tmod (wrap64 ((Int.tmod a3 1000) + 1000)) 1000))) = a1 then (some ((t239 == t247 && ((t240 == t248 && (t241 == t249)) && (t242 == t250))) && (t243 == t251 && (t244 == t252)))) else (if (wrap64 (a1 + (Int.tmod (wrap64 ((Int.tmod a3 1000) + 1000)) 1000))) = a2 then (some ((t239 == t247 && ((t240 == t248 && (t241 == t249)) && (t242 == t250))) && (t243 == t251 && (t244 == t252)))) else (some true))))))))))) = some r := by rw [if_neg (show ¬ (false = true) by decide)] at H; exact H
             clear H
             have H := H1
             clear H1
             replace H := Option.bind_eq_some_iff.mp H
             obtain ⟨t256, A450, H⟩ := H
             replace H : (if t256 = true then (some false) else ((skywaykeep1_TubeCuts_1.f t242 t250).bind fun t257 => (if t257 = true then (some false) else ((skywaykeep1_TubeCuts_1.f t243 t251).bind fun t258 => (if t258 = true then (some false) else ((skywaykeep1_TubeCuts_1.f t244 t252).bind fun t259 => (if t259 = true then (some false) else (if (wrap64 (a1 + (Int.tmod (wrap64 ((Int.tmod a3 1000) + 1000)) 1000))) = a1 then (some ((t239 == t247 && ((t240 == t248 && (t241 == t249)) && (t242 == t250))) && (t243 == t251 && (t244 == t252)))) else (if (wrap64 (a1 + (Int.tmod (wrap64 ((Int.tmod a3 1000) + 1000)) 1000))) = a2 then (some ((t239 == t247 && ((t240 == t248 && (t241 == t249)) && (t242 == t250))) && (t243 == t251 && (t244 == t252)))) else (some true)))))))))) = some r := H
             have A45 := Aside0.mk A450
             clear A450
             refine Or.elim (Classical.em (t256 = true)) (fun c46 => ?p15_) (fun c46 => ?n15_)
             case' p15_ =>
              subst c46
              have H1 : (some false) = some r := by rw [if_pos rfl] at H; exact H
              clear H
              have H := H1
              clear H1
              have hm12_1 := Aside0.mk trivial
             case' n15_ =>
              replace c46 := Bool.eq_false_iff.mpr c46
              subst c46
              have H1 : ((skywaykeep1_TubeCuts_1.f t242 t250).bind fun t257 => (if t257 = true then (some false) else ((skywaykeep1_TubeCuts_1.f t243 t251).bind fun t258 => (if t258 = true then (some false) else ((skywaykeep1_TubeCuts_1.f t244 t252).bind fun t259 => (if t259 = true then (some false) else (if (wrap64 (a1 + (Int.tmod (wrap64 ((Int.tmod a3 1000) + 1000)) 1000))) = a1 then (some ((t239 == t247 && ((t240 == t248 && (t241 == t249)) && (t242 == t250))) && (t243 == t251 && (t244 == t252)))) else (if (wrap64 (a1 + (Int.tmod (wrap64 ((Int.tmod a3 1000) + 1000)) 1000))) = a2 then (some ((t239 == t247 && ((t240 == t248 && (t241 == t249)) && (t242 == t250))) && (t243 == t251 && (t244 == t252)))) else (some true))))))))) = some r := by rw [if_neg (show ¬ (false = true) by decide)] at H; exact H
              clear H
              have H := H1
              clear H1
              replace H := Option.bind_eq_some_iff.mp H
              obtain ⟨t257, A540, H⟩ := H
              replace H : (if t257 = true then (some false) else ((skywaykeep1_TubeCuts_1.f t243 t251).bind fun t258 => (if t258 = true then (some false) else ((skywaykeep1_TubeCuts_1.f t244 t252).bind fun t259 => (if t259 = true then (some false) else (if (wrap64 (a1 + (Int.tmod (wrap64 ((Int.tmod a3 1000) + 1000)) 1000))) = a1 then (some ((t239 == t247 && ((t240 == t248 && (t241 == t249)) && (t242 == t250))) && (t243 == t251 && (t244 == t252)))) else (if (wrap64 (a1 + (Int.tmod (wrap64 ((Int.tmod a3 1000) + 1000)) 1000))) = a2 then (some ((t239 == t247 && ((t240 == t248 && (t241 == t249)) && (t242 == t250))) && (t243 == t251 && (t244 == t252)))) else (some true)))))))) = some r := H
              have A54 := Aside0.mk A540
              clear A540
              refine Or.elim (Classical.em (t257 = true)) (fun c55 => ?p16_) (fun c55 => ?n16_)
              case' p16_ =>
               subst c55
               have H1 : (some false) = some r := by rw [if_pos rfl] at H; exact H
               clear H
               have H := H1
               clear H1
               have hm12_1 := Aside0.mk trivial
              case' n16_ =>
               replace c55 := Bool.eq_false_iff.mpr c55
               subst c55
               have H1 : ((skywaykeep1_TubeCuts_1.f t243 t251).bind fun t258 => (if t258 = true then (some false) else ((skywaykeep1_TubeCuts_1.f t244 t252).bind fun t259 => (if t259 = true then (some false) else (if (wrap64 (a1 + (Int.tmod (wrap64 ((Int.tmod a3 1000) + 1000)) 1000))) = a1 then (some ((t239 == t247 && ((t240 == t248 && (t241 == t249)) && (t242 == t250))) && (t243 == t251 && (t244 == t252)))) else (if (wrap64 (a1 + (Int.tmod (wrap64 ((Int.tmod a3 1000) + 1000)) 1000))) = a2 then (some ((t239 == t247 && ((t240 == t248 && (t241 == t249)) && (t242 == t250))) && (t243 == t251 && (t244 == t252)))) else (some true))))))) = some r := by rw [if_neg (show ¬ (false = true) by decide)] at H; exact H
               clear H
               have H := H1
               clear H1
               replace H := Option.bind_eq_some_iff.mp H
               obtain ⟨t258, A660, H⟩ := H
               replace H : (if t258 = true then (some false) else ((skywaykeep1_TubeCuts_1.f t244 t252).bind fun t259 => (if t259 = true then (some false) else (if (wrap64 (a1 + (Int.tmod (wrap64 ((Int.tmod a3 1000) + 1000)) 1000))) = a1 then (some ((t239 == t247 && ((t240 == t248 && (t241 == t249)) && (t242 == t250))) && (t243 == t251 && (t244 == t252)))) else (if (wrap64 (a1 + (Int.tmod (wrap64 ((Int.tmod a3 1000) + 1000)) 1000))) = a2 then (some ((t239 == t247 && ((t240 == t248 && (t241 == t249)) && (t242 == t250))) && (t243 == t251 && (t244 == t252)))) else (some true)))))) = some r := H
               have A66 := Aside0.mk A660
               clear A660
               refine Or.elim (Classical.em (t258 = true)) (fun c67 => ?p17_) (fun c67 => ?n17_)
               case' p17_ =>
                subst c67
                have H1 : (some false) = some r := by rw [if_pos rfl] at H; exact H
                clear H
                have H := H1
                clear H1
                have hm12_1 := Aside0.mk trivial
               case' n17_ =>
                replace c67 := Bool.eq_false_iff.mpr c67
                subst c67
                have H1 : ((skywaykeep1_TubeCuts_1.f t244 t252).bind fun t259 => (if t259 = true then (some false) else (if (wrap64 (a1 + (Int.tmod (wrap64 ((Int.tmod a3 1000) + 1000)) 1000))) = a1 then (some ((t239 == t247 && ((t240 == t248 && (t241 == t249)) && (t242 == t250))) && (t243 == t251 && (t244 == t252)))) else (if (wrap64 (a1 + (Int.tmod (wrap64 ((Int.tmod a3 1000) + 1000)) 1000))) = a2 then (some ((t239 == t247 && ((t240 == t248 && (t241 == t249)) && (t242 == t250))) && (t243 == t251 && (t244 == t252)))) else (some true))))) = some r := by rw [if_neg (show ¬ (false = true) by decide)] at H; exact H
                clear H
                have H := H1
                clear H1
                replace H := Option.bind_eq_some_iff.mp H
                obtain ⟨t259, A810, H⟩ := H
                replace H : (if t259 = true then (some false) else (if (wrap64 (a1 + (Int.tmod (wrap64 ((Int.tmod a3 1000) + 1000)) 1000))) = a1 then (some ((t239 == t247 && ((t240 == t248 && (t241 == t249)) && (t242 == t250))) && (t243 == t251 && (t244 == t252)))) else (if (wrap64 (a1 + (Int.tmod (wrap64 ((Int.tmod a3 1000) + 1000)) 1000))) = a2 then (some ((t239 == t247 && ((t240 == t248 && (t241 == t249)) && (t242 == t250))) && (t243 == t251 && (t244 == t252)))) else (some true)))) = some r := H
                have A81 := Aside0.mk A810
                clear A810
                refine Or.elim (Classical.em (t259 = true)) (fun c82 => ?p18_) (fun c82 => ?n18_)
                case' p18_ =>
                 subst c82
                 have H1 : (some false) = some r := by rw [if_pos rfl] at H; exact H
                 clear H
                 have H := H1
                 clear H1
                 have hm12_1 := Aside0.mk trivial
                case' n18_ =>
                 replace c82 := Bool.eq_false_iff.mpr c82
                 subst c82
                 have H1 : (if (wrap64 (a1 + (Int.tmod (wrap64 ((Int.tmod a3 1000) + 1000)) 1000))) = a1 then (some ((t239 == t247 && ((t240 == t248 && (t241 == t249)) && (t242 == t250))) && (t243 == t251 && (t244 == t252)))) else (if (wrap64 (a1 + (Int.tmod (wrap64 ((Int.tmod a3 1000) + 1000)) 1000))) = a2 then (some ((t239 == t247 && ((t240 == t248 && (t241 == t249)) && (t242 == t250))) && (t243 == t251 && (t244 == t252)))) else (some true))) = some r := by rw [if_neg (show ¬ (false = true) by decide)] at H; exact H
                 clear H
                 have H := H1
                 clear H1
                 refine Or.elim (Classical.em ((wrap64 (a1 + (Int.tmod (wrap64 ((Int.tmod a3 1000) + 1000)) 1000))) = a1)) (fun c99 => ?p19_) (fun c99 => ?n19_)
                 case' p19_ =>
                  rw [if_pos c99] at H
                  have c99b0 : ((wrap64 (a1 + (Int.tmod (wrap64 ((Int.tmod a3 1000) + 1000)) 1000))) == a1) = true := beq_iff_eq.mpr c99
                  have c99b1 : ((wrap64 (a1 + (Int.tmod (wrap64 ((Int.tmod a3 1000) + 1000)) 1000))) != a1) = false := bne_eq_false_iff_eq.mpr c99
                  clear c99
                  have hm12_1 := Aside0.mk trivial
                 case' n19_ =>
                  rw [if_neg c99] at H
                  have c99b0 : ((wrap64 (a1 + (Int.tmod (wrap64 ((Int.tmod a3 1000) + 1000)) 1000))) == a1) = false := beq_eq_false_iff_ne.mpr c99
                  have c99b1 : ((wrap64 (a1 + (Int.tmod (wrap64 ((Int.tmod a3 1000) + 1000)) 1000))) != a1) = true := bne_iff_ne.mpr c99
                  refine Or.elim (Classical.em ((wrap64 (a1 + (Int.tmod (wrap64 ((Int.tmod a3 1000) + 1000)) 1000))) = a2)) (fun c118 => ?p20_) (fun c118 => ?n20_)
                  case' p20_ =>
                   rw [if_pos c118] at H
                   have c118b0 : ((wrap64 (a1 + (Int.tmod (wrap64 ((Int.tmod a3 1000) + 1000)) 1000))) == a2) = true := beq_iff_eq.mpr c118
                   have c118b1 : ((wrap64 (a1 + (Int.tmod (wrap64 ((Int.tmod a3 1000) + 1000)) 1000))) != a2) = false := bne_eq_false_iff_eq.mpr c118
                   clear c118
                   have hm12_1 := Aside0.mk trivial
                  case' n20_ =>
                   rw [if_neg c118] at H
                   have c118b0 : ((wrap64 (a1 + (Int.tmod (wrap64 ((Int.tmod a3 1000) + 1000)) 1000))) == a2) = false := beq_eq_false_iff_ne.mpr c118
                   have c118b1 : ((wrap64 (a1 + (Int.tmod (wrap64 ((Int.tmod a3 1000) + 1000)) 1000))) != a2) = true := bne_iff_ne.mpr c118
                   have hm12_1 := Aside0.mk trivial
           all_goals
            obtain rfl := Option.some.inj H
            first
             | clear hm12_0
               go_wp2
               go_ret
               exact ⟨by first | rfl | (simp [errW_none, errW_some] <;> rfl) | (simp [*, errW_none, errW_some] <;> rfl), by repeat (first | (with_reducible first | exact HB.out | apply below_alloc | apply pw_below_drewN | apply below_drew1 | refine below_set ?_ GE246.out | refine below_set ?_ GE254.out) | exact HB.out)⟩
             | clear hm12_1
               have hnbze1 := NB246_254.out
               have hncze1 := NB254_246.out
               have hczze1 : wc.cell? ⟨gb246, 0, none⟩ = some (.int .i64 t239) := (blk_cell BK246.out 0).trans rfl
               have hczze2 : wc.cell? ⟨gb246, 1, none⟩ = some (.int .i64 t240) := (blk_cell BK246.out 1).trans rfl
               have hczze3 : wc.cell? ⟨gb246, 2, none⟩ = some (.int .i64 t241) := (blk_cell BK246.out 2).trans rfl
               have hczze4 : wc.cell? ⟨gb246, 3, none⟩ = some (.int .i64 t242) := (blk_cell BK246.out 3).trans rfl
               have hczze5 : wc.cell? ⟨gb246, 4, none⟩ = some (.int .i64 t243) := (blk_cell BK246.out 4).trans rfl
               have hczze6 : wc.cell? ⟨gb246, 5, none⟩ = some (.int .i64 t244) := (blk_cell BK246.out 5).trans rfl
               have hfzze1 := blk_frozen BK246.out 0
               have hfzze2 := blk_frozen BK246.out 1
               have hfzze3 := blk_frozen BK246.out 2
               have hfzze4 := blk_frozen BK246.out 3
               have hfzze5 := blk_frozen BK246.out 4
               have hfzze6 := blk_frozen BK246.out 5
               have hczze7 : wc.cell? ⟨gb254, 0, none⟩ = some (.int .i64 t247) := (blk_cell BK254.out 0).trans rfl
               have hczze8 : wc.cell? ⟨gb254, 1, none⟩ = some (.int .i64 t248) := (blk_cell BK254.out 1).trans rfl
               have hczze9 : wc.cell? ⟨gb254, 2, none⟩ = some (.int .i64 t249) := (blk_cell BK254.out 2).trans rfl
               have hczze10 : wc.cell? ⟨gb254, 3, none⟩ = some (.int .i64 t250) := (blk_cell BK254.out 3).trans rfl
               have hczze11 : wc.cell? ⟨gb254, 4, none⟩ = some (.int .i64 t251) := (blk_cell BK254.out 4).trans rfl
               have hczze12 : wc.cell? ⟨gb254, 5, none⟩ = some (.int .i64 t252) := (blk_cell BK254.out 5).trans rfl
               have hfzze7 := blk_frozen BK254.out 0
               have hfzze8 := blk_frozen BK254.out 1
               have hfzze9 := blk_frozen BK254.out 2
               have hfzze10 := blk_frozen BK254.out 3
               have hfzze11 := blk_frozen BK254.out 4
               have hfzze12 := blk_frozen BK254.out 5
               go_wp2_with (first | ((with_reducible refine FnF.gateT (f := 22) rfl rfl ?_); refine FnF.goesT_ (some 90) rfl rfl Try.func22 (by kernel_rfl) rfl #[.int .i64 t240, .int .i64 t248] rfl rfl (by (try simp only [List.map_toArray, List.map_cons, List.map_nil]); first | done | rfl | (simp only [List.length_drop, List.length_take]; rfl)) ?_; (with_reducible refine (skywaykeep1_TubeCuts_1.calls t240 t248 false _ A39.out).mono ?_); rintro e wx6bb31 ⟨rfl, hb⟩; refine ⟨_, rfl, ?_⟩; have n0_ := Aside0.mk (blk_below (g := gb246) (o := .cells #[.int .i64 t239, .int .i64 t240, .int .i64 t241, .int .i64 t242, .int .i64 t243, .int .i64 t244] 30 (0, 0)) (by (with_reducible repeat (first | refine blk_drewN ?_ _ | refine blk_drew ?_ | refine blk_alloc ?_ _)); exact BK246.out) hb); have n1_ := Aside0.mk (blk_below (g := gb254) (o := .cells #[.int .i64 t247, .int .i64 t248, .int .i64 t249, .int .i64 t250, .int .i64 t251, .int .i64 t252] 30 (0, 0)) (by (with_reducible repeat (first | refine blk_drewN ?_ _ | refine blk_drew ?_ | refine blk_alloc ?_ _)); exact BK254.out) hb); have n2_ := Aside0.mk (below_step (by repeat (first | (with_reducible first | exact HB.out | apply below_alloc | apply pw_below_drewN | apply below_drew1 | refine below_set ?_ GE246.out | refine below_set ?_ GE254.out) | exact HB.out)) hb); clear BK246; clear BK254; clear HB; have BK246 := n0_; have BK254 := n1_; have HB := n2_; clear n0_ n1_ n2_; (try clear hb); (try clear hb2); (try clear hk); (try clear hi); have hczx6bb31 : wx6bb31.cell? ⟨gb246, 0, none⟩ = some (.int .i64 t239) := (blk_cell BK246.out 0).trans rfl; have hczx6bb32 : wx6bb31.cell? ⟨gb246, 1, none⟩ = some (.int .i64 t240) := (blk_cell BK246.out 1).trans rfl; have hczx6bb33 : wx6bb31.cell? ⟨gb246, 2, none⟩ = some (.int .i64 t241) := (blk_cell BK246.out 2).trans rfl; have hczx6bb34 : wx6bb31.cell? ⟨gb246, 3, none⟩ = some (.int .i64 t242) := (blk_cell BK246.out 3).trans rfl; have hczx6bb35 : wx6bb31.cell? ⟨gb246, 4, none⟩ = some (.int .i64 t243) := (blk_cell BK246.out 4).trans rfl; have hczx6bb36 : wx6bb31.cell? ⟨gb246, 5, none⟩ = some (.int .i64 t244) := (blk_cell BK246.out 5).trans rfl; have hfzx6bb31 := blk_frozen BK246.out 0; have hfzx6bb32 := blk_frozen BK246.out 1; have hfzx6bb33 := blk_frozen BK246.out 2; have hfzx6bb34 := blk_frozen BK246.out 3; have hfzx6bb35 := blk_frozen BK246.out 4; have hfzx6bb36 := blk_frozen BK246.out 5; have hczx6bb37 : wx6bb31.cell? ⟨gb254, 0, none⟩ = some (.int .i64 t247) := (blk_cell BK254.out 0).trans rfl; have hczx6bb38 : wx6bb31.cell? ⟨gb254, 1, none⟩ = some (.int .i64 t248) := (blk_cell BK254.out 1).trans rfl; have hczx6bb39 : wx6bb31.cell? ⟨gb254, 2, none⟩ = some (.int .i64 t249) := (blk_cell BK254.out 2).trans rfl; have hczx6bb310 : wx6bb31.cell? ⟨gb254, 3, none⟩ = some (.int .i64 t250) := (blk_cell BK254.out 3).trans rfl; have hczx6bb311 : wx6bb31.cell? ⟨gb254, 4, none⟩ = some (.int .i64 t251) := (blk_cell BK254.out 4).trans rfl; have hczx6bb312 : wx6bb31.cell? ⟨gb254, 5, none⟩ = some (.int .i64 t252) := (blk_cell BK254.out 5).trans rfl; have hfzx6bb37 := blk_frozen BK254.out 0; have hfzx6bb38 := blk_frozen BK254.out 1; have hfzx6bb39 := blk_frozen BK254.out 2; have hfzx6bb310 := blk_frozen BK254.out 3; have hfzx6bb311 := blk_frozen BK254.out 4; have hfzx6bb312 := blk_frozen BK254.out 5) | ((with_reducible refine FnF.gateT (f := 22) rfl rfl ?_); refine FnF.goesT_ (some 90) rfl rfl Try.func22 (by kernel_rfl) rfl #[.int .i64 t240, .int .i64 t248] rfl rfl (by (try simp only [List.map_toArray, List.map_cons, List.map_nil]); first | done | rfl | (simp only [List.length_drop, List.length_take]; rfl)) ?_; (with_reducible refine (skywaykeep1_TubeCuts_1.calls t240 t248 true _ A39.out).mono ?_); rintro e wx124b1 ⟨rfl, hb⟩; refine ⟨_, rfl, ?_⟩; have n0_ := Aside0.mk (blk_below (g := gb246) (o := .cells #[.int .i64 t239, .int .i64 t240, .int .i64 t241, .int .i64 t242, .int .i64 t243, .int .i64 t244] 30 (0, 0)) (by (with_reducible repeat (first | refine blk_drewN ?_ _ | refine blk_drew ?_ | refine blk_alloc ?_ _)); exact BK246.out) hb); have n1_ := Aside0.mk (blk_below (g := gb254) (o := .cells #[.int .i64 t247, .int .i64 t248, .int .i64 t249, .int .i64 t250, .int .i64 t251, .int .i64 t252] 30 (0, 0)) (by (with_reducible repeat (first | refine blk_drewN ?_ _ | refine blk_drew ?_ | refine blk_alloc ?_ _)); exact BK254.out) hb); have n2_ := Aside0.mk (below_step (by repeat (first | (with_reducible first | exact HB.out | apply below_alloc | apply pw_below_drewN | apply below_drew1 | refine below_set ?_ GE246.out | refine below_set ?_ GE254.out) | exact HB.out)) hb); clear BK246; clear BK254; clear HB; have BK246 := n0_; have BK254 := n1_; have HB := n2_; clear n0_ n1_ n2_; (try clear hb); (try clear hb2); (try clear hk); (try clear hi)) | (go_at_call 22; (with_reducible refine (skywaykeep1_TubeCuts_1.calls t244 t252 false _ A81.out).mono ?_); rintro e wxc5cc1 ⟨rfl, hb⟩; have n0_ := Aside0.mk (blk_below (g := gb246) (o := .cells #[.int .i64 t239, .int .i64 t240, .int .i64 t241, .int .i64 t242, .int .i64 t243, .int .i64 t244] 30 (0, 0)) (by (with_reducible repeat (first | refine blk_drewN ?_ _ | refine blk_drew ?_ | refine blk_alloc ?_ _)); exact BK246.out) hb); have n1_ := Aside0.mk (blk_below (g := gb254) (o := .cells #[.int .i64 t247, .int .i64 t248, .int .i64 t249, .int .i64 t250, .int .i64 t251, .int .i64 t252] 30 (0, 0)) (by (with_reducible repeat (first | refine blk_drewN ?_ _ | refine blk_drew ?_ | refine blk_alloc ?_ _)); exact BK254.out) hb); have n2_ := Aside0.mk (below_step (by repeat (first | (with_reducible first | exact HB.out | apply below_alloc | apply pw_below_drewN | apply below_drew1 | refine below_set ?_ GE246.out | refine below_set ?_ GE254.out) | exact HB.out)) hb); clear BK246; clear BK254; clear HB; have BK246 := n0_; have BK254 := n1_; have HB := n2_; clear n0_ n1_ n2_; (try clear hb); (try clear hb2); (try clear hk); (try clear hi); have hczy5d3540 : wxc5cc1.cell? ⟨gb246, 0, none⟩ = some (.int .i64 t239) := (blk_cell BK246.out 0).trans rfl; have hczy5d3541 : wxc5cc1.cell? ⟨gb246, 1, none⟩ = some (.int .i64 t240) := (blk_cell BK246.out 1).trans rfl; have hczy5d3542 : wxc5cc1.cell? ⟨gb246, 2, none⟩ = some (.int .i64 t241) := (blk_cell BK246.out 2).trans rfl; have hczy5d3543 : wxc5cc1.cell? ⟨gb246, 3, none⟩ = some (.int .i64 t242) := (blk_cell BK246.out 3).trans rfl; have hczy5d3544 : wxc5cc1.cell? ⟨gb246, 4, none⟩ = some (.int .i64 t243) := (blk_cell BK246.out 4).trans rfl; have hczy5d3545 : wxc5cc1.cell? ⟨gb246, 5, none⟩ = some (.int .i64 t244) := (blk_cell BK246.out 5).trans rfl; have hfzy5d3546 := blk_frozen BK246.out 0; have hfzy5d3547 := blk_frozen BK246.out 1; have hfzy5d3548 := blk_frozen BK246.out 2; have hfzy5d3549 := blk_frozen BK246.out 3; have hfzy5d35410 := blk_frozen BK246.out 4; have hfzy5d35411 := blk_frozen BK246.out 5; have hczy5d35412 : wxc5cc1.cell? ⟨gb254, 0, none⟩ = some (.int .i64 t247) := (blk_cell BK254.out 0).trans rfl; have hczy5d35413 : wxc5cc1.cell? ⟨gb254, 1, none⟩ = some (.int .i64 t248) := (blk_cell BK254.out 1).trans rfl; have hczy5d35414 : wxc5cc1.cell? ⟨gb254, 2, none⟩ = some (.int .i64 t249) := (blk_cell BK254.out 2).trans rfl; have hczy5d35415 : wxc5cc1.cell? ⟨gb254, 3, none⟩ = some (.int .i64 t250) := (blk_cell BK254.out 3).trans rfl; have hczy5d35416 : wxc5cc1.cell? ⟨gb254, 4, none⟩ = some (.int .i64 t251) := (blk_cell BK254.out 4).trans rfl; have hczy5d35417 : wxc5cc1.cell? ⟨gb254, 5, none⟩ = some (.int .i64 t252) := (blk_cell BK254.out 5).trans rfl; have hfzy5d35418 := blk_frozen BK254.out 0; have hfzy5d35419 := blk_frozen BK254.out 1; have hfzy5d35420 := blk_frozen BK254.out 2; have hfzy5d35421 := blk_frozen BK254.out 3; have hfzy5d35422 := blk_frozen BK254.out 4; have hfzy5d35423 := blk_frozen BK254.out 5) | (go_at_call 22; (with_reducible refine (skywaykeep1_TubeCuts_1.calls t244 t252 true _ A81.out).mono ?_); rintro e wx21101 ⟨rfl, hb⟩; have n0_ := Aside0.mk (blk_below (g := gb246) (o := .cells #[.int .i64 t239, .int .i64 t240, .int .i64 t241, .int .i64 t242, .int .i64 t243, .int .i64 t244] 30 (0, 0)) (by (with_reducible repeat (first | refine blk_drewN ?_ _ | refine blk_drew ?_ | refine blk_alloc ?_ _)); exact BK246.out) hb); have n1_ := Aside0.mk (blk_below (g := gb254) (o := .cells #[.int .i64 t247, .int .i64 t248, .int .i64 t249, .int .i64 t250, .int .i64 t251, .int .i64 t252] 30 (0, 0)) (by (with_reducible repeat (first | refine blk_drewN ?_ _ | refine blk_drew ?_ | refine blk_alloc ?_ _)); exact BK254.out) hb); have n2_ := Aside0.mk (below_step (by repeat (first | (with_reducible first | exact HB.out | apply below_alloc | apply pw_below_drewN | apply below_drew1 | refine below_set ?_ GE246.out | refine below_set ?_ GE254.out) | exact HB.out)) hb); clear BK246; clear BK254; clear HB; have BK246 := n0_; have BK254 := n1_; have HB := n2_; clear n0_ n1_ n2_; (try clear hb); (try clear hb2); (try clear hk); (try clear hi)) | (go_at_call 22; (with_reducible refine (skywaykeep1_TubeCuts_1.calls t243 t251 false _ A66.out).mono ?_); rintro e wxac921 ⟨rfl, hb⟩; have n0_ := Aside0.mk (blk_below (g := gb246) (o := .cells #[.int .i64 t239, .int .i64 t240, .int .i64 t241, .int .i64 t242, .int .i64 t243, .int .i64 t244] 30 (0, 0)) (by (with_reducible repeat (first | refine blk_drewN ?_ _ | refine blk_drew ?_ | refine blk_alloc ?_ _)); exact BK246.out) hb); have n1_ := Aside0.mk (blk_below (g := gb254) (o := .cells #[.int .i64 t247, .int .i64 t248, .int .i64 t249, .int .i64 t250, .int .i64 t251, .int .i64 t252] 30 (0, 0)) (by (with_reducible repeat (first | refine blk_drewN ?_ _ | refine blk_drew ?_ | refine blk_alloc ?_ _)); exact BK254.out) hb); have n2_ := Aside0.mk (below_step (by repeat (first | (with_reducible first | exact HB.out | apply below_alloc | apply pw_below_drewN | apply below_drew1 | refine below_set ?_ GE246.out | refine below_set ?_ GE254.out) | exact HB.out)) hb); clear BK246; clear BK254; clear HB; have BK246 := n0_; have BK254 := n1_; have HB := n2_; clear n0_ n1_ n2_; (try clear hb); (try clear hb2); (try clear hk); (try clear hi); have hczy0c1430 : wxac921.cell? ⟨gb246, 0, none⟩ = some (.int .i64 t239) := (blk_cell BK246.out 0).trans rfl; have hczy0c1431 : wxac921.cell? ⟨gb246, 1, none⟩ = some (.int .i64 t240) := (blk_cell BK246.out 1).trans rfl; have hczy0c1432 : wxac921.cell? ⟨gb246, 2, none⟩ = some (.int .i64 t241) := (blk_cell BK246.out 2).trans rfl; have hczy0c1433 : wxac921.cell? ⟨gb246, 3, none⟩ = some (.int .i64 t242) := (blk_cell BK246.out 3).trans rfl; have hczy0c1434 : wxac921.cell? ⟨gb246, 4, none⟩ = some (.int .i64 t243) := (blk_cell BK246.out 4).trans rfl; have hczy0c1435 : wxac921.cell? ⟨gb246, 5, none⟩ = some (.int .i64 t244) := (blk_cell BK246.out 5).trans rfl; have hfzy0c1436 := blk_frozen BK246.out 0; have hfzy0c1437 := blk_frozen BK246.out 1; have hfzy0c1438 := blk_frozen BK246.out 2; have hfzy0c1439 := blk_frozen BK246.out 3; have hfzy0c14310 := blk_frozen BK246.out 4; have hfzy0c14311 := blk_frozen BK246.out 5; have hczy0c14312 : wxac921.cell? ⟨gb254, 0, none⟩ = some (.int .i64 t247) := (blk_cell BK254.out 0).trans rfl; have hczy0c14313 : wxac921.cell? ⟨gb254, 1, none⟩ = some (.int .i64 t248) := (blk_cell BK254.out 1).trans rfl; have hczy0c14314 : wxac921.cell? ⟨gb254, 2, none⟩ = some (.int .i64 t249) := (blk_cell BK254.out 2).trans rfl; have hczy0c14315 : wxac921.cell? ⟨gb254, 3, none⟩ = some (.int .i64 t250) := (blk_cell BK254.out 3).trans rfl; have hczy0c14316 : wxac921.cell? ⟨gb254, 4, none⟩ = some (.int .i64 t251) := (blk_cell BK254.out 4).trans rfl; have hczy0c14317 : wxac921.cell? ⟨gb254, 5, none⟩ = some (.int .i64 t252) := (blk_cell BK254.out 5).trans rfl; have hfzy0c14318 := blk_frozen BK254.out 0; have hfzy0c14319 := blk_frozen BK254.out 1; have hfzy0c14320 := blk_frozen BK254.out 2; have hfzy0c14321 := blk_frozen BK254.out 3; have hfzy0c14322 := blk_frozen BK254.out 4; have hfzy0c14323 := blk_frozen BK254.out 5) | (go_at_call 22; (with_reducible refine (skywaykeep1_TubeCuts_1.calls t243 t251 true _ A66.out).mono ?_); rintro e wxcc9e1 ⟨rfl, hb⟩; have n0_ := Aside0.mk (blk_below (g := gb246) (o := .cells #[.int .i64 t239, .int .i64 t240, .int .i64 t241, .int .i64 t242, .int .i64 t243, .int .i64 t244] 30 (0, 0)) (by (with_reducible repeat (first | refine blk_drewN ?_ _ | refine blk_drew ?_ | refine blk_alloc ?_ _)); exact BK246.out) hb); have n1_ := Aside0.mk (blk_below (g := gb254) (o := .cells #[.int .i64 t247, .int .i64 t248, .int .i64 t249, .int .i64 t250, .int .i64 t251, .int .i64 t252] 30 (0, 0)) (by (with_reducible repeat (first | refine blk_drewN ?_ _ | refine blk_drew ?_ | refine blk_alloc ?_ _)); exact BK254.out) hb); have n2_ := Aside0.mk (below_step (by repeat (first | (with_reducible first | exact HB.out | apply below_alloc | apply pw_below_drewN | apply below_drew1 | refine below_set ?_ GE246.out | refine below_set ?_ GE254.out) | exact HB.out)) hb); clear BK246; clear BK254; clear HB; have BK246 := n0_; have BK254 := n1_; have HB := n2_; clear n0_ n1_ n2_; (try clear hb); (try clear hb2); (try clear hk); (try clear hi)) | (go_at_call 22; (with_reducible refine (skywaykeep1_TubeCuts_1.calls t242 t250 false _ A54.out).mono ?_); rintro e wxb12e1 ⟨rfl, hb⟩; have n0_ := Aside0.mk (blk_below (g := gb246) (o := .cells #[.int .i64 t239, .int .i64 t240, .int .i64 t241, .int .i64 t242, .int .i64 t243, .int .i64 t244] 30 (0, 0)) (by (with_reducible repeat (first | refine blk_drewN ?_ _ | refine blk_drew ?_ | refine blk_alloc ?_ _)); exact BK246.out) hb); have n1_ := Aside0.mk (blk_below (g := gb254) (o := .cells #[.int .i64 t247, .int .i64 t248, .int .i64 t249, .int .i64 t250, .int .i64 t251, .int .i64 t252] 30 (0, 0)) (by (with_reducible repeat (first | refine blk_drewN ?_ _ | refine blk_drew ?_ | refine blk_alloc ?_ _)); exact BK254.out) hb); have n2_ := Aside0.mk (below_step (by repeat (first | (with_reducible first | exact HB.out | apply below_alloc | apply pw_below_drewN | apply below_drew1 | refine below_set ?_ GE246.out | refine below_set ?_ GE254.out) | exact HB.out)) hb); clear BK246; clear BK254; clear HB; have BK246 := n0_; have BK254 := n1_; have HB := n2_; clear n0_ n1_ n2_; (try clear hb); (try clear hb2); (try clear hk); (try clear hi); have hczy598040 : wxb12e1.cell? ⟨gb246, 0, none⟩ = some (.int .i64 t239) := (blk_cell BK246.out 0).trans rfl; have hczy598041 : wxb12e1.cell? ⟨gb246, 1, none⟩ = some (.int .i64 t240) := (blk_cell BK246.out 1).trans rfl; have hczy598042 : wxb12e1.cell? ⟨gb246, 2, none⟩ = some (.int .i64 t241) := (blk_cell BK246.out 2).trans rfl; have hczy598043 : wxb12e1.cell? ⟨gb246, 3, none⟩ = some (.int .i64 t242) := (blk_cell BK246.out 3).trans rfl; have hczy598044 : wxb12e1.cell? ⟨gb246, 4, none⟩ = some (.int .i64 t243) := (blk_cell BK246.out 4).trans rfl; have hczy598045 : wxb12e1.cell? ⟨gb246, 5, none⟩ = some (.int .i64 t244) := (blk_cell BK246.out 5).trans rfl; have hfzy598046 := blk_frozen BK246.out 0; have hfzy598047 := blk_frozen BK246.out 1; have hfzy598048 := blk_frozen BK246.out 2; have hfzy598049 := blk_frozen BK246.out 3; have hfzy5980410 := blk_frozen BK246.out 4; have hfzy5980411 := blk_frozen BK246.out 5; have hczy5980412 : wxb12e1.cell? ⟨gb254, 0, none⟩ = some (.int .i64 t247) := (blk_cell BK254.out 0).trans rfl; have hczy5980413 : wxb12e1.cell? ⟨gb254, 1, none⟩ = some (.int .i64 t248) := (blk_cell BK254.out 1).trans rfl; have hczy5980414 : wxb12e1.cell? ⟨gb254, 2, none⟩ = some (.int .i64 t249) := (blk_cell BK254.out 2).trans rfl; have hczy5980415 : wxb12e1.cell? ⟨gb254, 3, none⟩ = some (.int .i64 t250) := (blk_cell BK254.out 3).trans rfl; have hczy5980416 : wxb12e1.cell? ⟨gb254, 4, none⟩ = some (.int .i64 t251) := (blk_cell BK254.out 4).trans rfl; have hczy5980417 : wxb12e1.cell? ⟨gb254, 5, none⟩ = some (.int .i64 t252) := (blk_cell BK254.out 5).trans rfl; have hfzy5980418 := blk_frozen BK254.out 0; have hfzy5980419 := blk_frozen BK254.out 1; have hfzy5980420 := blk_frozen BK254.out 2; have hfzy5980421 := blk_frozen BK254.out 3; have hfzy5980422 := blk_frozen BK254.out 4; have hfzy5980423 := blk_frozen BK254.out 5) | (go_at_call 22; (with_reducible refine (skywaykeep1_TubeCuts_1.calls t242 t250 true _ A54.out).mono ?_); rintro e wxe3681 ⟨rfl, hb⟩; have n0_ := Aside0.mk (blk_below (g := gb246) (o := .cells #[.int .i64 t239, .int .i64 t240, .int .i64 t241, .int .i64 t242, .int .i64 t243, .int .i64 t244] 30 (0, 0)) (by (with_reducible repeat (first | refine blk_drewN ?_ _ | refine blk_drew ?_ | refine blk_alloc ?_ _)); exact BK246.out) hb); have n1_ := Aside0.mk (blk_below (g := gb254) (o := .cells #[.int .i64 t247, .int .i64 t248, .int .i64 t249, .int .i64 t250, .int .i64 t251, .int .i64 t252] 30 (0, 0)) (by (with_reducible repeat (first | refine blk_drewN ?_ _ | refine blk_drew ?_ | refine blk_alloc ?_ _)); exact BK254.out) hb); have n2_ := Aside0.mk (below_step (by repeat (first | (with_reducible first | exact HB.out | apply below_alloc | apply pw_below_drewN | apply below_drew1 | refine below_set ?_ GE246.out | refine below_set ?_ GE254.out) | exact HB.out)) hb); clear BK246; clear BK254; clear HB; have BK246 := n0_; have BK254 := n1_; have HB := n2_; clear n0_ n1_ n2_; (try clear hb); (try clear hb2); (try clear hk); (try clear hi)) | (go_at_call 22; (with_reducible refine (skywaykeep1_TubeCuts_1.calls t241 t249 false _ A45.out).mono ?_); rintro e wx1b1a1 ⟨rfl, hb⟩; have n0_ := Aside0.mk (blk_below (g := gb246) (o := .cells #[.int .i64 t239, .int .i64 t240, .int .i64 t241, .int .i64 t242, .int .i64 t243, .int .i64 t244] 30 (0, 0)) (by (with_reducible repeat (first | refine blk_drewN ?_ _ | refine blk_drew ?_ | refine blk_alloc ?_ _)); exact BK246.out) hb); have n1_ := Aside0.mk (blk_below (g := gb254) (o := .cells #[.int .i64 t247, .int .i64 t248, .int .i64 t249, .int .i64 t250, .int .i64 t251, .int .i64 t252] 30 (0, 0)) (by (with_reducible repeat (first | refine blk_drewN ?_ _ | refine blk_drew ?_ | refine blk_alloc ?_ _)); exact BK254.out) hb); have n2_ := Aside0.mk (below_step (by repeat (first | (with_reducible first | exact HB.out | apply below_alloc | apply pw_below_drewN | apply below_drew1 | refine below_set ?_ GE246.out | refine below_set ?_ GE254.out) | exact HB.out)) hb); clear BK246; clear BK254; clear HB; have BK246 := n0_; have BK254 := n1_; have HB := n2_; clear n0_ n1_ n2_; (try clear hb); (try clear hb2); (try clear hk); (try clear hi); have hczy158250 : wx1b1a1.cell? ⟨gb246, 0, none⟩ = some (.int .i64 t239) := (blk_cell BK246.out 0).trans rfl; have hczy158251 : wx1b1a1.cell? ⟨gb246, 1, none⟩ = some (.int .i64 t240) := (blk_cell BK246.out 1).trans rfl; have hczy158252 : wx1b1a1.cell? ⟨gb246, 2, none⟩ = some (.int .i64 t241) := (blk_cell BK246.out 2).trans rfl; have hczy158253 : wx1b1a1.cell? ⟨gb246, 3, none⟩ = some (.int .i64 t242) := (blk_cell BK246.out 3).trans rfl; have hczy158254 : wx1b1a1.cell? ⟨gb246, 4, none⟩ = some (.int .i64 t243) := (blk_cell BK246.out 4).trans rfl; have hczy158255 : wx1b1a1.cell? ⟨gb246, 5, none⟩ = some (.int .i64 t244) := (blk_cell BK246.out 5).trans rfl; have hfzy158256 := blk_frozen BK246.out 0; have hfzy158257 := blk_frozen BK246.out 1; have hfzy158258 := blk_frozen BK246.out 2; have hfzy158259 := blk_frozen BK246.out 3; have hfzy1582510 := blk_frozen BK246.out 4; have hfzy1582511 := blk_frozen BK246.out 5; have hczy1582512 : wx1b1a1.cell? ⟨gb254, 0, none⟩ = some (.int .i64 t247) := (blk_cell BK254.out 0).trans rfl; have hczy1582513 : wx1b1a1.cell? ⟨gb254, 1, none⟩ = some (.int .i64 t248) := (blk_cell BK254.out 1).trans rfl; have hczy1582514 : wx1b1a1.cell? ⟨gb254, 2, none⟩ = some (.int .i64 t249) := (blk_cell BK254.out 2).trans rfl; have hczy1582515 : wx1b1a1.cell? ⟨gb254, 3, none⟩ = some (.int .i64 t250) := (blk_cell BK254.out 3).trans rfl; have hczy1582516 : wx1b1a1.cell? ⟨gb254, 4, none⟩ = some (.int .i64 t251) := (blk_cell BK254.out 4).trans rfl; have hczy1582517 : wx1b1a1.cell? ⟨gb254, 5, none⟩ = some (.int .i64 t252) := (blk_cell BK254.out 5).trans rfl; have hfzy1582518 := blk_frozen BK254.out 0; have hfzy1582519 := blk_frozen BK254.out 1; have hfzy1582520 := blk_frozen BK254.out 2; have hfzy1582521 := blk_frozen BK254.out 3; have hfzy1582522 := blk_frozen BK254.out 4; have hfzy1582523 := blk_frozen BK254.out 5) | (go_at_call 22; (with_reducible refine (skywaykeep1_TubeCuts_1.calls t241 t249 true _ A45.out).mono ?_); rintro e wx54261 ⟨rfl, hb⟩; have n0_ := Aside0.mk (blk_below (g := gb246) (o := .cells #[.int .i64 t239, .int .i64 t240, .int .i64 t241, .int .i64 t242, .int .i64 t243, .int .i64 t244] 30 (0, 0)) (by (with_reducible repeat (first | refine blk_drewN ?_ _ | refine blk_drew ?_ | refine blk_alloc ?_ _)); exact BK246.out) hb); have n1_ := Aside0.mk (blk_below (g := gb254) (o := .cells #[.int .i64 t247, .int .i64 t248, .int .i64 t249, .int .i64 t250, .int .i64 t251, .int .i64 t252] 30 (0, 0)) (by (with_reducible repeat (first | refine blk_drewN ?_ _ | refine blk_drew ?_ | refine blk_alloc ?_ _)); exact BK254.out) hb); have n2_ := Aside0.mk (below_step (by repeat (first | (with_reducible first | exact HB.out | apply below_alloc | apply pw_below_drewN | apply below_drew1 | refine below_set ?_ GE246.out | refine below_set ?_ GE254.out) | exact HB.out)) hb); clear BK246; clear BK254; clear HB; have BK246 := n0_; have BK254 := n1_; have HB := n2_; clear n0_ n1_ n2_; (try clear hb); (try clear hb2); (try clear hk); (try clear hi)))
               go_ret
               exact ⟨by first | rfl | (simp [errW_none, errW_some] <;> rfl) | (simp [*, errW_none, errW_some] <;> rfl), by repeat (first | (with_reducible first | exact HB.out | apply below_alloc | apply pw_below_drewN | apply below_drew1 | refine below_set ?_ GE246.out | refine below_set ?_ GE254.out) | exact HB.out)⟩
   | clear hm1_1
     obtain rfl := Option.some.inj H
     go_enter Try.func5, Try.ntmps5
     go_wp2_with (first | ((with_reducible refine gate_callee (f := 15) rfl ?_); refine goesL_ (some 16) rfl rfl Try.func15 (by kernel_rfl) rfl #[] rfl (by (try simp only [List.map_toArray, List.map_cons, List.map_nil]); first | done | rfl | (simp only [List.length_drop, List.length_take]; rfl)) ?_; (with_reducible refine (skywaykeep1_tubeWorks.calls k  false _ A5.out).mono ?_); rintro e wxa7971 ⟨rfl, hb⟩; refine ⟨_, rfl, ?_⟩; have n0_ := Aside0.mk (below_step (by repeat (first | (with_reducible first | exact HB.out | apply below_alloc | apply pw_below_drewN | apply below_drew1) | exact HB.out)) hb); clear HB; have HB := n0_; clear n0_; (try clear hb); (try clear hb2); (try clear hk); (try clear hi)) | ((with_reducible refine gate_callee (f := 15) rfl ?_); refine goesL_ (some 16) rfl rfl Try.func15 (by kernel_rfl) rfl #[] rfl (by (try simp only [List.map_toArray, List.map_cons, List.map_nil]); first | done | rfl | (simp only [List.length_drop, List.length_take]; rfl)) ?_; (with_reducible refine (skywaykeep1_tubeWorks.calls k  true _ A5.out).mono ?_); rintro e wxbf1d1 ⟨rfl, hb⟩; refine ⟨_, rfl, ?_⟩; have n0_ := Aside0.mk (below_step (by repeat (first | (with_reducible first | exact HB.out | apply below_alloc | apply pw_below_drewN | apply below_drew1) | exact HB.out)) hb); clear HB; have HB := n0_; clear n0_; (try clear hb); (try clear hb2); (try clear hk); (try clear hi)) | ((with_reducible refine gate_callee (f := 21) rfl ?_); refine goesL_ (some 22) rfl rfl Try.func21 (by kernel_rfl) rfl #[.slice A0 l0.length c0, .int .i64 a1, .int .i64 a2] rfl (by (try simp only [List.map_toArray, List.map_cons, List.map_nil]); first | done | rfl | (simp only [List.length_drop, List.length_take]; rfl)) ?_; (with_reducible refine (tube_Cut.calls k _ _ l0 a1 a2 t232 t233 _ ?side1 ?side2 A7.out).mono ?_); (case side1 => repeat (first | exact (Kd.C_below HR0.out HB.out) | (with_reducible refine Kd.C_alloc ?_ _) | (with_reducible refine Kd.C_drewN ?_ _) | (with_reducible refine Kd.C_drew ?_))); (case side2 => exact HC0.out); rintro e wxe7e31 ⟨v234, rfl, hoxe7e31, hb⟩; refine ⟨_, rfl, ?_⟩; have n0_ := Aside0.mk (Kd.R_lower hoxe7e31 (below_size (by repeat (first | (with_reducible first | exact HB.out | apply below_alloc | apply pw_below_drewN | apply below_drew1) | exact HB.out)))); have n1_ := Aside0.mk (below_step (by repeat (first | (with_reducible first | exact HB.out | apply below_alloc | apply pw_below_drewN | apply below_drew1) | exact HB.out)) hb); clear HB; have HO235 := n0_; have HB := n1_; clear n0_ n1_; (try clear hb); (try clear hb2); (try clear hk); (try clear hi); (try clear hoxe7e31); obtain ⟨Aoxe7e31, coxe7e31, eoxe7e31⟩ := Kd.R_slice HO235.out; subst eoxe7e31))
     go_ret
     exact ⟨by first | rfl | (simp [errW_none, errW_some] <;> rfl) | (simp [*, errW_none, errW_some] <;> rfl), by repeat (first | (with_reducible first | exact HB.out | apply below_alloc | apply pw_below_drewN | apply below_drew1) | exact HB.out)⟩

/-- What is told of a value of struct type 26 that came in. -/
def good26 (x : S26) : Prop := ((Lit.int .i64 x.f0).wf = true) ∧ (Lit.int .i64 x.f1).wf = true
/-- What is told of a value of struct type 28 that came in. -/
def good28 (x : S28) : Prop := ((Lit.int .i64 x.f0).wf = true) ∧ (good26 x.f1) ∧ (Lit.int .i64 x.f2).wf = true
/-- What is told of a value of struct type 30 that came in. -/
def good30 (x : S30) : Prop := (good28 x.f0) ∧ ((Lit.int .i64 x.f1).wf = true) ∧ (Lit.int .i64 x.f2).wf = true
/-- THE ONE PURE STATEMENT of skywaykeep1_TubeCuts. -/
def skywaykeep1_TubeCuts.Pure : Prop := ∀ (l0 : List (S30)) (a1 : Int) (a2 : Int) (a3 : Int), (l0.length * 48 ≤ 140737488351232 ∧ ∀ y0 ∈ l0, good30 y0) → ((Lit.int .i64 a1).wf = true) → ((Lit.int .i64 a2).wf = true) → ((Lit.int .i64 a3).wf = true) → ∃ k, skywaykeep1_TubeCuts.f k l0 a1 a2 a3 = some true

end Go.Proofs.Yteaddpieonkboab.PTubeCuts
