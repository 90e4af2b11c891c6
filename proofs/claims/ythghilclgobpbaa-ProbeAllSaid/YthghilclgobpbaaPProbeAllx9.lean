/- Made by a program of this session (wip/tools/myprint.py, over the kit's printer): that the Go functions answer as the Lean functions printed beside them. -/
import Derived.Test.YthghilclgobpbaaTSq2
import Derived.Test.YthghilclgobpbaaPProbeAllx0
import Derived.Test.YthghilclgobpbaaPProbeAllx2
import Derived.Test.YthghilclgobpbaaPProbeAllx6
import Derived.Test.YthghilclgobpbaaPProbeAllx7
namespace Go.Proofs.Ythghilclgobpbaa.PProbeAll
open Go.RowKit Go.Proofs.YthghilclgobpbaaW.PrintWords Go.Proofs.YthghilclgobpbaaW.PrintLast Go.Proofs.YthghilclgobpbaaW.PrintMore
attribute [local go_sem] max2_int min2_int max_two min_two max_three min_three max_four min_four   -- for this text's walks alone
set_option linter.unusedVariables false
set_option linter.unusedSimpArgs false

/-! ### probe_All: function 22 -/
mutual
def probe_All.l0 : Nat → List (List (S95)) → List (S64) → Int → Int → Int → Int → Option ((List (S64)) × Int)
  | 0, _, _, _, _, _, _ => none
  | k + 1, x0, x8, x28, x29, x290000, x290001 => if x29 < x28 then (probe_All.l1 k x0 x8 x29 x28 x29 x29 0 x290000 x290001) else (if (x8.length : Int) > 256 then (some (([] : List (S64)), 2)) else ((api_Clash.f x8 ()).bind fun t292 => (some (t292, 0))))
def probe_All.l1 : Nat → List (List (S95)) → List (S64) → Int → Int → Int → Int → Int → Int → Int → Option ((List (S64)) × Int)
  | 0, _, _, _, _, _, _, _, _, _ => none
  | k + 1, x0, x8, x9, x28, x29, x32, x33, x290000, x290001 => if x33 < x32 then (if 0 ≤ x33 then (if x33 < (x0.length : Int) then (if 0 ≤ x9 then (if x9 < (x0.length : Int) then ((probe_pair.f k (rd_L4 x0 x33) (rd_L4 x0 x9) x290000 x290001).bind fun t295 => (probe_All.l2 k x0 x8 x9 x33 x28 x29 x32 x33 t295 (t295.length : Int) 0 x290000 x290001)) else (none)) else (none)) else (none)) else (none)) else (probe_All.l0 k x0 x8 x28 (wrap64 (x29 + 1)) x290000 x290001)
def probe_All.l2 : Nat → List (List (S95)) → List (S64) → Int → Int → Int → Int → Int → Int → List (S62) → Int → Int → Int → Int → Option ((List (S64)) × Int)
  | 0, _, _, _, _, _, _, _, _, _, _, _, _, _ => none
  | k + 1, x0, x8, x9, x10, x28, x29, x32, x33, x45, x46, x47, x290000, x290001 => if x47 < x46 then (if 0 ≤ x47 then (if x47 < (x45.length : Int) then (if x8.length < 4398046511104 then (probe_All.l2 k x0 (x8 ++ [(⟨x10, x9, (rd_T62 x45 x47).f0, wrap64 (((rd_T62 x45 x47).f1) - 1)⟩ : S64)]) x9 x10 x28 x29 x32 x33 x45 x46 (wrap64 (x47 + 1)) x290000 x290001) else (none)) else (none)) else (none)) else (probe_All.l1 k x0 x8 x9 x28 x29 x32 (wrap64 (x33 + 1)) x290000 x290001)
end
def probe_All.f (k : Nat) (l0 : List (List (S95))) (a1_0 : Int) (a1_1 : Int) : Option ((List (S64)) × Int) := (probe_CheckSep.f a1_0 a1_1).bind fun t290 => (if t290 = 0 then (if (l0.length : Int) > 24 then (some (([] : List (S64)), 2)) else ((probe_check.f k a1_0 a1_1 l0).bind fun t291 => (if t291 = 0 then (probe_All.l0 k l0 ([] : List (S64)) (l0.length : Int) 0 a1_0 a1_1) else (some (([] : List (S64)), t291))))) else (some (([] : List (S64)), t290)))
theorem probe_All.mono_l : ∀ k, (∀ y0 y1 y2 y3 y4 y5, LeO (probe_All.l0 k y0 y1 y2 y3 y4 y5) (probe_All.l0 (k + 1) y0 y1 y2 y3 y4 y5)) ∧ (∀ y0 y1 y2 y3 y4 y5 y6 y7 y8, LeO (probe_All.l1 k y0 y1 y2 y3 y4 y5 y6 y7 y8) (probe_All.l1 (k + 1) y0 y1 y2 y3 y4 y5 y6 y7 y8)) ∧ (∀ y0 y1 y2 y3 y4 y5 y6 y7 y8 y9 y10 y11 y12, LeO (probe_All.l2 k y0 y1 y2 y3 y4 y5 y6 y7 y8 y9 y10 y11 y12) (probe_All.l2 (k + 1) y0 y1 y2 y3 y4 y5 y6 y7 y8 y9 y10 y11 y12))
  | 0 => ⟨fun _ _ _ _ _ _ r h => by simp [probe_All.l0] at h, fun _ _ _ _ _ _ _ _ _ r h => by simp [probe_All.l1] at h, fun _ _ _ _ _ _ _ _ _ _ _ _ _ r h => by simp [probe_All.l2] at h⟩
  | k + 1 => by
    obtain ⟨ih0, ih1, ih2⟩ := probe_All.mono_l k; refine ⟨?_, ?_, ?_⟩
    · intro y0 y1 y2 y3 y4 y5; unfold probe_All.l0
      repeat' first
      | (with_reducible exact ih0 _ _ _ _ _ _)
      | (with_reducible exact ih1 _ _ _ _ _ _ _ _ _)
      | (with_reducible exact ih2 _ _ _ _ _ _ _ _ _ _ _ _ _)
      | (with_reducible exact probe_check.mono _ _ _ _)
      | (with_reducible exact probe_pair.mono _ _ _ _ _)
      | (with_reducible exact LeO.refl _)
      | (with_reducible exact LeO.none _)
      | (with_reducible refine LeO.ite ?_ ?_)
      | (with_reducible refine LeO.bind ?_ (fun _ => ?_))
      | exact ih0 _ _ _ _ _ _
      | exact ih1 _ _ _ _ _ _ _ _ _
      | exact ih2 _ _ _ _ _ _ _ _ _ _ _ _ _
      | exact probe_check.mono _ _ _ _
      | exact probe_pair.mono _ _ _ _ _
      | exact LeO.none _
      | refine LeO.ite ?_ ?_
      | refine LeO.bind ?_ (fun _ => ?_)
    · intro y0 y1 y2 y3 y4 y5 y6 y7 y8; unfold probe_All.l1
      repeat' first
      | (with_reducible exact ih0 _ _ _ _ _ _)
      | (with_reducible exact ih1 _ _ _ _ _ _ _ _ _)
      | (with_reducible exact ih2 _ _ _ _ _ _ _ _ _ _ _ _ _)
      | (with_reducible exact probe_check.mono _ _ _ _)
      | (with_reducible exact probe_pair.mono _ _ _ _ _)
      | (with_reducible exact LeO.refl _)
      | (with_reducible exact LeO.none _)
      | (with_reducible refine LeO.ite ?_ ?_)
      | (with_reducible refine LeO.bind ?_ (fun _ => ?_))
      | exact ih0 _ _ _ _ _ _
      | exact ih1 _ _ _ _ _ _ _ _ _
      | exact ih2 _ _ _ _ _ _ _ _ _ _ _ _ _
      | exact probe_check.mono _ _ _ _
      | exact probe_pair.mono _ _ _ _ _
      | exact LeO.none _
      | refine LeO.ite ?_ ?_
      | refine LeO.bind ?_ (fun _ => ?_)
    · intro y0 y1 y2 y3 y4 y5 y6 y7 y8 y9 y10 y11 y12; unfold probe_All.l2
      repeat' first
      | (with_reducible exact ih0 _ _ _ _ _ _)
      | (with_reducible exact ih1 _ _ _ _ _ _ _ _ _)
      | (with_reducible exact ih2 _ _ _ _ _ _ _ _ _ _ _ _ _)
      | (with_reducible exact probe_check.mono _ _ _ _)
      | (with_reducible exact probe_pair.mono _ _ _ _ _)
      | (with_reducible exact LeO.refl _)
      | (with_reducible exact LeO.none _)
      | (with_reducible refine LeO.ite ?_ ?_)
      | (with_reducible refine LeO.bind ?_ (fun _ => ?_))
      | exact ih0 _ _ _ _ _ _
      | exact ih1 _ _ _ _ _ _ _ _ _
      | exact ih2 _ _ _ _ _ _ _ _ _ _ _ _ _
      | exact probe_check.mono _ _ _ _
      | exact probe_pair.mono _ _ _ _ _
      | exact LeO.none _
      | refine LeO.ite ?_ ?_
      | refine LeO.bind ?_ (fun _ => ?_)
theorem probe_All.mono : ∀ a0 a1 a2 k, LeO (probe_All.f k a0 a1 a2) (probe_All.f (k + 1) a0 a1 a2) := by
  intro a0 a1 a2 k; obtain ⟨ih0, ih1, ih2⟩ := probe_All.mono_l k; unfold probe_All.f
  repeat' first
      | (with_reducible exact ih0 _ _ _ _ _ _)
      | (with_reducible exact ih1 _ _ _ _ _ _ _ _ _)
      | (with_reducible exact ih2 _ _ _ _ _ _ _ _ _ _ _ _ _)
      | (with_reducible exact probe_check.mono _ _ _ _)
      | (with_reducible exact probe_pair.mono _ _ _ _ _)
      | (with_reducible exact LeO.refl _)
      | (with_reducible exact LeO.none _)
      | (with_reducible refine LeO.ite ?_ ?_)
      | (with_reducible refine LeO.bind ?_ (fun _ => ?_))
      | exact ih0 _ _ _ _ _ _
      | exact ih1 _ _ _ _ _ _ _ _ _
      | exact ih2 _ _ _ _ _ _ _ _ _ _ _ _ _
      | exact probe_check.mono _ _ _ _
      | exact probe_pair.mono _ _ _ _ _
      | exact LeO.none _
      | refine LeO.ite ?_ ?_
      | refine LeO.bind ?_ (fun _ => ?_)
def probe_All.T16 : Bool × List (List Nat × List Nat) := (true, [([], []), ([], []), ([0, 1], [0, 1]), ([2], [2]), ([], []), ([], []), ([4, 5], [4, 5]), ([6], [6]), ([], []), ([3, 7, 8], [3, 7, 8]), ([9], [9]), ([], [])])
def probe_All.B16 : List Nat := [0, 0, 3, 7, 0, 0, 48, 112, 0, 511, 1023, 0]
theorem probe_All.tab16 : rtab .any (opsOf Try.f22 16) = probe_All.T16 := by kernel_rfl
theorem probe_All.bits16 : waitsOk probe_All.T16.2 probe_All.B16 = true := by kernel_rfl
set_option maxHeartbeats 8000000 in
set_option maxRecDepth 100000 in
theorem probe_All.calls (k : Nat) (A0 : Option Addr) (c0 : Nat) (l0 : List (List (S95))) (a1_0 : Int) (a1_1 : Int) (r1 : List (S64)) (r2 : Int) (w : World) (hr0 : Kd.C (Kd.slice 95 k95) w A0 l0.length l0) (hc0 : l0.length ≤ c0) (h : probe_All.f k l0 a1_0 a1_1 = some (r1, r2)) :
    Calls Try.prog 22 #[.slice A0 l0.length c0, .agg #[.int .i64 a1_0, .int .i64 a1_1]] w fun e w' => ∃ v0_ : Value, e = .returned (.tuple #[v0_, .int .i64 r2]) ∧ Kd.R k64 64 w' w.heap.size (fun _ => True) v0_ r1 ∧ Below w.heap.size w w' := by
 have hu51 := Try.underlying51; have hu62 := Try.underlying62; have hu64 := Try.underlying64; have HR0 := Aside0.mk hr0; have HC0 := Aside0.mk hc0; clear hr0 hc0; have HB := Aside0.mk (Below.refl w.heap.size w); have H : ((probe_CheckSep.f a1_0 a1_1).bind fun t290 => (if t290 = 0 then (if (l0.length : Int) > 24 then (some (([] : List (S64)), 2)) else ((probe_check.f k a1_0 a1_1 l0).bind fun t291 => (if t291 = 0 then (probe_All.l0 k l0 ([] : List (S64)) (l0.length : Int) 0 a1_0 a1_1) else (some (([] : List (S64)), t291))))) else (some (([] : List (S64)), t290)))) = some (r1, r2) := h; clear h; replace H := Option.bind_eq_some_iff.mp H; obtain ⟨t290, A30, H⟩ := H; replace H : (if t290 = 0 then (if (l0.length : Int) > 24 then (some (([] : List (S64)), 2)) else ((probe_check.f k a1_0 a1_1 l0).bind fun t291 => (if t291 = 0 then (probe_All.l0 k l0 ([] : List (S64)) (l0.length : Int) 0 a1_0 a1_1) else (some (([] : List (S64)), t291))))) else (some (([] : List (S64)), t290))) = some (r1, r2) := H; have A3 := Aside0.mk A30; clear A30; refine Or.elim (Classical.em (t290 = 0)) (fun c4 => ?p2_) (fun c4 => ?n2_)
 case' p2_ =>
  rw [if_pos c4] at H; have c4b0 : (t290 == 0) = true := beq_iff_eq.mpr c4; have c4b1 : (t290 != 0) = false := bne_eq_false_iff_eq.mpr c4; clear c4; refine Or.elim (Classical.em ((l0.length : Int) > 24)) (fun c5 => ?p3_) (fun c5 => ?n3_)
  case' p3_ =>
   rw [if_pos c5] at H; have c5b0 : decide (24 < (l0.length : Int)) = true := decide_eq_true c5; have c5b1 : decide (24 < l0.length) = true := decide_eq_true (by omega); clear c5; simp only [Option.some.injEq, Prod.mk.injEq] at H; obtain ⟨rfl, rfl⟩ := H; have hm1_0 := Aside0.mk trivial
  case' n3_ =>
   rw [if_neg c5] at H; have c5b0 : decide (24 < (l0.length : Int)) = false := decide_eq_false c5; have c5b1 : decide (24 < l0.length) = false := decide_eq_false (by omega); clear c5; replace H := Option.bind_eq_some_iff.mp H; obtain ⟨t291, A90, H⟩ := H; replace H : (if t291 = 0 then (probe_All.l0 k l0 ([] : List (S64)) (l0.length : Int) 0 a1_0 a1_1) else (some (([] : List (S64)), t291))) = some (r1, r2) := H; have A9 := Aside0.mk A90; clear A90; refine Or.elim (Classical.em (t291 = 0)) (fun c10 => ?p4_) (fun c10 => ?n4_)
   case' p4_ =>
    rw [if_pos c10] at H; have c10b0 : (t291 == 0) = true := beq_iff_eq.mpr c10; have c10b1 : (t291 != 0) = false := bne_eq_false_iff_eq.mpr c10; clear c10; have hm1_1 := Aside0.mk trivial
   case' n4_ =>
    rw [if_neg c10] at H; have c10b0 : (t291 == 0) = false := beq_eq_false_iff_ne.mpr c10; have c10b1 : (t291 != 0) = true := bne_iff_ne.mpr c10; simp only [Option.some.injEq, Prod.mk.injEq] at H; obtain ⟨rfl, rfl⟩ := H; have hm1_0 := Aside0.mk trivial
 case' n2_ =>
  rw [if_neg c4] at H; have c4b0 : (t290 == 0) = false := beq_eq_false_iff_ne.mpr c4; have c4b1 : (t290 != 0) = true := bne_iff_ne.mpr c4; simp only [Option.some.injEq, Prod.mk.injEq] at H; obtain ⟨rfl, rfl⟩ := H; have hm1_0 := Aside0.mk trivial
 all_goals
  first
   | clear hm1_0; go_enter Try.func22, Try.ntmps22
     go_wp2_with (first | ((with_reducible refine gate_dst (N := 3) rfl ?_); refine box_s #[.int .i64 a1_0, .int .i64 a1_1] 51 ?_; intro gb289 hg wxc00c1 hbox hb; have n0_ := st HB hb; have n1_ := Aside0.mk (hbox); have n2_ := ge HB hg; have n3_ := ge HB hg; clear HB; have HB := n0_; have BK289 := n1_; have GW289 := n2_; have GE289 := n3_; clear n0_ n1_ n2_ n3_; clear hb hbox hg; have hczxc00c1 : wxc00c1.cell? ⟨gb289, 0, none⟩ = some (.int .i64 a1_0) := bc BK289 0; have hczxc00c2 : wxc00c1.cell? ⟨gb289, 1, none⟩ = some (.int .i64 a1_1) := bc BK289 1; have hfzxc00c1 := blk_frozen BK289.out 0; have hfzxc00c2 := blk_frozen BK289.out 1) | ((with_reducible refine gate_callee (f := 44) rfl ?_); refine goesL_ (some 14) rfl rfl Try.func44 (by kernel_rfl) rfl #[.agg #[.int .i64 a1_0, .int .i64 a1_1]] rfl any_s ?_; (with_reducible refine (probe_CheckSep.calls a1_0 a1_1 t290 _ A3.out).mono ?_); rintro e wx42821 ⟨rfl, hb⟩; refine ⟨_, rfl, ?_⟩; have n0_ := kp BK289 hb; have n1_ := st HB hb; clear BK289; clear HB; have BK289 := n0_; have HB := n1_; clear n0_ n1_; (try clear hb); (try clear hb2); (try clear hk); (try clear hi); have hczx42821 : wx42821.cell? ⟨gb289, 0, none⟩ = some (.int .i64 a1_0) := bc BK289 0; have hczx42822 : wx42821.cell? ⟨gb289, 1, none⟩ = some (.int .i64 a1_1) := bc BK289 1; have hfzx42821 := blk_frozen BK289.out 0; have hfzx42822 := blk_frozen BK289.out 1) | ((with_reducible refine gate_callee (f := 44) rfl ?_); refine goesL_ (some 14) rfl rfl Try.func44 (by kernel_rfl) rfl #[.agg #[.int .i64 a1_0, .int .i64 a1_1]] rfl any_s ?_; (with_reducible refine (probe_CheckSep.calls a1_0 a1_1 t290 _ A3.out).mono ?_); rintro e wx0c7c1 ⟨rfl, hb⟩; refine ⟨_, rfl, ?_⟩; have n0_ := kp BK289 hb; have n1_ := st HB hb; clear BK289; clear HB; have BK289 := n0_; have HB := n1_; clear n0_ n1_; (try clear hb); (try clear hb2); (try clear hk); (try clear hi)) | ((with_reducible refine gate_callee (f := 45) rfl ?_); refine goesL_ (some 23) rfl rfl Try.func45 (by kernel_rfl) rfl #[.agg #[.int .i64 a1_0, .int .i64 a1_1], .slice A0 l0.length c0] rfl any_s ?_; (with_reducible refine (probe_check.calls k a1_0 a1_1 _ _ l0 t291 _ ?side1 ?side2 A9.out).mono ?_); (case side1 => exact cb_s (Kd.C_below HR0.out HB.out)); (case side2 => exact HC0.out); rintro e wx298e1 ⟨rfl, hb⟩; refine ⟨_, rfl, ?_⟩; have n0_ := kp BK289 hb; have n1_ := st HB hb; clear BK289; clear HB; have BK289 := n0_; have HB := n1_; clear n0_ n1_; (try clear hb); (try clear hb2); (try clear hk); (try clear hi)))
     go_ret2
     exact ⟨_, by first | rfl | (simp [errW_none, errW_some] <;> rfl) | (simp [*, errW_none, errW_some] <;> rfl), by first | exact Kd.R_nil _ _ _ _ _ | exact Kd.N_nil _ _ _ _ _ | exact Kd.V_nil _ _ _ _ _ | exact Kd.Q_nil _ _ _ _ _ | exact Kd.S_nil _ _ _ _ _, by repeat (first | (with_reducible first | exact HB.out | apply below_alloc | apply pw_below_drewN | apply below_drew1 | refine below_set ?_ GE289.out) | exact HB.out)⟩
   | clear hm1_1; have H' := Aside0.mk H; clear H; go_enter Try.func22, Try.ntmps22
     go_wp2_with (first | ((with_reducible refine gate_dst (N := 3) rfl ?_); refine box_s #[.int .i64 a1_0, .int .i64 a1_1] 51 ?_; intro gb289 hg wxc00c1 hbox hb; have n0_ := st HB hb; have n1_ := Aside0.mk (hbox); have n2_ := ge HB hg; have n3_ := ge HB hg; clear HB; have HB := n0_; have BK289 := n1_; have GW289 := n2_; have GE289 := n3_; clear n0_ n1_ n2_ n3_; clear hb hbox hg; have hczxc00c1 : wxc00c1.cell? ⟨gb289, 0, none⟩ = some (.int .i64 a1_0) := bc BK289 0; have hczxc00c2 : wxc00c1.cell? ⟨gb289, 1, none⟩ = some (.int .i64 a1_1) := bc BK289 1; have hfzxc00c1 := blk_frozen BK289.out 0; have hfzxc00c2 := blk_frozen BK289.out 1) | ((with_reducible refine gate_callee (f := 44) rfl ?_); refine goesL_ (some 14) rfl rfl Try.func44 (by kernel_rfl) rfl #[.agg #[.int .i64 a1_0, .int .i64 a1_1]] rfl any_s ?_; (with_reducible refine (probe_CheckSep.calls a1_0 a1_1 t290 _ A3.out).mono ?_); rintro e wx42821 ⟨rfl, hb⟩; refine ⟨_, rfl, ?_⟩; have n0_ := kp BK289 hb; have n1_ := st HB hb; clear BK289; clear HB; have BK289 := n0_; have HB := n1_; clear n0_ n1_; (try clear hb); (try clear hb2); (try clear hk); (try clear hi); have hczx42821 : wx42821.cell? ⟨gb289, 0, none⟩ = some (.int .i64 a1_0) := bc BK289 0; have hczx42822 : wx42821.cell? ⟨gb289, 1, none⟩ = some (.int .i64 a1_1) := bc BK289 1; have hfzx42821 := blk_frozen BK289.out 0; have hfzx42822 := blk_frozen BK289.out 1) | ((with_reducible refine gate_callee (f := 45) rfl ?_); refine goesL_ (some 23) rfl rfl Try.func45 (by kernel_rfl) rfl #[.agg #[.int .i64 a1_0, .int .i64 a1_1], .slice A0 l0.length c0] rfl any_s ?_; (with_reducible refine (probe_check.calls k a1_0 a1_1 _ _ l0 t291 _ ?side1 ?side2 A9.out).mono ?_); (case side1 => exact cb_s (Kd.C_below HR0.out HB.out)); (case side2 => exact HC0.out); rintro e wx298e1 ⟨rfl, hb⟩; refine ⟨_, rfl, ?_⟩; have n0_ := kp BK289 hb; have n1_ := st HB hb; clear BK289; clear HB; have BK289 := n0_; have HB := n1_; clear n0_ n1_; (try clear hb); (try clear hb2); (try clear hk); (try clear hi)))
     go_loopg [8, 29] k (fun kq v8 v29 w' => ∃ (x8_1 : List (S64)) (x29_1 : Int), v29 = .int .i64 x29_1 ∧ Aside0 (probe_All.l0 kq l0 x8_1 (l0.length : Int) x29_1 a1_0 a1_1 = some (r1, r2)) ∧ Aside0 (kq ≤ k) ∧ Aside0 (Kd.R k64 64 w' w.heap.size (fun _ => True) v8 x8_1) ∧ Aside0 (w'.heap[gb289]? = some (.cells #[.int .i64 a1_0, .int .i64 a1_1] 51 (0, 0))) ∧ Aside0 (Below w.heap.size w w'))
     case atStart => exact ⟨(([] : List (S64))), (0), (by first | rfl | (simp; done) | (simp [*]; done)), H', ⟨Nat.le_refl _⟩, ⟨by first | exact Kd.R_nil _ _ _ _ _ | exact Kd.N_nil _ _ _ _ _ | exact Kd.V_nil _ _ _ _ _ | exact Kd.Q_nil _ _ _ _ _ | exact Kd.S_nil _ _ _ _ _⟩, ⟨by (with_reducible repeat (first | refine blk_drewN ?_ _ | refine blk_drew ?_ | refine blk_alloc ?_ _)); exact BK289.out⟩, ⟨by repeat (first | (with_reducible first | exact HB.out | apply below_alloc | apply pw_below_drewN | apply below_drew1 | refine below_set ?_ GE289.out) | exact HB.out)⟩⟩
     case round =>
      clear H'
      (try clear c1); (try clear c2); (try clear p2); (try clear c4); (try clear c4b0); (try clear c4b1); (try clear c5); (try clear c5b0); (try clear c5b1); (try clear c10); (try clear c10b0); (try clear c10b1); (try clear hczxc00c1); (try clear hczxc00c2); (try clear hczx42821); (try clear hczx42822); (try clear hczza1); (try clear hczza2); (try clear hfzxc00c1); (try clear hfzxc00c2); (try clear hfzx42821); (try clear hfzx42822); (try clear hfzza1); (try clear hfzza2)
      obtain ⟨x8_1, x29_1, rfl, HA, HK1, HO_8, BK289, HB⟩ := hrel
      cases gk with
      | zero => exact absurd HA.out (by simp [probe_All.l0])
      | succ k1 =>
       have H := HA.out; clear HA; simp only [probe_All.l0] at H
       by_cases c16 : x29_1 < (l0.length : Int)
       · rw [if_pos c16] at H; have c16b0 : decide (x29_1 < (l0.length : Int)) = true := decide_eq_true c16; clear c16; have H' := Aside0.mk H; clear H; go_wp2; go_loopg [8, 33] k1 (fun kq v8 v33 w' => ∃ (x8_2 : List (S64)) (x33_2 : Int), v33 = .int .i64 x33_2 ∧ Aside0 (probe_All.l1 kq l0 x8_2 x29_1 (l0.length : Int) x29_1 x29_1 x33_2 a1_0 a1_1 = some (r1, r2)) ∧ Aside0 (kq ≤ k1) ∧ Aside0 (Kd.R k64 64 w' w.heap.size (fun _ => True) v8 x8_2) ∧ Aside0 (w'.heap[gb289]? = some (.cells #[.int .i64 a1_0, .int .i64 a1_1] 51 (0, 0))) ∧ Aside0 (Below w.heap.size w w'))
         case atStart => exact ⟨(x8_1), (0), (by first | rfl | (simp; done) | (simp [*]; done)), H', ⟨Nat.le_refl _⟩, ⟨by (with_reducible repeat (first | apply Kd.R_alloc | apply Kd.R_drewN | apply Kd.R_drew)); exact HO_8.out⟩, ⟨by (with_reducible repeat (first | refine blk_drewN ?_ _ | refine blk_drew ?_ | refine blk_alloc ?_ _)); exact BK289.out⟩, ⟨by repeat (first | (with_reducible first | exact HB.out | apply below_alloc | apply pw_below_drewN | apply below_drew1 | refine below_set ?_ GE289.out) | exact HB.out)⟩⟩
         case round =>
          clear H'
          (try clear c1); (try clear c2); (try clear p2); (try clear c4); (try clear c4b0); (try clear c4b1); (try clear c5); (try clear c5b0); (try clear c5b1); (try clear c10); (try clear c10b0); (try clear c10b1); (try clear c16); (try clear c16b0); (try clear hczxc00c1); (try clear hczxc00c2); (try clear hczx42821); (try clear hczx42822); (try clear hczzc1); (try clear hczzc2); (try clear hfzxc00c1); (try clear hfzxc00c2); (try clear hfzx42821); (try clear hfzx42822); (try clear hfzzc1); (try clear hfzzc2); (try clear p2)
          obtain ⟨x8_2, x33_2, rfl, HA, HK2, HO_8, BK289, HB⟩ := hrel
          cases gk with
          | zero => exact absurd HA.out (by simp [probe_All.l1])
          | succ k2 =>
           have H := HA.out; clear HA; simp only [probe_All.l1] at H; refine Or.elim (Classical.em (x33_2 < x29_1)) (fun c17 => ?p6_) (fun c17 => ?n6_)
           case' p6_ =>
            rw [if_pos c17] at H; have c17b0 : decide (x33_2 < x29_1) = true := decide_eq_true c17; clear c17; refine Or.elim (Classical.em (0 ≤ x33_2)) (fun c18 => ?p7_) (fun c18 => ?n7_)
            case' p7_ =>
             rw [if_pos c18] at H; have c18b0 : decide (0 ≤ x33_2) = true := decide_eq_true c18; clear c18; refine Or.elim (Classical.em (x33_2 < (l0.length : Int))) (fun c19 => ?p8_) (fun c19 => ?n8_)
             case' p8_ =>
              rw [if_pos c19] at H; have c19b0 : decide (x33_2 < (l0.length : Int)) = true := decide_eq_true c19; clear c19; refine Or.elim (Classical.em (0 ≤ x29_1)) (fun c20 => ?p9_) (fun c20 => ?n9_)
              case' p9_ =>
               rw [if_pos c20] at H; have c20b0 : decide (0 ≤ x29_1) = true := decide_eq_true c20; clear c20; refine Or.elim (Classical.em (x29_1 < (l0.length : Int))) (fun c21 => ?p10_) (fun c21 => ?n10_)
               case' p10_ =>
                rw [if_pos c21] at H; have c21b0 : decide (x29_1 < (l0.length : Int)) = true := decide_eq_true c21; clear c21; replace H := Option.bind_eq_some_iff.mp H; obtain ⟨t295, A220, H⟩ := H; replace H : (probe_All.l2 k2 l0 x8_2 x29_1 x33_2 (l0.length : Int) x29_1 x29_1 x33_2 t295 (t295.length : Int) 0 a1_0 a1_1) = some (r1, r2) := H; have A22 := Aside0.mk A220; clear A220; have hm5_0 := Aside0.mk trivial
               case' n10_ =>
                rw [if_neg c21] at H; exact absurd H (by simp)
              case' n9_ =>
               rw [if_neg c20] at H; exact absurd H (by simp)
             case' n8_ =>
              rw [if_neg c19] at H; exact absurd H (by simp)
            case' n7_ =>
             rw [if_neg c18] at H; exact absurd H (by simp)
           case' n6_ =>
            rw [if_neg c17] at H; have c17b0 : decide (x33_2 < x29_1) = false := decide_eq_false c17; clear c17; have hm5_1 := Aside0.mk trivial
           all_goals
            have H' := Aside0.mk H; clear H
            first
             | clear hm5_0
               try go_wp2
               have n0_ := Aside0.mk (Kd.R_drew HO_8.out); have n1_ := Aside0.mk (blk_drew BK289.out); have n2_ := Aside0.mk (below_drew1 HB.out); clear HO_8; clear BK289; clear HB; have HO_8 := n0_; have BK289 := n1_; have HB := n2_; clear n0_ n1_ n2_
               have p293 : 0 ≤ (x33_2 : Int) := of_decide_eq_true (by first | (with_reducible assumption) | assumption)
               have q293 : x33_2 < (l0.length : Int) := of_decide_eq_true (by first | (with_reducible assumption) | assumption)
               obtain ⟨ad293, A293_0, c293_0, e293, hx293_0, hl293_0, hi293_0⟩ := at_L4 HR0.out x33_2 p293 q293; have hw293_0 := hx293_0; cases e293; replace hx293_0 := cl HB hx293_0; have HR293_0 := Aside0.mk hi293_0; have HC293_0 := Aside0.mk hl293_0; clear hi293_0 hl293_0; replace p293 := eq_true p293; replace q293 := eq_true q293
               have p294 : 0 ≤ (x29_1 : Int) := of_decide_eq_true (by first | (with_reducible assumption) | assumption)
               have q294 : x29_1 < (l0.length : Int) := of_decide_eq_true (by first | (with_reducible assumption) | assumption)
               obtain ⟨ad294, A294_0, c294_0, e294, hx294_0, hl294_0, hi294_0⟩ := at_L4 HR0.out x29_1 p294 q294; have hw294_0 := hx294_0; obtain rfl : ad293 = ad294 := (by injection e294); replace hx294_0 := cl HB hx294_0; have HR294_0 := Aside0.mk hi294_0; have HC294_0 := Aside0.mk hl294_0; clear hi294_0 hl294_0; replace p294 := eq_true p294; replace q294 := eq_true q294; refine start_ (n := 12) (S := fun w' => w'.cell? ⟨gb289, 0, none⟩ = some (.int .i64 a1_0) ∧ w'.cell? ⟨gb289, 1, none⟩ = some (.int .i64 a1_1) ∧ w'.cell? (ad293.add (x33_2).toNat) = some (.slice A293_0 (rd_L4 l0 x33_2).length c293_0) ∧ w'.cell? (ad293.add (x29_1).toNat) = some (.slice A294_0 (rd_L4 l0 x29_1).length c294_0)) (ds := []) #[false, false, false, false, false, false, false, false, false, false, false, false] (by kernel_rfl) rfl rfl ⟨bc BK289 0, bc BK289 1, (cl HB hw293_0), (cl HB hw294_0)⟩ (fun hHeld => ?_); refine with_tabW probe_All.tab16 probe_All.bits16 (fun HT_ HW_ => ?_); generalize wr.drew = wze1 at HO_8 BK289 HB HR293_0 HR294_0 hx293_0 hx294_0 hHeld ⊢; refine pu_ 0 36 HT_ (h := ?_); refine pu_ 1 37 HT_ (h := ?_); refine pu_ 2 38 HT_ (h := ?_); refine pu_ 4 40 HT_ (h := ?_); refine pu_ 5 41 HT_ (h := ?_); refine pu_ 6 42 HT_ (h := ?_); refine pu_ 11 47 HT_ (h := ?_); refine tk_ 3 39 HT_ HW_ hHeld (h := ?_); refine tk_ 7 43 HT_ HW_ hHeld (h := ?_); refine tk_ 8 44 HT_ HW_ hHeld (h := ?_); refine one_ (i := 9) (N := some 45) #[true, true, true, true, true, true, true, true, true, true, false, true] rfl rfl (one_of HT_.out (by kernel_rfl)) (by decide) (fun K hK => ?_); refine goes_ Try.func46 (by kernel_rfl) rfl #[.slice A293_0 (rd_L4 l0 x33_2).length c293_0, .slice A294_0 (rd_L4 l0 x29_1).length c294_0, .agg #[.int .i64 a1_0, .int .i64 a1_1]] (by rfl) rfl rfl any_s ?_; with_reducible refine (probe_pair.calls k2 _ _ (rd_L4 l0 x33_2) _ _ (rd_L4 l0 x29_1) a1_0 a1_1 t295 _ ?side1 ?side2 ?side3 ?side4 A22.out).mono ?_
               (case side1 => exact cb_s (Kd.C_below HR293_0.out HB.out))
               (case side2 => exact HC293_0.out)
               (case side3 => exact cb_s (Kd.C_below HR294_0.out HB.out))
               (case side4 => exact HC294_0.out)
               rintro e wze2 ⟨v296, rfl, hoze1, hb⟩; refine ⟨_, rfl, ?_⟩; have n0_ := Aside0.mk (Kd.R_below (by (with_reducible repeat (first | apply Kd.R_alloc | apply Kd.R_drewN | apply Kd.R_drew)); exact HO_8.out) hb); have n1_ := Aside0.mk (Kd.R_lower hoze1 bz_s); have n2_ := kp BK289 hb; have n3_ := st HB hb; clear HO_8; clear BK289; clear HB; have HO_8 := n0_; have HO297 := n1_; have BK289 := n2_; have HB := n3_; clear n0_ n1_ n2_ n3_
               (try clear hb)
               (try clear hb2)
               (try clear hk)
               (try clear hi)
               (try clear hoze1)
               obtain ⟨Aoze1, coze1, eoze1⟩ := Kd.R_slice HO297.out
               (first | subst eoze1 | (injection eoze1 with f1_ f2_ f3_; have f4_ := f1_.symm; have f5_ := f3_.symm; clear f1_ f2_ f3_; subst f4_; subst f5_))
               refine hK.out _ _ ⟨bc BK289 0, bc BK289 1, (cl HB hw293_0), (cl HB hw294_0)⟩ (fun hHeld => ?_); clear hK K; refine norm_ (a' := ?_) ?_ ?_; rotate_left
               · show Act.put _ (some 45) _ = _; simp only [Act.put, List.setIfInBounds_toArray, List.set_cons_zero, List.set_cons_succ, i64_w, i32_w]; rfl
               refine pu_ 10 46 HT_ (h := ?_); refine done_ (done_of HT_.out (by kernel_rfl)) ?_
               try go_wp2
               go_loopg [8, 47] k2 (fun kq v8 v47 w' => ∃ (x8_3 : List (S64)) (x47_3 : Int), v47 = .int .i64 x47_3 ∧ Aside0 (probe_All.l2 kq l0 x8_3 x29_1 x33_2 (l0.length : Int) x29_1 x29_1 x33_2 t295 (t295.length : Int) x47_3 a1_0 a1_1 = some (r1, r2)) ∧ Aside0 (kq ≤ k2) ∧ Aside0 (Kd.R k64 64 w' w.heap.size (fun _ => True) v8 x8_3) ∧ Aside0 (Kd.R k62 62 w' w.heap.size (fun _ => True) (.slice Aoze1 t295.length coze1) t295) ∧ Aside0 (w'.heap[gb289]? = some (.cells #[.int .i64 a1_0, .int .i64 a1_1] 51 (0, 0))) ∧ Aside0 (Below w.heap.size w w'))
               case atStart => exact ⟨(x8_2), (0), (by first | rfl | (simp; done) | (simp [*]; done)), H', ⟨Nat.le_refl _⟩, ⟨by (with_reducible repeat (first | apply Kd.R_alloc | apply Kd.R_drewN | apply Kd.R_drew)); exact HO_8.out⟩, ⟨by (with_reducible repeat (first | apply Kd.R_alloc | apply Kd.R_drewN | apply Kd.R_drew)); exact HO297.out⟩, ⟨by (with_reducible repeat (first | refine blk_drewN ?_ _ | refine blk_drew ?_ | refine blk_alloc ?_ _)); exact BK289.out⟩, ⟨by repeat (first | (with_reducible first | exact HB.out | apply below_alloc | apply pw_below_drewN | apply below_drew1 | refine below_set ?_ GE289.out) | exact HB.out)⟩⟩
               case round =>
                clear H'
                (try clear c1); (try clear c2); (try clear p2); (try clear q2); (try clear hx2); (try clear c4); (try clear c4b0); (try clear c4b1); (try clear c5); (try clear c5b0); (try clear c5b1); (try clear c10); (try clear c10b0); (try clear c10b1); (try clear c16); (try clear c16b0); (try clear c17); (try clear c17b0); (try clear c18); (try clear c18b0); (try clear c19); (try clear c19b0); (try clear c20); (try clear c20b0); (try clear c21); (try clear c21b0); (try clear c22); (try clear hczxc00c1); (try clear hczxc00c2); (try clear hczx42821); (try clear hczx42822); (try clear hczze1); (try clear hczze2); (try clear hfzxc00c1); (try clear hfzxc00c2); (try clear hfzx42821); (try clear hfzx42822); (try clear hfzze1); (try clear hfzze2); (try clear hx293_0)
                (try clear hx294_0); (try clear p2); (try clear p293); (try clear p294); (try clear q293); (try clear q294)
                obtain ⟨x8_3, x47_3, rfl, HA, HK3, HO_8, HO_45, BK289, HB⟩ := hrel
                cases gk with
                | zero => exact absurd HA.out (by simp [probe_All.l2])
                | succ k3 =>
                 have H := HA.out; clear HA; simp only [probe_All.l2] at H; refine Or.elim (Classical.em (x47_3 < (t295.length : Int))) (fun c26 => ?p12_) (fun c26 => ?n12_)
                 case' p12_ =>
                  rw [if_pos c26] at H; have c26b0 : decide (x47_3 < (t295.length : Int)) = true := decide_eq_true c26; clear c26; refine Or.elim (Classical.em (0 ≤ x47_3)) (fun c27 => ?p13_) (fun c27 => ?n13_)
                  case' p13_ =>
                   rw [if_pos c27] at H; have c27b0 : decide (0 ≤ x47_3) = true := decide_eq_true c27; clear c27; refine Or.elim (Classical.em (x47_3 < (t295.length : Int))) (fun c28 => ?p14_) (fun c28 => ?n14_)
                   case' p14_ =>
                    rw [if_pos c28] at H; have c28b0 : decide (x47_3 < (t295.length : Int)) = true := decide_eq_true c28; clear c28; refine Or.elim (Classical.em (x8_3.length < 4398046511104)) (fun c29 => ?p15_) (fun c29 => ?n15_)
                    case' p15_ =>
                     rw [if_pos c29] at H; have LMc29 := Aside0.mk c29; clear c29; obtain ⟨y300, hy300⟩ : ∃ y_ : List (S64), y_ = (x8_3 ++ [(⟨x33_2, x29_1, (rd_T62 t295 x47_3).f0, wrap64 (((rd_T62 t295 x47_3).f1) - 1)⟩ : S64)]) := ⟨_, rfl⟩
                     replace H : (probe_All.l2 k3 l0 y300 x29_1 x33_2 (l0.length : Int) x29_1 x29_1 x33_2 t295 (t295.length : Int) (wrap64 (x47_3 + 1)) a1_0 a1_1) = some (r1, r2) := by first | (rw [hy300]; with_reducible exact H) | (have H2_ := (Option.bind_some _ _).symm.trans H; rw [hy300]; with_reducible exact H2_) | (have H2_ := (Option.bind_some _ _).symm.trans H; with_reducible exact H2_) | with_reducible exact H | (rw [hy300]; exact H) | exact H
                     have Ny300 := Aside0.mk hy300; clear hy300; have hm11_0 := Aside0.mk trivial
                    case' n15_ =>
                     rw [if_neg c29] at H; exact absurd H (by simp)
                   case' n14_ =>
                    rw [if_neg c28] at H; exact absurd H (by simp)
                  case' n13_ =>
                   rw [if_neg c27] at H; exact absurd H (by simp)
                 case' n12_ =>
                  rw [if_neg c26] at H; have c26b0 : decide (x47_3 < (t295.length : Int)) = false := decide_eq_false c26; clear c26; have hm11_1 := Aside0.mk trivial
                 all_goals
                  have H' := Aside0.mk H; clear H
                  first
                   | clear hm11_0
                     have p298 : 0 ≤ (x47_3 : Int) := of_decide_eq_true (by first | (with_reducible assumption) | assumption)
                     have q298 : x47_3 < (t295.length : Int) := of_decide_eq_true (by first | (with_reducible assumption) | assumption)
                     obtain ⟨ad298, e298, hx298_0, hx298_1⟩ := at_T62 (Kd.R_reads' HO_45.out).2.2 x47_3 p298 q298; cases e298; replace p298 := eq_true p298; replace q298 := eq_true q298
                     go_wp2_with (first | ((with_reducible refine gate_dst (N := 12) rfl ?_); refine box_s #[.int .i64 0, .int .i64 0] 62 ?_; intro gb299 hg wx5ce91 hbox hb; have n0_ := Aside0.mk (Kd.R_below (by (with_reducible repeat (first | apply Kd.R_alloc | apply Kd.R_drewN | apply Kd.R_drew)); exact HO_8.out) hb); have n1_ := Aside0.mk (Kd.R_below (Kd.R_elderB (by (with_reducible repeat (first | apply Kd.R_alloc | apply Kd.R_drewN | apply Kd.R_drew)); exact HO_45.out) gb299 (Nat.le_of_eq hg.symm)) hb); have n2_ := kp BK289 hb; have n3_ := st HB hb; have n4_ := Aside0.mk (hbox); have n5_ := ge HB hg; have n6_ := ge HB hg; have n7_ := nl BK289 hg; have n8_ := nr BK289 hg; clear HO_8; clear HO_45; clear BK289; clear HB; have HO_8 := n0_; have HO_45 := n1_; have BK289 := n2_; have HB := n3_; have BK299 := n4_; have GW299 := n5_; have GE299 := n6_; have NB289_299 := n7_; have NB299_289 := n8_; clear n0_ n1_ n2_ n3_ n4_ n5_ n6_ n7_ n8_; clear hb hbox hg; have hnbx5ce91 := NB299_289.out; have hncx5ce91 := NB289_299.out; have hczx5ce91 : wx5ce91.cell? ⟨gb299, 0, none⟩ = some (.int .i64 0) := bc BK299 0; have hczx5ce92 : wx5ce91.cell? ⟨gb299, 1, none⟩ = some (.int .i64 0) := bc BK299 1; have hfzx5ce91 := blk_frozen BK299.out 0; have hfzx5ce92 := blk_frozen BK299.out 1) | ((with_reducible refine gate_builtin (b := .append) (xs := #[.tmp 51, .tmp 60]) rfl ?_); at_builtin; refine Kd.R_append k64 (w0 := w) w.heap.size rfl (.tmp 51) (.tmp 60) 53 64 (.agg #[(.int .i64 0), (.int .i64 0), (.int .i64 0), (.int .i64 0)]) 32 rfl Try.underlying53 info64 rfl (by decide) (by omega) u8 x8_3 (⟨x33_2, x29_1, (rd_T62 t295 x47_3).f0, wrap64 (((rd_T62 t295 x47_3).f1) - 1)⟩ : S64) [.int .i64 x33_2, .int .i64 x29_1, .int .i64 ((rd_T62 t295 x47_3).f0), .int .i64 (wrap64 (((rd_T62 t295 x47_3).f1) - 1))] (fun _ => True) (fun _ => False) rfl (by first | (go_simp; done) | (go_simp; rfl)) ?aP (fun _ hk => hk.elim) ?aF ?aO ?aB ?aS ?aL ?_; (case aP => exact k64_mkM _ _ _ (⟨x33_2, x29_1, (rd_T62 t295 x47_3).f0, wrap64 (((rd_T62 t295 x47_3).f1) - 1)⟩ : S64)); (case aB => exact bel_s); (case aF => exact (fun _ _ => trivial)); (case aO => exact (by (with_reducible repeat (first | apply Kd.R_alloc | apply Kd.R_drewN | apply Kd.R_drew)); exact Kd.R_mono (Kd.R_far (p := ⟨gb299, 1, none⟩) (Kd.R_far (p := ⟨gb299, 0, none⟩) (Kd.R_types HO_8.out BK299.out (by decide)) (fun _ hk => hk.2) (.int .i64 ((rd_T62 t295 x47_3).f0))) (fun _ hk => hk.2) (.int .i64 ((rd_T62 t295 x47_3).f1))) (fun _ hk => trivial))); (case aS => exact bz_s); (case aL => have := LMc29.out; omega); intro v301 wx63b61 ho hb hg hat; rw [← Ny300.out] at ho; have n0_ := Aside0.mk (Kd.R_over' (by (with_reducible repeat (first | apply Kd.R_alloc | apply Kd.R_drewN | apply Kd.R_drew)); exact (Kd.R_mono (Kd.R_far (p := ⟨gb299, 1, none⟩) (Kd.R_far (p := ⟨gb299, 0, none⟩) (Kd.R_mono HO_45.out (fun k_ hk => (⟨hk, hk.2⟩ : _ ∧ k_ ≠ gb299))) (fun _ hk => hk.2) (.int .i64 ((rd_T62 t295 x47_3).f0))) (fun _ hk => hk.2) (.int .i64 ((rd_T62 t295 x47_3).f1))) (fun _ h_ => h_.1))) (Kd.R_typed (by (with_reducible repeat (first | apply Kd.R_alloc | apply Kd.R_drewN | apply Kd.R_drew)); exact (Kd.R_mono (Kd.R_far (p := ⟨gb299, 1, none⟩) (Kd.R_far (p := ⟨gb299, 0, none⟩) (Kd.R_types HO_8.out BK299.out (by decide)) (fun _ hk => hk.2) (.int .i64 ((rd_T62 t295 x47_3).f0))) (fun _ hk => hk.2) (.int .i64 ((rd_T62 t295 x47_3).f1))) (fun _ h_ => h_.1)))) (by decide) hg); have n1_ := Aside0.mk (blk_grown (g := gb289) (o := .cells #[.int .i64 a1_0, .int .i64 a1_1] 51 (0, 0)) blk_s hg (Kd.R_ne HO_8.out BK289.out (by decide))); have n2_ := Aside0.mk (blk_grown (g := gb299) (o := .cells #[.int .i64 ((rd_T62 t295 x47_3).f0), .int .i64 ((rd_T62 t295 x47_3).f1)] 62 (0, 0)) (by (with_reducible repeat (first | refine blk_drewN ?_ _ | refine blk_drew ?_ | refine blk_alloc ?_ _)); refine blk_put (cs := #[.int .i64 ((rd_T62 t295 x47_3).f0), .int .i64 0]) ?_ 1 _ rfl; (with_reducible repeat (first | refine blk_drewN ?_ _ | refine blk_drew ?_ | refine blk_alloc ?_ _)); refine blk_put (cs := #[.int .i64 0, .int .i64 0]) ?_ 0 _ rfl; (with_reducible repeat (first | refine blk_drewN ?_ _ | refine blk_drew ?_ | refine blk_alloc ?_ _)); exact BK299.out) hg (Kd.R_ne HO_8.out BK299.out (by decide))); have n3_ := Aside0.mk (hb); have n4_ := Aside0.mk (ho); clear HO_45; clear BK289; clear BK299; clear HB; clear HO_8; have HO_45 := n0_; have BK289 := n1_; have BK299 := n2_; have HB := n3_; have HO302 := n4_; clear n0_ n1_ n2_ n3_ n4_; clear ho hb hg hat))
                     go_roundg k3
                     case measure => have := HK1.out; have := HK2.out; have := HK3.out; omega
                     case rel => exact ⟨(y300), (wrap64 (x47_3 + 1)), (by first | rfl | (simp; done) | (simp [*]; done)), H', ⟨by have := HK1.out; have := HK2.out; have := HK3.out; omega⟩, ⟨by (with_reducible repeat (first | apply Kd.R_alloc | apply Kd.R_drewN | apply Kd.R_drew)); exact HO302.out⟩, ⟨by (with_reducible repeat (first | apply Kd.R_alloc | apply Kd.R_drewN | apply Kd.R_drew)); exact Kd.R_mono HO_45.out (fun _ hk => trivial)⟩, ⟨by (with_reducible repeat (first | refine blk_drewN ?_ _ | refine blk_drew ?_ | refine blk_alloc ?_ _)); exact BK289.out⟩, ⟨by repeat (first | (with_reducible first | exact HB.out | apply below_alloc | apply pw_below_drewN | apply below_drew1 | refine below_set ?_ GE289.out | refine below_set ?_ GE299.out) | exact HB.out)⟩⟩
                   | clear hm11_1; go_wp2; go_roundg k3
                     case measure => have := HK1.out; have := HK2.out; have := HK3.out; omega
                     case rel => exact ⟨(x8_3), (wrap64 (x33_2 + 1)), (by first | rfl | (simp; done) | (simp [*]; done)), H', ⟨by have := HK1.out; have := HK2.out; have := HK3.out; omega⟩, ⟨by (with_reducible repeat (first | apply Kd.R_alloc | apply Kd.R_drewN | apply Kd.R_drew)); exact HO_8.out⟩, ⟨by (with_reducible repeat (first | refine blk_drewN ?_ _ | refine blk_drew ?_ | refine blk_alloc ?_ _)); exact BK289.out⟩, ⟨by repeat (first | (with_reducible first | exact HB.out | apply below_alloc | apply pw_below_drewN | apply below_drew1 | refine below_set ?_ GE289.out) | exact HB.out)⟩⟩
             | clear hm5_1; go_wp2; go_roundg k2
               case measure => have := HK1.out; have := HK2.out; omega
               case rel => exact ⟨(x8_2), (wrap64 (x29_1 + 1)), (by first | rfl | (simp; done) | (simp [*]; done)), H', ⟨by have := HK1.out; have := HK2.out; omega⟩, ⟨by (with_reducible repeat (first | apply Kd.R_alloc | apply Kd.R_drewN | apply Kd.R_drew)); exact HO_8.out⟩, ⟨by (with_reducible repeat (first | refine blk_drewN ?_ _ | refine blk_drew ?_ | refine blk_alloc ?_ _)); exact BK289.out⟩, ⟨by repeat (first | (with_reducible first | exact HB.out | apply below_alloc | apply pw_below_drewN | apply below_drew1 | refine below_set ?_ GE289.out) | exact HB.out)⟩⟩
       · rw [if_neg c16] at H; have c16b0 : decide (x29_1 < (l0.length : Int)) = false := decide_eq_false c16; clear c16
         by_cases c34 : (x8_1.length : Int) > 256
         · rw [if_pos c34] at H; have c34b0 : decide (256 < (x8_1.length : Int)) = true := decide_eq_true c34; have c34b1 : decide (256 < x8_1.length) = true := decide_eq_true (by omega); clear c34; simp only [Option.some.injEq, Prod.mk.injEq] at H; obtain ⟨rfl, rfl⟩ := H; obtain ⟨Aoza2, coza2, eoza2⟩ := Kd.R_slice HO_8.out; subst eoza2; go_wp2; go_ret2
           exact ⟨_, by first | rfl | (simp [errW_none, errW_some] <;> rfl) | (simp [*, errW_none, errW_some] <;> rfl), by first | exact Kd.R_nil _ _ _ _ _ | exact Kd.N_nil _ _ _ _ _ | exact Kd.V_nil _ _ _ _ _ | exact Kd.Q_nil _ _ _ _ _ | exact Kd.S_nil _ _ _ _ _, by repeat (first | (with_reducible first | exact HB.out | apply below_alloc | apply pw_below_drewN | apply below_drew1 | refine below_set ?_ GE289.out) | exact HB.out)⟩
         · rw [if_neg c34] at H; have c34b0 : decide (256 < (x8_1.length : Int)) = false := decide_eq_false c34; have c34b1 : decide (256 < x8_1.length) = false := decide_eq_false (by omega); clear c34; replace H := Option.bind_eq_some_iff.mp H; obtain ⟨t292, A360, H⟩ := H; replace H : (some (t292, 0)) = some (r1, r2) := H; have A36 := Aside0.mk A360; clear A360; simp only [Option.some.injEq, Prod.mk.injEq] at H; obtain ⟨rfl, rfl⟩ := H; obtain ⟨Aoza3, coza3, eoza3⟩ := Kd.R_slice HO_8.out; subst eoza3
           go_wp2_with (first | ((with_reducible refine gate_callee (f := 47) rfl ?_); refine goesL_ (some 69) rfl rfl Try.func47 (by kernel_rfl) rfl #[.slice Aoza3 x8_1.length coza3, .func (.func 48) #[] #[]] rfl any_s ?_; (with_reducible refine (api_Clash.calls (fun k_ => some k_ = (.slice Aoza3 x8_1.length coza3 : Value).ownBlock) (.slice Aoza3 x8_1.length coza3) x8_1 () t292 w _ ?side1 ?side2 A36.out).mono ?_); (case side1 => repeat (first | (with_reducible first | exact HB.out | apply below_alloc | apply pw_below_drewN | apply below_drew1 | refine below_set ?_ GE289.out) | exact HB.out)); (case side2 => exact Kd.R_tight rfl HO_8.out); rintro e wx4a4a1 ⟨rfl, hy0, hb, hkp⟩; refine ⟨_, rfl, ?_⟩; have n0_ := Aside0.mk (Kd.R_reok rfl hy0 (fun k_ e_ => HO_8.out.1 k_ e_)); have n1_ := Aside0.mk (blk_kept blk_s hkp (fun hs_ => (fun e_ => (Kd.R_ne HO_8.out BK289.out (by decide)) e_) hs_)); have n2_ := Aside0.mk (hb); clear HO_8; clear BK289; clear HB; have HO_8 := n0_; have BK289 := n1_; have HB := n2_; clear n0_ n1_ n2_; (try clear hb); (try clear hkp); (try clear hy0)))
           go_ret2
           exact ⟨_, by first | rfl | (simp [errW_none, errW_some] <;> rfl) | (simp [*, errW_none, errW_some] <;> rfl), by (with_reducible repeat (first | apply Kd.R_alloc | apply Kd.R_drewN | apply Kd.R_drew)); exact HO_8.out, by repeat (first | (with_reducible first | exact HB.out | apply below_alloc | apply pw_below_drewN | apply below_drew1 | refine below_set ?_ GE289.out) | exact HB.out)⟩

/-! ### probe_Pair: function 23 -/
def probe_Pair.f (k : Nat) (l0 : List (S95)) (l1 : List (S95)) (a2_0 : Int) (a2_1 : Int) : Option ((List (S62)) × Int) := (probe_check.f k a2_0 a2_1 (([l0, l1] : List (List (S95))))).bind fun t307 => (if t307 = 0 then ((probe_pair.f k l0 l1 a2_0 a2_1).bind fun t308 => (some (t308, 0))) else (some (([] : List (S62)), t307)))
theorem probe_Pair.mono : ∀ a0 a1 a2 a3 k, LeO (probe_Pair.f k a0 a1 a2 a3) (probe_Pair.f (k + 1) a0 a1 a2 a3) := by
  intro a0 a1 a2 a3 k; unfold probe_Pair.f
  repeat' first
      | (with_reducible exact probe_check.mono _ _ _ _)
      | (with_reducible exact probe_pair.mono _ _ _ _ _)
      | (with_reducible exact LeO.refl _)
      | (with_reducible exact LeO.none _)
      | (with_reducible refine LeO.ite ?_ ?_)
      | (with_reducible refine LeO.bind ?_ (fun _ => ?_))
      | exact probe_check.mono _ _ _ _
      | exact probe_pair.mono _ _ _ _ _
      | exact LeO.none _
      | refine LeO.ite ?_ ?_
      | refine LeO.bind ?_ (fun _ => ?_)
set_option maxHeartbeats 8000000 in
set_option maxRecDepth 100000 in
theorem probe_Pair.calls (k : Nat) (P0_ : Nat → Prop) (A0 : Option Addr) (c0 : Nat) (l0 : List (S95)) (P1_ : Nat → Prop) (A1 : Option Addr) (c1 : Nat) (l1 : List (S95)) (a2_0 : Int) (a2_1 : Int) (r1 : List (S62)) (r2 : Int) (w : World) (hs0 : Kd.V k95 95 w w.heap.size (fun k_ => P0_ k_) (.slice A0 l0.length c0) l0) (hs1 : Kd.V k95 95 w w.heap.size (fun k_ => P1_ k_) (.slice A1 l1.length c1) l1) (h : probe_Pair.f k l0 l1 a2_0 a2_1 = some (r1, r2)) :
    Calls Try.prog 23 #[.slice A0 l0.length c0, .slice A1 l1.length c1, .agg #[.int .i64 a2_0, .int .i64 a2_1]] w fun e w' => ∃ v0_ : Value, e = .returned (.tuple #[v0_, .int .i64 r2]) ∧ Kd.R k62 62 w' w.heap.size (fun k_ => (w.heap.size ≤ k_)) v0_ r1 ∧ Below w.heap.size w w' := by
 have hu51 := Try.underlying51; have HO0 := Aside0.mk (show Kd.V k95 95 w w.heap.size (fun k_ => ((P0_ k_ ∨ P1_ k_) ∨ w.heap.size ≤ k_)) (.slice A0 l0.length c0) l0 from Kd.V_mono hs0 (fun k_ hk => .inl (.inl hk))); have HO1 := Aside0.mk (show Kd.V k95 95 w w.heap.size (fun k_ => ((P0_ k_ ∨ P1_ k_) ∨ w.heap.size ≤ k_)) (.slice A1 l1.length c1) l1 from Kd.V_mono hs1 (fun k_ hk => .inl (.inr hk))); have HB := Aside0.mk (Below.refl w.heap.size w); have H : ((probe_check.f k a2_0 a2_1 (([l0, l1] : List (List (S95))))).bind fun t307 => (if t307 = 0 then ((probe_pair.f k l0 l1 a2_0 a2_1).bind fun t308 => (some (t308, 0))) else (some (([] : List (S62)), t307)))) = some (r1, r2) := h; clear h; obtain ⟨y304, hy304⟩ : ∃ y_ : List (List (S95)), y_ = (([l0, l1] : List (List (S95)))) := ⟨_, rfl⟩
 replace H : ((probe_check.f k a2_0 a2_1 y304).bind fun t307 => (if t307 = 0 then ((probe_pair.f k l0 l1 a2_0 a2_1).bind fun t308 => (some (t308, 0))) else (some (([] : List (S62)), t307)))) = some (r1, r2) := by first | (rw [hy304]; with_reducible exact H) | (have H2_ := (Option.bind_some _ _).symm.trans H; rw [hy304]; with_reducible exact H2_) | (have H2_ := (Option.bind_some _ _).symm.trans H; with_reducible exact H2_) | with_reducible exact H | (rw [hy304]; exact H) | exact H
 have Ny304 := Aside0.mk hy304; clear hy304; replace H := Option.bind_eq_some_iff.mp H; obtain ⟨t307, A40, H⟩ := H; replace H : (if t307 = 0 then ((probe_pair.f k l0 l1 a2_0 a2_1).bind fun t308 => (some (t308, 0))) else (some (([] : List (S62)), t307))) = some (r1, r2) := H; have A4 := Aside0.mk A40; clear A40; refine Or.elim (Classical.em (t307 = 0)) (fun c5 => ?p2_) (fun c5 => ?n2_)
 case' p2_ =>
  rw [if_pos c5] at H; have c5b0 : (t307 == 0) = true := beq_iff_eq.mpr c5; have c5b1 : (t307 != 0) = false := bne_eq_false_iff_eq.mpr c5; clear c5; replace H := Option.bind_eq_some_iff.mp H; obtain ⟨t308, A60, H⟩ := H; replace H : (some (t308, 0)) = some (r1, r2) := H; have A6 := Aside0.mk A60; clear A60; simp only [Option.some.injEq, Prod.mk.injEq] at H; obtain ⟨rfl, rfl⟩ := H; have hm1_0 := Aside0.mk trivial
 case' n2_ =>
  rw [if_neg c5] at H; have c5b0 : (t307 == 0) = false := beq_eq_false_iff_ne.mpr c5; have c5b1 : (t307 != 0) = true := bne_iff_ne.mpr c5; simp only [Option.some.injEq, Prod.mk.injEq] at H; obtain ⟨rfl, rfl⟩ := H; have hm1_1 := Aside0.mk trivial
 all_goals
  go_enter Try.func23, Try.ntmps23
  go_wp2_with (first | ((with_reducible refine gate_dst (N := 5) rfl ?_); refine box_s #[.int .i64 a2_0, .int .i64 a2_1] 51 ?_; intro gb303 hg wx00031 hbox hb; have n0_ := Aside0.mk (Kd.V_below (Kd.V_elderB (by (with_reducible repeat (first | apply Kd.V_alloc | apply Kd.V_drewN | apply Kd.V_drew)); exact HO0.out) gb303 (Nat.le_of_eq hg.symm)) hb); have n1_ := Aside0.mk (Kd.V_below (Kd.V_elderB (by (with_reducible repeat (first | apply Kd.V_alloc | apply Kd.V_drewN | apply Kd.V_drew)); exact HO1.out) gb303 (Nat.le_of_eq hg.symm)) hb); have n2_ := st HB hb; have n3_ := Aside0.mk (hbox); have n4_ := ge HB hg; have n5_ := ge HB hg; clear HO0; clear HO1; clear HB; have HO0 := n0_; have HO1 := n1_; have HB := n2_; have BK303 := n3_; have GW303 := n4_; have GE303 := n5_; clear n0_ n1_ n2_ n3_ n4_ n5_; clear hb hbox hg; have hczx00031 : wx00031.cell? ⟨gb303, 0, none⟩ = some (.int .i64 a2_0) := bc BK303 0; have hczx00032 : wx00031.cell? ⟨gb303, 1, none⟩ = some (.int .i64 a2_1) := bc BK303 1; have hfzx00031 := blk_frozen BK303.out 0; have hfzx00032 := blk_frozen BK303.out 1) | ((with_reducible refine gate_dst (N := 12) rfl ?_); refine Kd.N_lit (Kd.slice 95 k95) _ 60 ?hg (N' := 12) ?hd (xs := ([l0, l1] : List (List (S95)))) (inner := [.slice A0 l0.length c0, .slice A1 l1.length c1]) (ok := (fun k_ => ((P0_ k_ ∨ P1_ k_) ∨ w.heap.size ≤ k_) ∧ k_ ≠ gb303)) (okp := (fun k_ => ((P0_ k_ ∨ P1_ k_) ∨ w.heap.size ≤ k_) ∧ k_ ≠ gb303)) ?hr ?hp (fun _ hk => hk) ((show ∀ k_, wx00031.heap.size ≤ k_ → (fun k_ => ((P0_ k_ ∨ P1_ k_) ∨ w.heap.size ≤ k_) ∧ k_ ≠ gb303) k_ from fun k_ hk => ⟨(.inr (Nat.le_trans bz_s hk)), Kd.freshB (g := gb303) (o := .cells #[.int .i64 a2_0, .int .i64 a2_1] 51 (0, 0)) blk_s k_ hk⟩) _ (Nat.le_refl _)) (Below.refl _ _) (Nat.le_refl _) (by simp) ?_; (case hd => rfl); (case hg => rfl); (case hr => first | (go_simp; done) | (go_simp; rfl)); (case hp => exact (Reps.one (show Kd.FK (Kd.slice 95 k95) _ _ l0 [.slice A0 l0.length c0] from (Kd.FK_slice_mk (Kd.V_reads' (Kd.V_mono (ok' := (fun k_ => ((P0_ k_ ∨ P1_ k_) ∨ w.heap.size ≤ k_) ∧ k_ ≠ gb303)) (HO0.out) (fun k_ hk => ⟨hk.1, hk.2⟩))).2.1 (Kd.V_F (Kd.V_mono (ok' := (fun k_ => ((P0_ k_ ∨ P1_ k_) ∨ w.heap.size ≤ k_) ∧ k_ ≠ gb303)) (HO0.out) (fun k_ hk => ⟨hk.1, hk.2⟩))))) (Reps.one (show Kd.FK (Kd.slice 95 k95) _ _ l1 [.slice A1 l1.length c1] from (Kd.FK_slice_mk (Kd.V_reads' (Kd.V_mono (ok' := (fun k_ => ((P0_ k_ ∨ P1_ k_) ∨ w.heap.size ≤ k_) ∧ k_ ≠ gb303)) (HO1.out) (fun k_ hk => ⟨hk.1, hk.2⟩))).2.1 (Kd.V_F (Kd.V_mono (ok' := (fun k_ => ((P0_ k_ ∨ P1_ k_) ∨ w.heap.size ≤ k_) ∧ k_ ≠ gb303)) (HO1.out) (fun k_ hk => ⟨hk.1, hk.2⟩))))) (Reps.none _ _)))); intro v305 wx97751 hox97751 hb hg_ hnew_; clear hg_ hnew_; (first | rw [← Ny304.out] at hox97751 | (simp only [Int.reduceToNat] at hox97751; rw [← Ny304.out] at hox97751)); have n0_ := Aside0.mk (Kd.V_elder' (by (with_reducible repeat (first | apply Kd.V_alloc | apply Kd.V_drewN | apply Kd.V_drew)); exact HO0.out) (Kd.N_base hox97751) hb); have n1_ := Aside0.mk (Kd.V_elder' (by (with_reducible repeat (first | apply Kd.V_alloc | apply Kd.V_drewN | apply Kd.V_drew)); exact HO1.out) (Kd.N_base hox97751) hb); have n2_ := Aside0.mk (Kd.N_lower hox97751 bz_s); have n3_ := kp BK303 hb; have n4_ := st HB hb; clear HO0; clear HO1; clear BK303; clear HB; have HO0 := n0_; have HO1 := n1_; have HO306 := n2_; have BK303 := n3_; have HB := n4_; clear n0_ n1_ n2_ n3_ n4_; clear hb hox97751; obtain ⟨Aox97751, cox97751, eox97751⟩ := Kd.N_slice HO306.out; subst eox97751) | ((with_reducible refine gate_callee (f := 45) rfl ?_); refine goesL_ (some 13) rfl rfl Try.func45 (by kernel_rfl) rfl #[.agg #[.int .i64 a2_0, .int .i64 a2_1], .slice Aox97751 y304.length cox97751] rfl any_s ?_; (with_reducible refine (probe_check.calls k a2_0 a2_1 _ _ y304 t307 _ ?side1 ?side2 A4.out).mono ?_); (case side1 => repeat (first | exact (Kd.N_reads' HO306.out).2.2 | (with_reducible refine Kd.C_alloc ?_ _) | (with_reducible refine Kd.C_drewN ?_ _) | (with_reducible refine Kd.C_drew ?_))); (case side2 => exact (Kd.N_reads' HO306.out).2.1); rintro e wxa11d1 ⟨rfl, hb⟩; refine ⟨_, rfl, ?_⟩; have n0_ := Aside0.mk (Kd.V_below (by (with_reducible repeat (first | apply Kd.V_alloc | apply Kd.V_drewN | apply Kd.V_drew)); exact HO0.out) hb); have n1_ := Aside0.mk (Kd.V_below (by (with_reducible repeat (first | apply Kd.V_alloc | apply Kd.V_drewN | apply Kd.V_drew)); exact HO1.out) hb); have n2_ := Aside0.mk (Kd.N_below (by (with_reducible repeat (first | apply Kd.N_alloc | apply Kd.N_drewN | apply Kd.N_drew)); exact HO306.out) hb); have n3_ := kp BK303 hb; have n4_ := st HB hb; clear HO0; clear HO1; clear HO306; clear BK303; clear HB; have HO0 := n0_; have HO1 := n1_; have HO306 := n2_; have BK303 := n3_; have HB := n4_; clear n0_ n1_ n2_ n3_ n4_; (try clear hb); (try clear hb2); (try clear hk); (try clear hi); have hczxa11d1 : wxa11d1.cell? ⟨gb303, 0, none⟩ = some (.int .i64 a2_0) := bc BK303 0; have hczxa11d2 : wxa11d1.cell? ⟨gb303, 1, none⟩ = some (.int .i64 a2_1) := bc BK303 1; have hfzxa11d1 := blk_frozen BK303.out 0; have hfzxa11d2 := blk_frozen BK303.out 1) | ((with_reducible refine gate_callee (f := 45) rfl ?_); refine goesL_ (some 13) rfl rfl Try.func45 (by kernel_rfl) rfl #[.agg #[.int .i64 a2_0, .int .i64 a2_1], .slice Aox97751 y304.length cox97751] rfl any_s ?_; (with_reducible refine (probe_check.calls k a2_0 a2_1 _ _ y304 t307 _ ?side1 ?side2 A4.out).mono ?_); (case side1 => repeat (first | exact (Kd.N_reads' HO306.out).2.2 | (with_reducible refine Kd.C_alloc ?_ _) | (with_reducible refine Kd.C_drewN ?_ _) | (with_reducible refine Kd.C_drew ?_))); (case side2 => exact (Kd.N_reads' HO306.out).2.1); rintro e wxb8251 ⟨rfl, hb⟩; refine ⟨_, rfl, ?_⟩; have n0_ := Aside0.mk (Kd.V_below (by (with_reducible repeat (first | apply Kd.V_alloc | apply Kd.V_drewN | apply Kd.V_drew)); exact HO0.out) hb); have n1_ := Aside0.mk (Kd.V_below (by (with_reducible repeat (first | apply Kd.V_alloc | apply Kd.V_drewN | apply Kd.V_drew)); exact HO1.out) hb); have n2_ := Aside0.mk (Kd.N_below (by (with_reducible repeat (first | apply Kd.N_alloc | apply Kd.N_drewN | apply Kd.N_drew)); exact HO306.out) hb); have n3_ := kp BK303 hb; have n4_ := st HB hb; clear HO0; clear HO1; clear HO306; clear BK303; clear HB; have HO0 := n0_; have HO1 := n1_; have HO306 := n2_; have BK303 := n3_; have HB := n4_; clear n0_ n1_ n2_ n3_ n4_; (try clear hb); (try clear hb2); (try clear hk); (try clear hi)) | ((with_reducible refine gate_callee (f := 46) rfl ?_); refine goesL_ (some 20) rfl rfl Try.func46 (by kernel_rfl) rfl #[.slice A0 l0.length c0, .slice A1 l1.length c1, .agg #[.int .i64 a2_0, .int .i64 a2_1]] rfl any_s ?_; (with_reducible refine (probe_pair.calls k _ _ l0 _ _ l1 a2_0 a2_1 t308 _ ?side1 ?side2 ?side3 ?side4 A6.out).mono ?_); (case side1 => repeat (first | exact (Kd.V_reads' HO0.out).2.2 | (with_reducible refine Kd.C_alloc ?_ _) | (with_reducible refine Kd.C_drewN ?_ _) | (with_reducible refine Kd.C_drew ?_))); (case side2 => exact (Kd.V_reads' HO0.out).2.1); (case side3 => repeat (first | exact (Kd.V_reads' HO1.out).2.2 | (with_reducible refine Kd.C_alloc ?_ _) | (with_reducible refine Kd.C_drewN ?_ _) | (with_reducible refine Kd.C_drew ?_))); (case side4 => exact (Kd.V_reads' HO1.out).2.1); rintro e wx36d51 ⟨v309, rfl, hox36d51, hb⟩; refine ⟨_, rfl, ?_⟩; have n0_ := Aside0.mk (Kd.V_elder' (by (with_reducible repeat (first | apply Kd.V_alloc | apply Kd.V_drewN | apply Kd.V_drew)); exact HO0.out) (Kd.R_base hox36d51) hb); have n1_ := Aside0.mk (Kd.V_elder' (by (with_reducible repeat (first | apply Kd.V_alloc | apply Kd.V_drewN | apply Kd.V_drew)); exact HO1.out) (Kd.R_base hox36d51) hb); have n2_ := Aside0.mk (Kd.N_elder' (by (with_reducible repeat (first | apply Kd.N_alloc | apply Kd.N_drewN | apply Kd.N_drew)); exact HO306.out) (Kd.R_base hox36d51) hb); have n3_ := Aside0.mk (Kd.R_lower (Kd.R_newM (M := fun k_ => (w.heap.size ≤ k_)) hox36d51 bz_s (fun k_ h_ => h_)) bz_s); have n4_ := kp BK303 hb; have n5_ := st HB hb; clear HO0; clear HO1; clear HO306; clear BK303; clear HB; have HO0 := n0_; have HO1 := n1_; have HO306 := n2_; have HO310 := n3_; have BK303 := n4_; have HB := n5_; clear n0_ n1_ n2_ n3_ n4_ n5_; (try clear hb); (try clear hb2); (try clear hk); (try clear hi); (try clear hox36d51)))
  go_ret2
  first
   | clear hm1_0
     exact ⟨_, by first | rfl | (simp [errW_none, errW_some] <;> rfl) | (simp [*, errW_none, errW_some] <;> rfl), by (with_reducible repeat (first | apply Kd.R_alloc | apply Kd.R_drewN | apply Kd.R_drew)); exact Kd.R_mono HO310.out (fun _ hk => hk.1), by repeat (first | (with_reducible first | exact HB.out | apply below_alloc | apply pw_below_drewN | apply below_drew1 | refine below_set ?_ GE303.out) | exact HB.out)⟩
   | clear hm1_1
     exact ⟨_, by first | rfl | (simp [errW_none, errW_some] <;> rfl) | (simp [*, errW_none, errW_some] <;> rfl), by first | exact Kd.R_nil _ _ _ _ _ | exact Kd.N_nil _ _ _ _ _ | exact Kd.V_nil _ _ _ _ _ | exact Kd.Q_nil _ _ _ _ _ | exact Kd.S_nil _ _ _ _ _, by repeat (first | (with_reducible first | exact HB.out | apply below_alloc | apply pw_below_drewN | apply below_drew1 | refine below_set ?_ GE303.out) | exact HB.out)⟩

end Go.Proofs.Ythghilclgobpbaa.PProbeAll
