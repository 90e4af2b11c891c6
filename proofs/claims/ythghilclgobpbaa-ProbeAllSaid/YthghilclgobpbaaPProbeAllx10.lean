/- Made by a program of this session (wip/tools/myprint.py, over the kit's printer): that the Go functions answer as the Lean functions printed beside them. -/
import Derived.Test.YthghilclgobpbaaTSq2
import Derived.Test.YthghilclgobpbaaPProbeAllx0
import Derived.Test.YthghilclgobpbaaPProbeAllx1
import Derived.Test.YthghilclgobpbaaPProbeAllx6
import Derived.Test.YthghilclgobpbaaPProbeAllx9
namespace Go.Proofs.Ythghilclgobpbaa.PProbeAll
open Go.RowKit Go.Proofs.YthghilclgobpbaaW.PrintWords Go.Proofs.YthghilclgobpbaaW.PrintLast Go.Proofs.YthghilclgobpbaaW.PrintMore
attribute [local go_sem] max2_int min2_int max_two min_two max_three min_three max_four min_four   -- for this text's walks alone
set_option linter.unusedVariables false
set_option linter.unusedSimpArgs false

attribute [local go_sem high] eqA64
/-! ### skywaykeep1_ProbeAll: function 7 -/
mutual
def skywaykeep1_ProbeAll.l0 : Nat → List (List (S95)) → List (S64) → Int → Int → Int → Int → Int → Option (Bool)
  | 0, _, _, _, _, _, _, _ => none
  | k + 1, x0, x5, x7, x39, x40, x312000, x312001 => if x40 < x39 then (skywaykeep1_ProbeAll.l1 k x0 x5 x7 x40 x39 x40 x40 0 x312000 x312001) else (skywaykeep1_ProbeAll.l4 k x5 x7 1)
def skywaykeep1_ProbeAll.l1 : Nat → List (List (S95)) → List (S64) → Int → Int → Int → Int → Int → Int → Int → Int → Option (Bool)
  | 0, _, _, _, _, _, _, _, _, _, _ => none
  | k + 1, x0, x5, x7, x8, x39, x40, x43, x44, x312000, x312001 => if x44 < x43 then (if 0 ≤ x44 then (if x44 < (x0.length : Int) then (if 0 ≤ x8 then (if x8 < (x0.length : Int) then ((probe_Pair.f k (rd_L4 x0 x44) (rd_L4 x0 x8) x312000 x312001).bind fun bt324 => (if bt324.2 = 0 then (skywaykeep1_ProbeAll.l2 k x0 x5 (wrap64 (x7 + (bt324.1.length : Int))) x8 x44 x39 x40 x43 x44 bt324.1 (bt324.1.length : Int) 0 x312000 x312001) else (some false))) else (none)) else (none)) else (none)) else (none)) else (skywaykeep1_ProbeAll.l0 k x0 x5 x7 x39 (wrap64 (x40 + 1)) x312000 x312001)
def skywaykeep1_ProbeAll.l2 : Nat → List (List (S95)) → List (S64) → Int → Int → Int → Int → Int → Int → Int → List (S62) → Int → Int → Int → Int → Option (Bool)
  | 0, _, _, _, _, _, _, _, _, _, _, _, _, _, _ => none
  | k + 1, x0, x5, x7, x8, x9, x39, x40, x43, x44, x66, x67, x68, x312000, x312001 => if x68 < x67 then (if 0 ≤ x68 then (if x68 < (x66.length : Int) then (skywaykeep1_ProbeAll.l3 k x0 x5 x7 x8 x9 false x39 x40 x43 x44 x66 x67 x68 x5 (x5.length : Int) 0 x312000 x312001 ((rd_T62 x66 x68).f0) ((rd_T62 x66 x68).f1)) else (none)) else (none)) else (skywaykeep1_ProbeAll.l1 k x0 x5 x7 x8 x39 x40 x43 (wrap64 (x44 + 1)) x312000 x312001)
def skywaykeep1_ProbeAll.l3 : Nat → List (List (S95)) → List (S64) → Int → Int → Int → Bool → Int → Int → Int → Int → List (S62) → Int → Int → List (S64) → Int → Int → Int → Int → Int → Int → Option (Bool)
  | 0, _, _, _, _, _, _, _, _, _, _, _, _, _, _, _, _, _, _, _, _ => none
  | k + 1, x0, x5, x7, x8, x9, x14, x39, x40, x43, x44, x66, x67, x68, x72, x73, x74, x312000, x312001, x330000, x330001 => if x74 < x73 then (if 0 ≤ x74 then (if x74 < (x72.length : Int) then (if x14 = true then (skywaykeep1_ProbeAll.l3 k x0 x5 x7 x8 x9 true x39 x40 x43 x44 x66 x67 x68 x72 x73 (wrap64 (x74 + 1)) x312000 x312001 x330000 x330001) else (skywaykeep1_ProbeAll.l3 k x0 x5 x7 x8 x9 (((rd_T64 x72 x74).f0) == x9 && (((rd_T64 x72 x74).f1) == x8 && (((rd_T64 x72 x74).f2) == x330000 && (((rd_T64 x72 x74).f3) == (wrap64 (x330001 - 1)))))) x39 x40 x43 x44 x66 x67 x68 x72 x73 (wrap64 (x74 + 1)) x312000 x312001 x330000 x330001)) else (none)) else (none)) else (if x14 = true then (skywaykeep1_ProbeAll.l2 k x0 x5 x7 x8 x9 x39 x40 x43 x44 x66 x67 (wrap64 (x68 + 1)) x312000 x312001) else (some false))
def skywaykeep1_ProbeAll.l4 : Nat → List (S64) → Int → Int → Option (Bool)
  | 0, _, _, _ => none
  | k + 1, x5, x7, x17 => if x17 < (x5.length : Int) then (if 0 ≤ x17 then (if 0 ≤ (wrap64 (x17 - 1)) then (if (wrap64 (x17 - 1)) < (x5.length : Int) then (if ((rd_T64 x5 x17).f2) < ((rd_T64 x5 (wrap64 (x17 - 1))).f2) then (some false) else (skywaykeep1_ProbeAll.l4 k x5 x7 (wrap64 (x17 + 1)))) else (none)) else (none)) else (none)) else (some (x7 == (x5.length : Int)))
end
def skywaykeep1_ProbeAll.f (k : Nat) (l0 : List (List (S95))) (a1_0 : Int) (a1_1 : Int) : Option (Bool) := if 0 ≤ (mn (l0.length : Int) 5) then (if (mn (l0.length : Int) 5) ≤ (l0.length : Int) then ((some (l0.take ((mn (l0.length : Int) 5) : Int).toNat : List (List (S95)))).bind fun y312 => ((skywaykeep1_probeWorks.f k).bind fun t316 => (if t316 = true then ((skywaykeep1_long.f k y312).bind fun t317 => (if t317 = true then (some true) else ((probe_All.f k y312 a1_0 a1_1).bind fun bt318 => (if bt318.2 = 0 then (skywaykeep1_ProbeAll.l0 k y312 bt318.1 0 (y312.length : Int) 0 a1_0 a1_1) else (some ((bt318.1.length : Int) == 0)))))) else (some false)))) else (none)) else (none)
theorem skywaykeep1_ProbeAll.mono_l : ∀ k, (∀ y0 y1 y2 y3 y4 y5 y6, LeO (skywaykeep1_ProbeAll.l0 k y0 y1 y2 y3 y4 y5 y6) (skywaykeep1_ProbeAll.l0 (k + 1) y0 y1 y2 y3 y4 y5 y6)) ∧ (∀ y0 y1 y2 y3 y4 y5 y6 y7 y8 y9, LeO (skywaykeep1_ProbeAll.l1 k y0 y1 y2 y3 y4 y5 y6 y7 y8 y9) (skywaykeep1_ProbeAll.l1 (k + 1) y0 y1 y2 y3 y4 y5 y6 y7 y8 y9)) ∧ (∀ y0 y1 y2 y3 y4 y5 y6 y7 y8 y9 y10 y11 y12 y13, LeO (skywaykeep1_ProbeAll.l2 k y0 y1 y2 y3 y4 y5 y6 y7 y8 y9 y10 y11 y12 y13) (skywaykeep1_ProbeAll.l2 (k + 1) y0 y1 y2 y3 y4 y5 y6 y7 y8 y9 y10 y11 y12 y13)) ∧ (∀ y0 y1 y2 y3 y4 y5 y6 y7 y8 y9 y10 y11 y12 y13 y14 y15 y16 y17 y18 y19, LeO (skywaykeep1_ProbeAll.l3 k y0 y1 y2 y3 y4 y5 y6 y7 y8 y9 y10 y11 y12 y13 y14 y15 y16 y17 y18 y19) (skywaykeep1_ProbeAll.l3 (k + 1) y0 y1 y2 y3 y4 y5 y6 y7 y8 y9 y10 y11 y12 y13 y14 y15 y16 y17 y18 y19)) ∧ (∀ y0 y1 y2, LeO (skywaykeep1_ProbeAll.l4 k y0 y1 y2) (skywaykeep1_ProbeAll.l4 (k + 1) y0 y1 y2))
  | 0 => ⟨fun _ _ _ _ _ _ _ r h => by simp [skywaykeep1_ProbeAll.l0] at h, fun _ _ _ _ _ _ _ _ _ _ r h => by simp [skywaykeep1_ProbeAll.l1] at h, fun _ _ _ _ _ _ _ _ _ _ _ _ _ _ r h => by simp [skywaykeep1_ProbeAll.l2] at h, fun _ _ _ _ _ _ _ _ _ _ _ _ _ _ _ _ _ _ _ _ r h => by simp [skywaykeep1_ProbeAll.l3] at h, fun _ _ _ r h => by simp [skywaykeep1_ProbeAll.l4] at h⟩
  | k + 1 => by
    obtain ⟨ih0, ih1, ih2, ih3, ih4⟩ := skywaykeep1_ProbeAll.mono_l k; refine ⟨?_, ?_, ?_, ?_, ?_⟩
    · intro y0 y1 y2 y3 y4 y5 y6; unfold skywaykeep1_ProbeAll.l0
      repeat' first
      | (with_reducible exact ih0 _ _ _ _ _ _ _)
      | (with_reducible exact ih1 _ _ _ _ _ _ _ _ _ _)
      | (with_reducible exact ih2 _ _ _ _ _ _ _ _ _ _ _ _ _ _)
      | (with_reducible exact ih3 _ _ _ _ _ _ _ _ _ _ _ _ _ _ _ _ _ _ _ _)
      | (with_reducible exact ih4 _ _ _)
      | (with_reducible exact probe_All.mono _ _ _ _)
      | (with_reducible exact probe_Pair.mono _ _ _ _ _)
      | (with_reducible exact skywaykeep1_long.mono _ _)
      | (with_reducible exact skywaykeep1_probeWorks.mono _)
      | (with_reducible exact LeO.refl _)
      | (with_reducible exact LeO.none _)
      | (with_reducible refine LeO.ite ?_ ?_)
      | (with_reducible refine LeO.bind ?_ (fun _ => ?_))
      | exact ih0 _ _ _ _ _ _ _
      | exact ih1 _ _ _ _ _ _ _ _ _ _
      | exact ih2 _ _ _ _ _ _ _ _ _ _ _ _ _ _
      | exact ih3 _ _ _ _ _ _ _ _ _ _ _ _ _ _ _ _ _ _ _ _
      | exact ih4 _ _ _
      | exact probe_All.mono _ _ _ _
      | exact probe_Pair.mono _ _ _ _ _
      | exact skywaykeep1_long.mono _ _
      | exact skywaykeep1_probeWorks.mono _
      | exact LeO.none _
      | refine LeO.ite ?_ ?_
      | refine LeO.bind ?_ (fun _ => ?_)
    · intro y0 y1 y2 y3 y4 y5 y6 y7 y8 y9; unfold skywaykeep1_ProbeAll.l1
      repeat' first
      | (with_reducible exact ih0 _ _ _ _ _ _ _)
      | (with_reducible exact ih1 _ _ _ _ _ _ _ _ _ _)
      | (with_reducible exact ih2 _ _ _ _ _ _ _ _ _ _ _ _ _ _)
      | (with_reducible exact ih3 _ _ _ _ _ _ _ _ _ _ _ _ _ _ _ _ _ _ _ _)
      | (with_reducible exact ih4 _ _ _)
      | (with_reducible exact probe_All.mono _ _ _ _)
      | (with_reducible exact probe_Pair.mono _ _ _ _ _)
      | (with_reducible exact skywaykeep1_long.mono _ _)
      | (with_reducible exact skywaykeep1_probeWorks.mono _)
      | (with_reducible exact LeO.refl _)
      | (with_reducible exact LeO.none _)
      | (with_reducible refine LeO.ite ?_ ?_)
      | (with_reducible refine LeO.bind ?_ (fun _ => ?_))
      | exact ih0 _ _ _ _ _ _ _
      | exact ih1 _ _ _ _ _ _ _ _ _ _
      | exact ih2 _ _ _ _ _ _ _ _ _ _ _ _ _ _
      | exact ih3 _ _ _ _ _ _ _ _ _ _ _ _ _ _ _ _ _ _ _ _
      | exact ih4 _ _ _
      | exact probe_All.mono _ _ _ _
      | exact probe_Pair.mono _ _ _ _ _
      | exact skywaykeep1_long.mono _ _
      | exact skywaykeep1_probeWorks.mono _
      | exact LeO.none _
      | refine LeO.ite ?_ ?_
      | refine LeO.bind ?_ (fun _ => ?_)
    · intro y0 y1 y2 y3 y4 y5 y6 y7 y8 y9 y10 y11 y12 y13; unfold skywaykeep1_ProbeAll.l2
      repeat' first
      | (with_reducible exact ih0 _ _ _ _ _ _ _)
      | (with_reducible exact ih1 _ _ _ _ _ _ _ _ _ _)
      | (with_reducible exact ih2 _ _ _ _ _ _ _ _ _ _ _ _ _ _)
      | (with_reducible exact ih3 _ _ _ _ _ _ _ _ _ _ _ _ _ _ _ _ _ _ _ _)
      | (with_reducible exact ih4 _ _ _)
      | (with_reducible exact probe_All.mono _ _ _ _)
      | (with_reducible exact probe_Pair.mono _ _ _ _ _)
      | (with_reducible exact skywaykeep1_long.mono _ _)
      | (with_reducible exact skywaykeep1_probeWorks.mono _)
      | (with_reducible exact LeO.refl _)
      | (with_reducible exact LeO.none _)
      | (with_reducible refine LeO.ite ?_ ?_)
      | (with_reducible refine LeO.bind ?_ (fun _ => ?_))
      | exact ih0 _ _ _ _ _ _ _
      | exact ih1 _ _ _ _ _ _ _ _ _ _
      | exact ih2 _ _ _ _ _ _ _ _ _ _ _ _ _ _
      | exact ih3 _ _ _ _ _ _ _ _ _ _ _ _ _ _ _ _ _ _ _ _
      | exact ih4 _ _ _
      | exact probe_All.mono _ _ _ _
      | exact probe_Pair.mono _ _ _ _ _
      | exact skywaykeep1_long.mono _ _
      | exact skywaykeep1_probeWorks.mono _
      | exact LeO.none _
      | refine LeO.ite ?_ ?_
      | refine LeO.bind ?_ (fun _ => ?_)
    · intro y0 y1 y2 y3 y4 y5 y6 y7 y8 y9 y10 y11 y12 y13 y14 y15 y16 y17 y18 y19; unfold skywaykeep1_ProbeAll.l3
      repeat' first
      | (with_reducible exact ih0 _ _ _ _ _ _ _)
      | (with_reducible exact ih1 _ _ _ _ _ _ _ _ _ _)
      | (with_reducible exact ih2 _ _ _ _ _ _ _ _ _ _ _ _ _ _)
      | (with_reducible exact ih3 _ _ _ _ _ _ _ _ _ _ _ _ _ _ _ _ _ _ _ _)
      | (with_reducible exact ih4 _ _ _)
      | (with_reducible exact probe_All.mono _ _ _ _)
      | (with_reducible exact probe_Pair.mono _ _ _ _ _)
      | (with_reducible exact skywaykeep1_long.mono _ _)
      | (with_reducible exact skywaykeep1_probeWorks.mono _)
      | (with_reducible exact LeO.refl _)
      | (with_reducible exact LeO.none _)
      | (with_reducible refine LeO.ite ?_ ?_)
      | (with_reducible refine LeO.bind ?_ (fun _ => ?_))
      | exact ih0 _ _ _ _ _ _ _
      | exact ih1 _ _ _ _ _ _ _ _ _ _
      | exact ih2 _ _ _ _ _ _ _ _ _ _ _ _ _ _
      | exact ih3 _ _ _ _ _ _ _ _ _ _ _ _ _ _ _ _ _ _ _ _
      | exact ih4 _ _ _
      | exact probe_All.mono _ _ _ _
      | exact probe_Pair.mono _ _ _ _ _
      | exact skywaykeep1_long.mono _ _
      | exact skywaykeep1_probeWorks.mono _
      | exact LeO.none _
      | refine LeO.ite ?_ ?_
      | refine LeO.bind ?_ (fun _ => ?_)
    · intro y0 y1 y2; unfold skywaykeep1_ProbeAll.l4
      repeat' first
      | (with_reducible exact ih0 _ _ _ _ _ _ _)
      | (with_reducible exact ih1 _ _ _ _ _ _ _ _ _ _)
      | (with_reducible exact ih2 _ _ _ _ _ _ _ _ _ _ _ _ _ _)
      | (with_reducible exact ih3 _ _ _ _ _ _ _ _ _ _ _ _ _ _ _ _ _ _ _ _)
      | (with_reducible exact ih4 _ _ _)
      | (with_reducible exact probe_All.mono _ _ _ _)
      | (with_reducible exact probe_Pair.mono _ _ _ _ _)
      | (with_reducible exact skywaykeep1_long.mono _ _)
      | (with_reducible exact skywaykeep1_probeWorks.mono _)
      | (with_reducible exact LeO.refl _)
      | (with_reducible exact LeO.none _)
      | (with_reducible refine LeO.ite ?_ ?_)
      | (with_reducible refine LeO.bind ?_ (fun _ => ?_))
      | exact ih0 _ _ _ _ _ _ _
      | exact ih1 _ _ _ _ _ _ _ _ _ _
      | exact ih2 _ _ _ _ _ _ _ _ _ _ _ _ _ _
      | exact ih3 _ _ _ _ _ _ _ _ _ _ _ _ _ _ _ _ _ _ _ _
      | exact ih4 _ _ _
      | exact probe_All.mono _ _ _ _
      | exact probe_Pair.mono _ _ _ _ _
      | exact skywaykeep1_long.mono _ _
      | exact skywaykeep1_probeWorks.mono _
      | exact LeO.none _
      | refine LeO.ite ?_ ?_
      | refine LeO.bind ?_ (fun _ => ?_)
theorem skywaykeep1_ProbeAll.mono : ∀ a0 a1 a2 k, LeO (skywaykeep1_ProbeAll.f k a0 a1 a2) (skywaykeep1_ProbeAll.f (k + 1) a0 a1 a2) := by
  intro a0 a1 a2 k; obtain ⟨ih0, ih1, ih2, ih3, ih4⟩ := skywaykeep1_ProbeAll.mono_l k; unfold skywaykeep1_ProbeAll.f
  repeat' first
      | (with_reducible exact ih0 _ _ _ _ _ _ _)
      | (with_reducible exact ih1 _ _ _ _ _ _ _ _ _ _)
      | (with_reducible exact ih2 _ _ _ _ _ _ _ _ _ _ _ _ _ _)
      | (with_reducible exact ih3 _ _ _ _ _ _ _ _ _ _ _ _ _ _ _ _ _ _ _ _)
      | (with_reducible exact ih4 _ _ _)
      | (with_reducible exact probe_All.mono _ _ _ _)
      | (with_reducible exact probe_Pair.mono _ _ _ _ _)
      | (with_reducible exact skywaykeep1_long.mono _ _)
      | (with_reducible exact skywaykeep1_probeWorks.mono _)
      | (with_reducible exact LeO.refl _)
      | (with_reducible exact LeO.none _)
      | (with_reducible refine LeO.ite ?_ ?_)
      | (with_reducible refine LeO.bind ?_ (fun _ => ?_))
      | exact ih0 _ _ _ _ _ _ _
      | exact ih1 _ _ _ _ _ _ _ _ _ _
      | exact ih2 _ _ _ _ _ _ _ _ _ _ _ _ _ _
      | exact ih3 _ _ _ _ _ _ _ _ _ _ _ _ _ _ _ _ _ _ _ _
      | exact ih4 _ _ _
      | exact probe_All.mono _ _ _ _
      | exact probe_Pair.mono _ _ _ _ _
      | exact skywaykeep1_long.mono _ _
      | exact skywaykeep1_probeWorks.mono _
      | exact LeO.none _
      | refine LeO.ite ?_ ?_
      | refine LeO.bind ?_ (fun _ => ?_)
def skywaykeep1_ProbeAll.T16 : Bool × List (List Nat × List Nat) := (true, [([], []), ([], []), ([0, 1], [0, 1]), ([2], [2]), ([], []), ([], []), ([4, 5], [4, 5]), ([6], [6]), ([], []), ([3, 7, 8], [3, 7, 8]), ([9], [9]), ([10], [10]), ([10], [10]), ([11, 9, 0, 1, 2, 3, 4, 5, 6, 7, 8, 9, 10, 11], [11]), ([12, 13, 0, 1, 2, 3, 4, 5, 6, 7, 8, 9, 10, 11, 12, 13], [12])])
def skywaykeep1_ProbeAll.B16 : List Nat := [0, 0, 3, 7, 0, 0, 48, 112, 0, 511, 1023, 2047, 2047, 4095, 16383]
theorem skywaykeep1_ProbeAll.tab16 : rtab .any (opsOf Try.f7 16) = skywaykeep1_ProbeAll.T16 := by kernel_rfl
theorem skywaykeep1_ProbeAll.bits16 : waitsOk skywaykeep1_ProbeAll.T16.2 skywaykeep1_ProbeAll.B16 = true := by kernel_rfl
def skywaykeep1_ProbeAll.T37 : Bool × List (List Nat × List Nat) := (true, [([], []), ([], []), ([0, 1], [0, 1]), ([2], [2]), ([3], [3]), ([], []), ([], []), ([6], [6]), ([5, 7], [5, 7]), ([8], [8]), ([9], [9]), ([4, 10], [4, 10])])
def skywaykeep1_ProbeAll.B37 : List Nat := [0, 0, 3, 7, 15, 0, 0, 64, 224, 480, 992, 2047]
theorem skywaykeep1_ProbeAll.tab37 : rtab .any (opsOf Try.f7 37) = skywaykeep1_ProbeAll.T37 := by kernel_rfl
theorem skywaykeep1_ProbeAll.bits37 : waitsOk skywaykeep1_ProbeAll.T37.2 skywaykeep1_ProbeAll.B37 = true := by kernel_rfl
set_option maxHeartbeats 8000000 in
set_option maxRecDepth 100000 in
theorem skywaykeep1_ProbeAll.calls (k : Nat) (A0 : Option Addr) (c0 : Nat) (l0 : List (List (S95))) (a1_0 : Int) (a1_1 : Int) (r : Bool) (w : World) (hr0 : Kd.C (Kd.slice 95 k95) w A0 l0.length l0) (hc0 : l0.length ≤ c0) (h : skywaykeep1_ProbeAll.f k l0 a1_0 a1_1 = some r) :
    Calls Try.prog 7 #[.slice A0 l0.length c0, .agg #[.int .i64 a1_0, .int .i64 a1_1]] w fun e w' => e = .returned (.bool r) ∧ Below w.heap.size w w' := by
 have hu51 := Try.underlying51; have hu62 := Try.underlying62; have hu64 := Try.underlying64; have HR0 := Aside0.mk hr0; have HC0 := Aside0.mk hc0; clear hr0 hc0; have HB := Aside0.mk (Below.refl w.heap.size w); have H : (if 0 ≤ (mn (l0.length : Int) 5) then (if (mn (l0.length : Int) 5) ≤ (l0.length : Int) then ((some (l0.take ((mn (l0.length : Int) 5) : Int).toNat : List (List (S95)))).bind fun y312 => ((skywaykeep1_probeWorks.f k).bind fun t316 => (if t316 = true then ((skywaykeep1_long.f k y312).bind fun t317 => (if t317 = true then (some true) else ((probe_All.f k y312 a1_0 a1_1).bind fun bt318 => (if bt318.2 = 0 then (skywaykeep1_ProbeAll.l0 k y312 bt318.1 0 (y312.length : Int) 0 a1_0 a1_1) else (some ((bt318.1.length : Int) == 0)))))) else (some false)))) else (none)) else (none)) = some r := h; clear h; obtain ⟨ji3, hji3⟩ : ∃ j_ : Int, (mn (l0.length : Int) 5) = j_ := ⟨_, rfl⟩
 replace H : (if 0 ≤ (ji3) then (if (ji3) ≤ (l0.length : Int) then ((some (l0.take ((ji3) : Int).toNat : List (List (S95)))).bind fun y312 => ((skywaykeep1_probeWorks.f k).bind fun t316 => (if t316 = true then ((skywaykeep1_long.f k y312).bind fun t317 => (if t317 = true then (some true) else ((probe_All.f k y312 a1_0 a1_1).bind fun bt318 => (if bt318.2 = 0 then (skywaykeep1_ProbeAll.l0 k y312 bt318.1 0 (y312.length : Int) 0 a1_0 a1_1) else (some ((bt318.1.length : Int) == 0)))))) else (some false)))) else (none)) else (none)) = some r := by first | (rw [hji3] at H; exact H) | (simp only [hji3] at H ⊢; exact H)
 (try (have hji3h : ji3 ≤ 5 := by (rw [← hji3]; unfold mn; (repeat' split) <;> omega)))
 (try (have hji3g : ji3 ≤ 64 := by omega))
 (try (have hji3l : 0 ≤ ji3 := by (rw [← hji3]; unfold mn; (repeat' split) <;> omega)))
 (try (have hji3m : 0 ≤ ji3 := by omega))
 have hji3_ : (if 5 < (l0.length : Int) then 5 else (l0.length : Int)) = ji3 := hji3; refine Or.elim (Classical.em (0 ≤ (ji3))) (fun c4 => ?p2_) (fun c4 => ?n2_)
 case' p2_ =>
  rw [if_pos c4] at H; have c4b0 := eq_true c4; have c4b1 : decide (0 ≤ (ji3)) = true := decide_eq_true c4; clear c4; refine Or.elim (Classical.em ((ji3) ≤ (l0.length : Int))) (fun c5 => ?p3_) (fun c5 => ?n3_)
  case' p3_ =>
   rw [if_pos c5] at H; have c5b0 := eq_true c5; have c5b1 : decide ((ji3) ≤ (l0.length : Int)) = true := decide_eq_true c5; clear c5; obtain ⟨y312, hy312⟩ : ∃ y_ : List (List (S95)), y_ = (l0.take ((ji3) : Int).toNat) := ⟨_, rfl⟩
   replace H : ((skywaykeep1_probeWorks.f k).bind fun t316 => (if t316 = true then ((skywaykeep1_long.f k y312).bind fun t317 => (if t317 = true then (some true) else ((probe_All.f k y312 a1_0 a1_1).bind fun bt318 => (if bt318.2 = 0 then (skywaykeep1_ProbeAll.l0 k y312 bt318.1 0 (y312.length : Int) 0 a1_0 a1_1) else (some ((bt318.1.length : Int) == 0)))))) else (some false))) = some r := by first | (rw [hy312]; with_reducible exact H) | (have H2_ := (Option.bind_some _ _).symm.trans H; rw [hy312]; with_reducible exact H2_) | (have H2_ := (Option.bind_some _ _).symm.trans H; with_reducible exact H2_) | with_reducible exact H | (rw [hy312]; exact H) | exact H
   have Ny312 := Aside0.mk hy312; clear hy312; replace H := Option.bind_eq_some_iff.mp H; obtain ⟨t316, A60, H⟩ := H; replace H : (if t316 = true then ((skywaykeep1_long.f k y312).bind fun t317 => (if t317 = true then (some true) else ((probe_All.f k y312 a1_0 a1_1).bind fun bt318 => (if bt318.2 = 0 then (skywaykeep1_ProbeAll.l0 k y312 bt318.1 0 (y312.length : Int) 0 a1_0 a1_1) else (some ((bt318.1.length : Int) == 0)))))) else (some false)) = some r := H; have A6 := Aside0.mk A60; clear A60; refine Or.elim (Classical.em (t316 = true)) (fun c7 => ?p4_) (fun c7 => ?n4_)
   case' p4_ =>
    subst c7
    have H1 : ((skywaykeep1_long.f k y312).bind fun t317 => (if t317 = true then (some true) else ((probe_All.f k y312 a1_0 a1_1).bind fun bt318 => (if bt318.2 = 0 then (skywaykeep1_ProbeAll.l0 k y312 bt318.1 0 (y312.length : Int) 0 a1_0 a1_1) else (some ((bt318.1.length : Int) == 0)))))) = some r := by rw [if_pos rfl] at H; exact H
    clear H; have H := H1; clear H1; replace H := Option.bind_eq_some_iff.mp H; obtain ⟨t317, A80, H⟩ := H; replace H : (if t317 = true then (some true) else ((probe_All.f k y312 a1_0 a1_1).bind fun bt318 => (if bt318.2 = 0 then (skywaykeep1_ProbeAll.l0 k y312 bt318.1 0 (y312.length : Int) 0 a1_0 a1_1) else (some ((bt318.1.length : Int) == 0))))) = some r := H; have A8 := Aside0.mk A80; clear A80; refine Or.elim (Classical.em (t317 = true)) (fun c9 => ?p5_) (fun c9 => ?n5_)
    case' p5_ =>
     subst c9
     have H1 : (some true) = some r := by rw [if_pos rfl] at H; exact H
     clear H; have H := H1; clear H1; have hm1_0 := Aside0.mk trivial
    case' n5_ =>
     replace c9 := Bool.eq_false_iff.mpr c9; subst c9
     have H1 : ((probe_All.f k y312 a1_0 a1_1).bind fun bt318 => (if bt318.2 = 0 then (skywaykeep1_ProbeAll.l0 k y312 bt318.1 0 (y312.length : Int) 0 a1_0 a1_1) else (some ((bt318.1.length : Int) == 0)))) = some r := by rw [if_neg (show ¬ (false = true) by decide)] at H; exact H
     clear H; have H := H1; clear H1; replace H := Option.bind_eq_some_iff.mp H; obtain ⟨⟨t318, t321⟩, A140, H⟩ := H; replace H : (if t321 = 0 then (skywaykeep1_ProbeAll.l0 k y312 t318 0 (y312.length : Int) 0 a1_0 a1_1) else (some ((t318.length : Int) == 0))) = some r := H; have A14 := Aside0.mk A140; clear A140; refine Or.elim (Classical.em (t321 = 0)) (fun c15 => ?p6_) (fun c15 => ?n6_)
     case' p6_ =>
      rw [if_pos c15] at H; have c15b0 : (t321 == 0) = true := beq_iff_eq.mpr c15; have c15b1 : (t321 != 0) = false := bne_eq_false_iff_eq.mpr c15; clear c15; have hm1_1 := Aside0.mk trivial
     case' n6_ =>
      rw [if_neg c15] at H; have c15b0 : (t321 == 0) = false := beq_eq_false_iff_ne.mpr c15; have c15b1 : (t321 != 0) = true := bne_iff_ne.mpr c15; have hm1_0 := Aside0.mk trivial
   case' n4_ =>
    replace c7 := Bool.eq_false_iff.mpr c7; subst c7
    have H1 : (some false) = some r := by rw [if_neg (show ¬ (false = true) by decide)] at H; exact H
    clear H; have H := H1; clear H1; have hm1_0 := Aside0.mk trivial
  case' n3_ =>
   rw [if_neg c5] at H; exact absurd H (by simp)
 case' n2_ =>
  rw [if_neg c4] at H; exact absurd H (by simp)
 all_goals
  first
   | clear hm1_0; obtain rfl := Option.some.inj H; go_enter Try.func7, Try.ntmps7
     go_wp2_with (first | ((with_reducible refine gate_dst (N := 3) rfl ?_); refine box_s #[.int .i64 a1_0, .int .i64 a1_1] 51 ?_; intro gb311 hg wxa2c41 hbox hb; have n0_ := st HB hb; have n1_ := Aside0.mk (hbox); have n2_ := ge HB hg; have n3_ := ge HB hg; clear HB; have HB := n0_; have BK311 := n1_; have GW311 := n2_; have GE311 := n3_; clear n0_ n1_ n2_ n3_; clear hb hbox hg; have q11 : ((ji3) : Int) ≤ ((l0.length : Int) : Int) := of_decide_eq_true (by first | (with_reducible assumption) | assumption); obtain ⟨i011, hi011, _, hsz11, _⟩ := info_parts info60; have hroom11 : l0.length ≤ c0 := HC0.out; have hC11 : Kd.C (Kd.slice 95 k95) _ A0 l0.length l0 := HR0.out; have hcut11 := cut_to (P := Try.prog) 49 60 .i64 Try.underlying49 hi011 A0 l0.length c0 (ji3) (of_decide_eq_true (by first | (with_reducible assumption) | assumption)) q11 hroom11; have hr11 := Kd.C_take (m := ((ji3) : Int).toNat) hC11 (by omega); have hy11 : y312.length = ((ji3) : Int).toNat := (by rw [Ny312.out, List.length_take]; omega); rw [← Ny312.out] at hr11; rw [← hy11] at hcut11; have HR315 := Aside0.mk hr11; have HC315 := Aside0.mk (show y312.length ≤ c0 from by omega); clear hr11 hC11 hroom11 hi011 hsz11; have KY11 := Aside0.mk hy11; clear hy11; replace q11 := eq_true q11) | ((with_reducible refine gate_dst (N := 3) rfl ?_); refine box_s #[.int .i64 a1_0, .int .i64 a1_1] 51 ?_; intro gb311 hg wxce971 hbox hb; have n0_ := st HB hb; have n1_ := Aside0.mk (hbox); have n2_ := ge HB hg; have n3_ := ge HB hg; clear HB; have HB := n0_; have BK311 := n1_; have GW311 := n2_; have GE311 := n3_; clear n0_ n1_ n2_ n3_; clear hb hbox hg; have q69 : ((ji3) : Int) ≤ ((l0.length : Int) : Int) := of_decide_eq_true (by first | (with_reducible assumption) | assumption); obtain ⟨i069, hi069, _, hsz69, _⟩ := info_parts info60; have hroom69 : l0.length ≤ c0 := HC0.out; have hC69 : Kd.C (Kd.slice 95 k95) _ A0 l0.length l0 := HR0.out; have hcut69 := cut_to (P := Try.prog) 49 60 .i64 Try.underlying49 hi069 A0 l0.length c0 (ji3) (of_decide_eq_true (by first | (with_reducible assumption) | assumption)) q69 hroom69; have hr69 := Kd.C_take (m := ((ji3) : Int).toNat) hC69 (by omega); have hy69 : y312.length = ((ji3) : Int).toNat := (by rw [Ny312.out, List.length_take]; omega); rw [← Ny312.out] at hr69; rw [← hy69] at hcut69; have HR315 := Aside0.mk hr69; have HC315 := Aside0.mk (show y312.length ≤ c0 from by omega); clear hr69 hC69 hroom69 hi069 hsz69; have KY69 := Aside0.mk hy69; clear hy69; replace q69 := eq_true q69) | ((with_reducible refine gate_dst (N := 3) rfl ?_); refine box_s #[.int .i64 a1_0, .int .i64 a1_1] 51 ?_; intro gb311 hg wxc9b41 hbox hb; have n0_ := st HB hb; have n1_ := Aside0.mk (hbox); have n2_ := ge HB hg; have n3_ := ge HB hg; clear HB; have HB := n0_; have BK311 := n1_; have GW311 := n2_; have GE311 := n3_; clear n0_ n1_ n2_ n3_; clear hb hbox hg; have q76 : ((ji3) : Int) ≤ ((l0.length : Int) : Int) := of_decide_eq_true (by first | (with_reducible assumption) | assumption); obtain ⟨i076, hi076, _, hsz76, _⟩ := info_parts info60; have hroom76 : l0.length ≤ c0 := HC0.out; have hC76 : Kd.C (Kd.slice 95 k95) _ A0 l0.length l0 := HR0.out; have hcut76 := cut_to (P := Try.prog) 49 60 .i64 Try.underlying49 hi076 A0 l0.length c0 (ji3) (of_decide_eq_true (by first | (with_reducible assumption) | assumption)) q76 hroom76; have hr76 := Kd.C_take (m := ((ji3) : Int).toNat) hC76 (by omega); have hy76 : y312.length = ((ji3) : Int).toNat := (by rw [Ny312.out, List.length_take]; omega); rw [← Ny312.out] at hr76; rw [← hy76] at hcut76; have HR315 := Aside0.mk hr76; have HC315 := Aside0.mk (show y312.length ≤ c0 from by omega); clear hr76 hC76 hroom76 hi076 hsz76; have KY76 := Aside0.mk hy76; clear hy76; replace q76 := eq_true q76) | ((with_reducible refine gate_callee (f := 20) rfl ?_); refine goesL_ (some 23) rfl rfl Try.func20 (by kernel_rfl) rfl #[] rfl any_s ?_; (with_reducible refine (skywaykeep1_probeWorks.calls k  false _ A6.out).mono ?_); rintro e wx14671 ⟨rfl, hb⟩; refine ⟨_, rfl, ?_⟩; have n0_ := kp BK311 hb; have n1_ := st HB hb; clear BK311; clear HB; have BK311 := n0_; have HB := n1_; clear n0_ n1_; (try clear hb); (try clear hb2); (try clear hk); (try clear hi)) | ((with_reducible refine gate_callee (f := 20) rfl ?_); refine goesL_ (some 23) rfl rfl Try.func20 (by kernel_rfl) rfl #[] rfl any_s ?_; (with_reducible refine (skywaykeep1_probeWorks.calls k  true _ A6.out).mono ?_); rintro e wx30d21 ⟨rfl, hb⟩; refine ⟨_, rfl, ?_⟩; have n0_ := kp BK311 hb; have n1_ := st HB hb; clear BK311; clear HB; have BK311 := n0_; have HB := n1_; clear n0_ n1_; (try clear hb); (try clear hb2); (try clear hk); (try clear hi)) | ((with_reducible refine gate_callee (f := 21) rfl ?_); refine goesL_ (some 26) rfl rfl Try.func21 (by kernel_rfl) rfl #[.slice A0 y312.length c0] rfl any_s ?_; (with_reducible refine (skywaykeep1_long.calls k _ _ y312 false _ ?side1 ?side2 A8.out).mono ?_); (case side1 => exact cb_s (Kd.C_below HR315.out HB.out)); (case side2 => exact HC315.out); rintro e wxd61c1 ⟨rfl, hb⟩; refine ⟨_, rfl, ?_⟩; have n0_ := kp BK311 hb; have n1_ := st HB hb; clear BK311; clear HB; have BK311 := n0_; have HB := n1_; clear n0_ n1_; (try clear hb); (try clear hb2); (try clear hk); (try clear hi); have hczxd61c1 : wxd61c1.cell? ⟨gb311, 0, none⟩ = some (.int .i64 a1_0) := bc BK311 0; have hczxd61c2 : wxd61c1.cell? ⟨gb311, 1, none⟩ = some (.int .i64 a1_1) := bc BK311 1; have hfzxd61c1 := blk_frozen BK311.out 0; have hfzxd61c2 := blk_frozen BK311.out 1) | ((with_reducible refine gate_callee (f := 21) rfl ?_); refine goesL_ (some 26) rfl rfl Try.func21 (by kernel_rfl) rfl #[.slice A0 y312.length c0] rfl any_s ?_; (with_reducible refine (skywaykeep1_long.calls k _ _ y312 true _ ?side1 ?side2 A8.out).mono ?_); (case side1 => exact cb_s (Kd.C_below HR315.out HB.out)); (case side2 => exact HC315.out); rintro e wx7a9b1 ⟨rfl, hb⟩; refine ⟨_, rfl, ?_⟩; have n0_ := kp BK311 hb; have n1_ := st HB hb; clear BK311; clear HB; have BK311 := n0_; have HB := n1_; clear n0_ n1_; (try clear hb); (try clear hb2); (try clear hk); (try clear hi)) | ((with_reducible refine gate_callee (f := 22) rfl ?_); refine goesL_ (some 30) rfl rfl Try.func22 (by kernel_rfl) rfl #[.slice A0 y312.length c0, .agg #[.int .i64 a1_0, .int .i64 a1_1]] rfl any_s ?_; (with_reducible refine (probe_All.calls k _ _ y312 a1_0 a1_1 t318 t321 _ ?side1 ?side2 A14.out).mono ?_); (case side1 => exact cb_s (Kd.C_below HR315.out HB.out)); (case side2 => exact HC315.out); rintro e wxb72c1 ⟨v319, rfl, hoxb72c1, hb⟩; refine ⟨_, rfl, ?_⟩; have n0_ := Aside0.mk (Kd.R_lower hoxb72c1 bz_s); have n1_ := kp BK311 hb; have n2_ := st HB hb; clear BK311; clear HB; have HO320 := n0_; have BK311 := n1_; have HB := n2_; clear n0_ n1_ n2_; (try clear hb); (try clear hb2); (try clear hk); (try clear hi); (try clear hoxb72c1); obtain ⟨Aoxb72c1, coxb72c1, eoxb72c1⟩ := Kd.R_slice HO320.out; subst eoxb72c1))
     go_ret
     exact ⟨by first | rfl | (simp [errW_none, errW_some] <;> rfl) | (simp only [← hji3]; first | rfl | (simp [errW_none, errW_some] <;> rfl)) | (simp [*, errW_none, errW_some] <;> rfl), by repeat (first | (with_reducible first | exact HB.out | apply below_alloc | apply pw_below_drewN | apply below_drew1 | refine below_set ?_ GE311.out) | exact HB.out)⟩
   | clear hm1_1; have H' := Aside0.mk H; clear H; go_enter Try.func7, Try.ntmps7
     go_wp2_with (first | ((with_reducible refine gate_dst (N := 3) rfl ?_); refine box_s #[.int .i64 a1_0, .int .i64 a1_1] 51 ?_; intro gb311 hg wxd1911 hbox hb; have n0_ := st HB hb; have n1_ := Aside0.mk (hbox); have n2_ := ge HB hg; have n3_ := ge HB hg; clear HB; have HB := n0_; have BK311 := n1_; have GW311 := n2_; have GE311 := n3_; clear n0_ n1_ n2_ n3_; clear hb hbox hg; have q17 : ((ji3) : Int) ≤ ((l0.length : Int) : Int) := of_decide_eq_true (by first | (with_reducible assumption) | assumption); obtain ⟨i017, hi017, _, hsz17, _⟩ := info_parts info60; have hroom17 : l0.length ≤ c0 := HC0.out; have hC17 : Kd.C (Kd.slice 95 k95) _ A0 l0.length l0 := HR0.out; have hcut17 := cut_to (P := Try.prog) 49 60 .i64 Try.underlying49 hi017 A0 l0.length c0 (ji3) (of_decide_eq_true (by first | (with_reducible assumption) | assumption)) q17 hroom17; have hr17 := Kd.C_take (m := ((ji3) : Int).toNat) hC17 (by omega); have hy17 : y312.length = ((ji3) : Int).toNat := (by rw [Ny312.out, List.length_take]; omega); rw [← Ny312.out] at hr17; rw [← hy17] at hcut17; have HR315 := Aside0.mk hr17; have HC315 := Aside0.mk (show y312.length ≤ c0 from by omega); clear hr17 hC17 hroom17 hi017 hsz17; have KY17 := Aside0.mk hy17; clear hy17; replace q17 := eq_true q17) | ((with_reducible refine gate_callee (f := 20) rfl ?_); refine goesL_ (some 23) rfl rfl Try.func20 (by kernel_rfl) rfl #[] rfl any_s ?_; (with_reducible refine (skywaykeep1_probeWorks.calls k  true _ A6.out).mono ?_); rintro e wx30d21 ⟨rfl, hb⟩; refine ⟨_, rfl, ?_⟩; have n0_ := kp BK311 hb; have n1_ := st HB hb; clear BK311; clear HB; have BK311 := n0_; have HB := n1_; clear n0_ n1_; (try clear hb); (try clear hb2); (try clear hk); (try clear hi)) | ((with_reducible refine gate_callee (f := 21) rfl ?_); refine goesL_ (some 26) rfl rfl Try.func21 (by kernel_rfl) rfl #[.slice A0 y312.length c0] rfl any_s ?_; (with_reducible refine (skywaykeep1_long.calls k _ _ y312 false _ ?side1 ?side2 A8.out).mono ?_); (case side1 => exact cb_s (Kd.C_below HR315.out HB.out)); (case side2 => exact HC315.out); rintro e wxd61c1 ⟨rfl, hb⟩; refine ⟨_, rfl, ?_⟩; have n0_ := kp BK311 hb; have n1_ := st HB hb; clear BK311; clear HB; have BK311 := n0_; have HB := n1_; clear n0_ n1_; (try clear hb); (try clear hb2); (try clear hk); (try clear hi); have hczxd61c1 : wxd61c1.cell? ⟨gb311, 0, none⟩ = some (.int .i64 a1_0) := bc BK311 0; have hczxd61c2 : wxd61c1.cell? ⟨gb311, 1, none⟩ = some (.int .i64 a1_1) := bc BK311 1; have hfzxd61c1 := blk_frozen BK311.out 0; have hfzxd61c2 := blk_frozen BK311.out 1) | ((with_reducible refine gate_callee (f := 22) rfl ?_); refine goesL_ (some 30) rfl rfl Try.func22 (by kernel_rfl) rfl #[.slice A0 y312.length c0, .agg #[.int .i64 a1_0, .int .i64 a1_1]] rfl any_s ?_; (with_reducible refine (probe_All.calls k _ _ y312 a1_0 a1_1 t318 t321 _ ?side1 ?side2 A14.out).mono ?_); (case side1 => exact cb_s (Kd.C_below HR315.out HB.out)); (case side2 => exact HC315.out); rintro e wxd6e21 ⟨v319, rfl, hoxd6e21, hb⟩; refine ⟨_, rfl, ?_⟩; have n0_ := Aside0.mk (Kd.R_lower hoxd6e21 bz_s); have n1_ := kp BK311 hb; have n2_ := st HB hb; clear BK311; clear HB; have HO320 := n0_; have BK311 := n1_; have HB := n2_; clear n0_ n1_ n2_; (try clear hb); (try clear hb2); (try clear hk); (try clear hi); (try clear hoxd6e21)))
     go_loopg [7, 40] k (fun kq v7 v40 w' => ∃ (x7_1 : Int) (x40_1 : Int), v7 = .int .i64 x7_1 ∧ v40 = .int .i64 x40_1 ∧ Aside0 (skywaykeep1_ProbeAll.l0 kq y312 t318 x7_1 (y312.length : Int) x40_1 a1_0 a1_1 = some r) ∧ Aside0 (kq ≤ k) ∧ Aside0 (Kd.R k64 64 w' w.heap.size (fun _ => True) v319 t318) ∧ Aside0 (w'.heap[gb311]? = some (.cells #[.int .i64 a1_0, .int .i64 a1_1] 51 (0, 0))) ∧ Aside0 (Below w.heap.size w w'))
     case atStart => exact ⟨(0), (0), (by first | rfl | (simp; done) | (simp [*]; done)), (by first | rfl | (simp; done) | (simp [*]; done)), H', ⟨Nat.le_refl _⟩, ⟨by (with_reducible repeat (first | apply Kd.R_alloc | apply Kd.R_drewN | apply Kd.R_drew)); exact HO320.out⟩, ⟨by (with_reducible repeat (first | refine blk_drewN ?_ _ | refine blk_drew ?_ | refine blk_alloc ?_ _)); exact BK311.out⟩, ⟨by repeat (first | (with_reducible first | exact HB.out | apply below_alloc | apply pw_below_drewN | apply below_drew1 | refine below_set ?_ GE311.out) | exact HB.out)⟩⟩
     case round =>
      clear H'
      (try clear c1); (try clear p1); (try clear q1); (try clear c2); (try clear p2); (try clear c4); (try clear c4b0); (try clear c4b1); (try clear c5); (try clear c5b0); (try clear c5b1); (try clear c7); (try clear c9); (try clear q11); (try clear c15); (try clear c15b0); (try clear c15b1); (try clear q17); (try clear c20); (try clear c21); (try clear hczxd61c1); (try clear hczxd61c2); (try clear hfzxd61c1); (try clear hfzxd61c2); (try clear q11); (try clear q17)
      obtain ⟨x7_1, x40_1, rfl, rfl, HA, HK1, HO_5, BK311, HB⟩ := hrel
      cases gk with
      | zero => exact absurd HA.out (by simp [skywaykeep1_ProbeAll.l0])
      | succ k1 =>
       have H := HA.out; clear HA; simp only [skywaykeep1_ProbeAll.l0] at H; refine Or.elim (Classical.em (x40_1 < (y312.length : Int))) (fun c22 => ?p8_) (fun c22 => ?n8_)
       case' p8_ =>
        rw [if_pos c22] at H; have c22b0 : decide (x40_1 < (y312.length : Int)) = true := decide_eq_true c22; clear c22; have hm7_0 := Aside0.mk trivial
       case' n8_ =>
        rw [if_neg c22] at H; have c22b0 : decide (x40_1 < (y312.length : Int)) = false := decide_eq_false c22; clear c22; have hm7_1 := Aside0.mk trivial
       all_goals
        have H' := Aside0.mk H; clear H; go_wp2
        first
         | clear hm7_0; go_loopg [7, 44] k1 (fun kq v7 v44 w' => ∃ (x7_2 : Int) (x44_2 : Int), v7 = .int .i64 x7_2 ∧ v44 = .int .i64 x44_2 ∧ Aside0 (skywaykeep1_ProbeAll.l1 kq y312 t318 x7_2 x40_1 (y312.length : Int) x40_1 x40_1 x44_2 a1_0 a1_1 = some r) ∧ Aside0 (kq ≤ k1) ∧ Aside0 (Kd.R k64 64 w' w.heap.size (fun _ => True) v319 t318) ∧ Aside0 (w'.heap[gb311]? = some (.cells #[.int .i64 a1_0, .int .i64 a1_1] 51 (0, 0))) ∧ Aside0 (Below w.heap.size w w'))
           case atStart => exact ⟨(x7_1), (0), (by first | rfl | (simp; done) | (simp [*]; done)), (by first | rfl | (simp; done) | (simp [*]; done)), H', ⟨Nat.le_refl _⟩, ⟨by (with_reducible repeat (first | apply Kd.R_alloc | apply Kd.R_drewN | apply Kd.R_drew)); exact HO_5.out⟩, ⟨by (with_reducible repeat (first | refine blk_drewN ?_ _ | refine blk_drew ?_ | refine blk_alloc ?_ _)); exact BK311.out⟩, ⟨by repeat (first | (with_reducible first | exact HB.out | apply below_alloc | apply pw_below_drewN | apply below_drew1 | refine below_set ?_ GE311.out) | exact HB.out)⟩⟩
           case round =>
            clear H'
            (try clear c1); (try clear p1); (try clear q1); (try clear c2); (try clear p2); (try clear c4); (try clear c4b0); (try clear c4b1); (try clear c5); (try clear c5b0); (try clear c5b1); (try clear c7); (try clear c9); (try clear q11); (try clear c15); (try clear c15b0); (try clear c15b1); (try clear q17); (try clear c20); (try clear c21); (try clear c22); (try clear c22b0); (try clear hczxd61c1); (try clear hczxd61c2); (try clear hfzxd61c1); (try clear hfzxd61c2); (try clear p1); (try clear p2); (try clear q1); (try clear q11); (try clear q17)
            obtain ⟨x7_2, x44_2, rfl, rfl, HA, HK2, HO_5, BK311, HB⟩ := hrel
            cases gk with
            | zero => exact absurd HA.out (by simp [skywaykeep1_ProbeAll.l1])
            | succ k2 =>
             have H := HA.out; clear HA; simp only [skywaykeep1_ProbeAll.l1] at H; refine Or.elim (Classical.em (x44_2 < x40_1)) (fun c23 => ?p10_) (fun c23 => ?n10_)
             case' p10_ =>
              rw [if_pos c23] at H; have c23b0 : decide (x44_2 < x40_1) = true := decide_eq_true c23; clear c23; refine Or.elim (Classical.em (0 ≤ x44_2)) (fun c24 => ?p11_) (fun c24 => ?n11_)
              case' p11_ =>
               rw [if_pos c24] at H; have c24b0 : decide (0 ≤ x44_2) = true := decide_eq_true c24; clear c24; refine Or.elim (Classical.em (x44_2 < (y312.length : Int))) (fun c25 => ?p12_) (fun c25 => ?n12_)
               case' p12_ =>
                rw [if_pos c25] at H; have c25b0 : decide (x44_2 < (y312.length : Int)) = true := decide_eq_true c25; clear c25; refine Or.elim (Classical.em (0 ≤ x40_1)) (fun c26 => ?p13_) (fun c26 => ?n13_)
                case' p13_ =>
                 rw [if_pos c26] at H; have c26b0 : decide (0 ≤ x40_1) = true := decide_eq_true c26; clear c26; refine Or.elim (Classical.em (x40_1 < (y312.length : Int))) (fun c27 => ?p14_) (fun c27 => ?n14_)
                 case' p14_ =>
                  rw [if_pos c27] at H; have c27b0 : decide (x40_1 < (y312.length : Int)) = true := decide_eq_true c27; clear c27; replace H := Option.bind_eq_some_iff.mp H; obtain ⟨⟨t324, t327⟩, A280, H⟩ := H; replace H : (if t327 = 0 then (skywaykeep1_ProbeAll.l2 k2 y312 t318 (wrap64 (x7_2 + (t324.length : Int))) x40_1 x44_2 (y312.length : Int) x40_1 x40_1 x44_2 t324 (t324.length : Int) 0 a1_0 a1_1) else (some false)) = some r := H; have A28 := Aside0.mk A280; clear A280; refine Or.elim (Classical.em (t327 = 0)) (fun c29 => ?p15_) (fun c29 => ?n15_)
                  case' p15_ =>
                   rw [if_pos c29] at H; have c29b0 : (t327 == 0) = true := beq_iff_eq.mpr c29; have c29b1 : (t327 != 0) = false := bne_eq_false_iff_eq.mpr c29; clear c29; have hm9_0 := Aside0.mk trivial
                  case' n15_ =>
                   rw [if_neg c29] at H; have c29b0 : (t327 == 0) = false := beq_eq_false_iff_ne.mpr c29; have c29b1 : (t327 != 0) = true := bne_iff_ne.mpr c29; have hm9_1 := Aside0.mk trivial
                 case' n14_ =>
                  rw [if_neg c27] at H; exact absurd H (by simp)
                case' n13_ =>
                 rw [if_neg c26] at H; exact absurd H (by simp)
               case' n12_ =>
                rw [if_neg c25] at H; exact absurd H (by simp)
              case' n11_ =>
               rw [if_neg c24] at H; exact absurd H (by simp)
             case' n10_ =>
              rw [if_neg c23] at H; have c23b0 : decide (x44_2 < x40_1) = false := decide_eq_false c23; clear c23; have hm9_2 := Aside0.mk trivial
             all_goals
              first
               | (first | (have _hm := hm9_0) | (have _hm := hm9_2))
                 have H' := Aside0.mk H; clear H
                 first
                  | clear hm9_0
                    try go_wp2
                    have n0_ := Aside0.mk (Kd.R_drew HO_5.out); have n1_ := Aside0.mk (blk_drew BK311.out); have n2_ := Aside0.mk (below_drew1 HB.out); clear HO_5; clear BK311; clear HB; have HO_5 := n0_; have BK311 := n1_; have HB := n2_; clear n0_ n1_ n2_
                    have p322 : 0 ≤ (x44_2 : Int) := of_decide_eq_true (by first | (with_reducible assumption) | assumption)
                    have q322 : x44_2 < (y312.length : Int) := of_decide_eq_true (by first | (with_reducible assumption) | assumption)
                    obtain ⟨ad322, A322_0, c322_0, e322, hx322_0, hl322_0, hi322_0⟩ := at_L4 HR315.out x44_2 p322 q322; have hw322_0 := hx322_0; cases e322; replace hx322_0 := cl HB hx322_0; have HR322_0 := Aside0.mk hi322_0; have HC322_0 := Aside0.mk hl322_0; clear hi322_0 hl322_0; replace p322 := eq_true p322; replace q322 := eq_true q322
                    have p323 : 0 ≤ (x40_1 : Int) := of_decide_eq_true (by first | (with_reducible assumption) | assumption)
                    have q323 : x40_1 < (y312.length : Int) := of_decide_eq_true (by first | (with_reducible assumption) | assumption)
                    obtain ⟨ad323, A323_0, c323_0, e323, hx323_0, hl323_0, hi323_0⟩ := at_L4 HR315.out x40_1 p323 q323; have hw323_0 := hx323_0; obtain rfl : ad322 = ad323 := (by injection e323); replace hx323_0 := cl HB hx323_0; have HR323_0 := Aside0.mk hi323_0; have HC323_0 := Aside0.mk hl323_0; clear hi323_0 hl323_0; replace p323 := eq_true p323; replace q323 := eq_true q323; refine start_ (n := 15) (S := fun w' => w'.cell? ⟨gb311, 0, none⟩ = some (.int .i64 a1_0) ∧ w'.cell? ⟨gb311, 1, none⟩ = some (.int .i64 a1_1) ∧ w'.cell? (ad322.add (x44_2).toNat) = some (.slice A322_0 (rd_L4 y312 x44_2).length c322_0) ∧ w'.cell? (ad322.add (x40_1).toNat) = some (.slice A323_0 (rd_L4 y312 x40_1).length c323_0)) (ds := []) #[false, false, false, false, false, false, false, false, false, false, false, false, false, false, false] (by kernel_rfl) rfl rfl ⟨bc BK311 0, bc BK311 1, (cl HB hw322_0), (cl HB hw323_0)⟩ (fun hHeld => ?_); refine with_tabW skywaykeep1_ProbeAll.tab16 skywaykeep1_ProbeAll.bits16 (fun HT_ HW_ => ?_); generalize wr.drew = wze1 at HO_5 BK311 HB HR322_0 HR323_0 hx322_0 hx323_0 hHeld ⊢; refine pu_ 0 48 HT_ (h := ?_); refine pu_ 1 49 HT_ (h := ?_); refine pu_ 2 50 HT_ (h := ?_); refine pu_ 4 52 HT_ (h := ?_); refine pu_ 5 53 HT_ (h := ?_); refine pu_ 6 54 HT_ (h := ?_); refine tk_ 3 51 HT_ HW_ hHeld (h := ?_); refine tk_ 7 55 HT_ HW_ hHeld (h := ?_); refine tk_ 8 56 HT_ HW_ hHeld (h := ?_); refine one_ (i := 9) (N := some 57) #[true, true, true, true, true, true, true, true, true, true, false, false, false, false, false] rfl rfl (one_of HT_.out (by kernel_rfl)) (by decide) (fun K hK => ?_); refine goes_ Try.func23 (by kernel_rfl) rfl #[.slice A322_0 (rd_L4 y312 x44_2).length c322_0, .slice A323_0 (rd_L4 y312 x40_1).length c323_0, .agg #[.int .i64 a1_0, .int .i64 a1_1]] (by rfl) rfl rfl any_s ?_; with_reducible refine (probe_Pair.calls k2 (fun k_ => k_ < w.heap.size) _ _ (rd_L4 y312 x44_2) (fun k_ => k_ < w.heap.size) _ _ (rd_L4 y312 x40_1) a1_0 a1_1 t324 t327 _ ?side1 ?side2 A28.out).mono ?_
                    (case side1 => exact Kd.V_mk HC322_0.out (Kd.F_below (Kd.C_F k95_heap HR322_0.out) bel_s))
                    (case side2 => exact Kd.V_mk HC323_0.out (Kd.F_below (Kd.C_F k95_heap HR323_0.out) bel_s))
                    rintro e wze2 ⟨v325, rfl, hoxd6e21, hb⟩; refine ⟨_, rfl, ?_⟩; have n0_ := Aside0.mk (Kd.R_below (by (with_reducible repeat (first | apply Kd.R_alloc | apply Kd.R_drewN | apply Kd.R_drew)); exact HO_5.out) hb); have n1_ := Aside0.mk (Kd.R_lower (Kd.R_mono (ok' := fun k_ => True) hoxd6e21 (fun _ hk_ => trivial)) bz_s); have n2_ := kp BK311 hb; have n3_ := st HB hb; clear HO_5; clear BK311; clear HB; have HO_5 := n0_; have HO326 := n1_; have BK311 := n2_; have HB := n3_; clear n0_ n1_ n2_ n3_
                    (try clear hb)
                    (try clear hb2)
                    (try clear hk)
                    (try clear hi)
                    (try clear hoxd6e21)
                    refine hK.out _ _ ⟨bc BK311 0, bc BK311 1, (cl HB hw322_0), (cl HB hw323_0)⟩ (fun hHeld => ?_); clear hK K; refine norm_ (a' := ?_) ?_ ?_; rotate_left
                    · show Act.put _ (some 57) _ = _; simp only [Act.put, List.setIfInBounds_toArray, List.set_cons_zero, List.set_cons_succ, i64_w, i32_w]; rfl
                    refine pu_ 10 47 HT_ (h := ?_); refine pu_ 11 58 HT_ (h := ?_); refine pu_ 12 59 HT_ (h := ?_); refine pu_ 13 10 HT_ (h := ?_); refine pu_ 14 11 HT_ (h := ?_); refine done_ (done_of HT_.out (by kernel_rfl)) ?_; obtain ⟨Aoze1, coze1, eoze1⟩ := Kd.R_slice HO326.out; subst eoze1
                    try go_wp2
                    go_loopg [68] k2 (fun kq v68 w' => ∃ (x68_3 : Int), v68 = .int .i64 x68_3 ∧ Aside0 (skywaykeep1_ProbeAll.l2 kq y312 t318 (wrap64 (x7_2 + (t324.length : Int))) x40_1 x44_2 (y312.length : Int) x40_1 x40_1 x44_2 t324 (t324.length : Int) x68_3 a1_0 a1_1 = some r) ∧ Aside0 (kq ≤ k2) ∧ Aside0 (Kd.R k64 64 w' w.heap.size (fun _ => True) v319 t318) ∧ Aside0 (Kd.R k62 62 w' w.heap.size (fun _ => True) (.slice Aoze1 t324.length coze1) t324) ∧ Aside0 (w'.heap[gb311]? = some (.cells #[.int .i64 a1_0, .int .i64 a1_1] 51 (0, 0))) ∧ Aside0 (Below w.heap.size w w'))
                    case atStart => exact ⟨(0), (by first | rfl | (simp; done) | (simp [*]; done)), H', ⟨Nat.le_refl _⟩, ⟨by (with_reducible repeat (first | apply Kd.R_alloc | apply Kd.R_drewN | apply Kd.R_drew)); exact HO_5.out⟩, ⟨by (with_reducible repeat (first | apply Kd.R_alloc | apply Kd.R_drewN | apply Kd.R_drew)); exact HO326.out⟩, ⟨by (with_reducible repeat (first | refine blk_drewN ?_ _ | refine blk_drew ?_ | refine blk_alloc ?_ _)); exact BK311.out⟩, ⟨by repeat (first | (with_reducible first | exact HB.out | apply below_alloc | apply pw_below_drewN | apply below_drew1 | refine below_set ?_ GE311.out) | exact HB.out)⟩⟩
                    case round =>
                     clear H'
                     (try clear c1); (try clear p1); (try clear q1); (try clear c2); (try clear p2); (try clear c3); (try clear p3); (try clear q3); (try clear hx3); (try clear c4); (try clear c4b0); (try clear c4b1); (try clear c5); (try clear c5b0); (try clear c5b1); (try clear p6); (try clear c7); (try clear c9); (try clear q11); (try clear c15); (try clear c15b0); (try clear c15b1); (try clear q17); (try clear c20); (try clear c21); (try clear c22); (try clear c22b0); (try clear c23); (try clear c23b0); (try clear c24); (try clear c24b0); (try clear c25); (try clear c25b0); (try clear c26); (try clear c26b0); (try clear c27); (try clear c27b0); (try clear c29); (try clear c29b0); (try clear c29b1)
                     (try clear c32); (try clear p32); (try clear q32); (try clear hx32); (try clear hczxd61c1); (try clear hczxd61c2); (try clear hfzxd61c1); (try clear hfzxd61c2); (try clear hx322_0); (try clear hx323_0); (try clear p1); (try clear p2); (try clear p322); (try clear p323); (try clear q1); (try clear q11); (try clear q17); (try clear q322); (try clear q323)
                     obtain ⟨x68_3, rfl, HA, HK3, HO_5, HO_66, BK311, HB⟩ := hrel
                     cases gk with
                     | zero => exact absurd HA.out (by simp [skywaykeep1_ProbeAll.l2])
                     | succ k3 =>
                      have H := HA.out; clear HA; simp only [skywaykeep1_ProbeAll.l2] at H; refine Or.elim (Classical.em (x68_3 < (t324.length : Int))) (fun c33 => ?p17_) (fun c33 => ?n17_)
                      case' p17_ =>
                       rw [if_pos c33] at H; have c33b0 : decide (x68_3 < (t324.length : Int)) = true := decide_eq_true c33; clear c33; refine Or.elim (Classical.em (0 ≤ x68_3)) (fun c34 => ?p18_) (fun c34 => ?n18_)
                       case' p18_ =>
                        rw [if_pos c34] at H; have c34b0 : decide (0 ≤ x68_3) = true := decide_eq_true c34; clear c34; refine Or.elim (Classical.em (x68_3 < (t324.length : Int))) (fun c35 => ?p19_) (fun c35 => ?n19_)
                        case' p19_ =>
                         rw [if_pos c35] at H; have c35b0 : decide (x68_3 < (t324.length : Int)) = true := decide_eq_true c35; clear c35; have hm16_0 := Aside0.mk trivial
                        case' n19_ =>
                         rw [if_neg c35] at H; exact absurd H (by simp)
                       case' n18_ =>
                        rw [if_neg c34] at H; exact absurd H (by simp)
                      case' n17_ =>
                       rw [if_neg c33] at H; have c33b0 : decide (x68_3 < (t324.length : Int)) = false := decide_eq_false c33; clear c33; have hm16_1 := Aside0.mk trivial
                      all_goals
                       have H' := Aside0.mk H; clear H
                       first
                        | clear hm16_0
                          have p328 : 0 ≤ (x68_3 : Int) := of_decide_eq_true (by first | (with_reducible assumption) | assumption)
                          have q328 : x68_3 < (t324.length : Int) := of_decide_eq_true (by first | (with_reducible assumption) | assumption)
                          obtain ⟨ad328, e328, hx328_0, hx328_1⟩ := at_T62 (Kd.R_reads' HO_66.out).2.2 x68_3 p328 q328; cases e328; replace p328 := eq_true p328; replace q328 := eq_true q328
                          go_wp2_with (first | ((with_reducible refine gate_dst (N := 13) rfl ?_); refine box_s #[.int .i64 0, .int .i64 0] 62 ?_; intro gb329 hg wx0b6c1 hbox hb; have n0_ := Aside0.mk (Kd.R_below (by (with_reducible repeat (first | apply Kd.R_alloc | apply Kd.R_drewN | apply Kd.R_drew)); exact HO_5.out) hb); have n1_ := Aside0.mk (Kd.R_below (Kd.R_elderB (by (with_reducible repeat (first | apply Kd.R_alloc | apply Kd.R_drewN | apply Kd.R_drew)); exact HO_66.out) gb329 (Nat.le_of_eq hg.symm)) hb); have n2_ := kp BK311 hb; have n3_ := st HB hb; have n4_ := Aside0.mk (hbox); have n5_ := ge HB hg; have n6_ := ge HB hg; have n7_ := nl BK311 hg; have n8_ := nr BK311 hg; clear HO_5; clear HO_66; clear BK311; clear HB; have HO_5 := n0_; have HO_66 := n1_; have BK311 := n2_; have HB := n3_; have BK329 := n4_; have GW329 := n5_; have GE329 := n6_; have NB311_329 := n7_; have NB329_311 := n8_; clear n0_ n1_ n2_ n3_ n4_ n5_ n6_ n7_ n8_; clear hb hbox hg; have hnbx0b6c1 := NB329_311.out; have hncx0b6c1 := NB311_329.out; have hczx0b6c1 : wx0b6c1.cell? ⟨gb329, 0, none⟩ = some (.int .i64 0) := bc BK329 0; have hczx0b6c2 : wx0b6c1.cell? ⟨gb329, 1, none⟩ = some (.int .i64 0) := bc BK329 1; have hfzx0b6c1 := blk_frozen BK329.out 0; have hfzx0b6c2 := blk_frozen BK329.out 1; obtain ⟨Aox0b6c1, cox0b6c1, eox0b6c1⟩ := Kd.R_slice HO_5.out; subst eox0b6c1))
                          go_loopg [14, 74] k3 (fun kq v14 v74 w' => ∃ (x14_4 : Bool) (x74_4 : Int), v14 = .bool x14_4 ∧ v74 = .int .i64 x74_4 ∧ Aside0 (skywaykeep1_ProbeAll.l3 kq y312 t318 (wrap64 (x7_2 + (t324.length : Int))) x40_1 x44_2 x14_4 (y312.length : Int) x40_1 x40_1 x44_2 t324 (t324.length : Int) x68_3 t318 (t318.length : Int) x74_4 a1_0 a1_1 ((rd_T62 t324 x68_3).f0) ((rd_T62 t324 x68_3).f1) = some r) ∧ Aside0 (kq ≤ k3) ∧ Aside0 (Kd.R k64 64 w' w.heap.size (fun _ => True) (.slice Aox0b6c1 t318.length cox0b6c1) t318) ∧ Aside0 (Kd.R k62 62 w' w.heap.size (fun k_ => k_ ≠ gb329) (.slice (some ad328) t324.length coze1) t324) ∧ Aside0 (Kd.R k64 64 w' w.heap.size (fun _ => True) (.slice Aox0b6c1 t318.length cox0b6c1) t318) ∧ Aside0 (w'.heap[gb311]? = some (.cells #[.int .i64 a1_0, .int .i64 a1_1] 51 (0, 0))) ∧ Aside0 (w'.heap[gb329]? = some (.cells #[.int .i64 ((rd_T62 t324 x68_3).f0), .int .i64 ((rd_T62 t324 x68_3).f1)] 62 (0, 0))) ∧ Aside0 (Below w.heap.size w w'))
                          case atStart => exact ⟨(false), (0), (by first | rfl | (simp; done) | (simp [*]; done)), (by first | rfl | (simp; done) | (simp [*]; done)), H', ⟨Nat.le_refl _⟩, ⟨by (with_reducible repeat (first | apply Kd.R_alloc | apply Kd.R_drewN | apply Kd.R_drew)); exact Kd.R_mono (Kd.R_far (p := ⟨gb329, 1, none⟩) (Kd.R_far (p := ⟨gb329, 0, none⟩) (Kd.R_types HO_5.out BK329.out (by decide)) (fun _ hk => hk.2) (.int .i64 ((rd_T62 t324 x68_3).f0))) (fun _ hk => hk.2) (.int .i64 ((rd_T62 t324 x68_3).f1))) (fun _ hk => trivial)⟩, ⟨by (with_reducible repeat (first | apply Kd.R_alloc | apply Kd.R_drewN | apply Kd.R_drew)); exact Kd.R_mono (Kd.R_far (p := ⟨gb329, 1, none⟩) (Kd.R_far (p := ⟨gb329, 0, none⟩) (Kd.R_mono HO_66.out (fun k_ hk => (⟨hk, hk.2⟩ : _ ∧ k_ ≠ gb329))) (fun _ hk => hk.2) (.int .i64 ((rd_T62 t324 x68_3).f0))) (fun _ hk => hk.2) (.int .i64 ((rd_T62 t324 x68_3).f1))) (fun _ hk => hk.1.2)⟩, ⟨by (with_reducible repeat (first | apply Kd.R_alloc | apply Kd.R_drewN | apply Kd.R_drew)); exact Kd.R_mono (Kd.R_far (p := ⟨gb329, 1, none⟩) (Kd.R_far (p := ⟨gb329, 0, none⟩) (Kd.R_types HO_5.out BK329.out (by decide)) (fun _ hk => hk.2) (.int .i64 ((rd_T62 t324 x68_3).f0))) (fun _ hk => hk.2) (.int .i64 ((rd_T62 t324 x68_3).f1))) (fun _ hk => trivial)⟩, ⟨by (with_reducible repeat (first | refine blk_drewN ?_ _ | refine blk_drew ?_ | refine blk_alloc ?_ _)); refine blk_far ?_ NB311_329.out _; (with_reducible repeat (first | refine blk_drewN ?_ _ | refine blk_drew ?_ | refine blk_alloc ?_ _)); refine blk_far ?_ NB311_329.out _; (with_reducible repeat (first | refine blk_drewN ?_ _ | refine blk_drew ?_ | refine blk_alloc ?_ _)); exact BK311.out⟩, ⟨by (with_reducible repeat (first | refine blk_drewN ?_ _ | refine blk_drew ?_ | refine blk_alloc ?_ _)); refine blk_put (cs := #[.int .i64 ((rd_T62 t324 x68_3).f0), .int .i64 0]) ?_ 1 _ rfl; (with_reducible repeat (first | refine blk_drewN ?_ _ | refine blk_drew ?_ | refine blk_alloc ?_ _)); refine blk_put (cs := #[.int .i64 0, .int .i64 0]) ?_ 0 _ rfl; (with_reducible repeat (first | refine blk_drewN ?_ _ | refine blk_drew ?_ | refine blk_alloc ?_ _)); exact BK329.out⟩, ⟨by repeat (first | (with_reducible first | exact HB.out | apply below_alloc | apply pw_below_drewN | apply below_drew1 | refine below_set ?_ GE311.out | refine below_set ?_ GE329.out) | exact HB.out)⟩⟩
                          case round =>
                           clear H'
                           (try clear c1); (try clear p1); (try clear q1); (try clear c2); (try clear p2); (try clear c3); (try clear p3); (try clear q3); (try clear hx3); (try clear c4); (try clear c4b0); (try clear c4b1); (try clear c5); (try clear c5b0); (try clear c5b1); (try clear p6); (try clear c7); (try clear c9); (try clear q11); (try clear c15); (try clear c15b0); (try clear c15b1); (try clear q17); (try clear c20); (try clear c21); (try clear c22); (try clear c22b0); (try clear c23); (try clear c23b0); (try clear c24); (try clear c24b0); (try clear c25); (try clear c25b0); (try clear c26); (try clear c26b0); (try clear c27); (try clear c27b0); (try clear c29); (try clear c29b0); (try clear c29b1)
                           (try clear c32); (try clear p32); (try clear q32); (try clear hx32); (try clear c33); (try clear c33b0); (try clear c34); (try clear c34b0); (try clear c35); (try clear c35b0); (try clear c37); (try clear hczxd61c1); (try clear hczxd61c2); (try clear hczx0b6c1); (try clear hczx0b6c2); (try clear hfzxd61c1); (try clear hfzxd61c2); (try clear hfzx0b6c1); (try clear hfzx0b6c2); (try clear hx322_0); (try clear hx323_0); (try clear hx328_0); (try clear hx328_1); (try clear p1); (try clear p2); (try clear p3); (try clear p32); (try clear p322); (try clear p323); (try clear p328); (try clear p6); (try clear q1); (try clear q11); (try clear q17); (try clear q3); (try clear q32); (try clear q322); (try clear q323); (try clear q328)
                           obtain ⟨x14_4, x74_4, rfl, rfl, HA, HK4, HO_5, HO_66, HO_72, BK311, BK329, HB⟩ := hrel
                           cases gk with
                           | zero => exact absurd HA.out (by simp [skywaykeep1_ProbeAll.l3])
                           | succ k4 =>
                            have H := HA.out; clear HA; simp only [skywaykeep1_ProbeAll.l3] at H; refine Or.elim (Classical.em (x74_4 < (t318.length : Int))) (fun c40 => ?p21_) (fun c40 => ?n21_)
                            case' p21_ =>
                             rw [if_pos c40] at H; have c40b0 : decide (x74_4 < (t318.length : Int)) = true := decide_eq_true c40; clear c40; refine Or.elim (Classical.em (0 ≤ x74_4)) (fun c41 => ?p22_) (fun c41 => ?n22_)
                             case' p22_ =>
                              rw [if_pos c41] at H; have c41b0 : decide (0 ≤ x74_4) = true := decide_eq_true c41; clear c41; refine Or.elim (Classical.em (x74_4 < (t318.length : Int))) (fun c42 => ?p23_) (fun c42 => ?n23_)
                              case' p23_ =>
                               rw [if_pos c42] at H; have c42b0 : decide (x74_4 < (t318.length : Int)) = true := decide_eq_true c42; clear c42; refine Or.elim (Classical.em (x14_4 = true)) (fun c43 => ?p24_) (fun c43 => ?n24_)
                               case' p24_ =>
                                subst c43
                                have H1 : (skywaykeep1_ProbeAll.l3 k4 y312 t318 (wrap64 (x7_2 + (t324.length : Int))) x40_1 x44_2 true (y312.length : Int) x40_1 x40_1 x44_2 t324 (t324.length : Int) x68_3 t318 (t318.length : Int) (wrap64 (x74_4 + 1)) a1_0 a1_1 ((rd_T62 t324 x68_3).f0) ((rd_T62 t324 x68_3).f1)) = some r := by rw [if_pos rfl] at H; exact H
                                clear H; have H := H1; clear H1; have hm20_0 := Aside0.mk trivial
                               case' n24_ =>
                                replace c43 := Bool.eq_false_iff.mpr c43; subst c43
                                have H1 : (skywaykeep1_ProbeAll.l3 k4 y312 t318 (wrap64 (x7_2 + (t324.length : Int))) x40_1 x44_2 (((rd_T64 t318 x74_4).f0) == x44_2 && (((rd_T64 t318 x74_4).f1) == x40_1 && (((rd_T64 t318 x74_4).f2) == ((rd_T62 t324 x68_3).f0) && (((rd_T64 t318 x74_4).f3) == (wrap64 (((rd_T62 t324 x68_3).f1) - 1)))))) (y312.length : Int) x40_1 x40_1 x44_2 t324 (t324.length : Int) x68_3 t318 (t318.length : Int) (wrap64 (x74_4 + 1)) a1_0 a1_1 ((rd_T62 t324 x68_3).f0) ((rd_T62 t324 x68_3).f1)) = some r := by rw [if_neg (show ¬ (false = true) by decide)] at H; exact H
                                clear H; have H := H1; clear H1; have hm20_0 := Aside0.mk trivial
                              case' n23_ =>
                               rw [if_neg c42] at H; exact absurd H (by simp)
                             case' n22_ =>
                              rw [if_neg c41] at H; exact absurd H (by simp)
                            case' n21_ =>
                             rw [if_neg c40] at H; have c40b0 : decide (x74_4 < (t318.length : Int)) = false := decide_eq_false c40; clear c40; refine Or.elim (Classical.em (x14_4 = true)) (fun c54 => ?p25_) (fun c54 => ?n25_)
                             case' p25_ =>
                              subst c54
                              have H1 : (skywaykeep1_ProbeAll.l2 k4 y312 t318 (wrap64 (x7_2 + (t324.length : Int))) x40_1 x44_2 (y312.length : Int) x40_1 x40_1 x44_2 t324 (t324.length : Int) (wrap64 (x68_3 + 1)) a1_0 a1_1) = some r := by rw [if_pos rfl] at H; exact H
                              clear H; have H := H1; clear H1; have hm20_1 := Aside0.mk trivial
                             case' n25_ =>
                              replace c54 := Bool.eq_false_iff.mpr c54; subst c54
                              have H1 : (some false) = some r := by rw [if_neg (show ¬ (false = true) by decide)] at H; exact H
                              clear H; have H := H1; clear H1; have hm20_2 := Aside0.mk trivial
                            all_goals
                             first
                              | (first | (have _hm := hm20_0) | (have _hm := hm20_1))
                                have H' := Aside0.mk H; clear H
                                first
                                 | clear hm20_0
                                   have p330 : 0 ≤ (x74_4 : Int) := of_decide_eq_true (by first | (with_reducible assumption) | assumption)
                                   have q330 : x74_4 < (t318.length : Int) := of_decide_eq_true (by first | (with_reducible assumption) | assumption)
                                   obtain ⟨ad330, e330, hx330_0, hx330_1, hx330_2, hx330_3⟩ := at_T64 (Kd.R_reads' HO_72.out).2.2 x74_4 p330 q330; cases e330; replace p330 := eq_true p330; replace q330 := eq_true q330
                                   go_wp2_with (first | ((with_reducible refine gate_dst (N := 16) rfl ?_); refine box_s #[.int .i64 0, .int .i64 0, .int .i64 0, .int .i64 0] 64 ?_; intro gb331 hg wxdb2d1 hbox hb; have n0_ := Aside0.mk (Kd.R_below (Kd.R_elderB (by (with_reducible repeat (first | apply Kd.R_alloc | apply Kd.R_drewN | apply Kd.R_drew)); exact HO_5.out) gb331 (Nat.le_of_eq hg.symm)) hb); have n1_ := Aside0.mk (Kd.R_below (by (with_reducible repeat (first | apply Kd.R_alloc | apply Kd.R_drewN | apply Kd.R_drew)); exact HO_66.out) hb); have n2_ := Aside0.mk (Kd.R_below (Kd.R_elderB (by (with_reducible repeat (first | apply Kd.R_alloc | apply Kd.R_drewN | apply Kd.R_drew)); exact HO_72.out) gb331 (Nat.le_of_eq hg.symm)) hb); have n3_ := kp BK311 hb; have n4_ := kp BK329 hb; have n5_ := st HB hb; have n6_ := Aside0.mk (hbox); have n7_ := ge HB hg; have n8_ := ge HB hg; have n9_ := nl BK311 hg; have n10_ := nr BK311 hg; have n11_ := nl BK329 hg; have n12_ := nr BK329 hg; clear HO_5; clear HO_66; clear HO_72; clear BK311; clear BK329; clear HB; have HO_5 := n0_; have HO_66 := n1_; have HO_72 := n2_; have BK311 := n3_; have BK329 := n4_; have HB := n5_; have BK331 := n6_; have GW331 := n7_; have GE331 := n8_; have NB311_331 := n9_; have NB331_311 := n10_; have NB329_331 := n11_; have NB331_329 := n12_; clear n0_ n1_ n2_ n3_ n4_ n5_ n6_ n7_ n8_ n9_ n10_ n11_ n12_; clear hb hbox hg; have hnbxdb2d1 := NB331_311.out; have hncxdb2d1 := NB311_331.out; have hnbxdb2d2 := NB331_329.out; have hncxdb2d2 := NB329_331.out; have hczxdb2d1 : wxdb2d1.cell? ⟨gb331, 0, none⟩ = some (.int .i64 0) := bc BK331 0; have hczxdb2d2 : wxdb2d1.cell? ⟨gb331, 1, none⟩ = some (.int .i64 0) := bc BK331 1; have hczxdb2d3 : wxdb2d1.cell? ⟨gb331, 2, none⟩ = some (.int .i64 0) := bc BK331 2; have hczxdb2d4 : wxdb2d1.cell? ⟨gb331, 3, none⟩ = some (.int .i64 0) := bc BK331 3; have hfzxdb2d1 := blk_frozen BK331.out 0; have hfzxdb2d2 := blk_frozen BK331.out 1; have hfzxdb2d3 := blk_frozen BK331.out 2; have hfzxdb2d4 := blk_frozen BK331.out 3; have hnbxdb2d3 := NB329_311.out; have hncxdb2d3 := NB311_329.out; have hczxdb2d5 : wxdb2d1.cell? ⟨gb329, 0, none⟩ = some (.int .i64 ((rd_T62 t324 x68_3).f0)) := bc BK329 0; have hczxdb2d6 : wxdb2d1.cell? ⟨gb329, 1, none⟩ = some (.int .i64 ((rd_T62 t324 x68_3).f1)) := bc BK329 1; have hfzxdb2d5 := blk_frozen BK329.out 0; have hfzxdb2d6 := blk_frozen BK329.out 1) | ((with_reducible refine gate_dst (N := 16) rfl ?_); refine box_s #[.int .i64 0, .int .i64 0, .int .i64 0, .int .i64 0] 64 ?_; intro gb331 hg wx362c1 hbox hb; have n0_ := Aside0.mk (Kd.R_below (Kd.R_elderB (by (with_reducible repeat (first | apply Kd.R_alloc | apply Kd.R_drewN | apply Kd.R_drew)); exact HO_5.out) gb331 (Nat.le_of_eq hg.symm)) hb); have n1_ := Aside0.mk (Kd.R_below (by (with_reducible repeat (first | apply Kd.R_alloc | apply Kd.R_drewN | apply Kd.R_drew)); exact HO_66.out) hb); have n2_ := Aside0.mk (Kd.R_below (Kd.R_elderB (by (with_reducible repeat (first | apply Kd.R_alloc | apply Kd.R_drewN | apply Kd.R_drew)); exact HO_72.out) gb331 (Nat.le_of_eq hg.symm)) hb); have n3_ := kp BK311 hb; have n4_ := kp BK329 hb; have n5_ := st HB hb; have n6_ := Aside0.mk (hbox); have n7_ := ge HB hg; have n8_ := ge HB hg; have n9_ := nl BK311 hg; have n10_ := nr BK311 hg; have n11_ := nl BK329 hg; have n12_ := nr BK329 hg; clear HO_5; clear HO_66; clear HO_72; clear BK311; clear BK329; clear HB; have HO_5 := n0_; have HO_66 := n1_; have HO_72 := n2_; have BK311 := n3_; have BK329 := n4_; have HB := n5_; have BK331 := n6_; have GW331 := n7_; have GE331 := n8_; have NB311_331 := n9_; have NB331_311 := n10_; have NB329_331 := n11_; have NB331_329 := n12_; clear n0_ n1_ n2_ n3_ n4_ n5_ n6_ n7_ n8_ n9_ n10_ n11_ n12_; clear hb hbox hg; have hnbx362c1 := NB331_311.out; have hncx362c1 := NB311_331.out; have hnbx362c2 := NB331_329.out; have hncx362c2 := NB329_331.out; have hczx362c1 : wx362c1.cell? ⟨gb331, 0, none⟩ = some (.int .i64 0) := bc BK331 0; have hczx362c2 : wx362c1.cell? ⟨gb331, 1, none⟩ = some (.int .i64 0) := bc BK331 1; have hczx362c3 : wx362c1.cell? ⟨gb331, 2, none⟩ = some (.int .i64 0) := bc BK331 2; have hczx362c4 : wx362c1.cell? ⟨gb331, 3, none⟩ = some (.int .i64 0) := bc BK331 3; have hfzx362c1 := blk_frozen BK331.out 0; have hfzx362c2 := blk_frozen BK331.out 1; have hfzx362c3 := blk_frozen BK331.out 2; have hfzx362c4 := blk_frozen BK331.out 3))
                                   go_roundg k4
                                   case measure => have := HK1.out; have := HK2.out; have := HK3.out; have := HK4.out; omega
                                   case rel => first | (exact ⟨(true), (wrap64 (x74_4 + 1)), (by first | rfl | (simp; done) | (simp [*]; done)), (by first | rfl | (simp; done) | (simp [*]; done)), H', ⟨by have := HK1.out; have := HK2.out; have := HK3.out; have := HK4.out; omega⟩, ⟨by (with_reducible repeat (first | apply Kd.R_alloc | apply Kd.R_drewN | apply Kd.R_drew)); exact Kd.R_mono (Kd.R_far (p := ⟨gb331, 3, none⟩) (Kd.R_far (p := ⟨gb331, 2, none⟩) (Kd.R_far (p := ⟨gb331, 1, none⟩) (Kd.R_far (p := ⟨gb331, 0, none⟩) (Kd.R_mono HO_5.out (fun k_ hk => (⟨hk, hk.2⟩ : _ ∧ k_ ≠ gb331))) (fun _ hk => hk.2) (.int .i64 ((rd_T64 t318 x74_4).f0))) (fun _ hk => hk.2) (.int .i64 ((rd_T64 t318 x74_4).f1))) (fun _ hk => hk.2) (.int .i64 ((rd_T64 t318 x74_4).f2))) (fun _ hk => hk.2) (.int .i64 ((rd_T64 t318 x74_4).f3))) (fun _ hk => trivial)⟩, ⟨by (with_reducible repeat (first | apply Kd.R_alloc | apply Kd.R_drewN | apply Kd.R_drew)); exact Kd.R_mono (Kd.R_far (p := ⟨gb331, 3, none⟩) (Kd.R_far (p := ⟨gb331, 2, none⟩) (Kd.R_far (p := ⟨gb331, 1, none⟩) (Kd.R_far (p := ⟨gb331, 0, none⟩) (Kd.R_types HO_66.out BK331.out (by decide)) (fun _ hk => hk.2) (.int .i64 ((rd_T64 t318 x74_4).f0))) (fun _ hk => hk.2) (.int .i64 ((rd_T64 t318 x74_4).f1))) (fun _ hk => hk.2) (.int .i64 ((rd_T64 t318 x74_4).f2))) (fun _ hk => hk.2) (.int .i64 ((rd_T64 t318 x74_4).f3))) (fun _ hk => hk.1)⟩, ⟨by (with_reducible repeat (first | apply Kd.R_alloc | apply Kd.R_drewN | apply Kd.R_drew)); exact Kd.R_mono (Kd.R_far (p := ⟨gb331, 3, none⟩) (Kd.R_far (p := ⟨gb331, 2, none⟩) (Kd.R_far (p := ⟨gb331, 1, none⟩) (Kd.R_far (p := ⟨gb331, 0, none⟩) (Kd.R_mono HO_72.out (fun k_ hk => (⟨hk, hk.2⟩ : _ ∧ k_ ≠ gb331))) (fun _ hk => hk.2) (.int .i64 ((rd_T64 t318 x74_4).f0))) (fun _ hk => hk.2) (.int .i64 ((rd_T64 t318 x74_4).f1))) (fun _ hk => hk.2) (.int .i64 ((rd_T64 t318 x74_4).f2))) (fun _ hk => hk.2) (.int .i64 ((rd_T64 t318 x74_4).f3))) (fun _ hk => trivial)⟩, ⟨by (with_reducible repeat (first | refine blk_drewN ?_ _ | refine blk_drew ?_ | refine blk_alloc ?_ _)); refine blk_far ?_ NB311_331.out _; (with_reducible repeat (first | refine blk_drewN ?_ _ | refine blk_drew ?_ | refine blk_alloc ?_ _)); refine blk_far ?_ NB311_331.out _; (with_reducible repeat (first | refine blk_drewN ?_ _ | refine blk_drew ?_ | refine blk_alloc ?_ _)); refine blk_far ?_ NB311_331.out _; (with_reducible repeat (first | refine blk_drewN ?_ _ | refine blk_drew ?_ | refine blk_alloc ?_ _)); refine blk_far ?_ NB311_331.out _; (with_reducible repeat (first | refine blk_drewN ?_ _ | refine blk_drew ?_ | refine blk_alloc ?_ _)); exact BK311.out⟩, ⟨by (with_reducible repeat (first | refine blk_drewN ?_ _ | refine blk_drew ?_ | refine blk_alloc ?_ _)); refine blk_far ?_ NB329_331.out _; (with_reducible repeat (first | refine blk_drewN ?_ _ | refine blk_drew ?_ | refine blk_alloc ?_ _)); refine blk_far ?_ NB329_331.out _; (with_reducible repeat (first | refine blk_drewN ?_ _ | refine blk_drew ?_ | refine blk_alloc ?_ _)); refine blk_far ?_ NB329_331.out _; (with_reducible repeat (first | refine blk_drewN ?_ _ | refine blk_drew ?_ | refine blk_alloc ?_ _)); refine blk_far ?_ NB329_331.out _; (with_reducible repeat (first | refine blk_drewN ?_ _ | refine blk_drew ?_ | refine blk_alloc ?_ _)); exact BK329.out⟩, ⟨by repeat (first | (with_reducible first | exact HB.out | apply below_alloc | apply pw_below_drewN | apply below_drew1 | refine below_set ?_ GE311.out | refine below_set ?_ GE329.out | refine below_set ?_ GE331.out) | exact HB.out)⟩⟩) | (exact ⟨((((rd_T64 t318 x74_4).f0) == x44_2 && (((rd_T64 t318 x74_4).f1) == x40_1 && (((rd_T64 t318 x74_4).f2) == ((rd_T62 t324 x68_3).f0) && (((rd_T64 t318 x74_4).f3) == (wrap64 (((rd_T62 t324 x68_3).f1) - 1))))))), (wrap64 (x74_4 + 1)), (by first | rfl | (simp; done) | (simp [*]; done)), (by first | rfl | (simp; done) | (simp [*]; done)), H', ⟨by have := HK1.out; have := HK2.out; have := HK3.out; have := HK4.out; omega⟩, ⟨by (with_reducible repeat (first | apply Kd.R_alloc | apply Kd.R_drewN | apply Kd.R_drew)); exact Kd.R_mono (Kd.R_far (p := ⟨gb331, 3, none⟩) (Kd.R_far (p := ⟨gb331, 2, none⟩) (Kd.R_far (p := ⟨gb331, 1, none⟩) (Kd.R_far (p := ⟨gb331, 0, none⟩) (Kd.R_mono HO_5.out (fun k_ hk => (⟨hk, hk.2⟩ : _ ∧ k_ ≠ gb331))) (fun _ hk => hk.2) (.int .i64 ((rd_T64 t318 x74_4).f0))) (fun _ hk => hk.2) (.int .i64 ((rd_T64 t318 x74_4).f1))) (fun _ hk => hk.2) (.int .i64 ((rd_T64 t318 x74_4).f2))) (fun _ hk => hk.2) (.int .i64 ((rd_T64 t318 x74_4).f3))) (fun _ hk => trivial)⟩, ⟨by (with_reducible repeat (first | apply Kd.R_alloc | apply Kd.R_drewN | apply Kd.R_drew)); exact Kd.R_mono (Kd.R_far (p := ⟨gb331, 3, none⟩) (Kd.R_far (p := ⟨gb331, 2, none⟩) (Kd.R_far (p := ⟨gb331, 1, none⟩) (Kd.R_far (p := ⟨gb331, 0, none⟩) (Kd.R_types HO_66.out BK331.out (by decide)) (fun _ hk => hk.2) (.int .i64 ((rd_T64 t318 x74_4).f0))) (fun _ hk => hk.2) (.int .i64 ((rd_T64 t318 x74_4).f1))) (fun _ hk => hk.2) (.int .i64 ((rd_T64 t318 x74_4).f2))) (fun _ hk => hk.2) (.int .i64 ((rd_T64 t318 x74_4).f3))) (fun _ hk => hk.1)⟩, ⟨by (with_reducible repeat (first | apply Kd.R_alloc | apply Kd.R_drewN | apply Kd.R_drew)); exact Kd.R_mono (Kd.R_far (p := ⟨gb331, 3, none⟩) (Kd.R_far (p := ⟨gb331, 2, none⟩) (Kd.R_far (p := ⟨gb331, 1, none⟩) (Kd.R_far (p := ⟨gb331, 0, none⟩) (Kd.R_mono HO_72.out (fun k_ hk => (⟨hk, hk.2⟩ : _ ∧ k_ ≠ gb331))) (fun _ hk => hk.2) (.int .i64 ((rd_T64 t318 x74_4).f0))) (fun _ hk => hk.2) (.int .i64 ((rd_T64 t318 x74_4).f1))) (fun _ hk => hk.2) (.int .i64 ((rd_T64 t318 x74_4).f2))) (fun _ hk => hk.2) (.int .i64 ((rd_T64 t318 x74_4).f3))) (fun _ hk => trivial)⟩, ⟨by (with_reducible repeat (first | refine blk_drewN ?_ _ | refine blk_drew ?_ | refine blk_alloc ?_ _)); refine blk_far ?_ NB311_331.out _; (with_reducible repeat (first | refine blk_drewN ?_ _ | refine blk_drew ?_ | refine blk_alloc ?_ _)); refine blk_far ?_ NB311_331.out _; (with_reducible repeat (first | refine blk_drewN ?_ _ | refine blk_drew ?_ | refine blk_alloc ?_ _)); refine blk_far ?_ NB311_331.out _; (with_reducible repeat (first | refine blk_drewN ?_ _ | refine blk_drew ?_ | refine blk_alloc ?_ _)); refine blk_far ?_ NB311_331.out _; (with_reducible repeat (first | refine blk_drewN ?_ _ | refine blk_drew ?_ | refine blk_alloc ?_ _)); exact BK311.out⟩, ⟨by (with_reducible repeat (first | refine blk_drewN ?_ _ | refine blk_drew ?_ | refine blk_alloc ?_ _)); refine blk_far ?_ NB329_331.out _; (with_reducible repeat (first | refine blk_drewN ?_ _ | refine blk_drew ?_ | refine blk_alloc ?_ _)); refine blk_far ?_ NB329_331.out _; (with_reducible repeat (first | refine blk_drewN ?_ _ | refine blk_drew ?_ | refine blk_alloc ?_ _)); refine blk_far ?_ NB329_331.out _; (with_reducible repeat (first | refine blk_drewN ?_ _ | refine blk_drew ?_ | refine blk_alloc ?_ _)); refine blk_far ?_ NB329_331.out _; (with_reducible repeat (first | refine blk_drewN ?_ _ | refine blk_drew ?_ | refine blk_alloc ?_ _)); exact BK329.out⟩, ⟨by repeat (first | (with_reducible first | exact HB.out | apply below_alloc | apply pw_below_drewN | apply below_drew1 | refine below_set ?_ GE311.out | refine below_set ?_ GE329.out | refine below_set ?_ GE331.out) | exact HB.out)⟩⟩)
                                 | clear hm20_1; go_wp2; go_roundg k4
                                   case measure => have := HK1.out; have := HK2.out; have := HK3.out; have := HK4.out; omega
                                   case rel => exact ⟨(wrap64 (x68_3 + 1)), (by first | rfl | (simp; done) | (simp [*]; done)), H', ⟨by have := HK1.out; have := HK2.out; have := HK3.out; have := HK4.out; omega⟩, ⟨by (with_reducible repeat (first | apply Kd.R_alloc | apply Kd.R_drewN | apply Kd.R_drew)); exact HO_5.out⟩, ⟨by (with_reducible repeat (first | apply Kd.R_alloc | apply Kd.R_drewN | apply Kd.R_drew)); exact Kd.R_mono HO_66.out (fun _ hk => trivial)⟩, ⟨by (with_reducible repeat (first | refine blk_drewN ?_ _ | refine blk_drew ?_ | refine blk_alloc ?_ _)); exact BK311.out⟩, ⟨by repeat (first | (with_reducible first | exact HB.out | apply below_alloc | apply pw_below_drewN | apply below_drew1 | refine below_set ?_ GE311.out | refine below_set ?_ GE329.out) | exact HB.out)⟩⟩
                              | clear hm20_2; obtain rfl := Option.some.inj H; go_wp2; go_ret
                                exact ⟨by first | rfl | (simp [errW_none, errW_some] <;> rfl) | (simp only [← hji3]; first | rfl | (simp [errW_none, errW_some] <;> rfl)) | (simp [*, errW_none, errW_some] <;> rfl), by repeat (first | (with_reducible first | exact HB.out | apply below_alloc | apply pw_below_drewN | apply below_drew1 | refine below_set ?_ GE311.out | refine below_set ?_ GE329.out) | exact HB.out)⟩
                        | clear hm16_1; go_wp2; go_roundg k3
                          case measure => have := HK1.out; have := HK2.out; have := HK3.out; omega
                          case rel => exact ⟨((wrap64 (x7_2 + (t324.length : Int)))), (wrap64 (x44_2 + 1)), (by first | rfl | (simp; done) | (simp [*]; done)), (by first | rfl | (simp; done) | (simp [*]; done)), H', ⟨by have := HK1.out; have := HK2.out; have := HK3.out; omega⟩, ⟨by (with_reducible repeat (first | apply Kd.R_alloc | apply Kd.R_drewN | apply Kd.R_drew)); exact HO_5.out⟩, ⟨by (with_reducible repeat (first | refine blk_drewN ?_ _ | refine blk_drew ?_ | refine blk_alloc ?_ _)); exact BK311.out⟩, ⟨by repeat (first | (with_reducible first | exact HB.out | apply below_alloc | apply pw_below_drewN | apply below_drew1 | refine below_set ?_ GE311.out) | exact HB.out)⟩⟩
                  | clear hm9_2; go_wp2; go_roundg k2
                    case measure => have := HK1.out; have := HK2.out; omega
                    case rel => exact ⟨(x7_2), (wrap64 (x40_1 + 1)), (by first | rfl | (simp; done) | (simp [*]; done)), (by first | rfl | (simp; done) | (simp [*]; done)), H', ⟨by have := HK1.out; have := HK2.out; omega⟩, ⟨by (with_reducible repeat (first | apply Kd.R_alloc | apply Kd.R_drewN | apply Kd.R_drew)); exact HO_5.out⟩, ⟨by (with_reducible repeat (first | refine blk_drewN ?_ _ | refine blk_drew ?_ | refine blk_alloc ?_ _)); exact BK311.out⟩, ⟨by repeat (first | (with_reducible first | exact HB.out | apply below_alloc | apply pw_below_drewN | apply below_drew1 | refine below_set ?_ GE311.out) | exact HB.out)⟩⟩
               | clear hm9_1; obtain rfl := Option.some.inj H
                 try go_wp2
                 have n0_ := Aside0.mk (Kd.R_drew HO_5.out); have n1_ := Aside0.mk (blk_drew BK311.out); have n2_ := Aside0.mk (below_drew1 HB.out); clear HO_5; clear BK311; clear HB; have HO_5 := n0_; have BK311 := n1_; have HB := n2_; clear n0_ n1_ n2_
                 have p322 : 0 ≤ (x44_2 : Int) := of_decide_eq_true (by first | (with_reducible assumption) | assumption)
                 have q322 : x44_2 < (y312.length : Int) := of_decide_eq_true (by first | (with_reducible assumption) | assumption)
                 obtain ⟨ad322, A322_0, c322_0, e322, hx322_0, hl322_0, hi322_0⟩ := at_L4 HR315.out x44_2 p322 q322; have hw322_0 := hx322_0; cases e322; replace hx322_0 := cl HB hx322_0; have HR322_0 := Aside0.mk hi322_0; have HC322_0 := Aside0.mk hl322_0; clear hi322_0 hl322_0; replace p322 := eq_true p322; replace q322 := eq_true q322
                 have p323 : 0 ≤ (x40_1 : Int) := of_decide_eq_true (by first | (with_reducible assumption) | assumption)
                 have q323 : x40_1 < (y312.length : Int) := of_decide_eq_true (by first | (with_reducible assumption) | assumption)
                 obtain ⟨ad323, A323_0, c323_0, e323, hx323_0, hl323_0, hi323_0⟩ := at_L4 HR315.out x40_1 p323 q323; have hw323_0 := hx323_0; obtain rfl : ad322 = ad323 := (by injection e323); replace hx323_0 := cl HB hx323_0; have HR323_0 := Aside0.mk hi323_0; have HC323_0 := Aside0.mk hl323_0; clear hi323_0 hl323_0; replace p323 := eq_true p323; replace q323 := eq_true q323; refine start_ (n := 15) (S := fun w' => w'.cell? ⟨gb311, 0, none⟩ = some (.int .i64 a1_0) ∧ w'.cell? ⟨gb311, 1, none⟩ = some (.int .i64 a1_1) ∧ w'.cell? (ad322.add (x44_2).toNat) = some (.slice A322_0 (rd_L4 y312 x44_2).length c322_0) ∧ w'.cell? (ad322.add (x40_1).toNat) = some (.slice A323_0 (rd_L4 y312 x40_1).length c323_0)) (ds := []) #[false, false, false, false, false, false, false, false, false, false, false, false, false, false, false] (by kernel_rfl) rfl rfl ⟨bc BK311 0, bc BK311 1, (cl HB hw322_0), (cl HB hw323_0)⟩ (fun hHeld => ?_); refine with_tabW skywaykeep1_ProbeAll.tab16 skywaykeep1_ProbeAll.bits16 (fun HT_ HW_ => ?_); generalize wr.drew = wze1 at HO_5 BK311 HB HR322_0 HR323_0 hx322_0 hx323_0 hHeld ⊢; refine pu_ 0 48 HT_ (h := ?_); refine pu_ 1 49 HT_ (h := ?_); refine pu_ 2 50 HT_ (h := ?_); refine pu_ 4 52 HT_ (h := ?_); refine pu_ 5 53 HT_ (h := ?_); refine pu_ 6 54 HT_ (h := ?_); refine tk_ 3 51 HT_ HW_ hHeld (h := ?_); refine tk_ 7 55 HT_ HW_ hHeld (h := ?_); refine tk_ 8 56 HT_ HW_ hHeld (h := ?_); refine one_ (i := 9) (N := some 57) #[true, true, true, true, true, true, true, true, true, true, false, false, false, false, false] rfl rfl (one_of HT_.out (by kernel_rfl)) (by decide) (fun K hK => ?_); refine goes_ Try.func23 (by kernel_rfl) rfl #[.slice A322_0 (rd_L4 y312 x44_2).length c322_0, .slice A323_0 (rd_L4 y312 x40_1).length c323_0, .agg #[.int .i64 a1_0, .int .i64 a1_1]] (by rfl) rfl rfl any_s ?_; with_reducible refine (probe_Pair.calls k2 (fun k_ => k_ < w.heap.size) _ _ (rd_L4 y312 x44_2) (fun k_ => k_ < w.heap.size) _ _ (rd_L4 y312 x40_1) a1_0 a1_1 t324 t327 _ ?side1 ?side2 A28.out).mono ?_
                 (case side1 => exact Kd.V_mk HC322_0.out (Kd.F_below (Kd.C_F k95_heap HR322_0.out) bel_s))
                 (case side2 => exact Kd.V_mk HC323_0.out (Kd.F_below (Kd.C_F k95_heap HR323_0.out) bel_s))
                 rintro e wze2 ⟨v325, rfl, hoxd6e21, hb⟩; refine ⟨_, rfl, ?_⟩; have n0_ := Aside0.mk (Kd.R_below (by (with_reducible repeat (first | apply Kd.R_alloc | apply Kd.R_drewN | apply Kd.R_drew)); exact HO_5.out) hb); have n1_ := Aside0.mk (Kd.R_lower (Kd.R_mono (ok' := fun k_ => True) hoxd6e21 (fun _ hk_ => trivial)) bz_s); have n2_ := kp BK311 hb; have n3_ := st HB hb; clear HO_5; clear BK311; clear HB; have HO_5 := n0_; have HO326 := n1_; have BK311 := n2_; have HB := n3_; clear n0_ n1_ n2_ n3_
                 (try clear hb)
                 (try clear hb2)
                 (try clear hk)
                 (try clear hi)
                 (try clear hoxd6e21)
                 refine hK.out _ _ ⟨bc BK311 0, bc BK311 1, (cl HB hw322_0), (cl HB hw323_0)⟩ (fun hHeld => ?_); clear hK K; refine norm_ (a' := ?_) ?_ ?_; rotate_left
                 · show Act.put _ (some 57) _ = _; simp only [Act.put, List.setIfInBounds_toArray, List.set_cons_zero, List.set_cons_succ, i64_w, i32_w]; rfl
                 refine pu_ 10 47 HT_ (h := ?_); refine pu_ 11 58 HT_ (h := ?_); refine pu_ 12 59 HT_ (h := ?_); refine pu_ 13 10 HT_ (h := ?_); refine pu_ 14 11 HT_ (h := ?_); refine done_ (done_of HT_.out (by kernel_rfl)) ?_
                 try go_wp2
                 go_ret
                 exact ⟨by first | rfl | (simp [errW_none, errW_some] <;> rfl) | (simp only [← hji3]; first | rfl | (simp [errW_none, errW_some] <;> rfl)) | (simp [*, errW_none, errW_some] <;> rfl), by repeat (first | (with_reducible first | exact HB.out | apply below_alloc | apply pw_below_drewN | apply below_drew1 | refine below_set ?_ GE311.out) | exact HB.out)⟩
         | clear hm7_1; go_loopg [17] k1 (fun kq v17 w' => ∃ (x17_2 : Int), v17 = .int .i64 x17_2 ∧ Aside0 (skywaykeep1_ProbeAll.l4 kq t318 x7_1 x17_2 = some r) ∧ Aside0 (kq ≤ k1) ∧ Aside0 (Kd.R k64 64 w' w.heap.size (fun _ => True) v319 t318) ∧ Aside0 (w'.heap[gb311]? = some (.cells #[.int .i64 a1_0, .int .i64 a1_1] 51 (0, 0))) ∧ Aside0 (Below w.heap.size w w'))
           case atStart => exact ⟨(1), (by first | rfl | (simp; done) | (simp [*]; done)), H', ⟨Nat.le_refl _⟩, ⟨by (with_reducible repeat (first | apply Kd.R_alloc | apply Kd.R_drewN | apply Kd.R_drew)); exact HO_5.out⟩, ⟨by (with_reducible repeat (first | refine blk_drewN ?_ _ | refine blk_drew ?_ | refine blk_alloc ?_ _)); exact BK311.out⟩, ⟨by repeat (first | (with_reducible first | exact HB.out | apply below_alloc | apply pw_below_drewN | apply below_drew1 | refine below_set ?_ GE311.out) | exact HB.out)⟩⟩
           case round =>
            clear H'
            (try clear c1); (try clear p1); (try clear q1); (try clear c2); (try clear p2); (try clear c3); (try clear p3); (try clear q3); (try clear hx3); (try clear c4); (try clear c4b0); (try clear c4b1); (try clear c5); (try clear c5b0); (try clear c5b1); (try clear p6); (try clear c7); (try clear c9); (try clear q11); (try clear c15); (try clear c15b0); (try clear c15b1); (try clear q17); (try clear c20); (try clear c21); (try clear c22); (try clear c22b0); (try clear c23); (try clear c23b0); (try clear c24); (try clear c24b0); (try clear c25); (try clear c25b0); (try clear c26); (try clear c26b0); (try clear c27); (try clear c27b0); (try clear c29); (try clear c29b0); (try clear c29b1)
            (try clear c32); (try clear p32); (try clear q32); (try clear hx32); (try clear c33); (try clear c33b0); (try clear p33); (try clear q33); (try clear hx33); (try clear c34); (try clear c34b0); (try clear c35); (try clear c35b0); (try clear c37); (try clear c40); (try clear c40b0); (try clear c41); (try clear c41b0); (try clear c42); (try clear c42b0); (try clear c43); (try clear c45); (try clear c46); (try clear c49); (try clear c50); (try clear c52); (try clear c54); (try clear hczxd61c1); (try clear hczxd61c2); (try clear hczzc1); (try clear hczzc2); (try clear hczzc3); (try clear hczzc4); (try clear hczzc5); (try clear hczzc6); (try clear hczzc7); (try clear hczzc8); (try clear hczzc9); (try clear hczzc10); (try clear hczzc11)
            (try clear hczzc12); (try clear hfzxd61c1); (try clear hfzxd61c2); (try clear hfzzc1); (try clear hfzzc2); (try clear hfzzc3); (try clear hfzzc4); (try clear hfzzc5); (try clear hfzzc6); (try clear hfzzc7); (try clear hfzzc8); (try clear hfzzc9); (try clear hfzzc10); (try clear hfzzc11); (try clear hfzzc12); (try clear hx322_0); (try clear hx323_0); (try clear hx328_0); (try clear hx328_1); (try clear hx330_0); (try clear hx330_1); (try clear hx330_2); (try clear hx330_3); (try clear p1); (try clear p2); (try clear p3); (try clear p32); (try clear p322); (try clear p323); (try clear p328); (try clear p330); (try clear p6); (try clear q1); (try clear q11); (try clear q17); (try clear q3); (try clear q32); (try clear q322); (try clear q323); (try clear q328)
            (try clear q330)
            obtain ⟨x17_2, rfl, HA, HK2, HO_5, BK311, HB⟩ := hrel
            cases gk with
            | zero => exact absurd HA.out (by simp [skywaykeep1_ProbeAll.l4])
            | succ k2 =>
             have H := HA.out; clear HA; simp only [skywaykeep1_ProbeAll.l4] at H; refine Or.elim (Classical.em (x17_2 < (t318.length : Int))) (fun c57 => ?p27_) (fun c57 => ?n27_)
             case' p27_ =>
              rw [if_pos c57] at H; have c57b0 : decide (x17_2 < (t318.length : Int)) = true := decide_eq_true c57; clear c57; refine Or.elim (Classical.em (0 ≤ x17_2)) (fun c58 => ?p28_) (fun c58 => ?n28_)
              case' p28_ =>
               rw [if_pos c58] at H; have c58b0 : decide (0 ≤ x17_2) = true := decide_eq_true c58; clear c58; obtain ⟨ji59, hji59⟩ : ∃ j_ : Int, (wrap64 (x17_2 - 1)) = j_ := ⟨_, rfl⟩
               replace H : (if 0 ≤ (ji59) then (if (ji59) < (t318.length : Int) then (if ((rd_T64 t318 x17_2).f2) < ((rd_T64 t318 (ji59)).f2) then (some false) else (skywaykeep1_ProbeAll.l4 k2 t318 x7_1 (wrap64 (x17_2 + 1)))) else (none)) else (none)) = some r := by first | (rw [hji59] at H; exact H) | (simp only [hji59] at H ⊢; exact H)
               have hji59w : (IntKind.i64.wrap (x17_2 - 1)) = ji59 := (i64_w _).trans hji59; refine Or.elim (Classical.em (0 ≤ (ji59))) (fun c60 => ?p29_) (fun c60 => ?n29_)
               case' p29_ =>
                rw [if_pos c60] at H; have c60b0 : decide (0 ≤ (ji59)) = true := decide_eq_true c60; clear c60; refine Or.elim (Classical.em ((ji59) < (t318.length : Int))) (fun c61 => ?p30_) (fun c61 => ?n30_)
                case' p30_ =>
                 rw [if_pos c61] at H; have c61b0 : decide ((ji59) < (t318.length : Int)) = true := decide_eq_true c61; clear c61; refine Or.elim (Classical.em (((rd_T64 t318 x17_2).f2) < ((rd_T64 t318 (ji59)).f2))) (fun c62 => ?p31_) (fun c62 => ?n31_)
                 case' p31_ =>
                  rw [if_pos c62] at H; have c62b0 : decide (((rd_T64 t318 x17_2).f2) < ((rd_T64 t318 (ji59)).f2)) = true := decide_eq_true c62; clear c62; have hm26_0 := Aside0.mk trivial
                 case' n31_ =>
                  rw [if_neg c62] at H; have c62b0 : decide (((rd_T64 t318 x17_2).f2) < ((rd_T64 t318 (ji59)).f2)) = false := decide_eq_false c62; clear c62; have hm26_1 := Aside0.mk trivial
                case' n30_ =>
                 rw [if_neg c61] at H; exact absurd H (by simp)
               case' n29_ =>
                rw [if_neg c60] at H; exact absurd H (by simp)
              case' n28_ =>
               rw [if_neg c58] at H; exact absurd H (by simp)
             case' n27_ =>
              rw [if_neg c57] at H; have c57b0 : decide (x17_2 < (t318.length : Int)) = false := decide_eq_false c57; clear c57; have hm26_2 := Aside0.mk trivial
             all_goals
              first
               | (first | (have _hm := hm26_0) | (have _hm := hm26_2))
                 obtain rfl := Option.some.inj H; obtain ⟨Aoze1, coze1, eoze1⟩ := Kd.R_slice HO_5.out; subst eoze1
                 first
                  | clear hm26_0
                    try go_wp2
                    have n0_ := Aside0.mk (Kd.R_drew HO_5.out); have n1_ := Aside0.mk (blk_drew BK311.out); have n2_ := Aside0.mk (below_drew1 HB.out); clear HO_5; clear BK311; clear HB; have HO_5 := n0_; have BK311 := n1_; have HB := n2_; clear n0_ n1_ n2_
                    have p332 : 0 ≤ (x17_2 : Int) := of_decide_eq_true (by first | (with_reducible assumption) | assumption)
                    have q332 : x17_2 < (t318.length : Int) := of_decide_eq_true (by first | (with_reducible assumption) | assumption)
                    obtain ⟨ad332, e332, hx332_0, hx332_1, hx332_2, hx332_3⟩ := at_T64 (Kd.R_reads' HO_5.out).2.2 x17_2 p332 q332; cases e332; replace p332 := eq_true p332; replace q332 := eq_true q332
                    have p333 : 0 ≤ ((ji59) : Int) := of_decide_eq_true (by first | (with_reducible assumption) | assumption)
                    have q333 : (ji59) < (t318.length : Int) := of_decide_eq_true (by first | (with_reducible assumption) | assumption)
                    obtain ⟨ad333, e333, hx333_0, hx333_1, hx333_2, hx333_3⟩ := at_T64 (Kd.R_reads' HO_5.out).2.2 (ji59) p333 q333; obtain rfl : ad332 = ad333 := (by injection e333); replace p333 := eq_true p333; replace q333 := eq_true q333; refine start_ (n := 12) (S := fun w' => w'.cell? (ad332.add ((x17_2).toNat * 4)) = some (.int .i64 ((rd_T64 t318 x17_2).f0)) ∧ w'.cell? ⟨(ad332.add ((x17_2).toNat * 4)).block, (ad332.add ((x17_2).toNat * 4)).off + 1, none⟩ = some (.int .i64 ((rd_T64 t318 x17_2).f1)) ∧ w'.cell? ⟨(ad332.add ((x17_2).toNat * 4)).block, (ad332.add ((x17_2).toNat * 4)).off + 2, none⟩ = some (.int .i64 ((rd_T64 t318 x17_2).f2)) ∧ w'.cell? ⟨(ad332.add ((x17_2).toNat * 4)).block, (ad332.add ((x17_2).toNat * 4)).off + 3, none⟩ = some (.int .i64 ((rd_T64 t318 x17_2).f3)) ∧ w'.cell? (ad332.add (((ji59)).toNat * 4)) = some (.int .i64 ((rd_T64 t318 (ji59)).f0)) ∧ w'.cell? ⟨(ad332.add (((ji59)).toNat * 4)).block, (ad332.add (((ji59)).toNat * 4)).off + 1, none⟩ = some (.int .i64 ((rd_T64 t318 (ji59)).f1)) ∧ w'.cell? ⟨(ad332.add (((ji59)).toNat * 4)).block, (ad332.add (((ji59)).toNat * 4)).off + 2, none⟩ = some (.int .i64 ((rd_T64 t318 (ji59)).f2)) ∧ w'.cell? ⟨(ad332.add (((ji59)).toNat * 4)).block, (ad332.add (((ji59)).toNat * 4)).off + 3, none⟩ = some (.int .i64 ((rd_T64 t318 (ji59)).f3))) (ds := []) #[false, false, false, false, false, false, false, false, false, false, false, false] (by kernel_rfl) rfl rfl ⟨hx332_0, hx332_1, hx332_2, hx332_3, hx333_0, hx333_1, hx333_2, hx333_3⟩ (fun hHeld => ?_); refine with_tabW skywaykeep1_ProbeAll.tab37 skywaykeep1_ProbeAll.bits37 (fun HT_ HW_ => ?_); generalize wr.drew = wze1 at HO_5 BK311 HB hx332_0 hx332_1 hx332_2 hx332_3 hx333_0 hx333_1 hx333_2 hx333_3 hHeld ⊢; refine pu_ 0 103 HT_ (h := ?_); refine pu_ 1 104 HT_ (h := ?_); refine pu_ 2 105 HT_ (h := ?_); refine pu_ 3 106 HT_ (h := ?_); refine pu_ 5 108 HT_ (h := ?_); refine pu_ 6 109 HT_ (h := ?_); refine pu_ 7 110 HT_ (h := ?_); refine pu_ 8 111 HT_ (h := ?_); refine pu_ 9 112 HT_ (h := ?_); refine tk_ 4 107 HT_ HW_ hHeld (h := ?_); refine tk_ 10 113 HT_ HW_ hHeld (h := ?_); refine pu_ 11 114 HT_ (h := ?_); refine done_ (done_of HT_.out (by kernel_rfl)) ?_
                    try go_wp2
                    go_ret
                    exact ⟨by first | rfl | (simp [errW_none, errW_some] <;> rfl) | (simp only [← hji3, ← hji59]; first | rfl | (simp [errW_none, errW_some] <;> rfl)) | (simp [*, errW_none, errW_some] <;> rfl), by repeat (first | (with_reducible first | exact HB.out | apply below_alloc | apply pw_below_drewN | apply below_drew1 | refine below_set ?_ GE311.out) | exact HB.out)⟩
                  | clear hm26_2; go_wp2; go_ret
                    exact ⟨by first | rfl | (simp [errW_none, errW_some] <;> rfl) | (simp only [← hji3]; first | rfl | (simp [errW_none, errW_some] <;> rfl)) | (simp [*, errW_none, errW_some] <;> rfl), by repeat (first | (with_reducible first | exact HB.out | apply below_alloc | apply pw_below_drewN | apply below_drew1 | refine below_set ?_ GE311.out) | exact HB.out)⟩
               | clear hm26_1; have H' := Aside0.mk H; clear H; obtain ⟨Aoze1, coze1, eoze1⟩ := Kd.R_slice HO_5.out; subst eoze1
                 try go_wp2
                 have n0_ := Aside0.mk (Kd.R_drew HO_5.out); have n1_ := Aside0.mk (blk_drew BK311.out); have n2_ := Aside0.mk (below_drew1 HB.out); clear HO_5; clear BK311; clear HB; have HO_5 := n0_; have BK311 := n1_; have HB := n2_; clear n0_ n1_ n2_
                 have p332 : 0 ≤ (x17_2 : Int) := of_decide_eq_true (by first | (with_reducible assumption) | assumption)
                 have q332 : x17_2 < (t318.length : Int) := of_decide_eq_true (by first | (with_reducible assumption) | assumption)
                 obtain ⟨ad332, e332, hx332_0, hx332_1, hx332_2, hx332_3⟩ := at_T64 (Kd.R_reads' HO_5.out).2.2 x17_2 p332 q332; cases e332; replace p332 := eq_true p332; replace q332 := eq_true q332
                 have p333 : 0 ≤ ((ji59) : Int) := of_decide_eq_true (by first | (with_reducible assumption) | assumption)
                 have q333 : (ji59) < (t318.length : Int) := of_decide_eq_true (by first | (with_reducible assumption) | assumption)
                 obtain ⟨ad333, e333, hx333_0, hx333_1, hx333_2, hx333_3⟩ := at_T64 (Kd.R_reads' HO_5.out).2.2 (ji59) p333 q333; obtain rfl : ad332 = ad333 := (by injection e333); replace p333 := eq_true p333; replace q333 := eq_true q333; refine start_ (n := 12) (S := fun w' => w'.cell? (ad332.add ((x17_2).toNat * 4)) = some (.int .i64 ((rd_T64 t318 x17_2).f0)) ∧ w'.cell? ⟨(ad332.add ((x17_2).toNat * 4)).block, (ad332.add ((x17_2).toNat * 4)).off + 1, none⟩ = some (.int .i64 ((rd_T64 t318 x17_2).f1)) ∧ w'.cell? ⟨(ad332.add ((x17_2).toNat * 4)).block, (ad332.add ((x17_2).toNat * 4)).off + 2, none⟩ = some (.int .i64 ((rd_T64 t318 x17_2).f2)) ∧ w'.cell? ⟨(ad332.add ((x17_2).toNat * 4)).block, (ad332.add ((x17_2).toNat * 4)).off + 3, none⟩ = some (.int .i64 ((rd_T64 t318 x17_2).f3)) ∧ w'.cell? (ad332.add (((ji59)).toNat * 4)) = some (.int .i64 ((rd_T64 t318 (ji59)).f0)) ∧ w'.cell? ⟨(ad332.add (((ji59)).toNat * 4)).block, (ad332.add (((ji59)).toNat * 4)).off + 1, none⟩ = some (.int .i64 ((rd_T64 t318 (ji59)).f1)) ∧ w'.cell? ⟨(ad332.add (((ji59)).toNat * 4)).block, (ad332.add (((ji59)).toNat * 4)).off + 2, none⟩ = some (.int .i64 ((rd_T64 t318 (ji59)).f2)) ∧ w'.cell? ⟨(ad332.add (((ji59)).toNat * 4)).block, (ad332.add (((ji59)).toNat * 4)).off + 3, none⟩ = some (.int .i64 ((rd_T64 t318 (ji59)).f3))) (ds := []) #[false, false, false, false, false, false, false, false, false, false, false, false] (by kernel_rfl) rfl rfl ⟨hx332_0, hx332_1, hx332_2, hx332_3, hx333_0, hx333_1, hx333_2, hx333_3⟩ (fun hHeld => ?_); refine with_tabW skywaykeep1_ProbeAll.tab37 skywaykeep1_ProbeAll.bits37 (fun HT_ HW_ => ?_); generalize wr.drew = wze1 at HO_5 BK311 HB hx332_0 hx332_1 hx332_2 hx332_3 hx333_0 hx333_1 hx333_2 hx333_3 hHeld ⊢; refine pu_ 0 103 HT_ (h := ?_); refine pu_ 1 104 HT_ (h := ?_); refine pu_ 2 105 HT_ (h := ?_); refine pu_ 3 106 HT_ (h := ?_); refine pu_ 5 108 HT_ (h := ?_); refine pu_ 6 109 HT_ (h := ?_); refine pu_ 7 110 HT_ (h := ?_); refine pu_ 8 111 HT_ (h := ?_); refine pu_ 9 112 HT_ (h := ?_); refine tk_ 4 107 HT_ HW_ hHeld (h := ?_); refine tk_ 10 113 HT_ HW_ hHeld (h := ?_); refine pu_ 11 114 HT_ (h := ?_); refine done_ (done_of HT_.out (by kernel_rfl)) ?_
                 try go_wp2
                 first | go_roundg k2 | (subst hji59; go_roundg k2)
                 case measure => have := HK1.out; have := HK2.out; omega
                 case rel => exact ⟨(wrap64 (x17_2 + 1)), (by first | rfl | (simp; done) | (simp [*]; done)), H', ⟨by have := HK1.out; have := HK2.out; omega⟩, ⟨by (with_reducible repeat (first | apply Kd.R_alloc | apply Kd.R_drewN | apply Kd.R_drew)); exact HO_5.out⟩, ⟨by (with_reducible repeat (first | refine blk_drewN ?_ _ | refine blk_drew ?_ | refine blk_alloc ?_ _)); exact BK311.out⟩, ⟨by repeat (first | (with_reducible first | exact HB.out | apply below_alloc | apply pw_below_drewN | apply below_drew1 | refine below_set ?_ GE311.out) | exact HB.out)⟩⟩

/-- What is told of a value of struct type 41 that came in. -/
def good41 (x : S41) : Prop := ((Lit.int .i64 x.f0).wf = true) ∧ (Lit.int .i64 x.f1).wf = true
/-- What is told of a value of struct type 93 that came in. -/
def good93 (x : S93) : Prop := ((Lit.int .i64 x.f0).wf = true) ∧ (good41 x.f1) ∧ (Lit.int .i64 x.f2).wf = true
/-- What is told of a value of struct type 95 that came in. -/
def good95 (x : S95) : Prop := (good93 x.f0) ∧ ((Lit.int .i64 x.f1).wf = true) ∧ (Lit.int .i64 x.f2).wf = true
/-- What is told of a value of struct type 51 that came in. -/
def good51 (x : S51) : Prop := ((Lit.int .i64 x.f0).wf = true) ∧ (Lit.int .i64 x.f1).wf = true
/-- THE ONE PURE STATEMENT of skywaykeep1_ProbeAll. -/
def skywaykeep1_ProbeAll.Pure : Prop := ∀ (l0 : List (List (S95))) (a1_0 : Int) (a1_1 : Int), (l0.length * 24 ≤ 140737488351232 ∧ ∀ y0 ∈ l0, y0.length * 48 ≤ 140737488351232 ∧ ∀ y1 ∈ y0, good95 y1) → ((Lit.int .i64 a1_0).wf = true) → ((Lit.int .i64 a1_1).wf = true) → ∃ k, skywaykeep1_ProbeAll.f k l0 a1_0 a1_1 = some true

end Go.Proofs.Ythghilclgobpbaa.PProbeAll
