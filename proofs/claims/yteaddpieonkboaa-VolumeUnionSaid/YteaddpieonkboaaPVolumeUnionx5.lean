/- Made by a program of this session (wip/tools/myprint.py, over the kit's printer): that the Go functions answer as the Lean functions printed beside them. -/
import Derived.Test.YteaddpieonkboaaPVolumeUnionx0
import Derived.Test.YteaddpieonkboaaPVolumeUnionx3
import Derived.Test.YteaddpieonkboaaPVolumeUnionx4
namespace Go.Proofs.Yteaddpieonkboaa.PVolumeUnion
open Go.RowKit Go.Proofs.YteaddpieonkboaaW.PrintWords Go.Proofs.YteaddpieonkboaaW.PrintLast Go.Proofs.YteaddpieonkboaaW.PrintMore
attribute [local go_sem] max2_int min2_int max_two min_two max_three min_three max_four min_four   -- for this text's walks alone
set_option linter.unusedVariables false
set_option linter.unusedSimpArgs false

/-! ### skywaykeep1_VolumeUnion: function 11 -/
mutual
def skywaykeep1_VolumeUnion.j0 : Nat → Int → Bool → List (S58) → Int → List (S58) → Int → Bool → Int → Option (Bool)
  | 0, _, _, _, _, _, _, _, _ => none
  | k + 1, x1, x5, x7, x8, x9, x10, x11, x12 => (volume_During.f k x9 x1).bind fun bt168 => (if x8 = 0 then (if x10 = 0 then (if x12 = 0 then (if bt168.2 = 0 then (skywaykeep1_VolumeUnion.j1 k x1 x5 x7 bt168.1 (x11 != x5)) else (skywaykeep1_VolumeUnion.j1 k x1 x5 x7 bt168.1 true)) else (skywaykeep1_VolumeUnion.j1 k x1 x5 x7 bt168.1 true)) else (skywaykeep1_VolumeUnion.j1 k x1 x5 x7 bt168.1 true)) else (skywaykeep1_VolumeUnion.j1 k x1 x5 x7 bt168.1 true))
def skywaykeep1_VolumeUnion.j1 : Nat → Int → Bool → List (S58) → Bool → Bool → Option (Bool)
  | 0, _, _, _, _, _ => none
  | k + 1, x1, x5, x7, x13, x108 => if x108 = true then (some false) else (skywaykeep1_VolumeUnion.l0 k x1 x5 x7 x13 1)
def skywaykeep1_VolumeUnion.l0 : Nat → Int → Bool → List (S58) → Bool → Int → Option (Bool)
  | 0, _, _, _, _, _ => none
  | k + 1, x1, x5, x7, x13, x15 => if x15 < (x7.length : Int) then (if 0 ≤ x15 then (if 0 ≤ (wrap64 (x15 - 1)) then (if (wrap64 (x15 - 1)) < (x7.length : Int) then (if ((rd_T58 x7 x15).f0) ≤ ((rd_T58 x7 (wrap64 (x15 - 1))).f1) then (some false) else (skywaykeep1_VolumeUnion.l0 k x1 x5 x7 x13 (wrap64 (x15 + 1)))) else (none)) else (none)) else (none)) else (if x5 = true then (some (x13 == false)) else (if x1 ≥ 0 then (some (x13 == (decide (x1 < 200000)))) else (some (x13 == false))))
end
def skywaykeep1_VolumeUnion.f (k : Nat) (l0 : List (S58)) (a1 : Int) : Option (Bool) := (skywaykeep1_volumeWorks.f k).bind fun t151 => (if t151 = true then ((volume_During.f k l0 a1).bind fun bt152 => ((volume_Union.f k l0).bind fun bt154 => ((volume_Free.f k l0 0 200000).bind fun bt158 => (if bt152.2 = 0 then ((volume_During.f k bt154.1 a1).bind fun bt162 => (if (bt158.1.length : Int) > 256 then (if 1 ≤ (bt158.1.length : Int) then ((some (bt158.1.take (1 : Int).toNat : List (S58))).bind fun y164 => (if 0 < (y164.length : Int) then (if a1 ≥ ((rd_T58 y164 0).f1) then (if bt154.2 = 0 then (if bt158.2 = 0 then (if bt162.2 = 0 then (some (bt162.1 == bt152.1)) else (some false)) else (some false)) else (some false)) else (skywaykeep1_VolumeUnion.j0 k a1 bt152.1 bt154.1 bt154.2 y164 bt158.2 bt162.1 bt162.2)) else (none))) else (none)) else (skywaykeep1_VolumeUnion.j0 k a1 bt152.1 bt154.1 bt154.2 bt158.1 bt158.2 bt162.1 bt162.2))) else (if bt154.2 = bt152.2 then (if bt158.2 = bt152.2 then (some ((wrap64 ((bt154.1.length : Int) + (bt158.1.length : Int))) == 0)) else (some false)) else (some false)))))) else (some false))
theorem skywaykeep1_VolumeUnion.mono_l : ∀ k, (∀ y0 y1 y2 y3 y4 y5 y6 y7, LeO (skywaykeep1_VolumeUnion.j0 k y0 y1 y2 y3 y4 y5 y6 y7) (skywaykeep1_VolumeUnion.j0 (k + 1) y0 y1 y2 y3 y4 y5 y6 y7)) ∧ (∀ y0 y1 y2 y3 y4, LeO (skywaykeep1_VolumeUnion.j1 k y0 y1 y2 y3 y4) (skywaykeep1_VolumeUnion.j1 (k + 1) y0 y1 y2 y3 y4)) ∧ (∀ y0 y1 y2 y3 y4, LeO (skywaykeep1_VolumeUnion.l0 k y0 y1 y2 y3 y4) (skywaykeep1_VolumeUnion.l0 (k + 1) y0 y1 y2 y3 y4))
  | 0 => ⟨fun _ _ _ _ _ _ _ _ r h => by simp [skywaykeep1_VolumeUnion.j0] at h, fun _ _ _ _ _ r h => by simp [skywaykeep1_VolumeUnion.j1] at h, fun _ _ _ _ _ r h => by simp [skywaykeep1_VolumeUnion.l0] at h⟩
  | k + 1 => by
    obtain ⟨ih0, ih1, ih2⟩ := skywaykeep1_VolumeUnion.mono_l k
    refine ⟨?_, ?_, ?_⟩
    · intro y0 y1 y2 y3 y4 y5 y6 y7
      unfold skywaykeep1_VolumeUnion.j0
      repeat' first
      | (with_reducible exact ih0 _ _ _ _ _ _ _ _)
      | (with_reducible exact ih1 _ _ _ _ _)
      | (with_reducible exact ih2 _ _ _ _ _)
      | (with_reducible exact skywaykeep1_volumeWorks.mono _)
      | (with_reducible exact volume_During.mono _ _ _)
      | (with_reducible exact volume_Free.mono _ _ _ _)
      | (with_reducible exact volume_Union.mono _ _)
      | (with_reducible exact LeO.refl _)
      | (with_reducible exact LeO.none _)
      | (with_reducible refine LeO.ite ?_ ?_)
      | (with_reducible refine LeO.bind ?_ (fun _ => ?_))
      | exact ih0 _ _ _ _ _ _ _ _
      | exact ih1 _ _ _ _ _
      | exact ih2 _ _ _ _ _
      | exact skywaykeep1_volumeWorks.mono _
      | exact volume_During.mono _ _ _
      | exact volume_Free.mono _ _ _ _
      | exact volume_Union.mono _ _
      | exact LeO.none _
      | refine LeO.ite ?_ ?_
      | refine LeO.bind ?_ (fun _ => ?_)
    · intro y0 y1 y2 y3 y4
      unfold skywaykeep1_VolumeUnion.j1
      repeat' first
      | (with_reducible exact ih0 _ _ _ _ _ _ _ _)
      | (with_reducible exact ih1 _ _ _ _ _)
      | (with_reducible exact ih2 _ _ _ _ _)
      | (with_reducible exact skywaykeep1_volumeWorks.mono _)
      | (with_reducible exact volume_During.mono _ _ _)
      | (with_reducible exact volume_Free.mono _ _ _ _)
      | (with_reducible exact volume_Union.mono _ _)
      | (with_reducible exact LeO.refl _)
      | (with_reducible exact LeO.none _)
      | (with_reducible refine LeO.ite ?_ ?_)
      | (with_reducible refine LeO.bind ?_ (fun _ => ?_))
      | exact ih0 _ _ _ _ _ _ _ _
      | exact ih1 _ _ _ _ _
      | exact ih2 _ _ _ _ _
      | exact skywaykeep1_volumeWorks.mono _
      | exact volume_During.mono _ _ _
      | exact volume_Free.mono _ _ _ _
      | exact volume_Union.mono _ _
      | exact LeO.none _
      | refine LeO.ite ?_ ?_
      | refine LeO.bind ?_ (fun _ => ?_)
    · intro y0 y1 y2 y3 y4
      unfold skywaykeep1_VolumeUnion.l0
      repeat' first
      | (with_reducible exact ih0 _ _ _ _ _ _ _ _)
      | (with_reducible exact ih1 _ _ _ _ _)
      | (with_reducible exact ih2 _ _ _ _ _)
      | (with_reducible exact skywaykeep1_volumeWorks.mono _)
      | (with_reducible exact volume_During.mono _ _ _)
      | (with_reducible exact volume_Free.mono _ _ _ _)
      | (with_reducible exact volume_Union.mono _ _)
      | (with_reducible exact LeO.refl _)
      | (with_reducible exact LeO.none _)
      | (with_reducible refine LeO.ite ?_ ?_)
      | (with_reducible refine LeO.bind ?_ (fun _ => ?_))
      | exact ih0 _ _ _ _ _ _ _ _
      | exact ih1 _ _ _ _ _
      | exact ih2 _ _ _ _ _
      | exact skywaykeep1_volumeWorks.mono _
      | exact volume_During.mono _ _ _
      | exact volume_Free.mono _ _ _ _
      | exact volume_Union.mono _ _
      | exact LeO.none _
      | refine LeO.ite ?_ ?_
      | refine LeO.bind ?_ (fun _ => ?_)
theorem skywaykeep1_VolumeUnion.mono : ∀ a0 a1 k, LeO (skywaykeep1_VolumeUnion.f k a0 a1) (skywaykeep1_VolumeUnion.f (k + 1) a0 a1) := by
  intro a0 a1 k
  obtain ⟨ih0, ih1, ih2⟩ := skywaykeep1_VolumeUnion.mono_l k
  unfold skywaykeep1_VolumeUnion.f
  repeat' first
      | (with_reducible exact ih0 _ _ _ _ _ _ _ _)
      | (with_reducible exact ih1 _ _ _ _ _)
      | (with_reducible exact ih2 _ _ _ _ _)
      | (with_reducible exact skywaykeep1_volumeWorks.mono _)
      | (with_reducible exact volume_During.mono _ _ _)
      | (with_reducible exact volume_Free.mono _ _ _ _)
      | (with_reducible exact volume_Union.mono _ _)
      | (with_reducible exact LeO.refl _)
      | (with_reducible exact LeO.none _)
      | (with_reducible refine LeO.ite ?_ ?_)
      | (with_reducible refine LeO.bind ?_ (fun _ => ?_))
      | exact ih0 _ _ _ _ _ _ _ _
      | exact ih1 _ _ _ _ _
      | exact ih2 _ _ _ _ _
      | exact skywaykeep1_volumeWorks.mono _
      | exact volume_During.mono _ _ _
      | exact volume_Free.mono _ _ _ _
      | exact volume_Union.mono _ _
      | exact LeO.none _
      | refine LeO.ite ?_ ?_
      | refine LeO.bind ?_ (fun _ => ?_)
set_option maxHeartbeats 8000000 in
set_option maxRecDepth 100000 in
theorem skywaykeep1_VolumeUnion.calls (k : Nat) (A0 : Option Addr) (c0 : Nat) (l0 : List (S58)) (a1 : Int) (r : Bool) (w : World) (hr0 : Kd.C k58 w A0 l0.length l0) (hc0 : l0.length ≤ c0) (h : skywaykeep1_VolumeUnion.f k l0 a1 = some r) :
    Calls Try.prog 11 #[.slice A0 l0.length c0, .int .i64 a1] w fun e w' => e = .returned (.bool r) ∧ Below w.heap.size w w' := by
 have HR0 := Aside0.mk hr0
 have HC0 := Aside0.mk hc0
 clear hr0 hc0
 have HB := Aside0.mk (Below.refl w.heap.size w)
 have H : ((skywaykeep1_volumeWorks.f k).bind fun t151 => (if t151 = true then ((volume_During.f k l0 a1).bind fun bt152 => ((volume_Union.f k l0).bind fun bt154 => ((volume_Free.f k l0 0 200000).bind fun bt158 => (if bt152.2 = 0 then ((volume_During.f k bt154.1 a1).bind fun bt162 => (if (bt158.1.length : Int) > 256 then (if 1 ≤ (bt158.1.length : Int) then ((some (bt158.1.take (1 : Int).toNat : List (S58))).bind fun y164 => (if 0 < (y164.length : Int) then (if a1 ≥ ((rd_T58 y164 0).f1) then (if bt154.2 = 0 then (if bt158.2 = 0 then (if bt162.2 = 0 then (some (bt162.1 == bt152.1)) else (some false)) else (some false)) else (some false)) else (skywaykeep1_VolumeUnion.j0 k a1 bt152.1 bt154.1 bt154.2 y164 bt158.2 bt162.1 bt162.2)) else (none))) else (none)) else (skywaykeep1_VolumeUnion.j0 k a1 bt152.1 bt154.1 bt154.2 bt158.1 bt158.2 bt162.1 bt162.2))) else (if bt154.2 = bt152.2 then (if bt158.2 = bt152.2 then (some ((wrap64 ((bt154.1.length : Int) + (bt158.1.length : Int))) == 0)) else (some false)) else (some false)))))) else (some false))) = some r := h
 clear h
 replace H := Option.bind_eq_some_iff.mp H
 obtain ⟨t151, A30, H⟩ := H
 replace H : (if t151 = true then ((volume_During.f k l0 a1).bind fun bt152 => ((volume_Union.f k l0).bind fun bt154 => ((volume_Free.f k l0 0 200000).bind fun bt158 => (if bt152.2 = 0 then ((volume_During.f k bt154.1 a1).bind fun bt162 => (if (bt158.1.length : Int) > 256 then (if 1 ≤ (bt158.1.length : Int) then ((some (bt158.1.take (1 : Int).toNat : List (S58))).bind fun y164 => (if 0 < (y164.length : Int) then (if a1 ≥ ((rd_T58 y164 0).f1) then (if bt154.2 = 0 then (if bt158.2 = 0 then (if bt162.2 = 0 then (some (bt162.1 == bt152.1)) else (some false)) else (some false)) else (some false)) else (skywaykeep1_VolumeUnion.j0 k a1 bt152.1 bt154.1 bt154.2 y164 bt158.2 bt162.1 bt162.2)) else (none))) else (none)) else (skywaykeep1_VolumeUnion.j0 k a1 bt152.1 bt154.1 bt154.2 bt158.1 bt158.2 bt162.1 bt162.2))) else (if bt154.2 = bt152.2 then (if bt158.2 = bt152.2 then (some ((wrap64 ((bt154.1.length : Int) + (bt158.1.length : Int))) == 0)) else (some false)) else (some false)))))) else (some false)) = some r := H
 have A3 := Aside0.mk A30
 clear A30
 refine Or.elim (Classical.em (t151 = true)) (fun c4 => ?p2_) (fun c4 => ?n2_)
 case' p2_ =>
  subst c4
  have H1 : ((volume_During.f k l0 a1).bind fun bt152 => ((volume_Union.f k l0).bind fun bt154 => ((volume_Free.f k l0 0 200000).bind fun bt158 => (if bt152.2 = 0 then ((volume_During.f k bt154.1 a1).bind fun bt162 => (if (bt158.1.length : Int) > 256 then (if 1 ≤ (bt158.1.length : Int) then ((some (bt158.1.take (1 : Int).toNat : List (S58))).bind fun y164 => (if 0 < (y164.length : Int) then (if a1 ≥ ((rd_T58 y164 0).f1) then (if bt154.2 = 0 then (if bt158.2 = 0 then (if bt162.2 = 0 then (some (bt162.1 == bt152.1)) else (some false)) else (some false)) else (some false)) else (skywaykeep1_VolumeUnion.j0 k a1 bt152.1 bt154.1 bt154.2 y164 bt158.2 bt162.1 bt162.2)) else (none))) else (none)) else (skywaykeep1_VolumeUnion.j0 k a1 bt152.1 bt154.1 bt154.2 bt158.1 bt158.2 bt162.1 bt162.2))) else (if bt154.2 = bt152.2 then (if bt158.2 = bt152.2 then (some ((wrap64 ((bt154.1.length : Int) + (bt158.1.length : Int))) == 0)) else (some false)) else (some false)))))) = some r := by rw [if_pos rfl] at H; exact H
  clear H
  have H := H1
  clear H1
  replace H := Option.bind_eq_some_iff.mp H
  obtain ⟨⟨t152, t153⟩, A50, H⟩ := H
  replace H : ((volume_Union.f k l0).bind fun bt154 => ((volume_Free.f k l0 0 200000).bind fun bt158 => (if t153 = 0 then ((volume_During.f k bt154.1 a1).bind fun bt162 => (if (bt158.1.length : Int) > 256 then (if 1 ≤ (bt158.1.length : Int) then ((some (bt158.1.take (1 : Int).toNat : List (S58))).bind fun y164 => (if 0 < (y164.length : Int) then (if a1 ≥ ((rd_T58 y164 0).f1) then (if bt154.2 = 0 then (if bt158.2 = 0 then (if bt162.2 = 0 then (some (bt162.1 == t152)) else (some false)) else (some false)) else (some false)) else (skywaykeep1_VolumeUnion.j0 k a1 t152 bt154.1 bt154.2 y164 bt158.2 bt162.1 bt162.2)) else (none))) else (none)) else (skywaykeep1_VolumeUnion.j0 k a1 t152 bt154.1 bt154.2 bt158.1 bt158.2 bt162.1 bt162.2))) else (if bt154.2 = t153 then (if bt158.2 = t153 then (some ((wrap64 ((bt154.1.length : Int) + (bt158.1.length : Int))) == 0)) else (some false)) else (some false))))) = some r := H
  have A5 := Aside0.mk A50
  clear A50
  replace H := Option.bind_eq_some_iff.mp H
  obtain ⟨⟨t154, t155⟩, A60, H⟩ := H
  replace H : ((volume_Free.f k l0 0 200000).bind fun bt158 => (if t153 = 0 then ((volume_During.f k t154 a1).bind fun bt162 => (if (bt158.1.length : Int) > 256 then (if 1 ≤ (bt158.1.length : Int) then ((some (bt158.1.take (1 : Int).toNat : List (S58))).bind fun y164 => (if 0 < (y164.length : Int) then (if a1 ≥ ((rd_T58 y164 0).f1) then (if t155 = 0 then (if bt158.2 = 0 then (if bt162.2 = 0 then (some (bt162.1 == t152)) else (some false)) else (some false)) else (some false)) else (skywaykeep1_VolumeUnion.j0 k a1 t152 t154 t155 y164 bt158.2 bt162.1 bt162.2)) else (none))) else (none)) else (skywaykeep1_VolumeUnion.j0 k a1 t152 t154 t155 bt158.1 bt158.2 bt162.1 bt162.2))) else (if t155 = t153 then (if bt158.2 = t153 then (some ((wrap64 ((t154.length : Int) + (bt158.1.length : Int))) == 0)) else (some false)) else (some false)))) = some r := H
  have A6 := Aside0.mk A60
  clear A60
  replace H := Option.bind_eq_some_iff.mp H
  obtain ⟨⟨t158, t159⟩, A70, H⟩ := H
  replace H : (if t153 = 0 then ((volume_During.f k t154 a1).bind fun bt162 => (if (t158.length : Int) > 256 then (if 1 ≤ (t158.length : Int) then ((some (t158.take (1 : Int).toNat : List (S58))).bind fun y164 => (if 0 < (y164.length : Int) then (if a1 ≥ ((rd_T58 y164 0).f1) then (if t155 = 0 then (if t159 = 0 then (if bt162.2 = 0 then (some (bt162.1 == t152)) else (some false)) else (some false)) else (some false)) else (skywaykeep1_VolumeUnion.j0 k a1 t152 t154 t155 y164 t159 bt162.1 bt162.2)) else (none))) else (none)) else (skywaykeep1_VolumeUnion.j0 k a1 t152 t154 t155 t158 t159 bt162.1 bt162.2))) else (if t155 = t153 then (if t159 = t153 then (some ((wrap64 ((t154.length : Int) + (t158.length : Int))) == 0)) else (some false)) else (some false))) = some r := H
  have A7 := Aside0.mk A70
  clear A70
  refine Or.elim (Classical.em (t153 = 0)) (fun c8 => ?p3_) (fun c8 => ?n3_)
  case' p3_ =>
   rw [if_pos c8] at H
   have c8b0 : (t153 == 0) = true := beq_iff_eq.mpr c8
   have c8b1 : (t153 != 0) = false := bne_eq_false_iff_eq.mpr c8
   clear c8
   replace H := Option.bind_eq_some_iff.mp H
   obtain ⟨⟨t162, t163⟩, A90, H⟩ := H
   replace H : (if (t158.length : Int) > 256 then (if 1 ≤ (t158.length : Int) then ((some (t158.take (1 : Int).toNat : List (S58))).bind fun y164 => (if 0 < (y164.length : Int) then (if a1 ≥ ((rd_T58 y164 0).f1) then (if t155 = 0 then (if t159 = 0 then (if t163 = 0 then (some (t162 == t152)) else (some false)) else (some false)) else (some false)) else (skywaykeep1_VolumeUnion.j0 k a1 t152 t154 t155 y164 t159 t162 t163)) else (none))) else (none)) else (skywaykeep1_VolumeUnion.j0 k a1 t152 t154 t155 t158 t159 t162 t163)) = some r := H
   have A9 := Aside0.mk A90
   clear A90
   have HC10 := Aside0.mk H
   clear H
   have hm1_0 := Aside0.mk trivial
  case' n3_ =>
   rw [if_neg c8] at H
   have c8b0 : (t153 == 0) = false := beq_eq_false_iff_ne.mpr c8
   have c8b1 : (t153 != 0) = true := bne_iff_ne.mpr c8
   refine Or.elim (Classical.em (t155 = t153)) (fun c47 => ?p4_) (fun c47 => ?n4_)
   case' p4_ =>
    rw [if_pos c47] at H
    have c47b0 : (t155 == t153) = true := beq_iff_eq.mpr c47
    have c47b1 : (t155 != t153) = false := bne_eq_false_iff_eq.mpr c47
    clear c47
    refine Or.elim (Classical.em (t159 = t153)) (fun c48 => ?p5_) (fun c48 => ?n5_)
    case' p5_ =>
     rw [if_pos c48] at H
     have c48b0 : (t159 == t153) = true := beq_iff_eq.mpr c48
     have c48b1 : (t159 != t153) = false := bne_eq_false_iff_eq.mpr c48
     clear c48
     have hm1_1 := Aside0.mk trivial
    case' n5_ =>
     rw [if_neg c48] at H
     have c48b0 : (t159 == t153) = false := beq_eq_false_iff_ne.mpr c48
     have c48b1 : (t159 != t153) = true := bne_iff_ne.mpr c48
     have hm1_2 := Aside0.mk trivial
   case' n4_ =>
    rw [if_neg c47] at H
    have c47b0 : (t155 == t153) = false := beq_eq_false_iff_ne.mpr c47
    have c47b1 : (t155 != t153) = true := bne_iff_ne.mpr c47
    have hm1_2 := Aside0.mk trivial
 case' n2_ =>
  replace c4 := Bool.eq_false_iff.mpr c4
  subst c4
  have H1 : (some false) = some r := by rw [if_neg (show ¬ (false = true) by decide)] at H; exact H
  clear H
  have H := H1
  clear H1
  have hm1_3 := Aside0.mk trivial
 all_goals
  first
   | clear hm1_0
     go_enter Try.func11, Try.ntmps11
     go_upto_if 60 with (first | (go_at_call 31; (with_reducible refine (skywaykeep1_volumeWorks.calls k  true _ A3.out).mono ?_); rintro e wx81ac1 ⟨rfl, hb⟩; have n0_ := Aside0.mk (below_step (by repeat (first | (with_reducible first | exact HB.out | apply below_alloc | apply pw_below_drewN | apply below_drew1) | exact HB.out)) hb); clear HB; have HB := n0_; clear n0_; (try clear hb); (try clear hb2); (try clear hk); (try clear hi)) | (go_at_call 34; (with_reducible refine (volume_During.calls k _ _ l0 a1 t152 t153 _ ?side1 ?side2 A5.out).mono ?_); (case side1 => repeat (first | exact (Kd.C_below HR0.out HB.out) | (with_reducible refine Kd.C_alloc ?_ _) | (with_reducible refine Kd.C_drewN ?_ _) | (with_reducible refine Kd.C_drew ?_))); (case side2 => exact HC0.out); rintro e wx37761 ⟨rfl, hb⟩; have n0_ := Aside0.mk (below_step (by repeat (first | (with_reducible first | exact HB.out | apply below_alloc | apply pw_below_drewN | apply below_drew1) | exact HB.out)) hb); clear HB; have HB := n0_; clear n0_; (try clear hb); (try clear hb2); (try clear hk); (try clear hi)) | (go_at_call 33; (with_reducible refine (volume_Union.calls k _ _ l0 t154 t155 _ ?side1 ?side2 A6.out).mono ?_); (case side1 => repeat (first | exact (Kd.C_below HR0.out HB.out) | (with_reducible refine Kd.C_alloc ?_ _) | (with_reducible refine Kd.C_drewN ?_ _) | (with_reducible refine Kd.C_drew ?_))); (case side2 => exact HC0.out); rintro e wxe6191 ⟨v156, rfl, hoxe6191, hb⟩; have n0_ := Aside0.mk (Kd.R_lower hoxe6191 (below_size (by repeat (first | (with_reducible first | exact HB.out | apply below_alloc | apply pw_below_drewN | apply below_drew1) | exact HB.out)))); have n1_ := Aside0.mk (below_step (by repeat (first | (with_reducible first | exact HB.out | apply below_alloc | apply pw_below_drewN | apply below_drew1) | exact HB.out)) hb); clear HB; have HO157 := n0_; have HB := n1_; clear n0_ n1_; (try clear hb); (try clear hb2); (try clear hk); (try clear hi); (try clear hoxe6191)) | (go_at_call 32; (with_reducible refine (volume_Free.calls k _ _ l0 0 200000 t158 t159 _ ?side1 ?side2 A7.out).mono ?_); (case side1 => repeat (first | exact (Kd.C_below HR0.out HB.out) | (with_reducible refine Kd.C_alloc ?_ _) | (with_reducible refine Kd.C_drewN ?_ _) | (with_reducible refine Kd.C_drew ?_))); (case side2 => exact HC0.out); rintro e wx2f221 ⟨v160, rfl, hoxe6191, hb⟩; have n0_ := Aside0.mk (Kd.R_elder' (by (with_reducible repeat (first | apply Kd.R_alloc | apply Kd.R_drewN | apply Kd.R_drew)); exact HO157.out) (Kd.R_base hoxe6191) hb); have n1_ := Aside0.mk (Kd.R_lower (Kd.R_new' hoxe6191 (Kd.R_lt (by (with_reducible repeat (first | apply Kd.R_alloc | apply Kd.R_drewN | apply Kd.R_drew)); exact HO157.out))) (below_size (by repeat (first | (with_reducible first | exact HB.out | apply below_alloc | apply pw_below_drewN | apply below_drew1) | exact HB.out)))); have n2_ := Aside0.mk (below_step (by repeat (first | (with_reducible first | exact HB.out | apply below_alloc | apply pw_below_drewN | apply below_drew1) | exact HB.out)) hb); clear HO157; clear HB; have HO157 := n0_; have HO161 := n1_; have HB := n2_; clear n0_ n1_ n2_; (try clear hb); (try clear hb2); (try clear hk); (try clear hi); (try clear hoxe6191); obtain ⟨Aox2f221, cox2f221, eox2f221⟩ := Kd.R_slice HO157.out; subst eox2f221) | (go_at_call 34; (with_reducible refine (volume_During.calls k _ _ t154 a1 t162 t163 _ ?side1 ?side2 A9.out).mono ?_); (case side1 => repeat (first | exact (Kd.R_reads' HO157.out).2.2 | (with_reducible refine Kd.C_alloc ?_ _) | (with_reducible refine Kd.C_drewN ?_ _) | (with_reducible refine Kd.C_drew ?_))); (case side2 => exact (Kd.R_reads' HO157.out).2.1); rintro e wx3d5c1 ⟨rfl, hb⟩; have n0_ := Aside0.mk (Kd.R_below (by (with_reducible repeat (first | apply Kd.R_alloc | apply Kd.R_drewN | apply Kd.R_drew)); exact HO157.out) hb); have n1_ := Aside0.mk (Kd.R_below (by (with_reducible repeat (first | apply Kd.R_alloc | apply Kd.R_drewN | apply Kd.R_drew)); exact HO161.out) hb); have n2_ := Aside0.mk (below_step (by repeat (first | (with_reducible first | exact HB.out | apply below_alloc | apply pw_below_drewN | apply below_drew1) | exact HB.out)) hb); clear HO157; clear HO161; clear HB; have HO157 := n0_; have HO161 := n1_; have HB := n2_; clear n0_ n1_ n2_; (try clear hb); (try clear hb2); (try clear hk); (try clear hi); obtain ⟨Aox3d5c1, cox3d5c1, eox3d5c1⟩ := Kd.R_slice HO161.out; subst eox3d5c1))
     repeat (go_quiet (first | (go_at_call 31; (with_reducible refine (skywaykeep1_volumeWorks.calls k  true _ A3.out).mono ?_); rintro e wx81ac1 ⟨rfl, hb⟩; have n0_ := Aside0.mk (below_step (by repeat (first | (with_reducible first | exact HB.out | apply below_alloc | apply pw_below_drewN | apply below_drew1) | exact HB.out)) hb); clear HB; have HB := n0_; clear n0_; (try clear hb); (try clear hb2); (try clear hk); (try clear hi)) | (go_at_call 34; (with_reducible refine (volume_During.calls k _ _ l0 a1 t152 t153 _ ?side1 ?side2 A5.out).mono ?_); (case side1 => repeat (first | exact (Kd.C_below HR0.out HB.out) | (with_reducible refine Kd.C_alloc ?_ _) | (with_reducible refine Kd.C_drewN ?_ _) | (with_reducible refine Kd.C_drew ?_))); (case side2 => exact HC0.out); rintro e wx37761 ⟨rfl, hb⟩; have n0_ := Aside0.mk (below_step (by repeat (first | (with_reducible first | exact HB.out | apply below_alloc | apply pw_below_drewN | apply below_drew1) | exact HB.out)) hb); clear HB; have HB := n0_; clear n0_; (try clear hb); (try clear hb2); (try clear hk); (try clear hi)) | (go_at_call 33; (with_reducible refine (volume_Union.calls k _ _ l0 t154 t155 _ ?side1 ?side2 A6.out).mono ?_); (case side1 => repeat (first | exact (Kd.C_below HR0.out HB.out) | (with_reducible refine Kd.C_alloc ?_ _) | (with_reducible refine Kd.C_drewN ?_ _) | (with_reducible refine Kd.C_drew ?_))); (case side2 => exact HC0.out); rintro e wxe6191 ⟨v156, rfl, hoxe6191, hb⟩; have n0_ := Aside0.mk (Kd.R_lower hoxe6191 (below_size (by repeat (first | (with_reducible first | exact HB.out | apply below_alloc | apply pw_below_drewN | apply below_drew1) | exact HB.out)))); have n1_ := Aside0.mk (below_step (by repeat (first | (with_reducible first | exact HB.out | apply below_alloc | apply pw_below_drewN | apply below_drew1) | exact HB.out)) hb); clear HB; have HO157 := n0_; have HB := n1_; clear n0_ n1_; (try clear hb); (try clear hb2); (try clear hk); (try clear hi); (try clear hoxe6191)) | (go_at_call 32; (with_reducible refine (volume_Free.calls k _ _ l0 0 200000 t158 t159 _ ?side1 ?side2 A7.out).mono ?_); (case side1 => repeat (first | exact (Kd.C_below HR0.out HB.out) | (with_reducible refine Kd.C_alloc ?_ _) | (with_reducible refine Kd.C_drewN ?_ _) | (with_reducible refine Kd.C_drew ?_))); (case side2 => exact HC0.out); rintro e wx2f221 ⟨v160, rfl, hoxe6191, hb⟩; have n0_ := Aside0.mk (Kd.R_elder' (by (with_reducible repeat (first | apply Kd.R_alloc | apply Kd.R_drewN | apply Kd.R_drew)); exact HO157.out) (Kd.R_base hoxe6191) hb); have n1_ := Aside0.mk (Kd.R_lower (Kd.R_new' hoxe6191 (Kd.R_lt (by (with_reducible repeat (first | apply Kd.R_alloc | apply Kd.R_drewN | apply Kd.R_drew)); exact HO157.out))) (below_size (by repeat (first | (with_reducible first | exact HB.out | apply below_alloc | apply pw_below_drewN | apply below_drew1) | exact HB.out)))); have n2_ := Aside0.mk (below_step (by repeat (first | (with_reducible first | exact HB.out | apply below_alloc | apply pw_below_drewN | apply below_drew1) | exact HB.out)) hb); clear HO157; clear HB; have HO157 := n0_; have HO161 := n1_; have HB := n2_; clear n0_ n1_ n2_; (try clear hb); (try clear hb2); (try clear hk); (try clear hi); (try clear hoxe6191); obtain ⟨Aox2f221, cox2f221, eox2f221⟩ := Kd.R_slice HO157.out; subst eox2f221) | (go_at_call 34; (with_reducible refine (volume_During.calls k _ _ t154 a1 t162 t163 _ ?side1 ?side2 A9.out).mono ?_); (case side1 => repeat (first | exact (Kd.R_reads' HO157.out).2.2 | (with_reducible refine Kd.C_alloc ?_ _) | (with_reducible refine Kd.C_drewN ?_ _) | (with_reducible refine Kd.C_drew ?_))); (case side2 => exact (Kd.R_reads' HO157.out).2.1); rintro e wx3d5c1 ⟨rfl, hb⟩; have n0_ := Aside0.mk (Kd.R_below (by (with_reducible repeat (first | apply Kd.R_alloc | apply Kd.R_drewN | apply Kd.R_drew)); exact HO157.out) hb); have n1_ := Aside0.mk (Kd.R_below (by (with_reducible repeat (first | apply Kd.R_alloc | apply Kd.R_drewN | apply Kd.R_drew)); exact HO161.out) hb); have n2_ := Aside0.mk (below_step (by repeat (first | (with_reducible first | exact HB.out | apply below_alloc | apply pw_below_drewN | apply below_drew1) | exact HB.out)) hb); clear HO157; clear HO161; clear HB; have HO157 := n0_; have HO161 := n1_; have HB := n2_; clear n0_ n1_ n2_; (try clear hb); (try clear hb2); (try clear hk); (try clear hi); obtain ⟨Aox3d5c1, cox3d5c1, eox3d5c1⟩ := Kd.R_slice HO161.out; subst eox3d5c1)); go_upto_if 60 with (first | (go_at_call 31; (with_reducible refine (skywaykeep1_volumeWorks.calls k  true _ A3.out).mono ?_); rintro e wx81ac1 ⟨rfl, hb⟩; have n0_ := Aside0.mk (below_step (by repeat (first | (with_reducible first | exact HB.out | apply below_alloc | apply pw_below_drewN | apply below_drew1) | exact HB.out)) hb); clear HB; have HB := n0_; clear n0_; (try clear hb); (try clear hb2); (try clear hk); (try clear hi)) | (go_at_call 34; (with_reducible refine (volume_During.calls k _ _ l0 a1 t152 t153 _ ?side1 ?side2 A5.out).mono ?_); (case side1 => repeat (first | exact (Kd.C_below HR0.out HB.out) | (with_reducible refine Kd.C_alloc ?_ _) | (with_reducible refine Kd.C_drewN ?_ _) | (with_reducible refine Kd.C_drew ?_))); (case side2 => exact HC0.out); rintro e wx37761 ⟨rfl, hb⟩; have n0_ := Aside0.mk (below_step (by repeat (first | (with_reducible first | exact HB.out | apply below_alloc | apply pw_below_drewN | apply below_drew1) | exact HB.out)) hb); clear HB; have HB := n0_; clear n0_; (try clear hb); (try clear hb2); (try clear hk); (try clear hi)) | (go_at_call 33; (with_reducible refine (volume_Union.calls k _ _ l0 t154 t155 _ ?side1 ?side2 A6.out).mono ?_); (case side1 => repeat (first | exact (Kd.C_below HR0.out HB.out) | (with_reducible refine Kd.C_alloc ?_ _) | (with_reducible refine Kd.C_drewN ?_ _) | (with_reducible refine Kd.C_drew ?_))); (case side2 => exact HC0.out); rintro e wxe6191 ⟨v156, rfl, hoxe6191, hb⟩; have n0_ := Aside0.mk (Kd.R_lower hoxe6191 (below_size (by repeat (first | (with_reducible first | exact HB.out | apply below_alloc | apply pw_below_drewN | apply below_drew1) | exact HB.out)))); have n1_ := Aside0.mk (below_step (by repeat (first | (with_reducible first | exact HB.out | apply below_alloc | apply pw_below_drewN | apply below_drew1) | exact HB.out)) hb); clear HB; have HO157 := n0_; have HB := n1_; clear n0_ n1_; (try clear hb); (try clear hb2); (try clear hk); (try clear hi); (try clear hoxe6191)) | (go_at_call 32; (with_reducible refine (volume_Free.calls k _ _ l0 0 200000 t158 t159 _ ?side1 ?side2 A7.out).mono ?_); (case side1 => repeat (first | exact (Kd.C_below HR0.out HB.out) | (with_reducible refine Kd.C_alloc ?_ _) | (with_reducible refine Kd.C_drewN ?_ _) | (with_reducible refine Kd.C_drew ?_))); (case side2 => exact HC0.out); rintro e wx2f221 ⟨v160, rfl, hoxe6191, hb⟩; have n0_ := Aside0.mk (Kd.R_elder' (by (with_reducible repeat (first | apply Kd.R_alloc | apply Kd.R_drewN | apply Kd.R_drew)); exact HO157.out) (Kd.R_base hoxe6191) hb); have n1_ := Aside0.mk (Kd.R_lower (Kd.R_new' hoxe6191 (Kd.R_lt (by (with_reducible repeat (first | apply Kd.R_alloc | apply Kd.R_drewN | apply Kd.R_drew)); exact HO157.out))) (below_size (by repeat (first | (with_reducible first | exact HB.out | apply below_alloc | apply pw_below_drewN | apply below_drew1) | exact HB.out)))); have n2_ := Aside0.mk (below_step (by repeat (first | (with_reducible first | exact HB.out | apply below_alloc | apply pw_below_drewN | apply below_drew1) | exact HB.out)) hb); clear HO157; clear HB; have HO157 := n0_; have HO161 := n1_; have HB := n2_; clear n0_ n1_ n2_; (try clear hb); (try clear hb2); (try clear hk); (try clear hi); (try clear hoxe6191); obtain ⟨Aox2f221, cox2f221, eox2f221⟩ := Kd.R_slice HO157.out; subst eox2f221) | (go_at_call 34; (with_reducible refine (volume_During.calls k _ _ t154 a1 t162 t163 _ ?side1 ?side2 A9.out).mono ?_); (case side1 => repeat (first | exact (Kd.R_reads' HO157.out).2.2 | (with_reducible refine Kd.C_alloc ?_ _) | (with_reducible refine Kd.C_drewN ?_ _) | (with_reducible refine Kd.C_drew ?_))); (case side2 => exact (Kd.R_reads' HO157.out).2.1); rintro e wx3d5c1 ⟨rfl, hb⟩; have n0_ := Aside0.mk (Kd.R_below (by (with_reducible repeat (first | apply Kd.R_alloc | apply Kd.R_drewN | apply Kd.R_drew)); exact HO157.out) hb); have n1_ := Aside0.mk (Kd.R_below (by (with_reducible repeat (first | apply Kd.R_alloc | apply Kd.R_drewN | apply Kd.R_drew)); exact HO161.out) hb); have n2_ := Aside0.mk (below_step (by repeat (first | (with_reducible first | exact HB.out | apply below_alloc | apply pw_below_drewN | apply below_drew1) | exact HB.out)) hb); clear HO157; clear HO161; clear HB; have HO157 := n0_; have HO161 := n1_; have HB := n2_; clear n0_ n1_ n2_; (try clear hb); (try clear hb2); (try clear hk); (try clear hi); obtain ⟨Aox3d5c1, cox3d5c1, eox3d5c1⟩ := Kd.R_slice HO161.out; subst eox3d5c1)))
     (try simp only [Act.put, List.setIfInBounds_toArray, List.set_cons_zero, List.set_cons_succ])
     go_cut [9] (fun v9 wc => ∃ (kq : Nat) (x9_9 : List (S58)), Aside0 (skywaykeep1_VolumeUnion.j0 kq a1 t152 t154 t155 x9_9 t159 t162 t163 = some r) ∧ Aside0 (kq ≤ k) ∧ Aside0 (Kd.R k58 58 wc w.heap.size (fun k_ => some k_ ≠ (v9 : Value).ownBlock) (.slice Aox2f221 t154.length cox2f221) t154) ∧ Aside0 (Kd.R k58 58 wc w.heap.size (fun k_ => some k_ ≠ ((.slice Aox2f221 t154.length cox2f221) : Value).ownBlock) v9 x9_9) ∧ Aside0 (Below w.heap.size w wc))
     case first =>
      have H := HC10.out
      clear HC10
      refine Or.elim (Classical.em ((t158.length : Int) > 256)) (fun c18 => ?p7_) (fun c18 => ?n7_)
      case' p7_ =>
       rw [if_pos c18] at H
       have c18b0 : decide (256 < (t158.length : Int)) = true := decide_eq_true c18
       have c18b1 : decide (256 < t158.length) = true := decide_eq_true (by omega)
       clear c18
       (first | rw [c18b0] | (simp only [i64_w, i32_w]; rw [c18b0]) | skip)
       refine Or.elim (Classical.em (1 ≤ (t158.length : Int))) (fun c19 => ?p8_) (fun c19 => ?n8_)
       case' p8_ =>
        rw [if_pos c19] at H
        have c19b0 := eq_true c19
        have c19b1 : decide (1 ≤ (t158.length : Int)) = true := decide_eq_true c19
        clear c19
        obtain ⟨y164, hy164⟩ : ∃ y_ : List (S58), y_ = (t158.take (1 : Int).toNat) := ⟨_, rfl⟩
        replace H : (if 0 < (y164.length : Int) then (if a1 ≥ ((rd_T58 y164 0).f1) then (if t155 = 0 then (if t159 = 0 then (if t163 = 0 then (some (t162 == t152)) else (some false)) else (some false)) else (some false)) else (skywaykeep1_VolumeUnion.j0 k a1 t152 t154 t155 y164 t159 t162 t163)) else (none)) = some r := by first | (rw [hy164]; with_reducible exact H) | (have H2_ := (Option.bind_some _ _).symm.trans H; rw [hy164]; with_reducible exact H2_) | (have H2_ := (Option.bind_some _ _).symm.trans H; with_reducible exact H2_) | with_reducible exact H | (rw [hy164]; exact H) | exact H
        have Ny164 := Aside0.mk hy164
        clear hy164
        refine Or.elim (Classical.em (0 < (y164.length : Int))) (fun c20 => ?p9_) (fun c20 => ?n9_)
        case' p9_ =>
         rw [if_pos c20] at H
         have c20b0 : decide (0 < (y164.length : Int)) = true := decide_eq_true c20
         have c20b1 : decide (0 < y164.length) = true := decide_eq_true (by omega)
         clear c20
         refine Or.elim (Classical.em (a1 ≥ ((rd_T58 y164 0).f1))) (fun c21 => ?p10_) (fun c21 => ?n10_)
         case' p10_ =>
          rw [if_pos c21] at H
          have c21b0 : decide (((rd_T58 y164 0).f1) ≤ a1) = true := decide_eq_true c21
          clear c21
          refine Or.elim (Classical.em (t155 = 0)) (fun c22 => ?p11_) (fun c22 => ?n11_)
          case' p11_ =>
           rw [if_pos c22] at H
           have c22b0 : (t155 == 0) = true := beq_iff_eq.mpr c22
           have c22b1 : (t155 != 0) = false := bne_eq_false_iff_eq.mpr c22
           clear c22
           refine Or.elim (Classical.em (t159 = 0)) (fun c23 => ?p12_) (fun c23 => ?n12_)
           case' p12_ =>
            rw [if_pos c23] at H
            have c23b0 : (t159 == 0) = true := beq_iff_eq.mpr c23
            have c23b1 : (t159 != 0) = false := bne_eq_false_iff_eq.mpr c23
            clear c23
            refine Or.elim (Classical.em (t163 = 0)) (fun c24 => ?p13_) (fun c24 => ?n13_)
            case' p13_ =>
             rw [if_pos c24] at H
             have c24b0 : (t163 == 0) = true := beq_iff_eq.mpr c24
             have c24b1 : (t163 != 0) = false := bne_eq_false_iff_eq.mpr c24
             clear c24
             have hm6_0 := Aside0.mk trivial
            case' n13_ =>
             rw [if_neg c24] at H
             have c24b0 : (t163 == 0) = false := beq_eq_false_iff_ne.mpr c24
             have c24b1 : (t163 != 0) = true := bne_iff_ne.mpr c24
             have hm6_1 := Aside0.mk trivial
           case' n12_ =>
            rw [if_neg c23] at H
            have c23b0 : (t159 == 0) = false := beq_eq_false_iff_ne.mpr c23
            have c23b1 : (t159 != 0) = true := bne_iff_ne.mpr c23
            have hm6_2 := Aside0.mk trivial
          case' n11_ =>
           rw [if_neg c22] at H
           have c22b0 : (t155 == 0) = false := beq_eq_false_iff_ne.mpr c22
           have c22b1 : (t155 != 0) = true := bne_iff_ne.mpr c22
           have hm6_3 := Aside0.mk trivial
         case' n10_ =>
          rw [if_neg c21] at H
          have c21b0 : decide (((rd_T58 y164 0).f1) ≤ a1) = false := decide_eq_false c21
          clear c21
          have hm6_4 := Aside0.mk trivial
        case' n9_ =>
         rw [if_neg c20] at H
         exact absurd H (by simp)
       case' n8_ =>
        rw [if_neg c19] at H
        exact absurd H (by simp)
      case' n7_ =>
       rw [if_neg c18] at H
       have c18b0 : decide (256 < (t158.length : Int)) = false := decide_eq_false c18
       have c18b1 : decide (256 < t158.length) = false := decide_eq_false (by omega)
       clear c18
       (first | rw [c18b0] | (simp only [i64_w, i32_w]; rw [c18b0]) | skip)
       have hm6_5 := Aside0.mk trivial
      all_goals
       first
        | (first | (have _hm := hm6_0) | (have _hm := hm6_1) | (have _hm := hm6_2) | (have _hm := hm6_3))
          obtain rfl := Option.some.inj H
          first
           | clear hm6_0
             have q25 : (1 : Int) ≤ ((t158.length : Int) : Int) := of_decide_eq_true (by first | (with_reducible assumption) | assumption)
             obtain ⟨i025, hi025, _, hsz25, _⟩ := info_parts info58
             have hcut25 := cut_to (P := Try.prog) 53 58 .i64 Try.underlying53 hi025 Aox3d5c1 t158.length cox3d5c1 1 (by omega) q25 (Kd.R_reads' HO161.out).2.1
             have hr25 := Kd.R_take (m := (1 : Int).toNat) HO161.out (by omega)
             have hy25 : y164.length = (1 : Int).toNat := (by rw [Ny164.out, List.length_take]; omega)
             rw [← Ny164.out] at hr25
             rw [← hy25] at hr25 hcut25
             clear hy25 hi025 hsz25 HO161
             have HO166 := Aside0.mk hr25
             clear hr25
             replace q25 := eq_true q25
             have p167 : 0 ≤ (0 : Int) := (by omega)
             have q167 : 0 < (y164.length : Int) := of_decide_eq_true (by first | (with_reducible assumption) | assumption)
             obtain ⟨ad167, e167, hx167_0, hx167_1⟩ := at_T58 (Kd.R_reads' HO166.out).2.2 0 p167 q167
             cases e167
             have qi167 : (0 < y164.length) = True := eq_true (by omega)
             (try rw [show ((0 : Int)).toNat = 0 from rfl] at hx167_0)
             (try rw [show 0 * 2 = 0 from rfl] at hx167_0)
             (try rw [Addr.add_zero'] at hx167_0)
             (try rw [show ((0 : Int)).toNat = 0 from rfl] at hx167_1)
             (try rw [show 0 * 2 = 0 from rfl] at hx167_1)
             (try rw [Addr.add_zero'] at hx167_1)
             replace p167 := eq_true p167
             replace q167 := eq_true q167
             go_wp2
             repeat (go_quiet (fail); try go_wp2)
             go_ret
             exact ⟨by first | rfl | (simp [errW_none, errW_some] <;> rfl) | (simp [*, errW_none, errW_some] <;> rfl), by repeat (first | (with_reducible first | exact HB.out | apply below_alloc | apply pw_below_drewN | apply below_drew1) | exact HB.out)⟩
           | clear hm6_1
             have q26 : (1 : Int) ≤ ((t158.length : Int) : Int) := of_decide_eq_true (by first | (with_reducible assumption) | assumption)
             obtain ⟨i026, hi026, _, hsz26, _⟩ := info_parts info58
             have hcut26 := cut_to (P := Try.prog) 53 58 .i64 Try.underlying53 hi026 Aox3d5c1 t158.length cox3d5c1 1 (by omega) q26 (Kd.R_reads' HO161.out).2.1
             have hr26 := Kd.R_take (m := (1 : Int).toNat) HO161.out (by omega)
             have hy26 : y164.length = (1 : Int).toNat := (by rw [Ny164.out, List.length_take]; omega)
             rw [← Ny164.out] at hr26
             rw [← hy26] at hr26 hcut26
             clear hy26 hi026 hsz26 HO161
             have HO166 := Aside0.mk hr26
             clear hr26
             replace q26 := eq_true q26
             have p167 : 0 ≤ (0 : Int) := (by omega)
             have q167 : 0 < (y164.length : Int) := of_decide_eq_true (by first | (with_reducible assumption) | assumption)
             obtain ⟨ad167, e167, hx167_0, hx167_1⟩ := at_T58 (Kd.R_reads' HO166.out).2.2 0 p167 q167
             cases e167
             have qi167 : (0 < y164.length) = True := eq_true (by omega)
             (try rw [show ((0 : Int)).toNat = 0 from rfl] at hx167_0)
             (try rw [show 0 * 2 = 0 from rfl] at hx167_0)
             (try rw [Addr.add_zero'] at hx167_0)
             (try rw [show ((0 : Int)).toNat = 0 from rfl] at hx167_1)
             (try rw [show 0 * 2 = 0 from rfl] at hx167_1)
             (try rw [Addr.add_zero'] at hx167_1)
             replace p167 := eq_true p167
             replace q167 := eq_true q167
             go_wp2
             repeat (go_quiet (fail); try go_wp2)
             go_ret
             exact ⟨by first | rfl | (simp [errW_none, errW_some] <;> rfl) | (simp [*, errW_none, errW_some] <;> rfl), by repeat (first | (with_reducible first | exact HB.out | apply below_alloc | apply pw_below_drewN | apply below_drew1) | exact HB.out)⟩
           | clear hm6_2
             have q27 : (1 : Int) ≤ ((t158.length : Int) : Int) := of_decide_eq_true (by first | (with_reducible assumption) | assumption)
             obtain ⟨i027, hi027, _, hsz27, _⟩ := info_parts info58
             have hcut27 := cut_to (P := Try.prog) 53 58 .i64 Try.underlying53 hi027 Aox3d5c1 t158.length cox3d5c1 1 (by omega) q27 (Kd.R_reads' HO161.out).2.1
             have hr27 := Kd.R_take (m := (1 : Int).toNat) HO161.out (by omega)
             have hy27 : y164.length = (1 : Int).toNat := (by rw [Ny164.out, List.length_take]; omega)
             rw [← Ny164.out] at hr27
             rw [← hy27] at hr27 hcut27
             clear hy27 hi027 hsz27 HO161
             have HO166 := Aside0.mk hr27
             clear hr27
             replace q27 := eq_true q27
             have p167 : 0 ≤ (0 : Int) := (by omega)
             have q167 : 0 < (y164.length : Int) := of_decide_eq_true (by first | (with_reducible assumption) | assumption)
             obtain ⟨ad167, e167, hx167_0, hx167_1⟩ := at_T58 (Kd.R_reads' HO166.out).2.2 0 p167 q167
             cases e167
             have qi167 : (0 < y164.length) = True := eq_true (by omega)
             (try rw [show ((0 : Int)).toNat = 0 from rfl] at hx167_0)
             (try rw [show 0 * 2 = 0 from rfl] at hx167_0)
             (try rw [Addr.add_zero'] at hx167_0)
             (try rw [show ((0 : Int)).toNat = 0 from rfl] at hx167_1)
             (try rw [show 0 * 2 = 0 from rfl] at hx167_1)
             (try rw [Addr.add_zero'] at hx167_1)
             replace p167 := eq_true p167
             replace q167 := eq_true q167
             go_wp2
             repeat (go_quiet (fail); try go_wp2)
             go_ret
             exact ⟨by first | rfl | (simp [errW_none, errW_some] <;> rfl) | (simp [*, errW_none, errW_some] <;> rfl), by repeat (first | (with_reducible first | exact HB.out | apply below_alloc | apply pw_below_drewN | apply below_drew1) | exact HB.out)⟩
           | clear hm6_3
             have q28 : (1 : Int) ≤ ((t158.length : Int) : Int) := of_decide_eq_true (by first | (with_reducible assumption) | assumption)
             obtain ⟨i028, hi028, _, hsz28, _⟩ := info_parts info58
             have hcut28 := cut_to (P := Try.prog) 53 58 .i64 Try.underlying53 hi028 Aox3d5c1 t158.length cox3d5c1 1 (by omega) q28 (Kd.R_reads' HO161.out).2.1
             have hr28 := Kd.R_take (m := (1 : Int).toNat) HO161.out (by omega)
             have hy28 : y164.length = (1 : Int).toNat := (by rw [Ny164.out, List.length_take]; omega)
             rw [← Ny164.out] at hr28
             rw [← hy28] at hr28 hcut28
             clear hy28 hi028 hsz28 HO161
             have HO166 := Aside0.mk hr28
             clear hr28
             replace q28 := eq_true q28
             have p167 : 0 ≤ (0 : Int) := (by omega)
             have q167 : 0 < (y164.length : Int) := of_decide_eq_true (by first | (with_reducible assumption) | assumption)
             obtain ⟨ad167, e167, hx167_0, hx167_1⟩ := at_T58 (Kd.R_reads' HO166.out).2.2 0 p167 q167
             cases e167
             have qi167 : (0 < y164.length) = True := eq_true (by omega)
             (try rw [show ((0 : Int)).toNat = 0 from rfl] at hx167_0)
             (try rw [show 0 * 2 = 0 from rfl] at hx167_0)
             (try rw [Addr.add_zero'] at hx167_0)
             (try rw [show ((0 : Int)).toNat = 0 from rfl] at hx167_1)
             (try rw [show 0 * 2 = 0 from rfl] at hx167_1)
             (try rw [Addr.add_zero'] at hx167_1)
             replace p167 := eq_true p167
             replace q167 := eq_true q167
             go_wp2
             repeat (go_quiet (fail); try go_wp2)
             go_ret
             exact ⟨by first | rfl | (simp [errW_none, errW_some] <;> rfl) | (simp [*, errW_none, errW_some] <;> rfl), by repeat (first | (with_reducible first | exact HB.out | apply below_alloc | apply pw_below_drewN | apply below_drew1) | exact HB.out)⟩
        | (first | (have _hm := hm6_4) | (have _hm := hm6_5))
          have H' := Aside0.mk H
          clear H
          first
           | clear hm6_4
             have q29 : (1 : Int) ≤ ((t158.length : Int) : Int) := of_decide_eq_true (by first | (with_reducible assumption) | assumption)
             obtain ⟨i029, hi029, _, hsz29, _⟩ := info_parts info58
             have hcut29 := cut_to (P := Try.prog) 53 58 .i64 Try.underlying53 hi029 Aox3d5c1 t158.length cox3d5c1 1 (by omega) q29 (Kd.R_reads' HO161.out).2.1
             have hr29 := Kd.R_take (m := (1 : Int).toNat) HO161.out (by omega)
             have hy29 : y164.length = (1 : Int).toNat := (by rw [Ny164.out, List.length_take]; omega)
             rw [← Ny164.out] at hr29
             rw [← hy29] at hr29 hcut29
             clear hy29 hi029 hsz29 HO161
             have HO166 := Aside0.mk hr29
             clear hr29
             replace q29 := eq_true q29
             have p167 : 0 ≤ (0 : Int) := (by omega)
             have q167 : 0 < (y164.length : Int) := of_decide_eq_true (by first | (with_reducible assumption) | assumption)
             obtain ⟨ad167, e167, hx167_0, hx167_1⟩ := at_T58 (Kd.R_reads' HO166.out).2.2 0 p167 q167
             cases e167
             have qi167 : (0 < y164.length) = True := eq_true (by omega)
             (try rw [show ((0 : Int)).toNat = 0 from rfl] at hx167_0)
             (try rw [show 0 * 2 = 0 from rfl] at hx167_0)
             (try rw [Addr.add_zero'] at hx167_0)
             (try rw [show ((0 : Int)).toNat = 0 from rfl] at hx167_1)
             (try rw [show 0 * 2 = 0 from rfl] at hx167_1)
             (try rw [Addr.add_zero'] at hx167_1)
             replace p167 := eq_true p167
             replace q167 := eq_true q167
             go_wp2
             repeat (go_quiet (fail); try go_wp2)
             go_meet
             case rel => exact ⟨_, (y164), H', ⟨by first | omega | exact Nat.le_refl _⟩, ⟨by (with_reducible repeat (first | apply Kd.R_alloc | apply Kd.R_drewN | apply Kd.R_drew)); exact Kd.R_mono HO157.out (fun _ hk => hk.2)⟩, ⟨by (with_reducible repeat (first | apply Kd.R_alloc | apply Kd.R_drewN | apply Kd.R_drew)); exact Kd.R_mono HO166.out (fun _ hk => hk.2)⟩, ⟨by repeat (first | (with_reducible first | exact HB.out | apply below_alloc | apply pw_below_drewN | apply below_drew1) | exact HB.out)⟩⟩
           | clear hm6_5
             go_wp2
             repeat (go_quiet (fail); try go_wp2)
             go_meet
             case rel => exact ⟨_, (t158), H', ⟨by first | omega | exact Nat.le_refl _⟩, ⟨by (with_reducible repeat (first | apply Kd.R_alloc | apply Kd.R_drewN | apply Kd.R_drew)); exact Kd.R_mono HO157.out (fun _ hk => hk.2)⟩, ⟨by (with_reducible repeat (first | apply Kd.R_alloc | apply Kd.R_drewN | apply Kd.R_drew)); exact Kd.R_mono HO161.out (fun _ hk => hk.2)⟩, ⟨by repeat (first | (with_reducible first | exact HB.out | apply below_alloc | apply pw_below_drewN | apply below_drew1) | exact HB.out)⟩⟩
     case rest =>
      clear HC10
      (try clear c1); (try clear p1); (try clear q1); (try clear hx1); (try clear qi1); (try clear c2); (try clear p2); (try clear q2); (try clear c4); (try clear p6); (try clear c8); (try clear c8b0); (try clear c8b1); (try clear c11); (try clear p16); (try clear q16); (try clear hx16); (try clear qi16); (try clear c18); (try clear c18b0); (try clear c18b1); (try clear c19); (try clear c19b0); (try clear c19b1); (try clear c20); (try clear c20b0); (try clear c20b1); (try clear c21); (try clear c21b0); (try clear c22); (try clear c22b0); (try clear c22b1); (try clear c23); (try clear c23b0); (try clear c23b1); (try clear c24); (try clear c24b0); (try clear c24b1); (try clear q25); (try clear q26)
      (try clear q27); (try clear q28); (try clear q29); (try clear hx167_0); (try clear hx167_1); (try clear p167); (try clear q167); (try clear q25); (try clear q26); (try clear q27); (try clear q28); (try clear q29)
      obtain ⟨kq, x9_9, HA, HJ9, HO_7, HO_9, HB⟩ := hcut
      cases kq with
      | zero => exact absurd HA.out (by simp [skywaykeep1_VolumeUnion.j0])
      | succ kj9 =>
       have H := HA.out
       clear HA
       simp only [skywaykeep1_VolumeUnion.j0] at H
       replace H := Option.bind_eq_some_iff.mp H
       obtain ⟨⟨t168, t169⟩, A300, H⟩ := H
       replace H : (if t155 = 0 then (if t159 = 0 then (if t163 = 0 then (if t169 = 0 then (skywaykeep1_VolumeUnion.j1 kj9 a1 t152 t154 t168 (t162 != t152)) else (skywaykeep1_VolumeUnion.j1 kj9 a1 t152 t154 t168 true)) else (skywaykeep1_VolumeUnion.j1 kj9 a1 t152 t154 t168 true)) else (skywaykeep1_VolumeUnion.j1 kj9 a1 t152 t154 t168 true)) else (skywaykeep1_VolumeUnion.j1 kj9 a1 t152 t154 t168 true)) = some r := H
       have A30 := Aside0.mk A300
       clear A300
       have HC31 := Aside0.mk H
       clear H
       obtain ⟨Aoza1, coza1, eoza1⟩ := Kd.R_slice HO_9.out
       subst eoza1
       go_upto_region 14 with (first | (go_at_call 34; (with_reducible refine (volume_During.calls kj9 _ _ x9_9 a1 t168 t169 _ ?side1 ?side2 A30.out).mono ?_); (case side1 => repeat (first | exact (Kd.R_reads' HO_9.out).2.2 | (with_reducible refine Kd.C_alloc ?_ _) | (with_reducible refine Kd.C_drewN ?_ _) | (with_reducible refine Kd.C_drew ?_))); (case side2 => exact (Kd.R_reads' HO_9.out).2.1); rintro e wxf6bc1 ⟨rfl, hb⟩; have n0_ := Aside0.mk (Kd.R_below (by (with_reducible repeat (first | apply Kd.R_alloc | apply Kd.R_drewN | apply Kd.R_drew)); exact HO_7.out) hb); have n1_ := Aside0.mk (Kd.R_below (by (with_reducible repeat (first | apply Kd.R_alloc | apply Kd.R_drewN | apply Kd.R_drew)); exact HO_9.out) hb); have n2_ := Aside0.mk (below_step (by repeat (first | (with_reducible first | exact HB.out | apply below_alloc | apply pw_below_drewN | apply below_drew1) | exact HB.out)) hb); clear HO_7; clear HO_9; clear HB; have HO_7 := n0_; have HO_9 := n1_; have HB := n2_; clear n0_ n1_ n2_; (try clear hb); (try clear hb2); (try clear hk); (try clear hi)))
       repeat (go_quiet (first | (go_at_call 34; (with_reducible refine (volume_During.calls kj9 _ _ x9_9 a1 t168 t169 _ ?side1 ?side2 A30.out).mono ?_); (case side1 => repeat (first | exact (Kd.R_reads' HO_9.out).2.2 | (with_reducible refine Kd.C_alloc ?_ _) | (with_reducible refine Kd.C_drewN ?_ _) | (with_reducible refine Kd.C_drew ?_))); (case side2 => exact (Kd.R_reads' HO_9.out).2.1); rintro e wxf6bc1 ⟨rfl, hb⟩; have n0_ := Aside0.mk (Kd.R_below (by (with_reducible repeat (first | apply Kd.R_alloc | apply Kd.R_drewN | apply Kd.R_drew)); exact HO_7.out) hb); have n1_ := Aside0.mk (Kd.R_below (by (with_reducible repeat (first | apply Kd.R_alloc | apply Kd.R_drewN | apply Kd.R_drew)); exact HO_9.out) hb); have n2_ := Aside0.mk (below_step (by repeat (first | (with_reducible first | exact HB.out | apply below_alloc | apply pw_below_drewN | apply below_drew1) | exact HB.out)) hb); clear HO_7; clear HO_9; clear HB; have HO_7 := n0_; have HO_9 := n1_; have HB := n2_; clear n0_ n1_ n2_; (try clear hb); (try clear hb2); (try clear hk); (try clear hi))); go_upto_region 14 with (first | (go_at_call 34; (with_reducible refine (volume_During.calls kj9 _ _ x9_9 a1 t168 t169 _ ?side1 ?side2 A30.out).mono ?_); (case side1 => repeat (first | exact (Kd.R_reads' HO_9.out).2.2 | (with_reducible refine Kd.C_alloc ?_ _) | (with_reducible refine Kd.C_drewN ?_ _) | (with_reducible refine Kd.C_drew ?_))); (case side2 => exact (Kd.R_reads' HO_9.out).2.1); rintro e wxf6bc1 ⟨rfl, hb⟩; have n0_ := Aside0.mk (Kd.R_below (by (with_reducible repeat (first | apply Kd.R_alloc | apply Kd.R_drewN | apply Kd.R_drew)); exact HO_7.out) hb); have n1_ := Aside0.mk (Kd.R_below (by (with_reducible repeat (first | apply Kd.R_alloc | apply Kd.R_drewN | apply Kd.R_drew)); exact HO_9.out) hb); have n2_ := Aside0.mk (below_step (by repeat (first | (with_reducible first | exact HB.out | apply below_alloc | apply pw_below_drewN | apply below_drew1) | exact HB.out)) hb); clear HO_7; clear HO_9; clear HB; have HO_7 := n0_; have HO_9 := n1_; have HB := n2_; clear n0_ n1_ n2_; (try clear hb); (try clear hb2); (try clear hk); (try clear hi))))
       (try simp only [Act.put, List.setIfInBounds_toArray, List.set_cons_zero, List.set_cons_succ])
       go_cut [108] (fun v108 wc => ∃ (kq : Nat) (x108_30 : Bool), v108 = .bool x108_30 ∧ Aside0 (skywaykeep1_VolumeUnion.j1 kq a1 t152 t154 t168 x108_30 = some r) ∧ Aside0 (kq ≤ kj9) ∧ Aside0 (Kd.R k58 58 wc w.heap.size (fun _ => True) (.slice Aox2f221 t154.length cox2f221) t154) ∧ Aside0 (Below w.heap.size w wc))
       case first =>
        have H := HC31.out
        clear HC31
        refine Or.elim (Classical.em (t155 = 0)) (fun c34 => ?p15_) (fun c34 => ?n15_)
        case' p15_ =>
         rw [if_pos c34] at H
         have c34b0 : (t155 == 0) = true := beq_iff_eq.mpr c34
         have c34b1 : (t155 != 0) = false := bne_eq_false_iff_eq.mpr c34
         clear c34
         (first | rw [c34b0] | (simp only [i64_w, i32_w]; rw [c34b0]) | skip)
         refine Or.elim (Classical.em (t159 = 0)) (fun c35 => ?p16_) (fun c35 => ?n16_)
         case' p16_ =>
          rw [if_pos c35] at H
          have c35b0 : (t159 == 0) = true := beq_iff_eq.mpr c35
          have c35b1 : (t159 != 0) = false := bne_eq_false_iff_eq.mpr c35
          clear c35
          refine Or.elim (Classical.em (t163 = 0)) (fun c36 => ?p17_) (fun c36 => ?n17_)
          case' p17_ =>
           rw [if_pos c36] at H
           have c36b0 : (t163 == 0) = true := beq_iff_eq.mpr c36
           have c36b1 : (t163 != 0) = false := bne_eq_false_iff_eq.mpr c36
           clear c36
           refine Or.elim (Classical.em (t169 = 0)) (fun c37 => ?p18_) (fun c37 => ?n18_)
           case' p18_ =>
            rw [if_pos c37] at H
            have c37b0 : (t169 == 0) = true := beq_iff_eq.mpr c37
            have c37b1 : (t169 != 0) = false := bne_eq_false_iff_eq.mpr c37
            clear c37
           case' n18_ =>
            rw [if_neg c37] at H
            have c37b0 : (t169 == 0) = false := beq_eq_false_iff_ne.mpr c37
            have c37b1 : (t169 != 0) = true := bne_iff_ne.mpr c37
          case' n17_ =>
           rw [if_neg c36] at H
           have c36b0 : (t163 == 0) = false := beq_eq_false_iff_ne.mpr c36
           have c36b1 : (t163 != 0) = true := bne_iff_ne.mpr c36
         case' n16_ =>
          rw [if_neg c35] at H
          have c35b0 : (t159 == 0) = false := beq_eq_false_iff_ne.mpr c35
          have c35b1 : (t159 != 0) = true := bne_iff_ne.mpr c35
        case' n15_ =>
         rw [if_neg c34] at H
         have c34b0 : (t155 == 0) = false := beq_eq_false_iff_ne.mpr c34
         have c34b1 : (t155 != 0) = true := bne_iff_ne.mpr c34
         (first | rw [c34b0] | (simp only [i64_w, i32_w]; rw [c34b0]) | skip)
        all_goals
         have H' := Aside0.mk H
         clear H
         go_wp2
         repeat (go_quiet (fail); try go_wp2)
         go_meet
         case rel => first | (exact ⟨_, ((t162 != t152)), (by first | rfl | (simp; done) | (simp [*]; done)), H', ⟨by have := HJ9.out; first | omega | exact Nat.le_refl _⟩, ⟨by (with_reducible repeat (first | apply Kd.R_alloc | apply Kd.R_drewN | apply Kd.R_drew)); exact Kd.R_mono HO_7.out (fun _ hk => trivial)⟩, ⟨by repeat (first | (with_reducible first | exact HB.out | apply below_alloc | apply pw_below_drewN | apply below_drew1) | exact HB.out)⟩⟩) | (exact ⟨_, (true), (by first | rfl | (simp; done) | (simp [*]; done)), H', ⟨by have := HJ9.out; first | omega | exact Nat.le_refl _⟩, ⟨by (with_reducible repeat (first | apply Kd.R_alloc | apply Kd.R_drewN | apply Kd.R_drew)); exact Kd.R_mono HO_7.out (fun _ hk => trivial)⟩, ⟨by repeat (first | (with_reducible first | exact HB.out | apply below_alloc | apply pw_below_drewN | apply below_drew1) | exact HB.out)⟩⟩)
       case rest =>
        clear HC31
        (try clear c1); (try clear p1); (try clear q1); (try clear hx1); (try clear qi1); (try clear c2); (try clear p2); (try clear q2); (try clear c3); (try clear c4); (try clear p6); (try clear c8); (try clear c8b0); (try clear c8b1); (try clear c11); (try clear p16); (try clear q16); (try clear hx16); (try clear qi16); (try clear c18); (try clear c18b0); (try clear c18b1); (try clear c19); (try clear c19b0); (try clear c19b1); (try clear c20); (try clear c20b0); (try clear c20b1); (try clear c21); (try clear c21b0); (try clear c22); (try clear c22b0); (try clear c22b1); (try clear c23); (try clear c23b0); (try clear c23b1); (try clear c24); (try clear c24b0); (try clear c24b1); (try clear q25)
        (try clear q26); (try clear q27); (try clear q28); (try clear q29); (try clear c34); (try clear c34b0); (try clear c34b1); (try clear c35); (try clear c35b0); (try clear c35b1); (try clear c36); (try clear c36b0); (try clear c36b1); (try clear c37); (try clear c37b0); (try clear c37b1); (try clear hx167_0); (try clear hx167_1); (try clear p1); (try clear p16); (try clear p167); (try clear p2); (try clear p6); (try clear q1); (try clear q16); (try clear q167); (try clear q2); (try clear q25); (try clear q26); (try clear q27); (try clear q28); (try clear q29)
        obtain ⟨kq, x108_30, rfl, HA, HJ30, HO_7, HB⟩ := hcut
        cases kq with
        | zero => exact absurd HA.out (by simp [skywaykeep1_VolumeUnion.j1])
        | succ kj30 =>
         have H := HA.out
         clear HA
         simp only [skywaykeep1_VolumeUnion.j1] at H
         by_cases c38 : x108_30 = true
         · subst c38
           have H1 : (some false) = some r := by rw [if_pos rfl] at H; exact H
           clear H
           have H := H1
           clear H1
           obtain rfl := Option.some.inj H
           go_wp2
           repeat (go_quiet (fail); try go_wp2)
           go_ret
           exact ⟨by first | rfl | (simp [errW_none, errW_some] <;> rfl) | (simp [*, errW_none, errW_some] <;> rfl), by repeat (first | (with_reducible first | exact HB.out | apply below_alloc | apply pw_below_drewN | apply below_drew1) | exact HB.out)⟩
         · replace c38 := Bool.eq_false_iff.mpr c38
           subst c38
           have H1 : (skywaykeep1_VolumeUnion.l0 kj30 a1 t152 t154 t168 1) = some r := by rw [if_neg (show ¬ (false = true) by decide)] at H; exact H
           clear H
           have H := H1
           clear H1
           have H' := Aside0.mk H
           clear H
           go_wp2
           repeat (go_quiet (fail); try go_wp2)
           go_loopg [15] kj30 (fun kq v15 w' => ∃ (x15_3 : Int), v15 = .int .i64 x15_3 ∧ Aside0 (skywaykeep1_VolumeUnion.l0 kq a1 t152 t154 t168 x15_3 = some r) ∧ Aside0 (kq ≤ kj30) ∧ Aside0 (Kd.R k58 58 w' w.heap.size (fun _ => True) (.slice Aox2f221 t154.length cox2f221) t154) ∧ Aside0 (Below w.heap.size w w'))
           case atStart => exact ⟨(1), (by first | rfl | (simp; done) | (simp [*]; done)), H', ⟨Nat.le_refl _⟩, ⟨by (with_reducible repeat (first | apply Kd.R_alloc | apply Kd.R_drewN | apply Kd.R_drew)); exact HO_7.out⟩, ⟨by repeat (first | (with_reducible first | exact HB.out | apply below_alloc | apply pw_below_drewN | apply below_drew1) | exact HB.out)⟩⟩
           case round =>
            clear H'
            (try clear c1); (try clear p1); (try clear q1); (try clear hx1); (try clear qi1); (try clear c2); (try clear p2); (try clear q2); (try clear c3); (try clear c4); (try clear p6); (try clear c8); (try clear c8b0); (try clear c8b1); (try clear c11); (try clear p16); (try clear q16); (try clear hx16); (try clear qi16); (try clear c18); (try clear c18b0); (try clear c18b1); (try clear c19); (try clear c19b0); (try clear c19b1); (try clear c20); (try clear c20b0); (try clear c20b1); (try clear c21); (try clear c21b0); (try clear c22); (try clear c22b0); (try clear c22b1); (try clear c23); (try clear c23b0); (try clear c23b1); (try clear c24); (try clear c24b0); (try clear c24b1); (try clear q25)
            (try clear q26); (try clear q27); (try clear q28); (try clear q29); (try clear c34); (try clear c34b0); (try clear c34b1); (try clear c35); (try clear c35b0); (try clear c35b1); (try clear c36); (try clear c36b0); (try clear c36b1); (try clear c37); (try clear c37b0); (try clear c37b1); (try clear c38); (try clear hx167_0); (try clear hx167_1); (try clear p1); (try clear p16); (try clear p167); (try clear p2); (try clear p6); (try clear q1); (try clear q16); (try clear q167); (try clear q2); (try clear q25); (try clear q26); (try clear q27); (try clear q28); (try clear q29)
            obtain ⟨x15_3, rfl, HA, HK3, HO_7, HB⟩ := hrel
            cases gk with
            | zero => exact absurd HA.out (by simp [skywaykeep1_VolumeUnion.l0])
            | succ k3 =>
             have H := HA.out
             clear HA
             simp only [skywaykeep1_VolumeUnion.l0] at H
             refine Or.elim (Classical.em (x15_3 < (t154.length : Int))) (fun c39 => ?p20_) (fun c39 => ?n20_)
             case' p20_ =>
              rw [if_pos c39] at H
              have c39b0 : decide (x15_3 < (t154.length : Int)) = true := decide_eq_true c39
              clear c39
              refine Or.elim (Classical.em (0 ≤ x15_3)) (fun c40 => ?p21_) (fun c40 => ?n21_)
              case' p21_ =>
               rw [if_pos c40] at H
               have c40b0 : decide (0 ≤ x15_3) = true := decide_eq_true c40
               clear c40
               obtain ⟨ji41, hji41⟩ : ∃ j_ : Int, (wrap64 (x15_3 - 1)) = j_ := ⟨_, rfl⟩
               replace H : (if 0 ≤ (ji41) then (if (ji41) < (t154.length : Int) then (if ((rd_T58 t154 x15_3).f0) ≤ ((rd_T58 t154 (ji41)).f1) then (some false) else (skywaykeep1_VolumeUnion.l0 k3 a1 t152 t154 t168 (wrap64 (x15_3 + 1)))) else (none)) else (none)) = some r := by first | (rw [hji41] at H; exact H) | (simp only [hji41] at H ⊢; exact H)
               have hji41w : (IntKind.i64.wrap (x15_3 - 1)) = ji41 := (i64_w _).trans hji41
               refine Or.elim (Classical.em (0 ≤ (ji41))) (fun c42 => ?p22_) (fun c42 => ?n22_)
               case' p22_ =>
                rw [if_pos c42] at H
                have c42b0 : decide (0 ≤ (ji41)) = true := decide_eq_true c42
                clear c42
                refine Or.elim (Classical.em ((ji41) < (t154.length : Int))) (fun c43 => ?p23_) (fun c43 => ?n23_)
                case' p23_ =>
                 rw [if_pos c43] at H
                 have c43b0 : decide ((ji41) < (t154.length : Int)) = true := decide_eq_true c43
                 clear c43
                 refine Or.elim (Classical.em (((rd_T58 t154 x15_3).f0) ≤ ((rd_T58 t154 (ji41)).f1))) (fun c44 => ?p24_) (fun c44 => ?n24_)
                 case' p24_ =>
                  rw [if_pos c44] at H
                  have c44b0 : decide (((rd_T58 t154 x15_3).f0) ≤ ((rd_T58 t154 (ji41)).f1)) = true := decide_eq_true c44
                  clear c44
                  have hm19_0 := Aside0.mk trivial
                 case' n24_ =>
                  rw [if_neg c44] at H
                  have c44b0 : decide (((rd_T58 t154 x15_3).f0) ≤ ((rd_T58 t154 (ji41)).f1)) = false := decide_eq_false c44
                  clear c44
                  have hm19_1 := Aside0.mk trivial
                case' n23_ =>
                 rw [if_neg c43] at H
                 exact absurd H (by simp)
               case' n22_ =>
                rw [if_neg c42] at H
                exact absurd H (by simp)
              case' n21_ =>
               rw [if_neg c40] at H
               exact absurd H (by simp)
             case' n20_ =>
              rw [if_neg c39] at H
              have c39b0 : decide (x15_3 < (t154.length : Int)) = false := decide_eq_false c39
              clear c39
              refine Or.elim (Classical.em (t152 = true)) (fun c45 => ?p25_) (fun c45 => ?n25_)
              case' p25_ =>
               subst c45
               have H1 : (some (t168 == false)) = some r := by rw [if_pos rfl] at H; exact H
               clear H
               have H := H1
               clear H1
               have hm19_2 := Aside0.mk trivial
              case' n25_ =>
               replace c45 := Bool.eq_false_iff.mpr c45
               subst c45
               have H1 : (if a1 ≥ 0 then (some (t168 == (decide (a1 < 200000)))) else (some (t168 == false))) = some r := by rw [if_neg (show ¬ (false = true) by decide)] at H; exact H
               clear H
               have H := H1
               clear H1
               refine Or.elim (Classical.em (a1 ≥ 0)) (fun c46 => ?p26_) (fun c46 => ?n26_)
               case' p26_ =>
                rw [if_pos c46] at H
                have c46b0 : decide (0 ≤ a1) = true := decide_eq_true c46
                clear c46
                have hm19_2 := Aside0.mk trivial
               case' n26_ =>
                rw [if_neg c46] at H
                have c46b0 : decide (0 ≤ a1) = false := decide_eq_false c46
                clear c46
                have hm19_2 := Aside0.mk trivial
             all_goals
              first
               | (first | (have _hm := hm19_0) | (have _hm := hm19_2))
                 obtain rfl := Option.some.inj H
                 first
                  | clear hm19_0
                    have p170 : 0 ≤ (x15_3 : Int) := of_decide_eq_true (by first | (with_reducible assumption) | assumption)
                    have q170 : x15_3 < (t154.length : Int) := of_decide_eq_true (by first | (with_reducible assumption) | assumption)
                    obtain ⟨ad170, e170, hx170_0, hx170_1⟩ := at_T58 (Kd.R_reads' HO_7.out).2.2 x15_3 p170 q170
                    cases e170
                    replace p170 := eq_true p170
                    replace q170 := eq_true q170
                    have p171 : 0 ≤ ((ji41) : Int) := of_decide_eq_true (by first | (with_reducible assumption) | assumption)
                    have q171 : (ji41) < (t154.length : Int) := of_decide_eq_true (by first | (with_reducible assumption) | assumption)
                    obtain ⟨ad171, e171, hx171_0, hx171_1⟩ := at_T58 (Kd.R_reads' HO_7.out).2.2 (ji41) p171 q171
                    obtain rfl : ad170 = ad171 := (by injection e171)
                    replace p171 := eq_true p171
                    replace q171 := eq_true q171
                    go_wp2
                    repeat (go_quiet (fail); try go_wp2)
                    go_ret
                    exact ⟨by first | rfl | (simp [errW_none, errW_some] <;> rfl) | (simp only [← hji41]; first | rfl | (simp [errW_none, errW_some] <;> rfl)) | (simp [*, errW_none, errW_some] <;> rfl), by repeat (first | (with_reducible first | exact HB.out | apply below_alloc | apply pw_below_drewN | apply below_drew1) | exact HB.out)⟩
                  | clear hm19_2
                    go_wp2
                    repeat (go_quiet (fail); try go_wp2)
                    go_ret
                    exact ⟨by first | rfl | (simp [errW_none, errW_some] <;> rfl) | (simp [*, errW_none, errW_some] <;> rfl), by repeat (first | (with_reducible first | exact HB.out | apply below_alloc | apply pw_below_drewN | apply below_drew1) | exact HB.out)⟩
               | clear hm19_1
                 have H' := Aside0.mk H
                 clear H
                 have p170 : 0 ≤ (x15_3 : Int) := of_decide_eq_true (by first | (with_reducible assumption) | assumption)
                 have q170 : x15_3 < (t154.length : Int) := of_decide_eq_true (by first | (with_reducible assumption) | assumption)
                 obtain ⟨ad170, e170, hx170_0, hx170_1⟩ := at_T58 (Kd.R_reads' HO_7.out).2.2 x15_3 p170 q170
                 cases e170
                 replace p170 := eq_true p170
                 replace q170 := eq_true q170
                 have p171 : 0 ≤ ((ji41) : Int) := of_decide_eq_true (by first | (with_reducible assumption) | assumption)
                 have q171 : (ji41) < (t154.length : Int) := of_decide_eq_true (by first | (with_reducible assumption) | assumption)
                 obtain ⟨ad171, e171, hx171_0, hx171_1⟩ := at_T58 (Kd.R_reads' HO_7.out).2.2 (ji41) p171 q171
                 obtain rfl : ad170 = ad171 := (by injection e171)
                 replace p171 := eq_true p171
                 replace q171 := eq_true q171
                 go_wp2
                 repeat (go_quiet (fail); try go_wp2)
                 first | go_roundg k3 | (subst hji41; go_roundg k3)
                 case measure => have := HJ9.out; have := HJ30.out; have := HK3.out; omega
                 case rel => exact ⟨(wrap64 (x15_3 + 1)), (by first | rfl | (simp; done) | (simp [*]; done)), H', ⟨by have := HJ9.out; have := HJ30.out; have := HK3.out; omega⟩, ⟨by (with_reducible repeat (first | apply Kd.R_alloc | apply Kd.R_drewN | apply Kd.R_drew)); exact HO_7.out⟩, ⟨by repeat (first | (with_reducible first | exact HB.out | apply below_alloc | apply pw_below_drewN | apply below_drew1) | exact HB.out)⟩⟩
   | (first | (have _hm := hm1_1) | (have _hm := hm1_2) | (have _hm := hm1_3))
     obtain rfl := Option.some.inj H
     go_enter Try.func11, Try.ntmps11
     go_wp2_with (first | (go_at_call 32; (with_reducible refine (volume_Free.calls k _ _ l0 0 200000 t158 t159 _ ?side1 ?side2 A7.out).mono ?_); (case side1 => repeat (first | exact (Kd.C_below HR0.out HB.out) | (with_reducible refine Kd.C_alloc ?_ _) | (with_reducible refine Kd.C_drewN ?_ _) | (with_reducible refine Kd.C_drew ?_))); (case side2 => exact HC0.out); rintro e wxa2f31 ⟨v160, rfl, hoxe6191, hb⟩; have n0_ := Aside0.mk (Kd.R_elder' (by (with_reducible repeat (first | apply Kd.R_alloc | apply Kd.R_drewN | apply Kd.R_drew)); exact HO157.out) (Kd.R_base hoxe6191) hb); have n1_ := Aside0.mk (Kd.R_lower (Kd.R_new' hoxe6191 (Kd.R_lt (by (with_reducible repeat (first | apply Kd.R_alloc | apply Kd.R_drewN | apply Kd.R_drew)); exact HO157.out))) (below_size (by repeat (first | (with_reducible first | exact HB.out | apply below_alloc | apply pw_below_drewN | apply below_drew1) | exact HB.out)))); have n2_ := Aside0.mk (below_step (by repeat (first | (with_reducible first | exact HB.out | apply below_alloc | apply pw_below_drewN | apply below_drew1) | exact HB.out)) hb); clear HO157; clear HB; have HO157 := n0_; have HO161 := n1_; have HB := n2_; clear n0_ n1_ n2_; (try clear hb); (try clear hb2); (try clear hk); (try clear hi); (try clear hoxe6191); obtain ⟨Aoxa2f31, coxa2f31, eoxa2f31⟩ := Kd.R_slice HO157.out; subst eoxa2f31; obtain ⟨Aoxa2f32, coxa2f32, eoxa2f32⟩ := Kd.R_slice HO161.out; subst eoxa2f32) | (go_at_call 32; (with_reducible refine (volume_Free.calls k _ _ l0 0 200000 t158 t159 _ ?side1 ?side2 A7.out).mono ?_); (case side1 => repeat (first | exact (Kd.C_below HR0.out HB.out) | (with_reducible refine Kd.C_alloc ?_ _) | (with_reducible refine Kd.C_drewN ?_ _) | (with_reducible refine Kd.C_drew ?_))); (case side2 => exact HC0.out); rintro e wx24d41 ⟨v160, rfl, hoxe6191, hb⟩; have n0_ := Aside0.mk (Kd.R_elder' (by (with_reducible repeat (first | apply Kd.R_alloc | apply Kd.R_drewN | apply Kd.R_drew)); exact HO157.out) (Kd.R_base hoxe6191) hb); have n1_ := Aside0.mk (Kd.R_lower (Kd.R_new' hoxe6191 (Kd.R_lt (by (with_reducible repeat (first | apply Kd.R_alloc | apply Kd.R_drewN | apply Kd.R_drew)); exact HO157.out))) (below_size (by repeat (first | (with_reducible first | exact HB.out | apply below_alloc | apply pw_below_drewN | apply below_drew1) | exact HB.out)))); have n2_ := Aside0.mk (below_step (by repeat (first | (with_reducible first | exact HB.out | apply below_alloc | apply pw_below_drewN | apply below_drew1) | exact HB.out)) hb); clear HO157; clear HB; have HO157 := n0_; have HO161 := n1_; have HB := n2_; clear n0_ n1_ n2_; (try clear hb); (try clear hb2); (try clear hk); (try clear hi); (try clear hoxe6191)) | (go_at_call 33; (with_reducible refine (volume_Union.calls k _ _ l0 t154 t155 _ ?side1 ?side2 A6.out).mono ?_); (case side1 => repeat (first | exact (Kd.C_below HR0.out HB.out) | (with_reducible refine Kd.C_alloc ?_ _) | (with_reducible refine Kd.C_drewN ?_ _) | (with_reducible refine Kd.C_drew ?_))); (case side2 => exact HC0.out); rintro e wxe6191 ⟨v156, rfl, hoxe6191, hb⟩; have n0_ := Aside0.mk (Kd.R_lower hoxe6191 (below_size (by repeat (first | (with_reducible first | exact HB.out | apply below_alloc | apply pw_below_drewN | apply below_drew1) | exact HB.out)))); have n1_ := Aside0.mk (below_step (by repeat (first | (with_reducible first | exact HB.out | apply below_alloc | apply pw_below_drewN | apply below_drew1) | exact HB.out)) hb); clear HB; have HO157 := n0_; have HB := n1_; clear n0_ n1_; (try clear hb); (try clear hb2); (try clear hk); (try clear hi); (try clear hoxe6191)) | (go_at_call 34; (with_reducible refine (volume_During.calls k _ _ l0 a1 t152 t153 _ ?side1 ?side2 A5.out).mono ?_); (case side1 => repeat (first | exact (Kd.C_below HR0.out HB.out) | (with_reducible refine Kd.C_alloc ?_ _) | (with_reducible refine Kd.C_drewN ?_ _) | (with_reducible refine Kd.C_drew ?_))); (case side2 => exact HC0.out); rintro e wx37761 ⟨rfl, hb⟩; have n0_ := Aside0.mk (below_step (by repeat (first | (with_reducible first | exact HB.out | apply below_alloc | apply pw_below_drewN | apply below_drew1) | exact HB.out)) hb); clear HB; have HB := n0_; clear n0_; (try clear hb); (try clear hb2); (try clear hk); (try clear hi)) | (go_at_call 31; (with_reducible refine (skywaykeep1_volumeWorks.calls k  false _ A3.out).mono ?_); rintro e wxb5a81 ⟨rfl, hb⟩; have n0_ := Aside0.mk (below_step (by repeat (first | (with_reducible first | exact HB.out | apply below_alloc | apply pw_below_drewN | apply below_drew1) | exact HB.out)) hb); clear HB; have HB := n0_; clear n0_; (try clear hb); (try clear hb2); (try clear hk); (try clear hi)) | (go_at_call 31; (with_reducible refine (skywaykeep1_volumeWorks.calls k  true _ A3.out).mono ?_); rintro e wx81ac1 ⟨rfl, hb⟩; have n0_ := Aside0.mk (below_step (by repeat (first | (with_reducible first | exact HB.out | apply below_alloc | apply pw_below_drewN | apply below_drew1) | exact HB.out)) hb); clear HB; have HB := n0_; clear n0_; (try clear hb); (try clear hb2); (try clear hk); (try clear hi)))
     first
      | clear hm1_1
        repeat (go_quiet (first | (go_at_call 31; (with_reducible refine (skywaykeep1_volumeWorks.calls k  true _ A3.out).mono ?_); rintro e wx81ac1 ⟨rfl, hb⟩; have n0_ := Aside0.mk (below_step (by repeat (first | (with_reducible first | exact HB.out | apply below_alloc | apply pw_below_drewN | apply below_drew1) | exact HB.out)) hb); clear HB; have HB := n0_; clear n0_; (try clear hb); (try clear hb2); (try clear hk); (try clear hi)) | (go_at_call 34; (with_reducible refine (volume_During.calls k _ _ l0 a1 t152 t153 _ ?side1 ?side2 A5.out).mono ?_); (case side1 => repeat (first | exact (Kd.C_below HR0.out HB.out) | (with_reducible refine Kd.C_alloc ?_ _) | (with_reducible refine Kd.C_drewN ?_ _) | (with_reducible refine Kd.C_drew ?_))); (case side2 => exact HC0.out); rintro e wx37761 ⟨rfl, hb⟩; have n0_ := Aside0.mk (below_step (by repeat (first | (with_reducible first | exact HB.out | apply below_alloc | apply pw_below_drewN | apply below_drew1) | exact HB.out)) hb); clear HB; have HB := n0_; clear n0_; (try clear hb); (try clear hb2); (try clear hk); (try clear hi)) | (go_at_call 33; (with_reducible refine (volume_Union.calls k _ _ l0 t154 t155 _ ?side1 ?side2 A6.out).mono ?_); (case side1 => repeat (first | exact (Kd.C_below HR0.out HB.out) | (with_reducible refine Kd.C_alloc ?_ _) | (with_reducible refine Kd.C_drewN ?_ _) | (with_reducible refine Kd.C_drew ?_))); (case side2 => exact HC0.out); rintro e wxe6191 ⟨v156, rfl, hoxe6191, hb⟩; have n0_ := Aside0.mk (Kd.R_lower hoxe6191 (below_size (by repeat (first | (with_reducible first | exact HB.out | apply below_alloc | apply pw_below_drewN | apply below_drew1) | exact HB.out)))); have n1_ := Aside0.mk (below_step (by repeat (first | (with_reducible first | exact HB.out | apply below_alloc | apply pw_below_drewN | apply below_drew1) | exact HB.out)) hb); clear HB; have HO157 := n0_; have HB := n1_; clear n0_ n1_; (try clear hb); (try clear hb2); (try clear hk); (try clear hi); (try clear hoxe6191)) | (go_at_call 32; (with_reducible refine (volume_Free.calls k _ _ l0 0 200000 t158 t159 _ ?side1 ?side2 A7.out).mono ?_); (case side1 => repeat (first | exact (Kd.C_below HR0.out HB.out) | (with_reducible refine Kd.C_alloc ?_ _) | (with_reducible refine Kd.C_drewN ?_ _) | (with_reducible refine Kd.C_drew ?_))); (case side2 => exact HC0.out); rintro e wxa2f31 ⟨v160, rfl, hoxe6191, hb⟩; have n0_ := Aside0.mk (Kd.R_elder' (by (with_reducible repeat (first | apply Kd.R_alloc | apply Kd.R_drewN | apply Kd.R_drew)); exact HO157.out) (Kd.R_base hoxe6191) hb); have n1_ := Aside0.mk (Kd.R_lower (Kd.R_new' hoxe6191 (Kd.R_lt (by (with_reducible repeat (first | apply Kd.R_alloc | apply Kd.R_drewN | apply Kd.R_drew)); exact HO157.out))) (below_size (by repeat (first | (with_reducible first | exact HB.out | apply below_alloc | apply pw_below_drewN | apply below_drew1) | exact HB.out)))); have n2_ := Aside0.mk (below_step (by repeat (first | (with_reducible first | exact HB.out | apply below_alloc | apply pw_below_drewN | apply below_drew1) | exact HB.out)) hb); clear HO157; clear HB; have HO157 := n0_; have HO161 := n1_; have HB := n2_; clear n0_ n1_ n2_; (try clear hb); (try clear hb2); (try clear hk); (try clear hi); (try clear hoxe6191); obtain ⟨Aoxa2f31, coxa2f31, eoxa2f31⟩ := Kd.R_slice HO157.out; subst eoxa2f31; obtain ⟨Aoxa2f32, coxa2f32, eoxa2f32⟩ := Kd.R_slice HO161.out; subst eoxa2f32)); try go_wp2_with (first | (go_at_call 31; (with_reducible refine (skywaykeep1_volumeWorks.calls k  true _ A3.out).mono ?_); rintro e wx81ac1 ⟨rfl, hb⟩; have n0_ := Aside0.mk (below_step (by repeat (first | (with_reducible first | exact HB.out | apply below_alloc | apply pw_below_drewN | apply below_drew1) | exact HB.out)) hb); clear HB; have HB := n0_; clear n0_; (try clear hb); (try clear hb2); (try clear hk); (try clear hi)) | (go_at_call 34; (with_reducible refine (volume_During.calls k _ _ l0 a1 t152 t153 _ ?side1 ?side2 A5.out).mono ?_); (case side1 => repeat (first | exact (Kd.C_below HR0.out HB.out) | (with_reducible refine Kd.C_alloc ?_ _) | (with_reducible refine Kd.C_drewN ?_ _) | (with_reducible refine Kd.C_drew ?_))); (case side2 => exact HC0.out); rintro e wx37761 ⟨rfl, hb⟩; have n0_ := Aside0.mk (below_step (by repeat (first | (with_reducible first | exact HB.out | apply below_alloc | apply pw_below_drewN | apply below_drew1) | exact HB.out)) hb); clear HB; have HB := n0_; clear n0_; (try clear hb); (try clear hb2); (try clear hk); (try clear hi)) | (go_at_call 33; (with_reducible refine (volume_Union.calls k _ _ l0 t154 t155 _ ?side1 ?side2 A6.out).mono ?_); (case side1 => repeat (first | exact (Kd.C_below HR0.out HB.out) | (with_reducible refine Kd.C_alloc ?_ _) | (with_reducible refine Kd.C_drewN ?_ _) | (with_reducible refine Kd.C_drew ?_))); (case side2 => exact HC0.out); rintro e wxe6191 ⟨v156, rfl, hoxe6191, hb⟩; have n0_ := Aside0.mk (Kd.R_lower hoxe6191 (below_size (by repeat (first | (with_reducible first | exact HB.out | apply below_alloc | apply pw_below_drewN | apply below_drew1) | exact HB.out)))); have n1_ := Aside0.mk (below_step (by repeat (first | (with_reducible first | exact HB.out | apply below_alloc | apply pw_below_drewN | apply below_drew1) | exact HB.out)) hb); clear HB; have HO157 := n0_; have HB := n1_; clear n0_ n1_; (try clear hb); (try clear hb2); (try clear hk); (try clear hi); (try clear hoxe6191)) | (go_at_call 32; (with_reducible refine (volume_Free.calls k _ _ l0 0 200000 t158 t159 _ ?side1 ?side2 A7.out).mono ?_); (case side1 => repeat (first | exact (Kd.C_below HR0.out HB.out) | (with_reducible refine Kd.C_alloc ?_ _) | (with_reducible refine Kd.C_drewN ?_ _) | (with_reducible refine Kd.C_drew ?_))); (case side2 => exact HC0.out); rintro e wxa2f31 ⟨v160, rfl, hoxe6191, hb⟩; have n0_ := Aside0.mk (Kd.R_elder' (by (with_reducible repeat (first | apply Kd.R_alloc | apply Kd.R_drewN | apply Kd.R_drew)); exact HO157.out) (Kd.R_base hoxe6191) hb); have n1_ := Aside0.mk (Kd.R_lower (Kd.R_new' hoxe6191 (Kd.R_lt (by (with_reducible repeat (first | apply Kd.R_alloc | apply Kd.R_drewN | apply Kd.R_drew)); exact HO157.out))) (below_size (by repeat (first | (with_reducible first | exact HB.out | apply below_alloc | apply pw_below_drewN | apply below_drew1) | exact HB.out)))); have n2_ := Aside0.mk (below_step (by repeat (first | (with_reducible first | exact HB.out | apply below_alloc | apply pw_below_drewN | apply below_drew1) | exact HB.out)) hb); clear HO157; clear HB; have HO157 := n0_; have HO161 := n1_; have HB := n2_; clear n0_ n1_ n2_; (try clear hb); (try clear hb2); (try clear hk); (try clear hi); (try clear hoxe6191); obtain ⟨Aoxa2f31, coxa2f31, eoxa2f31⟩ := Kd.R_slice HO157.out; subst eoxa2f31; obtain ⟨Aoxa2f32, coxa2f32, eoxa2f32⟩ := Kd.R_slice HO161.out; subst eoxa2f32)))
        go_ret
        exact ⟨by first | rfl | (simp [errW_none, errW_some] <;> rfl) | (simp [*, errW_none, errW_some] <;> rfl), by repeat (first | (with_reducible first | exact HB.out | apply below_alloc | apply pw_below_drewN | apply below_drew1) | exact HB.out)⟩
      | clear hm1_2
        repeat (go_quiet (first | (go_at_call 31; (with_reducible refine (skywaykeep1_volumeWorks.calls k  true _ A3.out).mono ?_); rintro e wx81ac1 ⟨rfl, hb⟩; have n0_ := Aside0.mk (below_step (by repeat (first | (with_reducible first | exact HB.out | apply below_alloc | apply pw_below_drewN | apply below_drew1) | exact HB.out)) hb); clear HB; have HB := n0_; clear n0_; (try clear hb); (try clear hb2); (try clear hk); (try clear hi)) | (go_at_call 34; (with_reducible refine (volume_During.calls k _ _ l0 a1 t152 t153 _ ?side1 ?side2 A5.out).mono ?_); (case side1 => repeat (first | exact (Kd.C_below HR0.out HB.out) | (with_reducible refine Kd.C_alloc ?_ _) | (with_reducible refine Kd.C_drewN ?_ _) | (with_reducible refine Kd.C_drew ?_))); (case side2 => exact HC0.out); rintro e wx37761 ⟨rfl, hb⟩; have n0_ := Aside0.mk (below_step (by repeat (first | (with_reducible first | exact HB.out | apply below_alloc | apply pw_below_drewN | apply below_drew1) | exact HB.out)) hb); clear HB; have HB := n0_; clear n0_; (try clear hb); (try clear hb2); (try clear hk); (try clear hi)) | (go_at_call 33; (with_reducible refine (volume_Union.calls k _ _ l0 t154 t155 _ ?side1 ?side2 A6.out).mono ?_); (case side1 => repeat (first | exact (Kd.C_below HR0.out HB.out) | (with_reducible refine Kd.C_alloc ?_ _) | (with_reducible refine Kd.C_drewN ?_ _) | (with_reducible refine Kd.C_drew ?_))); (case side2 => exact HC0.out); rintro e wxe6191 ⟨v156, rfl, hoxe6191, hb⟩; have n0_ := Aside0.mk (Kd.R_lower hoxe6191 (below_size (by repeat (first | (with_reducible first | exact HB.out | apply below_alloc | apply pw_below_drewN | apply below_drew1) | exact HB.out)))); have n1_ := Aside0.mk (below_step (by repeat (first | (with_reducible first | exact HB.out | apply below_alloc | apply pw_below_drewN | apply below_drew1) | exact HB.out)) hb); clear HB; have HO157 := n0_; have HB := n1_; clear n0_ n1_; (try clear hb); (try clear hb2); (try clear hk); (try clear hi); (try clear hoxe6191)) | (go_at_call 32; (with_reducible refine (volume_Free.calls k _ _ l0 0 200000 t158 t159 _ ?side1 ?side2 A7.out).mono ?_); (case side1 => repeat (first | exact (Kd.C_below HR0.out HB.out) | (with_reducible refine Kd.C_alloc ?_ _) | (with_reducible refine Kd.C_drewN ?_ _) | (with_reducible refine Kd.C_drew ?_))); (case side2 => exact HC0.out); rintro e wx24d41 ⟨v160, rfl, hoxe6191, hb⟩; have n0_ := Aside0.mk (Kd.R_elder' (by (with_reducible repeat (first | apply Kd.R_alloc | apply Kd.R_drewN | apply Kd.R_drew)); exact HO157.out) (Kd.R_base hoxe6191) hb); have n1_ := Aside0.mk (Kd.R_lower (Kd.R_new' hoxe6191 (Kd.R_lt (by (with_reducible repeat (first | apply Kd.R_alloc | apply Kd.R_drewN | apply Kd.R_drew)); exact HO157.out))) (below_size (by repeat (first | (with_reducible first | exact HB.out | apply below_alloc | apply pw_below_drewN | apply below_drew1) | exact HB.out)))); have n2_ := Aside0.mk (below_step (by repeat (first | (with_reducible first | exact HB.out | apply below_alloc | apply pw_below_drewN | apply below_drew1) | exact HB.out)) hb); clear HO157; clear HB; have HO157 := n0_; have HO161 := n1_; have HB := n2_; clear n0_ n1_ n2_; (try clear hb); (try clear hb2); (try clear hk); (try clear hi); (try clear hoxe6191))); try go_wp2_with (first | (go_at_call 31; (with_reducible refine (skywaykeep1_volumeWorks.calls k  true _ A3.out).mono ?_); rintro e wx81ac1 ⟨rfl, hb⟩; have n0_ := Aside0.mk (below_step (by repeat (first | (with_reducible first | exact HB.out | apply below_alloc | apply pw_below_drewN | apply below_drew1) | exact HB.out)) hb); clear HB; have HB := n0_; clear n0_; (try clear hb); (try clear hb2); (try clear hk); (try clear hi)) | (go_at_call 34; (with_reducible refine (volume_During.calls k _ _ l0 a1 t152 t153 _ ?side1 ?side2 A5.out).mono ?_); (case side1 => repeat (first | exact (Kd.C_below HR0.out HB.out) | (with_reducible refine Kd.C_alloc ?_ _) | (with_reducible refine Kd.C_drewN ?_ _) | (with_reducible refine Kd.C_drew ?_))); (case side2 => exact HC0.out); rintro e wx37761 ⟨rfl, hb⟩; have n0_ := Aside0.mk (below_step (by repeat (first | (with_reducible first | exact HB.out | apply below_alloc | apply pw_below_drewN | apply below_drew1) | exact HB.out)) hb); clear HB; have HB := n0_; clear n0_; (try clear hb); (try clear hb2); (try clear hk); (try clear hi)) | (go_at_call 33; (with_reducible refine (volume_Union.calls k _ _ l0 t154 t155 _ ?side1 ?side2 A6.out).mono ?_); (case side1 => repeat (first | exact (Kd.C_below HR0.out HB.out) | (with_reducible refine Kd.C_alloc ?_ _) | (with_reducible refine Kd.C_drewN ?_ _) | (with_reducible refine Kd.C_drew ?_))); (case side2 => exact HC0.out); rintro e wxe6191 ⟨v156, rfl, hoxe6191, hb⟩; have n0_ := Aside0.mk (Kd.R_lower hoxe6191 (below_size (by repeat (first | (with_reducible first | exact HB.out | apply below_alloc | apply pw_below_drewN | apply below_drew1) | exact HB.out)))); have n1_ := Aside0.mk (below_step (by repeat (first | (with_reducible first | exact HB.out | apply below_alloc | apply pw_below_drewN | apply below_drew1) | exact HB.out)) hb); clear HB; have HO157 := n0_; have HB := n1_; clear n0_ n1_; (try clear hb); (try clear hb2); (try clear hk); (try clear hi); (try clear hoxe6191)) | (go_at_call 32; (with_reducible refine (volume_Free.calls k _ _ l0 0 200000 t158 t159 _ ?side1 ?side2 A7.out).mono ?_); (case side1 => repeat (first | exact (Kd.C_below HR0.out HB.out) | (with_reducible refine Kd.C_alloc ?_ _) | (with_reducible refine Kd.C_drewN ?_ _) | (with_reducible refine Kd.C_drew ?_))); (case side2 => exact HC0.out); rintro e wx24d41 ⟨v160, rfl, hoxe6191, hb⟩; have n0_ := Aside0.mk (Kd.R_elder' (by (with_reducible repeat (first | apply Kd.R_alloc | apply Kd.R_drewN | apply Kd.R_drew)); exact HO157.out) (Kd.R_base hoxe6191) hb); have n1_ := Aside0.mk (Kd.R_lower (Kd.R_new' hoxe6191 (Kd.R_lt (by (with_reducible repeat (first | apply Kd.R_alloc | apply Kd.R_drewN | apply Kd.R_drew)); exact HO157.out))) (below_size (by repeat (first | (with_reducible first | exact HB.out | apply below_alloc | apply pw_below_drewN | apply below_drew1) | exact HB.out)))); have n2_ := Aside0.mk (below_step (by repeat (first | (with_reducible first | exact HB.out | apply below_alloc | apply pw_below_drewN | apply below_drew1) | exact HB.out)) hb); clear HO157; clear HB; have HO157 := n0_; have HO161 := n1_; have HB := n2_; clear n0_ n1_ n2_; (try clear hb); (try clear hb2); (try clear hk); (try clear hi); (try clear hoxe6191))))
        go_ret
        exact ⟨by first | rfl | (simp [errW_none, errW_some] <;> rfl) | (simp [*, errW_none, errW_some] <;> rfl), by repeat (first | (with_reducible first | exact HB.out | apply below_alloc | apply pw_below_drewN | apply below_drew1) | exact HB.out)⟩
      | clear hm1_3
        repeat (go_quiet (first | (go_at_call 31; (with_reducible refine (skywaykeep1_volumeWorks.calls k  false _ A3.out).mono ?_); rintro e wxb5a81 ⟨rfl, hb⟩; have n0_ := Aside0.mk (below_step (by repeat (first | (with_reducible first | exact HB.out | apply below_alloc | apply pw_below_drewN | apply below_drew1) | exact HB.out)) hb); clear HB; have HB := n0_; clear n0_; (try clear hb); (try clear hb2); (try clear hk); (try clear hi))); try go_wp2_with (first | (go_at_call 31; (with_reducible refine (skywaykeep1_volumeWorks.calls k  false _ A3.out).mono ?_); rintro e wxb5a81 ⟨rfl, hb⟩; have n0_ := Aside0.mk (below_step (by repeat (first | (with_reducible first | exact HB.out | apply below_alloc | apply pw_below_drewN | apply below_drew1) | exact HB.out)) hb); clear HB; have HB := n0_; clear n0_; (try clear hb); (try clear hb2); (try clear hk); (try clear hi))))
        go_ret
        exact ⟨by first | rfl | (simp [errW_none, errW_some] <;> rfl) | (simp [*, errW_none, errW_some] <;> rfl), by repeat (first | (with_reducible first | exact HB.out | apply below_alloc | apply pw_below_drewN | apply below_drew1) | exact HB.out)⟩

/-- What is told of a value of struct type 58 that came in. -/
def good58 (x : S58) : Prop := ((Lit.int .i64 x.f0).wf = true) ∧ (Lit.int .i64 x.f1).wf = true
/-- THE ONE PURE STATEMENT of skywaykeep1_VolumeUnion. -/
def skywaykeep1_VolumeUnion.Pure : Prop := ∀ (l0 : List (S58)) (a1 : Int), (l0.length * 16 ≤ 140737488351232 ∧ ∀ y0 ∈ l0, good58 y0) → ((Lit.int .i64 a1).wf = true) → ∃ k, skywaykeep1_VolumeUnion.f k l0 a1 = some true

end Go.Proofs.Yteaddpieonkboaa.PVolumeUnion
