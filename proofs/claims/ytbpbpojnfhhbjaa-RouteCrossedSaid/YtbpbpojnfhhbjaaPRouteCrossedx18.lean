/- Made by a program of this session (wip/tools/myprint.py, over the kit's printer): that the Go functions answer as the Lean functions printed beside them. -/
import Derived.Test.YtbpbpojnfhhbjaaTSq2
import Derived.Test.YtbpbpojnfhhbjaaPRouteCrossedx0
import Derived.Test.YtbpbpojnfhhbjaaPRouteCrossedx2
import Derived.Test.YtbpbpojnfhhbjaaPRouteCrossedx9
import Derived.Test.YtbpbpojnfhhbjaaPRouteCrossedx17
namespace Go.Proofs.Ytbpbpojnfhhbjaa.PRouteCrossed
open Go.RowKit Go.Proofs.YtbpbpojnfhhbjaaW.PrintWords Go.Proofs.YtbpbpojnfhhbjaaW.PrintLast Go.Proofs.YtbpbpojnfhhbjaaW.PrintMore
attribute [local go_sem] max2_int min2_int max_two min_two max_three min_three max_four min_four   -- for this text's walks alone
set_option linter.unusedVariables false
set_option linter.unusedSimpArgs false

/-! ### skywaykeep1_RouteCrossed: function 9 -/
mutual
def skywaykeep1_RouteCrossed.l0 : Nat → List (S40) → List (S65) → List ByteArray → List (S40) → Int → Int → Option (Bool)
  | 0, _, _, _, _, _, _ => none
  | k + 1, x0, x1, x5, x7, x36, x37 => if x37 < x36 then (if 0 ≤ (wrap64 ((wrap64 ((x0.length : Int) - 1)) - x37)) then (if (wrap64 ((wrap64 ((x0.length : Int) - 1)) - x37)) < (x0.length : Int) then (if x7.length < 4398046511104 then (skywaykeep1_RouteCrossed.l0 k x0 x1 x5 (x7 ++ [(⟨(rd_T40 x0 (wrap64 ((wrap64 ((x0.length : Int) - 1)) - x37))).f0, (⟨(rd_T40 x0 (wrap64 ((wrap64 ((x0.length : Int) - 1)) - x37))).f1.f0, (rd_T40 x0 (wrap64 ((wrap64 ((x0.length : Int) - 1)) - x37))).f1.f1⟩ : S36)⟩ : S40)]) x36 (wrap64 (x37 + 1))) else (none)) else (none)) else (none)) else ((route_Crossed.f k x7 x1).bind fun bt424 => (if bt424.2 = 0 then ((skywayref1_SameTexts.f k x5 bt424.1).bind fun t428 => (skywaykeep1_RouteCrossed.j1 k x0 x1 x5 (!t428))) else (skywaykeep1_RouteCrossed.j1 k x0 x1 x5 true)))
def skywaykeep1_RouteCrossed.j1 : Nat → List (S40) → List (S65) → List ByteArray → Bool → Option (Bool)
  | 0, _, _, _, _ => none
  | k + 1, x0, x1, x5, x65 => if x65 = true then (some false) else (skywaykeep1_RouteCrossed.l1 k x0 x5 x1 (x1.length : Int) 0)
def skywaykeep1_RouteCrossed.l1 : Nat → List (S40) → List ByteArray → List (S65) → Int → Int → Option (Bool)
  | 0, _, _, _, _, _ => none
  | k + 1, x0, x5, x66, x67, x68 => if x68 < x67 then (if 0 ≤ x68 then (if x68 < (x66.length : Int) then (skywaykeep1_RouteCrossed.l2 k x0 x5 x66 x67 x68 x0 (x0.length : Int) 0 ((rd_T65 x66 x68).f0) ((rd_T65 x66 x68).f1.f0) ((rd_T65 x66 x68).f1.f1) ((rd_T65 x66 x68).f1.f2) ((rd_T65 x66 x68).f2)) else (none)) else (none)) else (some true)
def skywaykeep1_RouteCrossed.l2 : Nat → List (S40) → List ByteArray → List (S65) → Int → Int → List (S40) → Int → Int → ByteArray → List (S36) → Int → Int → List (S140) → Option (Bool)
  | 0, _, _, _, _, _, _, _, _, _, _, _, _, _ => none
  | k + 1, x0, x5, x66, x67, x68, x72, x73, x74, x431000, x431001, x431002, x431003, x431004 => if x74 < x73 then (if 0 ≤ x74 then (if x74 < (x72.length : Int) then ((polygon_Locate.f k x431001 ((rd_T40 x72 x74).f1.f0) ((rd_T40 x72 x74).f1.f1)).bind fun bt433 => (if bt433.2 = 0 then (if bt433.1 ≥ 0 then (if (x0.length : Int) > 1 then ((skywayref1_HasText.f k x5 x431000).bind fun t435 => (if t435 = true then (skywaykeep1_RouteCrossed.l2 k x0 x5 x66 x67 x68 x72 x73 (wrap64 (x74 + 1)) x431000 x431001 x431002 x431003 x431004) else (some false))) else (skywaykeep1_RouteCrossed.l2 k x0 x5 x66 x67 x68 x72 x73 (wrap64 (x74 + 1)) x431000 x431001 x431002 x431003 x431004)) else (skywaykeep1_RouteCrossed.l2 k x0 x5 x66 x67 x68 x72 x73 (wrap64 (x74 + 1)) x431000 x431001 x431002 x431003 x431004)) else (some false))) else (none)) else (none)) else (skywaykeep1_RouteCrossed.l1 k x0 x5 x66 x67 (wrap64 (x68 + 1)))
end
def skywaykeep1_RouteCrossed.f (k : Nat) (l0 : List (S40)) (l1 : List (S65)) : Option (Bool) := if 0 ≤ (mn (l0.length : Int) 8) then (if (mn (l0.length : Int) 8) ≤ (l0.length : Int) then ((some (l0.take ((mn (l0.length : Int) 8) : Int).toNat : List (S40))).bind fun y411 => ((skywaykeep1_routeWorks.f k).bind fun t415 => (if t415 = true then ((route_Crossed.f k y411 l1).bind fun bt416 => (if bt416.2 = 0 then (skywaykeep1_RouteCrossed.l0 k y411 l1 bt416.1 ([] : List (S40)) (y411.length : Int) 0) else (some ((bt416.1.length : Int) == 0)))) else (some false)))) else (none)) else (none)
theorem skywaykeep1_RouteCrossed.mono_l : ∀ k, (∀ y0 y1 y2 y3 y4 y5, LeO (skywaykeep1_RouteCrossed.l0 k y0 y1 y2 y3 y4 y5) (skywaykeep1_RouteCrossed.l0 (k + 1) y0 y1 y2 y3 y4 y5)) ∧ (∀ y0 y1 y2 y3, LeO (skywaykeep1_RouteCrossed.j1 k y0 y1 y2 y3) (skywaykeep1_RouteCrossed.j1 (k + 1) y0 y1 y2 y3)) ∧ (∀ y0 y1 y2 y3 y4, LeO (skywaykeep1_RouteCrossed.l1 k y0 y1 y2 y3 y4) (skywaykeep1_RouteCrossed.l1 (k + 1) y0 y1 y2 y3 y4)) ∧ (∀ y0 y1 y2 y3 y4 y5 y6 y7 y8 y9 y10 y11 y12, LeO (skywaykeep1_RouteCrossed.l2 k y0 y1 y2 y3 y4 y5 y6 y7 y8 y9 y10 y11 y12) (skywaykeep1_RouteCrossed.l2 (k + 1) y0 y1 y2 y3 y4 y5 y6 y7 y8 y9 y10 y11 y12))
  | 0 => ⟨fun _ _ _ _ _ _ r h => by simp [skywaykeep1_RouteCrossed.l0] at h, fun _ _ _ _ r h => by simp [skywaykeep1_RouteCrossed.j1] at h, fun _ _ _ _ _ r h => by simp [skywaykeep1_RouteCrossed.l1] at h, fun _ _ _ _ _ _ _ _ _ _ _ _ _ r h => by simp [skywaykeep1_RouteCrossed.l2] at h⟩
  | k + 1 => by
    obtain ⟨ih0, ih1, ih2, ih3⟩ := skywaykeep1_RouteCrossed.mono_l k; refine ⟨?_, ?_, ?_, ?_⟩
    · intro y0 y1 y2 y3 y4 y5; unfold skywaykeep1_RouteCrossed.l0
      repeat' first
      | (with_reducible exact ih0 _ _ _ _ _ _)
      | (with_reducible exact ih1 _ _ _ _)
      | (with_reducible exact ih2 _ _ _ _ _)
      | (with_reducible exact ih3 _ _ _ _ _ _ _ _ _ _ _ _ _)
      | (with_reducible exact polygon_Locate.mono _ _ _ _)
      | (with_reducible exact route_Crossed.mono _ _ _)
      | (with_reducible exact skywaykeep1_routeWorks.mono _)
      | (with_reducible exact skywayref1_HasText.mono _ _ _)
      | (with_reducible exact skywayref1_SameTexts.mono _ _ _)
      | (with_reducible exact LeO.refl _)
      | (with_reducible exact LeO.none _)
      | (with_reducible refine LeO.ite ?_ ?_)
      | (with_reducible refine LeO.bind ?_ (fun _ => ?_))
      | exact ih0 _ _ _ _ _ _
      | exact ih1 _ _ _ _
      | exact ih2 _ _ _ _ _
      | exact ih3 _ _ _ _ _ _ _ _ _ _ _ _ _
      | exact polygon_Locate.mono _ _ _ _
      | exact route_Crossed.mono _ _ _
      | exact skywaykeep1_routeWorks.mono _
      | exact skywayref1_HasText.mono _ _ _
      | exact skywayref1_SameTexts.mono _ _ _
      | exact LeO.none _
      | refine LeO.ite ?_ ?_
      | refine LeO.bind ?_ (fun _ => ?_)
    · intro y0 y1 y2 y3; unfold skywaykeep1_RouteCrossed.j1
      repeat' first
      | (with_reducible exact ih0 _ _ _ _ _ _)
      | (with_reducible exact ih1 _ _ _ _)
      | (with_reducible exact ih2 _ _ _ _ _)
      | (with_reducible exact ih3 _ _ _ _ _ _ _ _ _ _ _ _ _)
      | (with_reducible exact polygon_Locate.mono _ _ _ _)
      | (with_reducible exact route_Crossed.mono _ _ _)
      | (with_reducible exact skywaykeep1_routeWorks.mono _)
      | (with_reducible exact skywayref1_HasText.mono _ _ _)
      | (with_reducible exact skywayref1_SameTexts.mono _ _ _)
      | (with_reducible exact LeO.refl _)
      | (with_reducible exact LeO.none _)
      | (with_reducible refine LeO.ite ?_ ?_)
      | (with_reducible refine LeO.bind ?_ (fun _ => ?_))
      | exact ih0 _ _ _ _ _ _
      | exact ih1 _ _ _ _
      | exact ih2 _ _ _ _ _
      | exact ih3 _ _ _ _ _ _ _ _ _ _ _ _ _
      | exact polygon_Locate.mono _ _ _ _
      | exact route_Crossed.mono _ _ _
      | exact skywaykeep1_routeWorks.mono _
      | exact skywayref1_HasText.mono _ _ _
      | exact skywayref1_SameTexts.mono _ _ _
      | exact LeO.none _
      | refine LeO.ite ?_ ?_
      | refine LeO.bind ?_ (fun _ => ?_)
    · intro y0 y1 y2 y3 y4; unfold skywaykeep1_RouteCrossed.l1
      repeat' first
      | (with_reducible exact ih0 _ _ _ _ _ _)
      | (with_reducible exact ih1 _ _ _ _)
      | (with_reducible exact ih2 _ _ _ _ _)
      | (with_reducible exact ih3 _ _ _ _ _ _ _ _ _ _ _ _ _)
      | (with_reducible exact polygon_Locate.mono _ _ _ _)
      | (with_reducible exact route_Crossed.mono _ _ _)
      | (with_reducible exact skywaykeep1_routeWorks.mono _)
      | (with_reducible exact skywayref1_HasText.mono _ _ _)
      | (with_reducible exact skywayref1_SameTexts.mono _ _ _)
      | (with_reducible exact LeO.refl _)
      | (with_reducible exact LeO.none _)
      | (with_reducible refine LeO.ite ?_ ?_)
      | (with_reducible refine LeO.bind ?_ (fun _ => ?_))
      | exact ih0 _ _ _ _ _ _
      | exact ih1 _ _ _ _
      | exact ih2 _ _ _ _ _
      | exact ih3 _ _ _ _ _ _ _ _ _ _ _ _ _
      | exact polygon_Locate.mono _ _ _ _
      | exact route_Crossed.mono _ _ _
      | exact skywaykeep1_routeWorks.mono _
      | exact skywayref1_HasText.mono _ _ _
      | exact skywayref1_SameTexts.mono _ _ _
      | exact LeO.none _
      | refine LeO.ite ?_ ?_
      | refine LeO.bind ?_ (fun _ => ?_)
    · intro y0 y1 y2 y3 y4 y5 y6 y7 y8 y9 y10 y11 y12; unfold skywaykeep1_RouteCrossed.l2
      repeat' first
      | (with_reducible exact ih0 _ _ _ _ _ _)
      | (with_reducible exact ih1 _ _ _ _)
      | (with_reducible exact ih2 _ _ _ _ _)
      | (with_reducible exact ih3 _ _ _ _ _ _ _ _ _ _ _ _ _)
      | (with_reducible exact polygon_Locate.mono _ _ _ _)
      | (with_reducible exact route_Crossed.mono _ _ _)
      | (with_reducible exact skywaykeep1_routeWorks.mono _)
      | (with_reducible exact skywayref1_HasText.mono _ _ _)
      | (with_reducible exact skywayref1_SameTexts.mono _ _ _)
      | (with_reducible exact LeO.refl _)
      | (with_reducible exact LeO.none _)
      | (with_reducible refine LeO.ite ?_ ?_)
      | (with_reducible refine LeO.bind ?_ (fun _ => ?_))
      | exact ih0 _ _ _ _ _ _
      | exact ih1 _ _ _ _
      | exact ih2 _ _ _ _ _
      | exact ih3 _ _ _ _ _ _ _ _ _ _ _ _ _
      | exact polygon_Locate.mono _ _ _ _
      | exact route_Crossed.mono _ _ _
      | exact skywaykeep1_routeWorks.mono _
      | exact skywayref1_HasText.mono _ _ _
      | exact skywayref1_SameTexts.mono _ _ _
      | exact LeO.none _
      | refine LeO.ite ?_ ?_
      | refine LeO.bind ?_ (fun _ => ?_)
theorem skywaykeep1_RouteCrossed.mono : ∀ a0 a1 k, LeO (skywaykeep1_RouteCrossed.f k a0 a1) (skywaykeep1_RouteCrossed.f (k + 1) a0 a1) := by
  intro a0 a1 k; obtain ⟨ih0, ih1, ih2, ih3⟩ := skywaykeep1_RouteCrossed.mono_l k; unfold skywaykeep1_RouteCrossed.f
  repeat' first
      | (with_reducible exact ih0 _ _ _ _ _ _)
      | (with_reducible exact ih1 _ _ _ _)
      | (with_reducible exact ih2 _ _ _ _ _)
      | (with_reducible exact ih3 _ _ _ _ _ _ _ _ _ _ _ _ _)
      | (with_reducible exact polygon_Locate.mono _ _ _ _)
      | (with_reducible exact route_Crossed.mono _ _ _)
      | (with_reducible exact skywaykeep1_routeWorks.mono _)
      | (with_reducible exact skywayref1_HasText.mono _ _ _)
      | (with_reducible exact skywayref1_SameTexts.mono _ _ _)
      | (with_reducible exact LeO.refl _)
      | (with_reducible exact LeO.none _)
      | (with_reducible refine LeO.ite ?_ ?_)
      | (with_reducible refine LeO.bind ?_ (fun _ => ?_))
      | exact ih0 _ _ _ _ _ _
      | exact ih1 _ _ _ _
      | exact ih2 _ _ _ _ _
      | exact ih3 _ _ _ _ _ _ _ _ _ _ _ _ _
      | exact polygon_Locate.mono _ _ _ _
      | exact route_Crossed.mono _ _ _
      | exact skywaykeep1_routeWorks.mono _
      | exact skywayref1_HasText.mono _ _ _
      | exact skywayref1_SameTexts.mono _ _ _
      | exact LeO.none _
      | refine LeO.ite ?_ ?_
      | refine LeO.bind ?_ (fun _ => ?_)
set_option maxHeartbeats 8000000 in
set_option maxRecDepth 100000 in
theorem skywaykeep1_RouteCrossed.calls (k : Nat) (A0 : Option Addr) (c0 : Nat) (l0 : List (S40)) (A1 : Option Addr) (c1 : Nat) (l1 : List (S65)) (r : Bool) (w : World) (hr0 : Kd.C k40 w A0 l0.length l0) (hc0 : l0.length ≤ c0) (hr1 : Kd.C k65 w A1 l1.length l1) (hc1 : l1.length ≤ c1) (h : skywaykeep1_RouteCrossed.f k l0 l1 = some r) :
    Calls Try.prog 9 #[.slice A0 l0.length c0, .slice A1 l1.length c1] w fun e w' => e = .returned (.bool r) ∧ Below w.heap.size w w' := by
 have hu40 := Try.underlying40; have hu65 := Try.underlying65; have hu36 := Try.underlying36; have HR0 := Aside0.mk hr0; have HC0 := Aside0.mk hc0; clear hr0 hc0; have HR1 := Aside0.mk hr1; have HC1 := Aside0.mk hc1; clear hr1 hc1; have HB := Aside0.mk (Below.refl w.heap.size w); have H : (if 0 ≤ (mn (l0.length : Int) 8) then (if (mn (l0.length : Int) 8) ≤ (l0.length : Int) then ((some (l0.take ((mn (l0.length : Int) 8) : Int).toNat : List (S40))).bind fun y411 => ((skywaykeep1_routeWorks.f k).bind fun t415 => (if t415 = true then ((route_Crossed.f k y411 l1).bind fun bt416 => (if bt416.2 = 0 then (skywaykeep1_RouteCrossed.l0 k y411 l1 bt416.1 ([] : List (S40)) (y411.length : Int) 0) else (some ((bt416.1.length : Int) == 0)))) else (some false)))) else (none)) else (none)) = some r := h; clear h; obtain ⟨ji3, hji3⟩ : ∃ j_ : Int, (mn (l0.length : Int) 8) = j_ := ⟨_, rfl⟩
 replace H : (if 0 ≤ (ji3) then (if (ji3) ≤ (l0.length : Int) then ((some (l0.take ((ji3) : Int).toNat : List (S40))).bind fun y411 => ((skywaykeep1_routeWorks.f k).bind fun t415 => (if t415 = true then ((route_Crossed.f k y411 l1).bind fun bt416 => (if bt416.2 = 0 then (skywaykeep1_RouteCrossed.l0 k y411 l1 bt416.1 ([] : List (S40)) (y411.length : Int) 0) else (some ((bt416.1.length : Int) == 0)))) else (some false)))) else (none)) else (none)) = some r := by first | (rw [hji3] at H; exact H) | (simp only [hji3] at H ⊢; exact H)
 (try (have hji3h : ji3 ≤ 8 := by (rw [← hji3]; unfold mn; (repeat' split) <;> omega)))
 (try (have hji3g : ji3 ≤ 64 := by omega))
 (try (have hji3l : 0 ≤ ji3 := by (rw [← hji3]; unfold mn; (repeat' split) <;> omega)))
 (try (have hji3m : 0 ≤ ji3 := by omega))
 have hji3_ : (if 8 < (l0.length : Int) then 8 else (l0.length : Int)) = ji3 := hji3; refine Or.elim (Classical.em (0 ≤ (ji3))) (fun c4 => ?p2_) (fun c4 => ?n2_)
 case' p2_ =>
  rw [if_pos c4] at H; have c4b0 := eq_true c4; have c4b1 : decide (0 ≤ (ji3)) = true := decide_eq_true c4; clear c4; refine Or.elim (Classical.em ((ji3) ≤ (l0.length : Int))) (fun c5 => ?p3_) (fun c5 => ?n3_)
  case' p3_ =>
   rw [if_pos c5] at H; have c5b0 := eq_true c5; have c5b1 : decide ((ji3) ≤ (l0.length : Int)) = true := decide_eq_true c5; clear c5; obtain ⟨y411, hy411⟩ : ∃ y_ : List (S40), y_ = (l0.take ((ji3) : Int).toNat) := ⟨_, rfl⟩
   replace H : ((skywaykeep1_routeWorks.f k).bind fun t415 => (if t415 = true then ((route_Crossed.f k y411 l1).bind fun bt416 => (if bt416.2 = 0 then (skywaykeep1_RouteCrossed.l0 k y411 l1 bt416.1 ([] : List (S40)) (y411.length : Int) 0) else (some ((bt416.1.length : Int) == 0)))) else (some false))) = some r := by first | (rw [hy411]; with_reducible exact H) | (have H2_ := (Option.bind_some _ _).symm.trans H; rw [hy411]; with_reducible exact H2_) | (have H2_ := (Option.bind_some _ _).symm.trans H; with_reducible exact H2_) | with_reducible exact H | (rw [hy411]; exact H) | exact H
   have Ny411 := Aside0.mk hy411; clear hy411; replace H := Option.bind_eq_some_iff.mp H; obtain ⟨t415, A60, H⟩ := H; replace H : (if t415 = true then ((route_Crossed.f k y411 l1).bind fun bt416 => (if bt416.2 = 0 then (skywaykeep1_RouteCrossed.l0 k y411 l1 bt416.1 ([] : List (S40)) (y411.length : Int) 0) else (some ((bt416.1.length : Int) == 0)))) else (some false)) = some r := H; have A6 := Aside0.mk A60; clear A60; refine Or.elim (Classical.em (t415 = true)) (fun c7 => ?p4_) (fun c7 => ?n4_)
   case' p4_ =>
    subst c7
    have H1 : ((route_Crossed.f k y411 l1).bind fun bt416 => (if bt416.2 = 0 then (skywaykeep1_RouteCrossed.l0 k y411 l1 bt416.1 ([] : List (S40)) (y411.length : Int) 0) else (some ((bt416.1.length : Int) == 0)))) = some r := by rw [if_pos rfl] at H; exact H
    clear H; have H := H1; clear H1; replace H := Option.bind_eq_some_iff.mp H; obtain ⟨⟨t416, t417⟩, A80, H⟩ := H; replace H : (if t417 = 0 then (skywaykeep1_RouteCrossed.l0 k y411 l1 t416 ([] : List (S40)) (y411.length : Int) 0) else (some ((t416.length : Int) == 0))) = some r := H; have A8 := Aside0.mk A80; clear A80; refine Or.elim (Classical.em (t417 = 0)) (fun c9 => ?p5_) (fun c9 => ?n5_)
    case' p5_ =>
     rw [if_pos c9] at H; have c9b0 : (t417 == 0) = true := beq_iff_eq.mpr c9; have c9b1 : (t417 != 0) = false := bne_eq_false_iff_eq.mpr c9; clear c9; have hm1_0 := Aside0.mk trivial
    case' n5_ =>
     rw [if_neg c9] at H; have c9b0 : (t417 == 0) = false := beq_eq_false_iff_ne.mpr c9; have c9b1 : (t417 != 0) = true := bne_iff_ne.mpr c9; have hm1_1 := Aside0.mk trivial
   case' n4_ =>
    replace c7 := Bool.eq_false_iff.mpr c7; subst c7
    have H1 : (some false) = some r := by rw [if_neg (show ¬ (false = true) by decide)] at H; exact H
    clear H; have H := H1; clear H1; have hm1_2 := Aside0.mk trivial
  case' n3_ =>
   rw [if_neg c5] at H; exact absurd H (by simp)
 case' n2_ =>
  rw [if_neg c4] at H; exact absurd H (by simp)
 all_goals
  first
   | clear hm1_0; have H' := Aside0.mk H; clear H
     have q10 : ((ji3) : Int) ≤ ((l0.length : Int) : Int) := of_decide_eq_true (by first | (with_reducible assumption) | assumption)
     obtain ⟨i010, hi010, _, hsz10, _⟩ := info_parts info40; have hroom10 : l0.length ≤ c0 := HC0.out; have hC10 : Kd.C k40 _ A0 l0.length l0 := HR0.out
     have hcut10 := cut_to (P := Try.prog) 22 40 .i64 Try.underlying22 hi010 A0 l0.length c0 (ji3) (of_decide_eq_true (by first | (with_reducible assumption) | assumption)) q10 hroom10
     have hr10 := Kd.C_take (m := ((ji3) : Int).toNat) hC10 (by omega); have hy10 : y411.length = ((ji3) : Int).toNat := (by rw [Ny411.out, List.length_take]; omega); rw [← Ny411.out] at hr10; rw [← hy10] at hcut10; have HR414 := Aside0.mk hr10; have HC414 := Aside0.mk (show y411.length ≤ c0 from by omega); clear hr10 hC10 hroom10 hi010 hsz10; have KY10 := Aside0.mk hy10; clear hy10; replace q10 := eq_true q10; go_enter Try.func9, Try.ntmps9
     go_wp2_with (first | ((with_reducible refine gate_callee (f := 23) rfl ?_); refine goesL_ (some 22) rfl rfl Try.func23 (by kernel_rfl) rfl #[] rfl any_s ?_; (with_reducible refine (skywaykeep1_routeWorks.calls k  true _ A6.out).mono ?_); rintro e wx92da1 ⟨rfl, hb⟩; refine ⟨_, rfl, ?_⟩; have n0_ := st HB hb; clear HB; have HB := n0_; clear n0_; (try clear hb); (try clear hb2); (try clear hk); (try clear hi)) | ((with_reducible refine gate_callee (f := 26) rfl ?_); refine goesL_ (some 27) rfl rfl Try.func26 (by kernel_rfl) rfl #[.slice A0 y411.length c0, .slice A1 l1.length c1] rfl any_s ?_; (with_reducible refine (route_Crossed.calls k _ _ y411 _ _ l1 t416 t417 _ ?side1 ?side2 ?side3 ?side4 A8.out).mono ?_); (case side1 => exact cb_s (Kd.C_below HR414.out HB.out)); (case side2 => exact HC414.out); (case side3 => exact cb_s (Kd.C_below HR1.out HB.out)); (case side4 => exact HC1.out); rintro e wx6bd01 ⟨v418, rfl, hox6bd01, hb⟩; refine ⟨_, rfl, ?_⟩; have n0_ := Aside0.mk (Kd.R_lower hox6bd01 bz_s); have n1_ := st HB hb; clear HB; have HO419 := n0_; have HB := n1_; clear n0_ n1_; (try clear hb); (try clear hb2); (try clear hk); (try clear hi); (try clear hox6bd01)))
     go_loopg [7, 37] k (fun kq v7 v37 w' => ∃ (x7_1 : List (S40)) (x37_1 : Int), v37 = .int .i64 x37_1 ∧ Aside0 (skywaykeep1_RouteCrossed.l0 kq y411 l1 t416 x7_1 (y411.length : Int) x37_1 = some r) ∧ Aside0 (kq ≤ k) ∧ Aside0 (Kd.R Kd.string 9 w' w.heap.size (fun _ => True) v418 t416) ∧ Aside0 (Kd.R k40 40 w' w.heap.size (fun _ => True) v7 x7_1) ∧ Aside0 (Below w.heap.size w w'))
     case atStart => exact ⟨(([] : List (S40))), (0), (by first | rfl | (simp; done) | (simp [*]; done)), H', ⟨Nat.le_refl _⟩, ⟨by (with_reducible repeat (first | apply Kd.R_alloc | apply Kd.R_drewN | apply Kd.R_drew)); exact HO419.out⟩, ⟨by first | exact Kd.R_nil _ _ _ _ _ | exact Kd.N_nil _ _ _ _ _ | exact Kd.V_nil _ _ _ _ _ | exact Kd.Q_nil _ _ _ _ _ | exact Kd.S_nil _ _ _ _ _⟩, ⟨by repeat (first | (with_reducible first | exact HB.out | apply below_alloc | apply pw_below_drewN | apply below_drew1) | exact HB.out)⟩⟩
     case round =>
      clear H'
      (try clear c1); (try clear p1); (try clear q1); (try clear c2); (try clear p2); (try clear c4); (try clear c4b0); (try clear c4b1); (try clear c5); (try clear c5b0); (try clear c5b1); (try clear c7); (try clear c9); (try clear c9b0); (try clear c9b1); (try clear q10); (try clear q10)
      obtain ⟨x7_1, x37_1, rfl, HA, HK1, HO_5, HO_7, HB⟩ := hrel
      cases gk with
      | zero => exact absurd HA.out (by simp [skywaykeep1_RouteCrossed.l0])
      | succ k1 =>
       have H := HA.out; clear HA; simp only [skywaykeep1_RouteCrossed.l0] at H
       by_cases c13 : x37_1 < (y411.length : Int)
       · rw [if_pos c13] at H; have c13b0 : decide (x37_1 < (y411.length : Int)) = true := decide_eq_true c13; clear c13; obtain ⟨ji14, hji14⟩ : ∃ j_ : Int, (wrap64 ((wrap64 ((y411.length : Int) - 1)) - x37_1)) = j_ := ⟨_, rfl⟩
         replace H : (if 0 ≤ (ji14) then (if (ji14) < (y411.length : Int) then (if x7_1.length < 4398046511104 then (skywaykeep1_RouteCrossed.l0 k1 y411 l1 t416 (x7_1 ++ [(⟨(rd_T40 y411 (ji14)).f0, (⟨(rd_T40 y411 (ji14)).f1.f0, (rd_T40 y411 (ji14)).f1.f1⟩ : S36)⟩ : S40)]) (y411.length : Int) (wrap64 (x37_1 + 1))) else (none)) else (none)) else (none)) = some r := by first | (rw [hji14] at H; exact H) | (simp only [hji14] at H ⊢; exact H)
         have hji14w : (IntKind.i64.wrap ((wrap64 ((y411.length : Int) - 1)) - x37_1)) = ji14 := (i64_w _).trans hji14
         by_cases c15 : 0 ≤ (ji14)
         · rw [if_pos c15] at H; have c15b0 : decide (0 ≤ (ji14)) = true := decide_eq_true c15; clear c15
           by_cases c16 : (ji14) < (y411.length : Int)
           · rw [if_pos c16] at H; have c16b0 : decide ((ji14) < (y411.length : Int)) = true := decide_eq_true c16; clear c16
             by_cases c17 : x7_1.length < 4398046511104
             · rw [if_pos c17] at H; have LMc17 := Aside0.mk c17; clear c17; obtain ⟨y421, hy421⟩ : ∃ y_ : List (S40), y_ = (x7_1 ++ [(⟨(rd_T40 y411 (ji14)).f0, (⟨(rd_T40 y411 (ji14)).f1.f0, (rd_T40 y411 (ji14)).f1.f1⟩ : S36)⟩ : S40)]) := ⟨_, rfl⟩
               replace H : (skywaykeep1_RouteCrossed.l0 k1 y411 l1 t416 y421 (y411.length : Int) (wrap64 (x37_1 + 1))) = some r := by first | (rw [hy421]; with_reducible exact H) | (have H2_ := (Option.bind_some _ _).symm.trans H; rw [hy421]; with_reducible exact H2_) | (have H2_ := (Option.bind_some _ _).symm.trans H; with_reducible exact H2_) | with_reducible exact H | (rw [hy421]; exact H) | exact H
               have Ny421 := Aside0.mk hy421; clear hy421; have H' := Aside0.mk H; clear H
               have p420 : 0 ≤ ((ji14) : Int) := of_decide_eq_true (by first | (with_reducible assumption) | assumption)
               have q420 : (ji14) < (y411.length : Int) := of_decide_eq_true (by first | (with_reducible assumption) | assumption)
               obtain ⟨ad420, e420, hx420_0, hx420_1, hx420_2⟩ := at_T40 HR414.out (ji14) p420 q420; cases e420; replace hx420_0 := cl HB hx420_0; replace hx420_1 := cl HB hx420_1; replace hx420_2 := cl HB hx420_2; replace p420 := eq_true p420; replace q420 := eq_true q420
               go_wp2_with (first | ((with_reducible refine gate_builtin (b := .append) (xs := #[.tmp 40, .tmp 49]) rfl ?_); (try (refine gate_guard (by rfl) ?_; dsimp only)); at_builtin; refine Kd.R_append k40 (w0 := w) w.heap.size rfl (.tmp 40) (.tmp 49) 22 40 (.agg #[(.string ⟨#[]⟩), (.int .i64 0), (.int .i64 0)]) 32 rfl Try.underlying22 info40 rfl (by decide) (by omega) u7 x7_1 (⟨(rd_T40 y411 (ji14)).f0, (⟨(rd_T40 y411 (ji14)).f1.f0, (rd_T40 y411 (ji14)).f1.f1⟩ : S36)⟩ : S40) [.string ((rd_T40 y411 (ji14)).f0), .int .i64 ((rd_T40 y411 (ji14)).f1.f0), .int .i64 ((rd_T40 y411 (ji14)).f1.f1)] (fun _ => True) (fun _ => False) rfl rfl ?aP (fun _ hk => hk.elim) ?aF ?aO ?aB ?aS ?aL ?_; (case aP => exact k40_mkM _ _ _ (⟨(rd_T40 y411 (ji14)).f0, (⟨(rd_T40 y411 (ji14)).f1.f0, (rd_T40 y411 (ji14)).f1.f1⟩ : S36)⟩ : S40)); (case aB => exact bel_s); (case aF => exact (fun _ _ => trivial)); (case aO => exact (by (with_reducible repeat (first | apply Kd.R_alloc | apply Kd.R_drewN | apply Kd.R_drew)); exact HO_7.out)); (case aS => exact bz_s); (case aL => have := LMc17.out; omega); intro v422 wx33581 ho hb hg hat; rw [← Ny421.out] at ho; have n0_ := Aside0.mk (Kd.R_over' (by (with_reducible repeat (first | apply Kd.R_alloc | apply Kd.R_drewN | apply Kd.R_drew)); exact HO_5.out) (Kd.R_typed (by (with_reducible repeat (first | apply Kd.R_alloc | apply Kd.R_drewN | apply Kd.R_drew)); exact HO_7.out)) (by decide) hg); have n1_ := Aside0.mk (hb); have n2_ := Aside0.mk (ho); clear HO_5; clear HB; clear HO_7; have HO_5 := n0_; have HB := n1_; have HO423 := n2_; clear n0_ n1_ n2_; clear ho hb hg hat))
               first | go_roundg k1 | (subst hji14; go_roundg k1)
               case measure => have := HK1.out; omega
               case rel => exact ⟨(y421), (wrap64 (x37_1 + 1)), (by first | rfl | (simp; done) | (simp [*]; done)), H', ⟨by have := HK1.out; omega⟩, ⟨by (with_reducible repeat (first | apply Kd.R_alloc | apply Kd.R_drewN | apply Kd.R_drew)); exact HO_5.out⟩, ⟨by (with_reducible repeat (first | apply Kd.R_alloc | apply Kd.R_drewN | apply Kd.R_drew)); exact HO423.out⟩, ⟨by repeat (first | (with_reducible first | exact HB.out | apply below_alloc | apply pw_below_drewN | apply below_drew1) | exact HB.out)⟩⟩
             · rw [if_neg c17] at H; exact absurd H (by simp)
           · rw [if_neg c16] at H; exact absurd H (by simp)
         · rw [if_neg c15] at H; exact absurd H (by simp)
       · rw [if_neg c13] at H; have c13b0 : decide (x37_1 < (y411.length : Int)) = false := decide_eq_false c13; clear c13; replace H := Option.bind_eq_some_iff.mp H; obtain ⟨⟨t424, t425⟩, A190, H⟩ := H; replace H : (if t425 = 0 then ((skywayref1_SameTexts.f k1 t416 t424).bind fun t428 => (skywaykeep1_RouteCrossed.j1 k1 y411 l1 t416 (!t428))) else (skywaykeep1_RouteCrossed.j1 k1 y411 l1 t416 true)) = some r := H; have A19 := Aside0.mk A190; clear A190; have HC20 := Aside0.mk H; clear H; obtain ⟨Aoza1, coza1, eoza1⟩ := Kd.R_slice HO_7.out; subst eoza1
         go_upto_region 14 with (first | ((with_reducible refine gate_callee (f := 26) rfl ?_); refine goesL_ (some 55) rfl rfl Try.func26 (by kernel_rfl) rfl #[.slice Aoza1 x7_1.length coza1, .slice A1 l1.length c1] rfl any_s ?_; (with_reducible refine (route_Crossed.calls k1 _ _ x7_1 _ _ l1 t424 t425 _ ?side1 ?side2 ?side3 ?side4 A19.out).mono ?_); (case side1 => repeat (first | exact (Kd.R_reads' HO_7.out).2.2 | (with_reducible refine Kd.C_alloc ?_ _) | (with_reducible refine Kd.C_drewN ?_ _) | (with_reducible refine Kd.C_drew ?_))); (case side2 => exact (Kd.R_reads' HO_7.out).2.1); (case side3 => exact cb_s (Kd.C_below HR1.out HB.out)); (case side4 => exact HC1.out); rintro e wx4b891 ⟨v426, rfl, hox6bd01, hb⟩; refine ⟨_, rfl, ?_⟩; have n0_ := Aside0.mk (Kd.R_elder' (by (with_reducible repeat (first | apply Kd.R_alloc | apply Kd.R_drewN | apply Kd.R_drew)); exact HO_5.out) (Kd.R_base hox6bd01) hb); have n1_ := Aside0.mk (Kd.R_below (by (with_reducible repeat (first | apply Kd.R_alloc | apply Kd.R_drewN | apply Kd.R_drew)); exact HO_7.out) hb); have n2_ := Aside0.mk (Kd.R_lower (Kd.R_new' hox6bd01 (Kd.R_lt (by (with_reducible repeat (first | apply Kd.R_alloc | apply Kd.R_drewN | apply Kd.R_drew)); exact HO_5.out))) bz_s); have n3_ := st HB hb; clear HO_5; clear HO_7; clear HB; have HO_5 := n0_; have HO_7 := n1_; have HO427 := n2_; have HB := n3_; clear n0_ n1_ n2_ n3_; (try clear hb); (try clear hb2); (try clear hk); (try clear hi); (try clear hox6bd01)))
         (try simp only [Act.put, List.setIfInBounds_toArray, List.set_cons_zero, List.set_cons_succ])
         go_cut [65] (fun v65 wc => ∃ (kq : Nat) (x65_19 : Bool), v65 = .bool x65_19 ∧ Aside0 (skywaykeep1_RouteCrossed.j1 kq y411 l1 t416 x65_19 = some r) ∧ Aside0 (kq ≤ k1) ∧ Aside0 (Kd.R Kd.string 9 wc w.heap.size (fun _ => True) v418 t416) ∧ Aside0 (Below w.heap.size w wc))
         case first =>
          have H := HC20.out; clear HC20; refine Or.elim (Classical.em (t425 = 0)) (fun c23 => ?p7_) (fun c23 => ?n7_)
          case' p7_ =>
           rw [if_pos c23] at H; have c23b0 : (t425 == 0) = true := beq_iff_eq.mpr c23; have c23b1 : (t425 != 0) = false := bne_eq_false_iff_eq.mpr c23; clear c23
           (first | rw [c23b0] | (simp only [i64_w, i32_w]; rw [c23b0]) | skip)
           replace H := Option.bind_eq_some_iff.mp H; obtain ⟨t428, A240, H⟩ := H; replace H : (skywaykeep1_RouteCrossed.j1 k1 y411 l1 t416 (!t428)) = some r := H; have A24 := Aside0.mk A240; clear A240; have hm6_0 := Aside0.mk trivial
          case' n7_ =>
           rw [if_neg c23] at H; have c23b0 : (t425 == 0) = false := beq_eq_false_iff_ne.mpr c23; have c23b1 : (t425 != 0) = true := bne_iff_ne.mpr c23
           (first | rw [c23b0] | (simp only [i64_w, i32_w]; rw [c23b0]) | skip)
           have hm6_1 := Aside0.mk trivial
          all_goals
           have H' := Aside0.mk H; clear H
           first
            | clear hm6_0; obtain ⟨Aozd1, cozd1, eozd1⟩ := Kd.R_slice HO_5.out; subst eozd1; obtain ⟨Aozd2, cozd2, eozd2⟩ := Kd.R_slice HO427.out; subst eozd2
              go_wp2_with (first | (go_at_call 27; (with_reducible refine (skywayref1_SameTexts.calls k1 _ _ t416 _ _ t424 t428 _ ?side1 ?side2 ?side3 ?side4 A24.out).mono ?_); (case side1 => repeat (first | exact (Kd.R_reads' HO_5.out).2.2 | (with_reducible refine Kd.C_alloc ?_ _) | (with_reducible refine Kd.C_drewN ?_ _) | (with_reducible refine Kd.C_drew ?_))); (case side2 => exact (Kd.R_reads' HO_5.out).2.1); (case side3 => repeat (first | exact (Kd.R_reads' HO427.out).2.2 | (with_reducible refine Kd.C_alloc ?_ _) | (with_reducible refine Kd.C_drewN ?_ _) | (with_reducible refine Kd.C_drew ?_))); (case side4 => exact (Kd.R_reads' HO427.out).2.1); rintro e wx71231 ⟨rfl, hb⟩; have n0_ := Aside0.mk (Kd.R_below (by (with_reducible repeat (first | apply Kd.R_alloc | apply Kd.R_drewN | apply Kd.R_drew)); exact HO_5.out) hb); have n1_ := Aside0.mk (Kd.R_below (by (with_reducible repeat (first | apply Kd.R_alloc | apply Kd.R_drewN | apply Kd.R_drew)); exact HO_7.out) hb); have n2_ := Aside0.mk (Kd.R_below (by (with_reducible repeat (first | apply Kd.R_alloc | apply Kd.R_drewN | apply Kd.R_drew)); exact HO427.out) hb); have n3_ := st HB hb; clear HO_5; clear HO_7; clear HO427; clear HB; have HO_5 := n0_; have HO_7 := n1_; have HO427 := n2_; have HB := n3_; clear n0_ n1_ n2_ n3_; (try clear hb); (try clear hb2); (try clear hk); (try clear hi)))
              go_meet
              case rel => exact ⟨_, (!t428), (by first | rfl | (simp; done) | (simp [*]; done)), H', ⟨by have := HK1.out; first | omega | exact Nat.le_refl _⟩, ⟨by (with_reducible repeat (first | apply Kd.R_alloc | apply Kd.R_drewN | apply Kd.R_drew)); exact Kd.R_mono HO_5.out (fun _ hk => trivial)⟩, ⟨by repeat (first | (with_reducible first | exact HB.out | apply below_alloc | apply pw_below_drewN | apply below_drew1) | exact HB.out)⟩⟩
            | clear hm6_1; go_wp2; go_meet
              case rel => exact ⟨_, (true), (by first | rfl | (simp; done) | (simp [*]; done)), H', ⟨by have := HK1.out; first | omega | exact Nat.le_refl _⟩, ⟨by (with_reducible repeat (first | apply Kd.R_alloc | apply Kd.R_drewN | apply Kd.R_drew)); exact Kd.R_mono HO_5.out (fun _ hk => trivial)⟩, ⟨by repeat (first | (with_reducible first | exact HB.out | apply below_alloc | apply pw_below_drewN | apply below_drew1) | exact HB.out)⟩⟩
         case rest =>
          clear HC20
          (try clear c1); (try clear p1); (try clear q1); (try clear c2); (try clear p2); (try clear c4); (try clear c4b0); (try clear c4b1); (try clear p4); (try clear q4); (try clear hx4); (try clear c5); (try clear c5b0); (try clear c5b1); (try clear p6); (try clear c7); (try clear c9); (try clear c9b0); (try clear c9b1); (try clear q10); (try clear c13); (try clear c13b0); (try clear c15); (try clear c15b0); (try clear c16); (try clear c16b0); (try clear c17); (try clear c23); (try clear c23b0); (try clear c23b1); (try clear c26); (try clear hx420_0); (try clear hx420_1); (try clear hx420_2); (try clear p1); (try clear p2); (try clear p420); (try clear q1); (try clear q10); (try clear q420)
          obtain ⟨kq, x65_19, rfl, HA, HJ19, HO_5, HB⟩ := hcut
          cases kq with
          | zero => exact absurd HA.out (by simp [skywaykeep1_RouteCrossed.j1])
          | succ kj19 =>
           have H := HA.out; clear HA; simp only [skywaykeep1_RouteCrossed.j1] at H
           by_cases c28 : x65_19 = true
           · subst c28
             have H1 : (some false) = some r := by rw [if_pos rfl] at H; exact H
             clear H; have H := H1; clear H1; obtain rfl := Option.some.inj H; go_wp2; go_ret
             exact ⟨by first | rfl | (simp [errW_none, errW_some] <;> rfl) | (simp only [← hji3]; first | rfl | (simp [errW_none, errW_some] <;> rfl)) | (simp [*, errW_none, errW_some] <;> rfl), by repeat (first | (with_reducible first | exact HB.out | apply below_alloc | apply pw_below_drewN | apply below_drew1) | exact HB.out)⟩
           · replace c28 := Bool.eq_false_iff.mpr c28; subst c28
             have H1 : (skywaykeep1_RouteCrossed.l1 kj19 y411 t416 l1 (l1.length : Int) 0) = some r := by rw [if_neg (show ¬ (false = true) by decide)] at H; exact H
             clear H; have H := H1; clear H1; have H' := Aside0.mk H; clear H; go_wp2; go_loopg [68] kj19 (fun kq v68 w' => ∃ (x68_3 : Int), v68 = .int .i64 x68_3 ∧ Aside0 (skywaykeep1_RouteCrossed.l1 kq y411 t416 l1 (l1.length : Int) x68_3 = some r) ∧ Aside0 (kq ≤ kj19) ∧ Aside0 (Kd.R Kd.string 9 w' w.heap.size (fun _ => True) v418 t416) ∧ Aside0 (Below w.heap.size w w'))
             case atStart => exact ⟨(0), (by first | rfl | (simp; done) | (simp [*]; done)), H', ⟨Nat.le_refl _⟩, ⟨by (with_reducible repeat (first | apply Kd.R_alloc | apply Kd.R_drewN | apply Kd.R_drew)); exact HO_5.out⟩, ⟨by repeat (first | (with_reducible first | exact HB.out | apply below_alloc | apply pw_below_drewN | apply below_drew1) | exact HB.out)⟩⟩
             case round =>
              clear H'
              (try clear c1); (try clear p1); (try clear q1); (try clear c2); (try clear p2); (try clear c4); (try clear c4b0); (try clear c4b1); (try clear p4); (try clear q4); (try clear hx4); (try clear c5); (try clear c5b0); (try clear c5b1); (try clear p6); (try clear c7); (try clear c9); (try clear c9b0); (try clear c9b1); (try clear q10); (try clear c13); (try clear c13b0); (try clear c15); (try clear c15b0); (try clear c16); (try clear c16b0); (try clear c17); (try clear c23); (try clear c23b0); (try clear c23b1); (try clear c26); (try clear c28); (try clear hx420_0); (try clear hx420_1); (try clear hx420_2); (try clear p1); (try clear p2); (try clear p4); (try clear p420); (try clear p6)
              (try clear q1); (try clear q10); (try clear q4); (try clear q420)
              obtain ⟨x68_3, rfl, HA, HK3, HO_5, HB⟩ := hrel
              cases gk with
              | zero => exact absurd HA.out (by simp [skywaykeep1_RouteCrossed.l1])
              | succ k3 =>
               have H := HA.out; clear HA; simp only [skywaykeep1_RouteCrossed.l1] at H
               by_cases c29 : x68_3 < (l1.length : Int)
               · rw [if_pos c29] at H; have c29b0 : decide (x68_3 < (l1.length : Int)) = true := decide_eq_true c29; clear c29
                 by_cases c30 : 0 ≤ x68_3
                 · rw [if_pos c30] at H; have c30b0 : decide (0 ≤ x68_3) = true := decide_eq_true c30; clear c30
                   by_cases c31 : x68_3 < (l1.length : Int)
                   · rw [if_pos c31] at H; have c31b0 : decide (x68_3 < (l1.length : Int)) = true := decide_eq_true c31; clear c31; have H' := Aside0.mk H; clear H
                     have p429 : 0 ≤ (x68_3 : Int) := of_decide_eq_true (by first | (with_reducible assumption) | assumption)
                     have q429 : x68_3 < (l1.length : Int) := of_decide_eq_true (by first | (with_reducible assumption) | assumption)
                     obtain ⟨ad429, A429_1, c429_1, A429_4, c429_4, e429, hx429_0, hx429_1, hx429_2, hx429_3, hx429_4, hl429_1, hi429_1, hl429_4, hi429_4⟩ := at_T65 HR1.out x68_3 p429 q429; cases e429; replace hx429_0 := cl HB hx429_0; replace hx429_1 := cl HB hx429_1; replace hx429_2 := cl HB hx429_2; replace hx429_3 := cl HB hx429_3; replace hx429_4 := cl HB hx429_4; have HR429_1 := Aside0.mk hi429_1; have HC429_1 := Aside0.mk hl429_1; clear hi429_1 hl429_1; have HR429_4 := Aside0.mk hi429_4; have HC429_4 := Aside0.mk hl429_4; clear hi429_4 hl429_4; replace p429 := eq_true p429; replace q429 := eq_true q429
                     go_wp2_with (first | ((with_reducible refine gate_dst (N := 12) rfl ?_); (try (refine gate_guard (by rfl) ?_; dsimp only)); refine box_s #[.string (⟨#[]⟩ : ByteArray), .slice none 0 0, .int .i64 0, .int .i64 0, .slice none 0 0] 65 ?_; intro gb430 hg wxa0771 hbox hb; have n0_ := Aside0.mk (Kd.R_below (by (with_reducible repeat (first | apply Kd.R_alloc | apply Kd.R_drewN | apply Kd.R_drew)); exact HO_5.out) hb); have n1_ := st HB hb; have n2_ := Aside0.mk (hbox); have n3_ := ge HB hg; have n4_ := ge HB hg; clear HO_5; clear HB; have HO_5 := n0_; have HB := n1_; have BK430 := n2_; have GW430 := n3_; have GE430 := n4_; clear n0_ n1_ n2_ n3_ n4_; clear hb hbox hg; have hczxa0771 : wxa0771.cell? ⟨gb430, 0, none⟩ = some (.string (⟨#[]⟩ : ByteArray)) := bc BK430 0; have hczxa0772 : wxa0771.cell? ⟨gb430, 1, none⟩ = some (.slice none 0 0) := bc BK430 1; have hczxa0773 : wxa0771.cell? ⟨gb430, 2, none⟩ = some (.int .i64 0) := bc BK430 2; have hczxa0774 : wxa0771.cell? ⟨gb430, 3, none⟩ = some (.int .i64 0) := bc BK430 3; have hczxa0775 : wxa0771.cell? ⟨gb430, 4, none⟩ = some (.slice none 0 0) := bc BK430 4; have hfzxa0771 := blk_frozen BK430.out 0; have hfzxa0772 := blk_frozen BK430.out 1; have hfzxa0773 := blk_frozen BK430.out 2; have hfzxa0774 := blk_frozen BK430.out 3; have hfzxa0775 := blk_frozen BK430.out 4))
                     go_loopg [74] k3 (fun kq v74 w' => ∃ (x74_4 : Int), v74 = .int .i64 x74_4 ∧ Aside0 (skywaykeep1_RouteCrossed.l2 kq y411 t416 l1 (l1.length : Int) x68_3 y411 (y411.length : Int) x74_4 ((rd_T65 l1 x68_3).f0) ((rd_T65 l1 x68_3).f1.f0) ((rd_T65 l1 x68_3).f1.f1) ((rd_T65 l1 x68_3).f1.f2) ((rd_T65 l1 x68_3).f2) = some r) ∧ Aside0 (kq ≤ k3) ∧ Aside0 (Kd.R Kd.string 9 w' w.heap.size (fun _ => True) v418 t416) ∧ Aside0 (w'.heap[gb430]? = some (.cells #[.string ((rd_T65 l1 x68_3).f0), (.slice A429_1 ((rd_T65 l1 x68_3).f1.f0).length c429_1), .int .i64 ((rd_T65 l1 x68_3).f1.f1), .int .i64 ((rd_T65 l1 x68_3).f1.f2), (.slice A429_4 ((rd_T65 l1 x68_3).f2).length c429_4)] 65 (0, 0))) ∧ Aside0 (Below w.heap.size w w'))
                     case atStart => exact ⟨(0), (by first | rfl | (simp; done) | (simp [*]; done)), H', ⟨Nat.le_refl _⟩, ⟨by (with_reducible repeat (first | apply Kd.R_alloc | apply Kd.R_drewN | apply Kd.R_drew)); exact Kd.R_mono (Kd.R_far (p := ⟨gb430, 4, none⟩) (Kd.R_far (p := ⟨gb430, 3, none⟩) (Kd.R_far (p := ⟨gb430, 2, none⟩) (Kd.R_far (p := ⟨gb430, 1, none⟩) (Kd.R_far (p := ⟨gb430, 0, none⟩) (Kd.R_types HO_5.out BK430.out (by decide)) (fun _ hk => hk.2) (.string ((rd_T65 l1 x68_3).f0))) (fun _ hk => hk.2) (.slice A429_1 ((rd_T65 l1 x68_3).f1.f0).length c429_1)) (fun _ hk => hk.2) (.int .i64 ((rd_T65 l1 x68_3).f1.f1))) (fun _ hk => hk.2) (.int .i64 ((rd_T65 l1 x68_3).f1.f2))) (fun _ hk => hk.2) (.slice A429_4 ((rd_T65 l1 x68_3).f2).length c429_4)) (fun _ hk => trivial)⟩, ⟨by (with_reducible repeat (first | refine blk_drewN ?_ _ | refine blk_drew ?_ | refine blk_alloc ?_ _)); refine blk_put (cs := #[.string ((rd_T65 l1 x68_3).f0), .slice A429_1 ((rd_T65 l1 x68_3).f1.f0).length c429_1, .int .i64 ((rd_T65 l1 x68_3).f1.f1), .int .i64 ((rd_T65 l1 x68_3).f1.f2), .slice none 0 0]) ?_ 4 _ rfl; (with_reducible repeat (first | refine blk_drewN ?_ _ | refine blk_drew ?_ | refine blk_alloc ?_ _)); refine blk_put (cs := #[.string ((rd_T65 l1 x68_3).f0), .slice A429_1 ((rd_T65 l1 x68_3).f1.f0).length c429_1, .int .i64 ((rd_T65 l1 x68_3).f1.f1), .int .i64 0, .slice none 0 0]) ?_ 3 _ rfl; (with_reducible repeat (first | refine blk_drewN ?_ _ | refine blk_drew ?_ | refine blk_alloc ?_ _)); refine blk_put (cs := #[.string ((rd_T65 l1 x68_3).f0), .slice A429_1 ((rd_T65 l1 x68_3).f1.f0).length c429_1, .int .i64 0, .int .i64 0, .slice none 0 0]) ?_ 2 _ rfl; (with_reducible repeat (first | refine blk_drewN ?_ _ | refine blk_drew ?_ | refine blk_alloc ?_ _)); refine blk_put (cs := #[.string ((rd_T65 l1 x68_3).f0), .slice none 0 0, .int .i64 0, .int .i64 0, .slice none 0 0]) ?_ 1 _ rfl; (with_reducible repeat (first | refine blk_drewN ?_ _ | refine blk_drew ?_ | refine blk_alloc ?_ _)); refine blk_put (cs := #[.string (⟨#[]⟩ : ByteArray), .slice none 0 0, .int .i64 0, .int .i64 0, .slice none 0 0]) ?_ 0 _ rfl; (with_reducible repeat (first | refine blk_drewN ?_ _ | refine blk_drew ?_ | refine blk_alloc ?_ _)); exact BK430.out⟩, ⟨by repeat (first | (with_reducible first | exact HB.out | apply below_alloc | apply pw_below_drewN | apply below_drew1 | refine below_set ?_ GE430.out) | exact HB.out)⟩⟩
                     case round =>
                      clear H'
                      (try clear c1); (try clear p1); (try clear q1); (try clear c2); (try clear p2); (try clear c3); (try clear c4); (try clear c4b0); (try clear c4b1); (try clear p4); (try clear q4); (try clear hx4); (try clear c5); (try clear c5b0); (try clear c5b1); (try clear p6); (try clear c7); (try clear c9); (try clear c9b0); (try clear c9b1); (try clear q10); (try clear c13); (try clear c13b0); (try clear c15); (try clear c15b0); (try clear c16); (try clear c16b0); (try clear c17); (try clear c23); (try clear c23b0); (try clear c23b1); (try clear c26); (try clear c28); (try clear c29); (try clear c29b0); (try clear c30); (try clear c30b0); (try clear c31); (try clear c31b0); (try clear hczxa0771)
                      (try clear hczxa0772); (try clear hczxa0773); (try clear hczxa0774); (try clear hczxa0775); (try clear hfzxa0771); (try clear hfzxa0772); (try clear hfzxa0773); (try clear hfzxa0774); (try clear hfzxa0775); (try clear hx420_0); (try clear hx420_1); (try clear hx420_2); (try clear hx429_0); (try clear hx429_1); (try clear hx429_2); (try clear hx429_3); (try clear hx429_4); (try clear p1); (try clear p2); (try clear p4); (try clear p420); (try clear p429); (try clear p6); (try clear q1); (try clear q10); (try clear q4); (try clear q420); (try clear q429)
                      obtain ⟨x74_4, rfl, HA, HK4, HO_5, BK430, HB⟩ := hrel
                      cases gk with
                      | zero => exact absurd HA.out (by simp [skywaykeep1_RouteCrossed.l2])
                      | succ k4 =>
                       have H := HA.out; clear HA; simp only [skywaykeep1_RouteCrossed.l2] at H; refine Or.elim (Classical.em (x74_4 < (y411.length : Int))) (fun c34 => ?p9_) (fun c34 => ?n9_)
                       case' p9_ =>
                        rw [if_pos c34] at H; have c34b0 : decide (x74_4 < (y411.length : Int)) = true := decide_eq_true c34; clear c34; refine Or.elim (Classical.em (0 ≤ x74_4)) (fun c35 => ?p10_) (fun c35 => ?n10_)
                        case' p10_ =>
                         rw [if_pos c35] at H; have c35b0 : decide (0 ≤ x74_4) = true := decide_eq_true c35; clear c35; refine Or.elim (Classical.em (x74_4 < (y411.length : Int))) (fun c36 => ?p11_) (fun c36 => ?n11_)
                         case' p11_ =>
                          rw [if_pos c36] at H; have c36b0 : decide (x74_4 < (y411.length : Int)) = true := decide_eq_true c36; clear c36; replace H := Option.bind_eq_some_iff.mp H; obtain ⟨⟨t433, t434⟩, A370, H⟩ := H; replace H : (if t434 = 0 then (if t433 ≥ 0 then (if (y411.length : Int) > 1 then ((skywayref1_HasText.f k4 t416 ((rd_T65 l1 x68_3).f0)).bind fun t435 => (if t435 = true then (skywaykeep1_RouteCrossed.l2 k4 y411 t416 l1 (l1.length : Int) x68_3 y411 (y411.length : Int) (wrap64 (x74_4 + 1)) ((rd_T65 l1 x68_3).f0) ((rd_T65 l1 x68_3).f1.f0) ((rd_T65 l1 x68_3).f1.f1) ((rd_T65 l1 x68_3).f1.f2) ((rd_T65 l1 x68_3).f2)) else (some false))) else (skywaykeep1_RouteCrossed.l2 k4 y411 t416 l1 (l1.length : Int) x68_3 y411 (y411.length : Int) (wrap64 (x74_4 + 1)) ((rd_T65 l1 x68_3).f0) ((rd_T65 l1 x68_3).f1.f0) ((rd_T65 l1 x68_3).f1.f1) ((rd_T65 l1 x68_3).f1.f2) ((rd_T65 l1 x68_3).f2))) else (skywaykeep1_RouteCrossed.l2 k4 y411 t416 l1 (l1.length : Int) x68_3 y411 (y411.length : Int) (wrap64 (x74_4 + 1)) ((rd_T65 l1 x68_3).f0) ((rd_T65 l1 x68_3).f1.f0) ((rd_T65 l1 x68_3).f1.f1) ((rd_T65 l1 x68_3).f1.f2) ((rd_T65 l1 x68_3).f2))) else (some false)) = some r := H; have A37 := Aside0.mk A370; clear A370; refine Or.elim (Classical.em (t434 = 0)) (fun c38 => ?p12_) (fun c38 => ?n12_)
                          case' p12_ =>
                           rw [if_pos c38] at H; have c38b0 : (t434 == 0) = true := beq_iff_eq.mpr c38; have c38b1 : (t434 != 0) = false := bne_eq_false_iff_eq.mpr c38; clear c38; refine Or.elim (Classical.em (t433 ≥ 0)) (fun c39 => ?p13_) (fun c39 => ?n13_)
                           case' p13_ =>
                            rw [if_pos c39] at H; have c39b0 : decide (0 ≤ t433) = true := decide_eq_true c39; clear c39; refine Or.elim (Classical.em ((y411.length : Int) > 1)) (fun c40 => ?p14_) (fun c40 => ?n14_)
                            case' p14_ =>
                             rw [if_pos c40] at H; have c40b0 : decide (1 < (y411.length : Int)) = true := decide_eq_true c40; have c40b1 : decide (1 < y411.length) = true := decide_eq_true (by omega); clear c40; replace H := Option.bind_eq_some_iff.mp H; obtain ⟨t435, A410, H⟩ := H; replace H : (if t435 = true then (skywaykeep1_RouteCrossed.l2 k4 y411 t416 l1 (l1.length : Int) x68_3 y411 (y411.length : Int) (wrap64 (x74_4 + 1)) ((rd_T65 l1 x68_3).f0) ((rd_T65 l1 x68_3).f1.f0) ((rd_T65 l1 x68_3).f1.f1) ((rd_T65 l1 x68_3).f1.f2) ((rd_T65 l1 x68_3).f2)) else (some false)) = some r := H; have A41 := Aside0.mk A410; clear A410; refine Or.elim (Classical.em (t435 = true)) (fun c42 => ?p15_) (fun c42 => ?n15_)
                             case' p15_ =>
                              subst c42
                              have H1 : (skywaykeep1_RouteCrossed.l2 k4 y411 t416 l1 (l1.length : Int) x68_3 y411 (y411.length : Int) (wrap64 (x74_4 + 1)) ((rd_T65 l1 x68_3).f0) ((rd_T65 l1 x68_3).f1.f0) ((rd_T65 l1 x68_3).f1.f1) ((rd_T65 l1 x68_3).f1.f2) ((rd_T65 l1 x68_3).f2)) = some r := by rw [if_pos rfl] at H; exact H
                              clear H; have H := H1; clear H1; have hm8_0 := Aside0.mk trivial
                             case' n15_ =>
                              replace c42 := Bool.eq_false_iff.mpr c42; subst c42
                              have H1 : (some false) = some r := by rw [if_neg (show ¬ (false = true) by decide)] at H; exact H
                              clear H; have H := H1; clear H1; have hm8_1 := Aside0.mk trivial
                            case' n14_ =>
                             rw [if_neg c40] at H; have c40b0 : decide (1 < (y411.length : Int)) = false := decide_eq_false c40; have c40b1 : decide (1 < y411.length) = false := decide_eq_false (by omega); clear c40; have hm8_0 := Aside0.mk trivial
                           case' n13_ =>
                            rw [if_neg c39] at H; have c39b0 : decide (0 ≤ t433) = false := decide_eq_false c39; clear c39; have hm8_0 := Aside0.mk trivial
                          case' n12_ =>
                           rw [if_neg c38] at H; have c38b0 : (t434 == 0) = false := beq_eq_false_iff_ne.mpr c38; have c38b1 : (t434 != 0) = true := bne_iff_ne.mpr c38; have hm8_1 := Aside0.mk trivial
                         case' n11_ =>
                          rw [if_neg c36] at H; exact absurd H (by simp)
                        case' n10_ =>
                         rw [if_neg c35] at H; exact absurd H (by simp)
                       case' n9_ =>
                        rw [if_neg c34] at H; have c34b0 : decide (x74_4 < (y411.length : Int)) = false := decide_eq_false c34; clear c34; have hm8_2 := Aside0.mk trivial
                       all_goals
                        first
                         | (first | (have _hm := hm8_0) | (have _hm := hm8_2))
                           have H' := Aside0.mk H; clear H
                           first
                            | clear hm8_0
                              have p431 : 0 ≤ (x74_4 : Int) := of_decide_eq_true (by first | (with_reducible assumption) | assumption)
                              have q431 : x74_4 < (y411.length : Int) := of_decide_eq_true (by first | (with_reducible assumption) | assumption)
                              obtain ⟨ad431, e431, hx431_0, hx431_1, hx431_2⟩ := at_T40 HR414.out x74_4 p431 q431; cases e431; replace hx431_0 := cl HB hx431_0; replace hx431_1 := cl HB hx431_1; replace hx431_2 := cl HB hx431_2; replace p431 := eq_true p431; replace q431 := eq_true q431
                              go_wp2_with (first | ((with_reducible refine gate_dst (N := 14) rfl ?_); (try (refine gate_guard (by rfl) ?_; dsimp only)); refine box_s #[.string (⟨#[]⟩ : ByteArray), .int .i64 0, .int .i64 0] 40 ?_; intro gb432 hg wxbc2d1 hbox hb; have n0_ := Aside0.mk (Kd.R_below (by (with_reducible repeat (first | apply Kd.R_alloc | apply Kd.R_drewN | apply Kd.R_drew)); exact HO_5.out) hb); have n1_ := kp BK430 hb; have n2_ := st HB hb; have n3_ := Aside0.mk (hbox); have n4_ := ge HB hg; have n5_ := ge HB hg; have n6_ := nl BK430 hg; have n7_ := nr BK430 hg; clear HO_5; clear BK430; clear HB; have HO_5 := n0_; have BK430 := n1_; have HB := n2_; have BK432 := n3_; have GW432 := n4_; have GE432 := n5_; have NB430_432 := n6_; have NB432_430 := n7_; clear n0_ n1_ n2_ n3_ n4_ n5_ n6_ n7_; clear hb hbox hg; have hnbxbc2d1 := NB432_430.out; have hncxbc2d1 := NB430_432.out; have hczxbc2d1 : wxbc2d1.cell? ⟨gb432, 0, none⟩ = some (.string (⟨#[]⟩ : ByteArray)) := bc BK432 0; have hczxbc2d2 : wxbc2d1.cell? ⟨gb432, 1, none⟩ = some (.int .i64 0) := bc BK432 1; have hczxbc2d3 : wxbc2d1.cell? ⟨gb432, 2, none⟩ = some (.int .i64 0) := bc BK432 2; have hfzxbc2d1 := blk_frozen BK432.out 0; have hfzxbc2d2 := blk_frozen BK432.out 1; have hfzxbc2d3 := blk_frozen BK432.out 2; have hczxbc2d4 : wxbc2d1.cell? ⟨gb430, 0, none⟩ = some (.string ((rd_T65 l1 x68_3).f0)) := bc BK430 0; have hczxbc2d5 : wxbc2d1.cell? ⟨gb430, 1, none⟩ = some (.slice A429_1 ((rd_T65 l1 x68_3).f1.f0).length c429_1) := bc BK430 1; have hczxbc2d6 : wxbc2d1.cell? ⟨gb430, 2, none⟩ = some (.int .i64 ((rd_T65 l1 x68_3).f1.f1)) := bc BK430 2; have hczxbc2d7 : wxbc2d1.cell? ⟨gb430, 3, none⟩ = some (.int .i64 ((rd_T65 l1 x68_3).f1.f2)) := bc BK430 3; have hczxbc2d8 : wxbc2d1.cell? ⟨gb430, 4, none⟩ = some (.slice A429_4 ((rd_T65 l1 x68_3).f2).length c429_4) := bc BK430 4; have hfzxbc2d4 := blk_frozen BK430.out 0; have hfzxbc2d5 := blk_frozen BK430.out 1; have hfzxbc2d6 := blk_frozen BK430.out 2; have hfzxbc2d7 := blk_frozen BK430.out 3; have hfzxbc2d8 := blk_frozen BK430.out 4) | ((with_reducible refine gate_callee (f := 28) rfl ?_); refine goesL_ (some 84) rfl rfl Try.func28 (by kernel_rfl) rfl #[.slice A429_1 ((rd_T65 l1 x68_3).f1.f0).length c429_1, .agg #[.int .i64 ((rd_T40 y411 x74_4).f1.f0), .int .i64 ((rd_T40 y411 x74_4).f1.f1)]] rfl any_s ?_; (with_reducible refine (polygon_Locate.calls k4 _ _ ((rd_T65 l1 x68_3).f1.f0) ((rd_T40 y411 x74_4).f1.f0) ((rd_T40 y411 x74_4).f1.f1) t433 t434 _ ?side1 ?side2 A37.out).mono ?_); (case side1 => exact Kd.C_below HR429_1.out bel_s); (case side2 => exact HC429_1.out); rintro e wxa1681 ⟨rfl, hb⟩; refine ⟨_, rfl, ?_⟩; have n0_ := Aside0.mk (Kd.R_below (by (with_reducible repeat (first | apply Kd.R_alloc | apply Kd.R_drewN | apply Kd.R_drew)); exact (Kd.R_mono (Kd.R_far (p := ⟨gb432, 2, none⟩) (Kd.R_far (p := ⟨gb432, 1, none⟩) (Kd.R_far (p := ⟨gb432, 0, none⟩) (Kd.R_types HO_5.out BK432.out (by decide)) (fun _ hk => hk.2) (.string ((rd_T40 y411 x74_4).f0))) (fun _ hk => hk.2) (.int .i64 ((rd_T40 y411 x74_4).f1.f0))) (fun _ hk => hk.2) (.int .i64 ((rd_T40 y411 x74_4).f1.f1))) (fun _ h_ => h_.1))) hb); have n1_ := kp BK430 hb; have n2_ := Aside0.mk (blk_below (g := gb432) (o := .cells #[.string ((rd_T40 y411 x74_4).f0), .int .i64 ((rd_T40 y411 x74_4).f1.f0), .int .i64 ((rd_T40 y411 x74_4).f1.f1)] 40 (0, 0)) (by (with_reducible repeat (first | refine blk_drewN ?_ _ | refine blk_drew ?_ | refine blk_alloc ?_ _)); refine blk_put (cs := #[.string ((rd_T40 y411 x74_4).f0), .int .i64 ((rd_T40 y411 x74_4).f1.f0), .int .i64 0]) ?_ 2 _ rfl; (with_reducible repeat (first | refine blk_drewN ?_ _ | refine blk_drew ?_ | refine blk_alloc ?_ _)); refine blk_put (cs := #[.string ((rd_T40 y411 x74_4).f0), .int .i64 0, .int .i64 0]) ?_ 1 _ rfl; (with_reducible repeat (first | refine blk_drewN ?_ _ | refine blk_drew ?_ | refine blk_alloc ?_ _)); refine blk_put (cs := #[.string (⟨#[]⟩ : ByteArray), .int .i64 0, .int .i64 0]) ?_ 0 _ rfl; (with_reducible repeat (first | refine blk_drewN ?_ _ | refine blk_drew ?_ | refine blk_alloc ?_ _)); exact BK432.out) hb); have n3_ := st HB hb; clear HO_5; clear BK430; clear BK432; clear HB; have HO_5 := n0_; have BK430 := n1_; have BK432 := n2_; have HB := n3_; clear n0_ n1_ n2_ n3_; (try clear hb); (try clear hb2); (try clear hk); (try clear hi); have hczxa1681 : wxa1681.cell? ⟨gb430, 0, none⟩ = some (.string ((rd_T65 l1 x68_3).f0)) := bc BK430 0; have hczxa1682 : wxa1681.cell? ⟨gb430, 1, none⟩ = some (.slice A429_1 ((rd_T65 l1 x68_3).f1.f0).length c429_1) := bc BK430 1; have hczxa1683 : wxa1681.cell? ⟨gb430, 2, none⟩ = some (.int .i64 ((rd_T65 l1 x68_3).f1.f1)) := bc BK430 2; have hczxa1684 : wxa1681.cell? ⟨gb430, 3, none⟩ = some (.int .i64 ((rd_T65 l1 x68_3).f1.f2)) := bc BK430 3; have hczxa1685 : wxa1681.cell? ⟨gb430, 4, none⟩ = some (.slice A429_4 ((rd_T65 l1 x68_3).f2).length c429_4) := bc BK430 4; have hfzxa1681 := blk_frozen BK430.out 0; have hfzxa1682 := blk_frozen BK430.out 1; have hfzxa1683 := blk_frozen BK430.out 2; have hfzxa1684 := blk_frozen BK430.out 3; have hfzxa1685 := blk_frozen BK430.out 4; obtain ⟨Aoxa1681, coxa1681, eoxa1681⟩ := Kd.R_slice HO_5.out; subst eoxa1681) | ((with_reducible refine gate_callee (f := 28) rfl ?_); refine goesL_ (some 84) rfl rfl Try.func28 (by kernel_rfl) rfl #[.slice A429_1 ((rd_T65 l1 x68_3).f1.f0).length c429_1, .agg #[.int .i64 ((rd_T40 y411 x74_4).f1.f0), .int .i64 ((rd_T40 y411 x74_4).f1.f1)]] rfl any_s ?_; (with_reducible refine (polygon_Locate.calls k4 _ _ ((rd_T65 l1 x68_3).f1.f0) ((rd_T40 y411 x74_4).f1.f0) ((rd_T40 y411 x74_4).f1.f1) t433 t434 _ ?side1 ?side2 A37.out).mono ?_); (case side1 => exact Kd.C_below HR429_1.out bel_s); (case side2 => exact HC429_1.out); rintro e wx71501 ⟨rfl, hb⟩; refine ⟨_, rfl, ?_⟩; have n0_ := Aside0.mk (Kd.R_below (by (with_reducible repeat (first | apply Kd.R_alloc | apply Kd.R_drewN | apply Kd.R_drew)); exact (Kd.R_mono (Kd.R_far (p := ⟨gb432, 2, none⟩) (Kd.R_far (p := ⟨gb432, 1, none⟩) (Kd.R_far (p := ⟨gb432, 0, none⟩) (Kd.R_types HO_5.out BK432.out (by decide)) (fun _ hk => hk.2) (.string ((rd_T40 y411 x74_4).f0))) (fun _ hk => hk.2) (.int .i64 ((rd_T40 y411 x74_4).f1.f0))) (fun _ hk => hk.2) (.int .i64 ((rd_T40 y411 x74_4).f1.f1))) (fun _ h_ => h_.1))) hb); have n1_ := kp BK430 hb; have n2_ := Aside0.mk (blk_below (g := gb432) (o := .cells #[.string ((rd_T40 y411 x74_4).f0), .int .i64 ((rd_T40 y411 x74_4).f1.f0), .int .i64 ((rd_T40 y411 x74_4).f1.f1)] 40 (0, 0)) (by (with_reducible repeat (first | refine blk_drewN ?_ _ | refine blk_drew ?_ | refine blk_alloc ?_ _)); refine blk_put (cs := #[.string ((rd_T40 y411 x74_4).f0), .int .i64 ((rd_T40 y411 x74_4).f1.f0), .int .i64 0]) ?_ 2 _ rfl; (with_reducible repeat (first | refine blk_drewN ?_ _ | refine blk_drew ?_ | refine blk_alloc ?_ _)); refine blk_put (cs := #[.string ((rd_T40 y411 x74_4).f0), .int .i64 0, .int .i64 0]) ?_ 1 _ rfl; (with_reducible repeat (first | refine blk_drewN ?_ _ | refine blk_drew ?_ | refine blk_alloc ?_ _)); refine blk_put (cs := #[.string (⟨#[]⟩ : ByteArray), .int .i64 0, .int .i64 0]) ?_ 0 _ rfl; (with_reducible repeat (first | refine blk_drewN ?_ _ | refine blk_drew ?_ | refine blk_alloc ?_ _)); exact BK432.out) hb); have n3_ := st HB hb; clear HO_5; clear BK430; clear BK432; clear HB; have HO_5 := n0_; have BK430 := n1_; have BK432 := n2_; have HB := n3_; clear n0_ n1_ n2_ n3_; (try clear hb); (try clear hb2); (try clear hk); (try clear hi)) | (go_at_call 22; (with_reducible refine (skywayref1_HasText.calls k4 _ _ t416 ((rd_T65 l1 x68_3).f0) true _ ?side1 ?side2 A41.out).mono ?_); (case side1 => repeat (first | exact (Kd.R_reads' HO_5.out).2.2 | (with_reducible refine Kd.C_alloc ?_ _) | (with_reducible refine Kd.C_drewN ?_ _) | (with_reducible refine Kd.C_drew ?_))); (case side2 => exact (Kd.R_reads' HO_5.out).2.1); rintro e wxf0b01 ⟨rfl, hb⟩; have n0_ := Aside0.mk (Kd.R_below (by (with_reducible repeat (first | apply Kd.R_alloc | apply Kd.R_drewN | apply Kd.R_drew)); exact HO_5.out) hb); have n1_ := kp BK430 hb; have n2_ := kp BK432 hb; have n3_ := st HB hb; clear HO_5; clear BK430; clear BK432; clear HB; have HO_5 := n0_; have BK430 := n1_; have BK432 := n2_; have HB := n3_; clear n0_ n1_ n2_ n3_; (try clear hb); (try clear hb2); (try clear hk); (try clear hi)))
                              go_roundg k4
                              case measure => have := HK1.out; have := HJ19.out; have := HK3.out; have := HK4.out; omega
                              case rel => exact ⟨(wrap64 (x74_4 + 1)), (by first | rfl | (simp; done) | (simp [*]; done)), H', ⟨by have := HK1.out; have := HJ19.out; have := HK3.out; have := HK4.out; omega⟩, ⟨by (with_reducible repeat (first | apply Kd.R_alloc | apply Kd.R_drewN | apply Kd.R_drew)); exact HO_5.out⟩, ⟨by (with_reducible repeat (first | refine blk_drewN ?_ _ | refine blk_drew ?_ | refine blk_alloc ?_ _)); exact BK430.out⟩, ⟨by repeat (first | (with_reducible first | exact HB.out | apply below_alloc | apply pw_below_drewN | apply below_drew1 | refine below_set ?_ GE430.out | refine below_set ?_ GE432.out) | exact HB.out)⟩⟩
                            | clear hm8_2; go_wp2; go_roundg k4
                              case measure => have := HK1.out; have := HJ19.out; have := HK3.out; have := HK4.out; omega
                              case rel => exact ⟨(wrap64 (x68_3 + 1)), (by first | rfl | (simp; done) | (simp [*]; done)), H', ⟨by have := HK1.out; have := HJ19.out; have := HK3.out; have := HK4.out; omega⟩, ⟨by (with_reducible repeat (first | apply Kd.R_alloc | apply Kd.R_drewN | apply Kd.R_drew)); exact HO_5.out⟩, ⟨by repeat (first | (with_reducible first | exact HB.out | apply below_alloc | apply pw_below_drewN | apply below_drew1 | refine below_set ?_ GE430.out) | exact HB.out)⟩⟩
                         | clear hm8_1; obtain rfl := Option.some.inj H
                           have p431 : 0 ≤ (x74_4 : Int) := of_decide_eq_true (by first | (with_reducible assumption) | assumption)
                           have q431 : x74_4 < (y411.length : Int) := of_decide_eq_true (by first | (with_reducible assumption) | assumption)
                           obtain ⟨ad431, e431, hx431_0, hx431_1, hx431_2⟩ := at_T40 HR414.out x74_4 p431 q431; cases e431; replace hx431_0 := cl HB hx431_0; replace hx431_1 := cl HB hx431_1; replace hx431_2 := cl HB hx431_2; replace p431 := eq_true p431; replace q431 := eq_true q431
                           go_wp2_with (first | ((with_reducible refine gate_dst (N := 14) rfl ?_); (try (refine gate_guard (by rfl) ?_; dsimp only)); refine box_s #[.string (⟨#[]⟩ : ByteArray), .int .i64 0, .int .i64 0] 40 ?_; intro gb432 hg wxbc2d1 hbox hb; have n0_ := Aside0.mk (Kd.R_below (by (with_reducible repeat (first | apply Kd.R_alloc | apply Kd.R_drewN | apply Kd.R_drew)); exact HO_5.out) hb); have n1_ := kp BK430 hb; have n2_ := st HB hb; have n3_ := Aside0.mk (hbox); have n4_ := ge HB hg; have n5_ := ge HB hg; have n6_ := nl BK430 hg; have n7_ := nr BK430 hg; clear HO_5; clear BK430; clear HB; have HO_5 := n0_; have BK430 := n1_; have HB := n2_; have BK432 := n3_; have GW432 := n4_; have GE432 := n5_; have NB430_432 := n6_; have NB432_430 := n7_; clear n0_ n1_ n2_ n3_ n4_ n5_ n6_ n7_; clear hb hbox hg; have hnbxbc2d1 := NB432_430.out; have hncxbc2d1 := NB430_432.out; have hczxbc2d1 : wxbc2d1.cell? ⟨gb432, 0, none⟩ = some (.string (⟨#[]⟩ : ByteArray)) := bc BK432 0; have hczxbc2d2 : wxbc2d1.cell? ⟨gb432, 1, none⟩ = some (.int .i64 0) := bc BK432 1; have hczxbc2d3 : wxbc2d1.cell? ⟨gb432, 2, none⟩ = some (.int .i64 0) := bc BK432 2; have hfzxbc2d1 := blk_frozen BK432.out 0; have hfzxbc2d2 := blk_frozen BK432.out 1; have hfzxbc2d3 := blk_frozen BK432.out 2; have hczxbc2d4 : wxbc2d1.cell? ⟨gb430, 0, none⟩ = some (.string ((rd_T65 l1 x68_3).f0)) := bc BK430 0; have hczxbc2d5 : wxbc2d1.cell? ⟨gb430, 1, none⟩ = some (.slice A429_1 ((rd_T65 l1 x68_3).f1.f0).length c429_1) := bc BK430 1; have hczxbc2d6 : wxbc2d1.cell? ⟨gb430, 2, none⟩ = some (.int .i64 ((rd_T65 l1 x68_3).f1.f1)) := bc BK430 2; have hczxbc2d7 : wxbc2d1.cell? ⟨gb430, 3, none⟩ = some (.int .i64 ((rd_T65 l1 x68_3).f1.f2)) := bc BK430 3; have hczxbc2d8 : wxbc2d1.cell? ⟨gb430, 4, none⟩ = some (.slice A429_4 ((rd_T65 l1 x68_3).f2).length c429_4) := bc BK430 4; have hfzxbc2d4 := blk_frozen BK430.out 0; have hfzxbc2d5 := blk_frozen BK430.out 1; have hfzxbc2d6 := blk_frozen BK430.out 2; have hfzxbc2d7 := blk_frozen BK430.out 3; have hfzxbc2d8 := blk_frozen BK430.out 4) | ((with_reducible refine gate_callee (f := 28) rfl ?_); refine goesL_ (some 84) rfl rfl Try.func28 (by kernel_rfl) rfl #[.slice A429_1 ((rd_T65 l1 x68_3).f1.f0).length c429_1, .agg #[.int .i64 ((rd_T40 y411 x74_4).f1.f0), .int .i64 ((rd_T40 y411 x74_4).f1.f1)]] rfl any_s ?_; (with_reducible refine (polygon_Locate.calls k4 _ _ ((rd_T65 l1 x68_3).f1.f0) ((rd_T40 y411 x74_4).f1.f0) ((rd_T40 y411 x74_4).f1.f1) t433 t434 _ ?side1 ?side2 A37.out).mono ?_); (case side1 => exact Kd.C_below HR429_1.out bel_s); (case side2 => exact HC429_1.out); rintro e wxa1681 ⟨rfl, hb⟩; refine ⟨_, rfl, ?_⟩; have n0_ := Aside0.mk (Kd.R_below (by (with_reducible repeat (first | apply Kd.R_alloc | apply Kd.R_drewN | apply Kd.R_drew)); exact (Kd.R_mono (Kd.R_far (p := ⟨gb432, 2, none⟩) (Kd.R_far (p := ⟨gb432, 1, none⟩) (Kd.R_far (p := ⟨gb432, 0, none⟩) (Kd.R_types HO_5.out BK432.out (by decide)) (fun _ hk => hk.2) (.string ((rd_T40 y411 x74_4).f0))) (fun _ hk => hk.2) (.int .i64 ((rd_T40 y411 x74_4).f1.f0))) (fun _ hk => hk.2) (.int .i64 ((rd_T40 y411 x74_4).f1.f1))) (fun _ h_ => h_.1))) hb); have n1_ := kp BK430 hb; have n2_ := Aside0.mk (blk_below (g := gb432) (o := .cells #[.string ((rd_T40 y411 x74_4).f0), .int .i64 ((rd_T40 y411 x74_4).f1.f0), .int .i64 ((rd_T40 y411 x74_4).f1.f1)] 40 (0, 0)) (by (with_reducible repeat (first | refine blk_drewN ?_ _ | refine blk_drew ?_ | refine blk_alloc ?_ _)); refine blk_put (cs := #[.string ((rd_T40 y411 x74_4).f0), .int .i64 ((rd_T40 y411 x74_4).f1.f0), .int .i64 0]) ?_ 2 _ rfl; (with_reducible repeat (first | refine blk_drewN ?_ _ | refine blk_drew ?_ | refine blk_alloc ?_ _)); refine blk_put (cs := #[.string ((rd_T40 y411 x74_4).f0), .int .i64 0, .int .i64 0]) ?_ 1 _ rfl; (with_reducible repeat (first | refine blk_drewN ?_ _ | refine blk_drew ?_ | refine blk_alloc ?_ _)); refine blk_put (cs := #[.string (⟨#[]⟩ : ByteArray), .int .i64 0, .int .i64 0]) ?_ 0 _ rfl; (with_reducible repeat (first | refine blk_drewN ?_ _ | refine blk_drew ?_ | refine blk_alloc ?_ _)); exact BK432.out) hb); have n3_ := st HB hb; clear HO_5; clear BK430; clear BK432; clear HB; have HO_5 := n0_; have BK430 := n1_; have BK432 := n2_; have HB := n3_; clear n0_ n1_ n2_ n3_; (try clear hb); (try clear hb2); (try clear hk); (try clear hi); have hczxa1681 : wxa1681.cell? ⟨gb430, 0, none⟩ = some (.string ((rd_T65 l1 x68_3).f0)) := bc BK430 0; have hczxa1682 : wxa1681.cell? ⟨gb430, 1, none⟩ = some (.slice A429_1 ((rd_T65 l1 x68_3).f1.f0).length c429_1) := bc BK430 1; have hczxa1683 : wxa1681.cell? ⟨gb430, 2, none⟩ = some (.int .i64 ((rd_T65 l1 x68_3).f1.f1)) := bc BK430 2; have hczxa1684 : wxa1681.cell? ⟨gb430, 3, none⟩ = some (.int .i64 ((rd_T65 l1 x68_3).f1.f2)) := bc BK430 3; have hczxa1685 : wxa1681.cell? ⟨gb430, 4, none⟩ = some (.slice A429_4 ((rd_T65 l1 x68_3).f2).length c429_4) := bc BK430 4; have hfzxa1681 := blk_frozen BK430.out 0; have hfzxa1682 := blk_frozen BK430.out 1; have hfzxa1683 := blk_frozen BK430.out 2; have hfzxa1684 := blk_frozen BK430.out 3; have hfzxa1685 := blk_frozen BK430.out 4; obtain ⟨Aoxa1681, coxa1681, eoxa1681⟩ := Kd.R_slice HO_5.out; subst eoxa1681) | ((with_reducible refine gate_callee (f := 28) rfl ?_); refine goesL_ (some 84) rfl rfl Try.func28 (by kernel_rfl) rfl #[.slice A429_1 ((rd_T65 l1 x68_3).f1.f0).length c429_1, .agg #[.int .i64 ((rd_T40 y411 x74_4).f1.f0), .int .i64 ((rd_T40 y411 x74_4).f1.f1)]] rfl any_s ?_; (with_reducible refine (polygon_Locate.calls k4 _ _ ((rd_T65 l1 x68_3).f1.f0) ((rd_T40 y411 x74_4).f1.f0) ((rd_T40 y411 x74_4).f1.f1) t433 t434 _ ?side1 ?side2 A37.out).mono ?_); (case side1 => exact Kd.C_below HR429_1.out bel_s); (case side2 => exact HC429_1.out); rintro e wx71501 ⟨rfl, hb⟩; refine ⟨_, rfl, ?_⟩; have n0_ := Aside0.mk (Kd.R_below (by (with_reducible repeat (first | apply Kd.R_alloc | apply Kd.R_drewN | apply Kd.R_drew)); exact (Kd.R_mono (Kd.R_far (p := ⟨gb432, 2, none⟩) (Kd.R_far (p := ⟨gb432, 1, none⟩) (Kd.R_far (p := ⟨gb432, 0, none⟩) (Kd.R_types HO_5.out BK432.out (by decide)) (fun _ hk => hk.2) (.string ((rd_T40 y411 x74_4).f0))) (fun _ hk => hk.2) (.int .i64 ((rd_T40 y411 x74_4).f1.f0))) (fun _ hk => hk.2) (.int .i64 ((rd_T40 y411 x74_4).f1.f1))) (fun _ h_ => h_.1))) hb); have n1_ := kp BK430 hb; have n2_ := Aside0.mk (blk_below (g := gb432) (o := .cells #[.string ((rd_T40 y411 x74_4).f0), .int .i64 ((rd_T40 y411 x74_4).f1.f0), .int .i64 ((rd_T40 y411 x74_4).f1.f1)] 40 (0, 0)) (by (with_reducible repeat (first | refine blk_drewN ?_ _ | refine blk_drew ?_ | refine blk_alloc ?_ _)); refine blk_put (cs := #[.string ((rd_T40 y411 x74_4).f0), .int .i64 ((rd_T40 y411 x74_4).f1.f0), .int .i64 0]) ?_ 2 _ rfl; (with_reducible repeat (first | refine blk_drewN ?_ _ | refine blk_drew ?_ | refine blk_alloc ?_ _)); refine blk_put (cs := #[.string ((rd_T40 y411 x74_4).f0), .int .i64 0, .int .i64 0]) ?_ 1 _ rfl; (with_reducible repeat (first | refine blk_drewN ?_ _ | refine blk_drew ?_ | refine blk_alloc ?_ _)); refine blk_put (cs := #[.string (⟨#[]⟩ : ByteArray), .int .i64 0, .int .i64 0]) ?_ 0 _ rfl; (with_reducible repeat (first | refine blk_drewN ?_ _ | refine blk_drew ?_ | refine blk_alloc ?_ _)); exact BK432.out) hb); have n3_ := st HB hb; clear HO_5; clear BK430; clear BK432; clear HB; have HO_5 := n0_; have BK430 := n1_; have BK432 := n2_; have HB := n3_; clear n0_ n1_ n2_ n3_; (try clear hb); (try clear hb2); (try clear hk); (try clear hi)) | (go_at_call 22; (with_reducible refine (skywayref1_HasText.calls k4 _ _ t416 ((rd_T65 l1 x68_3).f0) false _ ?side1 ?side2 A41.out).mono ?_); (case side1 => repeat (first | exact (Kd.R_reads' HO_5.out).2.2 | (with_reducible refine Kd.C_alloc ?_ _) | (with_reducible refine Kd.C_drewN ?_ _) | (with_reducible refine Kd.C_drew ?_))); (case side2 => exact (Kd.R_reads' HO_5.out).2.1); rintro e wxa31e1 ⟨rfl, hb⟩; have n0_ := Aside0.mk (Kd.R_below (by (with_reducible repeat (first | apply Kd.R_alloc | apply Kd.R_drewN | apply Kd.R_drew)); exact HO_5.out) hb); have n1_ := kp BK430 hb; have n2_ := kp BK432 hb; have n3_ := st HB hb; clear HO_5; clear BK430; clear BK432; clear HB; have HO_5 := n0_; have BK430 := n1_; have BK432 := n2_; have HB := n3_; clear n0_ n1_ n2_ n3_; (try clear hb); (try clear hb2); (try clear hk); (try clear hi)))
                           go_ret
                           exact ⟨by first | rfl | (simp [errW_none, errW_some] <;> rfl) | (simp only [← hji3]; first | rfl | (simp [errW_none, errW_some] <;> rfl)) | (simp [*, errW_none, errW_some] <;> rfl), by repeat (first | (with_reducible first | exact HB.out | apply below_alloc | apply pw_below_drewN | apply below_drew1 | refine below_set ?_ GE430.out | refine below_set ?_ GE432.out) | exact HB.out)⟩
                   · rw [if_neg c31] at H; exact absurd H (by simp)
                 · rw [if_neg c30] at H; exact absurd H (by simp)
               · rw [if_neg c29] at H; have c29b0 : decide (x68_3 < (l1.length : Int)) = false := decide_eq_false c29; clear c29; obtain rfl := Option.some.inj H; go_wp2; go_ret
                 exact ⟨by first | rfl | (simp [errW_none, errW_some] <;> rfl) | (simp only [← hji3]; first | rfl | (simp [errW_none, errW_some] <;> rfl)) | (simp [*, errW_none, errW_some] <;> rfl), by repeat (first | (with_reducible first | exact HB.out | apply below_alloc | apply pw_below_drewN | apply below_drew1) | exact HB.out)⟩
   | (first | (have _hm := hm1_1) | (have _hm := hm1_2))
     obtain rfl := Option.some.inj H
     first
      | clear hm1_1
        have q74 : ((ji3) : Int) ≤ ((l0.length : Int) : Int) := of_decide_eq_true (by first | (with_reducible assumption) | assumption)
        obtain ⟨i074, hi074, _, hsz74, _⟩ := info_parts info40; have hroom74 : l0.length ≤ c0 := HC0.out; have hC74 : Kd.C k40 _ A0 l0.length l0 := HR0.out
        have hcut74 := cut_to (P := Try.prog) 22 40 .i64 Try.underlying22 hi074 A0 l0.length c0 (ji3) (of_decide_eq_true (by first | (with_reducible assumption) | assumption)) q74 hroom74
        have hr74 := Kd.C_take (m := ((ji3) : Int).toNat) hC74 (by omega); have hy74 : y411.length = ((ji3) : Int).toNat := (by rw [Ny411.out, List.length_take]; omega); rw [← Ny411.out] at hr74; rw [← hy74] at hcut74; have HR414 := Aside0.mk hr74; have HC414 := Aside0.mk (show y411.length ≤ c0 from by omega); clear hr74 hC74 hroom74 hi074 hsz74; have KY74 := Aside0.mk hy74; clear hy74; replace q74 := eq_true q74; go_enter Try.func9, Try.ntmps9
        go_wp2_with (first | ((with_reducible refine gate_callee (f := 23) rfl ?_); refine goesL_ (some 22) rfl rfl Try.func23 (by kernel_rfl) rfl #[] rfl any_s ?_; (with_reducible refine (skywaykeep1_routeWorks.calls k  true _ A6.out).mono ?_); rintro e wx92da1 ⟨rfl, hb⟩; refine ⟨_, rfl, ?_⟩; have n0_ := st HB hb; clear HB; have HB := n0_; clear n0_; (try clear hb); (try clear hb2); (try clear hk); (try clear hi)) | ((with_reducible refine gate_callee (f := 26) rfl ?_); refine goesL_ (some 27) rfl rfl Try.func26 (by kernel_rfl) rfl #[.slice A0 y411.length c0, .slice A1 l1.length c1] rfl any_s ?_; (with_reducible refine (route_Crossed.calls k _ _ y411 _ _ l1 t416 t417 _ ?side1 ?side2 ?side3 ?side4 A8.out).mono ?_); (case side1 => exact cb_s (Kd.C_below HR414.out HB.out)); (case side2 => exact HC414.out); (case side3 => exact cb_s (Kd.C_below HR1.out HB.out)); (case side4 => exact HC1.out); rintro e wx1d691 ⟨v418, rfl, hox1d691, hb⟩; refine ⟨_, rfl, ?_⟩; have n0_ := Aside0.mk (Kd.R_lower hox1d691 bz_s); have n1_ := st HB hb; clear HB; have HO419 := n0_; have HB := n1_; clear n0_ n1_; (try clear hb); (try clear hb2); (try clear hk); (try clear hi); (try clear hox1d691); obtain ⟨Aox1d691, cox1d691, eox1d691⟩ := Kd.R_slice HO419.out; subst eox1d691))
        go_ret
        exact ⟨by first | rfl | (simp [errW_none, errW_some] <;> rfl) | (simp only [← hji3]; first | rfl | (simp [errW_none, errW_some] <;> rfl)) | (simp [*, errW_none, errW_some] <;> rfl), by repeat (first | (with_reducible first | exact HB.out | apply below_alloc | apply pw_below_drewN | apply below_drew1) | exact HB.out)⟩
      | clear hm1_2
        have q78 : ((ji3) : Int) ≤ ((l0.length : Int) : Int) := of_decide_eq_true (by first | (with_reducible assumption) | assumption)
        obtain ⟨i078, hi078, _, hsz78, _⟩ := info_parts info40; have hroom78 : l0.length ≤ c0 := HC0.out; have hC78 : Kd.C k40 _ A0 l0.length l0 := HR0.out
        have hcut78 := cut_to (P := Try.prog) 22 40 .i64 Try.underlying22 hi078 A0 l0.length c0 (ji3) (of_decide_eq_true (by first | (with_reducible assumption) | assumption)) q78 hroom78
        have hr78 := Kd.C_take (m := ((ji3) : Int).toNat) hC78 (by omega); have hy78 : y411.length = ((ji3) : Int).toNat := (by rw [Ny411.out, List.length_take]; omega); rw [← Ny411.out] at hr78; rw [← hy78] at hcut78; have HR414 := Aside0.mk hr78; have HC414 := Aside0.mk (show y411.length ≤ c0 from by omega); clear hr78 hC78 hroom78 hi078 hsz78; have KY78 := Aside0.mk hy78; clear hy78; replace q78 := eq_true q78; go_enter Try.func9, Try.ntmps9
        go_wp2_with (first | ((with_reducible refine gate_callee (f := 23) rfl ?_); refine goesL_ (some 22) rfl rfl Try.func23 (by kernel_rfl) rfl #[] rfl any_s ?_; (with_reducible refine (skywaykeep1_routeWorks.calls k  false _ A6.out).mono ?_); rintro e wxfc391 ⟨rfl, hb⟩; refine ⟨_, rfl, ?_⟩; have n0_ := st HB hb; clear HB; have HB := n0_; clear n0_; (try clear hb); (try clear hb2); (try clear hk); (try clear hi)))
        go_ret
        exact ⟨by first | rfl | (simp [errW_none, errW_some] <;> rfl) | (simp only [← hji3]; first | rfl | (simp [errW_none, errW_some] <;> rfl)) | (simp [*, errW_none, errW_some] <;> rfl), by repeat (first | (with_reducible first | exact HB.out | apply below_alloc | apply pw_below_drewN | apply below_drew1) | exact HB.out)⟩

/-- What is told of a value of struct type 36 that came in. -/
def good36 (x : S36) : Prop := ((Lit.int .i64 x.f0).wf = true) ∧ (Lit.int .i64 x.f1).wf = true
/-- What is told of a value of struct type 40 that came in. -/
def good40 (x : S40) : Prop := (x.f0.size ≤ 140737488351232) ∧ good36 x.f1
/-- What is told of a value of struct type 62 that came in. -/
def good62 (x : S62) : Prop := (x.f0.length * 16 ≤ 140737488351232 ∧ ∀ y0 ∈ x.f0, good36 y0) ∧ ((Lit.int .i64 x.f1).wf = true) ∧ (Lit.int .i64 x.f2).wf = true
/-- What is told of a value of struct type 140 that came in. -/
def good140 (x : S140) : Prop := ((Lit.int .i64 x.f0).wf = true) ∧ (Lit.int .i64 x.f1).wf = true
/-- What is told of a value of struct type 65 that came in. -/
def good65 (x : S65) : Prop := (x.f0.size ≤ 140737488351232) ∧ (good62 x.f1) ∧ x.f2.length * 16 ≤ 140737488351232 ∧ ∀ y0 ∈ x.f2, good140 y0
/-- THE ONE PURE STATEMENT of skywaykeep1_RouteCrossed. -/
def skywaykeep1_RouteCrossed.Pure : Prop := ∀ (l0 : List (S40)) (l1 : List (S65)), (l0.length * 32 ≤ 140737488351232 ∧ ∀ y0 ∈ l0, good40 y0) → (l1.length * 80 ≤ 140737488351232 ∧ ∀ y0 ∈ l1, good65 y0) → ∃ k, skywaykeep1_RouteCrossed.f k l0 l1 = some true

end Go.Proofs.Ytbpbpojnfhhbjaa.PRouteCrossed
