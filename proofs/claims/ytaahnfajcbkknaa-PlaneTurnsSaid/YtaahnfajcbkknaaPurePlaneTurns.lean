/- PlaneTurns: for all points the turn of three points does not depend on which one comes first, is reversed if two are exchanged, and is 0 if two are equal. -/
import Derived.Test.YtaahnfajcbkknaaPPlaneTurnsx
import Derived.Test.YtaahnfajcbkknaaMath
namespace Go.Proofs.Ytaahnfajcbkknaa.Pure
open Go Go.RowKit Go.Proofs.Ytaahnfajcbkknaa.PPlaneTurns Go.Proofs.YtaahnfajcbkknaaW.PrintWords Go.Proofs.YtaahnfajcbkknaaW.PrintLast Go.Proofs.YtaahnfajcbkknaaM

open RootF
/-- The distance, rounded up. -/
def up (s : Int) : Int := if rootI s * rootI s < s then rootI s + 1 else rootI s
theorem up_spec {s : Int} (h : 0 ≤ s) : s ≤ up s * up s ∧ rootI s ≤ up s ∧ up s ≤ rootI s + 1 := by
  obtain ⟨h1, h2⟩ := rootI_spec h
  unfold up
  split
  · exact ⟨by omega, by omega, by omega⟩
  · exact ⟨by omega, by omega, by omega⟩
def S (x y : Int) : Int := x * x + y * y
theorem S_nonneg (x y : Int) : 0 ≤ S x y := by have := sq_nonneg x; have := sq_nonneg y; unfold S; omega
theorem square {ax ay bx b_y : Int} (h1 : -2000000000 ≤ ax - bx) (h2 : ax - bx ≤ 2000000000) (h3 : -2000000000 ≤ ay - b_y) (h4 : ay - b_y ≤ 2000000000) :
    plane_Square.f ax ay bx b_y = some (S (ax - bx) (ay - b_y)) ∧ S (ax - bx) (ay - b_y) ≤ 8000000000000000000 := by
  have q1 := sq_bd h1 h2
  have q2 := sq_bd h3 h4
  have p1 := sq_nonneg (ax - bx)
  have p2 := sq_nonneg (ay - b_y)
  refine ⟨?_, by unfold S; omega⟩
  unfold plane_Square.f plane_Sub.f plane_Dot.f S
  rw [w64 (by omega) (by omega), w64 (by omega) (by omega)]
  simp only [Option.bind_some]
  rw [w64 (x := (ax - bx) * (ax - bx)) (by omega) (by omega), w64 (x := (ay - b_y) * (ay - b_y)) (by omega) (by omega), w64 (by omega) (by omega)]
theorem root_f {s : Int} (h : s ≤ 9223372036854775807) : num_Root.f s = some (rootI s) := by unfold num_Root.f; rw [if_pos h]
theorem root_lt {s : Int} (h0 : 0 ≤ s) (h : s ≤ 8000000000000000000) : rootI s ≤ 3000000000 := by
  obtain ⟨h1, _⟩ := rootI_spec h0
  exact sq_le (by decide) (by omega)
theorem distance {ax ay bx b_y : Int} (h1 : -2000000000 ≤ ax - bx) (h2 : ax - bx ≤ 2000000000) (h3 : -2000000000 ≤ ay - b_y) (h4 : ay - b_y ≤ 2000000000) :
    plane_Distance.f ax ay bx b_y = some (rootI (S (ax - bx) (ay - b_y)), up (S (ax - bx) (ay - b_y))) := by
  obtain ⟨e, hb⟩ := square h1 h2 h3 h4
  have h0 := S_nonneg (ax - bx) (ay - b_y)
  unfold plane_Distance.f
  rw [e]
  generalize S (ax - bx) (ay - b_y) = s at *
  have r0 := rootI_nonneg s
  have r1 := root_lt h0 hb
  have r2 := (rootI_spec h0).1
  have r3 := sq_nonneg (rootI s)
  rw [Option.bind_some, root_f (by omega), Option.bind_some, w64 (by omega) (by omega)]
  unfold up
  split
  · rw [w64 (by omega) (by omega)]
  · rfl
theorem within {ax ay bx b_y d : Int} (h1 : -2000000000 ≤ ax - bx) (h2 : ax - bx ≤ 2000000000) (h3 : -2000000000 ≤ ay - b_y) (h4 : ay - b_y ≤ 2000000000) :
    plane_Within.f ax ay bx b_y d = some (decide (0 ≤ d ∧ d ≤ 8000000 ∧ S (ax - bx) (ay - b_y) ≤ d * d)) := by
  obtain ⟨e, hb⟩ := square h1 h2 h3 h4
  unfold plane_Within.f
  by_cases c1 : d ≥ 0
  · rw [if_pos c1]
    by_cases c2 : d ≤ 8000000
    · have q := sq_bd (show -8000000 ≤ d by omega) c2
      have q2 := sq_nonneg d
      rw [if_pos c2, e, Option.bind_some, w64 (by omega) (by omega)]
      congr 1
      exact decide_eq_decide.2 ⟨fun h => ⟨c1, c2, h⟩, fun h => h.2.2⟩
    · rw [if_neg c2]
      congr 1
      exact (decide_eq_false (fun h => c2 h.2.1)).symm
  · rw [if_neg c1]
    congr 1
    exact (decide_eq_false (fun h => c1 h.1)).symm
theorem pworks : skywaykeep1_planeWorks.f = some true := by
  unfold skywaykeep1_planeWorks.f
  have e : rootI (S (0 - 3) (0 - 5)) = 5 := rootI_eq (by decide) (by decide) (by decide)
  rw [distance (by decide) (by decide) (by decide) (by decide), within (by decide) (by decide) (by decide) (by decide), within (by decide) (by decide) (by decide) (by decide)]
  unfold up
  rw [e]
  decide
/-- A permitted coordinate. -/
def Ok (x y : Int) : Prop := -1000000 ≤ x ∧ x ≤ 1000000 ∧ -1000000 ≤ y ∧ y ≤ 1000000
instance (x y : Int) : Decidable (Ok x y) := inferInstanceAs (Decidable (_ ∧ _))
theorem good_f (x y : Int) : skywayref1_Good.f x y = some (decide (Ok x y)) := by
  unfold skywayref1_Good.f
  by_cases c1 : x ≥ -1000000
  · rw [if_pos c1]
    by_cases c2 : x ≤ 1000000
    · rw [if_pos c2]
      by_cases c3 : y ≥ -1000000
      · rw [if_pos c3]; congr 1; exact decide_eq_decide.2 ⟨fun h => ⟨c1, c2, c3, h⟩, fun h => h.2.2.2⟩
      · rw [if_neg c3]; congr 1; exact (decide_eq_false (fun h : Ok x y => c3 h.2.2.1)).symm
    · rw [if_neg c2]; congr 1; exact (decide_eq_false (fun h : Ok x y => c2 h.2.1)).symm
  · rw [if_neg c1]; congr 1; exact (decide_eq_false (fun h : Ok x y => c1 h.1)).symm
def okB (p : S37) : Bool := decide (Ok p.f0 p.f1)
theorem near_l0 (l : List S37) (hl : l.length ≤ 9000000000000000000) : ∀ (d k i : Nat), i + d = l.length → d < k → skywaykeep1_near.l0 k l (l.length : Int) (i : Int) = some ((l.drop i).all okB)
  | 0, k, i, hi, hk => by
    obtain ⟨k, rfl⟩ : ∃ m, k = m + 1 := ⟨k - 1, by omega⟩
    rw [skywaykeep1_near.l0, if_neg (by omega), List.drop_of_length_le (by omega)]
    rfl
  | d + 1, k, i, hi, hk => by
    obtain ⟨k, rfl⟩ : ∃ m, k = m + 1 := ⟨k - 1, by omega⟩
    have hlt : i < l.length := by omega
    rw [skywaykeep1_near.l0, if_pos (by omega), if_pos (by omega), if_pos (by omega), good_f, Option.bind_some]
    have e : rd_T37 l (i : Int) = l[i] := by unfold rd_T37; rw [Int.toNat_natCast, List.getD_eq_getElem?_getD, List.getElem?_eq_getElem hlt]; rfl
    rw [e, List.drop_eq_getElem_cons hlt, List.all_cons]
    have ih := near_l0 l hl d k (i + 1) (by omega) (by omega)
    by_cases c : Ok l[i].f0 l[i].f1
    · have c' : okB l[i] = true := decide_eq_true c
      rw [decide_eq_true c, if_pos rfl, w64 (by omega) (by omega), show ((i : Int) + 1) = ((i + 1 : Nat) : Int) by omega, ih, c', Bool.true_and]
    · have c' : okB l[i] = false := decide_eq_false c
      rw [decide_eq_false c, if_neg (by decide), c', Bool.false_and]
theorem near_f (l : List S37) (k : Nat) (hk : l.length < k) (hl : l.length ≤ 9000000000000000000) : skywaykeep1_near.f k l = some (l.all okB) := by
  unfold skywaykeep1_near.f
  rw [show (0 : Int) = ((0 : Nat) : Int) from rfl, near_l0 l hl l.length k 0 (by omega) hk, List.drop_zero]
/-- The cross product of b - a and c - a. -/
def X (ax ay bx b_y cx cy : Int) : Int := (bx - ax) * (cy - ay) - (b_y - ay) * (cx - ax)
def sg (x : Int) : Int := if x > 0 then 1 else if x < 0 then -1 else 0
theorem turn {ax ay bx b_y cx cy : Int} (h1 : -2000000000 ≤ bx - ax) (h2 : bx - ax ≤ 2000000000) (h3 : -2000000000 ≤ b_y - ay) (h4 : b_y - ay ≤ 2000000000)
    (h5 : -2000000000 ≤ cx - ax) (h6 : cx - ax ≤ 2000000000) (h7 : -2000000000 ≤ cy - ay) (h8 : cy - ay ≤ 2000000000) :
    plane_Turn.f ax ay bx b_y cx cy = some (sg (X ax ay bx b_y cx cy)) := by
  have m1 := mul_bd h1 h2 h7 h8
  have m2 := mul_bd h3 h4 h5 h6
  unfold plane_Turn.f plane_Sub.f plane_Cross.f X sg
  simp only [Option.bind_some]
  rw [w64 (x := bx - ax) (by omega) (by omega), w64 (x := b_y - ay) (by omega) (by omega), w64 (x := cx - ax) (by omega) (by omega), w64 (x := cy - ay) (by omega) (by omega),
    w64 (x := (bx - ax) * (cy - ay)) (by omega) (by omega), w64 (x := (b_y - ay) * (cx - ax)) (by omega) (by omega), w64 (by omega) (by omega)]
  split
  · rfl
  · split <;> rfl
theorem sg_neg (x : Int) : sg (-x) = -sg x := by unfold sg; (repeat' split) <;> omega
theorem sg_rng (x : Int) : -1 ≤ sg x ∧ sg x ≤ 1 := by unfold sg; (repeat' split) <;> omega
theorem PlaneTurns : skywaykeep1_PlaneTurns.Pure := by
  intro ax ay bx b_y cx cy _ _ _ _ _ _
  refine ⟨4, ?_⟩
  unfold skywaykeep1_PlaneTurns.f
  rw [pworks, Option.bind_some, if_pos rfl, near_f _ 4 (by simp) (by simp), Option.bind_some]
  by_cases hok : Ok ax ay ∧ Ok bx b_y ∧ Ok cx cy
  · have e0 : [(⟨ax, ay⟩ : S37), ⟨bx, b_y⟩, ⟨cx, cy⟩].all okB = true := by simp [okB, hok]
    rw [e0, if_pos rfl]
    obtain ⟨⟨a1, a2, a3, a4⟩, ⟨b1, b2, b3, b4⟩, c1, c2, c3, c4⟩ := hok
    rw [turn (ax := ax) (ay := ay) (bx := bx) (b_y := b_y) (cx := cx) (cy := cy) (by omega) (by omega) (by omega) (by omega) (by omega) (by omega) (by omega) (by omega),
      turn (ax := bx) (ay := b_y) (bx := cx) (b_y := cy) (cx := ax) (cy := ay) (by omega) (by omega) (by omega) (by omega) (by omega) (by omega) (by omega) (by omega),
      turn (ax := bx) (ay := b_y) (bx := ax) (b_y := ay) (cx := cx) (cy := cy) (by omega) (by omega) (by omega) (by omega) (by omega) (by omega) (by omega) (by omega),
      turn (ax := ax) (ay := ay) (bx := ax) (b_y := ay) (cx := cx) (cy := cy) (by omega) (by omega) (by omega) (by omega) (by omega) (by omega) (by omega) (by omega)]
    have e1 : X bx b_y cx cy ax ay = X ax ay bx b_y cx cy := by unfold X; grind
    have e2 : X bx b_y ax ay cx cy = -X ax ay bx b_y cx cy := by unfold X; grind
    have e3 : X ax ay ax ay cx cy = 0 := by unfold X; grind
    rw [e1, e2, e3, sg_neg]
    have := sg_rng (X ax ay bx b_y cx cy)
    rw [Option.bind_some, Option.bind_some, if_pos rfl, Option.bind_some, if_pos (w64 (by omega) (by omega)).symm, Option.bind_some]
    rfl
  · have e0 : [(⟨ax, ay⟩ : S37), ⟨bx, b_y⟩, ⟨cx, cy⟩].all okB = false := by
      rw [Bool.eq_false_iff]
      intro h
      apply hok
      simpa [okB] using h
    rw [e0, if_neg (by decide)]
end Go.Proofs.Ytaahnfajcbkknaa.Pure
