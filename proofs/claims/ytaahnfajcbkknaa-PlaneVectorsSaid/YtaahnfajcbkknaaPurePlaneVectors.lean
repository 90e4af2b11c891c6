/- PlaneVectors: for all points, subtraction undoes addition, and the squares of scalar product and cross product add up to the product of the squared lengths. -/
import Derived.Test.YtaahnfajcbkknaaPPlaneVectorsx
import Derived.Test.YtaahnfajcbkknaaMath
namespace Go.Proofs.Ytaahnfajcbkknaa.Pure
open Go Go.RowKit Go.Proofs.Ytaahnfajcbkknaa.PPlaneVectors Go.Proofs.YtaahnfajcbkknaaW.PrintWords Go.Proofs.YtaahnfajcbkknaaW.PrintLast Go.Proofs.YtaahnfajcbkknaaM

open RootF
/-- The distance, rounded up. -/
def up (s : Int) : Int := if rootI s * rootI s < s then rootI s + 1 else rootI s
theorem up_spec {s : Int} (h : 0 ≤ s) : s ≤ up s * up s ∧ rootI s ≤ up s ∧ up s ≤ rootI s + 1 := by
  obtain ⟨h1, h2⟩ := rootI_spec h
  unfold up
  split
  · exact ⟨by omega, by omega, by omega⟩
  · exact ⟨by omega, by omega, by omega⟩
def S (x y : Int) : Int := x * x + y * y
theorem S_nonneg (x y : Int) : 0 ≤ S x y := by have := sq_nonneg x; have := sq_nonneg y; unfold S; omega
theorem square {ax ay bx b_y : Int} (h1 : -2000000000 ≤ ax - bx) (h2 : ax - bx ≤ 2000000000) (h3 : -2000000000 ≤ ay - b_y) (h4 : ay - b_y ≤ 2000000000) :
    plane_Square.f ax ay bx b_y = some (S (ax - bx) (ay - b_y)) ∧ S (ax - bx) (ay - b_y) ≤ 8000000000000000000 := by
  have q1 := sq_bd h1 h2
  have q2 := sq_bd h3 h4
  have p1 := sq_nonneg (ax - bx)
  have p2 := sq_nonneg (ay - b_y)
  refine ⟨?_, by unfold S; omega⟩
  unfold plane_Square.f plane_Sub.f plane_Dot.f S
  rw [w64 (by omega) (by omega), w64 (by omega) (by omega)]
  simp only [Option.bind_some]
  rw [w64 (x := (ax - bx) * (ax - bx)) (by omega) (by omega), w64 (x := (ay - b_y) * (ay - b_y)) (by omega) (by omega), w64 (by omega) (by omega)]
theorem root_f {s : Int} (h : s ≤ 9223372036854775807) : num_Root.f s = some (rootI s) := by unfold num_Root.f; rw [if_pos h]
theorem root_lt {s : Int} (h0 : 0 ≤ s) (h : s ≤ 8000000000000000000) : rootI s ≤ 3000000000 := by
  obtain ⟨h1, _⟩ := rootI_spec h0
  exact sq_le (by decide) (by omega)
theorem distance {ax ay bx b_y : Int} (h1 : -2000000000 ≤ ax - bx) (h2 : ax - bx ≤ 2000000000) (h3 : -2000000000 ≤ ay - b_y) (h4 : ay - b_y ≤ 2000000000) :
    plane_Distance.f ax ay bx b_y = some (rootI (S (ax - bx) (ay - b_y)), up (S (ax - bx) (ay - b_y))) := by
  obtain ⟨e, hb⟩ := square h1 h2 h3 h4
  have h0 := S_nonneg (ax - bx) (ay - b_y)
  unfold plane_Distance.f
  rw [e]
  generalize S (ax - bx) (ay - b_y) = s at *
  have r0 := rootI_nonneg s
  have r1 := root_lt h0 hb
  have r2 := (rootI_spec h0).1
  have r3 := sq_nonneg (rootI s)
  rw [Option.bind_some, root_f (by omega), Option.bind_some, w64 (by omega) (by omega)]
  unfold up
  split
  · rw [w64 (by omega) (by omega)]
  · rfl
theorem within {ax ay bx b_y d : Int} (h1 : -2000000000 ≤ ax - bx) (h2 : ax - bx ≤ 2000000000) (h3 : -2000000000 ≤ ay - b_y) (h4 : ay - b_y ≤ 2000000000) :
    plane_Within.f ax ay bx b_y d = some (decide (0 ≤ d ∧ d ≤ 8000000 ∧ S (ax - bx) (ay - b_y) ≤ d * d)) := by
  obtain ⟨e, hb⟩ := square h1 h2 h3 h4
  unfold plane_Within.f
  by_cases c1 : d ≥ 0
  · rw [if_pos c1]
    by_cases c2 : d ≤ 8000000
    · have q := sq_bd (show -8000000 ≤ d by omega) c2
      have q2 := sq_nonneg d
      rw [if_pos c2, e, Option.bind_some, w64 (by omega) (by omega)]
      congr 1
      exact decide_eq_decide.2 ⟨fun h => ⟨c1, c2, h⟩, fun h => h.2.2⟩
    · rw [if_neg c2]
      congr 1
      exact (decide_eq_false (fun h => c2 h.2.1)).symm
  · rw [if_neg c1]
    congr 1
    exact (decide_eq_false (fun h => c1 h.1)).symm
theorem pworks : skywaykeep1_planeWorks.f = some true := by
  unfold skywaykeep1_planeWorks.f
  have e : rootI (S (0 - 3) (0 - 5)) = 5 := rootI_eq (by decide) (by decide) (by decide)
  rw [distance (by decide) (by decide) (by decide) (by decide), within (by decide) (by decide) (by decide) (by decide), within (by decide) (by decide) (by decide) (by decide)]
  unfold up
  rw [e]
  decide
theorem undo {a b : Int} (a1 : -9223372036854775808 ≤ a) (a2 : a ≤ 9223372036854775807) : wrap64 (wrap64 (a + b) - b) = a := by
  unfold wrap64
  omega
theorem rem_bd (a : Int) : -20000 ≤ Int.tmod a 20000 ∧ Int.tmod a 20000 ≤ 20000 := by
  have h1 := Int.tmod_lt_of_pos a (show (0 : Int) < 20000 by decide)
  have h2 := Int.tmod_lt_of_pos (-a) (show (0 : Int) < 20000 by decide)
  rw [Int.neg_tmod] at h2
  omega
theorem PlaneVectors : skywaykeep1_PlaneVectors.Pure := by
  intro ax ay bx b_y h1 h2 _ _
  obtain ⟨ax1, ax2⟩ := wf64.1 h1
  obtain ⟨ay1, ay2⟩ := wf64.1 h2
  unfold skywaykeep1_PlaneVectors.f plane_Add.f plane_Sub.f
  rw [pworks, Option.bind_some, if_pos rfl, Option.bind_some, Option.bind_some]
  dsimp only
  rw [undo ax1 ax2, undo ay1 ay2, if_neg (by simp)]
  obtain ⟨p1, p2⟩ := rem_bd ax
  obtain ⟨q1, q2⟩ := rem_bd ay
  obtain ⟨r1, r2⟩ := rem_bd bx
  obtain ⟨s1, s2⟩ := rem_bd b_y
  generalize Int.tmod ax 20000 = x at *
  generalize Int.tmod ay 20000 = y at *
  generalize Int.tmod bx 20000 = u at *
  generalize Int.tmod b_y 20000 = v at *
  have m1 := mul_bd p1 p2 r1 r2
  have m2 := mul_bd q1 q2 s1 s2
  have m3 := mul_bd p1 p2 s1 s2
  have m4 := mul_bd q1 q2 r1 r2
  have m5 := mul_bd p1 p2 p1 p2
  have m6 := mul_bd q1 q2 q1 q2
  have m7 := mul_bd r1 r2 r1 r2
  have m8 := mul_bd s1 s2 s1 s2
  unfold plane_Dot.f plane_Cross.f
  rw [w64 (x := x * u) (by omega) (by omega), w64 (x := y * v) (by omega) (by omega), w64 (x := x * v) (by omega) (by omega), w64 (x := y * u) (by omega) (by omega), w64 (x := x * x) (by omega) (by omega), w64 (x := y * y) (by omega) (by omega), w64 (x := u * u) (by omega) (by omega), w64 (x := v * v) (by omega) (by omega),
    w64 (x := x * u + y * v) (by omega) (by omega), w64 (x := x * v - y * u) (by omega) (by omega), w64 (x := x * x + y * y) (by omega) (by omega), w64 (x := u * u + v * v) (by omega) (by omega)]
  simp only [Option.bind_some]
  have n1 := mul_bd (show -800000000 ≤ x * u + y * v by omega) (show x * u + y * v ≤ 800000000 by omega) (show -800000000 ≤ x * u + y * v by omega) (show x * u + y * v ≤ 800000000 by omega)
  have n2 := mul_bd (show -800000000 ≤ x * v - y * u by omega) (show x * v - y * u ≤ 800000000 by omega) (show -800000000 ≤ x * v - y * u by omega) (show x * v - y * u ≤ 800000000 by omega)
  have n3 := mul_bd (show -800000000 ≤ x * x + y * y by omega) (show x * x + y * y ≤ 800000000 by omega) (show -800000000 ≤ u * u + v * v by omega) (show u * u + v * v ≤ 800000000 by omega)
  have key : (x * u + y * v) * (x * u + y * v) + (x * v - y * u) * (x * v - y * u) = (x * x + y * y) * (u * u + v * v) := by grind
  rw [w64 (x := (x * u + y * v) * (x * u + y * v)) (by omega) (by omega), w64 (x := (x * v - y * u) * (x * v - y * u)) (by omega) (by omega), w64 (x := (x * x + y * y) * (u * u + v * v)) (by omega) (by omega), w64 (by omega) (by omega), key]
  simp

end Go.Proofs.Ytaahnfajcbkknaa.Pure
