/- PlaneWay: for all points and parts of the way, a point on the way is within 4 meters as far from its beginning as its part of the way says, and the ends of the way are the two points. -/
import Derived.Test.YtaahnfajcbkknaaPPlaneWayx
import Derived.Test.YtaahnfajcbkknaaMath
namespace Go.Proofs.Ytaahnfajcbkknaa.Pure
open Go Go.RowKit Go.Proofs.Ytaahnfajcbkknaa.PPlaneWay Go.Proofs.YtaahnfajcbkknaaW.PrintWords Go.Proofs.YtaahnfajcbkknaaW.PrintLast Go.Proofs.YtaahnfajcbkknaaM

open RootF
/-- The distance, rounded up. -/
def up (s : Int) : Int := if rootI s * rootI s < s then rootI s + 1 else rootI s
theorem up_spec {s : Int} (h : 0 ≤ s) : s ≤ up s * up s ∧ rootI s ≤ up s ∧ up s ≤ rootI s + 1 := by
  obtain ⟨h1, h2⟩ := rootI_spec h
  unfold up
  split
  · exact ⟨by omega, by omega, by omega⟩
  · exact ⟨by omega, by omega, by omega⟩
def S (x y : Int) : Int := x * x + y * y
theorem S_nonneg (x y : Int) : 0 ≤ S x y := by have := sq_nonneg x; have := sq_nonneg y; unfold S; omega
theorem square {ax ay bx b_y : Int} (h1 : -2000000000 ≤ ax - bx) (h2 : ax - bx ≤ 2000000000) (h3 : -2000000000 ≤ ay - b_y) (h4 : ay - b_y ≤ 2000000000) :
    plane_Square.f ax ay bx b_y = some (S (ax - bx) (ay - b_y)) ∧ S (ax - bx) (ay - b_y) ≤ 8000000000000000000 := by
  have q1 := sq_bd h1 h2
  have q2 := sq_bd h3 h4
  have p1 := sq_nonneg (ax - bx)
  have p2 := sq_nonneg (ay - b_y)
  refine ⟨?_, by unfold S; omega⟩
  unfold plane_Square.f plane_Sub.f plane_Dot.f S
  rw [w64 (by omega) (by omega), w64 (by omega) (by omega)]
  simp only [Option.bind_some]
  rw [w64 (x := (ax - bx) * (ax - bx)) (by omega) (by omega), w64 (x := (ay - b_y) * (ay - b_y)) (by omega) (by omega), w64 (by omega) (by omega)]
theorem root_f {s : Int} (h : s ≤ 9223372036854775807) : num_Root.f s = some (rootI s) := by unfold num_Root.f; rw [if_pos h]
theorem root_lt {s : Int} (h0 : 0 ≤ s) (h : s ≤ 8000000000000000000) : rootI s ≤ 3000000000 := by
  obtain ⟨h1, _⟩ := rootI_spec h0
  exact sq_le (by decide) (by omega)
theorem distance {ax ay bx b_y : Int} (h1 : -2000000000 ≤ ax - bx) (h2 : ax - bx ≤ 2000000000) (h3 : -2000000000 ≤ ay - b_y) (h4 : ay - b_y ≤ 2000000000) :
    plane_Distance.f ax ay bx b_y = some (rootI (S (ax - bx) (ay - b_y)), up (S (ax - bx) (ay - b_y))) := by
  obtain ⟨e, hb⟩ := square h1 h2 h3 h4
  have h0 := S_nonneg (ax - bx) (ay - b_y)
  unfold plane_Distance.f
  rw [e]
  generalize S (ax - bx) (ay - b_y) = s at *
  have r0 := rootI_nonneg s
  have r1 := root_lt h0 hb
  have r2 := (rootI_spec h0).1
  have r3 := sq_nonneg (rootI s)
  rw [Option.bind_some, root_f (by omega), Option.bind_some, w64 (by omega) (by omega)]
  unfold up
  split
  · rw [w64 (by omega) (by omega)]
  · rfl
theorem within {ax ay bx b_y d : Int} (h1 : -2000000000 ≤ ax - bx) (h2 : ax - bx ≤ 2000000000) (h3 : -2000000000 ≤ ay - b_y) (h4 : ay - b_y ≤ 2000000000) :
    plane_Within.f ax ay bx b_y d = some (decide (0 ≤ d ∧ d ≤ 8000000 ∧ S (ax - bx) (ay - b_y) ≤ d * d)) := by
  obtain ⟨e, hb⟩ := square h1 h2 h3 h4
  unfold plane_Within.f
  by_cases c1 : d ≥ 0
  · rw [if_pos c1]
    by_cases c2 : d ≤ 8000000
    · have q := sq_bd (show -8000000 ≤ d by omega) c2
      have q2 := sq_nonneg d
      rw [if_pos c2, e, Option.bind_some, w64 (by omega) (by omega)]
      congr 1
      exact decide_eq_decide.2 ⟨fun h => ⟨c1, c2, h⟩, fun h => h.2.2⟩
    · rw [if_neg c2]
      congr 1
      exact (decide_eq_false (fun h => c2 h.2.1)).symm
  · rw [if_neg c1]
    congr 1
    exact (decide_eq_false (fun h => c1 h.1)).symm
theorem pworks : skywaykeep1_planeWorks.f = some true := by
  unfold skywaykeep1_planeWorks.f
  have e : rootI (S (0 - 3) (0 - 5)) = 5 := rootI_eq (by decide) (by decide) (by decide)
  rw [distance (by decide) (by decide) (by decide) (by decide), within (by decide) (by decide) (by decide) (by decide), within (by decide) (by decide) (by decide) (by decide)]
  unfold up
  rw [e]
  decide
/-- A permitted coordinate. -/
def Ok (x y : Int) : Prop := -1000000 ≤ x ∧ x ≤ 1000000 ∧ -1000000 ≤ y ∧ y ≤ 1000000
instance (x y : Int) : Decidable (Ok x y) := inferInstanceAs (Decidable (_ ∧ _))
theorem good_f (x y : Int) : skywayref1_Good.f x y = some (decide (Ok x y)) := by
  unfold skywayref1_Good.f
  by_cases c1 : x ≥ -1000000
  · rw [if_pos c1]
    by_cases c2 : x ≤ 1000000
    · rw [if_pos c2]
      by_cases c3 : y ≥ -1000000
      · rw [if_pos c3]; congr 1; exact decide_eq_decide.2 ⟨fun h => ⟨c1, c2, c3, h⟩, fun h => h.2.2.2⟩
      · rw [if_neg c3]; congr 1; exact (decide_eq_false (fun h : Ok x y => c3 h.2.2.1)).symm
    · rw [if_neg c2]; congr 1; exact (decide_eq_false (fun h : Ok x y => c2 h.2.1)).symm
  · rw [if_neg c1]; congr 1; exact (decide_eq_false (fun h : Ok x y => c1 h.1)).symm
def okB (p : S37) : Bool := decide (Ok p.f0 p.f1)
theorem near_l0 (l : List S37) (hl : l.length ≤ 9000000000000000000) : ∀ (d k i : Nat), i + d = l.length → d < k → skywaykeep1_near.l0 k l (l.length : Int) (i : Int) = some ((l.drop i).all okB)
  | 0, k, i, hi, hk => by
    obtain ⟨k, rfl⟩ : ∃ m, k = m + 1 := ⟨k - 1, by omega⟩
    rw [skywaykeep1_near.l0, if_neg (by omega), List.drop_of_length_le (by omega)]
    rfl
  | d + 1, k, i, hi, hk => by
    obtain ⟨k, rfl⟩ : ∃ m, k = m + 1 := ⟨k - 1, by omega⟩
    have hlt : i < l.length := by omega
    rw [skywaykeep1_near.l0, if_pos (by omega), if_pos (by omega), if_pos (by omega), good_f, Option.bind_some]
    have e : rd_T37 l (i : Int) = l[i] := by unfold rd_T37; rw [Int.toNat_natCast, List.getD_eq_getElem?_getD, List.getElem?_eq_getElem hlt]; rfl
    rw [e, List.drop_eq_getElem_cons hlt, List.all_cons]
    have ih := near_l0 l hl d k (i + 1) (by omega) (by omega)
    by_cases c : Ok l[i].f0 l[i].f1
    · have c' : okB l[i] = true := decide_eq_true c
      rw [decide_eq_true c, if_pos rfl, w64 (by omega) (by omega), show ((i : Int) + 1) = ((i + 1 : Nat) : Int) by omega, ih, c', Bool.true_and]
    · have c' : okB l[i] = false := decide_eq_false c
      rw [decide_eq_false c, if_neg (by decide), c', Bool.false_and]
theorem near_f (l : List S37) (k : Nat) (hk : l.length < k) (hl : l.length ≤ 9000000000000000000) : skywaykeep1_near.f k l = some (l.all okB) := by
  unfold skywaykeep1_near.f
  rw [show (0 : Int) = ((0 : Nat) : Int) from rfl, near_l0 l hl l.length k 0 (by omega) hk, List.drop_zero]
theorem down (k : Nat) (a b : Int) (a1 : -9223372036854775808 ≤ a) (a2 : a ≤ 9223372036854775807) (hb : b ≠ 0) (hno : ¬ (a = -9223372036854775808 ∧ b = -1)) : num_DivDown.f (k + 1) a b = some (Int.fdiv a b, 0) := by
  obtain ⟨r1, r2⟩ := fdiv_range a1 a2 hb hno
  have hf := tdiv_floor a b hb
  have main : num_DivDown.j0 (k + 1) a b false = some (Int.fdiv a b, 0) := by
    rw [num_DivDown.j0, if_neg (by decide), if_neg hb]
    by_cases h0 : Int.tmod a b = 0
    · rw [if_pos h0] at hf ⊢
      rw [hf, w64 r1 r2]
    · rw [if_neg h0] at hf ⊢
      by_cases hs : ((decide (a < 0)) != (decide (b < 0))) = true
      · rw [if_pos hs] at hf ⊢
        have ht : -9223372036854775808 ≤ Int.tdiv a b ∧ Int.tdiv a b ≤ 9223372036854775807 := by
          refine ⟨by omega, ?_⟩
          have h1 := Int.tdiv_nonpos_of_nonneg_of_nonpos (a := a) (b := b)
          by_cases ha : a < 0
          · have hb' : 0 < b := by
              simp [ha] at hs
              omega
            have h2 : Int.tdiv a b ≤ 0 := by
              have := Int.tdiv_nonneg (a := -a) (b := b) (by omega) (by omega)
              rw [Int.neg_tdiv] at this
              omega
            omega
          · have hb' : b < 0 := by
              simp [ha] at hs
              exact hs
            have := h1 (by omega) (by omega)
            omega
        rw [w64 ht.1 ht.2, hf, w64 r1 r2]
      · rw [if_neg hs] at hf ⊢
        rw [hf, w64 r1 r2]
  rw [num_DivDown.f, if_neg hb]
  by_cases ha : a = -9223372036854775808
  · rw [if_pos ha]
    have : (b == -1) = false := beq_eq_false_iff_ne.mpr (fun h => hno ⟨ha, h⟩)
    rw [this]
    exact main
  · rw [if_neg ha]
    exact main
theorem down_pos (k : Nat) (a b : Int) (a1 : -9223372036854775808 ≤ a) (a2 : a ≤ 9223372036854775807) (hb : 0 < b) : num_DivDown.f (k + 1) a b = some (a / b, 0) := by
  rw [down k a b a1 a2 (by omega) (by omega), fdiv_pos hb]
theorem check_f (x y : Int) : plane_Check.f x y = some (if Ok x y then 0 else 4) := by
  unfold plane_Check.f
  by_cases c : Ok x y
  · rw [if_pos c]
    obtain ⟨c1, c2, c3, c4⟩ := c
    rw [if_neg (by omega), if_neg (by omega), if_neg (by omega), if_neg (by omega)]
  · rw [if_neg c]
    by_cases c1 : x < -1000000
    · rw [if_pos c1]
    · rw [if_neg c1]
      by_cases c2 : x > 1000000
      · rw [if_pos c2]
      · rw [if_neg c2]
        by_cases c3 : y < -1000000
        · rw [if_pos c3]
        · rw [if_neg c3, if_pos (by
            rcases Int.lt_or_le 1000000 y with h | h
            · exact h
            · exact absurd (show Ok x y from ⟨by omega, by omega, by omega, h⟩) c)]
theorem toward_bad (k : Nat) {ax ay bx b_y n d : Int} (h0 : 0 < d) (h1 : d ≤ 200000) (h2 : 0 ≤ n) (h3 : n ≤ d) (h : ¬ (Ok ax ay ∧ Ok bx b_y)) : plane_Toward.f (k + 2) ax ay bx b_y n d = some (0, 0, 4) := by
  unfold plane_Toward.f
  rw [if_neg (by omega), if_neg (by omega), if_neg (by omega), if_neg (by omega), check_f, check_f, Option.bind_some, Option.bind_some]
  by_cases ha : Ok ax ay
  · have hb : ¬ Ok bx b_y := fun hb => h ⟨ha, hb⟩
    rw [if_pos ha, if_neg hb, if_pos rfl, plane_Toward.j0, if_pos (by decide)]
  · rw [if_neg ha, if_neg (by decide), plane_Toward.j0, if_pos rfl]
theorem lin_bd {D n d : Int} (h0 : 0 < d) (h1 : d ≤ 200000) (h2 : 0 ≤ n) (h3 : n ≤ d) (h4 : -2000000 ≤ D) (h5 : D ≤ 2000000) :
    -400000000000 ≤ D * n ∧ D * n ≤ 400000000000 ∧ -2000000 ≤ D * n / d ∧ D * n / d ≤ 2000000 := by
  have m := mul_bd h4 h5 (show -200000 ≤ n by omega) (show n ≤ 200000 by omega)
  refine ⟨by omega, by omega, (Int.le_ediv_iff_mul_le h0).2 ?_, ?_⟩
  · have h6 := Int.mul_le_mul_of_nonneg_left h3 (show (0 : Int) ≤ 2000000 by decide)
    have h7 := Int.mul_nonneg (show 0 ≤ D + 2000000 by omega) h2
    rw [Int.add_mul] at h7
    omega
  · have : D * n / d < 2000001 := by
      refine (Int.ediv_lt_iff_lt_mul h0).2 ?_
      have h6 := Int.mul_le_mul_of_nonneg_left h3 (show (0 : Int) ≤ 2000000 by decide)
      have h7 := Int.mul_nonneg (show 0 ≤ 2000000 - D by omega) h2
      rw [Int.sub_mul] at h7
      omega
    omega
theorem toward (k : Nat) {ax ay bx b_y n d : Int} (h0 : 0 < d) (h1 : d ≤ 200000) (h2 : 0 ≤ n) (h3 : n ≤ d) (ha : Ok ax ay) (hb : Ok bx b_y) :
    plane_Toward.f (k + 2) ax ay bx b_y n d = some (ax + (bx - ax) * n / d, ay + (b_y - ay) * n / d, 0) := by
  obtain ⟨a1, a2, a3, a4⟩ := id ha
  obtain ⟨b1, b2, b3, b4⟩ := id hb
  obtain ⟨m1, m2, m3, m4⟩ := lin_bd h0 h1 h2 h3 (show -2000000 ≤ bx - ax by omega) (show bx - ax ≤ 2000000 by omega)
  obtain ⟨n1, n2, n3, n4⟩ := lin_bd h0 h1 h2 h3 (show -2000000 ≤ b_y - ay by omega) (show b_y - ay ≤ 2000000 by omega)
  unfold plane_Toward.f
  rw [if_neg (by omega), if_neg (by omega), if_neg (by omega), if_neg (by omega), check_f, check_f, Option.bind_some, Option.bind_some, if_pos ha, if_pos hb, if_pos rfl, plane_Toward.j0, if_neg (by decide)]
  rw [w64 (x := bx - ax) (by omega) (by omega), w64 (x := b_y - ay) (by omega) (by omega), w64 (x := (bx - ax) * n) (by omega) (by omega), w64 (x := (b_y - ay) * n) (by omega) (by omega)]
  rw [down_pos k _ d (by omega) (by omega) h0, down_pos k _ d (by omega) (by omega) h0, Option.bind_some, Option.bind_some, w64 (by omega) (by omega), w64 (by omega) (by omega)]
theorem way {x y n d fx fy W P : Int} (hd : 0 < d) (hn0 : 0 ≤ n) (hn : n ≤ d) (hx : fx = x * n / d) (hy : fy = y * n / d) (hW0 : 0 ≤ W) (hP0 : 0 ≤ P)
    (w1 : W * W ≤ S x y) (w2 : S x y < (W + 1) * (W + 1)) (p1 : P * P ≤ S fx fy) (p2 : S fx fy < (P + 1) * (P + 1)) :
    W * n / d - 4 ≤ P ∧ P ≤ W * n / d + 4 := by
  obtain ⟨ex, hex⟩ : ∃ ex, ex = x * n - fx * d := ⟨_, rfl⟩
  obtain ⟨ey, hey⟩ : ∃ ey, ey = y * n - fy * d := ⟨_, rfl⟩
  have bx1 : 0 ≤ ex ∧ ex ≤ d := by
    have := floor_le (a := x * n) hd
    have := lt_floor (a := x * n) hd
    rw [← hx] at *
    rw [Int.add_mul] at *
    omega
  have by1 : 0 ≤ ey ∧ ey ≤ d := by
    have := floor_le (a := y * n) hd
    have := lt_floor (a := y * n) hd
    rw [← hy] at *
    rw [Int.add_mul] at *
    omega
  have he : ex * ex + ey * ey ≤ (2 * d) * (2 * d) := by
    have h1 := sq_bd (show -d ≤ ex by omega) bx1.2
    have h2 := sq_bd (show -d ≤ ey by omega) by1.2
    have h3 := sq_nonneg d
    have e : (2 * d) * (2 * d) = 4 * (d * d) := by grind
    omega
  have he2 : (-ex) * (-ex) + (-ey) * (-ey) ≤ (2 * d) * (2 * d) := by
    have e1 : (-ex) * (-ex) = ex * ex := by grind
    have e2 : (-ey) * (-ey) = ey * ey := by grind
    omega
  have g1 := floor_le (a := W * n) hd
  have g2 := lt_floor (a := W * n) hd
  have hxn : x * n + -ex = fx * d := by omega
  have hyn : y * n + -ey = fy * d := by omega
  have hxn2 : fx * d + ex = x * n := by omega
  have hyn2 : fy * d + ey = y * n := by omega
  generalize W * n / d = E at *
  clear hx hy hex hey
  have nn := Int.mul_nonneg hn0 hn0
  have dd := Int.mul_nonneg (Int.le_of_lt hd) (Int.le_of_lt hd)
  constructor
  · -- n D = d f + e
    have t := tri (p1 := fx * d) (p2 := fy * d) (q1 := ex) (q2 := ey) (A := (P + 1) * d) (B := 2 * d) (Int.mul_nonneg (by omega) (by omega)) (by omega) (by
      have h1 := Int.mul_le_mul_of_nonneg_right (Int.le_of_lt p2) dd
      have e1 : (P + 1) * d * ((P + 1) * d) = (P + 1) * (P + 1) * (d * d) := by grind
      have e2 : fx * d * (fx * d) + fy * d * (fy * d) = S fx fy * (d * d) := by unfold S; grind
      omega) he
    rw [hxn2, hyn2] at t
    have hw : W * n ≤ (P + 1) * d + 2 * d := by
      refine sq_le (by have := Int.mul_nonneg (show 0 ≤ P + 1 by omega) (Int.le_of_lt hd); omega) ?_
      have h1 := Int.mul_le_mul_of_nonneg_right w1 nn
      have e1 : W * n * (W * n) = W * W * (n * n) := by grind
      have e2 : x * n * (x * n) + y * n * (y * n) = S x y * (n * n) := by unfold S; grind
      omega
    have h4 : E * d ≤ (P + 3) * d := by
      have e : (P + 1) * d + 2 * d = (P + 3) * d := by grind
      omega
    have := Int.le_of_mul_le_mul_right h4 hd
    omega
  · have t := tri (p1 := x * n) (p2 := y * n) (q1 := -ex) (q2 := -ey) (A := (W + 1) * n) (B := 2 * d) (Int.mul_nonneg (by omega) (by omega)) (by omega) (by
      have h1 := Int.mul_le_mul_of_nonneg_right (Int.le_of_lt w2) nn
      have e1 : (W + 1) * n * ((W + 1) * n) = (W + 1) * (W + 1) * (n * n) := by grind
      have e2 : x * n * (x * n) + y * n * (y * n) = S x y * (n * n) := by unfold S; grind
      omega) he2
    rw [hxn, hyn] at t
    have hp : P * d ≤ (W + 1) * n + 2 * d := by
      refine sq_le (by have := Int.mul_nonneg (show 0 ≤ W + 1 by omega) hn0; omega) ?_
      have h1 := Int.mul_le_mul_of_nonneg_right p1 dd
      have e1 : P * d * (P * d) = P * P * (d * d) := by grind
      have e2 : fx * d * (fx * d) + fy * d * (fy * d) = S fx fy * (d * d) := by unfold S; grind
      omega
    have h4 : P * d < (E + 4) * d := by
      have e : (W + 1) * n = W * n + n := by grind
      have e2 : (E + 4) * d = (E + 1) * d + 3 * d := by grind
      omega
    have := Int.lt_of_mul_lt_mul_right h4 (Int.le_of_lt hd)
    omega
theorem S_neg (x y : Int) : S (-x) (-y) = S x y := by unfold S; grind
theorem PlaneWay : skywaykeep1_PlaneWay.Pure := by
  intro ax ay bx b_y n0 d0 _ _ _ _ _ _
  refine ⟨4, ?_⟩
  unfold skywaykeep1_PlaneWay.f
  have k1 := tmod_bd d0 (show (0 : Int) < 1000 by decide)
  rw [w64 (x := Int.tmod d0 1000 + 1000) (by omega) (by omega), Int.tmod_eq_emod_of_nonneg (show 0 ≤ Int.tmod d0 1000 + 1000 by omega)]
  rw [w64 (x := 1 + (Int.tmod d0 1000 + 1000) % 1000) (by omega) (by omega)]
  obtain ⟨d, hd⟩ : ∃ d, d = 1 + (Int.tmod d0 1000 + 1000) % 1000 := ⟨_, rfl⟩
  rw [← hd]
  have d1 : 1 ≤ d := by omega
  have d2 : d ≤ 1000 := by omega
  clear hd k1
  rw [w64 (x := d + 1) (by omega) (by omega)]
  have k2 := tmod_bd n0 (show (0 : Int) < d + 1 by omega)
  rw [w64 (x := Int.tmod n0 (d + 1) + d) (by omega) (by omega), w64 (x := Int.tmod n0 (d + 1) + d + 1) (by omega) (by omega), Int.tmod_eq_emod_of_nonneg (show 0 ≤ Int.tmod n0 (d + 1) + d + 1 by omega)]
  have k3 := Int.emod_nonneg (Int.tmod n0 (d + 1) + d + 1) (show d + 1 ≠ 0 by omega)
  have k4 := Int.emod_lt_of_pos (Int.tmod n0 (d + 1) + d + 1) (show 0 < d + 1 by omega)
  generalize (Int.tmod n0 (d + 1) + d + 1) % (d + 1) = n at *
  clear k2
  rw [pworks, Option.bind_some, if_pos rfl, if_neg (by omega)]
  by_cases hok : Ok ax ay ∧ Ok bx b_y
  · obtain ⟨ha, hb⟩ := hok
    rw [toward 2 (by omega) (by omega) k3 (by omega) ha hb, Option.bind_some, if_pos rfl, toward 2 (by omega) (by omega) (Int.le_refl 0) (by omega) ha hb, toward 2 (by omega) (by omega) (by omega) (Int.le_refl d) ha hb]
    obtain ⟨a1, a2, a3, a4⟩ := ha
    obtain ⟨b1, b2, b3, b4⟩ := hb
    have lx := lin_bd (show 0 < d by omega) (by omega) k3 (by omega) (show -2000000 ≤ bx - ax by omega) (show bx - ax ≤ 2000000 by omega)
    have ly := lin_bd (show 0 < d by omega) (by omega) k3 (by omega) (show -2000000 ≤ b_y - ay by omega) (show b_y - ay ≤ 2000000 by omega)
    dsimp only
    rw [distance (ax := ax) (ay := ay) (bx := bx) (b_y := b_y) (by omega) (by omega) (by omega) (by omega), distance (by omega) (by omega) (by omega) (by omega), Option.bind_some, Option.bind_some, if_neg (by omega), Option.bind_some, Option.bind_some]
    dsimp only
    rw [show ax - bx = -(bx - ax) by omega, show ay - b_y = -(b_y - ay) by omega, S_neg, show ax - (ax + (bx - ax) * n / d) = -((bx - ax) * n / d) by omega, show ay - (ay + (b_y - ay) * n / d) = -((b_y - ay) * n / d) by omega, S_neg]
    have hs0 := S_nonneg (bx - ax) (b_y - ay)
    have hp0 := S_nonneg ((bx - ax) * n / d) ((b_y - ay) * n / d)
    obtain ⟨w1, w2⟩ := rootI_spec hs0
    obtain ⟨p1, p2⟩ := rootI_spec hp0
    have hW0 := rootI_nonneg (S (bx - ax) (b_y - ay))
    have hP0 := rootI_nonneg (S ((bx - ax) * n / d) ((b_y - ay) * n / d))
    have hw := way (show 0 < d by omega) k3 (by omega) rfl rfl hW0 hP0 w1 w2 p1 p2
    have hW : rootI (S (bx - ax) (b_y - ay)) ≤ 4000000 := by
      refine sq_le (by decide) ?_
      have := sq_bd (show -2000000 ≤ bx - ax by omega) (show bx - ax ≤ 2000000 by omega)
      have := sq_bd (show -2000000 ≤ b_y - ay by omega) (show b_y - ay ≤ 2000000 by omega)
      have : S (bx - ax) (b_y - ay) ≤ 8000000000000 := by unfold S; omega
      omega
    have hP : rootI (S ((bx - ax) * n / d) ((b_y - ay) * n / d)) ≤ 4000000 := by
      refine sq_le (by decide) ?_
      have := sq_bd lx.2.2.1 lx.2.2.2
      have := sq_bd ly.2.2.1 ly.2.2.2
      have : S ((bx - ax) * n / d) ((b_y - ay) * n / d) ≤ 8000000000000 := by unfold S; omega
      omega
    have e1 : (bx - ax) * 0 / d = 0 := by rw [Int.mul_zero, Int.zero_ediv]
    have e2 : (b_y - ay) * 0 / d = 0 := by rw [Int.mul_zero, Int.zero_ediv]
    have e3 : (bx - ax) * d / d = bx - ax := Int.mul_ediv_cancel _ (by omega)
    have e4 : (b_y - ay) * d / d = b_y - ay := Int.mul_ediv_cancel _ (by omega)
    rw [e1, e2, e3, e4]
    clear w1 w2 p1 p2
    generalize rootI (S (bx - ax) (b_y - ay)) = W at *
    generalize rootI (S ((bx - ax) * n / d) ((b_y - ay) * n / d)) = P at *
    have m := mul_bd (show -4000000 ≤ W by omega) hW (show -1000 ≤ n by omega) (show n ≤ 1000 by omega)
    rw [w64 (x := W * n) (by omega) (by omega), Int.tdiv_eq_ediv_of_nonneg (Int.mul_nonneg hW0 k3)]
    rw [w64 (x := W * n / d) (by omega) (by omega), w64 (x := W * n / d - 4) (by omega) (by omega), w64 (x := W * n / d + 4) (by omega) (by omega), if_pos hw.1, if_pos hw.2]
    rw [show ax + (bx - ax) = bx by omega, show ay + (b_y - ay) = b_y by omega, Int.add_zero, Int.add_zero]
    simp
  · rw [toward_bad 2 (by omega) (by omega) k3 (by omega) hok, Option.bind_some, if_neg (by decide), near_f _ 4 (by simp) (by simp), Option.bind_some]
    have e0 : [(⟨ax, ay⟩ : S37), ⟨bx, b_y⟩].all okB = false := by
      rw [Bool.eq_false_iff]
      intro h
      apply hok
      simpa [okB] using h
    rw [e0]
    rfl
end Go.Proofs.Ytaahnfajcbkknaa.Pure
