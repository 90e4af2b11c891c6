/- ProbeSafe: for all nodes, separations and points, points of separated nodes are separated. -/
import Derived.Test.YteaddpieonkboabPProbeSafex
import Derived.Test.YteaddpieonkboabMath
namespace Go.Proofs.Yteaddpieonkboab.Pure
open Go Go.RowKit Go.Proofs.Yteaddpieonkboab.PProbeSafe Go.Proofs.YteaddpieonkboabW.PrintWords Go.Proofs.YteaddpieonkboabW.PrintLast Go.Proofs.YteaddpieonkboabM

/-- A permitted coordinate. -/
def Ok (x y : Int) : Prop := -1000000 ≤ x ∧ x ≤ 1000000 ∧ -1000000 ≤ y ∧ y ≤ 1000000
instance (x y : Int) : Decidable (Ok x y) := inferInstanceAs (Decidable (_ ∧ _))
open RootF
/-- The distance, rounded up. -/
def up (s : Int) : Int := if rootI s * rootI s < s then rootI s + 1 else rootI s
theorem up_spec {s : Int} (h : 0 ≤ s) : s ≤ up s * up s ∧ rootI s ≤ up s ∧ up s ≤ rootI s + 1 := by
  obtain ⟨h1, h2⟩ := rootI_spec h
  unfold up
  split
  · exact ⟨by omega, by omega, by omega⟩
  · exact ⟨by omega, by omega, by omega⟩
def S (x y : Int) : Int := x * x + y * y
theorem S_nonneg (x y : Int) : 0 ≤ S x y := by have := sq_nonneg x; have := sq_nonneg y; unfold S; omega
theorem square {ax ay bx b_y : Int} (h1 : -2000000000 ≤ ax - bx) (h2 : ax - bx ≤ 2000000000) (h3 : -2000000000 ≤ ay - b_y) (h4 : ay - b_y ≤ 2000000000) :
    plane_Square.f ax ay bx b_y = some (S (ax - bx) (ay - b_y)) ∧ S (ax - bx) (ay - b_y) ≤ 8000000000000000000 := by
  have q1 := sq_bd h1 h2
  have q2 := sq_bd h3 h4
  have p1 := sq_nonneg (ax - bx)
  have p2 := sq_nonneg (ay - b_y)
  refine ⟨?_, by unfold S; omega⟩
  unfold plane_Square.f plane_Sub.f plane_Dot.f S
  rw [w64 (by omega) (by omega), w64 (by omega) (by omega)]
  simp only [Option.bind_some]
  rw [w64 (x := (ax - bx) * (ax - bx)) (by omega) (by omega), w64 (x := (ay - b_y) * (ay - b_y)) (by omega) (by omega), w64 (by omega) (by omega)]
theorem root_f {s : Int} (h : s ≤ 9223372036854775807) : num_Root.f s = some (rootI s) := by unfold num_Root.f; rw [if_pos h]
theorem root_lt {s : Int} (h0 : 0 ≤ s) (h : s ≤ 8000000000000000000) : rootI s ≤ 3000000000 := by
  obtain ⟨h1, _⟩ := rootI_spec h0
  exact sq_le (by decide) (by omega)
theorem distance {ax ay bx b_y : Int} (h1 : -2000000000 ≤ ax - bx) (h2 : ax - bx ≤ 2000000000) (h3 : -2000000000 ≤ ay - b_y) (h4 : ay - b_y ≤ 2000000000) :
    plane_Distance.f ax ay bx b_y = some (rootI (S (ax - bx) (ay - b_y)), up (S (ax - bx) (ay - b_y))) := by
  obtain ⟨e, hb⟩ := square h1 h2 h3 h4
  have h0 := S_nonneg (ax - bx) (ay - b_y)
  unfold plane_Distance.f
  rw [e]
  generalize S (ax - bx) (ay - b_y) = s at *
  have r0 := rootI_nonneg s
  have r1 := root_lt h0 hb
  have r2 := (rootI_spec h0).1
  have r3 := sq_nonneg (rootI s)
  rw [Option.bind_some, root_f (by omega), Option.bind_some, w64 (by omega) (by omega)]
  unfold up
  split
  · rw [w64 (by omega) (by omega)]
  · rfl
theorem within {ax ay bx b_y d : Int} (h1 : -2000000000 ≤ ax - bx) (h2 : ax - bx ≤ 2000000000) (h3 : -2000000000 ≤ ay - b_y) (h4 : ay - b_y ≤ 2000000000) :
    plane_Within.f ax ay bx b_y d = some (decide (0 ≤ d ∧ d ≤ 8000000 ∧ S (ax - bx) (ay - b_y) ≤ d * d)) := by
  obtain ⟨e, hb⟩ := square h1 h2 h3 h4
  unfold plane_Within.f
  by_cases c1 : d ≥ 0
  · rw [if_pos c1]
    by_cases c2 : d ≤ 8000000
    · have q := sq_bd (show -8000000 ≤ d by omega) c2
      have q2 := sq_nonneg d
      rw [if_pos c2, e, Option.bind_some, w64 (by omega) (by omega)]
      congr 1
      exact decide_eq_decide.2 ⟨fun h => ⟨c1, c2, h⟩, fun h => h.2.2⟩
    · rw [if_neg c2]
      congr 1
      exact (decide_eq_false (fun h => c2 h.2.1)).symm
  · rw [if_neg c1]
    congr 1
    exact (decide_eq_false (fun h => c1 h.1)).symm
theorem down (k : Nat) (a b : Int) (a1 : -9223372036854775808 ≤ a) (a2 : a ≤ 9223372036854775807) (hb : b ≠ 0) (hno : ¬ (a = -9223372036854775808 ∧ b = -1)) : num_DivDown.f (k + 1) a b = some (Int.fdiv a b, 0) := by
  obtain ⟨r1, r2⟩ := fdiv_range a1 a2 hb hno
  have hf := tdiv_floor a b hb
  have main : num_DivDown.j0 (k + 1) a b false = some (Int.fdiv a b, 0) := by
    rw [num_DivDown.j0, if_neg (by decide), if_neg hb]
    by_cases h0 : Int.tmod a b = 0
    · rw [if_pos h0] at hf ⊢
      rw [hf, w64 r1 r2]
    · rw [if_neg h0] at hf ⊢
      by_cases hs : ((decide (a < 0)) != (decide (b < 0))) = true
      · rw [if_pos hs] at hf ⊢
        have ht : -9223372036854775808 ≤ Int.tdiv a b ∧ Int.tdiv a b ≤ 9223372036854775807 := by
          refine ⟨by omega, ?_⟩
          have h1 := Int.tdiv_nonpos_of_nonneg_of_nonpos (a := a) (b := b)
          by_cases ha : a < 0
          · have hb' : 0 < b := by
              simp [ha] at hs
              omega
            have h2 : Int.tdiv a b ≤ 0 := by
              have := Int.tdiv_nonneg (a := -a) (b := b) (by omega) (by omega)
              rw [Int.neg_tdiv] at this
              omega
            omega
          · have hb' : b < 0 := by
              simp [ha] at hs
              exact hs
            have := h1 (by omega) (by omega)
            omega
        rw [w64 ht.1 ht.2, hf, w64 r1 r2]
      · rw [if_neg hs] at hf ⊢
        rw [hf, w64 r1 r2]
  rw [num_DivDown.f, if_neg hb]
  by_cases ha : a = -9223372036854775808
  · rw [if_pos ha]
    have : (b == -1) = false := beq_eq_false_iff_ne.mpr (fun h => hno ⟨ha, h⟩)
    rw [this]
    exact main
  · rw [if_neg ha]
    exact main
theorem down_pos (k : Nat) (a b : Int) (a1 : -9223372036854775808 ≤ a) (a2 : a ≤ 9223372036854775807) (hb : 0 < b) : num_DivDown.f (k + 1) a b = some (a / b, 0) := by
  rw [down k a b a1 a2 (by omega) (by omega), fdiv_pos hb]
theorem dup (k : Nat) (a b : Int) (a1 : -9223372036854775808 ≤ a) (a2 : a ≤ 9223372036854775807) (hb : b ≠ 0) (hno : ¬ (a = -9223372036854775808 ∧ b = -1)) : num_DivUp.f (k + 1) a b = some (if Int.tmod a b = 0 then Int.fdiv a b else Int.fdiv a b + 1, 0) := by
  rw [num_DivUp.f, down k a b a1 a2 hb hno]
  simp only [Option.bind_some, if_true]
  rw [if_neg hb]
  by_cases h0 : Int.tmod a b = 0
  · rw [if_pos h0, if_pos h0]
  · rw [if_neg h0, if_neg h0]
    obtain ⟨r1, r2⟩ := fdiv_range a1 a2 hb hno
    have : Int.fdiv a b < 9223372036854775807 := by
      rcases Int.lt_or_le (Int.fdiv a b) 9223372036854775807 with h | h
      · exact h
      · exfalso
        have e : Int.fdiv a b = 9223372036854775807 := by omega
        have hm := Int.mul_fdiv_add_fmod a b
        rw [e] at hm
        have hn : Int.fmod a b ≠ 0 := fun h => h0 (Int.dvd_iff_tmod_eq_zero.1 (Int.dvd_iff_fmod_eq_zero.2 h))
        rcases Int.lt_or_le 0 b with hp | hp
        · have := Int.fmod_nonneg_of_pos a hp
          have := Int.fmod_lt_of_pos a hp
          omega
        · have h1 := Int.mul_fdiv_add_fmod (-a) (-b)
          rw [Int.neg_fdiv_neg, e] at h1
          have := Int.fmod_nonneg_of_pos (-a) (show 0 < -b by omega)
          have := Int.fmod_lt_of_pos (-a) (show 0 < -b by omega)
          omega
    rw [w64 (by omega) (by omega)]
theorem up_pos (k : Nat) (a b : Int) (a1 : -9223372036854775808 ≤ a) (a2 : a ≤ 9223372036854775807) (hb : 0 < b) : num_DivUp.f (k + 1) a b = some (if a % b = 0 then a / b else a / b + 1, 0) := by
  rw [dup k a b a1 a2 (by omega) (by omega), fdiv_pos hb]
  have : Int.tmod a b = 0 ↔ a % b = 0 := by rw [← Int.dvd_iff_tmod_eq_zero]; exact Int.dvd_iff_emod_eq_zero
  by_cases h : a % b = 0
  · rw [if_pos h, if_pos (this.2 h)]
  · rw [if_neg h, if_neg (fun g => h (this.1 g))]
theorem check_f (x y : Int) : plane_Check.f x y = some (if Ok x y then 0 else 4) := by
  unfold plane_Check.f
  by_cases c : Ok x y
  · rw [if_pos c]
    obtain ⟨c1, c2, c3, c4⟩ := c
    rw [if_neg (by omega), if_neg (by omega), if_neg (by omega), if_neg (by omega)]
  · rw [if_neg c]
    by_cases c1 : x < -1000000
    · rw [if_pos c1]
    · rw [if_neg c1]
      by_cases c2 : x > 1000000
      · rw [if_pos c2]
      · rw [if_neg c2]
        by_cases c3 : y < -1000000
        · rw [if_pos c3]
        · rw [if_neg c3, if_pos (by
            rcases Int.lt_or_le 1000000 y with h | h
            · exact h
            · exact absurd (show Ok x y from ⟨by omega, by omega, by omega, h⟩) c)]
theorem toward_bad (k : Nat) {ax ay bx b_y n d : Int} (h0 : 0 < d) (h1 : d ≤ 200000) (h2 : 0 ≤ n) (h3 : n ≤ d) (h : ¬ (Ok ax ay ∧ Ok bx b_y)) : plane_Toward.f (k + 2) ax ay bx b_y n d = some (0, 0, 4) := by
  unfold plane_Toward.f
  rw [if_neg (by omega), if_neg (by omega), if_neg (by omega), if_neg (by omega), check_f, check_f, Option.bind_some, Option.bind_some]
  by_cases ha : Ok ax ay
  · have hb : ¬ Ok bx b_y := fun hb => h ⟨ha, hb⟩
    rw [if_pos ha, if_neg hb, if_pos rfl, plane_Toward.j0, if_pos (by decide)]
  · rw [if_neg ha, if_neg (by decide), plane_Toward.j0, if_pos rfl]
theorem lin_bd {D n d : Int} (h0 : 0 < d) (h1 : d ≤ 200000) (h2 : 0 ≤ n) (h3 : n ≤ d) (h4 : -2000000 ≤ D) (h5 : D ≤ 2000000) :
    -400000000000 ≤ D * n ∧ D * n ≤ 400000000000 ∧ -2000000 ≤ D * n / d ∧ D * n / d ≤ 2000000 := by
  have m := mul_bd h4 h5 (show -200000 ≤ n by omega) (show n ≤ 200000 by omega)
  refine ⟨by omega, by omega, (Int.le_ediv_iff_mul_le h0).2 ?_, ?_⟩
  · have h6 := Int.mul_le_mul_of_nonneg_left h3 (show (0 : Int) ≤ 2000000 by decide)
    have h7 := Int.mul_nonneg (show 0 ≤ D + 2000000 by omega) h2
    rw [Int.add_mul] at h7
    omega
  · have : D * n / d < 2000001 := by
      refine (Int.ediv_lt_iff_lt_mul h0).2 ?_
      have h6 := Int.mul_le_mul_of_nonneg_left h3 (show (0 : Int) ≤ 2000000 by decide)
      have h7 := Int.mul_nonneg (show 0 ≤ 2000000 - D by omega) h2
      rw [Int.sub_mul] at h7
      omega
    omega
theorem toward (k : Nat) {ax ay bx b_y n d : Int} (h0 : 0 < d) (h1 : d ≤ 200000) (h2 : 0 ≤ n) (h3 : n ≤ d) (ha : Ok ax ay) (hb : Ok bx b_y) :
    plane_Toward.f (k + 2) ax ay bx b_y n d = some (ax + (bx - ax) * n / d, ay + (b_y - ay) * n / d, 0) := by
  obtain ⟨a1, a2, a3, a4⟩ := id ha
  obtain ⟨b1, b2, b3, b4⟩ := id hb
  obtain ⟨m1, m2, m3, m4⟩ := lin_bd h0 h1 h2 h3 (show -2000000 ≤ bx - ax by omega) (show bx - ax ≤ 2000000 by omega)
  obtain ⟨n1, n2, n3, n4⟩ := lin_bd h0 h1 h2 h3 (show -2000000 ≤ b_y - ay by omega) (show b_y - ay ≤ 2000000 by omega)
  unfold plane_Toward.f
  rw [if_neg (by omega), if_neg (by omega), if_neg (by omega), if_neg (by omega), check_f, check_f, Option.bind_some, Option.bind_some, if_pos ha, if_pos hb, if_pos rfl, plane_Toward.j0, if_neg (by decide)]
  rw [w64 (x := bx - ax) (by omega) (by omega), w64 (x := b_y - ay) (by omega) (by omega), w64 (x := (bx - ax) * n) (by omega) (by omega), w64 (x := (b_y - ay) * n) (by omega) (by omega)]
  rw [down_pos k _ d (by omega) (by omega) h0, down_pos k _ d (by omega) (by omega) h0, Option.bind_some, Option.bind_some, w64 (by omega) (by omega), w64 (by omega) (by omega)]
/-- Node i of a tube. -/
def Tn (l : List S30) (i : Nat) : S30 := rd_T30 l (i : Int)
def NodeT (l : List S30) (j : Nat) : Prop :=
  (0 ≤ (Tn l j).f0.f0 ∧ (Tn l j).f0.f0 ≤ 200000) ∧ (0 < j → (Tn l (j - 1)).f0.f0 < (Tn l j).f0.f0) ∧ Ok (Tn l j).f0.f1.f0 (Tn l j).f0.f1.f1 ∧ (0 ≤ (Tn l j).f0.f2 ∧ (Tn l j).f0.f2 ≤ 60000) ∧ (0 ≤ (Tn l j).f1 ∧ (Tn l j).f1 ≤ 1000000) ∧ 0 ≤ (Tn l j).f2 ∧ (Tn l j).f2 ≤ 60000
theorem tcheck_l (l : List S30) (hl : l.length ≤ 64) : ∀ (d k i : Nat), i + d = l.length → 2 * d + 1 ≤ k →
    ∃ e, tube_Check.l0 k l l (l.length : Int) (i : Int) = some e ∧ (e = 0 → ∀ j, i ≤ j → j < l.length → NodeT l j)
  | 0, k, i, hi, hk => by
    obtain ⟨k, rfl⟩ : ∃ m, k = m + 1 := ⟨k - 1, by omega⟩
    rw [tube_Check.l0, if_neg (by omega)]
    exact ⟨0, rfl, fun _ j h1 h2 => by omega⟩
  | d + 1, k, i, hi, hk => by
    obtain ⟨k, rfl⟩ : ∃ m, k = m + 2 := ⟨k - 2, by omega⟩
    have hlt : i < l.length := by omega
    have hN : rd_T30 l (i : Int) = Tn l i := rfl
    obtain ⟨e', ih, ihz⟩ := tcheck_l l hl d k (i + 1) (by omega) (by omega)
    have j1 : ∀ b : Bool, (b = false → 0 ≤ (Tn l i).f0.f0 ∧ (Tn l i).f0.f0 ≤ 200000 ∧ (0 < i → (Tn l (i - 1)).f0.f0 < (Tn l i).f0.f0)) → ∃ e, tube_Check.j1 (k + 1) l l (l.length : Int) (i : Int) b (Tn l i).f0.f0 (Tn l i).f0.f1.f0 (Tn l i).f0.f1.f1 (Tn l i).f0.f2 (Tn l i).f1 (Tn l i).f2 = some e ∧ (e = 0 → ∀ j, i ≤ j → j < l.length → NodeT l j) := by
      intro b hb
      rw [tube_Check.j1]
      cases b with
      | true => rw [if_pos rfl]; exact ⟨12, rfl, fun h => by omega⟩
      | false =>
        obtain ⟨b1, b2, b3⟩ := hb rfl
        rw [if_neg (by decide), check_f, Option.bind_some]
        by_cases hp : Ok (Tn l i).f0.f1.f0 (Tn l i).f0.f1.f1
        · rw [if_pos hp, if_pos rfl]
          by_cases h1 : (Tn l i).f0.f2 < 0
          · rw [if_pos h1]; exact ⟨4, rfl, fun h => by omega⟩
          rw [if_neg h1]
          by_cases h2 : (Tn l i).f0.f2 > 60000
          · rw [if_pos h2]; exact ⟨4, rfl, fun h => by omega⟩
          rw [if_neg h2]
          by_cases h3 : (Tn l i).f1 < 0
          · rw [if_pos h3]; exact ⟨4, rfl, fun h => by omega⟩
          rw [if_neg h3]
          by_cases h4 : (Tn l i).f1 > 1000000
          · rw [if_pos h4]; exact ⟨4, rfl, fun h => by omega⟩
          rw [if_neg h4]
          by_cases h5 : (Tn l i).f2 < 0
          · rw [if_pos h5]; exact ⟨4, rfl, fun h => by omega⟩
          rw [if_neg h5]
          by_cases h6 : (Tn l i).f2 > 60000
          · rw [if_pos h6]; exact ⟨4, rfl, fun h => by omega⟩
          rw [if_neg h6, w64 (by omega) (by omega), show ((i : Int) + 1) = ((i + 1 : Nat) : Int) by omega, ih]
          refine ⟨e', rfl, fun h j g1 g2 => ?_⟩
          by_cases hij : j = i
          · rw [hij]; exact ⟨⟨b1, b2⟩, b3, hp, ⟨by omega, by omega⟩, ⟨by omega, by omega⟩, by omega, by omega⟩
          · exact ihz h j (by omega) g2
        · rw [if_neg hp, if_neg (by decide)]; exact ⟨4, rfl, fun h => by omega⟩
    rw [tube_Check.l0, if_pos (by omega), if_pos (by omega), if_pos (by omega), hN]
    by_cases h1 : (Tn l i).f0.f0 < 0
    · rw [if_pos h1]; exact j1 true (fun h => by cases h)
    · rw [if_neg h1]
      by_cases h2 : (Tn l i).f0.f0 > 200000
      · rw [if_pos h2]; exact j1 true (fun h => by cases h)
      · rw [if_neg h2]
        by_cases h3 : (i : Int) > 0
        · rw [if_pos h3, w64 (by omega) (by omega), if_pos (by omega), if_pos (by omega), show ((i : Int) - 1) = ((i - 1 : Nat) : Int) by omega]
          have hN' : rd_T30 l ((i - 1 : Nat) : Int) = Tn l (i - 1) := rfl
          rw [hN']
          refine j1 _ (fun h => ⟨by omega, by omega, fun _ => ?_⟩)
          have := of_decide_eq_false h
          omega
        · rw [if_neg h3]
          exact j1 false (fun _ => ⟨by omega, by omega, fun h => by omega⟩)
/-- A valid tube. -/
def TubeOk (l : List S30) : Prop := 0 < l.length ∧ l.length ≤ 64 ∧ ∀ j, j < l.length → NodeT l j
theorem tcheck (l : List S30) : ∃ e, (∀ k, 130 ≤ k → tube_Check.f k l = some e) ∧ (e = 0 → TubeOk l) := by
  have main : ∃ e, tube_Check.f 130 l = some e ∧ (e = 0 → TubeOk l) := by
    unfold tube_Check.f
    by_cases h1 : (l.length : Int) > 64
    · rw [if_pos h1]; exact ⟨2, rfl, fun h => by omega⟩
    · rw [if_neg h1]
      by_cases h2 : (l.length : Int) = 0
      · rw [if_pos h2]; exact ⟨3, rfl, fun h => by omega⟩
      · rw [if_neg h2]
        obtain ⟨e, he, hz⟩ := tcheck_l l (by omega) l.length 130 0 (by omega) (by omega)
        exact ⟨e, he, fun h => ⟨by omega, by omega, fun j hj => hz h j (by omega) hj⟩⟩
  obtain ⟨e, he, hz⟩ := main
  exact ⟨e, fun k hk => at_rounds (fun k => tube_Check.mono l k) hk he, hz⟩
theorem ttimes {l : List S30} (h : TubeOk l) : ∀ (d i : Nat), i + d + 1 < l.length → (Tn l i).f0.f0 < (Tn l (i + d + 1)).f0.f0
  | 0, i, hd => by have := (h.2.2 (i + 1) hd).2.1 (by omega); exact this
  | d + 1, i, hd => by
    have h1 := ttimes h d i (by omega)
    have h2 := (h.2.2 (i + d + 2) (by omega)).2.1 (by omega)
    have e : i + d + 2 - 1 = i + d + 1 := by omega
    rw [e] at h2
    have e2 : i + (d + 1) + 1 = i + d + 2 := by omega
    rw [e2]
    omega
theorem ttimes_lt {l : List S30} (h : TubeOk l) {i j : Nat} (hij : i < j) (hj : j < l.length) : (Tn l i).f0.f0 < (Tn l j).f0.f0 := by
  have := ttimes h (j - i - 1) i (by omega)
  have e : i + (j - i - 1) + 1 = j := by omega
  rw [e] at this
  exact this
/-- The place of a time in a tube. -/
def AtT (l : List S30) (t : Int) (j : Nat) : Prop := j < l.length ∧ (Tn l j).f0.f0 ≤ t ∧ (j + 1 < l.length → t < (Tn l (j + 1)).f0.f0)
theorem AtT.same {l : List S30} (h : TubeOk l) {t : Int} {i j : Nat} (hi : AtT l t i) (hj : AtT l t j) : i = j := by
  obtain ⟨i1, i2, i3⟩ := hi
  obtain ⟨j1, j2, j3⟩ := hj
  rcases Nat.lt_trichotomy i j with g | g | g
  · have := i3 (by omega)
    rcases Nat.lt_or_ge (i + 1) j with g2 | g2
    · have := ttimes_lt h g2 j1; omega
    · have : j = i + 1 := by omega
      subst this; omega
  · exact g
  · have := j3 (by omega)
    rcases Nat.lt_or_ge (j + 1) i with g2 | g2
    · have := ttimes_lt h g2 i1; omega
    · have : i = j + 1 := by omega
      subst this; omega
theorem at_l {l : List S30} (h : TubeOk l) (t : Int) : ∀ (d k i : Nat), i + d + 1 = l.length → d + 1 ≤ k → (Tn l i).f0.f0 ≤ t →
    ∃ j m, AtT l t j ∧ k ≤ m + d + 1 ∧ tube_at.l0 k l t (i : Int) = tube_at.j2 m l t (j : Int)
  | 0, k, i, hi, hk, ht => by
    obtain ⟨k, rfl⟩ : ∃ m, k = m + 1 := ⟨k - 1, by omega⟩
    have hl := h.2.1
    rw [tube_at.l0, w64 (by omega) (by omega), if_neg (by omega)]
    exact ⟨i, k, ⟨by omega, ht, fun _ => by omega⟩, by omega, rfl⟩
  | d + 1, k, i, hi, hk, ht => by
    obtain ⟨k, rfl⟩ : ∃ m, k = m + 1 := ⟨k - 1, by omega⟩
    have hl := h.2.1
    rw [tube_at.l0, w64 (by omega) (by omega), if_pos (by omega), if_pos (by omega), show ((i : Int) + 1) = ((i + 1 : Nat) : Int) by omega]
    have hN : rd_T30 l ((i + 1 : Nat) : Int) = Tn l (i + 1) := rfl
    rw [hN]
    by_cases c : (Tn l (i + 1)).f0.f0 ≤ t
    · rw [if_pos c]
      obtain ⟨j, m, h1, h5, h6⟩ := at_l h t d k (i + 1) (by omega) (by omega) c
      exact ⟨j, m, h1, by omega, h6⟩
    · rw [if_neg c]
      exact ⟨i, k, ⟨by omega, ht, fun _ => by omega⟩, by omega, rfl⟩
def lin (a b n d : Int) : Int := a + (b - a) * n / d
def linUp (a b n d : Int) : Int := a + (if (b - a) * n % d = 0 then (b - a) * n / d else (b - a) * n / d + 1)
theorem between_f (k : Nat) {a b n d : Int} (h0 : 0 < d) (h1 : d ≤ 200000) (h2 : 0 ≤ n) (h3 : n ≤ d) (a1 : 0 ≤ a) (a2 : a ≤ 1000000) (b1 : 0 ≤ b) (b2 : b ≤ 1000000) : tube_between.f (k + 1) a b n d = some (lin a b n d) := by
  obtain ⟨m1, m2, m3, m4⟩ := lin_bd h0 h1 h2 h3 (show -2000000 ≤ b - a by omega) (show b - a ≤ 2000000 by omega)
  unfold tube_between.f lin
  rw [w64 (x := b - a) (by omega) (by omega), w64 (x := (b - a) * n) (by omega) (by omega), down_pos k _ d (by omega) (by omega) h0, Option.bind_some, w64 (by omega) (by omega)]
theorem above_f (k : Nat) {a b n d : Int} (h0 : 0 < d) (h1 : d ≤ 200000) (h2 : 0 ≤ n) (h3 : n ≤ d) (a1 : 0 ≤ a) (a2 : a ≤ 1000000) (b1 : 0 ≤ b) (b2 : b ≤ 1000000) : tube_above.f (k + 1) a b n d = some (linUp a b n d) := by
  obtain ⟨m1, m2, m3, m4⟩ := lin_bd h0 h1 h2 h3 (show -2000000 ≤ b - a by omega) (show b - a ≤ 2000000 by omega)
  unfold tube_above.f linUp
  rw [w64 (x := b - a) (by omega) (by omega), w64 (x := (b - a) * n) (by omega) (by omega), up_pos k _ d (by omega) (by omega) h0, Option.bind_some, w64 (by dsimp only; split <;> omega) (by dsimp only; split <;> omega)]
/-- A tube's node at a time between node j and the next. -/
def mid (l : List S30) (t : Int) (j : Nat) : Int × Int × Int × Int × Int × Int × Int :=
  let a := Tn l j
  let b := Tn l (j + 1)
  let n := t - a.f0.f0
  let d := b.f0.f0 - a.f0.f0
  (t, a.f0.f1.f0 + (b.f0.f1.f0 - a.f0.f1.f0) * n / d, a.f0.f1.f1 + (b.f0.f1.f1 - a.f0.f1.f1) * n / d, lin a.f0.f2 b.f0.f2 n d, linUp a.f1 b.f1 n d, linUp a.f2 b.f2 n d, 0)
/-- What at answers inside a valid tube's time. -/
def ins (l : List S30) (t : Int) (j : Nat) : Int × Int × Int × Int × Int × Int × Int :=
  if (Tn l j).f0.f0 = t then ((Tn l j).f0.f0, (Tn l j).f0.f1.f0, (Tn l j).f0.f1.f1, (Tn l j).f0.f2, (Tn l j).f1, (Tn l j).f2, 0) else mid l t j
theorem at_f {l : List S30} (h : TubeOk l) (t : Int) :
    ((t < (Tn l 0).f0.f0 ∨ t > (Tn l (l.length - 1)).f0.f0) ∧ ∀ k, 200 ≤ k → tube_at.f k l t = some (0, 0, 0, 0, 0, 0, 12)) ∨
    (((Tn l 0).f0.f0 ≤ t ∧ t ≤ (Tn l (l.length - 1)).f0.f0) ∧ ∃ j, AtT l t j ∧ (j + 1 = l.length → (Tn l j).f0.f0 = t) ∧ ∀ k, 200 ≤ k → tube_at.f k l t = some (ins l t j)) := by
  obtain ⟨hl0, hl, hn⟩ := id h
  have n0 : rd_T30 l 0 = Tn l 0 := rfl
  have n1 : rd_T30 l ((l.length - 1 : Nat) : Int) = Tn l (l.length - 1) := rfl
  have hat : ∀ k, tube_at.f (k + 1) l t = if t < (Tn l 0).f0.f0 then some (0, 0, 0, 0, 0, 0, 12) else if t > (Tn l (l.length - 1)).f0.f0 then some (0, 0, 0, 0, 0, 0, 12) else tube_at.l0 k l t 0 := by
    intro k
    unfold tube_at.f
    rw [if_pos (show (0 : Int) < (l.length : Int) by omega), n0]
    by_cases c1 : t < (Tn l 0).f0.f0
    · rw [if_pos c1, if_pos c1, tube_at.j0, if_pos rfl]
    · rw [if_neg c1, if_neg c1, w64 (x := (l.length : Int) - 1) (by omega) (by omega), if_pos (show (0 : Int) ≤ (l.length : Int) - 1 by omega), if_pos (show (l.length : Int) - 1 < (l.length : Int) by omega), show ((l.length : Int) - 1) = ((l.length - 1 : Nat) : Int) by omega, n1]
      by_cases c2 : t > (Tn l (l.length - 1)).f0.f0
      · rw [if_pos c2, tube_at.j0, if_pos (decide_eq_true c2)]
      · rw [if_neg c2, tube_at.j0, if_neg (by simpa using c2)]
  by_cases c1 : t < (Tn l 0).f0.f0
  · left
    refine ⟨Or.inl c1, fun k hk => ?_⟩
    obtain ⟨k, rfl⟩ : ∃ m, k = m + 1 := ⟨k - 1, by omega⟩
    rw [hat, if_pos c1]
  · by_cases c2 : t > (Tn l (l.length - 1)).f0.f0
    · left
      refine ⟨Or.inr c2, fun k hk => ?_⟩
      obtain ⟨k, rfl⟩ : ∃ m, k = m + 1 := ⟨k - 1, by omega⟩
      rw [hat, if_neg c1, if_pos c2]
    · right
      refine ⟨⟨by omega, by omega⟩, ?_⟩
      have one : ∀ k, 200 ≤ k → ∃ j, AtT l t j ∧ (j + 1 = l.length → (Tn l j).f0.f0 = t) ∧ tube_at.f k l t = some (ins l t j) := by
        intro k hk
        obtain ⟨k, rfl⟩ : ∃ m, k = m + 1 := ⟨k - 1, by omega⟩
        rw [hat, if_neg c1, if_neg c2]
        obtain ⟨j, m, ha, hm, e⟩ := at_l h t (l.length - 1) k 0 (by omega) (by omega) (by omega)
        obtain ⟨m, rfl⟩ : ∃ q, m = q + 4 := ⟨m - 4, by omega⟩
        obtain ⟨hj, g1, g2⟩ := id ha
        have hN : rd_T30 l (j : Int) = Tn l j := rfl
        have hlast : j + 1 = l.length → (Tn l j).f0.f0 = t := by
          intro hjl
          have : l.length - 1 = j := by omega
          rw [this] at c2
          omega
        refine ⟨j, ha, hlast, ?_⟩
        have e0 : tube_at.l0 k l t 0 = tube_at.j2 (m + 4) l t (j : Int) := e
        rw [e0, tube_at.j2, if_pos (by omega), if_pos (by omega), hN]
        unfold ins
        by_cases c : (Tn l j).f0.f0 = t
        · rw [if_pos c, if_pos c]
        · have hj1 : j + 1 < l.length := by
            rcases Nat.lt_or_ge (j + 1) l.length with g | g
            · exact g
            · exact absurd (hlast (by omega)) c
          have g3 := g2 hj1
          obtain ⟨a1, a2, a3, a4, a5, a6⟩ := hn j hj
          obtain ⟨b1, b2, b3, b4, b5, b6⟩ := hn (j + 1) hj1
          have hN' : rd_T30 l ((j + 1 : Nat) : Int) = Tn l (j + 1) := rfl
          rw [if_neg c, if_neg c, w64 (x := (j : Int) + 1) (by omega) (by omega), if_pos (by omega), if_pos (by omega), show ((j : Int) + 1) = ((j + 1 : Nat) : Int) by omega, hN',
            w64 (x := t - (Tn l j).f0.f0) (by omega) (by omega), w64 (x := (Tn l (j + 1)).f0.f0 - (Tn l j).f0.f0) (by omega) (by omega), toward (m + 1) (by omega) (by omega) (by omega) (by omega) a3 b3, Option.bind_some,
            between_f (m + 2) (by omega) (by omega) (by omega) (by omega) (by omega) (by omega) (by omega) (by omega), Option.bind_some,
            above_f (m + 2) (by omega) (by omega) (by omega) (by omega) (by omega) (by omega) (by omega) (by omega), Option.bind_some,
            above_f (m + 2) (by omega) (by omega) (by omega) (by omega) (by omega) (by omega) (by omega) (by omega), Option.bind_some]
          rfl
      obtain ⟨j, ha, hlast, _⟩ := one 200 (by decide)
      refine ⟨j, ha, hlast, fun k hk => ?_⟩
      obtain ⟨j', ha', _, e⟩ := one k hk
      rw [e, AtT.same h ha' ha]
/-- A tube of one node. -/
def one (n : S30) : List S30 := [n]
theorem Tn_one (n : S30) : Tn (one n) 0 = n := rfl
theorem checksep_f (x y : Int) : ∃ e, probe_CheckSep.f x y = some e ∧ (e = 0 → (0 ≤ x ∧ x ≤ 1000000) ∧ 0 ≤ y ∧ y ≤ 60000) := by
  unfold probe_CheckSep.f
  by_cases c1 : x < 0
  · rw [if_pos c1]; exact ⟨4, rfl, fun h => by omega⟩
  rw [if_neg c1]
  by_cases c2 : x > 1000000
  · rw [if_pos c2]; exact ⟨4, rfl, fun h => by omega⟩
  rw [if_neg c2]
  by_cases c3 : y < 0
  · rw [if_pos c3]; exact ⟨4, rfl, fun h => by omega⟩
  rw [if_neg c3]
  by_cases c4 : y > 60000
  · rw [if_pos c4]; exact ⟨4, rfl, fun h => by omega⟩
  rw [if_neg c4]; exact ⟨0, rfl, fun _ => ⟨⟨by omega, by omega⟩, by omega, by omega⟩⟩
theorem pcheck_two (k : Nat) (hk : 140 ≤ k) (x y : Int) (l m : List S30) : ∃ e, probe_check.f k x y [l, m] = some e ∧ (e = 0 → ((0 ≤ x ∧ x ≤ 1000000) ∧ 0 ≤ y ∧ y ≤ 60000) ∧ TubeOk l ∧ TubeOk m) := by
  obtain ⟨e1, h1, z1⟩ := checksep_f x y
  obtain ⟨e2, h2, z2⟩ := tcheck l
  obtain ⟨e3, h3, z3⟩ := tcheck m
  obtain ⟨k, rfl⟩ : ∃ q, k = q + 3 := ⟨k - 3, by omega⟩
  have len : (([l, m] : List (List S30)).length : Int) = 2 := rfl
  have w1 : wrap64 (0 + 1) = 1 := w64 (by decide) (by decide)
  have w2 : wrap64 (1 + 1) = 2 := w64 (by decide) (by decide)
  unfold probe_check.f
  rw [h1, Option.bind_some]
  by_cases c1 : e1 = 0
  · rw [if_pos c1, len, probe_check.l0, len, if_pos (by decide), if_pos (by decide), if_pos (by decide)]
    have g1 : rd_L4 [l, m] 0 = l := rfl
    have g2 : rd_L4 [l, m] 1 = m := rfl
    rw [g1, h2 _ (by omega), Option.bind_some]
    by_cases c2 : e2 = 0
    · rw [if_pos c2, w1, probe_check.l0, len, if_pos (by decide), if_pos (by decide), if_pos (by decide), g2, h3 _ (by omega), Option.bind_some]
      by_cases c3 : e3 = 0
      · rw [if_pos c3, w2, probe_check.l0, if_neg (by decide)]
        exact ⟨0, rfl, fun _ => ⟨z1 c1, z2 c2, z3 c3⟩⟩
      · rw [if_neg c3]; exact ⟨e3, rfl, fun h => absurd h c3⟩
    · rw [if_neg c2]; exact ⟨e2, rfl, fun h => absurd h c2⟩
  · rw [if_neg c1]; exact ⟨e1, rfl, fun h => absurd h c1⟩
theorem mx_def (a b : Int) : a ≤ mx a b ∧ b ≤ mx a b ∧ (mx a b = a ∨ mx a b = b) := by
  unfold mx
  split
  · exact ⟨by omega, by omega, Or.inr rfl⟩
  · exact ⟨by omega, by omega, Or.inl rfl⟩
/-- What the tube of one node holds at its time. -/
theorem has_one (k : Nat) (hk : 210 ≤ k) {n : S30} (h : TubeOk (one n)) (x y g : Int) : ∃ b e, tube_Has.f k (one n) n.f0.f0 x y g = some (b, e) ∧
    (e = 0 → b = true → Ok x y ∧ (0 ≤ g ∧ g ≤ 60000) ∧ S (n.f0.f1.f0 - x) (n.f0.f1.f1 - y) ≤ n.f1 * n.f1 ∧ g - n.f0.f2 ≤ n.f2 ∧ n.f0.f2 - g ≤ n.f2) := by
  obtain ⟨e0, he, hz⟩ := tcheck (one n)
  obtain ⟨⟨t1, t2⟩, _, ⟨p1, p2, p3, p4⟩, ⟨h1, h2⟩, ⟨r1, r2⟩, b1, b2⟩ := h.2.2 0 h.1
  rw [Tn_one] at t1 t2 p1 p2 p3 p4 h1 h2 r1 r2 b1 b2
  by_cases c0 : e0 = 0
  · have hat : tube_At.f k (one n) n.f0.f0 = some (n.f0.f0, n.f0.f1.f0, n.f0.f1.f1, n.f0.f2, n.f1, n.f2, 0) := by
      rcases at_f h n.f0.f0 with ⟨ho, _⟩ | ⟨_, j, ja, _, ea⟩
      · exfalso
        have e1 : (one n).length - 1 = 0 := rfl
        rw [e1, Tn_one] at ho
        omega
      · have hj : j = 0 := by have := ja.1; have : (one n).length = 1 := rfl; omega
        subst hj
        unfold tube_At.f
        rw [he k (by omega), c0, Option.bind_some, if_pos rfl, ea k (by omega), Option.bind_some]
        unfold ins
        rw [Tn_one, if_pos rfl]
    unfold tube_Has.f
    rw [hat, Option.bind_some, if_pos rfl, check_f, Option.bind_some]
    dsimp only
    by_cases hq : Ok x y
    · rw [if_pos hq, if_pos rfl]
      by_cases c1 : g < 0
      · rw [if_pos c1]; exact ⟨false, 4, rfl, fun h => by omega⟩
      rw [if_neg c1]
      by_cases c2 : g > 60000
      · rw [if_pos c2]; exact ⟨false, 4, rfl, fun h => by omega⟩
      obtain ⟨q1, q2, q3, q4⟩ := id hq
      rw [if_neg c2, within (by omega) (by omega) (by omega) (by omega), Option.bind_some]
      by_cases c3 : 0 ≤ n.f1 ∧ n.f1 ≤ 8000000 ∧ S (n.f0.f1.f0 - x) (n.f0.f1.f1 - y) ≤ n.f1 * n.f1
      · rw [if_pos (decide_eq_true c3), w64 (x := g - n.f0.f2) (by omega) (by omega), w64 (x := n.f0.f2 - g) (by omega) (by omega)]
        refine ⟨_, 0, rfl, fun _ hb => ?_⟩
        have hb := of_decide_eq_true hb
        obtain ⟨m1, m2, _⟩ := mx_def (g - n.f0.f2) (n.f0.f2 - g)
        exact ⟨hq, ⟨by omega, by omega⟩, c3.2.2, by omega, by omega⟩
      · rw [if_neg (by simpa using c3)]; exact ⟨false, 0, rfl, fun _ h => by cases h⟩
    · rw [if_neg hq, if_neg (by decide)]; exact ⟨false, 4, rfl, fun h => by omega⟩
  · have hat : tube_At.f k (one n) n.f0.f0 = some (0, 0, 0, 0, 0, 0, e0) := by
      unfold tube_At.f
      rw [he k (by omega), Option.bind_some, if_neg c0]
    unfold tube_Has.f
    rw [hat, Option.bind_some, if_neg c0]
    exact ⟨false, e0, rfl, fun h => absurd h c0⟩
/-- Separation of two valid nodes. -/
theorem separated_f {a b : S30} (ha : TubeOk (one a)) (hb : TubeOk (one b)) {s1 s2 : Int} (_ : 0 ≤ s1) (_ : 0 ≤ s2) :
    ∃ r, probe_separated.f a.f0.f0 a.f0.f1.f0 a.f0.f1.f1 a.f0.f2 a.f1 a.f2 b.f0.f0 b.f0.f1.f0 b.f0.f1.f1 b.f0.f2 b.f1 b.f2 s1 s2 = some r ∧
      (r = true → (a.f0.f2 - b.f0.f2 - a.f2 - b.f2 ≥ s2 ∨ b.f0.f2 - a.f0.f2 - a.f2 - b.f2 ≥ s2) ∨ rootI (S (a.f0.f1.f0 - b.f0.f1.f0) (a.f0.f1.f1 - b.f0.f1.f1)) - a.f1 - b.f1 ≥ s1) := by
  obtain ⟨_, _, ⟨p1, p2, p3, p4⟩, ⟨g1, g2⟩, ⟨r1, r2⟩, b1, b2⟩ := ha.2.2 0 ha.1
  obtain ⟨_, _, ⟨q1, q2, q3, q4⟩, ⟨k1, k2⟩, ⟨t1, t2⟩, c1, c2⟩ := hb.2.2 0 hb.1
  rw [Tn_one] at p1 p2 p3 p4 g1 g2 r1 r2 b1 b2 q1 q2 q3 q4 k1 k2 t1 t2 c1 c2
  unfold probe_separated.f
  obtain ⟨m1, m2, m3⟩ := mx_def (a.f0.f2 - b.f0.f2) (b.f0.f2 - a.f0.f2)
  rw [w64 (x := a.f0.f2 - b.f0.f2) (by omega) (by omega), w64 (x := b.f0.f2 - a.f0.f2) (by omega) (by omega), w64 (x := mx (a.f0.f2 - b.f0.f2) (b.f0.f2 - a.f0.f2) - a.f2) (by omega) (by omega), w64 (x := mx (a.f0.f2 - b.f0.f2) (b.f0.f2 - a.f0.f2) - a.f2 - b.f2) (by omega) (by omega)]
  by_cases c : mx (a.f0.f2 - b.f0.f2) (b.f0.f2 - a.f0.f2) - a.f2 - b.f2 ≥ s2
  · rw [if_pos c]
    exact ⟨true, rfl, fun _ => Or.inl (by rcases m3 with m3 | m3 <;> omega)⟩
  · rw [if_neg c]
    unfold probe_surplus.f
    have s0 := S_nonneg (a.f0.f1.f0 - b.f0.f1.f0) (a.f0.f1.f1 - b.f0.f1.f1)
    have sb := (square (ax := a.f0.f1.f0) (ay := a.f0.f1.f1) (bx := b.f0.f1.f0) (b_y := b.f0.f1.f1) (by omega) (by omega) (by omega) (by omega)).2
    have rn := rootI_nonneg (S (a.f0.f1.f0 - b.f0.f1.f0) (a.f0.f1.f1 - b.f0.f1.f1))
    have rl := root_lt s0 sb
    rw [distance (by omega) (by omega) (by omega) (by omega), Option.bind_some]
    dsimp only
    rw [w64 (x := rootI (S (a.f0.f1.f0 - b.f0.f1.f0) (a.f0.f1.f1 - b.f0.f1.f1)) - a.f1) (by omega) (by omega), w64 (x := rootI (S (a.f0.f1.f0 - b.f0.f1.f0) (a.f0.f1.f1 - b.f0.f1.f1)) - a.f1 - b.f1) (by omega) (by omega), Option.bind_some]
    exact ⟨_, rfl, fun h => Or.inr (of_decide_eq_true h)⟩
theorem surplus_f {a0 a1 a2 a3 a4 a5 b0 b1 b2 b3 b4 b5 r : Int} (h1 : -2000000000 ≤ a1 - b1) (h2 : a1 - b1 ≤ 2000000000) (h3 : -2000000000 ≤ a2 - b2) (h4 : a2 - b2 ≤ 2000000000) (hr : rootI (S (a1 - b1) (a2 - b2)) = r) :
    probe_surplus.f a0 a1 a2 a3 a4 a5 b0 b1 b2 b3 b4 b5 = some (wrap64 (wrap64 (r - a4) - b4)) := by
  unfold probe_surplus.f
  rw [distance h1 h2 h3 h4, Option.bind_some, hr]
theorem probeWorks : skywaykeep1_probeWorks.f 400 = some true := by
  have c1 : probe_check.f 400 5 10 [[⟨⟨0, ⟨0, 0⟩, 0⟩, 1, 0⟩], [⟨⟨0, ⟨8, 0⟩, 0⟩, 2, 0⟩]] = some 0 := by decide +kernel
  have c2 : probe_check.f 400 0 0 [[⟨⟨0, ⟨0, 0⟩, 0⟩, 1, 0⟩], [⟨⟨0, ⟨3, 5⟩, 0⟩, 1, 0⟩]] = some 0 := by decide +kernel
  have c3 : probe_common.f [⟨⟨0, ⟨0, 0⟩, 0⟩, 1, 0⟩] [⟨⟨0, ⟨3, 5⟩, 0⟩, 1, 0⟩] = some (0, 0) := by decide +kernel
  have c4 : tube_Point.f 399 [⟨⟨0, ⟨0, 0⟩, 0⟩, 1, 0⟩] 0 = some (0, 0, 0, 0, 1, 0) := by decide +kernel
  have c5 : tube_Point.f 399 [⟨⟨0, ⟨3, 5⟩, 0⟩, 1, 0⟩] 0 = some (0, 3, 5, 0, 1, 0) := by decide +kernel
  have e1 : rootI (S (0 - 8) (0 - 0)) = 8 := rootI_eq (by decide) (by decide) (by decide)
  have e2 : rootI (S (0 - 3) (0 - 5)) = 5 := rootI_eq (by decide) (by decide) (by decide)
  have s1 : probe_separated.f 0 0 0 0 1 0 0 8 0 0 2 0 5 10 = some true := by
    unfold probe_separated.f
    rw [surplus_f (by decide) (by decide) (by decide) (by decide) e1]
    decide +kernel
  have s2 : probe_surplus.f 0 0 0 0 1 0 0 3 5 0 1 0 = some 3 := by
    rw [surplus_f (by decide) (by decide) (by decide) (by decide) e2]
    decide +kernel
  have m : probe_Margin.f 400 [⟨⟨0, ⟨0, 0⟩, 0⟩, 1, 0⟩] [⟨⟨0, ⟨3, 5⟩, 0⟩, 1, 0⟩] = some (3, 0) := by
    have w1 : wrap64 (0 + 1) = 1 := w64 (by decide) (by decide)
    unfold probe_Margin.f
    rw [c2, Option.bind_some, if_pos rfl, c3, Option.bind_some, if_neg (by decide), show (400 : Nat) = 399 + 1 from rfl, probe_Margin.l0, if_pos (by decide), c4, Option.bind_some, c5, Option.bind_some]
    dsimp only
    rw [s2, Option.bind_some, if_pos rfl, w1, show (399 : Nat) = 398 + 1 from rfl, probe_Margin.l0, if_neg (by decide)]
  have s3 : probe_Separated.f 400 0 0 0 0 1 0 0 8 0 0 2 0 5 10 = some (true, 0) := by
    unfold probe_Separated.f
    rw [c1, Option.bind_some, if_pos rfl, if_pos rfl, s1, Option.bind_some]
  unfold skywaykeep1_probeWorks.f skywaykeep1_node.f
  simp only [Option.bind_some]
  rw [s3, m]
  rfl
theorem tri_lt {p1 p2 q1 q2 A B : Int} (hA : 0 ≤ A) (hB : 0 ≤ B) (hp : p1 * p1 + p2 * p2 ≤ A * A) (hq : q1 * q1 + q2 * q2 < B * B) :
    (p1 + q1) * (p1 + q1) + (p2 + q2) * (p2 + q2) < (A + B) * (A + B) := by
  have hAB := Int.mul_nonneg hA hB
  have e1 : (p1 * q1 + p2 * q2) * (p1 * q1 + p2 * q2) + (p1 * q2 - p2 * q1) * (p1 * q2 - p2 * q1) = (p1 * p1 + p2 * p2) * (q1 * q1 + q2 * q2) := by grind
  have e2 := sq_nonneg (p1 * q2 - p2 * q1)
  have e3 : (p1 * p1 + p2 * p2) * (q1 * q1 + q2 * q2) ≤ (A * A) * (B * B) := Int.mul_le_mul hp (Int.le_of_lt hq) (by have := sq_nonneg q1; have := sq_nonneg q2; omega) (Int.mul_nonneg hA hA)
  have e4 : (A * A) * (B * B) = (A * B) * (A * B) := by grind
  have e5 : p1 * q1 + p2 * q2 ≤ A * B := sq_le hAB (by omega)
  have e6 : (p1 + q1) * (p1 + q1) + (p2 + q2) * (p2 + q2) = (p1 * p1 + p2 * p2) + (q1 * q1 + q2 * q2) + 2 * (p1 * q1 + p2 * q2) := by grind
  have e7 : (A + B) * (A + B) = A * A + B * B + 2 * (A * B) := by grind
  omega
theorem ProbeSafe : skywaykeep1_ProbeSafe.Pure := by
  intro a0 a1 a2 a3 a4 a5 b0 b1 b2 b3 b4 b5 s1 s2 px py qx qy g h _ _ _ _ _ _ _ _ _ _ _ _ _ _ _ _ _ _ _ _
  refine ⟨400, ?_⟩
  unfold skywaykeep1_ProbeSafe.f
  rw [probeWorks, Option.bind_some, if_pos rfl]
  obtain ⟨a, ha⟩ : ∃ a : S30, a = ⟨⟨a0, ⟨a1, a2⟩, a3⟩, a4, a5⟩ := ⟨_, rfl⟩
  obtain ⟨b, hb⟩ : ∃ b : S30, b = ⟨⟨b0, ⟨b1, b2⟩, b3⟩, b4, b5⟩ := ⟨_, rfl⟩
  have no : ∀ (r : Bool), r = false → skywaykeep1_ProbeSafe.j0 400 g h r true a0 a1 a2 a3 a4 a5 b0 b1 b2 b3 b4 b5 s1 s2 px py qx qy = some true := by
    intro r hr
    rw [show (400 : Nat) = 399 + 1 from rfl, skywaykeep1_ProbeSafe.j0, if_pos rfl, hr]
    rfl
  obtain ⟨e, he, hz⟩ := pcheck_two 400 (by decide) s1 s2 (one a) (one b)
  by_cases h0 : e = 0
  · obtain ⟨⟨⟨u1, u2⟩, u3, u4⟩, ta, tb⟩ := hz h0
    by_cases ht : a0 = b0
    · obtain ⟨r, er, hr⟩ := separated_f ta tb u1 u3
      have es : probe_Separated.f 400 a0 a1 a2 a3 a4 a5 b0 b1 b2 b3 b4 b5 s1 s2 = some (r, 0) := by
        unfold probe_Separated.f
        subst ha hb
        rw [show ([([⟨⟨a0, ⟨a1, a2⟩, a3⟩, a4, a5⟩] : List S30), [⟨⟨b0, ⟨b1, b2⟩, b3⟩, b4, b5⟩]] : List (List S30)) = [one ⟨⟨a0, ⟨a1, a2⟩, a3⟩, a4, a5⟩, one ⟨⟨b0, ⟨b1, b2⟩, b3⟩, b4, b5⟩] from rfl, he, Option.bind_some, if_pos h0, if_pos ht]
        rw [show probe_separated.f a0 a1 a2 a3 a4 a5 b0 b1 b2 b3 b4 b5 s1 s2 = some r from er, Option.bind_some]
      rw [es, Option.bind_some, if_pos rfl]
      dsimp only
      cases r with
      | false => exact no false rfl
      | true =>
        have hr := hr rfl
        obtain ⟨w1, f1, i1, g1⟩ := has_one 399 (by decide) ta px py g
        obtain ⟨w2, f2, i2, g2⟩ := has_one 399 (by decide) tb qx qy h
        have i1' : tube_Has.f 399 [⟨⟨a0, ⟨a1, a2⟩, a3⟩, a4, a5⟩] a0 px py g = some (w1, f1) := by subst ha; exact i1
        have i2' : tube_Has.f 399 [⟨⟨b0, ⟨b1, b2⟩, b3⟩, b4, b5⟩] b0 qx qy h = some (w2, f2) := by subst hb; exact i2
        rw [show (400 : Nat) = 399 + 1 from rfl, skywaykeep1_ProbeSafe.j0, if_neg (by decide), i1', i2', Option.bind_some, Option.bind_some]
        dsimp only
        have tt : skywaykeep1_ProbeSafe.j1 399 g h true s1 s2 px py qx qy = some true := by rw [show (399 : Nat) = 398 + 1 from rfl, skywaykeep1_ProbeSafe.j1, if_pos rfl]
        by_cases c1 : f1 = 0
        · rw [if_pos c1]
          by_cases c2 : f2 = 0
          · rw [if_pos c2]
            by_cases c3 : w1 = true
            · rw [if_pos c3]
              cases w2 with
              | false => exact tt
              | true =>
                obtain ⟨⟨x1, x2, x3, x4⟩, ⟨x5, x6⟩, x7, x8, x9⟩ := g1 c1 c3
                obtain ⟨⟨y1, y2, y3, y4⟩, ⟨y5, y6⟩, y7, y8, y9⟩ := g2 c2 rfl
                obtain ⟨sq, _⟩ := square (ax := px) (ay := py) (bx := qx) (b_y := qy) (by omega) (by omega) (by omega) (by omega)
                have ss := sq_bd (show -1000000 ≤ s1 by omega) u2
                have ss0 := sq_nonneg s1
                rw [show (399 : Nat) = 398 + 1 from rfl, skywaykeep1_ProbeSafe.j1, if_neg (by decide), sq, Option.bind_some, w64 (x := s1 * s1) (by omega) (by omega)]
                by_cases c4 : S (px - qx) (py - qy) ≥ s1 * s1
                · rw [if_pos c4]
                · rw [if_neg c4]
                  have habs : skywayref1_Abs.f (wrap64 (g - h)) = some (if g - h < 0 then -(g - h) else g - h) := by
                    unfold skywayref1_Abs.f
                    rw [w64 (x := g - h) (by omega) (by omega)]
                    by_cases c5 : g - h < 0
                    · rw [if_pos c5, if_pos c5, w64 (by omega) (by omega)]
                    · rw [if_neg c5, if_neg c5]
                  rw [habs, Option.bind_some]
                  congr 1
                  refine decide_eq_true ?_
                  rcases hr with hr | hr
                  · split <;> omega
                  · exfalso
                    obtain ⟨⟨_, _⟩, _, _, _, ⟨ra, _⟩, _⟩ := ta.2.2 0 ta.1
                    obtain ⟨⟨_, _⟩, _, _, _, ⟨rb, _⟩, _⟩ := tb.2.2 0 tb.1
                    rw [Tn_one] at ra rb
                    have s0 := S_nonneg (a.f0.f1.f0 - b.f0.f1.f0) (a.f0.f1.f1 - b.f0.f1.f1)
                    obtain ⟨z1, _⟩ := rootI_spec s0
                    have z2 := sq_mono (show 0 ≤ s1 + a.f1 + b.f1 by omega) (show s1 + a.f1 + b.f1 ≤ rootI (S (a.f0.f1.f0 - b.f0.f1.f0) (a.f0.f1.f1 - b.f0.f1.f1)) by omega)
                    have t1 := tri_lt (p1 := a.f0.f1.f0 - px) (p2 := a.f0.f1.f1 - py) (q1 := px - qx) (q2 := py - qy) (A := a.f1) (B := s1) ra u1 x7 (by unfold S at c4; omega)
                    have e1 : a.f0.f1.f0 - px + (px - qx) = a.f0.f1.f0 - qx := by omega
                    have e2 : a.f0.f1.f1 - py + (py - qy) = a.f0.f1.f1 - qy := by omega
                    rw [e1, e2] at t1
                    have t2 := tri_lt (p1 := qx - b.f0.f1.f0) (p2 := qy - b.f0.f1.f1) (q1 := a.f0.f1.f0 - qx) (q2 := a.f0.f1.f1 - qy) (A := b.f1) (B := a.f1 + s1) rb (by omega) (by
                      have i1 : (qx - b.f0.f1.f0) * (qx - b.f0.f1.f0) = (b.f0.f1.f0 - qx) * (b.f0.f1.f0 - qx) := by grind
                      have i2 : (qy - b.f0.f1.f1) * (qy - b.f0.f1.f1) = (b.f0.f1.f1 - qy) * (b.f0.f1.f1 - qy) := by grind
                      unfold S at y7
                      omega) t1
                    have e3 : qx - b.f0.f1.f0 + (a.f0.f1.f0 - qx) = a.f0.f1.f0 - b.f0.f1.f0 := by omega
                    have e4 : qy - b.f0.f1.f1 + (a.f0.f1.f1 - qy) = a.f0.f1.f1 - b.f0.f1.f1 := by omega
                    rw [e3, e4] at t2
                    have e5 : (b.f1 + (a.f1 + s1)) = s1 + a.f1 + b.f1 := by omega
                    rw [e5] at t2
                    unfold S at z1 z2
                    omega
            · rw [if_neg c3]; exact tt
          · rw [if_neg c2]; exact tt
        · rw [if_neg c1]; exact tt
    · have es : probe_Separated.f 400 a0 a1 a2 a3 a4 a5 b0 b1 b2 b3 b4 b5 s1 s2 = some (false, 12) := by
        unfold probe_Separated.f
        subst ha hb
        rw [show ([([⟨⟨a0, ⟨a1, a2⟩, a3⟩, a4, a5⟩] : List S30), [⟨⟨b0, ⟨b1, b2⟩, b3⟩, b4, b5⟩]] : List (List S30)) = [one ⟨⟨a0, ⟨a1, a2⟩, a3⟩, a4, a5⟩, one ⟨⟨b0, ⟨b1, b2⟩, b3⟩, b4, b5⟩] from rfl, he, Option.bind_some, if_pos h0, if_neg ht]
      rw [es, Option.bind_some, if_neg (by decide)]
      exact no false rfl
  · have es : probe_Separated.f 400 a0 a1 a2 a3 a4 a5 b0 b1 b2 b3 b4 b5 s1 s2 = some (false, e) := by
      unfold probe_Separated.f
      subst ha hb
      rw [show ([([⟨⟨a0, ⟨a1, a2⟩, a3⟩, a4, a5⟩] : List S30), [⟨⟨b0, ⟨b1, b2⟩, b3⟩, b4, b5⟩]] : List (List S30)) = [one ⟨⟨a0, ⟨a1, a2⟩, a3⟩, a4, a5⟩, one ⟨⟨b0, ⟨b1, b2⟩, b3⟩, b4, b5⟩] from rfl, he, Option.bind_some, if_neg h0]
    rw [es, Option.bind_some, if_neg h0]
    exact no false rfl

end Go.Proofs.Yteaddpieonkboab.Pure
