/- TubeNominal: for all paths and radii the tube of a path has the path's nodes, and the points within its radius. -/
import Derived.Test.YteaddpieonkboabPTubeNominalx
import Derived.Test.YteaddpieonkboabMath
namespace Go.Proofs.Yteaddpieonkboab.Pure
open Go Go.RowKit Go.Proofs.Yteaddpieonkboab.PTubeNominal Go.Proofs.YteaddpieonkboabW.PrintWords Go.Proofs.YteaddpieonkboabW.PrintLast Go.Proofs.YteaddpieonkboabM

/-- A permitted coordinate. -/
def Ok (x y : Int) : Prop := -1000000 ≤ x ∧ x ≤ 1000000 ∧ -1000000 ≤ y ∧ y ≤ 1000000
instance (x y : Int) : Decidable (Ok x y) := inferInstanceAs (Decidable (_ ∧ _))
def S (x y : Int) : Int := x * x + y * y
theorem S_nonneg (x y : Int) : 0 ≤ S x y := by have := sq_nonneg x; have := sq_nonneg y; unfold S; omega
theorem square {ax ay bx b_y : Int} (h1 : -2000000000 ≤ ax - bx) (h2 : ax - bx ≤ 2000000000) (h3 : -2000000000 ≤ ay - b_y) (h4 : ay - b_y ≤ 2000000000) :
    plane_Square.f ax ay bx b_y = some (S (ax - bx) (ay - b_y)) ∧ S (ax - bx) (ay - b_y) ≤ 8000000000000000000 := by
  have q1 := sq_bd h1 h2
  have q2 := sq_bd h3 h4
  have p1 := sq_nonneg (ax - bx)
  have p2 := sq_nonneg (ay - b_y)
  refine ⟨?_, by unfold S; omega⟩
  unfold plane_Square.f plane_Sub.f plane_Dot.f S
  rw [w64 (by omega) (by omega), w64 (by omega) (by omega)]
  simp only [Option.bind_some]
  rw [w64 (x := (ax - bx) * (ax - bx)) (by omega) (by omega), w64 (x := (ay - b_y) * (ay - b_y)) (by omega) (by omega), w64 (by omega) (by omega)]
theorem within {ax ay bx b_y d : Int} (h1 : -2000000000 ≤ ax - bx) (h2 : ax - bx ≤ 2000000000) (h3 : -2000000000 ≤ ay - b_y) (h4 : ay - b_y ≤ 2000000000) :
    plane_Within.f ax ay bx b_y d = some (decide (0 ≤ d ∧ d ≤ 8000000 ∧ S (ax - bx) (ay - b_y) ≤ d * d)) := by
  obtain ⟨e, hb⟩ := square h1 h2 h3 h4
  unfold plane_Within.f
  by_cases c1 : d ≥ 0
  · rw [if_pos c1]
    by_cases c2 : d ≤ 8000000
    · have q := sq_bd (show -8000000 ≤ d by omega) c2
      have q2 := sq_nonneg d
      rw [if_pos c2, e, Option.bind_some, w64 (by omega) (by omega)]
      congr 1
      exact decide_eq_decide.2 ⟨fun h => ⟨c1, c2, h⟩, fun h => h.2.2⟩
    · rw [if_neg c2]
      congr 1
      exact (decide_eq_false (fun h => c2 h.2.1)).symm
  · rw [if_neg c1]
    congr 1
    exact (decide_eq_false (fun h => c1 h.1)).symm
theorem down (k : Nat) (a b : Int) (a1 : -9223372036854775808 ≤ a) (a2 : a ≤ 9223372036854775807) (hb : b ≠ 0) (hno : ¬ (a = -9223372036854775808 ∧ b = -1)) : num_DivDown.f (k + 1) a b = some (Int.fdiv a b, 0) := by
  obtain ⟨r1, r2⟩ := fdiv_range a1 a2 hb hno
  have hf := tdiv_floor a b hb
  have main : num_DivDown.j0 (k + 1) a b false = some (Int.fdiv a b, 0) := by
    rw [num_DivDown.j0, if_neg (by decide), if_neg hb]
    by_cases h0 : Int.tmod a b = 0
    · rw [if_pos h0] at hf ⊢
      rw [hf, w64 r1 r2]
    · rw [if_neg h0] at hf ⊢
      by_cases hs : ((decide (a < 0)) != (decide (b < 0))) = true
      · rw [if_pos hs] at hf ⊢
        have ht : -9223372036854775808 ≤ Int.tdiv a b ∧ Int.tdiv a b ≤ 9223372036854775807 := by
          refine ⟨by omega, ?_⟩
          have h1 := Int.tdiv_nonpos_of_nonneg_of_nonpos (a := a) (b := b)
          by_cases ha : a < 0
          · have hb' : 0 < b := by
              simp [ha] at hs
              omega
            have h2 : Int.tdiv a b ≤ 0 := by
              have := Int.tdiv_nonneg (a := -a) (b := b) (by omega) (by omega)
              rw [Int.neg_tdiv] at this
              omega
            omega
          · have hb' : b < 0 := by
              simp [ha] at hs
              exact hs
            have := h1 (by omega) (by omega)
            omega
        rw [w64 ht.1 ht.2, hf, w64 r1 r2]
      · rw [if_neg hs] at hf ⊢
        rw [hf, w64 r1 r2]
  rw [num_DivDown.f, if_neg hb]
  by_cases ha : a = -9223372036854775808
  · rw [if_pos ha]
    have : (b == -1) = false := beq_eq_false_iff_ne.mpr (fun h => hno ⟨ha, h⟩)
    rw [this]
    exact main
  · rw [if_neg ha]
    exact main
theorem down_pos (k : Nat) (a b : Int) (a1 : -9223372036854775808 ≤ a) (a2 : a ≤ 9223372036854775807) (hb : 0 < b) : num_DivDown.f (k + 1) a b = some (a / b, 0) := by
  rw [down k a b a1 a2 (by omega) (by omega), fdiv_pos hb]
theorem up (k : Nat) (a b : Int) (a1 : -9223372036854775808 ≤ a) (a2 : a ≤ 9223372036854775807) (hb : b ≠ 0) (hno : ¬ (a = -9223372036854775808 ∧ b = -1)) : num_DivUp.f (k + 1) a b = some (if Int.tmod a b = 0 then Int.fdiv a b else Int.fdiv a b + 1, 0) := by
  rw [num_DivUp.f, down k a b a1 a2 hb hno]
  simp only [Option.bind_some, if_true]
  rw [if_neg hb]
  by_cases h0 : Int.tmod a b = 0
  · rw [if_pos h0, if_pos h0]
  · rw [if_neg h0, if_neg h0]
    obtain ⟨r1, r2⟩ := fdiv_range a1 a2 hb hno
    have : Int.fdiv a b < 9223372036854775807 := by
      rcases Int.lt_or_le (Int.fdiv a b) 9223372036854775807 with h | h
      · exact h
      · exfalso
        have e : Int.fdiv a b = 9223372036854775807 := by omega
        have hm := Int.mul_fdiv_add_fmod a b
        rw [e] at hm
        have hn : Int.fmod a b ≠ 0 := fun h => h0 (Int.dvd_iff_tmod_eq_zero.1 (Int.dvd_iff_fmod_eq_zero.2 h))
        rcases Int.lt_or_le 0 b with hp | hp
        · have := Int.fmod_nonneg_of_pos a hp
          have := Int.fmod_lt_of_pos a hp
          omega
        · have h1 := Int.mul_fdiv_add_fmod (-a) (-b)
          rw [Int.neg_fdiv_neg, e] at h1
          have := Int.fmod_nonneg_of_pos (-a) (show 0 < -b by omega)
          have := Int.fmod_lt_of_pos (-a) (show 0 < -b by omega)
          omega
    rw [w64 (by omega) (by omega)]
theorem up_pos (k : Nat) (a b : Int) (a1 : -9223372036854775808 ≤ a) (a2 : a ≤ 9223372036854775807) (hb : 0 < b) : num_DivUp.f (k + 1) a b = some (if a % b = 0 then a / b else a / b + 1, 0) := by
  rw [up k a b a1 a2 (by omega) (by omega), fdiv_pos hb]
  have : Int.tmod a b = 0 ↔ a % b = 0 := by rw [← Int.dvd_iff_tmod_eq_zero]; exact Int.dvd_iff_emod_eq_zero
  by_cases h : a % b = 0
  · rw [if_pos h, if_pos (this.2 h)]
  · rw [if_neg h, if_neg (fun g => h (this.1 g))]
theorem check_f (x y : Int) : plane_Check.f x y = some (if Ok x y then 0 else 4) := by
  unfold plane_Check.f
  by_cases c : Ok x y
  · rw [if_pos c]
    obtain ⟨c1, c2, c3, c4⟩ := c
    rw [if_neg (by omega), if_neg (by omega), if_neg (by omega), if_neg (by omega)]
  · rw [if_neg c]
    by_cases c1 : x < -1000000
    · rw [if_pos c1]
    · rw [if_neg c1]
      by_cases c2 : x > 1000000
      · rw [if_pos c2]
      · rw [if_neg c2]
        by_cases c3 : y < -1000000
        · rw [if_pos c3]
        · rw [if_neg c3, if_pos (by
            rcases Int.lt_or_le 1000000 y with h | h
            · exact h
            · exact absurd (show Ok x y from ⟨by omega, by omega, by omega, h⟩) c)]
theorem toward_bad (k : Nat) {ax ay bx b_y n d : Int} (h0 : 0 < d) (h1 : d ≤ 200000) (h2 : 0 ≤ n) (h3 : n ≤ d) (h : ¬ (Ok ax ay ∧ Ok bx b_y)) : plane_Toward.f (k + 2) ax ay bx b_y n d = some (0, 0, 4) := by
  unfold plane_Toward.f
  rw [if_neg (by omega), if_neg (by omega), if_neg (by omega), if_neg (by omega), check_f, check_f, Option.bind_some, Option.bind_some]
  by_cases ha : Ok ax ay
  · have hb : ¬ Ok bx b_y := fun hb => h ⟨ha, hb⟩
    rw [if_pos ha, if_neg hb, if_pos rfl, plane_Toward.j0, if_pos (by decide)]
  · rw [if_neg ha, if_neg (by decide), plane_Toward.j0, if_pos rfl]
theorem lin_bd {D n d : Int} (h0 : 0 < d) (h1 : d ≤ 200000) (h2 : 0 ≤ n) (h3 : n ≤ d) (h4 : -2000000 ≤ D) (h5 : D ≤ 2000000) :
    -400000000000 ≤ D * n ∧ D * n ≤ 400000000000 ∧ -2000000 ≤ D * n / d ∧ D * n / d ≤ 2000000 := by
  have m := mul_bd h4 h5 (show -200000 ≤ n by omega) (show n ≤ 200000 by omega)
  refine ⟨by omega, by omega, (Int.le_ediv_iff_mul_le h0).2 ?_, ?_⟩
  · have h6 := Int.mul_le_mul_of_nonneg_left h3 (show (0 : Int) ≤ 2000000 by decide)
    have h7 := Int.mul_nonneg (show 0 ≤ D + 2000000 by omega) h2
    rw [Int.add_mul] at h7
    omega
  · have : D * n / d < 2000001 := by
      refine (Int.ediv_lt_iff_lt_mul h0).2 ?_
      have h6 := Int.mul_le_mul_of_nonneg_left h3 (show (0 : Int) ≤ 2000000 by decide)
      have h7 := Int.mul_nonneg (show 0 ≤ 2000000 - D by omega) h2
      rw [Int.sub_mul] at h7
      omega
    omega
theorem toward (k : Nat) {ax ay bx b_y n d : Int} (h0 : 0 < d) (h1 : d ≤ 200000) (h2 : 0 ≤ n) (h3 : n ≤ d) (ha : Ok ax ay) (hb : Ok bx b_y) :
    plane_Toward.f (k + 2) ax ay bx b_y n d = some (ax + (bx - ax) * n / d, ay + (b_y - ay) * n / d, 0) := by
  obtain ⟨a1, a2, a3, a4⟩ := id ha
  obtain ⟨b1, b2, b3, b4⟩ := id hb
  obtain ⟨m1, m2, m3, m4⟩ := lin_bd h0 h1 h2 h3 (show -2000000 ≤ bx - ax by omega) (show bx - ax ≤ 2000000 by omega)
  obtain ⟨n1, n2, n3, n4⟩ := lin_bd h0 h1 h2 h3 (show -2000000 ≤ b_y - ay by omega) (show b_y - ay ≤ 2000000 by omega)
  unfold plane_Toward.f
  rw [if_neg (by omega), if_neg (by omega), if_neg (by omega), if_neg (by omega), check_f, check_f, Option.bind_some, Option.bind_some, if_pos ha, if_pos hb, if_pos rfl, plane_Toward.j0, if_neg (by decide)]
  rw [w64 (x := bx - ax) (by omega) (by omega), w64 (x := b_y - ay) (by omega) (by omega), w64 (x := (bx - ax) * n) (by omega) (by omega), w64 (x := (b_y - ay) * n) (by omega) (by omega)]
  rw [down_pos k _ d (by omega) (by omega) h0, down_pos k _ d (by omega) (by omega) h0, Option.bind_some, Option.bind_some, w64 (by omega) (by omega), w64 (by omega) (by omega)]
/-- Node i of a path. -/
def Nd (l : List S28) (i : Nat) : S28 := rd_T28 l (i : Int)
def NodeOk (l : List S28) (j : Nat) : Prop :=
  0 ≤ (Nd l j).f0 ∧ (Nd l j).f0 ≤ 200000 ∧ (0 < j → (Nd l (j - 1)).f0 < (Nd l j).f0) ∧ Ok (Nd l j).f1.f0 (Nd l j).f1.f1 ∧ 0 ≤ (Nd l j).f2 ∧ (Nd l j).f2 ≤ 60000
theorem fcheck_l (l : List S28) (hl : l.length ≤ 64) : ∀ (d k i : Nat), i + d = l.length → 2 * d + 1 ≤ k →
    ∃ e, fly_Check.l0 k l l (l.length : Int) (i : Int) = some e ∧ (e = 0 ↔ ∀ j, i ≤ j → j < l.length → NodeOk l j)
  | 0, k, i, hi, hk => by
    obtain ⟨k, rfl⟩ : ∃ m, k = m + 1 := ⟨k - 1, by omega⟩
    rw [fly_Check.l0, if_neg (by omega)]
    exact ⟨0, rfl, ⟨fun _ j h1 h2 => by omega, fun _ => rfl⟩⟩
  | d + 1, k, i, hi, hk => by
    obtain ⟨k, rfl⟩ : ∃ m, k = m + 2 := ⟨k - 2, by omega⟩
    have hlt : i < l.length := by omega
    have hN : rd_T28 l (i : Int) = Nd l i := rfl
    obtain ⟨e', ih, ihz⟩ := fcheck_l l hl d k (i + 1) (by omega) (by omega)
    have bad : ∀ c : Int, c ≠ 0 → ¬ NodeOk l i → (c = 0 ↔ ∀ j, i ≤ j → j < l.length → NodeOk l j) := fun c hc hn => ⟨fun h => absurd h hc, fun h => absurd (h i (Nat.le_refl _) hlt) hn⟩
    have j1 : ∀ b : Bool, (b = false ↔ 0 ≤ (Nd l i).f0 ∧ (Nd l i).f0 ≤ 200000 ∧ (0 < i → (Nd l (i - 1)).f0 < (Nd l i).f0)) → ∃ e, fly_Check.j1 (k + 1) l l (l.length : Int) (i : Int) b (Nd l i).f0 (Nd l i).f1.f0 (Nd l i).f1.f1 (Nd l i).f2 = some e ∧ (e = 0 ↔ ∀ j, i ≤ j → j < l.length → NodeOk l j) := by
      intro b hb
      rw [fly_Check.j1]
      cases b with
      | true => rw [if_pos rfl]; exact ⟨12, rfl, bad _ (by decide) (fun h => absurd (hb.2 ⟨h.1, h.2.1, h.2.2.1⟩) (by decide))⟩
      | false =>
        obtain ⟨b1, b2, b3⟩ := hb.1 rfl
        rw [if_neg (by decide), check_f, Option.bind_some]
        by_cases hp : Ok (Nd l i).f1.f0 (Nd l i).f1.f1
        · rw [if_pos hp, if_pos rfl]
          by_cases h1 : (Nd l i).f2 < 0
          · rw [if_pos h1]; exact ⟨4, rfl, bad _ (by decide) (fun h => by have := h.2.2.2.2.1; omega)⟩
          · rw [if_neg h1]
            by_cases h2 : (Nd l i).f2 > 60000
            · rw [if_pos h2]; exact ⟨4, rfl, bad _ (by decide) (fun h => by have := h.2.2.2.2.2; omega)⟩
            · rw [if_neg h2, w64 (by omega) (by omega), show ((i : Int) + 1) = ((i + 1 : Nat) : Int) by omega, ih]
              refine ⟨e', rfl, ihz.trans ⟨fun h j g1 g2 => ?_, fun h j g1 g2 => h j (by omega) g2⟩⟩
              by_cases hij : j = i
              · rw [hij]; exact ⟨b1, b2, b3, hp, by omega, by omega⟩
              · exact h j (by omega) g2
        · rw [if_neg hp, if_neg (by decide)]; exact ⟨4, rfl, bad _ (by decide) (fun h => hp h.2.2.2.1)⟩
    rw [fly_Check.l0, if_pos (by omega), if_pos (by omega), if_pos (by omega), hN]
    by_cases h1 : (Nd l i).f0 < 0
    · rw [if_pos h1]; exact j1 true ⟨fun h => (by cases h), fun h => by omega⟩
    · rw [if_neg h1]
      by_cases h2 : (Nd l i).f0 > 200000
      · rw [if_pos h2]; exact j1 true ⟨fun h => (by cases h), fun h => by omega⟩
      · rw [if_neg h2]
        by_cases h3 : (i : Int) > 0
        · rw [if_pos h3, w64 (by omega) (by omega), if_pos (by omega), if_pos (by omega), show ((i : Int) - 1) = ((i - 1 : Nat) : Int) by omega]
          have hN' : rd_T28 l ((i - 1 : Nat) : Int) = Nd l (i - 1) := rfl
          rw [hN']
          refine j1 _ ⟨fun h => ⟨by omega, by omega, fun _ => ?_⟩, fun h => decide_eq_false ?_⟩
          · have := of_decide_eq_false h
            omega
          · have := h.2.2 (by omega)
            omega
        · rw [if_neg h3]
          exact j1 false ⟨fun _ => ⟨by omega, by omega, fun h => by omega⟩, fun _ => rfl⟩
/-- A valid path. -/
def PathOk (l : List S28) : Prop := 0 < l.length ∧ l.length ≤ 64 ∧ ∀ j, j < l.length → NodeOk l j
theorem fcheck_iff (l : List S28) (k : Nat) (hk : 130 ≤ k) : ∃ e, fly_Check.f k l = some e ∧ (e = 0 ↔ PathOk l) := by
  unfold fly_Check.f
  by_cases h1 : (l.length : Int) > 64
  · rw [if_pos h1]; exact ⟨2, rfl, ⟨fun h => by omega, fun h => by have := h.2.1; omega⟩⟩
  · rw [if_neg h1]
    by_cases h2 : (l.length : Int) = 0
    · rw [if_pos h2]; exact ⟨3, rfl, ⟨fun h => by omega, fun h => by have := h.1; omega⟩⟩
    · rw [if_neg h2]
      obtain ⟨e, he, hz⟩ := fcheck_l l (by omega) l.length k 0 (by omega) (by omega)
      exact ⟨e, he, hz.trans ⟨fun h => ⟨by omega, by omega, fun j hj => h j (by omega) hj⟩, fun h j _ hj => h.2.2 j hj⟩⟩
theorem fcheck (l : List S28) (k : Nat) (hk : 130 ≤ k) : ∃ e, fly_Check.f k l = some e ∧ (e = 0 → PathOk l) := by
  obtain ⟨e, he, hz⟩ := fcheck_iff l k hk
  exact ⟨e, he, hz.1⟩
theorem times_lt {l : List S28} (h : PathOk l) : ∀ (d i : Nat), i + d + 1 < l.length → (Nd l i).f0 < (Nd l (i + d + 1)).f0
  | 0, i, hd => by have := (h.2.2 (i + 1) hd).2.2.1 (by omega); exact this
  | d + 1, i, hd => by
    have h1 := times_lt h d i (by omega)
    have h2 := (h.2.2 (i + d + 2) (by omega)).2.2.1 (by omega)
    have e : i + d + 2 - 1 = i + d + 1 := by omega
    rw [e] at h2
    have e2 : i + (d + 1) + 1 = i + d + 2 := by omega
    rw [e2]
    omega
theorem times_lt' {l : List S28} (h : PathOk l) {i j : Nat} (hij : i < j) (hj : j < l.length) : (Nd l i).f0 < (Nd l j).f0 := by
  have := times_lt h (j - i - 1) i (by omega)
  have e : i + (j - i - 1) + 1 = j := by omega
  rw [e] at this
  exact this
/-- The loop of Point. -/
theorem point_l {l : List S28} (h : PathOk l) (t : Int) : ∀ (d k i : Nat), i + d + 1 = l.length → d + 1 ≤ k → (Nd l i).f0 ≤ t →
    ∃ j m, i ≤ j ∧ j < l.length ∧ (Nd l j).f0 ≤ t ∧ (j + 1 < l.length → t < (Nd l (j + 1)).f0) ∧ k ≤ m + d + 1 ∧ fly_Point.l0 k l t (i : Int) = fly_Point.j1 m l t (j : Int)
  | 0, k, i, hi, hk, ht => by
    obtain ⟨k, rfl⟩ : ∃ m, k = m + 1 := ⟨k - 1, by omega⟩
    have hl := h.2.1
    rw [fly_Point.l0, w64 (by omega) (by omega), if_neg (by omega)]
    exact ⟨i, k, by omega, by omega, ht, fun _ => by omega, by omega, rfl⟩
  | d + 1, k, i, hi, hk, ht => by
    obtain ⟨k, rfl⟩ : ∃ m, k = m + 1 := ⟨k - 1, by omega⟩
    have hl := h.2.1
    rw [fly_Point.l0, w64 (by omega) (by omega), if_pos (by omega), if_pos (by omega), show ((i : Int) + 1) = ((i + 1 : Nat) : Int) by omega]
    have hN : rd_T28 l ((i + 1 : Nat) : Int) = Nd l (i + 1) := rfl
    rw [hN]
    by_cases c : (Nd l (i + 1)).f0 ≤ t
    · rw [if_pos c]
      obtain ⟨j, m, h1, h2, h3, h4, h5, h6⟩ := point_l h t d k (i + 1) (by omega) (by omega) c
      exact ⟨j, m, by omega, h2, h3, h4, by omega, h6⟩
    · rw [if_neg c]
      exact ⟨i, k, by omega, by omega, ht, fun _ => by omega, by omega, rfl⟩
/-- What At answers for a valid path at one of its times. -/
theorem fly_at {l : List S28} (h : PathOk l) {t : Int} (k : Nat) (hk : 200 ≤ k) (h0 : (Nd l 0).f0 ≤ t) (h1 : t ≤ (Nd l (l.length - 1)).f0) :
    (∃ j, j < l.length ∧ (Nd l j).f0 = t ∧ fly_Point.f k l t = some ((Nd l j).f0, (Nd l j).f1.f0, (Nd l j).f1.f1, (Nd l j).f2)) ∨
    ∃ j, j + 1 < l.length ∧ (Nd l j).f0 < t ∧ t < (Nd l (j + 1)).f0 ∧ fly_Point.f k l t = some (t,
      (Nd l j).f1.f0 + ((Nd l (j + 1)).f1.f0 - (Nd l j).f1.f0) * (t - (Nd l j).f0) / ((Nd l (j + 1)).f0 - (Nd l j).f0),
      (Nd l j).f1.f1 + ((Nd l (j + 1)).f1.f1 - (Nd l j).f1.f1) * (t - (Nd l j).f0) / ((Nd l (j + 1)).f0 - (Nd l j).f0),
      (Nd l j).f2 + ((Nd l (j + 1)).f2 - (Nd l j).f2) * (t - (Nd l j).f0) / ((Nd l (j + 1)).f0 - (Nd l j).f0)) := by
  obtain ⟨hl0, hl, hn⟩ := id h
  obtain ⟨j, m, _, hj, g1, g2, hm, e⟩ := point_l h t (l.length - 1) k 0 (by omega) (by omega) h0
  obtain ⟨m, rfl⟩ : ∃ q, m = q + 4 := ⟨m - 4, by omega⟩
  have hN : rd_T28 l (j : Int) = Nd l j := rfl
  have e0 : fly_Point.f k l t = fly_Point.j1 (m + 4) l t (j : Int) := e
  rw [e0, fly_Point.j1, if_pos (by omega), if_pos (by omega), hN]
  by_cases c : (Nd l j).f0 = t
  · left
    rw [if_pos c, fly_Point.j2, if_pos rfl]
    exact ⟨j, hj, c, rfl⟩
  · right
    have hj1 : j + 1 < l.length := by
      rcases Nat.lt_or_ge (j + 1) l.length with g | g
      · exact g
      · have : l.length - 1 = j := by omega
        rw [this] at h1
        omega
    have hb : (wrap64 ((j : Int) + 1) == (l.length : Int)) = false := by
      rw [w64 (by omega) (by omega)]
      exact beq_eq_false_iff_ne.mpr (by omega)
    obtain ⟨a1, a2, a3, a4, a5, a6⟩ := hn j hj
    obtain ⟨b1, b2, b3, b4, b5, b6⟩ := hn (j + 1) hj1
    have g3 := g2 hj1
    have hN' : rd_T28 l ((j + 1 : Nat) : Int) = Nd l (j + 1) := rfl
    rw [if_neg c, hb, fly_Point.j2, if_neg (by decide), w64 (x := (j : Int) + 1) (by omega) (by omega), if_pos (by omega), if_pos (by omega), show ((j : Int) + 1) = ((j + 1 : Nat) : Int) by omega, hN',
      w64 (x := t - (Nd l j).f0) (by omega) (by omega), w64 (x := (Nd l (j + 1)).f0 - (Nd l j).f0) (by omega) (by omega), toward m (by omega) (by omega) (by omega) (by omega) a4 b4, Option.bind_some]
    obtain ⟨m1, m2, m3, m4⟩ := lin_bd (D := (Nd l (j + 1)).f2 - (Nd l j).f2) (n := t - (Nd l j).f0) (d := (Nd l (j + 1)).f0 - (Nd l j).f0) (by omega) (by omega) (by omega) (by omega) (by omega) (by omega)
    rw [w64 (x := (Nd l (j + 1)).f2 - (Nd l j).f2) (by omega) (by omega), w64 (x := ((Nd l (j + 1)).f2 - (Nd l j).f2) * (t - (Nd l j).f0)) (by omega) (by omega), down_pos (m + 1) _ _ (by omega) (by omega) (by omega), Option.bind_some, w64 (by omega) (by omega)]
    exact ⟨j, hj1, by omega, g3, rfl⟩
/-- Node i of a tube. -/
def Tn (l : List S30) (i : Nat) : S30 := rd_T30 l (i : Int)
def NodeT (l : List S30) (j : Nat) : Prop :=
  (0 ≤ (Tn l j).f0.f0 ∧ (Tn l j).f0.f0 ≤ 200000) ∧ (0 < j → (Tn l (j - 1)).f0.f0 < (Tn l j).f0.f0) ∧ Ok (Tn l j).f0.f1.f0 (Tn l j).f0.f1.f1 ∧ (0 ≤ (Tn l j).f0.f2 ∧ (Tn l j).f0.f2 ≤ 60000) ∧ (0 ≤ (Tn l j).f1 ∧ (Tn l j).f1 ≤ 1000000) ∧ 0 ≤ (Tn l j).f2 ∧ (Tn l j).f2 ≤ 60000
theorem tcheck_l (l : List S30) (hl : l.length ≤ 64) : ∀ (d k i : Nat), i + d = l.length → 2 * d + 1 ≤ k →
    ∃ e, tube_Check.l0 k l l (l.length : Int) (i : Int) = some e ∧ (e = 0 → ∀ j, i ≤ j → j < l.length → NodeT l j)
  | 0, k, i, hi, hk => by
    obtain ⟨k, rfl⟩ : ∃ m, k = m + 1 := ⟨k - 1, by omega⟩
    rw [tube_Check.l0, if_neg (by omega)]
    exact ⟨0, rfl, fun _ j h1 h2 => by omega⟩
  | d + 1, k, i, hi, hk => by
    obtain ⟨k, rfl⟩ : ∃ m, k = m + 2 := ⟨k - 2, by omega⟩
    have hlt : i < l.length := by omega
    have hN : rd_T30 l (i : Int) = Tn l i := rfl
    obtain ⟨e', ih, ihz⟩ := tcheck_l l hl d k (i + 1) (by omega) (by omega)
    have j1 : ∀ b : Bool, (b = false → 0 ≤ (Tn l i).f0.f0 ∧ (Tn l i).f0.f0 ≤ 200000 ∧ (0 < i → (Tn l (i - 1)).f0.f0 < (Tn l i).f0.f0)) → ∃ e, tube_Check.j1 (k + 1) l l (l.length : Int) (i : Int) b (Tn l i).f0.f0 (Tn l i).f0.f1.f0 (Tn l i).f0.f1.f1 (Tn l i).f0.f2 (Tn l i).f1 (Tn l i).f2 = some e ∧ (e = 0 → ∀ j, i ≤ j → j < l.length → NodeT l j) := by
      intro b hb
      rw [tube_Check.j1]
      cases b with
      | true => rw [if_pos rfl]; exact ⟨12, rfl, fun h => by omega⟩
      | false =>
        obtain ⟨b1, b2, b3⟩ := hb rfl
        rw [if_neg (by decide), check_f, Option.bind_some]
        by_cases hp : Ok (Tn l i).f0.f1.f0 (Tn l i).f0.f1.f1
        · rw [if_pos hp, if_pos rfl]
          by_cases h1 : (Tn l i).f0.f2 < 0
          · rw [if_pos h1]; exact ⟨4, rfl, fun h => by omega⟩
          rw [if_neg h1]
          by_cases h2 : (Tn l i).f0.f2 > 60000
          · rw [if_pos h2]; exact ⟨4, rfl, fun h => by omega⟩
          rw [if_neg h2]
          by_cases h3 : (Tn l i).f1 < 0
          · rw [if_pos h3]; exact ⟨4, rfl, fun h => by omega⟩
          rw [if_neg h3]
          by_cases h4 : (Tn l i).f1 > 1000000
          · rw [if_pos h4]; exact ⟨4, rfl, fun h => by omega⟩
          rw [if_neg h4]
          by_cases h5 : (Tn l i).f2 < 0
          · rw [if_pos h5]; exact ⟨4, rfl, fun h => by omega⟩
          rw [if_neg h5]
          by_cases h6 : (Tn l i).f2 > 60000
          · rw [if_pos h6]; exact ⟨4, rfl, fun h => by omega⟩
          rw [if_neg h6, w64 (by omega) (by omega), show ((i : Int) + 1) = ((i + 1 : Nat) : Int) by omega, ih]
          refine ⟨e', rfl, fun h j g1 g2 => ?_⟩
          by_cases hij : j = i
          · rw [hij]; exact ⟨⟨b1, b2⟩, b3, hp, ⟨by omega, by omega⟩, ⟨by omega, by omega⟩, by omega, by omega⟩
          · exact ihz h j (by omega) g2
        · rw [if_neg hp, if_neg (by decide)]; exact ⟨4, rfl, fun h => by omega⟩
    rw [tube_Check.l0, if_pos (by omega), if_pos (by omega), if_pos (by omega), hN]
    by_cases h1 : (Tn l i).f0.f0 < 0
    · rw [if_pos h1]; exact j1 true (fun h => by cases h)
    · rw [if_neg h1]
      by_cases h2 : (Tn l i).f0.f0 > 200000
      · rw [if_pos h2]; exact j1 true (fun h => by cases h)
      · rw [if_neg h2]
        by_cases h3 : (i : Int) > 0
        · rw [if_pos h3, w64 (by omega) (by omega), if_pos (by omega), if_pos (by omega), show ((i : Int) - 1) = ((i - 1 : Nat) : Int) by omega]
          have hN' : rd_T30 l ((i - 1 : Nat) : Int) = Tn l (i - 1) := rfl
          rw [hN']
          refine j1 _ (fun h => ⟨by omega, by omega, fun _ => ?_⟩)
          have := of_decide_eq_false h
          omega
        · rw [if_neg h3]
          exact j1 false (fun _ => ⟨by omega, by omega, fun h => by omega⟩)
/-- A valid tube. -/
def TubeOk (l : List S30) : Prop := 0 < l.length ∧ l.length ≤ 64 ∧ ∀ j, j < l.length → NodeT l j
theorem tcheck (l : List S30) : ∃ e, (∀ k, 130 ≤ k → tube_Check.f k l = some e) ∧ (e = 0 → TubeOk l) := by
  have main : ∃ e, tube_Check.f 130 l = some e ∧ (e = 0 → TubeOk l) := by
    unfold tube_Check.f
    by_cases h1 : (l.length : Int) > 64
    · rw [if_pos h1]; exact ⟨2, rfl, fun h => by omega⟩
    · rw [if_neg h1]
      by_cases h2 : (l.length : Int) = 0
      · rw [if_pos h2]; exact ⟨3, rfl, fun h => by omega⟩
      · rw [if_neg h2]
        obtain ⟨e, he, hz⟩ := tcheck_l l (by omega) l.length 130 0 (by omega) (by omega)
        exact ⟨e, he, fun h => ⟨by omega, by omega, fun j hj => hz h j (by omega) hj⟩⟩
  obtain ⟨e, he, hz⟩ := main
  exact ⟨e, fun k hk => at_rounds (fun k => tube_Check.mono l k) hk he, hz⟩
theorem ttimes {l : List S30} (h : TubeOk l) : ∀ (d i : Nat), i + d + 1 < l.length → (Tn l i).f0.f0 < (Tn l (i + d + 1)).f0.f0
  | 0, i, hd => by have := (h.2.2 (i + 1) hd).2.1 (by omega); exact this
  | d + 1, i, hd => by
    have h1 := ttimes h d i (by omega)
    have h2 := (h.2.2 (i + d + 2) (by omega)).2.1 (by omega)
    have e : i + d + 2 - 1 = i + d + 1 := by omega
    rw [e] at h2
    have e2 : i + (d + 1) + 1 = i + d + 2 := by omega
    rw [e2]
    omega
theorem ttimes_lt {l : List S30} (h : TubeOk l) {i j : Nat} (hij : i < j) (hj : j < l.length) : (Tn l i).f0.f0 < (Tn l j).f0.f0 := by
  have := ttimes h (j - i - 1) i (by omega)
  have e : i + (j - i - 1) + 1 = j := by omega
  rw [e] at this
  exact this
/-- The place of a time in a tube. -/
def AtT (l : List S30) (t : Int) (j : Nat) : Prop := j < l.length ∧ (Tn l j).f0.f0 ≤ t ∧ (j + 1 < l.length → t < (Tn l (j + 1)).f0.f0)
theorem AtT.same {l : List S30} (h : TubeOk l) {t : Int} {i j : Nat} (hi : AtT l t i) (hj : AtT l t j) : i = j := by
  obtain ⟨i1, i2, i3⟩ := hi
  obtain ⟨j1, j2, j3⟩ := hj
  rcases Nat.lt_trichotomy i j with g | g | g
  · have := i3 (by omega)
    rcases Nat.lt_or_ge (i + 1) j with g2 | g2
    · have := ttimes_lt h g2 j1; omega
    · have : j = i + 1 := by omega
      subst this; omega
  · exact g
  · have := j3 (by omega)
    rcases Nat.lt_or_ge (j + 1) i with g2 | g2
    · have := ttimes_lt h g2 i1; omega
    · have : i = j + 1 := by omega
      subst this; omega
theorem at_l {l : List S30} (h : TubeOk l) (t : Int) : ∀ (d k i : Nat), i + d + 1 = l.length → d + 1 ≤ k → (Tn l i).f0.f0 ≤ t →
    ∃ j m, AtT l t j ∧ k ≤ m + d + 1 ∧ tube_at.l0 k l t (i : Int) = tube_at.j2 m l t (j : Int)
  | 0, k, i, hi, hk, ht => by
    obtain ⟨k, rfl⟩ : ∃ m, k = m + 1 := ⟨k - 1, by omega⟩
    have hl := h.2.1
    rw [tube_at.l0, w64 (by omega) (by omega), if_neg (by omega)]
    exact ⟨i, k, ⟨by omega, ht, fun _ => by omega⟩, by omega, rfl⟩
  | d + 1, k, i, hi, hk, ht => by
    obtain ⟨k, rfl⟩ : ∃ m, k = m + 1 := ⟨k - 1, by omega⟩
    have hl := h.2.1
    rw [tube_at.l0, w64 (by omega) (by omega), if_pos (by omega), if_pos (by omega), show ((i : Int) + 1) = ((i + 1 : Nat) : Int) by omega]
    have hN : rd_T30 l ((i + 1 : Nat) : Int) = Tn l (i + 1) := rfl
    rw [hN]
    by_cases c : (Tn l (i + 1)).f0.f0 ≤ t
    · rw [if_pos c]
      obtain ⟨j, m, h1, h5, h6⟩ := at_l h t d k (i + 1) (by omega) (by omega) c
      exact ⟨j, m, h1, by omega, h6⟩
    · rw [if_neg c]
      exact ⟨i, k, ⟨by omega, ht, fun _ => by omega⟩, by omega, rfl⟩
def lin (a b n d : Int) : Int := a + (b - a) * n / d
def linUp (a b n d : Int) : Int := a + (if (b - a) * n % d = 0 then (b - a) * n / d else (b - a) * n / d + 1)
theorem between_f (k : Nat) {a b n d : Int} (h0 : 0 < d) (h1 : d ≤ 200000) (h2 : 0 ≤ n) (h3 : n ≤ d) (a1 : 0 ≤ a) (a2 : a ≤ 1000000) (b1 : 0 ≤ b) (b2 : b ≤ 1000000) : tube_between.f (k + 1) a b n d = some (lin a b n d) := by
  obtain ⟨m1, m2, m3, m4⟩ := lin_bd h0 h1 h2 h3 (show -2000000 ≤ b - a by omega) (show b - a ≤ 2000000 by omega)
  unfold tube_between.f lin
  rw [w64 (x := b - a) (by omega) (by omega), w64 (x := (b - a) * n) (by omega) (by omega), down_pos k _ d (by omega) (by omega) h0, Option.bind_some, w64 (by omega) (by omega)]
theorem above_f (k : Nat) {a b n d : Int} (h0 : 0 < d) (h1 : d ≤ 200000) (h2 : 0 ≤ n) (h3 : n ≤ d) (a1 : 0 ≤ a) (a2 : a ≤ 1000000) (b1 : 0 ≤ b) (b2 : b ≤ 1000000) : tube_above.f (k + 1) a b n d = some (linUp a b n d) := by
  obtain ⟨m1, m2, m3, m4⟩ := lin_bd h0 h1 h2 h3 (show -2000000 ≤ b - a by omega) (show b - a ≤ 2000000 by omega)
  unfold tube_above.f linUp
  rw [w64 (x := b - a) (by omega) (by omega), w64 (x := (b - a) * n) (by omega) (by omega), up_pos k _ d (by omega) (by omega) h0, Option.bind_some, w64 (by dsimp only; split <;> omega) (by dsimp only; split <;> omega)]
/-- A tube's node at a time between node j and the next. -/
def mid (l : List S30) (t : Int) (j : Nat) : Int × Int × Int × Int × Int × Int × Int :=
  let a := Tn l j
  let b := Tn l (j + 1)
  let n := t - a.f0.f0
  let d := b.f0.f0 - a.f0.f0
  (t, a.f0.f1.f0 + (b.f0.f1.f0 - a.f0.f1.f0) * n / d, a.f0.f1.f1 + (b.f0.f1.f1 - a.f0.f1.f1) * n / d, lin a.f0.f2 b.f0.f2 n d, linUp a.f1 b.f1 n d, linUp a.f2 b.f2 n d, 0)
/-- What at answers inside a valid tube's time. -/
def ins (l : List S30) (t : Int) (j : Nat) : Int × Int × Int × Int × Int × Int × Int :=
  if (Tn l j).f0.f0 = t then ((Tn l j).f0.f0, (Tn l j).f0.f1.f0, (Tn l j).f0.f1.f1, (Tn l j).f0.f2, (Tn l j).f1, (Tn l j).f2, 0) else mid l t j
theorem at_f {l : List S30} (h : TubeOk l) (t : Int) :
    ((t < (Tn l 0).f0.f0 ∨ t > (Tn l (l.length - 1)).f0.f0) ∧ ∀ k, 200 ≤ k → tube_at.f k l t = some (0, 0, 0, 0, 0, 0, 12)) ∨
    (((Tn l 0).f0.f0 ≤ t ∧ t ≤ (Tn l (l.length - 1)).f0.f0) ∧ ∃ j, AtT l t j ∧ (j + 1 = l.length → (Tn l j).f0.f0 = t) ∧ ∀ k, 200 ≤ k → tube_at.f k l t = some (ins l t j)) := by
  obtain ⟨hl0, hl, hn⟩ := id h
  have n0 : rd_T30 l 0 = Tn l 0 := rfl
  have n1 : rd_T30 l ((l.length - 1 : Nat) : Int) = Tn l (l.length - 1) := rfl
  have hat : ∀ k, tube_at.f (k + 1) l t = if t < (Tn l 0).f0.f0 then some (0, 0, 0, 0, 0, 0, 12) else if t > (Tn l (l.length - 1)).f0.f0 then some (0, 0, 0, 0, 0, 0, 12) else tube_at.l0 k l t 0 := by
    intro k
    unfold tube_at.f
    rw [if_pos (show (0 : Int) < (l.length : Int) by omega), n0]
    by_cases c1 : t < (Tn l 0).f0.f0
    · rw [if_pos c1, if_pos c1, tube_at.j0, if_pos rfl]
    · rw [if_neg c1, if_neg c1, w64 (x := (l.length : Int) - 1) (by omega) (by omega), if_pos (show (0 : Int) ≤ (l.length : Int) - 1 by omega), if_pos (show (l.length : Int) - 1 < (l.length : Int) by omega), show ((l.length : Int) - 1) = ((l.length - 1 : Nat) : Int) by omega, n1]
      by_cases c2 : t > (Tn l (l.length - 1)).f0.f0
      · rw [if_pos c2, tube_at.j0, if_pos (decide_eq_true c2)]
      · rw [if_neg c2, tube_at.j0, if_neg (by simpa using c2)]
  by_cases c1 : t < (Tn l 0).f0.f0
  · left
    refine ⟨Or.inl c1, fun k hk => ?_⟩
    obtain ⟨k, rfl⟩ : ∃ m, k = m + 1 := ⟨k - 1, by omega⟩
    rw [hat, if_pos c1]
  · by_cases c2 : t > (Tn l (l.length - 1)).f0.f0
    · left
      refine ⟨Or.inr c2, fun k hk => ?_⟩
      obtain ⟨k, rfl⟩ : ∃ m, k = m + 1 := ⟨k - 1, by omega⟩
      rw [hat, if_neg c1, if_pos c2]
    · right
      refine ⟨⟨by omega, by omega⟩, ?_⟩
      have one : ∀ k, 200 ≤ k → ∃ j, AtT l t j ∧ (j + 1 = l.length → (Tn l j).f0.f0 = t) ∧ tube_at.f k l t = some (ins l t j) := by
        intro k hk
        obtain ⟨k, rfl⟩ : ∃ m, k = m + 1 := ⟨k - 1, by omega⟩
        rw [hat, if_neg c1, if_neg c2]
        obtain ⟨j, m, ha, hm, e⟩ := at_l h t (l.length - 1) k 0 (by omega) (by omega) (by omega)
        obtain ⟨m, rfl⟩ : ∃ q, m = q + 4 := ⟨m - 4, by omega⟩
        obtain ⟨hj, g1, g2⟩ := id ha
        have hN : rd_T30 l (j : Int) = Tn l j := rfl
        have hlast : j + 1 = l.length → (Tn l j).f0.f0 = t := by
          intro hjl
          have : l.length - 1 = j := by omega
          rw [this] at c2
          omega
        refine ⟨j, ha, hlast, ?_⟩
        have e0 : tube_at.l0 k l t 0 = tube_at.j2 (m + 4) l t (j : Int) := e
        rw [e0, tube_at.j2, if_pos (by omega), if_pos (by omega), hN]
        unfold ins
        by_cases c : (Tn l j).f0.f0 = t
        · rw [if_pos c, if_pos c]
        · have hj1 : j + 1 < l.length := by
            rcases Nat.lt_or_ge (j + 1) l.length with g | g
            · exact g
            · exact absurd (hlast (by omega)) c
          have g3 := g2 hj1
          obtain ⟨a1, a2, a3, a4, a5, a6⟩ := hn j hj
          obtain ⟨b1, b2, b3, b4, b5, b6⟩ := hn (j + 1) hj1
          have hN' : rd_T30 l ((j + 1 : Nat) : Int) = Tn l (j + 1) := rfl
          rw [if_neg c, if_neg c, w64 (x := (j : Int) + 1) (by omega) (by omega), if_pos (by omega), if_pos (by omega), show ((j : Int) + 1) = ((j + 1 : Nat) : Int) by omega, hN',
            w64 (x := t - (Tn l j).f0.f0) (by omega) (by omega), w64 (x := (Tn l (j + 1)).f0.f0 - (Tn l j).f0.f0) (by omega) (by omega), toward (m + 1) (by omega) (by omega) (by omega) (by omega) a3 b3, Option.bind_some,
            between_f (m + 2) (by omega) (by omega) (by omega) (by omega) (by omega) (by omega) (by omega) (by omega), Option.bind_some,
            above_f (m + 2) (by omega) (by omega) (by omega) (by omega) (by omega) (by omega) (by omega) (by omega), Option.bind_some,
            above_f (m + 2) (by omega) (by omega) (by omega) (by omega) (by omega) (by omega) (by omega) (by omega), Option.bind_some]
          rfl
      obtain ⟨j, ha, hlast, _⟩ := one 200 (by decide)
      refine ⟨j, ha, hlast, fun k hk => ?_⟩
      obtain ⟨j', ha', _, e⟩ := one k hk
      rw [e, AtT.same h ha' ha]
/-- The tube's node that Of makes of a path's node. -/
def ofN (t0 radius growth band : Int) (n : S28) : S30 :=
  ⟨⟨n.f0, ⟨n.f1.f0, n.f1.f1⟩, n.f2⟩, wrap64 (radius + (if growth * (n.f0 - t0) % 60 = 0 then growth * (n.f0 - t0) / 60 else growth * (n.f0 - t0) / 60 + 1)), band⟩
theorem of_l (l : List S28) (h : PathOk l) (radius growth band : Int) (g1 : 0 ≤ growth) (g2 : growth ≤ 1000000) {e : Int} (he : ∀ k, 130 ≤ k → tube_Check.f k (l.map (ofN (Nd l 0).f0 radius growth band)) = some e) : ∀ (d k i : Nat), i + d = l.length → d + 140 ≤ k →
    tube_Of.l0 k l radius growth band ((l.take i).map (ofN (Nd l 0).f0 radius growth band)) l (l.length : Int) (i : Int) = if e = 0 then some (l.map (ofN (Nd l 0).f0 radius growth band), 0) else some ([], 4)
  | 0, k, i, hi, hk => by
    obtain ⟨k, rfl⟩ : ∃ m, k = m + 1 := ⟨k - 1, by omega⟩
    rw [tube_Of.l0, if_neg (by omega), List.take_of_length_le (by omega), he k (by omega), Option.bind_some]
  | d + 1, k, i, hi, hk => by
    obtain ⟨k, rfl⟩ : ∃ m, k = m + 2 := ⟨k - 2, by omega⟩
    have hlt : i < l.length := by omega
    have hl := h.2.1
    have hN : rd_T28 l (i : Int) = Nd l i := rfl
    have hN0 : rd_T28 l 0 = Nd l 0 := rfl
    have e1 : Nd l i = l[i] := by unfold Nd rd_T28; rw [Int.toNat_natCast, List.getD_eq_getElem?_getD, List.getElem?_eq_getElem hlt]; rfl
    have ih := of_l l h radius growth band g1 g2 he d (k + 1) (i + 1) (by omega) (by omega)
    obtain ⟨a1, a2, _⟩ := h.2.2 i hlt
    obtain ⟨b1, b2, _⟩ := h.2.2 0 h.1
    have t1 : (Nd l 0).f0 ≤ (Nd l i).f0 := by
      rcases Nat.eq_zero_or_pos i with g | g
      · rw [g]; exact Int.le_refl _
      · have := times_lt' h g hlt; omega
    have m := mul_bd (show -1000000 ≤ growth by omega) g2 (show -200000 ≤ (Nd l i).f0 - (Nd l 0).f0 by omega) (show (Nd l i).f0 - (Nd l 0).f0 ≤ 200000 by omega)
    rw [tube_Of.l0, if_pos (by omega), if_pos (by omega), if_pos (by omega), if_pos (by omega), hN, hN0, w64 (x := (Nd l i).f0 - (Nd l 0).f0) (by omega) (by omega), w64 (x := growth * ((Nd l i).f0 - (Nd l 0).f0)) (by omega) (by omega), up_pos k _ 60 (by omega) (by omega) (by omega), Option.bind_some, if_pos (by rw [List.length_map, List.length_take]; omega),
      w64 (x := (i : Int) + 1) (by omega) (by omega), show ((i : Int) + 1) = ((i + 1 : Nat) : Int) by omega]
    rw [List.take_succ_eq_append_getElem hlt, List.map_append, List.map_singleton, ← e1] at ih
    exact ih
theorem tubeWorks (k : Nat) (hk : 100 ≤ k) : skywaykeep1_tubeWorks.f k = some true := by
  have h : skywaykeep1_tubeWorks.f 100 = some true := by decide +kernel
  exact at_rounds skywaykeep1_tubeWorks.mono hk h
theorem lin_mid {D n d : Int} (h0 : 0 < d) (h2 : 0 ≤ n) (h3 : n ≤ d) : (0 ≤ D → 0 ≤ D * n / d ∧ D * n / d ≤ D) ∧ (D ≤ 0 → D ≤ D * n / d ∧ D * n / d ≤ 0) := by
  refine ⟨fun h => ⟨Int.ediv_nonneg (Int.mul_nonneg h h2) (by omega), ?_⟩, fun h => ⟨?_, ?_⟩⟩
  · have : D * n / d < D + 1 := by
      refine (Int.ediv_lt_iff_lt_mul h0).2 ?_
      have := Int.mul_le_mul_of_nonneg_left h3 h
      rw [Int.add_mul]
      omega
    omega
  · refine (Int.le_ediv_iff_mul_le h0).2 ?_
    have := Int.mul_le_mul_of_nonneg_left h3 (show 0 ≤ -D by omega)
    simp only [Int.neg_mul] at this
    omega
  · have : D * n / d < 1 := by
      refine (Int.ediv_lt_iff_lt_mul h0).2 ?_
      have := Int.mul_nonneg (show 0 ≤ -D by omega) h2
      simp only [Int.neg_mul] at this
      omega
    omega
theorem linUp_bd {a b n d lo' hi' : Int} (h0 : 0 < d) (h2 : 0 ≤ n) (h3 : n ≤ d) (a1 : lo' ≤ a) (a2 : a ≤ hi') (b1 : lo' ≤ b) (b2 : b ≤ hi') : lo' ≤ linUp a b n d ∧ linUp a b n d ≤ hi' := by
  obtain ⟨m1, m2⟩ := lin_mid (D := b - a) h0 h2 h3
  have e := Int.mul_ediv_add_emod ((b - a) * n) d
  have r0 := Int.emod_nonneg ((b - a) * n) (show d ≠ 0 by omega)
  unfold linUp
  by_cases c : (b - a) * n % d = 0
  · rw [if_pos c]
    rcases Int.le_total 0 (b - a) with g | g
    · have := m1 g; omega
    · have := m2 g; omega
  · rw [if_neg c]
    rcases Int.le_total 0 (b - a) with g | g
    · have := m1 g
      have : (b - a) * n / d < b - a := by
        rcases Int.lt_or_le ((b - a) * n / d) (b - a) with q | q
        · exact q
        · exfalso
          have q1 := Int.mul_le_mul_of_nonneg_left q (show 0 ≤ d by omega)
          have q2 := Int.mul_le_mul_of_nonneg_left h3 g
          rw [Int.mul_comm (b - a) d] at q2
          omega
      omega
    · have := m2 g
      have : (b - a) * n / d < 0 := by
        rcases Int.lt_or_le ((b - a) * n / d) 0 with q | q
        · exact q
        · exfalso
          have q0 : (b - a) * n / d = 0 := by omega
          rw [q0, Int.mul_zero, Int.zero_add] at e
          have := Int.mul_nonneg (show 0 ≤ -(b - a) by omega) h2
          rw [Int.neg_mul] at this
          omega
      omega
theorem lin_bd2 {a b n d lo' hi' : Int} (h0 : 0 < d) (h2 : 0 ≤ n) (h3 : n ≤ d) (a1 : lo' ≤ a) (a2 : a ≤ hi') (b1 : lo' ≤ b) (b2 : b ≤ hi') : lo' ≤ a + (b - a) * n / d ∧ a + (b - a) * n / d ≤ hi' := by
  obtain ⟨m1, m2⟩ := lin_mid (D := b - a) h0 h2 h3
  rcases Int.le_total 0 (b - a) with g | g
  · have := m1 g; omega
  · have := m2 g; omega
theorem sS (px py x y : Int) : S (px - (px + x)) (py - (py + y)) = x * x + y * y := by unfold S; grind
/-- Has at a time where the tube's node is known. -/
theorem has_f {l : List S30} {t px py hh r bb : Int} (k : Nat) (hat : tube_At.f k l t = some (t, px, py, hh, r, bb, 0)) (hp : Ok px py) (h1 : 0 ≤ hh) (h2 : hh ≤ 60000) (r1 : 0 ≤ r) (r2 : r ≤ 1000000) (b1 : 0 ≤ bb) (x y : Int) :
    (Ok x y ∧ tube_Has.f k l t x y hh = some (decide (S (px - x) (py - y) ≤ r * r), 0)) ∨ tube_Has.f k l t x y hh = some (false, 4) := by
  unfold tube_Has.f
  rw [hat, Option.bind_some, if_pos rfl, check_f, Option.bind_some]
  dsimp only
  by_cases hq : Ok x y
  · left
    refine ⟨hq, ?_⟩
    obtain ⟨p1, p2, p3, p4⟩ := hp
    obtain ⟨q1, q2, q3, q4⟩ := id hq
    have z : wrap64 (hh - hh) = 0 := by rw [Int.sub_self]; exact w64 (by decide) (by decide)
    have z2 : mx 0 0 = 0 := rfl
    rw [if_pos hq, if_pos rfl, if_neg (by omega), if_neg (by omega), within (by omega) (by omega) (by omega) (by omega), Option.bind_some, z, z2]
    by_cases c : S (px - x) (py - y) ≤ r * r
    · rw [if_pos (decide_eq_true ⟨r1, by omega, c⟩), decide_eq_true c, decide_eq_true b1]
    · rw [if_neg (by simpa using fun _ _ => Int.not_le.1 c), decide_eq_false c]
  · right
    rw [if_neg hq, if_neg (by decide)]
theorem TubeNominal : skywaykeep1_TubeNominal.Pure := by
  intro l radius growth band t0 bx b_y _ _ _ _ _ _ _
  refine ⟨400, ?_⟩
  unfold skywaykeep1_TubeNominal.f
  rw [tubeWorks 400 (by decide), Option.bind_some, if_pos rfl]
  obtain ⟨e, he, hz⟩ := fcheck_iff l 400 (by decide)
  by_cases h0 : e = 0
  · have h := hz.1 h0
    subst h0
    obtain ⟨hl0, hl, hn⟩ := id h
    by_cases hr : (0 ≤ radius ∧ radius ≤ 1000000) ∧ (0 ≤ growth ∧ growth ≤ 1000000) ∧ 0 ≤ band ∧ band ≤ 60000
    · obtain ⟨⟨r1, r2⟩, ⟨g1, g2⟩, b1, b2⟩ := hr
      obtain ⟨e', he', hz'⟩ := tcheck (l.map (ofN (Nd l 0).f0 radius growth band))
      have hof : tube_Of.f 400 l radius growth band = if e' = 0 then some (l.map (ofN (Nd l 0).f0 radius growth band), 0) else some ([], 4) := by
        unfold tube_Of.f
        rw [he, Option.bind_some, if_pos rfl, if_neg (by omega), if_neg (by omega), if_neg (by omega), if_neg (by omega), if_neg (by omega), show (400 : Nat) = 399 + 1 from rfl, tube_Of.j0, if_neg (by simp; omega)]
        exact of_l l h radius growth band g1 g2 he' l.length 399 0 (by omega) (by omega)
      rw [hof]
      by_cases h1 : e' = 0
      · have hx := hz' h1
        subst h1
        have n0 : rd_T28 l 0 = Nd l 0 := rfl
        have n1 : rd_T28 l ((l.length - 1 : Nat) : Int) = Nd l (l.length - 1) := rfl
        rw [if_pos rfl, Option.bind_some, if_pos rfl, if_pos (show (0 : Int) < (l.length : Int) by omega), n0]
        dsimp only
        obtain ⟨x, hxe⟩ : ∃ x, x = l.map (ofN (Nd l 0).f0 radius growth band) := ⟨_, rfl⟩
        rw [← hxe] at hx he' ⊢
        have len : x.length = l.length := by rw [hxe]; exact List.length_map _
        have sa : ∀ {i : Nat}, i < l.length → (Tn x i).f0.f0 = (Nd l i).f0 ∧ (Tn x i).f0.f1.f0 = (Nd l i).f1.f0 ∧ (Tn x i).f0.f1.f1 = (Nd l i).f1.f1 ∧ (Tn x i).f0.f2 = (Nd l i).f2 ∧ radius ≤ (Tn x i).f1 ∧ (Tn x i).f2 = band := by
          intro i hi
          have e1 : Nd l i = l[i] := by unfold Nd rd_T28; rw [Int.toNat_natCast, List.getD_eq_getElem?_getD, List.getElem?_eq_getElem hi]; rfl
          have e2 : Tn x i = ofN (Nd l 0).f0 radius growth band (Nd l i) := by
            rw [e1, hxe]
            unfold Tn rd_T30
            rw [Int.toNat_natCast, List.getD_eq_getElem?_getD, List.getElem?_map, List.getElem?_eq_getElem hi]; rfl
          rw [e2]
          refine ⟨rfl, rfl, rfl, rfl, ?_, rfl⟩
          obtain ⟨a1, a2, _⟩ := hn i hi
          obtain ⟨c1, c2, _⟩ := hn 0 hl0
          have t1 : (Nd l 0).f0 ≤ (Nd l i).f0 := by
            rcases Nat.eq_zero_or_pos i with g | g
            · rw [g]; exact Int.le_refl _
            · have := times_lt' h g hi; omega
          have m := mul_bd (show -1000000 ≤ growth by omega) g2 (show -200000 ≤ (Nd l i).f0 - (Nd l 0).f0 by omega) (show (Nd l i).f0 - (Nd l 0).f0 ≤ 200000 by omega)
          have m0 := Int.mul_nonneg g1 (show 0 ≤ (Nd l i).f0 - (Nd l 0).f0 by omega)
          show radius ≤ wrap64 (radius + _)
          rw [w64 (by split <;> omega) (by split <;> omega)]
          split <;> omega
        obtain ⟨a1, a2, _⟩ := hn 0 hl0
        have k1 := tmod_bd t0 (show (0 : Int) < 1000 by decide)
        rw [w64 (x := Int.tmod t0 1000 + 1000) (by omega) (by omega), Int.tmod_eq_emod_of_nonneg (show 0 ≤ Int.tmod t0 1000 + 1000 by omega), w64 (x := (Nd l 0).f0 + (Int.tmod t0 1000 + 1000) % 1000) (by omega) (by omega)]
        have t1 : (Nd l 0).f0 ≤ (Nd l 0).f0 + (Int.tmod t0 1000 + 1000) % 1000 := by omega
        have t2 : (Nd l 0).f0 + (Int.tmod t0 1000 + 1000) % 1000 ≤ 300000 := by omega
        generalize (Nd l 0).f0 + (Int.tmod t0 1000 + 1000) % 1000 = t at *
        have hfl : fly_At.f 400 l t = if t > (Nd l (l.length - 1)).f0 then some (0, 0, 0, 0, 12) else (fly_Point.f 400 l t).bind fun p => some (p.1, p.2.1, p.2.2.1, p.2.2.2, 0) := by
          unfold fly_At.f
          rw [he, Option.bind_some, if_pos rfl, if_pos (show (0 : Int) < (l.length : Int) by omega), n0, if_neg (by omega), w64 (x := (l.length : Int) - 1) (by omega) (by omega), if_pos (show (0 : Int) ≤ (l.length : Int) - 1 by omega), if_pos (show (l.length : Int) - 1 < (l.length : Int) by omega), show ((l.length : Int) - 1) = ((l.length - 1 : Nat) : Int) by omega, n1]
        have hta : ∀ k v, 200 ≤ k → tube_at.f k x t = some v → tube_At.f k x t = some v := by
          intro k v hk hv
          unfold tube_At.f
          rw [he' k (by omega), Option.bind_some, if_pos rfl, hv, Option.bind_some]
        rw [hfl]
        have lastx : (Tn x (x.length - 1)).f0.f0 = (Nd l (l.length - 1)).f0 := by rw [len]; exact (sa (by omega)).1
        have firstx : (Tn x 0).f0.f0 = (Nd l 0).f0 := (sa hl0).1
        by_cases c : t > (Nd l (l.length - 1)).f0
        · rw [if_pos c, Option.bind_some]
          dsimp only
          rcases at_f hx t with ⟨_, ea⟩ | ⟨⟨_, q⟩, _⟩
          · have : tube_Has.f 400 x t 0 0 0 = some (false, 12) := by
              unfold tube_Has.f
              rw [hta 400 _ (by decide) (ea 400 (by decide)), Option.bind_some, if_neg (by decide)]
            rw [this, Option.bind_some, if_neg (by decide), if_pos rfl]
            rfl
          · omega
        · rw [if_neg c]
          have main : ∃ px py hh r bb, fly_Point.f 400 l t = some (t, px, py, hh) ∧ (∀ k, 200 ≤ k → tube_At.f k x t = some (t, px, py, hh, r, bb, 0)) ∧ Ok px py ∧ (0 ≤ hh ∧ hh ≤ 60000) ∧ (radius ≤ r ∧ r ≤ 1000000) ∧ 0 ≤ bb := by
            rcases at_f hx t with ⟨q, _⟩ | ⟨_, j', ja, jl, ea⟩
            · omega
            · have hj' := ja.1
              rw [len] at hj'
              rcases fly_at h (t := t) 400 (by decide) t1 (by omega) with ⟨j, hj, hjt, ep⟩ | ⟨j, hj, p1, p2, ep⟩
              · have hjj : j' = j := by
                  refine AtT.same hx ja ⟨by omega, by rw [(sa hj).1]; omega, fun g => ?_⟩
                  rw [(sa (show j + 1 < l.length by omega)).1]
                  have := times_lt' h (show j < j + 1 by omega) (show j + 1 < l.length by omega)
                  omega
                subst hjj
                obtain ⟨s1, s2, s3, s4, s5, s6⟩ := sa hj
                obtain ⟨_, _, o1, o2, ⟨o3, o4⟩, o5, o6⟩ := hx.2.2 j' ja.1
                refine ⟨_, _, _, (Tn x j').f1, (Tn x j').f2, by rw [ep, hjt], fun k hk => ?_, (hn j' hj).2.2.2.1, (hn j' hj).2.2.2.2, ⟨s5, o4⟩, o5⟩
                rw [hta k _ hk (ea k hk)]
                unfold ins
                rw [if_pos (by omega), s1, s2, s3, s4, hjt]
              · have hjj : j' = j := by
                  refine AtT.same hx ja ⟨by omega, by rw [(sa (show j < l.length by omega)).1]; omega, fun g => ?_⟩
                  rw [(sa (show j + 1 < l.length by omega)).1]
                  exact p2
                subst hjj
                obtain ⟨s1, s2, s3, s4, s5, s6⟩ := sa (show j' < l.length by omega)
                obtain ⟨u1, u2, u3, u4, u5, u6⟩ := sa (show j' + 1 < l.length by omega)
                obtain ⟨_, _, o1, o2, ⟨o3, o4⟩, o5, o6⟩ := hx.2.2 j' ja.1
                obtain ⟨_, _, v1, v2, ⟨v3, v4⟩, v5, v6⟩ := hx.2.2 (j' + 1) (by omega)
                obtain ⟨_, _, _, ⟨w1, w2, w3, w4⟩, w5, w6⟩ := hn j' (by omega)
                obtain ⟨_, _, _, ⟨y1, y2, y3, y4⟩, y5, y6⟩ := hn (j' + 1) hj
                have B1 := lin_bd2 (n := t - (Nd l j').f0) (d := (Nd l (j' + 1)).f0 - (Nd l j').f0) (by omega) (by omega) (by omega) w1 w2 y1 y2
                have B2 := lin_bd2 (n := t - (Nd l j').f0) (d := (Nd l (j' + 1)).f0 - (Nd l j').f0) (by omega) (by omega) (by omega) w3 w4 y3 y4
                have B3 := lin_bd2 (n := t - (Nd l j').f0) (d := (Nd l (j' + 1)).f0 - (Nd l j').f0) (by omega) (by omega) (by omega) w5 w6 y5 y6
                have B4 := linUp_bd (n := t - (Nd l j').f0) (d := (Nd l (j' + 1)).f0 - (Nd l j').f0) (by omega) (by omega) (by omega) s5 o4 u5 v4
                have B5 := linUp_bd (n := t - (Nd l j').f0) (d := (Nd l (j' + 1)).f0 - (Nd l j').f0) (by omega) (by omega) (by omega) o5 o6 v5 v6
                refine ⟨_, _, _, linUp (Tn x j').f1 (Tn x (j' + 1)).f1 (t - (Nd l j').f0) ((Nd l (j' + 1)).f0 - (Nd l j').f0), linUp (Tn x j').f2 (Tn x (j' + 1)).f2 (t - (Nd l j').f0) ((Nd l (j' + 1)).f0 - (Nd l j').f0), ep, fun k hk => ?_, ⟨B1.1, B1.2, B2.1, B2.2⟩, B3, B4, B5.1⟩
                rw [hta k _ hk (ea k hk)]
                unfold ins mid
                rw [if_neg (by omega)]
                dsimp only
                rw [s1, s2, s3, s4, u1, u2, u3, u4]
                rfl
          obtain ⟨px, py, hh, r, bb, ep, et, hp, ⟨h2, h3⟩, ⟨r3, r4⟩, b3⟩ := main
          rw [ep, Option.bind_some, Option.bind_some]
          dsimp only
          have hin : tube_Has.f 400 x t px py hh = some (true, 0) := by
            rcases has_f 400 (et 400 (by decide)) hp h2 h3 (by omega) r4 b3 px py with ⟨_, q⟩ | q
            · rw [q, Int.sub_self, Int.sub_self]
              have := sq_nonneg r
              rw [decide_eq_true (show S 0 0 ≤ r * r from this)]
            · exfalso
              unfold tube_Has.f at q
              obtain ⟨p1, p2, p3, p4⟩ := id hp
              rw [et 400 (by decide), Option.bind_some, if_pos rfl, check_f, Option.bind_some] at q
              dsimp only at q
              rw [if_pos hp, if_pos rfl, if_neg (by omega), if_neg (by omega), within (by omega) (by omega) (by omega) (by omega), Option.bind_some] at q
              split at q <;> simp at q
          rw [hin, Option.bind_some, if_pos rfl, et 400 (by decide), Option.bind_some, if_pos rfl, if_pos rfl, if_pos rfl, if_neg (by simp), decide_eq_false (show ¬ r < radius by omega), show (400 : Nat) = 399 + 1 from rfl, skywaykeep1_TubeNominal.j0, if_neg (by decide)]
          have m1 := tmod_bd bx (show (0 : Int) < 1000 by decide)
          have m2 := tmod_bd b_y (show (0 : Int) < 1000 by decide)
          generalize Int.tmod bx 1000 = u at *
          generalize Int.tmod b_y 1000 = v at *
          obtain ⟨p1, p2, p3, p4⟩ := id hp
          unfold plane_Add.f
          rw [Option.bind_some, w64 (x := px + u) (by omega) (by omega), w64 (x := py + v) (by omega) (by omega)]
          dsimp only
          rcases has_f 399 (et 399 (by decide)) hp h2 h3 (by omega) r4 b3 (px + u) (py + v) with ⟨_, q⟩ | q
          · have z1 := sq_bd (show -1000 ≤ u by omega) (show u ≤ 1000 by omega)
            have z2 := sq_bd (show -1000 ≤ v by omega) (show v ≤ 1000 by omega)
            have z3 := sq_nonneg u
            have z4 := sq_nonneg v
            have z5 := sq_bd (show -1000000 ≤ r by omega) r4
            have z6 := sq_nonneg r
            rw [q, Option.bind_some, if_pos rfl, sS, w64 (x := u * u) (by omega) (by omega), w64 (x := v * v) (by omega) (by omega), w64 (x := u * u + v * v) (by omega) (by omega), w64 (x := r * r) (by omega) (by omega)]
            simp
          · rw [q, Option.bind_some, if_neg (by decide)]
      · rw [if_neg h1, Option.bind_some, if_neg (by decide)]
        rfl
    · have hof : tube_Of.f 400 l radius growth band = some ([], 4) := by
        unfold tube_Of.f
        rw [he, Option.bind_some, if_pos rfl]
        have t4 : tube_Of.j0 400 l radius growth band true = some ([], 4) := by rw [show (400 : Nat) = 399 + 1 from rfl, tube_Of.j0, if_pos rfl]
        by_cases c1 : radius < 0
        · rw [if_pos c1, t4]
        rw [if_neg c1]
        by_cases c2 : radius > 1000000
        · rw [if_pos c2, t4]
        rw [if_neg c2]
        by_cases c3 : growth < 0
        · rw [if_pos c3, t4]
        rw [if_neg c3]
        by_cases c4 : growth > 1000000
        · rw [if_pos c4, t4]
        rw [if_neg c4]
        by_cases c5 : band < 0
        · rw [if_pos c5, t4]
        rw [if_neg c5, decide_eq_true (show band > 60000 by
          rcases Int.lt_or_le 60000 band with g | g
          · exact g
          · exact absurd ⟨⟨by omega, by omega⟩, ⟨by omega, by omega⟩, by omega, g⟩ hr), t4]
      rw [hof, Option.bind_some, if_neg (by decide)]
      rfl
  · have hof : tube_Of.f 400 l radius growth band = some ([], e) := by
      unfold tube_Of.f
      rw [he, Option.bind_some, if_neg h0]
    rw [hof, Option.bind_some, if_neg h0]
    rfl

end Go.Proofs.Yteaddpieonkboab.Pure
