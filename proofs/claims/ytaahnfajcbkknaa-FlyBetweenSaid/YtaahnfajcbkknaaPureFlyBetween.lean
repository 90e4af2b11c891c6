/- FlyBetween: for all paths and times At's answer lies on the straight way between the nodes about the time, with a height between theirs. -/
import Derived.Test.YtaahnfajcbkknaaPFlyBetweenx
import Derived.Test.YtaahnfajcbkknaaMath
namespace Go.Proofs.Ytaahnfajcbkknaa.Pure
open Go Go.RowKit Go.Proofs.Ytaahnfajcbkknaa.PFlyBetween Go.Proofs.YtaahnfajcbkknaaW.PrintWords Go.Proofs.YtaahnfajcbkknaaW.PrintLast Go.Proofs.YtaahnfajcbkknaaM

/-- A permitted coordinate. -/
def Ok (x y : Int) : Prop := -1000000 ≤ x ∧ x ≤ 1000000 ∧ -1000000 ≤ y ∧ y ≤ 1000000
instance (x y : Int) : Decidable (Ok x y) := inferInstanceAs (Decidable (_ ∧ _))
theorem down (k : Nat) (a b : Int) (a1 : -9223372036854775808 ≤ a) (a2 : a ≤ 9223372036854775807) (hb : b ≠ 0) (hno : ¬ (a = -9223372036854775808 ∧ b = -1)) : num_DivDown.f (k + 1) a b = some (Int.fdiv a b, 0) := by
  obtain ⟨r1, r2⟩ := fdiv_range a1 a2 hb hno
  have hf := tdiv_floor a b hb
  have main : num_DivDown.j0 (k + 1) a b false = some (Int.fdiv a b, 0) := by
    rw [num_DivDown.j0, if_neg (by decide), if_neg hb]
    by_cases h0 : Int.tmod a b = 0
    · rw [if_pos h0] at hf ⊢
      rw [hf, w64 r1 r2]
    · rw [if_neg h0] at hf ⊢
      by_cases hs : ((decide (a < 0)) != (decide (b < 0))) = true
      · rw [if_pos hs] at hf ⊢
        have ht : -9223372036854775808 ≤ Int.tdiv a b ∧ Int.tdiv a b ≤ 9223372036854775807 := by
          refine ⟨by omega, ?_⟩
          have h1 := Int.tdiv_nonpos_of_nonneg_of_nonpos (a := a) (b := b)
          by_cases ha : a < 0
          · have hb' : 0 < b := by
              simp [ha] at hs
              omega
            have h2 : Int.tdiv a b ≤ 0 := by
              have := Int.tdiv_nonneg (a := -a) (b := b) (by omega) (by omega)
              rw [Int.neg_tdiv] at this
              omega
            omega
          · have hb' : b < 0 := by
              simp [ha] at hs
              exact hs
            have := h1 (by omega) (by omega)
            omega
        rw [w64 ht.1 ht.2, hf, w64 r1 r2]
      · rw [if_neg hs] at hf ⊢
        rw [hf, w64 r1 r2]
  rw [num_DivDown.f, if_neg hb]
  by_cases ha : a = -9223372036854775808
  · rw [if_pos ha]
    have : (b == -1) = false := beq_eq_false_iff_ne.mpr (fun h => hno ⟨ha, h⟩)
    rw [this]
    exact main
  · rw [if_neg ha]
    exact main
theorem down_pos (k : Nat) (a b : Int) (a1 : -9223372036854775808 ≤ a) (a2 : a ≤ 9223372036854775807) (hb : 0 < b) : num_DivDown.f (k + 1) a b = some (a / b, 0) := by
  rw [down k a b a1 a2 (by omega) (by omega), fdiv_pos hb]
theorem check_f (x y : Int) : plane_Check.f x y = some (if Ok x y then 0 else 4) := by
  unfold plane_Check.f
  by_cases c : Ok x y
  · rw [if_pos c]
    obtain ⟨c1, c2, c3, c4⟩ := c
    rw [if_neg (by omega), if_neg (by omega), if_neg (by omega), if_neg (by omega)]
  · rw [if_neg c]
    by_cases c1 : x < -1000000
    · rw [if_pos c1]
    · rw [if_neg c1]
      by_cases c2 : x > 1000000
      · rw [if_pos c2]
      · rw [if_neg c2]
        by_cases c3 : y < -1000000
        · rw [if_pos c3]
        · rw [if_neg c3, if_pos (by
            rcases Int.lt_or_le 1000000 y with h | h
            · exact h
            · exact absurd (show Ok x y from ⟨by omega, by omega, by omega, h⟩) c)]
theorem toward_bad (k : Nat) {ax ay bx b_y n d : Int} (h0 : 0 < d) (h1 : d ≤ 200000) (h2 : 0 ≤ n) (h3 : n ≤ d) (h : ¬ (Ok ax ay ∧ Ok bx b_y)) : plane_Toward.f (k + 2) ax ay bx b_y n d = some (0, 0, 4) := by
  unfold plane_Toward.f
  rw [if_neg (by omega), if_neg (by omega), if_neg (by omega), if_neg (by omega), check_f, check_f, Option.bind_some, Option.bind_some]
  by_cases ha : Ok ax ay
  · have hb : ¬ Ok bx b_y := fun hb => h ⟨ha, hb⟩
    rw [if_pos ha, if_neg hb, if_pos rfl, plane_Toward.j0, if_pos (by decide)]
  · rw [if_neg ha, if_neg (by decide), plane_Toward.j0, if_pos rfl]
theorem lin_bd {D n d : Int} (h0 : 0 < d) (h1 : d ≤ 200000) (h2 : 0 ≤ n) (h3 : n ≤ d) (h4 : -2000000 ≤ D) (h5 : D ≤ 2000000) :
    -400000000000 ≤ D * n ∧ D * n ≤ 400000000000 ∧ -2000000 ≤ D * n / d ∧ D * n / d ≤ 2000000 := by
  have m := mul_bd h4 h5 (show -200000 ≤ n by omega) (show n ≤ 200000 by omega)
  refine ⟨by omega, by omega, (Int.le_ediv_iff_mul_le h0).2 ?_, ?_⟩
  · have h6 := Int.mul_le_mul_of_nonneg_left h3 (show (0 : Int) ≤ 2000000 by decide)
    have h7 := Int.mul_nonneg (show 0 ≤ D + 2000000 by omega) h2
    rw [Int.add_mul] at h7
    omega
  · have : D * n / d < 2000001 := by
      refine (Int.ediv_lt_iff_lt_mul h0).2 ?_
      have h6 := Int.mul_le_mul_of_nonneg_left h3 (show (0 : Int) ≤ 2000000 by decide)
      have h7 := Int.mul_nonneg (show 0 ≤ 2000000 - D by omega) h2
      rw [Int.sub_mul] at h7
      omega
    omega
theorem toward (k : Nat) {ax ay bx b_y n d : Int} (h0 : 0 < d) (h1 : d ≤ 200000) (h2 : 0 ≤ n) (h3 : n ≤ d) (ha : Ok ax ay) (hb : Ok bx b_y) :
    plane_Toward.f (k + 2) ax ay bx b_y n d = some (ax + (bx - ax) * n / d, ay + (b_y - ay) * n / d, 0) := by
  obtain ⟨a1, a2, a3, a4⟩ := id ha
  obtain ⟨b1, b2, b3, b4⟩ := id hb
  obtain ⟨m1, m2, m3, m4⟩ := lin_bd h0 h1 h2 h3 (show -2000000 ≤ bx - ax by omega) (show bx - ax ≤ 2000000 by omega)
  obtain ⟨n1, n2, n3, n4⟩ := lin_bd h0 h1 h2 h3 (show -2000000 ≤ b_y - ay by omega) (show b_y - ay ≤ 2000000 by omega)
  unfold plane_Toward.f
  rw [if_neg (by omega), if_neg (by omega), if_neg (by omega), if_neg (by omega), check_f, check_f, Option.bind_some, Option.bind_some, if_pos ha, if_pos hb, if_pos rfl, plane_Toward.j0, if_neg (by decide)]
  rw [w64 (x := bx - ax) (by omega) (by omega), w64 (x := b_y - ay) (by omega) (by omega), w64 (x := (bx - ax) * n) (by omega) (by omega), w64 (x := (b_y - ay) * n) (by omega) (by omega)]
  rw [down_pos k _ d (by omega) (by omega) h0, down_pos k _ d (by omega) (by omega) h0, Option.bind_some, Option.bind_some, w64 (by omega) (by omega), w64 (by omega) (by omega)]
/-- Node i of a path. -/
def Nd (l : List S49) (i : Nat) : S49 := rd_T49 l (i : Int)
def NodeOk (l : List S49) (j : Nat) : Prop :=
  0 ≤ (Nd l j).f0 ∧ (Nd l j).f0 ≤ 200000 ∧ (0 < j → (Nd l (j - 1)).f0 < (Nd l j).f0) ∧ Ok (Nd l j).f1.f0 (Nd l j).f1.f1 ∧ 0 ≤ (Nd l j).f2 ∧ (Nd l j).f2 ≤ 60000
theorem fcheck_l (l : List S49) (hl : l.length ≤ 64) : ∀ (d k i : Nat), i + d = l.length → 2 * d + 1 ≤ k →
    ∃ e, fly_Check.l0 k l l (l.length : Int) (i : Int) = some e ∧ (e = 0 → ∀ j, i ≤ j → j < l.length → NodeOk l j)
  | 0, k, i, hi, hk => by
    obtain ⟨k, rfl⟩ : ∃ m, k = m + 1 := ⟨k - 1, by omega⟩
    rw [fly_Check.l0, if_neg (by omega)]
    exact ⟨0, rfl, fun _ j h1 h2 => by omega⟩
  | d + 1, k, i, hi, hk => by
    obtain ⟨k, rfl⟩ : ∃ m, k = m + 2 := ⟨k - 2, by omega⟩
    have hlt : i < l.length := by omega
    have hN : rd_T49 l (i : Int) = Nd l i := rfl
    obtain ⟨e', ih, ihz⟩ := fcheck_l l hl d k (i + 1) (by omega) (by omega)
    have j1 : ∀ b : Bool, (b = false → 0 ≤ (Nd l i).f0 ∧ (Nd l i).f0 ≤ 200000 ∧ (0 < i → (Nd l (i - 1)).f0 < (Nd l i).f0)) → ∃ e, fly_Check.j1 (k + 1) l l (l.length : Int) (i : Int) b (Nd l i).f0 (Nd l i).f1.f0 (Nd l i).f1.f1 (Nd l i).f2 = some e ∧ (e = 0 → ∀ j, i ≤ j → j < l.length → NodeOk l j) := by
      intro b hb
      rw [fly_Check.j1]
      cases b with
      | true => rw [if_pos rfl]; exact ⟨12, rfl, fun h => by omega⟩
      | false =>
        obtain ⟨b1, b2, b3⟩ := hb rfl
        rw [if_neg (by decide), check_f, Option.bind_some]
        by_cases hp : Ok (Nd l i).f1.f0 (Nd l i).f1.f1
        · rw [if_pos hp, if_pos rfl]
          by_cases h1 : (Nd l i).f2 < 0
          · rw [if_pos h1]; exact ⟨4, rfl, fun h => by omega⟩
          · rw [if_neg h1]
            by_cases h2 : (Nd l i).f2 > 60000
            · rw [if_pos h2]; exact ⟨4, rfl, fun h => by omega⟩
            · rw [if_neg h2, w64 (by omega) (by omega), show ((i : Int) + 1) = ((i + 1 : Nat) : Int) by omega, ih]
              refine ⟨e', rfl, fun h j g1 g2 => ?_⟩
              by_cases hij : j = i
              · rw [hij]; exact ⟨b1, b2, b3, hp, by omega, by omega⟩
              · exact ihz h j (by omega) g2
        · rw [if_neg hp, if_neg (by decide)]; exact ⟨4, rfl, fun h => by omega⟩
    rw [fly_Check.l0, if_pos (by omega), if_pos (by omega), if_pos (by omega), hN]
    by_cases h1 : (Nd l i).f0 < 0
    · rw [if_pos h1]; exact j1 true (fun h => by cases h)
    · rw [if_neg h1]
      by_cases h2 : (Nd l i).f0 > 200000
      · rw [if_pos h2]; exact j1 true (fun h => by cases h)
      · rw [if_neg h2]
        by_cases h3 : (i : Int) > 0
        · rw [if_pos h3, w64 (by omega) (by omega), if_pos (by omega), if_pos (by omega), show ((i : Int) - 1) = ((i - 1 : Nat) : Int) by omega]
          have hN' : rd_T49 l ((i - 1 : Nat) : Int) = Nd l (i - 1) := rfl
          rw [hN']
          refine j1 _ (fun h => ⟨by omega, by omega, fun _ => ?_⟩)
          have := of_decide_eq_false h
          omega
        · rw [if_neg h3]
          exact j1 false (fun _ => ⟨by omega, by omega, fun h => by omega⟩)
/-- A valid path. -/
def PathOk (l : List S49) : Prop := 0 < l.length ∧ l.length ≤ 64 ∧ ∀ j, j < l.length → NodeOk l j
theorem fcheck (l : List S49) (k : Nat) (hk : 130 ≤ k) : ∃ e, fly_Check.f k l = some e ∧ (e = 0 → PathOk l) := by
  unfold fly_Check.f
  by_cases h1 : (l.length : Int) > 64
  · rw [if_pos h1]; exact ⟨2, rfl, fun h => by omega⟩
  · rw [if_neg h1]
    by_cases h2 : (l.length : Int) = 0
    · rw [if_pos h2]; exact ⟨3, rfl, fun h => by omega⟩
    · rw [if_neg h2]
      obtain ⟨e, he, hz⟩ := fcheck_l l (by omega) l.length k 0 (by omega) (by omega)
      exact ⟨e, he, fun h => ⟨by omega, by omega, fun j hj => hz h j (by omega) hj⟩⟩
theorem times_lt {l : List S49} (h : PathOk l) : ∀ (d i : Nat), i + d + 1 < l.length → (Nd l i).f0 < (Nd l (i + d + 1)).f0
  | 0, i, hd => by have := (h.2.2 (i + 1) hd).2.2.1 (by omega); exact this
  | d + 1, i, hd => by
    have h1 := times_lt h d i (by omega)
    have h2 := (h.2.2 (i + d + 2) (by omega)).2.2.1 (by omega)
    have e : i + d + 2 - 1 = i + d + 1 := by omega
    rw [e] at h2
    have e2 : i + (d + 1) + 1 = i + d + 2 := by omega
    rw [e2]
    omega
theorem times_lt' {l : List S49} (h : PathOk l) {i j : Nat} (hij : i < j) (hj : j < l.length) : (Nd l i).f0 < (Nd l j).f0 := by
  have := times_lt h (j - i - 1) i (by omega)
  have e : i + (j - i - 1) + 1 = j := by omega
  rw [e] at this
  exact this
/-- The loop of Point. -/
theorem point_l {l : List S49} (h : PathOk l) (t : Int) : ∀ (d k i : Nat), i + d + 1 = l.length → d + 1 ≤ k → (Nd l i).f0 ≤ t →
    ∃ j m, i ≤ j ∧ j < l.length ∧ (Nd l j).f0 ≤ t ∧ (j + 1 < l.length → t < (Nd l (j + 1)).f0) ∧ k ≤ m + d + 1 ∧ fly_Point.l0 k l t (i : Int) = fly_Point.j1 m l t (j : Int)
  | 0, k, i, hi, hk, ht => by
    obtain ⟨k, rfl⟩ : ∃ m, k = m + 1 := ⟨k - 1, by omega⟩
    have hl := h.2.1
    rw [fly_Point.l0, w64 (by omega) (by omega), if_neg (by omega)]
    exact ⟨i, k, by omega, by omega, ht, fun _ => by omega, by omega, rfl⟩
  | d + 1, k, i, hi, hk, ht => by
    obtain ⟨k, rfl⟩ : ∃ m, k = m + 1 := ⟨k - 1, by omega⟩
    have hl := h.2.1
    rw [fly_Point.l0, w64 (by omega) (by omega), if_pos (by omega), if_pos (by omega), show ((i : Int) + 1) = ((i + 1 : Nat) : Int) by omega]
    have hN : rd_T49 l ((i + 1 : Nat) : Int) = Nd l (i + 1) := rfl
    rw [hN]
    by_cases c : (Nd l (i + 1)).f0 ≤ t
    · rw [if_pos c]
      obtain ⟨j, m, h1, h2, h3, h4, h5, h6⟩ := point_l h t d k (i + 1) (by omega) (by omega) c
      exact ⟨j, m, by omega, h2, h3, h4, by omega, h6⟩
    · rw [if_neg c]
      exact ⟨i, k, by omega, by omega, ht, fun _ => by omega, by omega, rfl⟩
/-- What At answers for a valid path at one of its times. -/
theorem fly_at {l : List S49} (h : PathOk l) {t : Int} (k : Nat) (hk : 200 ≤ k) (h0 : (Nd l 0).f0 ≤ t) (h1 : t ≤ (Nd l (l.length - 1)).f0) :
    (∃ j, j < l.length ∧ (Nd l j).f0 = t ∧ fly_Point.f k l t = some ((Nd l j).f0, (Nd l j).f1.f0, (Nd l j).f1.f1, (Nd l j).f2)) ∨
    ∃ j, j + 1 < l.length ∧ (Nd l j).f0 < t ∧ t < (Nd l (j + 1)).f0 ∧ fly_Point.f k l t = some (t,
      (Nd l j).f1.f0 + ((Nd l (j + 1)).f1.f0 - (Nd l j).f1.f0) * (t - (Nd l j).f0) / ((Nd l (j + 1)).f0 - (Nd l j).f0),
      (Nd l j).f1.f1 + ((Nd l (j + 1)).f1.f1 - (Nd l j).f1.f1) * (t - (Nd l j).f0) / ((Nd l (j + 1)).f0 - (Nd l j).f0),
      (Nd l j).f2 + ((Nd l (j + 1)).f2 - (Nd l j).f2) * (t - (Nd l j).f0) / ((Nd l (j + 1)).f0 - (Nd l j).f0)) := by
  obtain ⟨hl0, hl, hn⟩ := id h
  obtain ⟨j, m, _, hj, g1, g2, hm, e⟩ := point_l h t (l.length - 1) k 0 (by omega) (by omega) h0
  obtain ⟨m, rfl⟩ : ∃ q, m = q + 4 := ⟨m - 4, by omega⟩
  have hN : rd_T49 l (j : Int) = Nd l j := rfl
  have e0 : fly_Point.f k l t = fly_Point.j1 (m + 4) l t (j : Int) := e
  rw [e0, fly_Point.j1, if_pos (by omega), if_pos (by omega), hN]
  by_cases c : (Nd l j).f0 = t
  · left
    rw [if_pos c, fly_Point.j2, if_pos rfl]
    exact ⟨j, hj, c, rfl⟩
  · right
    have hj1 : j + 1 < l.length := by
      rcases Nat.lt_or_ge (j + 1) l.length with g | g
      · exact g
      · have : l.length - 1 = j := by omega
        rw [this] at h1
        omega
    have hb : (wrap64 ((j : Int) + 1) == (l.length : Int)) = false := by
      rw [w64 (by omega) (by omega)]
      exact beq_eq_false_iff_ne.mpr (by omega)
    obtain ⟨a1, a2, a3, a4, a5, a6⟩ := hn j hj
    obtain ⟨b1, b2, b3, b4, b5, b6⟩ := hn (j + 1) hj1
    have g3 := g2 hj1
    have hN' : rd_T49 l ((j + 1 : Nat) : Int) = Nd l (j + 1) := rfl
    rw [if_neg c, hb, fly_Point.j2, if_neg (by decide), w64 (x := (j : Int) + 1) (by omega) (by omega), if_pos (by omega), if_pos (by omega), show ((j : Int) + 1) = ((j + 1 : Nat) : Int) by omega, hN',
      w64 (x := t - (Nd l j).f0) (by omega) (by omega), w64 (x := (Nd l (j + 1)).f0 - (Nd l j).f0) (by omega) (by omega), toward m (by omega) (by omega) (by omega) (by omega) a4 b4, Option.bind_some]
    obtain ⟨m1, m2, m3, m4⟩ := lin_bd (D := (Nd l (j + 1)).f2 - (Nd l j).f2) (n := t - (Nd l j).f0) (d := (Nd l (j + 1)).f0 - (Nd l j).f0) (by omega) (by omega) (by omega) (by omega) (by omega) (by omega)
    rw [w64 (x := (Nd l (j + 1)).f2 - (Nd l j).f2) (by omega) (by omega), w64 (x := ((Nd l (j + 1)).f2 - (Nd l j).f2) * (t - (Nd l j).f0)) (by omega) (by omega), down_pos (m + 1) _ _ (by omega) (by omega) (by omega), Option.bind_some, w64 (by omega) (by omega)]
    exact ⟨j, hj1, by omega, g3, rfl⟩
theorem flyWorks (k : Nat) (hk : 60 ≤ k) : skywaykeep1_flyWorks.f k = some true := by
  have h : skywaykeep1_flyWorks.f 60 = some true := by decide +kernel
  exact at_rounds skywaykeep1_flyWorks.mono hk h
/-- The law's loop up to the first node that isn't before the time. -/
theorem skip {l : List S49} (h : PathOk l) {t a b c d : Int} {m : Nat} (hm : m < l.length) (hle : ∀ i, i < m → (Nd l i).f0 < t) :
    ∀ (n k i : Nat), 1 ≤ i → i + n = m → skywaykeep1_FlyBetween.l0 (k + n) l t (i : Int) a b c d = skywaykeep1_FlyBetween.l0 k l t (m : Int) a b c d
  | 0, k, i, hi, hn => by rw [show i = m by omega]; rfl
  | n + 1, k, i, hi, hn => by
    have hl := h.2.1
    have e1 : rd_T49 l ((i - 1 : Nat) : Int) = Nd l (i - 1) := rfl
    have e2 : rd_T49 l (i : Int) = Nd l i := rfl
    have h1 := hle (i - 1) (by omega)
    have h2 := hle i (by omega)
    rw [show k + (n + 1) = (k + n) + 1 by omega, skywaykeep1_FlyBetween.l0, if_pos (by omega), w64 (x := (i : Int) - 1) (by omega) (by omega), if_pos (by omega), if_pos (by omega), if_pos (by omega), show ((i : Int) - 1) = ((i - 1 : Nat) : Int) by omega, e1, e2, if_neg (by omega), if_pos (by omega),
      w64 (by omega) (by omega), show ((i : Int) + 1) = ((i + 1 : Nat) : Int) by omega]
    exact skip h hm hle n k (i + 1) (by omega) (by omega)
/-- The law at the pair of nodes about the time. -/
theorem there {l : List S49} (h : PathOk l) {t b c d : Int} {m : Nat} (h1 : 1 ≤ m) (hm : m < l.length) (g1 : (Nd l (m - 1)).f0 ≤ t) (g2 : t ≤ (Nd l m).f0) (k : Nat)
    (hb : b = (Nd l (m - 1)).f1.f0 + ((Nd l m).f1.f0 - (Nd l (m - 1)).f1.f0) * (t - (Nd l (m - 1)).f0) / ((Nd l m).f0 - (Nd l (m - 1)).f0))
    (hc : c = (Nd l (m - 1)).f1.f1 + ((Nd l m).f1.f1 - (Nd l (m - 1)).f1.f1) * (t - (Nd l (m - 1)).f0) / ((Nd l m).f0 - (Nd l (m - 1)).f0))
    (d1 : mn (Nd l (m - 1)).f2 (Nd l m).f2 ≤ d) (d2 : d ≤ mx (Nd l (m - 1)).f2 (Nd l m).f2) :
    skywaykeep1_FlyBetween.l0 (k + 3) l t (m : Int) t b c d = some true := by
  have hl := h.2.1
  have e1 : rd_T49 l ((m - 1 : Nat) : Int) = Nd l (m - 1) := rfl
  have e2 : rd_T49 l (m : Int) = Nd l m := rfl
  obtain ⟨a1, a2, a3, a4, a5, a6⟩ := h.2.2 (m - 1) (by omega)
  obtain ⟨b1, b2, b3, b4, b5, b6⟩ := h.2.2 m hm
  have b7 := b3 (by omega)
  rw [skywaykeep1_FlyBetween.l0, if_pos (by omega), w64 (x := (m : Int) - 1) (by omega) (by omega), if_pos (by omega), if_pos (by omega), if_pos (by omega), show ((m : Int) - 1) = ((m - 1 : Nat) : Int) by omega, e1, e2, if_neg (by omega), if_neg (by omega),
    w64 (x := t - (Nd l (m - 1)).f0) (by omega) (by omega), w64 (x := (Nd l m).f0 - (Nd l (m - 1)).f0) (by omega) (by omega), toward k (by omega) (by omega) (by omega) (by omega) a4 b4, Option.bind_some, if_pos rfl]
  dsimp only
  rw [← hb, ← hc, if_pos (by simp), if_pos d1, if_pos d2]
  simp
theorem lin_mid {D n d : Int} (h0 : 0 < d) (h2 : 0 ≤ n) (h3 : n ≤ d) : (0 ≤ D → 0 ≤ D * n / d ∧ D * n / d ≤ D) ∧ (D ≤ 0 → D ≤ D * n / d ∧ D * n / d ≤ 0) := by
  refine ⟨fun h => ⟨Int.ediv_nonneg (Int.mul_nonneg h h2) (by omega), ?_⟩, fun h => ⟨?_, ?_⟩⟩
  · have : D * n / d < D + 1 := by
      refine (Int.ediv_lt_iff_lt_mul h0).2 ?_
      have := Int.mul_le_mul_of_nonneg_left h3 h
      rw [Int.add_mul]
      omega
    omega
  · refine (Int.le_ediv_iff_mul_le h0).2 ?_
    have := Int.mul_le_mul_of_nonneg_left h3 (show 0 ≤ -D by omega)
    simp only [Int.neg_mul] at this
    omega
  · have : D * n / d < 1 := by
      refine (Int.ediv_lt_iff_lt_mul h0).2 ?_
      have := Int.mul_nonneg (show 0 ≤ -D by omega) h2
      simp only [Int.neg_mul] at this
      omega
    omega
theorem FlyBetween : skywaykeep1_FlyBetween.Pure := by
  intro l t _ _
  refine ⟨400, ?_⟩
  unfold skywaykeep1_FlyBetween.f
  rw [flyWorks 400 (by decide), Option.bind_some, if_pos rfl]
  obtain ⟨e, he, hz⟩ := fcheck l 400 (by decide)
  by_cases h0 : e = 0
  · have h := hz h0
    obtain ⟨hl0, hl, hn⟩ := id h
    subst h0
    have n0 : rd_T49 l 0 = Nd l 0 := rfl
    have n1 : rd_T49 l ((l.length - 1 : Nat) : Int) = Nd l (l.length - 1) := rfl
    have hat : fly_At.f 400 l t = if t < (Nd l 0).f0 then some (0, 0, 0, 0, 12) else if t > (Nd l (l.length - 1)).f0 then some (0, 0, 0, 0, 12) else (fly_Point.f 400 l t).bind fun p => some (p.1, p.2.1, p.2.2.1, p.2.2.2, 0) := by
      unfold fly_At.f
      rw [he, Option.bind_some, if_pos rfl, if_pos (show (0 : Int) < (l.length : Int) by omega), n0]
      by_cases c1 : t < (Nd l 0).f0
      · rw [if_pos c1, if_pos c1]
      · rw [if_neg c1, if_neg c1, w64 (x := (l.length : Int) - 1) (by omega) (by omega), if_pos (show (0 : Int) ≤ (l.length : Int) - 1 by omega), if_pos (show (l.length : Int) - 1 < (l.length : Int) by omega), show ((l.length : Int) - 1) = ((l.length - 1 : Nat) : Int) by omega, n1]
    rw [hat]
    by_cases c1 : t < (Nd l 0).f0
    · rw [if_pos c1, Option.bind_some, if_neg (by decide)]; rfl
    · rw [if_neg c1]
      by_cases c2 : t > (Nd l (l.length - 1)).f0
      · rw [if_pos c2, Option.bind_some, if_neg (by decide)]; rfl
      · rw [if_neg c2]
        rcases fly_at h (t := t) 400 (by decide) (by omega) (by omega) with ⟨j, hj, hjt, ep⟩ | ⟨j, hj, g1, g2, ep⟩
        · rw [ep, Option.bind_some, Option.bind_some, if_pos rfl]
          dsimp only
          by_cases j0 : j = 0
          · subst j0
            by_cases hlen : l.length = 1
            · rw [show (400 : Nat) = 399 + 1 from rfl, skywaykeep1_FlyBetween.l0, if_neg (by omega), if_pos (by omega), if_pos (by omega), n0]
              simp
            · have b3 := (hn 1 (by omega)).2.2.1 (by omega)
              have := there h (t := t) (b := (Nd l 0).f1.f0) (c := (Nd l 0).f1.f1) (d := (Nd l 0).f2) (m := 1) (by omega) (by omega) (by show (Nd l 0).f0 ≤ t; omega) (by change (Nd l 0).f0 < (Nd l 1).f0 at b3; omega) 397
                (by show (Nd l 0).f1.f0 = (Nd l 0).f1.f0 + _ * (t - (Nd l 0).f0) / _; rw [← hjt, Int.sub_self, Int.mul_zero, Int.zero_ediv, Int.add_zero])
                (by show (Nd l 0).f1.f1 = (Nd l 0).f1.f1 + _ * (t - (Nd l 0).f0) / _; rw [← hjt, Int.sub_self, Int.mul_zero, Int.zero_ediv, Int.add_zero])
                (by show mn (Nd l 0).f2 _ ≤ _; unfold mn; split <;> omega) (by show _ ≤ mx (Nd l 0).f2 _; unfold mx; split <;> omega)
              rw [hjt]
              exact this
          · have b3 := (hn j hj).2.2.1 (by omega)
            have hle : ∀ i, i < j → (Nd l i).f0 < t := fun i hi => by rw [← hjt]; exact times_lt' h hi hj
            have hd : (Nd l j).f0 - (Nd l (j - 1)).f0 ≠ 0 := by omega
            have := there h (t := t) (b := (Nd l j).f1.f0) (c := (Nd l j).f1.f1) (d := (Nd l j).f2) (m := j) (by omega) hj (by omega) (by omega) (397 - (j - 1))
              (by rw [← hjt, Int.mul_ediv_cancel _ hd]; omega) (by rw [← hjt, Int.mul_ediv_cancel _ hd]; omega)
              (by unfold mn; split <;> omega) (by unfold mx; split <;> omega)
            have sk := skip h (t := t) (a := t) (b := (Nd l j).f1.f0) (c := (Nd l j).f1.f1) (d := (Nd l j).f2) hj hle (j - 1) (397 - (j - 1) + 3) 1 (by omega) (by omega)
            rw [show 397 - (j - 1) + 3 + (j - 1) = 400 by omega] at sk
            rw [hjt]
            exact sk.trans this
        · rw [ep, Option.bind_some, Option.bind_some, if_pos rfl]
          dsimp only
          have hle : ∀ i, i < j + 1 → (Nd l i).f0 < t := fun i hi => by
            by_cases hij : i = j
            · rw [hij]; exact g1
            · have := times_lt' h (show i < j by omega) (by omega); omega
          have mid := lin_mid (D := (Nd l (j + 1)).f2 - (Nd l j).f2) (n := t - (Nd l j).f0) (d := (Nd l (j + 1)).f0 - (Nd l j).f0) (by omega) (by omega) (by omega)
          have := there h (t := t) (m := j + 1) (by omega) hj (by show (Nd l j).f0 ≤ t; omega) (by omega) (397 - j) rfl rfl
            (d := (Nd l j).f2 + ((Nd l (j + 1)).f2 - (Nd l j).f2) * (t - (Nd l j).f0) / ((Nd l (j + 1)).f0 - (Nd l j).f0))
            (by show mn (Nd l j).f2 _ ≤ _; unfold mn; split <;> omega) (by show _ ≤ mx (Nd l j).f2 _; unfold mx; split <;> omega)
          have sk := skip h (t := t) (a := t) (b := (Nd l j).f1.f0 + ((Nd l (j + 1)).f1.f0 - (Nd l j).f1.f0) * (t - (Nd l j).f0) / ((Nd l (j + 1)).f0 - (Nd l j).f0))
            (c := (Nd l j).f1.f1 + ((Nd l (j + 1)).f1.f1 - (Nd l j).f1.f1) * (t - (Nd l j).f0) / ((Nd l (j + 1)).f0 - (Nd l j).f0))
            (d := (Nd l j).f2 + ((Nd l (j + 1)).f2 - (Nd l j).f2) * (t - (Nd l j).f0) / ((Nd l (j + 1)).f0 - (Nd l j).f0)) hj hle j (397 - j + 3) 1 (by omega) (by omega)
          rw [show 397 - j + 3 + j = 400 by omega] at sk
          exact sk.trans this
  · have e1 : fly_At.f 400 l t = some (0, 0, 0, 0, e) := by
      unfold fly_At.f
      rw [he, Option.bind_some, if_neg h0]
    rw [e1, Option.bind_some, if_neg h0]
    rfl

end Go.Proofs.Ytaahnfajcbkknaa.Pure
