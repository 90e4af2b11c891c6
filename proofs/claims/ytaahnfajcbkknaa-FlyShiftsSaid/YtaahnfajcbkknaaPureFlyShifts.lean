/- FlyShifts: for all paths, delays and times At of the delayed path is At of the path, later. -/
import Derived.Test.YtaahnfajcbkknaaPFlyShiftsx
import Derived.Test.YtaahnfajcbkknaaMath
namespace Go.Proofs.Ytaahnfajcbkknaa.Pure
open Go Go.RowKit Go.Proofs.Ytaahnfajcbkknaa.PFlyShifts Go.Proofs.YtaahnfajcbkknaaW.PrintWords Go.Proofs.YtaahnfajcbkknaaW.PrintLast Go.Proofs.YtaahnfajcbkknaaM

/-- A permitted coordinate. -/
def Ok (x y : Int) : Prop := -1000000 ≤ x ∧ x ≤ 1000000 ∧ -1000000 ≤ y ∧ y ≤ 1000000
instance (x y : Int) : Decidable (Ok x y) := inferInstanceAs (Decidable (_ ∧ _))
theorem down (k : Nat) (a b : Int) (a1 : -9223372036854775808 ≤ a) (a2 : a ≤ 9223372036854775807) (hb : b ≠ 0) (hno : ¬ (a = -9223372036854775808 ∧ b = -1)) : num_DivDown.f (k + 1) a b = some (Int.fdiv a b, 0) := by
  obtain ⟨r1, r2⟩ := fdiv_range a1 a2 hb hno
  have hf := tdiv_floor a b hb
  have main : num_DivDown.j0 (k + 1) a b false = some (Int.fdiv a b, 0) := by
    rw [num_DivDown.j0, if_neg (by decide), if_neg hb]
    by_cases h0 : Int.tmod a b = 0
    · rw [if_pos h0] at hf ⊢
      rw [hf, w64 r1 r2]
    · rw [if_neg h0] at hf ⊢
      by_cases hs : ((decide (a < 0)) != (decide (b < 0))) = true
      · rw [if_pos hs] at hf ⊢
        have ht : -9223372036854775808 ≤ Int.tdiv a b ∧ Int.tdiv a b ≤ 9223372036854775807 := by
          refine ⟨by omega, ?_⟩
          have h1 := Int.tdiv_nonpos_of_nonneg_of_nonpos (a := a) (b := b)
          by_cases ha : a < 0
          · have hb' : 0 < b := by
              simp [ha] at hs
              omega
            have h2 : Int.tdiv a b ≤ 0 := by
              have := Int.tdiv_nonneg (a := -a) (b := b) (by omega) (by omega)
              rw [Int.neg_tdiv] at this
              omega
            omega
          · have hb' : b < 0 := by
              simp [ha] at hs
              exact hs
            have := h1 (by omega) (by omega)
            omega
        rw [w64 ht.1 ht.2, hf, w64 r1 r2]
      · rw [if_neg hs] at hf ⊢
        rw [hf, w64 r1 r2]
  rw [num_DivDown.f, if_neg hb]
  by_cases ha : a = -9223372036854775808
  · rw [if_pos ha]
    have : (b == -1) = false := beq_eq_false_iff_ne.mpr (fun h => hno ⟨ha, h⟩)
    rw [this]
    exact main
  · rw [if_neg ha]
    exact main
theorem down_pos (k : Nat) (a b : Int) (a1 : -9223372036854775808 ≤ a) (a2 : a ≤ 9223372036854775807) (hb : 0 < b) : num_DivDown.f (k + 1) a b = some (a / b, 0) := by
  rw [down k a b a1 a2 (by omega) (by omega), fdiv_pos hb]
theorem check_f (x y : Int) : plane_Check.f x y = some (if Ok x y then 0 else 4) := by
  unfold plane_Check.f
  by_cases c : Ok x y
  · rw [if_pos c]
    obtain ⟨c1, c2, c3, c4⟩ := c
    rw [if_neg (by omega), if_neg (by omega), if_neg (by omega), if_neg (by omega)]
  · rw [if_neg c]
    by_cases c1 : x < -1000000
    · rw [if_pos c1]
    · rw [if_neg c1]
      by_cases c2 : x > 1000000
      · rw [if_pos c2]
      · rw [if_neg c2]
        by_cases c3 : y < -1000000
        · rw [if_pos c3]
        · rw [if_neg c3, if_pos (by
            rcases Int.lt_or_le 1000000 y with h | h
            · exact h
            · exact absurd (show Ok x y from ⟨by omega, by omega, by omega, h⟩) c)]
theorem toward_bad (k : Nat) {ax ay bx b_y n d : Int} (h0 : 0 < d) (h1 : d ≤ 200000) (h2 : 0 ≤ n) (h3 : n ≤ d) (h : ¬ (Ok ax ay ∧ Ok bx b_y)) : plane_Toward.f (k + 2) ax ay bx b_y n d = some (0, 0, 4) := by
  unfold plane_Toward.f
  rw [if_neg (by omega), if_neg (by omega), if_neg (by omega), if_neg (by omega), check_f, check_f, Option.bind_some, Option.bind_some]
  by_cases ha : Ok ax ay
  · have hb : ¬ Ok bx b_y := fun hb => h ⟨ha, hb⟩
    rw [if_pos ha, if_neg hb, if_pos rfl, plane_Toward.j0, if_pos (by decide)]
  · rw [if_neg ha, if_neg (by decide), plane_Toward.j0, if_pos rfl]
theorem lin_bd {D n d : Int} (h0 : 0 < d) (h1 : d ≤ 200000) (h2 : 0 ≤ n) (h3 : n ≤ d) (h4 : -2000000 ≤ D) (h5 : D ≤ 2000000) :
    -400000000000 ≤ D * n ∧ D * n ≤ 400000000000 ∧ -2000000 ≤ D * n / d ∧ D * n / d ≤ 2000000 := by
  have m := mul_bd h4 h5 (show -200000 ≤ n by omega) (show n ≤ 200000 by omega)
  refine ⟨by omega, by omega, (Int.le_ediv_iff_mul_le h0).2 ?_, ?_⟩
  · have h6 := Int.mul_le_mul_of_nonneg_left h3 (show (0 : Int) ≤ 2000000 by decide)
    have h7 := Int.mul_nonneg (show 0 ≤ D + 2000000 by omega) h2
    rw [Int.add_mul] at h7
    omega
  · have : D * n / d < 2000001 := by
      refine (Int.ediv_lt_iff_lt_mul h0).2 ?_
      have h6 := Int.mul_le_mul_of_nonneg_left h3 (show (0 : Int) ≤ 2000000 by decide)
      have h7 := Int.mul_nonneg (show 0 ≤ 2000000 - D by omega) h2
      rw [Int.sub_mul] at h7
      omega
    omega
theorem toward (k : Nat) {ax ay bx b_y n d : Int} (h0 : 0 < d) (h1 : d ≤ 200000) (h2 : 0 ≤ n) (h3 : n ≤ d) (ha : Ok ax ay) (hb : Ok bx b_y) :
    plane_Toward.f (k + 2) ax ay bx b_y n d = some (ax + (bx - ax) * n / d, ay + (b_y - ay) * n / d, 0) := by
  obtain ⟨a1, a2, a3, a4⟩ := id ha
  obtain ⟨b1, b2, b3, b4⟩ := id hb
  obtain ⟨m1, m2, m3, m4⟩ := lin_bd h0 h1 h2 h3 (show -2000000 ≤ bx - ax by omega) (show bx - ax ≤ 2000000 by omega)
  obtain ⟨n1, n2, n3, n4⟩ := lin_bd h0 h1 h2 h3 (show -2000000 ≤ b_y - ay by omega) (show b_y - ay ≤ 2000000 by omega)
  unfold plane_Toward.f
  rw [if_neg (by omega), if_neg (by omega), if_neg (by omega), if_neg (by omega), check_f, check_f, Option.bind_some, Option.bind_some, if_pos ha, if_pos hb, if_pos rfl, plane_Toward.j0, if_neg (by decide)]
  rw [w64 (x := bx - ax) (by omega) (by omega), w64 (x := b_y - ay) (by omega) (by omega), w64 (x := (bx - ax) * n) (by omega) (by omega), w64 (x := (b_y - ay) * n) (by omega) (by omega)]
  rw [down_pos k _ d (by omega) (by omega) h0, down_pos k _ d (by omega) (by omega) h0, Option.bind_some, Option.bind_some, w64 (by omega) (by omega), w64 (by omega) (by omega)]
/-- Node i of a path. -/
def Nd (l : List S49) (i : Nat) : S49 := rd_T49 l (i : Int)
def NodeOk (l : List S49) (j : Nat) : Prop :=
  0 ≤ (Nd l j).f0 ∧ (Nd l j).f0 ≤ 200000 ∧ (0 < j → (Nd l (j - 1)).f0 < (Nd l j).f0) ∧ Ok (Nd l j).f1.f0 (Nd l j).f1.f1 ∧ 0 ≤ (Nd l j).f2 ∧ (Nd l j).f2 ≤ 60000
theorem fcheck_l (l : List S49) (hl : l.length ≤ 64) : ∀ (d k i : Nat), i + d = l.length → 2 * d + 1 ≤ k →
    ∃ e, fly_Check.l0 k l l (l.length : Int) (i : Int) = some e ∧ (e = 0 ↔ ∀ j, i ≤ j → j < l.length → NodeOk l j)
  | 0, k, i, hi, hk => by
    obtain ⟨k, rfl⟩ : ∃ m, k = m + 1 := ⟨k - 1, by omega⟩
    rw [fly_Check.l0, if_neg (by omega)]
    exact ⟨0, rfl, ⟨fun _ j h1 h2 => by omega, fun _ => rfl⟩⟩
  | d + 1, k, i, hi, hk => by
    obtain ⟨k, rfl⟩ : ∃ m, k = m + 2 := ⟨k - 2, by omega⟩
    have hlt : i < l.length := by omega
    have hN : rd_T49 l (i : Int) = Nd l i := rfl
    obtain ⟨e', ih, ihz⟩ := fcheck_l l hl d k (i + 1) (by omega) (by omega)
    have bad : ∀ c : Int, c ≠ 0 → ¬ NodeOk l i → (c = 0 ↔ ∀ j, i ≤ j → j < l.length → NodeOk l j) := fun c hc hn => ⟨fun h => absurd h hc, fun h => absurd (h i (Nat.le_refl _) hlt) hn⟩
    have j1 : ∀ b : Bool, (b = false ↔ 0 ≤ (Nd l i).f0 ∧ (Nd l i).f0 ≤ 200000 ∧ (0 < i → (Nd l (i - 1)).f0 < (Nd l i).f0)) → ∃ e, fly_Check.j1 (k + 1) l l (l.length : Int) (i : Int) b (Nd l i).f0 (Nd l i).f1.f0 (Nd l i).f1.f1 (Nd l i).f2 = some e ∧ (e = 0 ↔ ∀ j, i ≤ j → j < l.length → NodeOk l j) := by
      intro b hb
      rw [fly_Check.j1]
      cases b with
      | true => rw [if_pos rfl]; exact ⟨12, rfl, bad _ (by decide) (fun h => absurd (hb.2 ⟨h.1, h.2.1, h.2.2.1⟩) (by decide))⟩
      | false =>
        obtain ⟨b1, b2, b3⟩ := hb.1 rfl
        rw [if_neg (by decide), check_f, Option.bind_some]
        by_cases hp : Ok (Nd l i).f1.f0 (Nd l i).f1.f1
        · rw [if_pos hp, if_pos rfl]
          by_cases h1 : (Nd l i).f2 < 0
          · rw [if_pos h1]; exact ⟨4, rfl, bad _ (by decide) (fun h => by have := h.2.2.2.2.1; omega)⟩
          · rw [if_neg h1]
            by_cases h2 : (Nd l i).f2 > 60000
            · rw [if_pos h2]; exact ⟨4, rfl, bad _ (by decide) (fun h => by have := h.2.2.2.2.2; omega)⟩
            · rw [if_neg h2, w64 (by omega) (by omega), show ((i : Int) + 1) = ((i + 1 : Nat) : Int) by omega, ih]
              refine ⟨e', rfl, ihz.trans ⟨fun h j g1 g2 => ?_, fun h j g1 g2 => h j (by omega) g2⟩⟩
              by_cases hij : j = i
              · rw [hij]; exact ⟨b1, b2, b3, hp, by omega, by omega⟩
              · exact h j (by omega) g2
        · rw [if_neg hp, if_neg (by decide)]; exact ⟨4, rfl, bad _ (by decide) (fun h => hp h.2.2.2.1)⟩
    rw [fly_Check.l0, if_pos (by omega), if_pos (by omega), if_pos (by omega), hN]
    by_cases h1 : (Nd l i).f0 < 0
    · rw [if_pos h1]; exact j1 true ⟨fun h => (by cases h), fun h => by omega⟩
    · rw [if_neg h1]
      by_cases h2 : (Nd l i).f0 > 200000
      · rw [if_pos h2]; exact j1 true ⟨fun h => (by cases h), fun h => by omega⟩
      · rw [if_neg h2]
        by_cases h3 : (i : Int) > 0
        · rw [if_pos h3, w64 (by omega) (by omega), if_pos (by omega), if_pos (by omega), show ((i : Int) - 1) = ((i - 1 : Nat) : Int) by omega]
          have hN' : rd_T49 l ((i - 1 : Nat) : Int) = Nd l (i - 1) := rfl
          rw [hN']
          refine j1 _ ⟨fun h => ⟨by omega, by omega, fun _ => ?_⟩, fun h => decide_eq_false ?_⟩
          · have := of_decide_eq_false h
            omega
          · have := h.2.2 (by omega)
            omega
        · rw [if_neg h3]
          exact j1 false ⟨fun _ => ⟨by omega, by omega, fun h => by omega⟩, fun _ => rfl⟩
/-- A valid path. -/
def PathOk (l : List S49) : Prop := 0 < l.length ∧ l.length ≤ 64 ∧ ∀ j, j < l.length → NodeOk l j
theorem fcheck_iff (l : List S49) (k : Nat) (hk : 130 ≤ k) : ∃ e, fly_Check.f k l = some e ∧ (e = 0 ↔ PathOk l) := by
  unfold fly_Check.f
  by_cases h1 : (l.length : Int) > 64
  · rw [if_pos h1]; exact ⟨2, rfl, ⟨fun h => by omega, fun h => by have := h.2.1; omega⟩⟩
  · rw [if_neg h1]
    by_cases h2 : (l.length : Int) = 0
    · rw [if_pos h2]; exact ⟨3, rfl, ⟨fun h => by omega, fun h => by have := h.1; omega⟩⟩
    · rw [if_neg h2]
      obtain ⟨e, he, hz⟩ := fcheck_l l (by omega) l.length k 0 (by omega) (by omega)
      exact ⟨e, he, hz.trans ⟨fun h => ⟨by omega, by omega, fun j hj => h j (by omega) hj⟩, fun h j _ hj => h.2.2 j hj⟩⟩
theorem fcheck (l : List S49) (k : Nat) (hk : 130 ≤ k) : ∃ e, fly_Check.f k l = some e ∧ (e = 0 → PathOk l) := by
  obtain ⟨e, he, hz⟩ := fcheck_iff l k hk
  exact ⟨e, he, hz.1⟩
theorem times_lt {l : List S49} (h : PathOk l) : ∀ (d i : Nat), i + d + 1 < l.length → (Nd l i).f0 < (Nd l (i + d + 1)).f0
  | 0, i, hd => by have := (h.2.2 (i + 1) hd).2.2.1 (by omega); exact this
  | d + 1, i, hd => by
    have h1 := times_lt h d i (by omega)
    have h2 := (h.2.2 (i + d + 2) (by omega)).2.2.1 (by omega)
    have e : i + d + 2 - 1 = i + d + 1 := by omega
    rw [e] at h2
    have e2 : i + (d + 1) + 1 = i + d + 2 := by omega
    rw [e2]
    omega
theorem times_lt' {l : List S49} (h : PathOk l) {i j : Nat} (hij : i < j) (hj : j < l.length) : (Nd l i).f0 < (Nd l j).f0 := by
  have := times_lt h (j - i - 1) i (by omega)
  have e : i + (j - i - 1) + 1 = j := by omega
  rw [e] at this
  exact this
/-- The loop of Point. -/
theorem point_l {l : List S49} (h : PathOk l) (t : Int) : ∀ (d k i : Nat), i + d + 1 = l.length → d + 1 ≤ k → (Nd l i).f0 ≤ t →
    ∃ j m, i ≤ j ∧ j < l.length ∧ (Nd l j).f0 ≤ t ∧ (j + 1 < l.length → t < (Nd l (j + 1)).f0) ∧ k ≤ m + d + 1 ∧ fly_Point.l0 k l t (i : Int) = fly_Point.j1 m l t (j : Int)
  | 0, k, i, hi, hk, ht => by
    obtain ⟨k, rfl⟩ : ∃ m, k = m + 1 := ⟨k - 1, by omega⟩
    have hl := h.2.1
    rw [fly_Point.l0, w64 (by omega) (by omega), if_neg (by omega)]
    exact ⟨i, k, by omega, by omega, ht, fun _ => by omega, by omega, rfl⟩
  | d + 1, k, i, hi, hk, ht => by
    obtain ⟨k, rfl⟩ : ∃ m, k = m + 1 := ⟨k - 1, by omega⟩
    have hl := h.2.1
    rw [fly_Point.l0, w64 (by omega) (by omega), if_pos (by omega), if_pos (by omega), show ((i : Int) + 1) = ((i + 1 : Nat) : Int) by omega]
    have hN : rd_T49 l ((i + 1 : Nat) : Int) = Nd l (i + 1) := rfl
    rw [hN]
    by_cases c : (Nd l (i + 1)).f0 ≤ t
    · rw [if_pos c]
      obtain ⟨j, m, h1, h2, h3, h4, h5, h6⟩ := point_l h t d k (i + 1) (by omega) (by omega) c
      exact ⟨j, m, by omega, h2, h3, h4, by omega, h6⟩
    · rw [if_neg c]
      exact ⟨i, k, by omega, by omega, ht, fun _ => by omega, by omega, rfl⟩
/-- What At answers for a valid path at one of its times. -/
theorem fly_at {l : List S49} (h : PathOk l) {t : Int} (k : Nat) (hk : 200 ≤ k) (h0 : (Nd l 0).f0 ≤ t) (h1 : t ≤ (Nd l (l.length - 1)).f0) :
    (∃ j, j < l.length ∧ (Nd l j).f0 = t ∧ fly_Point.f k l t = some ((Nd l j).f0, (Nd l j).f1.f0, (Nd l j).f1.f1, (Nd l j).f2)) ∨
    ∃ j, j + 1 < l.length ∧ (Nd l j).f0 < t ∧ t < (Nd l (j + 1)).f0 ∧ fly_Point.f k l t = some (t,
      (Nd l j).f1.f0 + ((Nd l (j + 1)).f1.f0 - (Nd l j).f1.f0) * (t - (Nd l j).f0) / ((Nd l (j + 1)).f0 - (Nd l j).f0),
      (Nd l j).f1.f1 + ((Nd l (j + 1)).f1.f1 - (Nd l j).f1.f1) * (t - (Nd l j).f0) / ((Nd l (j + 1)).f0 - (Nd l j).f0),
      (Nd l j).f2 + ((Nd l (j + 1)).f2 - (Nd l j).f2) * (t - (Nd l j).f0) / ((Nd l (j + 1)).f0 - (Nd l j).f0)) := by
  obtain ⟨hl0, hl, hn⟩ := id h
  obtain ⟨j, m, _, hj, g1, g2, hm, e⟩ := point_l h t (l.length - 1) k 0 (by omega) (by omega) h0
  obtain ⟨m, rfl⟩ : ∃ q, m = q + 4 := ⟨m - 4, by omega⟩
  have hN : rd_T49 l (j : Int) = Nd l j := rfl
  have e0 : fly_Point.f k l t = fly_Point.j1 (m + 4) l t (j : Int) := e
  rw [e0, fly_Point.j1, if_pos (by omega), if_pos (by omega), hN]
  by_cases c : (Nd l j).f0 = t
  · left
    rw [if_pos c, fly_Point.j2, if_pos rfl]
    exact ⟨j, hj, c, rfl⟩
  · right
    have hj1 : j + 1 < l.length := by
      rcases Nat.lt_or_ge (j + 1) l.length with g | g
      · exact g
      · have : l.length - 1 = j := by omega
        rw [this] at h1
        omega
    have hb : (wrap64 ((j : Int) + 1) == (l.length : Int)) = false := by
      rw [w64 (by omega) (by omega)]
      exact beq_eq_false_iff_ne.mpr (by omega)
    obtain ⟨a1, a2, a3, a4, a5, a6⟩ := hn j hj
    obtain ⟨b1, b2, b3, b4, b5, b6⟩ := hn (j + 1) hj1
    have g3 := g2 hj1
    have hN' : rd_T49 l ((j + 1 : Nat) : Int) = Nd l (j + 1) := rfl
    rw [if_neg c, hb, fly_Point.j2, if_neg (by decide), w64 (x := (j : Int) + 1) (by omega) (by omega), if_pos (by omega), if_pos (by omega), show ((j : Int) + 1) = ((j + 1 : Nat) : Int) by omega, hN',
      w64 (x := t - (Nd l j).f0) (by omega) (by omega), w64 (x := (Nd l (j + 1)).f0 - (Nd l j).f0) (by omega) (by omega), toward m (by omega) (by omega) (by omega) (by omega) a4 b4, Option.bind_some]
    obtain ⟨m1, m2, m3, m4⟩ := lin_bd (D := (Nd l (j + 1)).f2 - (Nd l j).f2) (n := t - (Nd l j).f0) (d := (Nd l (j + 1)).f0 - (Nd l j).f0) (by omega) (by omega) (by omega) (by omega) (by omega) (by omega)
    rw [w64 (x := (Nd l (j + 1)).f2 - (Nd l j).f2) (by omega) (by omega), w64 (x := ((Nd l (j + 1)).f2 - (Nd l j).f2) * (t - (Nd l j).f0)) (by omega) (by omega), down_pos (m + 1) _ _ (by omega) (by omega) (by omega), Option.bind_some, w64 (by omega) (by omega)]
    exact ⟨j, hj1, by omega, g3, rfl⟩
theorem flyWorks (k : Nat) (hk : 60 ≤ k) : skywaykeep1_flyWorks.f k = some true := by
  have h : skywaykeep1_flyWorks.f 60 = some true := by decide +kernel
  exact at_rounds skywaykeep1_flyWorks.mono hk h
def sh (later : Int) (n : S49) : S49 := ⟨wrap64 (n.f0 + later), ⟨n.f1.f0, n.f1.f1⟩, n.f2⟩
theorem set_step (l : List S49) (later : Int) {i : Nat} (hlt : i < l.length) : ((l.take i).map (sh later) ++ l.drop i).set i (sh later l[i]) = (l.take (i + 1)).map (sh later) ++ l.drop (i + 1) := by
  have hlen : ((l.take i).map (sh later)).length = i := by rw [List.length_map, List.length_take]; omega
  rw [List.drop_eq_getElem_cons hlt, List.set_append_right _ _ (by omega), hlen, Nat.sub_self, List.set_cons_zero, List.take_succ_eq_append_getElem hlt, List.map_append, List.append_assoc]
  rfl
theorem get_step (l : List S49) (later : Int) {i : Nat} (hlt : i < l.length) : rd_T49 ((l.take i).map (sh later) ++ l.drop i) (i : Int) = l[i] := by
  have hlen : ((l.take i).map (sh later)).length = i := by rw [List.length_map, List.length_take]; omega
  unfold rd_T49
  rw [Int.toNat_natCast, List.getD_eq_getElem?_getD, List.getElem?_append_right (by omega), hlen, Nat.sub_self, List.drop_eq_getElem_cons hlt]
  rfl
theorem shift_l (l : List S49) (hl : l.length ≤ 64) (later : Int) : ∀ (d k i : Nat), i + d = l.length → d < k →
    fly_Shift.l0 k later ((l.take i).map (sh later) ++ l.drop i) (l.length : Int) (i : Int) = some (l.map (sh later), 0)
  | 0, k, i, hi, hk => by
    obtain ⟨k, rfl⟩ : ∃ m, k = m + 1 := ⟨k - 1, by omega⟩
    rw [fly_Shift.l0, if_neg (by omega), List.take_of_length_le (by omega), List.drop_of_length_le (by omega), List.append_nil]
  | d + 1, k, i, hi, hk => by
    obtain ⟨k, rfl⟩ : ∃ m, k = m + 1 := ⟨k - 1, by omega⟩
    have hlt : i < l.length := by omega
    have ih := shift_l l hl later d k (i + 1) (by omega) (by omega)
    have hlen : ((l.take i).map (sh later) ++ l.drop i).length = l.length := by rw [List.length_append, List.length_map, List.length_take, List.length_drop]; omega
    rw [fly_Shift.l0, if_pos (by omega), if_pos (by omega), if_pos (by rw [hlen]; omega), get_step l later hlt, w64 (x := (i : Int) + 1) (by omega) (by omega), show ((i : Int) + 1) = ((i + 1 : Nat) : Int) by omega, Int.toNat_natCast]
    have hs := set_step l later hlt
    unfold sh at hs ih ⊢
    rw [hs]
    exact ih
theorem sh_at {l : List S49} {later : Int} (h : PathOk l) (l1 : -200000 ≤ later) (l2 : later ≤ 200000) {i : Nat} (hi : i < l.length) :
    Nd (l.map (sh later)) i = ⟨(Nd l i).f0 + later, (Nd l i).f1, (Nd l i).f2⟩ := by
  have e1 : Nd l i = l[i] := by unfold Nd rd_T49; rw [Int.toNat_natCast, List.getD_eq_getElem?_getD, List.getElem?_eq_getElem hi]; rfl
  have e2 : Nd (l.map (sh later)) i = sh later l[i] := by
    unfold Nd rd_T49
    rw [Int.toNat_natCast, List.getD_eq_getElem?_getD, List.getElem?_map, List.getElem?_eq_getElem hi]; rfl
  obtain ⟨a1, a2, _⟩ := h.2.2 i hi
  rw [e1] at a1 a2
  rw [e2, e1]
  unfold sh
  rw [w64 (x := l[i].f0 + later) (by omega) (by omega)]
theorem FlyShifts : skywaykeep1_FlyShifts.Pure := by
  intro l later t _ _ ht
  rw [wf64] at ht
  refine ⟨400, ?_⟩
  unfold skywaykeep1_FlyShifts.f
  rw [flyWorks 400 (by decide), Option.bind_some, if_pos rfl]
  obtain ⟨e, he, hz⟩ := fcheck_iff l 400 (by decide)
  by_cases h0 : e = 0
  · have h := hz.1 h0
    subst h0
    obtain ⟨hl0, hl, hn⟩ := id h
    have n0 : ∀ m : List S49, rd_T49 m 0 = Nd m 0 := fun _ => rfl
    have n1 : ∀ m : List S49, rd_T49 m ((m.length - 1 : Nat) : Int) = Nd m (m.length - 1) := fun _ => rfl
    obtain ⟨a1, a2, _⟩ := hn 0 hl0
    obtain ⟨z1, z2, _⟩ := hn (l.length - 1) (by omega)
    by_cases hr : (-200000 ≤ later ∧ later ≤ 200000) ∧ 0 ≤ (Nd l 0).f0 + later ∧ (Nd l (l.length - 1)).f0 + later ≤ 200000
    · obtain ⟨⟨l1, l2⟩, r1, r2⟩ := hr
      have len : (l.map (sh later)).length = l.length := List.length_map _
      have hsh : fly_Shift.f 400 l later = some (l.map (sh later), 0) := by
        unfold fly_Shift.f
        rw [he, Option.bind_some, if_pos rfl, if_neg (by omega), if_neg (by omega), if_pos (show (0 : Int) < (l.length : Int) by omega), n0, w64 (x := (Nd l 0).f0 + later) (by omega) (by omega), if_neg (by omega), w64 (x := (l.length : Int) - 1) (by omega) (by omega), if_pos (by omega), if_pos (by omega),
          show ((l.length : Int) - 1) = ((l.length - 1 : Nat) : Int) by omega, n1, w64 (x := (Nd l (l.length - 1)).f0 + later) (by omega) (by omega), show (400 : Nat) = 399 + 1 from rfl, fly_Shift.j0, if_neg (by simp; omega)]
        unfold api_Node.f
        rw [Option.bind_some, if_pos (by simp; omega), Option.bind_some, List.nil_append]
        exact shift_l l hl later l.length 399 0 (by omega) (by omega)
      have sa : ∀ {i : Nat}, i < l.length → Nd (l.map (sh later)) i = ⟨(Nd l i).f0 + later, (Nd l i).f1, (Nd l i).f2⟩ := fun hi => sh_at h l1 l2 hi
      have hx : PathOk (l.map (sh later)) := by
        refine ⟨by omega, by omega, fun j hj => ?_⟩
        rw [len] at hj
        obtain ⟨b1, b2, b3, b4, b5, b6⟩ := hn j hj
        have g1 : (Nd l 0).f0 ≤ (Nd l j).f0 := by
          rcases Nat.eq_zero_or_pos j with g | g
          · rw [g]; exact Int.le_refl _
          · have := times_lt' h g hj; omega
        have g2 : (Nd l j).f0 ≤ (Nd l (l.length - 1)).f0 := by
          rcases Nat.lt_or_ge j (l.length - 1) with g | g
          · have := times_lt' h g (by omega); omega
          · have : j = l.length - 1 := by omega
            rw [← this]; exact Int.le_refl _
        unfold NodeOk
        rw [sa hj]
        refine ⟨by dsimp only; omega, by dsimp only; omega, fun g => ?_, b4, b5, b6⟩
        rw [sa (show j - 1 < l.length by omega)]
        have := b3 g
        dsimp only
        omega
      obtain ⟨e', he', hz'⟩ := fcheck_iff (l.map (sh later)) 400 (by decide)
      have h1 := hz'.2 hx
      subst h1
      have hat : ∀ (m : List S49) (u : Int), PathOk m → fly_Check.f 400 m = some 0 → fly_At.f 400 m u = if u < (Nd m 0).f0 then some (0, 0, 0, 0, 12) else if u > (Nd m (m.length - 1)).f0 then some (0, 0, 0, 0, 12) else (fly_Point.f 400 m u).bind fun p => some (p.1, p.2.1, p.2.2.1, p.2.2.2, 0) := by
        intro m u hm hc
        have hm0 := hm.1
        have hm1 := hm.2.1
        unfold fly_At.f
        rw [hc, Option.bind_some, if_pos rfl, if_pos (show (0 : Int) < (m.length : Int) by omega), n0]
        by_cases c1 : u < (Nd m 0).f0
        · rw [if_pos c1, if_pos c1]
        · rw [if_neg c1, if_neg c1, w64 (x := (m.length : Int) - 1) (by omega) (by omega), if_pos (show (0 : Int) ≤ (m.length : Int) - 1 by omega), if_pos (show (m.length : Int) - 1 < (m.length : Int) by omega), show ((m.length : Int) - 1) = ((m.length - 1 : Nat) : Int) by omega, n1]
      rw [hsh, Option.bind_some, if_pos rfl, hat l t h he, hat _ _ hx he', len, sa hl0, sa (show l.length - 1 < l.length by omega)]
      dsimp only
      have hw : wrap64 (t + later) = t + later ∨ (t < (Nd l 0).f0 ∧ wrap64 (t + later) > (Nd l (l.length - 1)).f0 + later) ∨ (t > (Nd l (l.length - 1)).f0 ∧ wrap64 (t + later) < (Nd l 0).f0 + later) := by
        unfold wrap64
        omega
      by_cases c1 : t < (Nd l 0).f0
      · rw [if_pos c1, Option.bind_some]
        have : (if wrap64 (t + later) < (Nd l 0).f0 + later then some ((0 : Int), (0 : Int), (0 : Int), (0 : Int), (12 : Int)) else if wrap64 (t + later) > (Nd l (l.length - 1)).f0 + later then some (0, 0, 0, 0, 12) else (fly_Point.f 400 (l.map (sh later)) (wrap64 (t + later))).bind fun p => some (p.1, p.2.1, p.2.2.1, p.2.2.2, 0)) = some (0, 0, 0, 0, 12) := by
          by_cases d1 : wrap64 (t + later) < (Nd l 0).f0 + later
          · rw [if_pos d1]
          · rw [if_neg d1, if_pos (by omega)]
        rw [this, Option.bind_some, if_pos rfl, if_neg (by decide)]
      · rw [if_neg c1]
        by_cases c2 : t > (Nd l (l.length - 1)).f0
        · rw [if_pos c2, Option.bind_some]
          have : (if wrap64 (t + later) < (Nd l 0).f0 + later then some ((0 : Int), (0 : Int), (0 : Int), (0 : Int), (12 : Int)) else if wrap64 (t + later) > (Nd l (l.length - 1)).f0 + later then some (0, 0, 0, 0, 12) else (fly_Point.f 400 (l.map (sh later)) (wrap64 (t + later))).bind fun p => some (p.1, p.2.1, p.2.2.1, p.2.2.2, 0)) = some (0, 0, 0, 0, 12) := by
            by_cases d1 : wrap64 (t + later) < (Nd l 0).f0 + later
            · rw [if_pos d1]
            · rw [if_neg d1, if_pos (by omega)]
          rw [this, Option.bind_some, if_pos rfl, if_neg (by decide)]
        · have ew : wrap64 (t + later) = t + later := by omega
          rw [if_neg c2, ew, if_neg (by omega), if_neg (by omega)]
          have g1 : (Nd (l.map (sh later)) 0).f0 ≤ t + later := by rw [sa hl0]; dsimp only; omega
          have g2 : t + later ≤ (Nd (l.map (sh later)) ((l.map (sh later)).length - 1)).f0 := by rw [len, sa (show l.length - 1 < l.length by omega)]; dsimp only; omega
          rcases fly_at h (t := t) 400 (by decide) (by omega) (by omega) with ⟨j, hj, hjt, ep⟩ | ⟨j, hj, p1, p2, ep⟩
          · rcases fly_at hx (t := t + later) 400 (by decide) g1 g2 with ⟨i, hi, hit, eq⟩ | ⟨i, hi, q1, q2, eq⟩
            · rw [len] at hi
              rw [sa hi] at hit
              dsimp only at hit
              have hij : i = j := by
                rcases Nat.lt_trichotomy i j with g | g | g
                · have := times_lt' h g hj; omega
                · exact g
                · have := times_lt' h g hi; omega
              subst hij
              rw [ep, eq, Option.bind_some, Option.bind_some, Option.bind_some, Option.bind_some, if_pos rfl, if_pos rfl, sa hi]
              dsimp only
              rw [w64 (x := (Nd l i).f0 + later) (by omega) (by omega)]
              simp
            · exfalso
              rw [len] at hi
              rw [sa (by omega)] at q1
              rw [sa hi] at q2
              dsimp only at q1 q2
              rcases Nat.lt_trichotomy i j with g | g | g
              · rcases Nat.lt_or_ge (i + 1) j with g3 | g3
                · have := times_lt' h g3 hj; omega
                · have : j = i + 1 := by omega
                  subst this; omega
              · subst g; omega
              · have := times_lt' h g (by omega); omega
          · rcases fly_at hx (t := t + later) 400 (by decide) g1 g2 with ⟨i, hi, hit, eq⟩ | ⟨i, hi, q1, q2, eq⟩
            · exfalso
              rw [len] at hi
              rw [sa hi] at hit
              dsimp only at hit
              rcases Nat.lt_trichotomy i j with g | g | g
              · have := times_lt' h g (by omega); omega
              · subst g; omega
              · rcases Nat.lt_or_ge (j + 1) i with g3 | g3
                · have := times_lt' h g3 hi; omega
                · have : i = j + 1 := by omega
                  subst this; omega
            · rw [len] at hi
              have q1' := q1
              have q2' := q2
              rw [sa (show i < l.length by omega)] at q1'
              rw [sa hi] at q2'
              dsimp only at q1' q2'
              have hij : i = j := by
                rcases Nat.lt_trichotomy i j with g | g | g
                · rcases Nat.lt_or_ge (i + 1) j with g3 | g3
                  · have := times_lt' h g3 (by omega); omega
                  · have : j = i + 1 := by omega
                    subst this; omega
                · exact g
                · rcases Nat.lt_or_ge (j + 1) i with g3 | g3
                  · have := times_lt' h g3 (by omega); omega
                  · have : i = j + 1 := by omega
                    subst this; omega
              subst hij
              rw [ep, eq, Option.bind_some, Option.bind_some, Option.bind_some, Option.bind_some, if_pos rfl, if_pos rfl, sa (show i < l.length by omega), sa hi]
              dsimp only
              rw [show t + later - ((Nd l i).f0 + later) = t - (Nd l i).f0 by omega, show (Nd l (i + 1)).f0 + later - ((Nd l i).f0 + later) = (Nd l (i + 1)).f0 - (Nd l i).f0 by omega, ew]
              simp
    · have hsh : fly_Shift.f 400 l later = some ([], 12) := by
        unfold fly_Shift.f
        have t12 : fly_Shift.j0 400 l later true = some ([], 12) := by rw [show (400 : Nat) = 399 + 1 from rfl, fly_Shift.j0, if_pos rfl]
        rw [he, Option.bind_some, if_pos rfl]
        by_cases c1 : later < -200000
        · rw [if_pos c1, t12]
        rw [if_neg c1]
        by_cases c2 : later > 200000
        · rw [if_pos c2, t12]
        rw [if_neg c2, if_pos (show (0 : Int) < (l.length : Int) by omega), n0, w64 (x := (Nd l 0).f0 + later) (by omega) (by omega)]
        by_cases c3 : (Nd l 0).f0 + later < 0
        · rw [if_pos c3, t12]
        rw [if_neg c3, w64 (x := (l.length : Int) - 1) (by omega) (by omega), if_pos (by omega), if_pos (by omega), show ((l.length : Int) - 1) = ((l.length - 1 : Nat) : Int) by omega, n1, w64 (x := (Nd l (l.length - 1)).f0 + later) (by omega) (by omega), decide_eq_true (by omega), t12]
      rw [hsh, Option.bind_some, if_neg (by decide)]
      rfl
  · have hsh : fly_Shift.f 400 l later = some ([], e) := by
      unfold fly_Shift.f
      rw [he, Option.bind_some, if_neg h0]
    rw [hsh, Option.bind_some, if_neg h0]
    rfl

end Go.Proofs.Ytaahnfajcbkknaa.Pure
