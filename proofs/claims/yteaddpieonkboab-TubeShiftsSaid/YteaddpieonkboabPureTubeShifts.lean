/- TubeShifts: for all tubes, shifts and times At of the shifted tube is At of the tube, shifted. -/
import Derived.Test.YteaddpieonkboabPTubeShiftsx
import Derived.Test.YteaddpieonkboabMath
namespace Go.Proofs.Yteaddpieonkboab.Pure
open Go Go.RowKit Go.Proofs.Yteaddpieonkboab.PTubeShifts Go.Proofs.YteaddpieonkboabW.PrintWords Go.Proofs.YteaddpieonkboabW.PrintLast Go.Proofs.YteaddpieonkboabM

/-- A permitted coordinate. -/
def Ok (x y : Int) : Prop := -1000000 ≤ x ∧ x ≤ 1000000 ∧ -1000000 ≤ y ∧ y ≤ 1000000
instance (x y : Int) : Decidable (Ok x y) := inferInstanceAs (Decidable (_ ∧ _))
theorem down (k : Nat) (a b : Int) (a1 : -9223372036854775808 ≤ a) (a2 : a ≤ 9223372036854775807) (hb : b ≠ 0) (hno : ¬ (a = -9223372036854775808 ∧ b = -1)) : num_DivDown.f (k + 1) a b = some (Int.fdiv a b, 0) := by
  obtain ⟨r1, r2⟩ := fdiv_range a1 a2 hb hno
  have hf := tdiv_floor a b hb
  have main : num_DivDown.j0 (k + 1) a b false = some (Int.fdiv a b, 0) := by
    rw [num_DivDown.j0, if_neg (by decide), if_neg hb]
    by_cases h0 : Int.tmod a b = 0
    · rw [if_pos h0] at hf ⊢
      rw [hf, w64 r1 r2]
    · rw [if_neg h0] at hf ⊢
      by_cases hs : ((decide (a < 0)) != (decide (b < 0))) = true
      · rw [if_pos hs] at hf ⊢
        have ht : -9223372036854775808 ≤ Int.tdiv a b ∧ Int.tdiv a b ≤ 9223372036854775807 := by
          refine ⟨by omega, ?_⟩
          have h1 := Int.tdiv_nonpos_of_nonneg_of_nonpos (a := a) (b := b)
          by_cases ha : a < 0
          · have hb' : 0 < b := by
              simp [ha] at hs
              omega
            have h2 : Int.tdiv a b ≤ 0 := by
              have := Int.tdiv_nonneg (a := -a) (b := b) (by omega) (by omega)
              rw [Int.neg_tdiv] at this
              omega
            omega
          · have hb' : b < 0 := by
              simp [ha] at hs
              exact hs
            have := h1 (by omega) (by omega)
            omega
        rw [w64 ht.1 ht.2, hf, w64 r1 r2]
      · rw [if_neg hs] at hf ⊢
        rw [hf, w64 r1 r2]
  rw [num_DivDown.f, if_neg hb]
  by_cases ha : a = -9223372036854775808
  · rw [if_pos ha]
    have : (b == -1) = false := beq_eq_false_iff_ne.mpr (fun h => hno ⟨ha, h⟩)
    rw [this]
    exact main
  · rw [if_neg ha]
    exact main
theorem down_pos (k : Nat) (a b : Int) (a1 : -9223372036854775808 ≤ a) (a2 : a ≤ 9223372036854775807) (hb : 0 < b) : num_DivDown.f (k + 1) a b = some (a / b, 0) := by
  rw [down k a b a1 a2 (by omega) (by omega), fdiv_pos hb]
theorem up (k : Nat) (a b : Int) (a1 : -9223372036854775808 ≤ a) (a2 : a ≤ 9223372036854775807) (hb : b ≠ 0) (hno : ¬ (a = -9223372036854775808 ∧ b = -1)) : num_DivUp.f (k + 1) a b = some (if Int.tmod a b = 0 then Int.fdiv a b else Int.fdiv a b + 1, 0) := by
  rw [num_DivUp.f, down k a b a1 a2 hb hno]
  simp only [Option.bind_some, if_true]
  rw [if_neg hb]
  by_cases h0 : Int.tmod a b = 0
  · rw [if_pos h0, if_pos h0]
  · rw [if_neg h0, if_neg h0]
    obtain ⟨r1, r2⟩ := fdiv_range a1 a2 hb hno
    have : Int.fdiv a b < 9223372036854775807 := by
      rcases Int.lt_or_le (Int.fdiv a b) 9223372036854775807 with h | h
      · exact h
      · exfalso
        have e : Int.fdiv a b = 9223372036854775807 := by omega
        have hm := Int.mul_fdiv_add_fmod a b
        rw [e] at hm
        have hn : Int.fmod a b ≠ 0 := fun h => h0 (Int.dvd_iff_tmod_eq_zero.1 (Int.dvd_iff_fmod_eq_zero.2 h))
        rcases Int.lt_or_le 0 b with hp | hp
        · have := Int.fmod_nonneg_of_pos a hp
          have := Int.fmod_lt_of_pos a hp
          omega
        · have h1 := Int.mul_fdiv_add_fmod (-a) (-b)
          rw [Int.neg_fdiv_neg, e] at h1
          have := Int.fmod_nonneg_of_pos (-a) (show 0 < -b by omega)
          have := Int.fmod_lt_of_pos (-a) (show 0 < -b by omega)
          omega
    rw [w64 (by omega) (by omega)]
theorem up_pos (k : Nat) (a b : Int) (a1 : -9223372036854775808 ≤ a) (a2 : a ≤ 9223372036854775807) (hb : 0 < b) : num_DivUp.f (k + 1) a b = some (if a % b = 0 then a / b else a / b + 1, 0) := by
  rw [up k a b a1 a2 (by omega) (by omega), fdiv_pos hb]
  have : Int.tmod a b = 0 ↔ a % b = 0 := by rw [← Int.dvd_iff_tmod_eq_zero]; exact Int.dvd_iff_emod_eq_zero
  by_cases h : a % b = 0
  · rw [if_pos h, if_pos (this.2 h)]
  · rw [if_neg h, if_neg (fun g => h (this.1 g))]
theorem check_f (x y : Int) : plane_Check.f x y = some (if Ok x y then 0 else 4) := by
  unfold plane_Check.f
  by_cases c : Ok x y
  · rw [if_pos c]
    obtain ⟨c1, c2, c3, c4⟩ := c
    rw [if_neg (by omega), if_neg (by omega), if_neg (by omega), if_neg (by omega)]
  · rw [if_neg c]
    by_cases c1 : x < -1000000
    · rw [if_pos c1]
    · rw [if_neg c1]
      by_cases c2 : x > 1000000
      · rw [if_pos c2]
      · rw [if_neg c2]
        by_cases c3 : y < -1000000
        · rw [if_pos c3]
        · rw [if_neg c3, if_pos (by
            rcases Int.lt_or_le 1000000 y with h | h
            · exact h
            · exact absurd (show Ok x y from ⟨by omega, by omega, by omega, h⟩) c)]
theorem toward_bad (k : Nat) {ax ay bx b_y n d : Int} (h0 : 0 < d) (h1 : d ≤ 200000) (h2 : 0 ≤ n) (h3 : n ≤ d) (h : ¬ (Ok ax ay ∧ Ok bx b_y)) : plane_Toward.f (k + 2) ax ay bx b_y n d = some (0, 0, 4) := by
  unfold plane_Toward.f
  rw [if_neg (by omega), if_neg (by omega), if_neg (by omega), if_neg (by omega), check_f, check_f, Option.bind_some, Option.bind_some]
  by_cases ha : Ok ax ay
  · have hb : ¬ Ok bx b_y := fun hb => h ⟨ha, hb⟩
    rw [if_pos ha, if_neg hb, if_pos rfl, plane_Toward.j0, if_pos (by decide)]
  · rw [if_neg ha, if_neg (by decide), plane_Toward.j0, if_pos rfl]
theorem lin_bd {D n d : Int} (h0 : 0 < d) (h1 : d ≤ 200000) (h2 : 0 ≤ n) (h3 : n ≤ d) (h4 : -2000000 ≤ D) (h5 : D ≤ 2000000) :
    -400000000000 ≤ D * n ∧ D * n ≤ 400000000000 ∧ -2000000 ≤ D * n / d ∧ D * n / d ≤ 2000000 := by
  have m := mul_bd h4 h5 (show -200000 ≤ n by omega) (show n ≤ 200000 by omega)
  refine ⟨by omega, by omega, (Int.le_ediv_iff_mul_le h0).2 ?_, ?_⟩
  · have h6 := Int.mul_le_mul_of_nonneg_left h3 (show (0 : Int) ≤ 2000000 by decide)
    have h7 := Int.mul_nonneg (show 0 ≤ D + 2000000 by omega) h2
    rw [Int.add_mul] at h7
    omega
  · have : D * n / d < 2000001 := by
      refine (Int.ediv_lt_iff_lt_mul h0).2 ?_
      have h6 := Int.mul_le_mul_of_nonneg_left h3 (show (0 : Int) ≤ 2000000 by decide)
      have h7 := Int.mul_nonneg (show 0 ≤ 2000000 - D by omega) h2
      rw [Int.sub_mul] at h7
      omega
    omega
theorem toward (k : Nat) {ax ay bx b_y n d : Int} (h0 : 0 < d) (h1 : d ≤ 200000) (h2 : 0 ≤ n) (h3 : n ≤ d) (ha : Ok ax ay) (hb : Ok bx b_y) :
    plane_Toward.f (k + 2) ax ay bx b_y n d = some (ax + (bx - ax) * n / d, ay + (b_y - ay) * n / d, 0) := by
  obtain ⟨a1, a2, a3, a4⟩ := id ha
  obtain ⟨b1, b2, b3, b4⟩ := id hb
  obtain ⟨m1, m2, m3, m4⟩ := lin_bd h0 h1 h2 h3 (show -2000000 ≤ bx - ax by omega) (show bx - ax ≤ 2000000 by omega)
  obtain ⟨n1, n2, n3, n4⟩ := lin_bd h0 h1 h2 h3 (show -2000000 ≤ b_y - ay by omega) (show b_y - ay ≤ 2000000 by omega)
  unfold plane_Toward.f
  rw [if_neg (by omega), if_neg (by omega), if_neg (by omega), if_neg (by omega), check_f, check_f, Option.bind_some, Option.bind_some, if_pos ha, if_pos hb, if_pos rfl, plane_Toward.j0, if_neg (by decide)]
  rw [w64 (x := bx - ax) (by omega) (by omega), w64 (x := b_y - ay) (by omega) (by omega), w64 (x := (bx - ax) * n) (by omega) (by omega), w64 (x := (b_y - ay) * n) (by omega) (by omega)]
  rw [down_pos k _ d (by omega) (by omega) h0, down_pos k _ d (by omega) (by omega) h0, Option.bind_some, Option.bind_some, w64 (by omega) (by omega), w64 (by omega) (by omega)]
/-- Node i of a tube. -/
def Tn (l : List S30) (i : Nat) : S30 := rd_T30 l (i : Int)
def NodeT (l : List S30) (j : Nat) : Prop :=
  (0 ≤ (Tn l j).f0.f0 ∧ (Tn l j).f0.f0 ≤ 200000) ∧ (0 < j → (Tn l (j - 1)).f0.f0 < (Tn l j).f0.f0) ∧ Ok (Tn l j).f0.f1.f0 (Tn l j).f0.f1.f1 ∧ (0 ≤ (Tn l j).f0.f2 ∧ (Tn l j).f0.f2 ≤ 60000) ∧ (0 ≤ (Tn l j).f1 ∧ (Tn l j).f1 ≤ 1000000) ∧ 0 ≤ (Tn l j).f2 ∧ (Tn l j).f2 ≤ 60000
theorem tcheck_l (l : List S30) (hl : l.length ≤ 64) : ∀ (d k i : Nat), i + d = l.length → 2 * d + 1 ≤ k →
    ∃ e, tube_Check.l0 k l l (l.length : Int) (i : Int) = some e ∧ (e = 0 → ∀ j, i ≤ j → j < l.length → NodeT l j)
  | 0, k, i, hi, hk => by
    obtain ⟨k, rfl⟩ : ∃ m, k = m + 1 := ⟨k - 1, by omega⟩
    rw [tube_Check.l0, if_neg (by omega)]
    exact ⟨0, rfl, fun _ j h1 h2 => by omega⟩
  | d + 1, k, i, hi, hk => by
    obtain ⟨k, rfl⟩ : ∃ m, k = m + 2 := ⟨k - 2, by omega⟩
    have hlt : i < l.length := by omega
    have hN : rd_T30 l (i : Int) = Tn l i := rfl
    obtain ⟨e', ih, ihz⟩ := tcheck_l l hl d k (i + 1) (by omega) (by omega)
    have j1 : ∀ b : Bool, (b = false → 0 ≤ (Tn l i).f0.f0 ∧ (Tn l i).f0.f0 ≤ 200000 ∧ (0 < i → (Tn l (i - 1)).f0.f0 < (Tn l i).f0.f0)) → ∃ e, tube_Check.j1 (k + 1) l l (l.length : Int) (i : Int) b (Tn l i).f0.f0 (Tn l i).f0.f1.f0 (Tn l i).f0.f1.f1 (Tn l i).f0.f2 (Tn l i).f1 (Tn l i).f2 = some e ∧ (e = 0 → ∀ j, i ≤ j → j < l.length → NodeT l j) := by
      intro b hb
      rw [tube_Check.j1]
      cases b with
      | true => rw [if_pos rfl]; exact ⟨12, rfl, fun h => by omega⟩
      | false =>
        obtain ⟨b1, b2, b3⟩ := hb rfl
        rw [if_neg (by decide), check_f, Option.bind_some]
        by_cases hp : Ok (Tn l i).f0.f1.f0 (Tn l i).f0.f1.f1
        · rw [if_pos hp, if_pos rfl]
          by_cases h1 : (Tn l i).f0.f2 < 0
          · rw [if_pos h1]; exact ⟨4, rfl, fun h => by omega⟩
          rw [if_neg h1]
          by_cases h2 : (Tn l i).f0.f2 > 60000
          · rw [if_pos h2]; exact ⟨4, rfl, fun h => by omega⟩
          rw [if_neg h2]
          by_cases h3 : (Tn l i).f1 < 0
          · rw [if_pos h3]; exact ⟨4, rfl, fun h => by omega⟩
          rw [if_neg h3]
          by_cases h4 : (Tn l i).f1 > 1000000
          · rw [if_pos h4]; exact ⟨4, rfl, fun h => by omega⟩
          rw [if_neg h4]
          by_cases h5 : (Tn l i).f2 < 0
          · rw [if_pos h5]; exact ⟨4, rfl, fun h => by omega⟩
          rw [if_neg h5]
          by_cases h6 : (Tn l i).f2 > 60000
          · rw [if_pos h6]; exact ⟨4, rfl, fun h => by omega⟩
          rw [if_neg h6, w64 (by omega) (by omega), show ((i : Int) + 1) = ((i + 1 : Nat) : Int) by omega, ih]
          refine ⟨e', rfl, fun h j g1 g2 => ?_⟩
          by_cases hij : j = i
          · rw [hij]; exact ⟨⟨b1, b2⟩, b3, hp, ⟨by omega, by omega⟩, ⟨by omega, by omega⟩, by omega, by omega⟩
          · exact ihz h j (by omega) g2
        · rw [if_neg hp, if_neg (by decide)]; exact ⟨4, rfl, fun h => by omega⟩
    rw [tube_Check.l0, if_pos (by omega), if_pos (by omega), if_pos (by omega), hN]
    by_cases h1 : (Tn l i).f0.f0 < 0
    · rw [if_pos h1]; exact j1 true (fun h => by cases h)
    · rw [if_neg h1]
      by_cases h2 : (Tn l i).f0.f0 > 200000
      · rw [if_pos h2]; exact j1 true (fun h => by cases h)
      · rw [if_neg h2]
        by_cases h3 : (i : Int) > 0
        · rw [if_pos h3, w64 (by omega) (by omega), if_pos (by omega), if_pos (by omega), show ((i : Int) - 1) = ((i - 1 : Nat) : Int) by omega]
          have hN' : rd_T30 l ((i - 1 : Nat) : Int) = Tn l (i - 1) := rfl
          rw [hN']
          refine j1 _ (fun h => ⟨by omega, by omega, fun _ => ?_⟩)
          have := of_decide_eq_false h
          omega
        · rw [if_neg h3]
          exact j1 false (fun _ => ⟨by omega, by omega, fun h => by omega⟩)
/-- A valid tube. -/
def TubeOk (l : List S30) : Prop := 0 < l.length ∧ l.length ≤ 64 ∧ ∀ j, j < l.length → NodeT l j
theorem tcheck (l : List S30) : ∃ e, (∀ k, 130 ≤ k → tube_Check.f k l = some e) ∧ (e = 0 → TubeOk l) := by
  have main : ∃ e, tube_Check.f 130 l = some e ∧ (e = 0 → TubeOk l) := by
    unfold tube_Check.f
    by_cases h1 : (l.length : Int) > 64
    · rw [if_pos h1]; exact ⟨2, rfl, fun h => by omega⟩
    · rw [if_neg h1]
      by_cases h2 : (l.length : Int) = 0
      · rw [if_pos h2]; exact ⟨3, rfl, fun h => by omega⟩
      · rw [if_neg h2]
        obtain ⟨e, he, hz⟩ := tcheck_l l (by omega) l.length 130 0 (by omega) (by omega)
        exact ⟨e, he, fun h => ⟨by omega, by omega, fun j hj => hz h j (by omega) hj⟩⟩
  obtain ⟨e, he, hz⟩ := main
  exact ⟨e, fun k hk => at_rounds (fun k => tube_Check.mono l k) hk he, hz⟩
theorem ttimes {l : List S30} (h : TubeOk l) : ∀ (d i : Nat), i + d + 1 < l.length → (Tn l i).f0.f0 < (Tn l (i + d + 1)).f0.f0
  | 0, i, hd => by have := (h.2.2 (i + 1) hd).2.1 (by omega); exact this
  | d + 1, i, hd => by
    have h1 := ttimes h d i (by omega)
    have h2 := (h.2.2 (i + d + 2) (by omega)).2.1 (by omega)
    have e : i + d + 2 - 1 = i + d + 1 := by omega
    rw [e] at h2
    have e2 : i + (d + 1) + 1 = i + d + 2 := by omega
    rw [e2]
    omega
theorem ttimes_lt {l : List S30} (h : TubeOk l) {i j : Nat} (hij : i < j) (hj : j < l.length) : (Tn l i).f0.f0 < (Tn l j).f0.f0 := by
  have := ttimes h (j - i - 1) i (by omega)
  have e : i + (j - i - 1) + 1 = j := by omega
  rw [e] at this
  exact this
/-- The place of a time in a tube. -/
def AtT (l : List S30) (t : Int) (j : Nat) : Prop := j < l.length ∧ (Tn l j).f0.f0 ≤ t ∧ (j + 1 < l.length → t < (Tn l (j + 1)).f0.f0)
theorem AtT.same {l : List S30} (h : TubeOk l) {t : Int} {i j : Nat} (hi : AtT l t i) (hj : AtT l t j) : i = j := by
  obtain ⟨i1, i2, i3⟩ := hi
  obtain ⟨j1, j2, j3⟩ := hj
  rcases Nat.lt_trichotomy i j with g | g | g
  · have := i3 (by omega)
    rcases Nat.lt_or_ge (i + 1) j with g2 | g2
    · have := ttimes_lt h g2 j1; omega
    · have : j = i + 1 := by omega
      subst this; omega
  · exact g
  · have := j3 (by omega)
    rcases Nat.lt_or_ge (j + 1) i with g2 | g2
    · have := ttimes_lt h g2 i1; omega
    · have : i = j + 1 := by omega
      subst this; omega
theorem at_l {l : List S30} (h : TubeOk l) (t : Int) : ∀ (d k i : Nat), i + d + 1 = l.length → d + 1 ≤ k → (Tn l i).f0.f0 ≤ t →
    ∃ j m, AtT l t j ∧ k ≤ m + d + 1 ∧ tube_at.l0 k l t (i : Int) = tube_at.j2 m l t (j : Int)
  | 0, k, i, hi, hk, ht => by
    obtain ⟨k, rfl⟩ : ∃ m, k = m + 1 := ⟨k - 1, by omega⟩
    have hl := h.2.1
    rw [tube_at.l0, w64 (by omega) (by omega), if_neg (by omega)]
    exact ⟨i, k, ⟨by omega, ht, fun _ => by omega⟩, by omega, rfl⟩
  | d + 1, k, i, hi, hk, ht => by
    obtain ⟨k, rfl⟩ : ∃ m, k = m + 1 := ⟨k - 1, by omega⟩
    have hl := h.2.1
    rw [tube_at.l0, w64 (by omega) (by omega), if_pos (by omega), if_pos (by omega), show ((i : Int) + 1) = ((i + 1 : Nat) : Int) by omega]
    have hN : rd_T30 l ((i + 1 : Nat) : Int) = Tn l (i + 1) := rfl
    rw [hN]
    by_cases c : (Tn l (i + 1)).f0.f0 ≤ t
    · rw [if_pos c]
      obtain ⟨j, m, h1, h5, h6⟩ := at_l h t d k (i + 1) (by omega) (by omega) c
      exact ⟨j, m, h1, by omega, h6⟩
    · rw [if_neg c]
      exact ⟨i, k, ⟨by omega, ht, fun _ => by omega⟩, by omega, rfl⟩
def lin (a b n d : Int) : Int := a + (b - a) * n / d
def linUp (a b n d : Int) : Int := a + (if (b - a) * n % d = 0 then (b - a) * n / d else (b - a) * n / d + 1)
theorem between_f (k : Nat) {a b n d : Int} (h0 : 0 < d) (h1 : d ≤ 200000) (h2 : 0 ≤ n) (h3 : n ≤ d) (a1 : 0 ≤ a) (a2 : a ≤ 1000000) (b1 : 0 ≤ b) (b2 : b ≤ 1000000) : tube_between.f (k + 1) a b n d = some (lin a b n d) := by
  obtain ⟨m1, m2, m3, m4⟩ := lin_bd h0 h1 h2 h3 (show -2000000 ≤ b - a by omega) (show b - a ≤ 2000000 by omega)
  unfold tube_between.f lin
  rw [w64 (x := b - a) (by omega) (by omega), w64 (x := (b - a) * n) (by omega) (by omega), down_pos k _ d (by omega) (by omega) h0, Option.bind_some, w64 (by omega) (by omega)]
theorem above_f (k : Nat) {a b n d : Int} (h0 : 0 < d) (h1 : d ≤ 200000) (h2 : 0 ≤ n) (h3 : n ≤ d) (a1 : 0 ≤ a) (a2 : a ≤ 1000000) (b1 : 0 ≤ b) (b2 : b ≤ 1000000) : tube_above.f (k + 1) a b n d = some (linUp a b n d) := by
  obtain ⟨m1, m2, m3, m4⟩ := lin_bd h0 h1 h2 h3 (show -2000000 ≤ b - a by omega) (show b - a ≤ 2000000 by omega)
  unfold tube_above.f linUp
  rw [w64 (x := b - a) (by omega) (by omega), w64 (x := (b - a) * n) (by omega) (by omega), up_pos k _ d (by omega) (by omega) h0, Option.bind_some, w64 (by dsimp only; split <;> omega) (by dsimp only; split <;> omega)]
/-- A tube's node at a time between node j and the next. -/
def mid (l : List S30) (t : Int) (j : Nat) : Int × Int × Int × Int × Int × Int × Int :=
  let a := Tn l j
  let b := Tn l (j + 1)
  let n := t - a.f0.f0
  let d := b.f0.f0 - a.f0.f0
  (t, a.f0.f1.f0 + (b.f0.f1.f0 - a.f0.f1.f0) * n / d, a.f0.f1.f1 + (b.f0.f1.f1 - a.f0.f1.f1) * n / d, lin a.f0.f2 b.f0.f2 n d, linUp a.f1 b.f1 n d, linUp a.f2 b.f2 n d, 0)
/-- What at answers inside a valid tube's time. -/
def ins (l : List S30) (t : Int) (j : Nat) : Int × Int × Int × Int × Int × Int × Int :=
  if (Tn l j).f0.f0 = t then ((Tn l j).f0.f0, (Tn l j).f0.f1.f0, (Tn l j).f0.f1.f1, (Tn l j).f0.f2, (Tn l j).f1, (Tn l j).f2, 0) else mid l t j
theorem at_f {l : List S30} (h : TubeOk l) (t : Int) :
    ((t < (Tn l 0).f0.f0 ∨ t > (Tn l (l.length - 1)).f0.f0) ∧ ∀ k, 200 ≤ k → tube_at.f k l t = some (0, 0, 0, 0, 0, 0, 12)) ∨
    (((Tn l 0).f0.f0 ≤ t ∧ t ≤ (Tn l (l.length - 1)).f0.f0) ∧ ∃ j, AtT l t j ∧ (j + 1 = l.length → (Tn l j).f0.f0 = t) ∧ ∀ k, 200 ≤ k → tube_at.f k l t = some (ins l t j)) := by
  obtain ⟨hl0, hl, hn⟩ := id h
  have n0 : rd_T30 l 0 = Tn l 0 := rfl
  have n1 : rd_T30 l ((l.length - 1 : Nat) : Int) = Tn l (l.length - 1) := rfl
  have hat : ∀ k, tube_at.f (k + 1) l t = if t < (Tn l 0).f0.f0 then some (0, 0, 0, 0, 0, 0, 12) else if t > (Tn l (l.length - 1)).f0.f0 then some (0, 0, 0, 0, 0, 0, 12) else tube_at.l0 k l t 0 := by
    intro k
    unfold tube_at.f
    rw [if_pos (show (0 : Int) < (l.length : Int) by omega), n0]
    by_cases c1 : t < (Tn l 0).f0.f0
    · rw [if_pos c1, if_pos c1, tube_at.j0, if_pos rfl]
    · rw [if_neg c1, if_neg c1, w64 (x := (l.length : Int) - 1) (by omega) (by omega), if_pos (show (0 : Int) ≤ (l.length : Int) - 1 by omega), if_pos (show (l.length : Int) - 1 < (l.length : Int) by omega), show ((l.length : Int) - 1) = ((l.length - 1 : Nat) : Int) by omega, n1]
      by_cases c2 : t > (Tn l (l.length - 1)).f0.f0
      · rw [if_pos c2, tube_at.j0, if_pos (decide_eq_true c2)]
      · rw [if_neg c2, tube_at.j0, if_neg (by simpa using c2)]
  by_cases c1 : t < (Tn l 0).f0.f0
  · left
    refine ⟨Or.inl c1, fun k hk => ?_⟩
    obtain ⟨k, rfl⟩ : ∃ m, k = m + 1 := ⟨k - 1, by omega⟩
    rw [hat, if_pos c1]
  · by_cases c2 : t > (Tn l (l.length - 1)).f0.f0
    · left
      refine ⟨Or.inr c2, fun k hk => ?_⟩
      obtain ⟨k, rfl⟩ : ∃ m, k = m + 1 := ⟨k - 1, by omega⟩
      rw [hat, if_neg c1, if_pos c2]
    · right
      refine ⟨⟨by omega, by omega⟩, ?_⟩
      have one : ∀ k, 200 ≤ k → ∃ j, AtT l t j ∧ (j + 1 = l.length → (Tn l j).f0.f0 = t) ∧ tube_at.f k l t = some (ins l t j) := by
        intro k hk
        obtain ⟨k, rfl⟩ : ∃ m, k = m + 1 := ⟨k - 1, by omega⟩
        rw [hat, if_neg c1, if_neg c2]
        obtain ⟨j, m, ha, hm, e⟩ := at_l h t (l.length - 1) k 0 (by omega) (by omega) (by omega)
        obtain ⟨m, rfl⟩ : ∃ q, m = q + 4 := ⟨m - 4, by omega⟩
        obtain ⟨hj, g1, g2⟩ := id ha
        have hN : rd_T30 l (j : Int) = Tn l j := rfl
        have hlast : j + 1 = l.length → (Tn l j).f0.f0 = t := by
          intro hjl
          have : l.length - 1 = j := by omega
          rw [this] at c2
          omega
        refine ⟨j, ha, hlast, ?_⟩
        have e0 : tube_at.l0 k l t 0 = tube_at.j2 (m + 4) l t (j : Int) := e
        rw [e0, tube_at.j2, if_pos (by omega), if_pos (by omega), hN]
        unfold ins
        by_cases c : (Tn l j).f0.f0 = t
        · rw [if_pos c, if_pos c]
        · have hj1 : j + 1 < l.length := by
            rcases Nat.lt_or_ge (j + 1) l.length with g | g
            · exact g
            · exact absurd (hlast (by omega)) c
          have g3 := g2 hj1
          obtain ⟨a1, a2, a3, a4, a5, a6⟩ := hn j hj
          obtain ⟨b1, b2, b3, b4, b5, b6⟩ := hn (j + 1) hj1
          have hN' : rd_T30 l ((j + 1 : Nat) : Int) = Tn l (j + 1) := rfl
          rw [if_neg c, if_neg c, w64 (x := (j : Int) + 1) (by omega) (by omega), if_pos (by omega), if_pos (by omega), show ((j : Int) + 1) = ((j + 1 : Nat) : Int) by omega, hN',
            w64 (x := t - (Tn l j).f0.f0) (by omega) (by omega), w64 (x := (Tn l (j + 1)).f0.f0 - (Tn l j).f0.f0) (by omega) (by omega), toward (m + 1) (by omega) (by omega) (by omega) (by omega) a3 b3, Option.bind_some,
            between_f (m + 2) (by omega) (by omega) (by omega) (by omega) (by omega) (by omega) (by omega) (by omega), Option.bind_some,
            above_f (m + 2) (by omega) (by omega) (by omega) (by omega) (by omega) (by omega) (by omega) (by omega), Option.bind_some,
            above_f (m + 2) (by omega) (by omega) (by omega) (by omega) (by omega) (by omega) (by omega) (by omega), Option.bind_some]
          rfl
      obtain ⟨j, ha, hlast, _⟩ := one 200 (by decide)
      refine ⟨j, ha, hlast, fun k hk => ?_⟩
      obtain ⟨j', ha', _, e⟩ := one k hk
      rw [e, AtT.same h ha' ha]
theorem tubeWorks (k : Nat) (hk : 100 ≤ k) : skywaykeep1_tubeWorks.f k = some true := by
  have h : skywaykeep1_tubeWorks.f 100 = some true := by decide +kernel
  exact at_rounds skywaykeep1_tubeWorks.mono hk h
def sh (x y later : Int) (n : S30) : S30 := ⟨⟨wrap64 (n.f0.f0 + later), ⟨wrap64 (n.f0.f1.f0 + x), wrap64 (n.f0.f1.f1 + y)⟩, n.f0.f2⟩, n.f1, n.f2⟩
theorem shift_l (l : List S30) (hl : l.length ≤ 64) (x y later : Int) {e : Int} (he : ∀ k, 130 ≤ k → tube_Check.f k (l.map (sh x y later)) = some e) : ∀ (d k i : Nat), i + d = l.length → d + 140 ≤ k →
    tube_Shift.l0 k later ((l.take i).map (sh x y later)) l (l.length : Int) (i : Int) x y = if e = 0 then some (l.map (sh x y later), 0) else some ([], e)
  | 0, k, i, hi, hk => by
    obtain ⟨k, rfl⟩ : ∃ m, k = m + 1 := ⟨k - 1, by omega⟩
    rw [tube_Shift.l0, if_neg (by omega), List.take_of_length_le (by omega), he k (by omega), Option.bind_some]
  | d + 1, k, i, hi, hk => by
    obtain ⟨k, rfl⟩ : ∃ m, k = m + 1 := ⟨k - 1, by omega⟩
    have hlt : i < l.length := by omega
    have e1 : rd_T30 l (i : Int) = l[i] := by unfold rd_T30; rw [Int.toNat_natCast, List.getD_eq_getElem?_getD, List.getElem?_eq_getElem hlt]; rfl
    have ih := shift_l l hl x y later he d k (i + 1) (by omega) (by omega)
    rw [tube_Shift.l0, if_pos (by omega), if_pos (by omega), if_pos (by omega), e1]
    unfold plane_Add.f
    rw [Option.bind_some, if_pos (by rw [List.length_map, List.length_take]; omega), w64 (x := (i : Int) + 1) (by omega) (by omega), show ((i : Int) + 1) = ((i + 1 : Nat) : Int) by omega]
    rw [List.take_succ_eq_append_getElem hlt, List.map_append, List.map_singleton] at ih
    exact ih
theorem sh_at {l : List S30} {x y later : Int} (h : TubeOk l) (x1 : -2000000 ≤ x) (x2 : x ≤ 2000000) (y1 : -2000000 ≤ y) (y2 : y ≤ 2000000) (l1 : -200000 ≤ later) (l2 : later ≤ 200000) {i : Nat} (hi : i < l.length) :
    Tn (l.map (sh x y later)) i = ⟨⟨(Tn l i).f0.f0 + later, ⟨(Tn l i).f0.f1.f0 + x, (Tn l i).f0.f1.f1 + y⟩, (Tn l i).f0.f2⟩, (Tn l i).f1, (Tn l i).f2⟩ := by
  have e1 : Tn l i = l[i] := by unfold Tn rd_T30; rw [Int.toNat_natCast, List.getD_eq_getElem?_getD, List.getElem?_eq_getElem hi]; rfl
  have e2 : Tn (l.map (sh x y later)) i = sh x y later l[i] := by
    unfold Tn rd_T30
    rw [Int.toNat_natCast, List.getD_eq_getElem?_getD, List.getElem?_map, List.getElem?_eq_getElem hi]; rfl
  obtain ⟨⟨a1, a2⟩, _, ⟨p1, p2, p3, p4⟩, _⟩ := h.2.2 i hi
  rw [e1] at a1 a2 p1 p2 p3 p4
  rw [e2, e1]
  unfold sh
  rw [w64 (x := l[i].f0.f0 + later) (by omega) (by omega), w64 (x := l[i].f0.f1.f0 + x) (by omega) (by omega), w64 (x := l[i].f0.f1.f1 + y) (by omega) (by omega)]
theorem TubeShifts : skywaykeep1_TubeShifts.Pure := by
  intro l x y later t0 _ _ _ _ _
  refine ⟨400, ?_⟩
  unfold skywaykeep1_TubeShifts.f
  rw [tubeWorks 400 (by decide), Option.bind_some, if_pos rfl]
  obtain ⟨e, he, hz⟩ := tcheck l
  by_cases h0 : e = 0
  · have h := hz h0
    subst h0
    obtain ⟨hl0, hl, hn⟩ := id h
    obtain ⟨e', he', hz'⟩ := tcheck (l.map (sh x y later))
    by_cases hr : -2000000 ≤ x ∧ x ≤ 2000000 ∧ -2000000 ≤ y ∧ y ≤ 2000000 ∧ -200000 ≤ later ∧ later ≤ 200000
    · obtain ⟨x1, x2, y1, y2, l1, l2⟩ := hr
      have hsh : tube_Shift.f 400 l x y later = if e' = 0 then some (l.map (sh x y later), 0) else some ([], e') := by
        unfold tube_Shift.f
        rw [he 400 (by decide), Option.bind_some, if_pos rfl, if_neg (by omega), if_neg (by omega), if_neg (by omega), if_neg (by omega), if_neg (by omega), show (400 : Nat) = 399 + 1 from rfl, tube_Shift.j0, if_neg (by simp; omega)]
        exact shift_l l hl x y later he' l.length 399 0 (by omega) (by omega)
      rw [hsh]
      by_cases h1 : e' = 0
      · have hx := hz' h1
        subst h1
        have sa : ∀ {i : Nat}, i < l.length → Tn (l.map (sh x y later)) i = ⟨⟨(Tn l i).f0.f0 + later, ⟨(Tn l i).f0.f1.f0 + x, (Tn l i).f0.f1.f1 + y⟩, (Tn l i).f0.f2⟩, (Tn l i).f1, (Tn l i).f2⟩ := fun hi => sh_at h x1 x2 y1 y2 l1 l2 hi
        rw [if_pos rfl, Option.bind_some, if_pos rfl, if_pos (by omega)]
        dsimp only
        have n0 : rd_T30 l 0 = Tn l 0 := rfl
        obtain ⟨⟨a1, a2⟩, _⟩ := hn 0 hl0
        have k1 := tmod_bd t0 (show (0 : Int) < 1000 by decide)
        rw [n0, w64 (x := Int.tmod t0 1000 + 1000) (by omega) (by omega), Int.tmod_eq_emod_of_nonneg (show 0 ≤ Int.tmod t0 1000 + 1000 by omega), w64 (x := (Tn l 0).f0.f0 + (Int.tmod t0 1000 + 1000) % 1000) (by omega) (by omega), w64 (x := (Tn l 0).f0.f0 + (Int.tmod t0 1000 + 1000) % 1000 + later) (by omega) (by omega)]
        have t1 : 0 ≤ (Tn l 0).f0.f0 + (Int.tmod t0 1000 + 1000) % 1000 := by omega
        have t2 : (Tn l 0).f0.f0 + (Int.tmod t0 1000 + 1000) % 1000 ≤ 300000 := by omega
        generalize (Tn l 0).f0.f0 + (Int.tmod t0 1000 + 1000) % 1000 = t at *
        have eA : ∀ (m : List S30) (u : Int) (v : Int × Int × Int × Int × Int × Int × Int), (∀ k, 130 ≤ k → tube_Check.f k m = some 0) → tube_at.f 400 m u = some v → tube_At.f 400 m u = some v := by
          intro m u v hm hv
          unfold tube_At.f
          rw [hm 400 (by decide), Option.bind_some, if_pos rfl, hv, Option.bind_some]
        have len : (l.map (sh x y later)).length = l.length := List.length_map _
        rcases at_f h t with ⟨ho, ea⟩ | ⟨⟨g1, g2⟩, j, ja, jl, ea⟩
        · rcases at_f hx (t + later) with ⟨_, eb⟩ | ⟨⟨g1, g2⟩, _⟩
          · rw [eA l t _ he (ea 400 (by decide)), eA _ _ _ he' (eb 400 (by decide)), Option.bind_some, Option.bind_some]
            unfold plane_Add.f
            rw [Option.bind_some, if_pos rfl, if_neg (by decide)]
          · exfalso
            rw [sa hl0] at g1
            rw [len, sa (show l.length - 1 < l.length by omega)] at g2
            dsimp only at g1 g2
            omega
        · rcases at_f hx (t + later) with ⟨ho, eb⟩ | ⟨_, j', ja', jl', eb⟩
          · exfalso
            rw [sa hl0, len, sa (show l.length - 1 < l.length by omega)] at ho
            dsimp only at ho
            omega
          · have hjj : j' = j := by
              refine AtT.same h ?_ ja
              obtain ⟨q1, q2, q3⟩ := ja'
              rw [len] at q1 q3
              rw [sa q1] at q2
              refine ⟨q1, by dsimp only at q2; omega, fun g => ?_⟩
              have := q3 g
              rw [sa g] at this
              dsimp only at this
              omega
            subst hjj
            have hj := ja.1
            rw [eA l t _ he (ea 400 (by decide)), eA _ _ _ he' (eb 400 (by decide)), Option.bind_some, Option.bind_some]
            unfold plane_Add.f
            rw [Option.bind_some]
            unfold ins
            obtain ⟨⟨b1, b2⟩, _, ⟨p1, p2, p3, p4⟩, _⟩ := hn j' hj
            rw [sa hj]
            dsimp only
            by_cases c : (Tn l j').f0.f0 = t
            · rw [if_pos c, if_pos (show (Tn l j').f0.f0 + later = t + later by omega), if_pos rfl, if_pos rfl]
              dsimp only
              rw [w64 (x := (Tn l j').f0.f0 + later) (by omega) (by omega), w64 (x := (Tn l j').f0.f1.f0 + x) (by omega) (by omega), w64 (x := (Tn l j').f0.f1.f1 + y) (by omega) (by omega)]
              simp
            · have hj1 : j' + 1 < l.length := by
                rcases Nat.lt_or_ge (j' + 1) l.length with g | g
                · exact g
                · exact absurd (jl (by omega)) c
              rw [if_neg c, if_neg (show ¬ (Tn l j').f0.f0 + later = t + later by omega)]
              have jt := ja.2.2 hj1
              have jt1 := ja.2.1
              obtain ⟨⟨c1, c2⟩, _, ⟨r1, r2, r3, r4⟩, _⟩ := hn (j' + 1) hj1
              have hm : mid (l.map (sh x y later)) (t + later) j' = (t + later, (mid l t j').2.1 + x, (mid l t j').2.2.1 + y, (mid l t j').2.2.2) := by
                unfold mid
                rw [sa hj, sa hj1]
                dsimp only
                rw [show t + later - ((Tn l j').f0.f0 + later) = t - (Tn l j').f0.f0 by omega, show (Tn l (j' + 1)).f0.f0 + later - ((Tn l j').f0.f0 + later) = (Tn l (j' + 1)).f0.f0 - (Tn l j').f0.f0 by omega,
                  show (Tn l (j' + 1)).f0.f1.f0 + x - ((Tn l j').f0.f1.f0 + x) = (Tn l (j' + 1)).f0.f1.f0 - (Tn l j').f0.f1.f0 by omega, show (Tn l (j' + 1)).f0.f1.f1 + y - ((Tn l j').f0.f1.f1 + y) = (Tn l (j' + 1)).f0.f1.f1 - (Tn l j').f0.f1.f1 by omega]
                refine Prod.ext rfl (Prod.ext ?_ (Prod.ext ?_ rfl))
                · dsimp only; omega
                · dsimp only; omega
              obtain ⟨_, _, v1, v2⟩ := lin_bd (D := (Tn l (j' + 1)).f0.f1.f0 - (Tn l j').f0.f1.f0) (n := t - (Tn l j').f0.f0) (d := (Tn l (j' + 1)).f0.f0 - (Tn l j').f0.f0) (by omega) (by omega) (by omega) (by omega) (by omega) (by omega)
              obtain ⟨_, _, v3, v4⟩ := lin_bd (D := (Tn l (j' + 1)).f0.f1.f1 - (Tn l j').f0.f1.f1) (n := t - (Tn l j').f0.f0) (d := (Tn l (j' + 1)).f0.f0 - (Tn l j').f0.f0) (by omega) (by omega) (by omega) (by omega) (by omega) (by omega)
              rw [hm]
              have m1 : (mid l t j').1 = t := rfl
              have m2 : -3000000 ≤ (mid l t j').2.1 ∧ (mid l t j').2.1 ≤ 3000000 := by unfold mid; dsimp only; omega
              have m3 : -3000000 ≤ (mid l t j').2.2.1 ∧ (mid l t j').2.2.1 ≤ 3000000 := by unfold mid; dsimp only; omega
              have m4 : (mid l t j').2.2.2.2.2.2 = 0 := rfl
              dsimp only
              rw [if_pos rfl, m4, if_pos rfl, m1, w64 (x := t + later) (by omega) (by omega), w64 (x := (mid l t j').2.1 + x) (by omega) (by omega), w64 (x := (mid l t j').2.2.1 + y) (by omega) (by omega)]
              simp
      · rw [if_neg h1, Option.bind_some, if_neg h1]
        rfl
    · have hsh : tube_Shift.f 400 l x y later = some ([], 4) := by
        unfold tube_Shift.f
        rw [he 400 (by decide), Option.bind_some, if_pos rfl]
        have t : tube_Shift.j0 400 l later true x y = some ([], 4) := by rw [show (400 : Nat) = 399 + 1 from rfl, tube_Shift.j0, if_pos rfl]
        by_cases c1 : x < -2000000
        · rw [if_pos c1, t]
        rw [if_neg c1]
        by_cases c2 : x > 2000000
        · rw [if_pos c2, t]
        rw [if_neg c2]
        by_cases c3 : y < -2000000
        · rw [if_pos c3, t]
        rw [if_neg c3]
        by_cases c4 : y > 2000000
        · rw [if_pos c4, t]
        rw [if_neg c4]
        by_cases c5 : later < -200000
        · rw [if_pos c5, t]
        rw [if_neg c5, decide_eq_true (show later > 200000 by
          rcases Int.lt_or_le 200000 later with g | g
          · exact g
          · exact absurd ⟨by omega, by omega, by omega, by omega, by omega, g⟩ hr), t]
      rw [hsh, Option.bind_some, if_neg (by decide)]
      rfl
  · have hsh : tube_Shift.f 400 l x y later = some ([], e) := by
      unfold tube_Shift.f
      rw [he 400 (by decide), Option.bind_some, if_neg h0]
    rw [hsh, Option.bind_some, if_neg h0]
    rfl

end Go.Proofs.Yteaddpieonkboab.Pure
