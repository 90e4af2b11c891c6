/- TubeAll: for all tubes, All gives one node a second, in order, and they are the nodes that At gives. -/
import Derived.Test.YtbpbpojnfhhbjaaPTubeAllx
import Derived.Test.YtbpbpojnfhhbjaaMath
namespace Go.Proofs.Ytbpbpojnfhhbjaa.Pure
open Go Go.RowKit Go.Proofs.Ytbpbpojnfhhbjaa Go.Proofs.Ytbpbpojnfhhbjaa.PTubeAll Go.Proofs.YtbpbpojnfhhbjaaW.PrintWords Go.Proofs.YtbpbpojnfhhbjaaW.PrintLast Go.Proofs.YtbpbpojnfhhbjaaM
/-- A permitted coordinate. -/
def Ok (x y : Int) : Prop := -1000000 ≤ x ∧ x ≤ 1000000 ∧ -1000000 ≤ y ∧ y ≤ 1000000
instance (x y : Int) : Decidable (Ok x y) := inferInstanceAs (Decidable (_ ∧ _))
def S (x y : Int) : Int := x * x + y * y
theorem S_nonneg (x y : Int) : 0 ≤ S x y := by have := sq_nonneg x; have := sq_nonneg y; unfold S; omega
theorem square {ax ay bx b_y : Int} (h1 : -2000000000 ≤ ax - bx) (h2 : ax - bx ≤ 2000000000) (h3 : -2000000000 ≤ ay - b_y) (h4 : ay - b_y ≤ 2000000000) :
    plane_Square.f ax ay bx b_y = some (S (ax - bx) (ay - b_y)) ∧ S (ax - bx) (ay - b_y) ≤ 8000000000000000000 := by
  have q1 := sq_bd h1 h2
  have q2 := sq_bd h3 h4
  have p1 := sq_nonneg (ax - bx)
  have p2 := sq_nonneg (ay - b_y)
  refine ⟨?_, by unfold S; omega⟩
  unfold plane_Square.f plane_Sub.f plane_Dot.f S
  rw [w64 (by omega) (by omega), w64 (by omega) (by omega)]
  simp only [Option.bind_some]
  rw [w64 (x := (ax - bx) * (ax - bx)) (by omega) (by omega), w64 (x := (ay - b_y) * (ay - b_y)) (by omega) (by omega), w64 (by omega) (by omega)]
theorem down (k : Nat) (a b : Int) (a1 : -9223372036854775808 ≤ a) (a2 : a ≤ 9223372036854775807) (hb : b ≠ 0) (hno : ¬ (a = -9223372036854775808 ∧ b = -1)) : num_DivDown.f (k + 1) a b = some (Int.fdiv a b, 0) := by
  obtain ⟨r1, r2⟩ := fdiv_range a1 a2 hb hno
  have hf := tdiv_floor a b hb
  have main : num_DivDown.j0 (k + 1) a b false = some (Int.fdiv a b, 0) := by
    rw [num_DivDown.j0, if_neg (by decide), if_neg hb]
    by_cases h0 : Int.tmod a b = 0
    · rw [if_pos h0] at hf ⊢
      rw [hf, w64 r1 r2]
    · rw [if_neg h0] at hf ⊢
      by_cases hs : ((decide (a < 0)) != (decide (b < 0))) = true
      · rw [if_pos hs] at hf ⊢
        have ht : -9223372036854775808 ≤ Int.tdiv a b ∧ Int.tdiv a b ≤ 9223372036854775807 := by
          refine ⟨by omega, ?_⟩
          have h1 := Int.tdiv_nonpos_of_nonneg_of_nonpos (a := a) (b := b)
          by_cases ha : a < 0
          · have hb' : 0 < b := by
              simp [ha] at hs
              omega
            have h2 : Int.tdiv a b ≤ 0 := by
              have := Int.tdiv_nonneg (a := -a) (b := b) (by omega) (by omega)
              rw [Int.neg_tdiv] at this
              omega
            omega
          · have hb' : b < 0 := by
              simp [ha] at hs
              exact hs
            have := h1 (by omega) (by omega)
            omega
        rw [w64 ht.1 ht.2, hf, w64 r1 r2]
      · rw [if_neg hs] at hf ⊢
        rw [hf, w64 r1 r2]
  rw [num_DivDown.f, if_neg hb]
  by_cases ha : a = -9223372036854775808
  · rw [if_pos ha]
    have : (b == -1) = false := beq_eq_false_iff_ne.mpr (fun h => hno ⟨ha, h⟩)
    rw [this]
    exact main
  · rw [if_neg ha]
    exact main
theorem down_pos (k : Nat) (a b : Int) (a1 : -9223372036854775808 ≤ a) (a2 : a ≤ 9223372036854775807) (hb : 0 < b) : num_DivDown.f (k + 1) a b = some (a / b, 0) := by
  rw [down k a b a1 a2 (by omega) (by omega), fdiv_pos hb]
theorem dup (k : Nat) (a b : Int) (a1 : -9223372036854775808 ≤ a) (a2 : a ≤ 9223372036854775807) (hb : b ≠ 0) (hno : ¬ (a = -9223372036854775808 ∧ b = -1)) : num_DivUp.f (k + 1) a b = some (if Int.tmod a b = 0 then Int.fdiv a b else Int.fdiv a b + 1, 0) := by
  rw [num_DivUp.f, down k a b a1 a2 hb hno]
  simp only [Option.bind_some, if_true]
  rw [if_neg hb]
  by_cases h0 : Int.tmod a b = 0
  · rw [if_pos h0, if_pos h0]
  · rw [if_neg h0, if_neg h0]
    obtain ⟨r1, r2⟩ := fdiv_range a1 a2 hb hno
    have : Int.fdiv a b < 9223372036854775807 := by
      rcases Int.lt_or_le (Int.fdiv a b) 9223372036854775807 with h | h
      · exact h
      · exfalso
        have e : Int.fdiv a b = 9223372036854775807 := by omega
        have hm := Int.mul_fdiv_add_fmod a b
        rw [e] at hm
        have hn : Int.fmod a b ≠ 0 := fun h => h0 (Int.dvd_iff_tmod_eq_zero.1 (Int.dvd_iff_fmod_eq_zero.2 h))
        rcases Int.lt_or_le 0 b with hp | hp
        · have := Int.fmod_nonneg_of_pos a hp
          have := Int.fmod_lt_of_pos a hp
          omega
        · have h1 := Int.mul_fdiv_add_fmod (-a) (-b)
          rw [Int.neg_fdiv_neg, e] at h1
          have := Int.fmod_nonneg_of_pos (-a) (show 0 < -b by omega)
          have := Int.fmod_lt_of_pos (-a) (show 0 < -b by omega)
          omega
    rw [w64 (by omega) (by omega)]
theorem up_pos (k : Nat) (a b : Int) (a1 : -9223372036854775808 ≤ a) (a2 : a ≤ 9223372036854775807) (hb : 0 < b) : num_DivUp.f (k + 1) a b = some (if a % b = 0 then a / b else a / b + 1, 0) := by
  rw [dup k a b a1 a2 (by omega) (by omega), fdiv_pos hb]
  have : Int.tmod a b = 0 ↔ a % b = 0 := by rw [← Int.dvd_iff_tmod_eq_zero]; exact Int.dvd_iff_emod_eq_zero
  by_cases h : a % b = 0
  · rw [if_pos h, if_pos (this.2 h)]
  · rw [if_neg h, if_neg (fun g => h (this.1 g))]
theorem check_f (x y : Int) : plane_Check.f x y = some (if Ok x y then 0 else 4) := by
  unfold plane_Check.f
  by_cases c : Ok x y
  · rw [if_pos c]
    obtain ⟨c1, c2, c3, c4⟩ := c
    rw [if_neg (by omega), if_neg (by omega), if_neg (by omega), if_neg (by omega)]
  · rw [if_neg c]
    by_cases c1 : x < -1000000
    · rw [if_pos c1]
    · rw [if_neg c1]
      by_cases c2 : x > 1000000
      · rw [if_pos c2]
      · rw [if_neg c2]
        by_cases c3 : y < -1000000
        · rw [if_pos c3]
        · rw [if_neg c3, if_pos (by
            rcases Int.lt_or_le 1000000 y with h | h
            · exact h
            · exact absurd (show Ok x y from ⟨by omega, by omega, by omega, h⟩) c)]
theorem toward_bad (k : Nat) {ax ay bx b_y n d : Int} (h0 : 0 < d) (h1 : d ≤ 200000) (h2 : 0 ≤ n) (h3 : n ≤ d) (h : ¬ (Ok ax ay ∧ Ok bx b_y)) : plane_Toward.f (k + 2) ax ay bx b_y n d = some (0, 0, 4) := by
  unfold plane_Toward.f
  rw [if_neg (by omega), if_neg (by omega), if_neg (by omega), if_neg (by omega), check_f, check_f, Option.bind_some, Option.bind_some]
  by_cases ha : Ok ax ay
  · have hb : ¬ Ok bx b_y := fun hb => h ⟨ha, hb⟩
    rw [if_pos ha, if_neg hb, if_pos rfl, plane_Toward.j0, if_pos (by decide)]
  · rw [if_neg ha, if_neg (by decide), plane_Toward.j0, if_pos rfl]
theorem lin_bd {D n d : Int} (h0 : 0 < d) (h1 : d ≤ 200000) (h2 : 0 ≤ n) (h3 : n ≤ d) (h4 : -2000000 ≤ D) (h5 : D ≤ 2000000) :
    -400000000000 ≤ D * n ∧ D * n ≤ 400000000000 ∧ -2000000 ≤ D * n / d ∧ D * n / d ≤ 2000000 := by
  have m := mul_bd h4 h5 (show -200000 ≤ n by omega) (show n ≤ 200000 by omega)
  refine ⟨by omega, by omega, (Int.le_ediv_iff_mul_le h0).2 ?_, ?_⟩
  · have h6 := Int.mul_le_mul_of_nonneg_left h3 (show (0 : Int) ≤ 2000000 by decide)
    have h7 := Int.mul_nonneg (show 0 ≤ D + 2000000 by omega) h2
    rw [Int.add_mul] at h7
    omega
  · have : D * n / d < 2000001 := by
      refine (Int.ediv_lt_iff_lt_mul h0).2 ?_
      have h6 := Int.mul_le_mul_of_nonneg_left h3 (show (0 : Int) ≤ 2000000 by decide)
      have h7 := Int.mul_nonneg (show 0 ≤ 2000000 - D by omega) h2
      rw [Int.sub_mul] at h7
      omega
    omega
theorem toward (k : Nat) {ax ay bx b_y n d : Int} (h0 : 0 < d) (h1 : d ≤ 200000) (h2 : 0 ≤ n) (h3 : n ≤ d) (ha : Ok ax ay) (hb : Ok bx b_y) :
    plane_Toward.f (k + 2) ax ay bx b_y n d = some (ax + (bx - ax) * n / d, ay + (b_y - ay) * n / d, 0) := by
  obtain ⟨a1, a2, a3, a4⟩ := id ha
  obtain ⟨b1, b2, b3, b4⟩ := id hb
  obtain ⟨m1, m2, m3, m4⟩ := lin_bd h0 h1 h2 h3 (show -2000000 ≤ bx - ax by omega) (show bx - ax ≤ 2000000 by omega)
  obtain ⟨n1, n2, n3, n4⟩ := lin_bd h0 h1 h2 h3 (show -2000000 ≤ b_y - ay by omega) (show b_y - ay ≤ 2000000 by omega)
  unfold plane_Toward.f
  rw [if_neg (by omega), if_neg (by omega), if_neg (by omega), if_neg (by omega), check_f, check_f, Option.bind_some, Option.bind_some, if_pos ha, if_pos hb, if_pos rfl, plane_Toward.j0, if_neg (by decide)]
  rw [w64 (x := bx - ax) (by omega) (by omega), w64 (x := b_y - ay) (by omega) (by omega), w64 (x := (bx - ax) * n) (by omega) (by omega), w64 (x := (b_y - ay) * n) (by omega) (by omega)]
  rw [down_pos k _ d (by omega) (by omega) h0, down_pos k _ d (by omega) (by omega) h0, Option.bind_some, Option.bind_some, w64 (by omega) (by omega), w64 (by omega) (by omega)]
/-- Node i of a tube. -/
def Tn (l : List S88) (i : Nat) : S88 := rd_T88 l (i : Int)
def NodeT (l : List S88) (j : Nat) : Prop :=
  (0 ≤ (Tn l j).f0.f0 ∧ (Tn l j).f0.f0 ≤ 200000) ∧ (0 < j → (Tn l (j - 1)).f0.f0 < (Tn l j).f0.f0) ∧ Ok (Tn l j).f0.f1.f0 (Tn l j).f0.f1.f1 ∧ (0 ≤ (Tn l j).f0.f2 ∧ (Tn l j).f0.f2 ≤ 60000) ∧ (0 ≤ (Tn l j).f1 ∧ (Tn l j).f1 ≤ 1000000) ∧ 0 ≤ (Tn l j).f2 ∧ (Tn l j).f2 ≤ 60000
theorem tcheck_l (l : List S88) (hl : l.length ≤ 64) : ∀ (d k i : Nat), i + d = l.length → 2 * d + 1 ≤ k →
    ∃ e, tube_Check.l0 k l l (l.length : Int) (i : Int) = some e ∧ (e = 0 → ∀ j, i ≤ j → j < l.length → NodeT l j)
  | 0, k, i, hi, hk => by
    obtain ⟨k, rfl⟩ : ∃ m, k = m + 1 := ⟨k - 1, by omega⟩
    rw [tube_Check.l0, if_neg (by omega)]
    exact ⟨0, rfl, fun _ j h1 h2 => by omega⟩
  | d + 1, k, i, hi, hk => by
    obtain ⟨k, rfl⟩ : ∃ m, k = m + 2 := ⟨k - 2, by omega⟩
    have hlt : i < l.length := by omega
    have hN : rd_T88 l (i : Int) = Tn l i := rfl
    obtain ⟨e', ih, ihz⟩ := tcheck_l l hl d k (i + 1) (by omega) (by omega)
    have j1 : ∀ b : Bool, (b = false → 0 ≤ (Tn l i).f0.f0 ∧ (Tn l i).f0.f0 ≤ 200000 ∧ (0 < i → (Tn l (i - 1)).f0.f0 < (Tn l i).f0.f0)) → ∃ e, tube_Check.j1 (k + 1) l l (l.length : Int) (i : Int) b (Tn l i).f0.f0 (Tn l i).f0.f1.f0 (Tn l i).f0.f1.f1 (Tn l i).f0.f2 (Tn l i).f1 (Tn l i).f2 = some e ∧ (e = 0 → ∀ j, i ≤ j → j < l.length → NodeT l j) := by
      intro b hb
      rw [tube_Check.j1]
      cases b with
      | true => rw [if_pos rfl]; exact ⟨12, rfl, fun h => by omega⟩
      | false =>
        obtain ⟨b1, b2, b3⟩ := hb rfl
        rw [if_neg (by decide), check_f, Option.bind_some]
        by_cases hp : Ok (Tn l i).f0.f1.f0 (Tn l i).f0.f1.f1
        · rw [if_pos hp, if_pos rfl]
          by_cases h1 : (Tn l i).f0.f2 < 0
          · rw [if_pos h1]; exact ⟨4, rfl, fun h => by omega⟩
          rw [if_neg h1]
          by_cases h2 : (Tn l i).f0.f2 > 60000
          · rw [if_pos h2]; exact ⟨4, rfl, fun h => by omega⟩
          rw [if_neg h2]
          by_cases h3 : (Tn l i).f1 < 0
          · rw [if_pos h3]; exact ⟨4, rfl, fun h => by omega⟩
          rw [if_neg h3]
          by_cases h4 : (Tn l i).f1 > 1000000
          · rw [if_pos h4]; exact ⟨4, rfl, fun h => by omega⟩
          rw [if_neg h4]
          by_cases h5 : (Tn l i).f2 < 0
          · rw [if_pos h5]; exact ⟨4, rfl, fun h => by omega⟩
          rw [if_neg h5]
          by_cases h6 : (Tn l i).f2 > 60000
          · rw [if_pos h6]; exact ⟨4, rfl, fun h => by omega⟩
          rw [if_neg h6, w64 (by omega) (by omega), show ((i : Int) + 1) = ((i + 1 : Nat) : Int) by omega, ih]
          refine ⟨e', rfl, fun h j g1 g2 => ?_⟩
          by_cases hij : j = i
          · rw [hij]; exact ⟨⟨b1, b2⟩, b3, hp, ⟨by omega, by omega⟩, ⟨by omega, by omega⟩, by omega, by omega⟩
          · exact ihz h j (by omega) g2
        · rw [if_neg hp, if_neg (by decide)]; exact ⟨4, rfl, fun h => by omega⟩
    rw [tube_Check.l0, if_pos (by omega), if_pos (by omega), if_pos (by omega), hN]
    by_cases h1 : (Tn l i).f0.f0 < 0
    · rw [if_pos h1]; exact j1 true (fun h => by cases h)
    · rw [if_neg h1]
      by_cases h2 : (Tn l i).f0.f0 > 200000
      · rw [if_pos h2]; exact j1 true (fun h => by cases h)
      · rw [if_neg h2]
        by_cases h3 : (i : Int) > 0
        · rw [if_pos h3, w64 (by omega) (by omega), if_pos (by omega), if_pos (by omega), show ((i : Int) - 1) = ((i - 1 : Nat) : Int) by omega]
          have hN' : rd_T88 l ((i - 1 : Nat) : Int) = Tn l (i - 1) := rfl
          rw [hN']
          refine j1 _ (fun h => ⟨by omega, by omega, fun _ => ?_⟩)
          have := of_decide_eq_false h
          omega
        · rw [if_neg h3]
          exact j1 false (fun _ => ⟨by omega, by omega, fun h => by omega⟩)
/-- A valid tube. -/
def TubeOk (l : List S88) : Prop := 0 < l.length ∧ l.length ≤ 64 ∧ ∀ j, j < l.length → NodeT l j
theorem tcheck (l : List S88) : ∃ e, (∀ k, 130 ≤ k → tube_Check.f k l = some e) ∧ (e = 0 → TubeOk l) := by
  have main : ∃ e, tube_Check.f 130 l = some e ∧ (e = 0 → TubeOk l) := by
    unfold tube_Check.f
    by_cases h1 : (l.length : Int) > 64
    · rw [if_pos h1]; exact ⟨2, rfl, fun h => by omega⟩
    · rw [if_neg h1]
      by_cases h2 : (l.length : Int) = 0
      · rw [if_pos h2]; exact ⟨3, rfl, fun h => by omega⟩
      · rw [if_neg h2]
        obtain ⟨e, he, hz⟩ := tcheck_l l (by omega) l.length 130 0 (by omega) (by omega)
        exact ⟨e, he, fun h => ⟨by omega, by omega, fun j hj => hz h j (by omega) hj⟩⟩
  obtain ⟨e, he, hz⟩ := main
  exact ⟨e, fun k hk => at_rounds (fun k => tube_Check.mono l k) hk he, hz⟩
theorem ttimes {l : List S88} (h : TubeOk l) : ∀ (d i : Nat), i + d + 1 < l.length → (Tn l i).f0.f0 < (Tn l (i + d + 1)).f0.f0
  | 0, i, hd => by have := (h.2.2 (i + 1) hd).2.1 (by omega); exact this
  | d + 1, i, hd => by
    have h1 := ttimes h d i (by omega)
    have h2 := (h.2.2 (i + d + 2) (by omega)).2.1 (by omega)
    have e : i + d + 2 - 1 = i + d + 1 := by omega
    rw [e] at h2
    have e2 : i + (d + 1) + 1 = i + d + 2 := by omega
    rw [e2]
    omega
theorem ttimes_lt {l : List S88} (h : TubeOk l) {i j : Nat} (hij : i < j) (hj : j < l.length) : (Tn l i).f0.f0 < (Tn l j).f0.f0 := by
  have := ttimes h (j - i - 1) i (by omega)
  have e : i + (j - i - 1) + 1 = j := by omega
  rw [e] at this
  exact this
/-- The place of a time in a tube. -/
def AtT (l : List S88) (t : Int) (j : Nat) : Prop := j < l.length ∧ (Tn l j).f0.f0 ≤ t ∧ (j + 1 < l.length → t < (Tn l (j + 1)).f0.f0)
theorem AtT.same {l : List S88} (h : TubeOk l) {t : Int} {i j : Nat} (hi : AtT l t i) (hj : AtT l t j) : i = j := by
  obtain ⟨i1, i2, i3⟩ := hi
  obtain ⟨j1, j2, j3⟩ := hj
  rcases Nat.lt_trichotomy i j with g | g | g
  · have := i3 (by omega)
    rcases Nat.lt_or_ge (i + 1) j with g2 | g2
    · have := ttimes_lt h g2 j1; omega
    · have : j = i + 1 := by omega
      subst this; omega
  · exact g
  · have := j3 (by omega)
    rcases Nat.lt_or_ge (j + 1) i with g2 | g2
    · have := ttimes_lt h g2 i1; omega
    · have : i = j + 1 := by omega
      subst this; omega
theorem at_l {l : List S88} (h : TubeOk l) (t : Int) : ∀ (d k i : Nat), i + d + 1 = l.length → d + 1 ≤ k → (Tn l i).f0.f0 ≤ t →
    ∃ j m, AtT l t j ∧ k ≤ m + d + 1 ∧ tube_at.l0 k l t (i : Int) = tube_at.j2 m l t (j : Int)
  | 0, k, i, hi, hk, ht => by
    obtain ⟨k, rfl⟩ : ∃ m, k = m + 1 := ⟨k - 1, by omega⟩
    have hl := h.2.1
    rw [tube_at.l0, w64 (by omega) (by omega), if_neg (by omega)]
    exact ⟨i, k, ⟨by omega, ht, fun _ => by omega⟩, by omega, rfl⟩
  | d + 1, k, i, hi, hk, ht => by
    obtain ⟨k, rfl⟩ : ∃ m, k = m + 1 := ⟨k - 1, by omega⟩
    have hl := h.2.1
    rw [tube_at.l0, w64 (by omega) (by omega), if_pos (by omega), if_pos (by omega), show ((i : Int) + 1) = ((i + 1 : Nat) : Int) by omega]
    have hN : rd_T88 l ((i + 1 : Nat) : Int) = Tn l (i + 1) := rfl
    rw [hN]
    by_cases c : (Tn l (i + 1)).f0.f0 ≤ t
    · rw [if_pos c]
      obtain ⟨j, m, h1, h5, h6⟩ := at_l h t d k (i + 1) (by omega) (by omega) c
      exact ⟨j, m, h1, by omega, h6⟩
    · rw [if_neg c]
      exact ⟨i, k, ⟨by omega, ht, fun _ => by omega⟩, by omega, rfl⟩
def lin (a b n d : Int) : Int := a + (b - a) * n / d
def linUp (a b n d : Int) : Int := a + (if (b - a) * n % d = 0 then (b - a) * n / d else (b - a) * n / d + 1)
theorem between_f (k : Nat) {a b n d : Int} (h0 : 0 < d) (h1 : d ≤ 200000) (h2 : 0 ≤ n) (h3 : n ≤ d) (a1 : 0 ≤ a) (a2 : a ≤ 1000000) (b1 : 0 ≤ b) (b2 : b ≤ 1000000) : tube_between.f (k + 1) a b n d = some (lin a b n d) := by
  obtain ⟨m1, m2, m3, m4⟩ := lin_bd h0 h1 h2 h3 (show -2000000 ≤ b - a by omega) (show b - a ≤ 2000000 by omega)
  unfold tube_between.f lin
  rw [w64 (x := b - a) (by omega) (by omega), w64 (x := (b - a) * n) (by omega) (by omega), down_pos k _ d (by omega) (by omega) h0, Option.bind_some, w64 (by omega) (by omega)]
theorem above_f (k : Nat) {a b n d : Int} (h0 : 0 < d) (h1 : d ≤ 200000) (h2 : 0 ≤ n) (h3 : n ≤ d) (a1 : 0 ≤ a) (a2 : a ≤ 1000000) (b1 : 0 ≤ b) (b2 : b ≤ 1000000) : tube_above.f (k + 1) a b n d = some (linUp a b n d) := by
  obtain ⟨m1, m2, m3, m4⟩ := lin_bd h0 h1 h2 h3 (show -2000000 ≤ b - a by omega) (show b - a ≤ 2000000 by omega)
  unfold tube_above.f linUp
  rw [w64 (x := b - a) (by omega) (by omega), w64 (x := (b - a) * n) (by omega) (by omega), up_pos k _ d (by omega) (by omega) h0, Option.bind_some, w64 (by dsimp only; split <;> omega) (by dsimp only; split <;> omega)]
/-- A tube's node at a time between node j and the next. -/
def mid (l : List S88) (t : Int) (j : Nat) : Int × Int × Int × Int × Int × Int × Int :=
  let a := Tn l j
  let b := Tn l (j + 1)
  let n := t - a.f0.f0
  let d := b.f0.f0 - a.f0.f0
  (t, a.f0.f1.f0 + (b.f0.f1.f0 - a.f0.f1.f0) * n / d, a.f0.f1.f1 + (b.f0.f1.f1 - a.f0.f1.f1) * n / d, lin a.f0.f2 b.f0.f2 n d, linUp a.f1 b.f1 n d, linUp a.f2 b.f2 n d, 0)
/-- What at answers inside a valid tube's time. -/
def ins (l : List S88) (t : Int) (j : Nat) : Int × Int × Int × Int × Int × Int × Int :=
  if (Tn l j).f0.f0 = t then ((Tn l j).f0.f0, (Tn l j).f0.f1.f0, (Tn l j).f0.f1.f1, (Tn l j).f0.f2, (Tn l j).f1, (Tn l j).f2, 0) else mid l t j
theorem at_f {l : List S88} (h : TubeOk l) (t : Int) :
    ((t < (Tn l 0).f0.f0 ∨ t > (Tn l (l.length - 1)).f0.f0) ∧ ∀ k, 200 ≤ k → tube_at.f k l t = some (0, 0, 0, 0, 0, 0, 12)) ∨
    (((Tn l 0).f0.f0 ≤ t ∧ t ≤ (Tn l (l.length - 1)).f0.f0) ∧ ∃ j, AtT l t j ∧ (j + 1 = l.length → (Tn l j).f0.f0 = t) ∧ ∀ k, 200 ≤ k → tube_at.f k l t = some (ins l t j)) := by
  obtain ⟨hl0, hl, hn⟩ := id h
  have n0 : rd_T88 l 0 = Tn l 0 := rfl
  have n1 : rd_T88 l ((l.length - 1 : Nat) : Int) = Tn l (l.length - 1) := rfl
  have hat : ∀ k, tube_at.f (k + 1) l t = if t < (Tn l 0).f0.f0 then some (0, 0, 0, 0, 0, 0, 12) else if t > (Tn l (l.length - 1)).f0.f0 then some (0, 0, 0, 0, 0, 0, 12) else tube_at.l0 k l t 0 := by
    intro k
    unfold tube_at.f
    rw [if_pos (show (0 : Int) < (l.length : Int) by omega), n0]
    by_cases c1 : t < (Tn l 0).f0.f0
    · rw [if_pos c1, if_pos c1, tube_at.j0, if_pos rfl]
    · rw [if_neg c1, if_neg c1, w64 (x := (l.length : Int) - 1) (by omega) (by omega), if_pos (show (0 : Int) ≤ (l.length : Int) - 1 by omega), if_pos (show (l.length : Int) - 1 < (l.length : Int) by omega), show ((l.length : Int) - 1) = ((l.length - 1 : Nat) : Int) by omega, n1]
      by_cases c2 : t > (Tn l (l.length - 1)).f0.f0
      · rw [if_pos c2, tube_at.j0, if_pos (decide_eq_true c2)]
      · rw [if_neg c2, tube_at.j0, if_neg (by simpa using c2)]
  by_cases c1 : t < (Tn l 0).f0.f0
  · left
    refine ⟨Or.inl c1, fun k hk => ?_⟩
    obtain ⟨k, rfl⟩ : ∃ m, k = m + 1 := ⟨k - 1, by omega⟩
    rw [hat, if_pos c1]
  · by_cases c2 : t > (Tn l (l.length - 1)).f0.f0
    · left
      refine ⟨Or.inr c2, fun k hk => ?_⟩
      obtain ⟨k, rfl⟩ : ∃ m, k = m + 1 := ⟨k - 1, by omega⟩
      rw [hat, if_neg c1, if_pos c2]
    · right
      refine ⟨⟨by omega, by omega⟩, ?_⟩
      have one : ∀ k, 200 ≤ k → ∃ j, AtT l t j ∧ (j + 1 = l.length → (Tn l j).f0.f0 = t) ∧ tube_at.f k l t = some (ins l t j) := by
        intro k hk
        obtain ⟨k, rfl⟩ : ∃ m, k = m + 1 := ⟨k - 1, by omega⟩
        rw [hat, if_neg c1, if_neg c2]
        obtain ⟨j, m, ha, hm, e⟩ := at_l h t (l.length - 1) k 0 (by omega) (by omega) (by omega)
        obtain ⟨m, rfl⟩ : ∃ q, m = q + 4 := ⟨m - 4, by omega⟩
        obtain ⟨hj, g1, g2⟩ := id ha
        have hN : rd_T88 l (j : Int) = Tn l j := rfl
        have hlast : j + 1 = l.length → (Tn l j).f0.f0 = t := by
          intro hjl
          have : l.length - 1 = j := by omega
          rw [this] at c2
          omega
        refine ⟨j, ha, hlast, ?_⟩
        have e0 : tube_at.l0 k l t 0 = tube_at.j2 (m + 4) l t (j : Int) := e
        rw [e0, tube_at.j2, if_pos (by omega), if_pos (by omega), hN]
        unfold ins
        by_cases c : (Tn l j).f0.f0 = t
        · rw [if_pos c, if_pos c]
        · have hj1 : j + 1 < l.length := by
            rcases Nat.lt_or_ge (j + 1) l.length with g | g
            · exact g
            · exact absurd (hlast (by omega)) c
          have g3 := g2 hj1
          obtain ⟨a1, a2, a3, a4, a5, a6⟩ := hn j hj
          obtain ⟨b1, b2, b3, b4, b5, b6⟩ := hn (j + 1) hj1
          have hN' : rd_T88 l ((j + 1 : Nat) : Int) = Tn l (j + 1) := rfl
          rw [if_neg c, if_neg c, w64 (x := (j : Int) + 1) (by omega) (by omega), if_pos (by omega), if_pos (by omega), show ((j : Int) + 1) = ((j + 1 : Nat) : Int) by omega, hN',
            w64 (x := t - (Tn l j).f0.f0) (by omega) (by omega), w64 (x := (Tn l (j + 1)).f0.f0 - (Tn l j).f0.f0) (by omega) (by omega), toward (m + 1) (by omega) (by omega) (by omega) (by omega) a3 b3, Option.bind_some,
            between_f (m + 2) (by omega) (by omega) (by omega) (by omega) (by omega) (by omega) (by omega) (by omega), Option.bind_some,
            above_f (m + 2) (by omega) (by omega) (by omega) (by omega) (by omega) (by omega) (by omega) (by omega), Option.bind_some,
            above_f (m + 2) (by omega) (by omega) (by omega) (by omega) (by omega) (by omega) (by omega) (by omega), Option.bind_some]
          rfl
      obtain ⟨j, ha, hlast, _⟩ := one 200 (by decide)
      refine ⟨j, ha, hlast, fun k hk => ?_⟩
      obtain ⟨j', ha', _, e⟩ := one k hk
      rw [e, AtT.same h ha' ha]
theorem yes_l {l : List S88} (h : TubeOk l) : ∀ (d k i : Nat), i + d = l.length → 2 * d + 1 ≤ k → tube_Check.l0 k l l (l.length : Int) (i : Int) = some 0
  | 0, k, i, hi, hk => by
    obtain ⟨k, rfl⟩ : ∃ m, k = m + 1 := ⟨k - 1, by omega⟩
    rw [tube_Check.l0, if_neg (by omega)]
  | d + 1, k, i, hi, hk => by
    obtain ⟨k, rfl⟩ : ∃ m, k = m + 2 := ⟨k - 2, by omega⟩
    have hl := h.2.1
    have e1 : ∀ j : Nat, rd_T88 l (j : Int) = Tn l j := fun _ => rfl
    obtain ⟨⟨a1, a2⟩, a3, a4, ⟨a5, a6⟩, ⟨a7, a8⟩, a9, a10⟩ := h.2.2 i (by omega)
    have ih := yes_l h d k (i + 1) (by omega) (by omega)
    have j1 : tube_Check.j1 (k + 1) l l (l.length : Int) (i : Int) false (Tn l i).f0.f0 (Tn l i).f0.f1.f0 (Tn l i).f0.f1.f1 (Tn l i).f0.f2 (Tn l i).f1 (Tn l i).f2 = some 0 := by
      rw [tube_Check.j1, if_neg (by decide), check_f, Option.bind_some, if_pos a4, if_pos rfl, if_neg (by omega), if_neg (by omega), if_neg (by omega), if_neg (by omega), if_neg (by omega), if_neg (by omega), w64 (by omega) (by omega), show ((i : Int) + 1) = ((i + 1 : Nat) : Int) by omega]
      exact at_rounds (fun k => (tube_Check.mono_l k).1 l l (l.length : Int) ((i + 1 : Nat) : Int)) (Nat.le_refl _) ih
    rw [tube_Check.l0, if_pos (by omega), if_pos (by omega), if_pos (by omega), e1, if_neg (by omega), if_neg (by omega)]
    by_cases h3 : (i : Int) > 0
    · have := a3 (by omega)
      rw [if_pos h3, w64 (by omega) (by omega), if_pos (by omega), if_pos (by omega), show ((i : Int) - 1) = ((i - 1 : Nat) : Int) by omega, e1, decide_eq_false (by omega)]
      exact j1
    · rw [if_neg h3]
      exact j1
theorem tcheck_yes {l : List S88} (h : TubeOk l) (k : Nat) (hk : 130 ≤ k) : tube_Check.f k l = some 0 := by
  have hl0 := h.1
  have hl := h.2.1
  unfold tube_Check.f
  rw [if_neg (by omega), if_neg (by omega)]
  exact yes_l h l.length k 0 (by omega) (by omega)
theorem fl_le {z M d : Int} (hd : 0 < d) (h : z ≤ M * d) : z / d ≤ M := by
  have h1 := floor_le (a := z) hd
  rcases Int.lt_or_le M (z / d) with g | g
  · have h2 := Int.mul_le_mul_of_nonneg_right (show M + 1 ≤ z / d by omega) (Int.le_of_lt hd)
    rw [Int.add_mul, Int.one_mul] at h2
    omega
  · exact g
theorem le_fl {z M d : Int} (hd : 0 < d) (h : M * d ≤ z) : M ≤ z / d := by
  have h1 := lt_floor (a := z) hd
  rcases Int.lt_or_le (z / d) M with g | g
  · have h2 := Int.mul_le_mul_of_nonneg_right (show z / d + 1 ≤ M by omega) (Int.le_of_lt hd)
    omega
  · exact g
/-- The quotient, rounded up. -/
def cl (z d : Int) : Int := if z % d = 0 then z / d else z / d + 1
theorem cl_bd {z d : Int} (hd : 0 < d) : z ≤ cl z d * d ∧ cl z d * d < z + d := by
  have h1 := floor_le (a := z) hd
  have h2 := lt_floor (a := z) hd
  have h3 := Int.mul_ediv_add_emod z d
  have h4 := Int.emod_nonneg z (show d ≠ 0 by omega)
  rw [Int.mul_comm] at h3
  unfold cl
  split
  · constructor <;> omega
  · rw [Int.add_mul, Int.one_mul] at h2 ⊢
    constructor <;> omega
theorem cl_le {z M d : Int} (hd : 0 < d) (h : z ≤ M * d) : cl z d ≤ M := by
  have h1 := (cl_bd (z := z) hd).2
  rcases Int.lt_or_le M (cl z d) with g | g
  · have h2 := Int.mul_le_mul_of_nonneg_right (show M + 1 ≤ cl z d by omega) (Int.le_of_lt hd)
    rw [Int.add_mul, Int.one_mul] at h2
    omega
  · exact g
theorem le_cl {z M d : Int} (hd : 0 < d) (h : M * d ≤ z) : M ≤ cl z d := by
  have h1 := (cl_bd (z := z) hd).1
  rcases Int.lt_or_le (cl z d) M with g | g
  · have h2 := Int.mul_le_mul_of_nonneg_right (show cl z d + 1 ≤ M by omega) (Int.le_of_lt hd)
    rw [Int.add_mul, Int.one_mul] at h2
    omega
  · exact g
theorem part_bd {a b n d : Int} (hn : 0 ≤ n) (hd : n ≤ d) : (a ≤ b → 0 * d ≤ (b - a) * n ∧ (b - a) * n ≤ (b - a) * d) ∧ (b ≤ a → (b - a) * d ≤ (b - a) * n ∧ (b - a) * n ≤ 0 * d) := by
  rw [Int.zero_mul]
  refine ⟨fun h => ⟨Int.mul_nonneg (by omega) hn, Int.mul_le_mul_of_nonneg_left hd (by omega)⟩, fun h => ⟨?_, ?_⟩⟩
  · have := Int.mul_le_mul_of_nonneg_left hd (show 0 ≤ a - b by omega)
    rw [Int.sub_mul, Int.sub_mul] at this
    rw [Int.sub_mul, Int.sub_mul]
    omega
  · have := Int.mul_nonneg (show 0 ≤ a - b by omega) hn
    rw [Int.sub_mul] at this
    rw [Int.sub_mul]
    omega
theorem lin_btw {a b n d : Int} (h0 : 0 < d) (hn : 0 ≤ n) (hd : n ≤ d) : (a ≤ b → a ≤ lin a b n d ∧ lin a b n d ≤ b) ∧ (b ≤ a → b ≤ lin a b n d ∧ lin a b n d ≤ a) := by
  obtain ⟨p1, p2⟩ := part_bd (a := a) (b := b) hn hd
  unfold lin
  refine ⟨fun h => ?_, fun h => ?_⟩
  · have := le_fl h0 (p1 h).1
    have := fl_le h0 (p1 h).2
    omega
  · have := le_fl h0 (p2 h).1
    have := fl_le h0 (p2 h).2
    omega
theorem linUp_cl (a b n d : Int) : linUp a b n d = a + cl ((b - a) * n) d := rfl
theorem linUp_btw {a b n d : Int} (h0 : 0 < d) (hn : 0 ≤ n) (hd : n ≤ d) : (a ≤ b → a ≤ linUp a b n d ∧ linUp a b n d ≤ b) ∧ (b ≤ a → b ≤ linUp a b n d ∧ linUp a b n d ≤ a) := by
  obtain ⟨p1, p2⟩ := part_bd (a := a) (b := b) hn hd
  rw [linUp_cl]
  refine ⟨fun h => ?_, fun h => ?_⟩
  · have := le_cl h0 (p1 h).1
    have := cl_le h0 (p1 h).2
    omega
  · have := le_cl h0 (p2 h).1
    have := cl_le h0 (p2 h).2
    omega
theorem lin_rng {a b n d L H : Int} (h0 : 0 < d) (hn : 0 ≤ n) (hd : n ≤ d) (a1 : L ≤ a) (a2 : a ≤ H) (b1 : L ≤ b) (b2 : b ≤ H) : L ≤ lin a b n d ∧ lin a b n d ≤ H := by
  obtain ⟨p1, p2⟩ := lin_btw (a := a) (b := b) h0 hn hd
  rcases Int.le_total a b with h | h
  · have := p1 h; omega
  · have := p2 h; omega
theorem linUp_rng {a b n d L H : Int} (h0 : 0 < d) (hn : 0 ≤ n) (hd : n ≤ d) (a1 : L ≤ a) (a2 : a ≤ H) (b1 : L ≤ b) (b2 : b ≤ H) : L ≤ linUp a b n d ∧ linUp a b n d ≤ H := by
  obtain ⟨p1, p2⟩ := linUp_btw (a := a) (b := b) h0 hn hd
  rcases Int.le_total a b with h | h
  · have := p1 h; omega
  · have := p2 h; omega
/-- Which of the two kinds a node at a time is. -/
theorem ins_or {l : List S88} {t : Int} {j : Nat} (ha : AtT l t j) (hl : j + 1 = l.length → (Tn l j).f0.f0 = t) :
    ((Tn l j).f0.f0 = t ∧ ins l t j = ((Tn l j).f0.f0, (Tn l j).f0.f1.f0, (Tn l j).f0.f1.f1, (Tn l j).f0.f2, (Tn l j).f1, (Tn l j).f2, 0)) ∨
    (j + 1 < l.length ∧ (Tn l j).f0.f0 < t ∧ t < (Tn l (j + 1)).f0.f0 ∧ ins l t j = mid l t j) := by
  obtain ⟨h1, h2, h3⟩ := ha
  unfold ins
  by_cases c : (Tn l j).f0.f0 = t
  · left; exact ⟨c, if_pos c⟩
  · right
    have hj : j + 1 < l.length := by
      rcases Nat.lt_or_ge (j + 1) l.length with g | g
      · exact g
      · exact absurd (hl (by omega)) c
    exact ⟨hj, by omega, h3 hj, if_neg c⟩
/-- What a node at a time is within. -/
theorem ins_rng {l : List S88} (h : TubeOk l) {t : Int} {j : Nat} (ha : AtT l t j) (hl : j + 1 = l.length → (Tn l j).f0.f0 = t) :
    (ins l t j).1 = t ∧ Ok (ins l t j).2.1 (ins l t j).2.2.1 ∧ (0 ≤ (ins l t j).2.2.2.1 ∧ (ins l t j).2.2.2.1 ≤ 60000) ∧ (0 ≤ (ins l t j).2.2.2.2.1 ∧ (ins l t j).2.2.2.2.1 ≤ 1000000) ∧ (0 ≤ (ins l t j).2.2.2.2.2.1 ∧ (ins l t j).2.2.2.2.2.1 ≤ 60000) ∧ (ins l t j).2.2.2.2.2.2 = 0 := by
  obtain ⟨a1, a2, a3, a4, a5, a6, a7⟩ := h.2.2 j ha.1
  rcases ins_or ha hl with ⟨h0, e⟩ | ⟨hj, h1, h2, e⟩
  · rw [e]; exact ⟨h0, a3, a4, a5, ⟨a6, a7⟩, rfl⟩
  · obtain ⟨b1, b2, b3, b4, b5, b6, b7⟩ := h.2.2 (j + 1) hj
    obtain ⟨x1, x2, x3, x4⟩ := a3
    obtain ⟨y1, y2, y3, y4⟩ := b3
    rw [e]
    unfold mid
    dsimp only
    have d0 : 0 < (Tn l (j + 1)).f0.f0 - (Tn l j).f0.f0 := by omega
    have n0 : 0 ≤ t - (Tn l j).f0.f0 := by omega
    have n1 : t - (Tn l j).f0.f0 ≤ (Tn l (j + 1)).f0.f0 - (Tn l j).f0.f0 := by omega
    have r1 := lin_rng d0 n0 n1 x1 x2 y1 y2
    have r2 := lin_rng d0 n0 n1 x3 x4 y3 y4
    exact ⟨rfl, ⟨r1.1, r1.2, r2.1, r2.2⟩, lin_rng d0 n0 n1 a4.1 a4.2 b4.1 b4.2, linUp_rng d0 n0 n1 a5.1 a5.2 b5.1 b5.2, linUp_rng d0 n0 n1 a6 a7 b6 b7, rfl⟩
theorem lin_zero (a b d : Int) : lin a b 0 d = a := by unfold lin; simp
theorem linUp_zero (a b d : Int) : linUp a b 0 d = a := by unfold linUp; simp
theorem lin_full (a b : Int) {d : Int} (hd : 0 < d) : lin a b d d = b := by
  unfold lin
  rw [Int.mul_ediv_cancel _ (by omega)]
  omega
theorem linUp_full (a b : Int) {d : Int} (hd : 0 < d) : linUp a b d d = b := by
  unfold linUp
  rw [if_pos (Int.mul_emod_left _ _), Int.mul_ediv_cancel _ (by omega)]
  omega
/-- Rounding down twice loses at most one more. -/
theorem rnd {p q T D s e t : Int} (hD : 0 < D) (h2 : s < t) (h3 : t < e) :
    lin p q (t - T) D - 1 ≤ lin (lin p q (s - T) D) (lin p q (e - T) D) (t - s) (e - s) ∧ lin (lin p q (s - T) D) (lin p q (e - T) D) (t - s) (e - s) ≤ lin p q (t - T) D := by
  unfold lin
  have hz : (q - p) * (s - T) * ((e - s) - (t - s)) + (q - p) * (e - T) * (t - s) = (q - p) * (t - T) * (e - s) := by grind
  have hm : 0 < e - s := by omega
  have hn : 0 < t - s := by omega
  have hmn : 0 < (e - s) - (t - s) := by omega
  generalize (q - p) * (s - T) = zs at *
  generalize (q - p) * (e - T) = ze at *
  generalize (q - p) * (t - T) = zt at *
  generalize e - s = m at *
  generalize t - s = n at *
  have a1 := floor_le (a := zs) hD
  have a2 := lt_floor (a := zs) hD
  have b1 := floor_le (a := ze) hD
  have b2 := lt_floor (a := ze) hD
  have c1 := floor_le (a := zt) hD
  have c2 := lt_floor (a := zt) hD
  generalize zs / D = fs at *
  generalize ze / D = fe at *
  generalize zt / D = G at *
  rw [show p + fe - (p + fs) = fe - fs by omega]
  have d1 := floor_le (a := (fe - fs) * n) hm
  have d2 := lt_floor (a := (fe - fs) * n) hm
  generalize (fe - fs) * n / m = F at *
  have hDm : 0 < D * m := Int.mul_pos hD hm
  constructor
  · have k1 := Int.mul_lt_mul_of_pos_right d2 hD
    have k2 := Int.mul_lt_mul_of_pos_right a2 hmn
    have k3 := Int.mul_lt_mul_of_pos_right b2 hn
    have k4 := Int.mul_le_mul_of_nonneg_right c1 (Int.le_of_lt hm)
    have e1 : (fs + F + 2) * (D * m) = ((fs + 1) * D) * (m - n) + ((fe + 1) * D) * n + ((F + 1) * m) * D - ((fe - fs) * n) * D := by grind
    have e2 : G * (D * m) = (G * D) * m := by grind
    have e3 : G * (D * m) < (fs + F + 2) * (D * m) := by omega
    have := Int.lt_of_mul_lt_mul_right e3 (Int.le_of_lt hDm)
    omega
  · have k1 := Int.mul_le_mul_of_nonneg_right d1 (Int.le_of_lt hD)
    have k2 := Int.mul_le_mul_of_nonneg_right a1 (Int.le_of_lt hmn)
    have k3 := Int.mul_le_mul_of_nonneg_right b1 (Int.le_of_lt hn)
    have k4 := Int.mul_lt_mul_of_pos_right c2 hm
    have e1 : (fs + F) * (D * m) = (fs * D) * (m - n) + (fe * D) * n + (F * m) * D - ((fe - fs) * n) * D := by grind
    have e2 : (G + 1) * (D * m) = ((G + 1) * D) * m := by grind
    have e3 : (fs + F) * (D * m) < (G + 1) * (D * m) := by omega
    have := Int.lt_of_mul_lt_mul_right e3 (Int.le_of_lt hDm)
    omega
/-- Rounding up twice adds at most one more. -/
theorem rndUp {p q T D s e t : Int} (hD : 0 < D) (h2 : s < t) (h3 : t < e) :
    linUp p q (t - T) D ≤ linUp (linUp p q (s - T) D) (linUp p q (e - T) D) (t - s) (e - s) ∧ linUp (linUp p q (s - T) D) (linUp p q (e - T) D) (t - s) (e - s) ≤ linUp p q (t - T) D + 1 := by
  simp only [linUp_cl]
  have hz : (q - p) * (s - T) * ((e - s) - (t - s)) + (q - p) * (e - T) * (t - s) = (q - p) * (t - T) * (e - s) := by grind
  have hm : 0 < e - s := by omega
  have hn : 0 < t - s := by omega
  have hmn : 0 < (e - s) - (t - s) := by omega
  generalize (q - p) * (s - T) = zs at *
  generalize (q - p) * (e - T) = ze at *
  generalize (q - p) * (t - T) = zt at *
  generalize e - s = m at *
  generalize t - s = n at *
  obtain ⟨a1, a2⟩ := cl_bd (z := zs) hD
  obtain ⟨b1, b2⟩ := cl_bd (z := ze) hD
  obtain ⟨c1, c2⟩ := cl_bd (z := zt) hD
  generalize cl zs D = fs at *
  generalize cl ze D = fe at *
  generalize cl zt D = G at *
  rw [show p + fe - (p + fs) = fe - fs by omega]
  obtain ⟨d1, d2⟩ := cl_bd (z := (fe - fs) * n) hm
  generalize cl ((fe - fs) * n) m = F at *
  have hDm : 0 < D * m := Int.mul_pos hD hm
  constructor
  · have k1 := Int.mul_le_mul_of_nonneg_right d1 (Int.le_of_lt hD)
    have k2 := Int.mul_le_mul_of_nonneg_right a1 (Int.le_of_lt hmn)
    have k3 := Int.mul_le_mul_of_nonneg_right b1 (Int.le_of_lt hn)
    have k4 := Int.mul_lt_mul_of_pos_right c2 hm
    have e1 : (fs + F) * (D * m) = (fs * D) * (m - n) + (fe * D) * n + (F * m) * D - ((fe - fs) * n) * D := by grind
    have e2 : (G - 1) * (D * m) = (G * D) * m - D * m := by grind
    have e4 : (zt + D) * m = zt * m + D * m := by grind
    have e3 : (G - 1) * (D * m) < (fs + F) * (D * m) := by omega
    have := Int.lt_of_mul_lt_mul_right e3 (Int.le_of_lt hDm)
    omega
  · have k1 := Int.mul_lt_mul_of_pos_right d2 hD
    have k2 := Int.mul_lt_mul_of_pos_right a2 hmn
    have k3 := Int.mul_lt_mul_of_pos_right b2 hn
    have k4 := Int.mul_le_mul_of_nonneg_right c1 (Int.le_of_lt hm)
    have e1 : (fs + F) * (D * m) = (fs * D) * (m - n) + (fe * D) * n + (F * m) * D - ((fe - fs) * n) * D := by grind
    have e2 : (G + 2) * (D * m) = (G * D) * m + 2 * (D * m) := by grind
    have e4 : (zs + D) * (m - n) + (ze + D) * n = zs * (m - n) + ze * n + D * m := by grind
    have e5 : ((fe - fs) * n + m) * D = ((fe - fs) * n) * D + D * m := by grind
    have e3 : (fs + F) * (D * m) < (G + 2) * (D * m) := by omega
    have := Int.lt_of_mul_lt_mul_right e3 (Int.le_of_lt hDm)
    omega
/-- The node of a tube at a time. -/
def nd (l : List S88) (t : Int) : Int × Int × Int × Int × Int × Int × Int := (tube_at.f 200 l t).getD (0, 0, 0, 0, 0, 0, 0)
theorem nd_at {l : List S88} (h : TubeOk l) {t : Int} (h1 : (Tn l 0).f0.f0 ≤ t) (h2 : t ≤ (Tn l (l.length - 1)).f0.f0) :
    ∃ j, AtT l t j ∧ (j + 1 = l.length → (Tn l j).f0.f0 = t) ∧ nd l t = ins l t j ∧ ∀ k, 200 ≤ k → tube_at.f k l t = some (nd l t) := by
  rcases at_f h t with ⟨g, _⟩ | ⟨_, j, ha, hl, e⟩
  · omega
  · have e0 : nd l t = ins l t j := by unfold nd; rw [e 200 (by decide)]; rfl
    exact ⟨j, ha, hl, e0, fun k hk => by rw [e k hk, e0]⟩
def InT (l : List S88) (t : Int) : Prop := (Tn l 0).f0.f0 ≤ t ∧ t ≤ (Tn l (l.length - 1)).f0.f0
theorem nd_rng {l : List S88} (h : TubeOk l) {t : Int} (hi : InT l t) :
    (nd l t).1 = t ∧ Ok (nd l t).2.1 (nd l t).2.2.1 ∧ (0 ≤ (nd l t).2.2.2.1 ∧ (nd l t).2.2.2.1 ≤ 60000) ∧ (0 ≤ (nd l t).2.2.2.2.1 ∧ (nd l t).2.2.2.2.1 ≤ 1000000) ∧ (0 ≤ (nd l t).2.2.2.2.2.1 ∧ (nd l t).2.2.2.2.2.1 ≤ 60000) ∧ (nd l t).2.2.2.2.2.2 = 0 := by
  obtain ⟨j, ha, hl, e, _⟩ := nd_at h hi.1 hi.2
  rw [e]
  exact ins_rng h ha hl
theorem t_le {l : List S88} (h : TubeOk l) {i j : Nat} (hij : i ≤ j) (hj : j < l.length) : (Tn l i).f0.f0 ≤ (Tn l j).f0.f0 := by
  rcases Nat.lt_or_ge i j with g | g
  · exact Int.le_of_lt (ttimes_lt h g hj)
  · rw [show i = j by omega]; exact Int.le_refl _
theorem inT_seg {l : List S88} (h : TubeOk l) {j : Nat} (hj : j + 1 < l.length) {s : Int} (h1 : (Tn l j).f0.f0 ≤ s) (h2 : s ≤ (Tn l (j + 1)).f0.f0) : InT l s := by
  have a := t_le h (Nat.zero_le j) (by omega)
  have b := t_le h (i := j + 1) (j := l.length - 1) (by omega) (by omega)
  exact ⟨by omega, by omega⟩
/-- A part of a way between two nodes. -/
def segV (P Q : S88) (s : Int) : Int × Int × Int × Int × Int × Int × Int :=
  (s, lin P.f0.f1.f0 Q.f0.f1.f0 (s - P.f0.f0) (Q.f0.f0 - P.f0.f0), lin P.f0.f1.f1 Q.f0.f1.f1 (s - P.f0.f0) (Q.f0.f0 - P.f0.f0), lin P.f0.f2 Q.f0.f2 (s - P.f0.f0) (Q.f0.f0 - P.f0.f0), linUp P.f1 Q.f1 (s - P.f0.f0) (Q.f0.f0 - P.f0.f0), linUp P.f2 Q.f2 (s - P.f0.f0) (Q.f0.f0 - P.f0.f0), 0)
def valN (n : S88) : Int × Int × Int × Int × Int × Int × Int := (n.f0.f0, n.f0.f1.f0, n.f0.f1.f1, n.f0.f2, n.f1, n.f2, 0)
def mkN (v : Int × Int × Int × Int × Int × Int × Int) : S88 := ⟨⟨v.1, ⟨v.2.1, v.2.2.1⟩, v.2.2.2.1⟩, v.2.2.2.2.1, v.2.2.2.2.2.1⟩
theorem mk_val (n : S88) : mkN (valN n) = n := rfl
theorem val_mk {v : Int × Int × Int × Int × Int × Int × Int} (h : v.2.2.2.2.2.2 = 0) : valN (mkN v) = v := by
  obtain ⟨a, b, c, d, e, f, g⟩ := v
  dsimp only at h
  rw [h]
  rfl
theorem seg_left {P Q : S88} : segV P Q P.f0.f0 = valN P := by
  unfold segV valN
  rw [Int.sub_self, lin_zero, lin_zero, lin_zero, linUp_zero, linUp_zero]
theorem seg_right {P Q : S88} (h : P.f0.f0 < Q.f0.f0) : segV P Q Q.f0.f0 = valN Q := by
  unfold segV valN
  rw [lin_full _ _ (by omega), lin_full _ _ (by omega), lin_full _ _ (by omega), linUp_full _ _ (by omega), linUp_full _ _ (by omega)]
theorem nd_node {l : List S88} (h : TubeOk l) {j : Nat} (hj : j < l.length) : nd l (Tn l j).f0.f0 = valN (Tn l j) := by
  have a := t_le h (Nat.zero_le j) hj
  have b := t_le h (i := j) (j := l.length - 1) (by omega) (by omega)
  obtain ⟨i, ia, il, e, _⟩ := nd_at h a b
  have ja : AtT l (Tn l j).f0.f0 j := ⟨hj, Int.le_refl _, fun g => ttimes_lt h (by omega) g⟩
  obtain rfl := AtT.same h ia ja
  rw [e]
  unfold ins
  rw [if_pos rfl]
  rfl
theorem nd_seg {l : List S88} (h : TubeOk l) {j : Nat} (hj : j + 1 < l.length) {s : Int} (h1 : (Tn l j).f0.f0 ≤ s) (h2 : s ≤ (Tn l (j + 1)).f0.f0) : nd l s = segV (Tn l j) (Tn l (j + 1)) s := by
  have tl := ttimes_lt h (i := j) (j := j + 1) (by omega) hj
  by_cases c : s = (Tn l (j + 1)).f0.f0
  · rw [c, nd_node h hj, seg_right tl]
  · by_cases c2 : s = (Tn l j).f0.f0
    · rw [c2, nd_node h (by omega), seg_left]
    · have hi := inT_seg h hj h1 h2
      obtain ⟨i, ia, il, e, _⟩ := nd_at h hi.1 hi.2
      have ja : AtT l s j := ⟨by omega, h1, fun _ => by omega⟩
      obtain rfl := AtT.same h ia ja
      rw [e]
      unfold ins
      rw [if_neg (fun g => c2 g.symm)]
      rfl
theorem long_st (k : Nat) (ls : List (List S88)) (i : Int) (h0 : 0 ≤ i) (h1 : i < (ls.length : Int)) (hx : (rd_L4 ls i).length * 48 ≤ 140737488351232) :
    skywaykeep1_long.l0 (k + 1) ls (ls.length : Int) i = some true ∨ skywaykeep1_long.l0 (k + 1) ls (ls.length : Int) i = skywaykeep1_long.l0 k ls (ls.length : Int) (wrap64 (i + 1)) := by
  rw [skywaykeep1_long.l0, if_pos h1, if_pos h0, if_pos h1]
  by_cases c1 : ((rd_L4 ls i).length : Int) > 12
  · rw [if_pos c1]; exact Or.inl rfl
  rw [if_neg c1]
  by_cases c2 : ((rd_L4 ls i).length : Int) > 0
  · rw [if_pos c2, w64 (x := ((rd_L4 ls i).length : Int) - 1) (by omega) (by omega), if_pos (by omega), if_pos (by omega), if_pos (by omega)]
    by_cases c3 : wrap64 (((rd_T88 (rd_L4 ls i) (((rd_L4 ls i).length : Int) - 1)).f0.f0) - ((rd_T88 (rd_L4 ls i) 0).f0.f0)) > 1500
    · rw [if_pos c3]; exact Or.inl rfl
    · rw [if_neg c3]; exact Or.inr rfl
  · rw [if_neg c2]; exact Or.inr rfl
theorem long_two (k : Nat) (hk : 3 ≤ k) {l m : List S88} (hl : l.length * 48 ≤ 140737488351232) (hm : m.length * 48 ≤ 140737488351232) : ∃ b, skywaykeep1_long.f k [l, m] = some b := by
  obtain ⟨k, rfl⟩ : ∃ q, k = q + 3 := ⟨k - 3, by omega⟩
  unfold skywaykeep1_long.f
  have w1 : wrap64 (0 + 1) = 1 := w64 (by decide) (by decide)
  have w2 : wrap64 (1 + 1) = 2 := w64 (by decide) (by decide)
  have len : (([l, m] : List (List S88)).length : Int) = 2 := rfl
  rcases long_st (k + 2) [l, m] 0 (by decide) (by rw [len]; decide) hl with e | e
  · exact ⟨true, e⟩
  · rw [e, w1]
    rcases long_st (k + 1) [l, m] 1 (by decide) (by rw [len]; decide) hm with e | e
    · exact ⟨true, e⟩
    · rw [e, w2, skywaykeep1_long.l0, len, if_neg (by decide)]
      exact ⟨false, rfl⟩
theorem tubeWorks (k : Nat) (hk : 100 ≤ k) : skywaykeep1_tubeWorks.f k = some true := by
  have h : skywaykeep1_tubeWorks.f 100 = some true := by decide +kernel
  exact at_rounds skywaykeep1_tubeWorks.mono hk h
/-- The nodes of d seconds from t on. -/
def secs (l : List S88) : Nat → Int → List S88
  | 0, _ => []
  | d + 1, t => mkT (nd l t) :: secs l d (t + 1)
theorem secs_mem {l : List S88} : ∀ {d : Nat} {t : Int} {x : S88}, x ∈ secs l d t ↔ ∃ s, t ≤ s ∧ s < t + d ∧ x = mkT (nd l s)
  | 0, t, x => by
    constructor
    · intro h; cases h
    · rintro ⟨s, h1, h2, _⟩; omega
  | d + 1, t, x => by
    rw [secs, List.mem_cons, secs_mem (d := d)]
    constructor
    · rintro (rfl | ⟨s, h1, h2, h3⟩)
      · exact ⟨t, by omega, by omega, rfl⟩
      · exact ⟨s, by omega, by omega, h3⟩
    · rintro ⟨s, h1, h2, h3⟩
      by_cases c : s = t
      · subst c; exact .inl h3
      · exact .inr ⟨s, by omega, by omega, h3⟩
theorem all_l {l : List S88} (h : TubeOk l) : ∀ (d k : Nat) (t : Int), (Tn l 0).f0.f0 ≤ t → t + d = (Tn l (l.length - 1)).f0.f0 + 1 → d + 201 ≤ k → tube_All_1.l0 k l (Tn l (l.length - 1)).f0.f0 t = some (secs l d t)
  | 0, k, t, h1, h2, hk => by
    obtain ⟨k, rfl⟩ : ∃ m, k = m + 1 := ⟨k - 1, by omega⟩
    rw [tube_All_1.l0, if_neg (by omega), secs]
  | d + 1, k, t, h1, h2, hk => by
    obtain ⟨k, rfl⟩ : ∃ m, k = m + 1 := ⟨k - 1, by omega⟩
    have hi : InT l t := ⟨h1, by omega⟩
    obtain ⟨j, _, _, _, e⟩ := nd_at h hi.1 hi.2
    have a := (h.2.2 0 h.1).1
    have b := (h.2.2 (l.length - 1) (by have := h.1; omega)).1
    rw [tube_All_1.l0, if_pos (by omega), if_pos (by omega), e k (by omega), Option.bind_some, all_l h d k (t + 1) (by omega) (by omega) (by omega), Option.bind_some, secs]
theorem first_last {l : List S88} (h : TubeOk l) : (Tn l 0).f0.f0 ≤ (Tn l (l.length - 1)).f0.f0 := by
  have h0 := h.1
  by_cases c : l.length - 1 = 0
  · rw [c]; exact Int.le_refl _
  · exact Int.le_of_lt (ttimes_lt h (by omega) (by omega))
theorem rd_last {l : List S88} (h : 0 < l.length) : rd_T88 l ((l.length : Int) - 1) = Tn l (l.length - 1) := by
  rw [show ((l.length : Int) - 1) = ((l.length - 1 : Nat) : Int) by omega]; rfl
/-- How many seconds a tube lasts. -/
def many (l : List S88) : Nat := ((Tn l (l.length - 1)).f0.f0 + 1 - (Tn l 0).f0.f0).toNat
theorem all_f {l : List S88} (h : TubeOk l) (k : Nat) (hk : 201000 ≤ k) : tube_All_1.f k l = some (secs l (many l) (Tn l 0).f0.f0) := by
  have h0 := h.1
  have a := (h.2.2 0 h0).1
  have b := (h.2.2 (l.length - 1) (by omega)).1
  have fl := first_last h
  have e0 : rd_T88 l 0 = Tn l 0 := rfl
  unfold tube_All_1.f
  rw [tcheck_yes h k (by omega), Option.bind_some, if_pos rfl, if_pos (by omega), rd_last h0, e0]
  exact all_l h _ _ _ (Int.le_refl _) (by unfold many; omega) (by unfold many; omega)
theorem long_one (k : Nat) (hk : 2 ≤ k) {l : List S88} (hl : l.length * 48 ≤ 140737488351232) : ∃ b, skywaykeep1_long.f k [l] = some b := by
  obtain ⟨k, rfl⟩ : ∃ q, k = q + 2 := ⟨k - 2, by omega⟩
  unfold skywaykeep1_long.f
  have w1 : wrap64 (0 + 1) = 1 := w64 (by decide) (by decide)
  have len : (([l] : List (List S88)).length : Int) = 1 := rfl
  rcases long_st (k + 1) [l] 0 (by decide) (by rw [len]; decide) hl with e | e
  · exact ⟨true, e⟩
  · rw [e, w1, skywaykeep1_long.l0, len, if_neg (by decide)]
    exact ⟨false, rfl⟩
theorem eqT_self (m : S88) : eqT m m = true := by unfold eqT; simp
theorem secs_len (l : List S88) : ∀ (d : Nat) (t : Int), (secs l d t).length = d
  | 0, _ => rfl
  | d + 1, t => by rw [secs, List.length_cons, secs_len l d]
theorem step_yes {l : List S88} (h : TubeOk l) (k : Nat) (hk : 400 ≤ k) {i : Nat} {t : Int} (hi : InT l t) (he : (Tn l 0).f0.f0 + i = t) : skywaykeep1_TubeAll.step k l i (mkT (nd l t)) = some true := by
  obtain ⟨a1, _, _, _, _, a6⟩ := nd_rng h hi
  obtain ⟨j, _, _, _, e⟩ := nd_at h hi.1 hi.2
  have a := (h.2.2 0 h.1).1
  have b := (h.2.2 (l.length - 1) (by have := h.1; omega)).1
  have hat : tube_At.f k l t = some (nd l t) := by unfold tube_At.f; rw [tcheck_yes h k (by omega), Option.bind_some, if_pos rfl, e k (by omega)]; rfl
  have h0 := h.1
  have h1 := hi.1
  have h2 := hi.2
  unfold skywaykeep1_TubeAll.step
  rw [show (mkT (nd l t)).f0.f0 = (nd l t).1 from rfl, a1, hat, Option.bind_some, a6, eqT_self, show rd_T88 l 0 = Tn l 0 from rfl, w64 (by omega) (by omega), he, decide_eq_true h0]
  simp
theorem all_yes {l : List S88} (h : TubeOk l) (k : Nat) (hk : 400 ≤ k) : ∀ (d i : Nat) (t : Int), (Tn l 0).f0.f0 + i = t → t + d ≤ (Tn l (l.length - 1)).f0.f0 + 1 → skywaykeep1_TubeAll.all k l i (secs l d t) = some true
  | 0, _, _, _, _ => rfl
  | d + 1, i, t, h1, h2 => by
    rw [secs, skywaykeep1_TubeAll.all, step_yes h k hk ⟨by omega, by omega⟩ h1, Option.bind_some, all_yes h k hk d (i + 1) (t + 1) (by omega) (by omega), Option.bind_some]
    rfl
theorem TubeAll : skywaykeep1_TubeAll.Pure := by
  intro l hl
  refine ⟨300000, ?_⟩
  unfold skywaykeep1_TubeAll.f
  rw [tubeWorks _ (by omega), Option.bind_some, if_pos rfl]
  obtain ⟨b, hb⟩ := long_one 300000 (by omega) hl.1
  rw [hb, Option.bind_some]
  by_cases c : b = true
  · rw [if_pos c]
  rw [if_neg c]
  obtain ⟨e, h1, z⟩ := tcheck l
  by_cases c1 : e = 0
  · have hL := z c1
    have h0 := hL.1
    have a := (hL.2.2 0 h0).1
    have b := (hL.2.2 (l.length - 1) (by omega)).1
    have fl := first_last hL
    rw [all_f hL _ (by omega), Option.bind_some, all_yes hL _ (by omega) _ _ _ (by simp) (by unfold many; omega), Option.bind_some, h1 _ (by omega), Option.bind_some, secs_len, if_pos (by unfold many; omega), if_pos rfl, if_pos c1, if_pos (by omega),
      rd_last h0, show rd_T88 l 0 = Tn l 0 from rfl, w64 (x := (Tn l (l.length - 1)).f0.f0 - _) (by omega) (by omega), w64 (by omega) (by omega)]
    refine congrArg some (beq_iff_eq.2 ?_)
    unfold many
    omega
  · have : tube_All_1.f 300000 l = some [] := by
      unfold tube_All_1.f
      rw [h1 _ (by omega), Option.bind_some, if_neg c1]
    rw [this, Option.bind_some, skywaykeep1_TubeAll.all, Option.bind_some, h1 _ (by omega), Option.bind_some, if_pos (by decide), if_pos rfl, if_neg c1]
    rfl
end Go.Proofs.Ytbpbpojnfhhbjaa.Pure
