/- WindLegs: the duration of a flight is between both bounds for each speed over ground between the bounds. -/
import Derived.Test.YthpbpdobghceeaaDoorRows
import Derived.Test.YthpbpdobghceeaaDoorPWindLegsx
import Derived.Test.YthpbpdobghceeaaDoorOpen
import Derived.WalkKit
import Derived.ProofKit
import Derived.OpenShut
import Derived.ShutString
import Derived.ChangeOld
import Derived.Below
import Derived.SizedLaws
import Derived.Carry
import Derived.Test.YthpbpdobghceeaaDoorCards
import Derived.Test.YthpbpdobghceeaaDoorTie
import Derived.Test.YthpbpdobghceeaaDoorAngRow
import Derived.SevenTiedAt
import Derived.Test.YthpbpdobghceeaaDoorMath
namespace Go.Proofs.YthpbpdobghceeaaDoor.Pure
open Go Go.RowKit Go.Proofs.YthpbpdobghceeaaDoor Go.Proofs.YthpbpdobghceeaaDoor.PWindLegs Go.Proofs.YthpbpdobghceeaaDoorW.PrintWords Go.Proofs.YthpbpdobghceeaaDoorW.PrintLast Go.Proofs.YthpbpdobghceeaaDoorW.PrintMore Go.Proofs.YthpbpdobghceeaaDoorM
theorem down (k : Nat) (a b : Int) (a1 : -9223372036854775808 ≤ a) (a2 : a ≤ 9223372036854775807) (hb : b ≠ 0) (hno : ¬ (a = -9223372036854775808 ∧ b = -1)) : num_DivDown.f (k + 1) a b = some (Int.fdiv a b, 0) := by
  obtain ⟨r1, r2⟩ := fdiv_range a1 a2 hb hno
  have hf := tdiv_floor a b hb
  have main : num_DivDown.j0 (k + 1) a b false = some (Int.fdiv a b, 0) := by
    rw [num_DivDown.j0, if_neg (by decide), if_neg hb]
    by_cases h0 : Int.tmod a b = 0
    · rw [if_pos h0] at hf ⊢
      rw [hf, w64 r1 r2]
    · rw [if_neg h0] at hf ⊢
      by_cases hs : ((decide (a < 0)) != (decide (b < 0))) = true
      · rw [if_pos hs] at hf ⊢
        have ht : -9223372036854775808 ≤ Int.tdiv a b ∧ Int.tdiv a b ≤ 9223372036854775807 := by
          refine ⟨by omega, ?_⟩
          have h1 := Int.tdiv_nonpos_of_nonneg_of_nonpos (a := a) (b := b)
          by_cases ha : a < 0
          · have hb' : 0 < b := by
              simp [ha] at hs
              omega
            have h2 : Int.tdiv a b ≤ 0 := by
              have := Int.tdiv_nonneg (a := -a) (b := b) (by omega) (by omega)
              rw [Int.neg_tdiv] at this
              omega
            omega
          · have hb' : b < 0 := by
              simp [ha] at hs
              exact hs
            have := h1 (by omega) (by omega)
            omega
        rw [w64 ht.1 ht.2, hf, w64 r1 r2]
      · rw [if_neg hs] at hf ⊢
        rw [hf, w64 r1 r2]
  rw [num_DivDown.f, if_neg hb]
  by_cases ha : a = -9223372036854775808
  · rw [if_pos ha]
    have : (b == -1) = false := beq_eq_false_iff_ne.mpr (fun h => hno ⟨ha, h⟩)
    rw [this]
    exact main
  · rw [if_neg ha]
    exact main
theorem down_pos (k : Nat) (a b : Int) (a1 : -9223372036854775808 ≤ a) (a2 : a ≤ 9223372036854775807) (hb : 0 < b) : num_DivDown.f (k + 1) a b = some (a / b, 0) := by
  rw [down k a b a1 a2 (by omega) (by omega), fdiv_pos hb]
theorem dup (k : Nat) (a b : Int) (a1 : -9223372036854775808 ≤ a) (a2 : a ≤ 9223372036854775807) (hb : b ≠ 0) (hno : ¬ (a = -9223372036854775808 ∧ b = -1)) : num_DivUp.f (k + 1) a b = some (if Int.tmod a b = 0 then Int.fdiv a b else Int.fdiv a b + 1, 0) := by
  rw [num_DivUp.f, down k a b a1 a2 hb hno]
  simp only [Option.bind_some, if_true]
  rw [if_neg hb]
  by_cases h0 : Int.tmod a b = 0
  · rw [if_pos h0, if_pos h0]
  · rw [if_neg h0, if_neg h0]
    obtain ⟨r1, r2⟩ := fdiv_range a1 a2 hb hno
    have : Int.fdiv a b < 9223372036854775807 := by
      rcases Int.lt_or_le (Int.fdiv a b) 9223372036854775807 with h | h
      · exact h
      · exfalso
        have e : Int.fdiv a b = 9223372036854775807 := by omega
        have hm := Int.mul_fdiv_add_fmod a b
        rw [e] at hm
        have hn : Int.fmod a b ≠ 0 := fun h => h0 (Int.dvd_iff_tmod_eq_zero.1 (Int.dvd_iff_fmod_eq_zero.2 h))
        rcases Int.lt_or_le 0 b with hp | hp
        · have := Int.fmod_nonneg_of_pos a hp
          have := Int.fmod_lt_of_pos a hp
          omega
        · have h1 := Int.mul_fdiv_add_fmod (-a) (-b)
          rw [Int.neg_fdiv_neg, e] at h1
          have := Int.fmod_nonneg_of_pos (-a) (show 0 < -b by omega)
          have := Int.fmod_lt_of_pos (-a) (show 0 < -b by omega)
          omega
    rw [w64 (by omega) (by omega)]
theorem up_pos (k : Nat) (a b : Int) (a1 : -9223372036854775808 ≤ a) (a2 : a ≤ 9223372036854775807) (hb : 0 < b) : num_DivUp.f (k + 1) a b = some (if a % b = 0 then a / b else a / b + 1, 0) := by
  rw [dup k a b a1 a2 (by omega) (by omega), fdiv_pos hb]
  have : Int.tmod a b = 0 ↔ a % b = 0 := by rw [← Int.dvd_iff_tmod_eq_zero]; exact Int.dvd_iff_emod_eq_zero
  by_cases h : a % b = 0
  · rw [if_pos h, if_pos (this.2 h)]
  · rw [if_neg h, if_neg (fun g => h (this.1 g))]
abbrev Bd := S38
theorem rdW {l : List Bd} {i : Nat} (h : i < l.length) : rd_T38 l (i : Int) = l[i] := by
  unfold rd_T38
  rw [Int.toNat_natCast, List.getD_eq_getElem?_getD, List.getElem?_eq_getElem h]
  rfl
/-- A permitted band. -/
def BdOk (b : Bd) : Prop := (0 ≤ b.f0 ∧ b.f1 ≤ 60001 ∧ b.f0 < b.f1) ∧ (-150 ≤ b.f2.f0 ∧ b.f2.f0 ≤ 150) ∧ (-150 ≤ b.f2.f1 ∧ b.f2.f1 ≤ 150) ∧ 0 ≤ b.f3 ∧ b.f3 ≤ 100
theorem wcheck_j2 (l : List Bd) (i : Nat) (hi : i < l.length) (hl : l.length ≤ 16) (x : Bool) (a b c d e : Int) (k : Nat) (R : Int → Prop) (h4 : R 4) (h3 : R 3) (hn : x = false → ∃ r, wind_Check.l0 k l l (l.length : Int) ((i + 1 : Nat) : Int) = some r ∧ R r) :
    ∃ r, wind_Check.j2 (k + 1) l (i : Int) l (l.length : Int) (i : Int) x a b c d e = some r ∧ R r := by
  rw [wind_Check.j2]
  by_cases c0 : x = true
  · rw [if_pos c0]; exact ⟨4, rfl, h4⟩
  rw [if_neg c0, w64 (x := (i : Int) + 1) (by omega) (by omega), show ((i : Int) + 1) = ((i + 1 : Nat) : Int) by omega]
  have hn' := hn (by simpa using c0)
  by_cases c1 : (i : Int) > 0
  · rw [if_pos c1, w64 (x := (i : Int) - 1) (by omega) (by omega), if_pos (by omega), if_pos (by omega)]
    split
    · exact ⟨3, rfl, h3⟩
    · exact hn'
  · rw [if_neg c1]; exact hn'
theorem wcheck_l (l : List Bd) (hl : l.length ≤ 16) : ∀ (d k i : Nat), i + d = l.length → 3 * d < k → ∃ e, wind_Check.l0 k l l (l.length : Int) (i : Int) = some e ∧ (e = 0 → ∀ j (h : j < l.length), i ≤ j → BdOk l[j])
  | 0, k, i, hi, hk => by
    obtain ⟨k, rfl⟩ : ∃ m, k = m + 1 := ⟨k - 1, by omega⟩
    exact ⟨0, by rw [wind_Check.l0, if_neg (by omega)], fun _ j h1 h2 => by omega⟩
  | d + 1, k, i, hi, hk => by
    obtain ⟨k, rfl⟩ : ∃ m, k = m + 3 := ⟨k - 3, by omega⟩
    have hlt : i < l.length := by omega
    obtain ⟨e, he, hz⟩ := wcheck_l l hl d k (i + 1) (by omega) (by omega)
    have bad : ∀ a b c d e, ∃ r, wind_Check.j1 (k + 2) l (i : Int) l (l.length : Int) (i : Int) true a b c d e = some r ∧ (r = 0 → ∀ j (h : j < l.length), i ≤ j → BdOk l[j]) := fun a b c d e => by
      rw [wind_Check.j1, if_pos rfl]
      exact ⟨4, rfl, fun h => by omega⟩
    have bad2 : ∀ a b c d e, ∃ r, wind_Check.j2 (k + 1) l (i : Int) l (l.length : Int) (i : Int) true a b c d e = some r ∧ (r = 0 → ∀ j (h : j < l.length), i ≤ j → BdOk l[j]) := fun a b c d e => by
      rw [wind_Check.j2, if_pos rfl]
      exact ⟨4, rfl, fun h => by omega⟩
    rw [wind_Check.l0, if_pos (by omega), if_pos (by omega), if_pos (by omega), rdW hlt]
    by_cases c1 : l[i].f0 < 0
    · rw [if_pos c1]; exact bad _ _ _ _ _
    rw [if_neg c1]
    by_cases c2 : l[i].f1 > 60001
    · rw [if_pos c2]; exact bad _ _ _ _ _
    rw [if_neg c2]
    by_cases c3 : l[i].f0 ≥ l[i].f1
    · rw [decide_eq_true c3]; exact bad _ _ _ _ _
    rw [decide_eq_false c3, wind_Check.j1, if_neg (by decide)]
    by_cases c4 : l[i].f2.f0 < -150
    · rw [if_pos c4]; exact bad2 _ _ _ _ _
    rw [if_neg c4]
    by_cases c5 : l[i].f2.f0 > 150
    · rw [if_pos c5]; exact bad2 _ _ _ _ _
    rw [if_neg c5]
    by_cases c6 : l[i].f2.f1 < -150
    · rw [if_pos c6]; exact bad2 _ _ _ _ _
    rw [if_neg c6]
    by_cases c7 : l[i].f2.f1 > 150
    · rw [if_pos c7]; exact bad2 _ _ _ _ _
    rw [if_neg c7]
    by_cases c8 : l[i].f3 < 0
    · rw [if_pos c8]; exact bad2 _ _ _ _ _
    rw [if_neg c8]
    refine wcheck_j2 l i hlt hl _ _ _ _ _ _ k (fun r => r = 0 → ∀ j (h : j < l.length), i ≤ j → BdOk l[j]) (fun h => by omega) (fun h => by omega) (fun hx => ?_)
    have c9 : ¬ l[i].f3 > 100 := of_decide_eq_false hx
    refine ⟨e, he, fun h j hj hij => ?_⟩
    by_cases cj : j = i
    · subst cj
      exact ⟨⟨by omega, by omega, by omega⟩, ⟨by omega, by omega⟩, ⟨by omega, by omega⟩, by omega, by omega⟩
    · exact hz h j hj (by omega)
theorem wcheck_f (l : List Bd) (k : Nat) (hk : 60 ≤ k) : ∃ e, wind_Check.f k l = some e ∧ (e = 0 → l.length ≤ 16 ∧ ∀ j (h : j < l.length), BdOk l[j]) := by
  unfold wind_Check.f
  by_cases c : (l.length : Int) > 16
  · rw [if_pos c]; exact ⟨2, rfl, fun h => by omega⟩
  · rw [if_neg c]
    obtain ⟨e, he, hz⟩ := wcheck_l l (by omega) l.length k 0 (by omega) (by omega)
    exact ⟨e, he, fun h => ⟨by omega, fun j hj => hz h j hj (Nat.zero_le _)⟩⟩
theorem windWorks (k : Nat) (hk : 60 ≤ k) : skywaykeep1_windWorks.f k = some true := by
  have h : skywaykeep1_windWorks.f 60 = some true := by decide +kernel
  exact at_rounds skywaykeep1_windWorks.mono hk h
theorem mx_abs {a : Int} (h1 : -16384 ≤ a) (h2 : a ≤ 16384) : 0 ≤ mx a (wrap64 (-a)) ∧ mx a (wrap64 (-a)) ≤ 16384 := by
  rw [w64 (x := -a) (by omega) (by omega)]
  unfold mx
  split <;> omega
theorem ground_f (k : Nat) (s h l0 l1 x y e : Int) (hs : 1 ≤ s ∧ s ≤ 400) (hx : -150 ≤ x ∧ x ≤ 150) (hy : -150 ≤ y ∧ y ≤ 150) (he : 0 ≤ e ∧ e ≤ 100) :
    ∃ E : Int, 0 ≤ E ∧ E ≤ 3276800 ∧ (e = 0 → E = 0) ∧ wind_ground.f (k + 1) s h l0 l1 x y e = some (mx 1 (s + (x * Ang.sinI h + y * Ang.cosI h - E) / 16384), mx 1 (s + (if (x * Ang.sinI h + y * Ang.cosI h + E) % 16384 = 0 then (x * Ang.sinI h + y * Ang.cosI h + E) / 16384 else (x * Ang.sinI h + y * Ang.cosI h + E) / 16384 + 1))) := by
  obtain ⟨_, _, _, _, s1, s2⟩ := Ang.circ_at h
  obtain ⟨c1, c2⟩ := Ang.cos_bd h
  have bx := mul_bd hx.1 hx.2 s1 s2
  have bY := mul_bd hy.1 hy.2 c1 c2
  have m1 := mx_abs s1 s2
  have m2 := mx_abs c1 c2
  have aw : Ang.sinI (wrap64 (h + 1024)) = Ang.cosI h := Ang.sinI_wrap _
  have ca : angle_Cos.f h = some (Ang.cosI h) := by
    unfold angle_Cos.f angle_Sin.f
    rw [Option.bind_some, aw]
  generalize hS : Ang.sinI h = S at *
  generalize hC : Ang.cosI h = C at *
  generalize hX : x * S = X at *
  generalize hY : y * C = Y at *
  generalize h1 : mx S (wrap64 (-S)) = p at *
  generalize h2 : mx C (wrap64 (-C)) = q at *
  have pe := mul_bd (x := e) (y := p + q) (A := 100) (B := 32768) (by omega) (by omega) (by omega) (by omega)
  have p0 := Int.mul_nonneg he.1 (show 0 ≤ p + q by omega)
  have z0 : e = 0 → e * (p + q) = 0 := fun h => by rw [h, Int.zero_mul]
  refine ⟨e * (p + q), p0, by omega, z0, ?_⟩
  unfold wind_ground.f
  rw [ca, show angle_Sin.f h = some S by unfold angle_Sin.f; rw [hS], Option.bind_some, Option.bind_some, hX, hY, h1, h2]
  generalize hE : e * (p + q) = E at *
  rw [w64 (x := p + q) (by omega) (by omega), hE, w64 (x := X) (by omega) (by omega), w64 (x := Y) (by omega) (by omega), w64 (x := E) (by omega) (by omega), w64 (x := X + Y) (by omega) (by omega), w64 (x := X + Y - E) (by omega) (by omega), w64 (x := X + Y + E) (by omega) (by omega),
    down_pos k _ _ (by omega) (by omega) (by decide), up_pos k _ _ (by omega) (by omega) (by decide), Option.bind_some, Option.bind_some]
  dsimp only
  rw [w64 (x := s + (X + Y - E) / 16384) (by omega) (by omega), w64 (x := s + _) (by split <;> omega) (by split <;> omega)]
theorem at_l (h : Int) (l : List Bd) (hl : l.length ≤ 16) : ∀ (d k i : Nat), i + d = l.length → d < k → ∃ b : Bd, wind_at.l0 k h l (l.length : Int) (i : Int) = some (b.f0, b.f1, b.f2.f0, b.f2.f1, b.f3) ∧ ((∃ j, ∃ hj : j < l.length, b = l[j] ∧ b.f0 ≤ h ∧ h < b.f1) ∨ b = ⟨0, 60001, ⟨0, 0⟩, 0⟩)
  | 0, k, i, hi, hk => by
    obtain ⟨k, rfl⟩ : ∃ m, k = m + 1 := ⟨k - 1, by omega⟩
    exact ⟨⟨0, 60001, ⟨0, 0⟩, 0⟩, by rw [wind_at.l0, if_neg (by omega)], .inr rfl⟩
  | d + 1, k, i, hi, hk => by
    obtain ⟨k, rfl⟩ : ∃ m, k = m + 1 := ⟨k - 1, by omega⟩
    have hlt : i < l.length := by omega
    have ih := at_l h l hl d k (i + 1) (by omega) (by omega)
    rw [wind_at.l0, if_pos (by omega), if_pos (by omega), if_pos (by omega), rdW hlt, w64 (x := (i : Int) + 1) (by omega) (by omega), show ((i : Int) + 1) = ((i + 1 : Nat) : Int) by omega]
    by_cases c1 : h ≥ l[i].f0
    · rw [if_pos c1]
      by_cases c2 : h < l[i].f1
      · rw [if_pos c2]; exact ⟨l[i], rfl, .inl ⟨i, hlt, rfl, c1, c2⟩⟩
      · rw [if_neg c2]; exact ih
    · rw [if_neg c1]; exact ih
/-- A permitted coordinate. -/
def Ok (x y : Int) : Prop := -1000000 ≤ x ∧ x ≤ 1000000 ∧ -1000000 ≤ y ∧ y ≤ 1000000
instance (x y : Int) : Decidable (Ok x y) := inferInstanceAs (Decidable (_ ∧ _))
theorem check_f (x y : Int) : plane_Check.f x y = some (if Ok x y then 0 else 4) := by
  unfold plane_Check.f
  by_cases c : Ok x y
  · rw [if_pos c]
    obtain ⟨c1, c2, c3, c4⟩ := c
    rw [if_neg (by omega), if_neg (by omega), if_neg (by omega), if_neg (by omega)]
  · rw [if_neg c]
    by_cases c1 : x < -1000000
    · rw [if_pos c1]
    · rw [if_neg c1]
      by_cases c2 : x > 1000000
      · rw [if_pos c2]
      · rw [if_neg c2]
        by_cases c3 : y < -1000000
        · rw [if_pos c3]
        · rw [if_neg c3, if_pos (by
            rcases Int.lt_or_le 1000000 y with h | h
            · exact h
            · exact absurd (show Ok x y from ⟨by omega, by omega, by omega, h⟩) c)]
open RootF
/-- The distance, rounded up. -/
def up (s : Int) : Int := if rootI s * rootI s < s then rootI s + 1 else rootI s
theorem up_spec {s : Int} (h : 0 ≤ s) : s ≤ up s * up s ∧ rootI s ≤ up s ∧ up s ≤ rootI s + 1 := by
  obtain ⟨h1, h2⟩ := rootI_spec h
  unfold up
  split
  · exact ⟨by omega, by omega, by omega⟩
  · exact ⟨by omega, by omega, by omega⟩
def S (x y : Int) : Int := x * x + y * y
theorem S_nonneg (x y : Int) : 0 ≤ S x y := by have := sq_nonneg x; have := sq_nonneg y; unfold S; omega
theorem square {ax ay bx b_y : Int} (h1 : -2000000000 ≤ ax - bx) (h2 : ax - bx ≤ 2000000000) (h3 : -2000000000 ≤ ay - b_y) (h4 : ay - b_y ≤ 2000000000) :
    plane_Square.f ax ay bx b_y = some (S (ax - bx) (ay - b_y)) ∧ S (ax - bx) (ay - b_y) ≤ 8000000000000000000 := by
  have q1 := sq_bd h1 h2
  have q2 := sq_bd h3 h4
  have p1 := sq_nonneg (ax - bx)
  have p2 := sq_nonneg (ay - b_y)
  refine ⟨?_, by unfold S; omega⟩
  unfold plane_Square.f plane_Sub.f plane_Dot.f S
  rw [w64 (by omega) (by omega), w64 (by omega) (by omega)]
  simp only [Option.bind_some]
  rw [w64 (x := (ax - bx) * (ax - bx)) (by omega) (by omega), w64 (x := (ay - b_y) * (ay - b_y)) (by omega) (by omega), w64 (by omega) (by omega)]
theorem root_f {s : Int} (h : s ≤ 9223372036854775807) : num_Root.f s = some (rootI s) := by unfold num_Root.f; rw [if_pos h]
theorem root_lt {s : Int} (h0 : 0 ≤ s) (h : s ≤ 8000000000000000000) : rootI s ≤ 3000000000 := by
  obtain ⟨h1, _⟩ := rootI_spec h0
  exact sq_le (by decide) (by omega)
theorem distance {ax ay bx b_y : Int} (h1 : -2000000000 ≤ ax - bx) (h2 : ax - bx ≤ 2000000000) (h3 : -2000000000 ≤ ay - b_y) (h4 : ay - b_y ≤ 2000000000) :
    plane_Distance.f ax ay bx b_y = some (rootI (S (ax - bx) (ay - b_y)), up (S (ax - bx) (ay - b_y))) := by
  obtain ⟨e, hb⟩ := square h1 h2 h3 h4
  have h0 := S_nonneg (ax - bx) (ay - b_y)
  unfold plane_Distance.f
  rw [e]
  generalize S (ax - bx) (ay - b_y) = s at *
  have r0 := rootI_nonneg s
  have r1 := root_lt h0 hb
  have r2 := (rootI_spec h0).1
  have r3 := sq_nonneg (rootI s)
  rw [Option.bind_some, root_f (by omega), Option.bind_some, w64 (by omega) (by omega)]
  unfold up
  split
  · rw [w64 (by omega) (by omega)]
  · rfl
theorem of_bad {x y : Int} (h : x < -2000000 ∨ 2000000 < x ∨ y < -2000000 ∨ 2000000 < y) : angle_Of.f x y = some (0, 4) := by
  unfold angle_Of.f
  by_cases c1 : x < -2000000
  · rw [if_pos c1]
  by_cases c2 : 2000000 < x
  · rw [if_neg c1, if_pos c2]
  by_cases c3 : y < -2000000
  · rw [if_neg c1, if_neg c2, if_pos c3]
  by_cases c4 : 2000000 < y
  · rw [if_neg c1, if_neg c2, if_neg c3, if_pos c4]
  omega
theorem of_zero : angle_Of.f 0 0 = some (0, 10) := by decide
theorem of_good {x y : Int} (x1 : -2000000 ≤ x) (x2 : x ≤ 2000000) (y1 : -2000000 ≤ y) (y2 : y ≤ 2000000) (h : x ≠ 0 ∨ y ≠ 0) : angle_Of.f x y = some (Ang.ofI x y, 0) := by
  unfold angle_Of.f
  rw [if_neg (by omega), if_neg (by omega), if_neg (by omega), if_neg (by omega), if_neg (by omega)]
theorem at_f (h : Int) (l : List Bd) (hl : l.length ≤ 16) : ∃ b : Bd, (∀ k, 40 ≤ k → wind_at.f k l h = some (b.f0, b.f1, b.f2.f0, b.f2.f1, b.f3)) ∧ ((∃ j, ∃ hj : j < l.length, b = l[j]) ∨ b = ⟨0, 60001, ⟨0, 0⟩, 0⟩) := by
  obtain ⟨b, hb, hc⟩ := at_l h l hl l.length 40 0 (by omega) (by omega)
  refine ⟨b, fun k hk => ?_, hc.imp (fun ⟨j, hj, e, _⟩ => ⟨j, hj, e⟩) id⟩
  refine at_rounds (wind_at.mono l h) hk ?_
  unfold wind_at.f
  exact hb
theorem ceil_eq {a b : Int} (hb : 0 < b) : (if a % b = 0 then a / b else a / b + 1) = (a + b - 1) / b := by
  have h1 : a = b * (a / b) + a % b := (Int.mul_ediv_add_emod a b).symm
  have h2 := Int.emod_nonneg a (show b ≠ 0 by omega)
  have h3 := Int.emod_lt_of_pos a hb
  have h4 : a + b - 1 = (a % b + b - 1) + b * (a / b) := by omega
  rw [h4, Int.add_mul_ediv_left _ _ (show b ≠ 0 by omega)]
  split
  · rename_i h
    rw [h, Int.ediv_eq_zero_of_lt (a := 0 + b - 1) (b := b) (by omega) (by omega)]
    omega
  · rename_i h
    rw [show a % b + b - 1 = (a % b - 1) + b * 1 by omega, Int.add_mul_ediv_left _ _ (show b ≠ 0 by omega), Int.ediv_eq_zero_of_lt (a := a % b - 1) (b := b) (by omega) (by omega)]
    omega
/-- What is rounded up is no less. -/
theorem ceil_ge {a b : Int} (hb : 0 < b) : a ≤ (if a % b = 0 then a / b else a / b + 1) * b := by
  have h1 : a = b * (a / b) + a % b := (Int.mul_ediv_add_emod a b).symm
  have h3 := Int.emod_lt_of_pos a hb
  split
  · rename_i h
    rw [h] at h1
    rw [Int.mul_comm]
    omega
  · rw [Int.add_mul, Int.one_mul, Int.mul_comm (a / b) b]
    omega
theorem mx1 (a : Int) : 1 ≤ mx 1 a ∧ a ≤ mx 1 a ∧ (mx 1 a = 1 ∨ mx 1 a = a) := by unfold mx; split <;> omega
theorem WindLegs : skywaykeep1_WindLegs.Pure := by
  intro l s h ax ay bx by_ _ _ _ _ _ _ _
  refine ⟨200, ?_⟩
  unfold skywaykeep1_WindLegs.f
  rw [windWorks _ (by omega), Option.bind_some, if_pos rfl]
  obtain ⟨e, he, hz⟩ := wcheck_f l 200 (by omega)
  by_cases c0 : e = 0
  · subst c0
    obtain ⟨hl, hb⟩ := hz rfl
    have hleg : wind_Leg.f 200 l s h ax ay bx by_ = if 1 ≤ s ∧ s ≤ 400 ∧ 0 ≤ h ∧ h ≤ 60000 then wind_Leg.l0 199 l s h [(⟨ax, ay⟩ : S28), ⟨bx, by_⟩] 2 0 ax ay bx by_ else some (0, 0, 4) := by
      unfold wind_Leg.f
      rw [he, Option.bind_some, if_pos rfl]
      by_cases c1 : s < 1
      · rw [if_pos c1, if_neg (by omega), show (200 : Nat) = 199 + 1 from rfl, wind_Leg.j0, if_pos rfl]
      rw [if_neg c1]
      by_cases c2 : s > 400
      · rw [if_pos c2, if_neg (by omega), show (200 : Nat) = 199 + 1 from rfl, wind_Leg.j0, if_pos rfl]
      rw [if_neg c2]
      by_cases c3 : h < 0
      · rw [if_pos c3, if_neg (by omega), show (200 : Nat) = 199 + 1 from rfl, wind_Leg.j0, if_pos rfl]
      rw [if_neg c3]
      by_cases c4 : h > 60000
      · rw [decide_eq_true c4, if_neg (by omega), show (200 : Nat) = 199 + 1 from rfl, wind_Leg.j0, if_pos rfl]
      rw [decide_eq_false c4, if_pos (by omega), show (200 : Nat) = 199 + 1 from rfl, wind_Leg.j0, if_neg (by decide), Option.bind_some]
      rfl
    by_cases cs : 1 ≤ s ∧ s ≤ 400 ∧ 0 ≤ h ∧ h ≤ 60000
    · rw [if_pos cs, show (199 : Nat) = 198 + 1 from rfl, wind_Leg.l0, if_pos (by decide), if_pos (by decide), if_pos (by simp), show rd_T28 [(⟨ax, ay⟩ : S28), ⟨bx, by_⟩] 0 = ⟨ax, ay⟩ from rfl, check_f, Option.bind_some] at hleg
      by_cases ca : Ok ax ay
      · rw [if_pos ca, if_pos rfl, show wrap64 (0 + 1) = 1 by (unfold wrap64; omega), show (198 : Nat) = 197 + 1 from rfl, wind_Leg.l0, if_pos (by decide), if_pos (by decide), if_pos (by simp), show rd_T28 [(⟨ax, ay⟩ : S28), ⟨bx, by_⟩] 1 = ⟨bx, by_⟩ from rfl, check_f, Option.bind_some] at hleg
        by_cases cb : Ok bx by_
        · rw [if_pos cb, if_pos rfl, show wrap64 (1 + 1) = 2 by (unfold wrap64; omega), show (197 : Nat) = 196 + 1 from rfl, wind_Leg.l0, if_neg (by decide)] at hleg
          obtain ⟨b, hat, hbk⟩ := at_f h l hl
          have hbd : (-150 ≤ b.f2.f0 ∧ b.f2.f0 ≤ 150) ∧ (-150 ≤ b.f2.f1 ∧ b.f2.f1 ≤ 150) ∧ 0 ≤ b.f3 ∧ b.f3 ≤ 100 := by
            rcases hbk with ⟨j, hj, rfl⟩ | rfl
            · exact (hb j hj).2
            · decide
          have hAt : wind_At.f 200 l h = some (b.f0, b.f1, b.f2.f0, b.f2.f1, b.f3, 0) := by
            unfold wind_At.f
            rw [he, Option.bind_some, if_pos rfl, if_neg (by omega), if_neg (by omega), hat _ (by omega), Option.bind_some]
          obtain ⟨a1, a2, a3, a4⟩ := ca
          obtain ⟨b1, b2, b3, b4⟩ := cb
          have hD := distance (ax := ax) (ay := ay) (bx := bx) (b_y := by_) (by omega) (by omega) (by omega) (by omega)
          by_cases cq : (ax == bx && ay == by_) = true
          · rw [if_pos cq] at hleg
            rw [hleg, Option.bind_some]
            dsimp only
            rw [if_pos rfl, hD, Option.bind_some, hAt, Option.bind_some]
            dsimp only
            rw [if_pos cq, if_pos rfl, if_pos rfl]
            rfl
          · have hne : bx - ax ≠ 0 ∨ by_ - ay ≠ 0 := by
              by_cases cx : ax = bx
              · right
                intro cy
                apply cq
                simp [cx]
                omega
              · left; omega
            obtain ⟨E, E0, E1, E2, hg⟩ := ground_f 195 s (Ang.ofI (bx - ax) (by_ - ay)) b.f0 b.f1 b.f2.f0 b.f2.f1 b.f3 (by omega) hbd.1 hbd.2.1 hbd.2.2
            obtain ⟨_, _, _, _, s1, s2⟩ := Ang.circ_at (Ang.ofI (bx - ax) (by_ - ay))
            obtain ⟨c1, c2⟩ := Ang.cos_bd (Ang.ofI (bx - ax) (by_ - ay))
            have bX := mul_bd hbd.1.1 hbd.1.2 s1 s2
            have bY := mul_bd hbd.2.1.1 hbd.2.1.2 c1 c2
            have zX : b.f2.f0 = 0 → b.f2.f0 * Ang.sinI (Ang.ofI (bx - ax) (by_ - ay)) = 0 := fun h => by rw [h, Int.zero_mul]
            have zY : b.f2.f1 = 0 → b.f2.f1 * Ang.cosI (Ang.ofI (bx - ax) (by_ - ay)) = 0 := fun h => by rw [h, Int.zero_mul]
            have hs0 := S_nonneg (ax - bx) (ay - by_)
            have hsb := (square (ax := ax) (ay := ay) (bx := bx) (b_y := by_) (by omega) (by omega) (by omega) (by omega)).2
            obtain ⟨u1, u2, u3⟩ := up_spec hs0
            have r0 := rootI_nonneg (S (ax - bx) (ay - by_))
            have r1 := root_lt hs0 hsb
            rw [if_neg cq] at hleg
            unfold plane_Sub.f at hleg
            rw [Option.bind_some, w64 (x := bx - ax) (by omega) (by omega), w64 (x := by_ - ay) (by omega) (by omega)] at hleg
            dsimp only at hleg
            rw [of_good (by omega) (by omega) (by omega) (by omega) hne, Option.bind_some, hat _ (by omega), Option.bind_some] at hleg
            dsimp only at hleg
            rw [show (196 : Nat) = 195 + 1 from rfl, hg, Option.bind_some, hD, Option.bind_some] at hleg
            dsimp only at hleg
            generalize b.f2.f0 * Ang.sinI (Ang.ofI (bx - ax) (by_ - ay)) = X at *
            generalize b.f2.f1 * Ang.cosI (Ang.ofI (bx - ax) (by_ - ay)) = Y at *
            generalize hlo : mx 1 (s + (X + Y - E) / 16384) = lo at *
            generalize hhi : mx 1 (s + (if (X + Y + E) % 16384 = 0 then (X + Y + E) / 16384 else (X + Y + E) / 16384 + 1)) = hi at *
            have m1 := mx1 (s + (X + Y - E) / 16384)
            have m2 := mx1 (s + (if (X + Y + E) % 16384 = 0 then (X + Y + E) / 16384 else (X + Y + E) / 16384 + 1))
            rw [hlo] at m1
            rw [hhi] at m2
            have hi500 : hi ≤ s + 500 := by
              rcases m2.2.2 with e | e
              · omega
              · rw [e]; split <;> omega
            have lohi : lo ≤ hi := by
              rcases m1.2.2 with e | e
              · omega
              · refine Int.le_trans ?_ m2.2.1
                rw [e]; split <;> omega
            have plain : b.f2.f0 = 0 → b.f2.f1 = 0 → b.f3 = 0 → lo = s ∧ hi = s := by
              intro h1 h2 h3
              have x0 := zX h1
              have y0 := zY h2
              have e0 := E2 h3
              subst x0 y0 e0
              rw [← hlo, ← hhi]
              unfold mx
              constructor <;> (split <;> omega)
            generalize rootI (S (ax - bx) (ay - by_)) = near at *
            generalize up (S (ax - bx) (ay - by_)) = far at *
            have l1 := m1.1
            have l2 := m2.1
            rw [up_pos 195 far lo (by omega) (by omega) (by omega), Option.bind_some, if_neg (by omega), Int.tdiv_eq_ediv_of_nonneg r0] at hleg
            have f1 : near = hi * (near / hi) + near % hi := (Int.mul_ediv_add_emod near hi).symm
            have f2 := Int.emod_nonneg near (show hi ≠ 0 by omega)
            have f3 := Int.emod_lt_of_pos near (show 0 < hi by omega)
            have f4 : 0 ≤ near / hi := Int.ediv_nonneg r0 (by omega)
            have f5 : near / hi ≤ near := Int.ediv_le_self _ r0
            have g1 := ceil_ge (a := far) (b := lo) (by omega)
            have g2 : 0 ≤ (if far % lo = 0 then far / lo else far / lo + 1) := by
              have : 0 ≤ far / lo := Int.ediv_nonneg (by omega) (by omega)
              split <;> omega
            have g3 : (if far % lo = 0 then far / lo else far / lo + 1) ≤ far + 1 := by
              have : far / lo ≤ far := Int.ediv_le_self _ (by omega)
              split <;> omega
            have hsl : b.f2.f0 = 0 → b.f2.f1 = 0 → b.f3 = 0 → (if far % lo = 0 then far / lo else far / lo + 1) = (far + s - 1) / s ∧ near / hi = near / s := by
              intro h1 h2 h3
              obtain ⟨e1, e2⟩ := plain h1 h2 h3
              rw [ceil_eq (by omega), e1, e2]
              exact ⟨rfl, rfl⟩
            dsimp only at hleg
            rw [w64 (x := near / hi) (by omega) (by omega)] at hleg
            generalize hslow : (if far % lo = 0 then far / lo else far / lo + 1) = slow at *
            generalize hfast : near / hi = fast at *
            have k1 : fast * hi ≤ near := by rw [Int.mul_comm]; omega
            have k2 : near < fast * hi + hi := by rw [Int.mul_comm]; omega
            have k3 : fast * hi ≤ fast * (s + 500) := Int.mul_le_mul_of_nonneg_left hi500 f4
            have k4 : slow * lo ≤ slow * (s + 500) := Int.mul_le_mul_of_nonneg_left (by omega) g2
            have k5 : fast ≤ slow := by
              by_cases c : fast ≤ slow
              · exact c
              · have n1 : (slow + 1) * lo ≤ fast * lo := Int.mul_le_mul_of_nonneg_right (by omega) (by omega)
                have n2 : fast * lo ≤ fast * hi := Int.mul_le_mul_of_nonneg_left lohi f4
                rw [Int.add_mul, Int.one_mul] at n1
                omega
            have k6 : far / (s + 500) ≤ slow := Int.ediv_le_of_le_mul (by omega) (by omega)
            have k7 := mul_bd (x := fast) (y := s + 500) (A := 3000000000) (B := 900) (by omega) (by omega) (by omega) (by omega)
            have k8 : 0 ≤ far / (s + 500) := Int.ediv_nonneg (by omega) (by omega)
            rw [hleg, Option.bind_some]
            dsimp only
            rw [if_pos rfl, hD, Option.bind_some, hAt, Option.bind_some]
            dsimp only
            rw [if_neg cq, if_pos rfl, if_pos k5, w64 (x := s + 500) (by omega) (by omega), w64 (x := fast * (s + 500)) (by omega) (by omega), w64 (x := near - s) (by omega) (by omega), w64 (x := near - s - 500) (by omega) (by omega), if_pos (by omega), if_neg (by omega), Int.tdiv_eq_ediv_of_nonneg (by omega), w64 (x := far / (s + 500)) (by omega) (by omega), if_pos k6]
            by_cases cw : (!(b.f2.f0 == 0) || !(b.f2.f1 == 0)) = true
            · rw [if_pos cw]
            · rw [if_neg cw]
              by_cases ce : b.f3 = 0
              · have z1 : b.f2.f0 = 0 ∧ b.f2.f1 = 0 := by simpa using cw
                obtain ⟨q1, q2⟩ := hsl z1.1 z1.2 ce
                have q3 : 0 ≤ near / s := Int.ediv_nonneg r0 (by omega)
                have q4 : near / s ≤ near := Int.ediv_le_self _ r0
                have q5 : 0 ≤ (far + s - 1) / s := Int.ediv_nonneg (by omega) (by omega)
                rw [if_pos ce, if_neg (by omega), Int.tdiv_eq_ediv_of_nonneg r0, w64 (x := near / s) (by omega) (by omega), if_pos q2, w64 (x := far + s) (by omega) (by omega), w64 (x := far + s - 1) (by omega) (by omega), Int.tdiv_eq_ediv_of_nonneg (by omega), w64 (x := (far + s - 1) / s) (by omega) (by omega), q1]
                simp
              · rw [if_neg ce]
        · rw [if_neg cb, if_neg (by decide)] at hleg
          rw [hleg]
          rfl
      · rw [if_neg ca, if_neg (by decide)] at hleg
        rw [hleg]
        rfl
    · rw [if_neg cs] at hleg
      rw [hleg]
      rfl
  · have hleg : wind_Leg.f 200 l s h ax ay bx by_ = some (0, 0, e) := by
      unfold wind_Leg.f
      rw [he, Option.bind_some, if_neg c0]
    rw [hleg, Option.bind_some]
    dsimp only
    rw [if_neg c0]
    rfl
end Go.Proofs.YthpbpdobghceeaaDoor.Pure
/- WindLegs holds: the printed walk, over its pure statement. -/
namespace Go.Proofs.YthpbpdobghceeaaDoor.windLegs
open Go.ChangeShapes Go.WideShapes Go.ChangeAt Go.RowKit Go.Proofs.YthpbpdobghceeaaDoorO Go.Proofs.YthpbpdobghceeaaDoorW.PrintWords Go.Proofs.YthpbpdobghceeaaDoor.PWindLegs
open Go.ChangeMaps (open_string shut_string)
set_option linter.unusedVariables false
theorem opens28 : Opens Tryd.prog k28 28 good28 := (opens_struct Tryd.underlying28 (by kernel_rfl) (opensF_cons (opens_int Tryd.underlying3 (by kernel_rfl)) rfl (opensF_one (opens_int Tryd.underlying3 (by kernel_rfl)) rfl)) (g := fun a => ⟨a.1, a.2⟩) (fun _ => rfl)).good (fun _ h => h)
theorem opens38 : Opens Tryd.prog k38 38 good38 := (opens_struct Tryd.underlying38 (by kernel_rfl) (opensF_cons (opens_int Tryd.underlying3 (by kernel_rfl)) rfl (opensF_cons (opens_int Tryd.underlying3 (by kernel_rfl)) rfl (opensF_cons opens28 rfl (opensF_one (opens_int Tryd.underlying3 (by kernel_rfl)) rfl)))) (g := fun a => ⟨a.1, a.2.1, a.2.2.1, a.2.2.2⟩) (fun _ => rfl)).good (fun _ h => h)
theorem own : ownKnob Tryd.prog.godebug = none := by kernel_rfl
theorem laidOut : laidOutB Tryd.prog = true := by kernel_rfl
set_option maxRecDepth 100000 in
theorem lifted (os : Os) (started : os.Started) (H : Type) (enc : TypeId × Value → H) :
    ReturnsInHanded {} Tryd.checked os 9 .any (fun w args => (Rows.windLegsSpec.pre enc Tryd.prog Tryd.f9 [] false w args ∧ laidMetH Tryd.prog Ang.laidL w) ∧ sizedMet enc Tryd.prog Tryd.f9 (OpenSpec.ofChange Rows.windLegsSpec) false w args)
      (Rows.windLegsSpec.post enc Tryd.prog Tryd.f9 false true false false) := by
  refine returnsInHanded_of_change_and (C := Tryd.checked) (X := fun w _ => laidMetH Tryd.prog Ang.laidL w) (fun _ _ _ hh h => h.of_heap hh) own started (by kernel_rfl) Tryd.func9
    (ChangeSpec.witness_shaped (enc := enc) (C := Tryd.checked) (os := os) (X := fun w _ => laidMetH Tryd.prog Ang.laidL w) false (World.doorLaid Tryd.prog 400 os) #[.slice none 0 0, .int .i64 0, .int .i64 0, .agg #[.int .i64 0, .int .i64 0], .agg #[.int .i64 0, .int .i64 0]] 8 rfl (World.shaped_of_RefB (by kernel_rfl) (by kernel_rfl)) (by kernel_rfl) (by kernel_rfl) (by kernel_rfl) (Ang.door_met os _)) ?_
  intro W base args ds gs before hval0 hW hcnd hsz0 hL _
  have hsz : (DataW.weightsEach Tryd.prog (Tryd.f9.params.toList ++ Rows.windLegsSpec.plain.varTypes Tryd.prog) (ds ++ gs)).all (· ≤ reachBytes) = true := hsz0
  have hval : ∀ (j : Nat) t v, Tryd.f9.params[j]? = some t → args[j]? = some v → Value.okWide Tryd.prog W .any base t v := hval0
  have hW' := hW
  obtain ⟨p, q, hA0, hV, rfl, hfz, hnd⟩ := hW
  have hA : DataW.TrodAll enc Tryd.prog W 0 (fun _ => true) true Tryd.f9.params.toList args.toList ds p := hA0
  rw [Tryd.params9] at hA hval hsz
  obtain ⟨v0, vs0, d0, ds0, p0, q0, hargs, rfl, rfl, h0, r0⟩ := trodAll_cons hA
  obtain ⟨v1, vs1, d1, ds1, p1, q1, rfl, rfl, rfl, h1, r1⟩ := trodAll_cons r0
  obtain ⟨v2, vs2, d2, ds2, p2, q2, rfl, rfl, rfl, h2, r2⟩ := trodAll_cons r1
  obtain ⟨v3, vs3, d3, ds3, p3, q3, rfl, rfl, rfl, h3, r3⟩ := trodAll_cons r2
  obtain ⟨v4, vs4, d4, ds4, p4, q4, rfl, rfl, rfl, h4, r4⟩ := trodAll_cons r3
  obtain ⟨rfl, rfl, rfl⟩ := trodAll_nil r4
  obtain rfl : args = #[v0, v1, v2, v3, v4] := by cases args; simp_all
  obtain ⟨rfl, rfl⟩ := trodVars_none hV
  have k0 := h0
  have lt0 : ∀ x ∈ p0, x.block < W.heap.size := by obtain ⟨m, hm⟩ := k0; exact DataW.trod_lt m _ _ _ hm
  obtain ⟨aa0, len0, cap0, rfl⟩ := okWide_slice Tryd.underlying42 (hval 0 42 v0 rfl rfl)
  obtain ⟨x0, ⟨A0, c0, e0, hl0, hr0⟩, hg0⟩ := Opens.arg (opens_slice Tryd.underlying42 (by kernel_rfl) (by kernel_rfl) opens38) hsz (j := 0) (t := 42) rfl rfl h0
  obtain ⟨rfl, rfl, rfl⟩ : aa0 = A0 ∧ len0 = x0.length ∧ cap0 = c0 := by simpa [Value.cells] using e0
  have k1 := h1
  have lt1 : ∀ x ∈ p1, x.block < W.heap.size := by obtain ⟨m, hm⟩ := k1; exact DataW.trod_lt m _ _ _ hm
  obtain ⟨a1, rfl, rfl, rfl, w1⟩ := open_int Tryd.underlying3 (hval 1 3 v1 rfl rfl) h1
  have k2 := h2
  have lt2 : ∀ x ∈ p2, x.block < W.heap.size := by obtain ⟨m, hm⟩ := k2; exact DataW.trod_lt m _ _ _ hm
  obtain ⟨a2, rfl, rfl, rfl, w2⟩ := open_int Tryd.underlying3 (hval 2 3 v2 rfl rfl) h2
  have k3 := h3
  have lt3 : ∀ x ∈ p3, x.block < W.heap.size := by obtain ⟨m, hm⟩ := k3; exact DataW.trod_lt m _ _ _ hm
  obtain ⟨⟨cs3⟩, rfl, _⟩ := okWide_struct Tryd.underlying28 (hval 3 28 v3 rfl rfl)
  obtain ⟨x3, hk3, hg3⟩ := Opens.arg opens28 hsz (j := 3) (t := 28) rfl rfl h3
  obtain rfl : cs3 = _ := k28_open hk3
  have k4 := h4
  have lt4 : ∀ x ∈ p4, x.block < W.heap.size := by obtain ⟨m, hm⟩ := k4; exact DataW.trod_lt m _ _ _ hm
  obtain ⟨⟨cs4⟩, rfl, _⟩ := okWide_struct Tryd.underlying28 (hval 4 28 v4 rfl rfl)
  obtain ⟨x4, hk4, hg4⟩ := Opens.arg opens28 hsz (j := 4) (t := 28) rfl rfl h4
  obtain rfl : cs4 = _ := k28_open hk4
  (try clear hA0); (try clear hval0); (try clear hsz0); (try clear hsz)
  obtain ⟨k, h⟩ := Pure.WindLegs x0 a1 a2 x3.f0 x3.f1 x4.f0 x4.f1 hg0 w1 w2 hg3.1 hg3.2 hg4.1 hg4.2
  refine (skywaykeep1_WindLegs.calls k _ _ x0 a1 a2 x3.f0 x3.f1 x4.f0 x4.f1 true W hr0 hl0 h (Ang.tab_of_laid hL)).mono fun e W' ⟨he, bel0⟩ => ?_
  have bel : Below W.heap.size W W' := bel0
  subst he
  exact ⟨_, rfl, _, _, _, [], _, [], hW', trodAll_mk1 (shut_bool Tryd.underlying4 _), (trodAll_cons_mk (Below.trod laidOut (by kernel_rfl) (of_decide_eq_true (by kernel_rfl)) k0 bel lt0) (trodAll_cons_mk (Below.trod laidOut (by kernel_rfl) (of_decide_eq_true (by kernel_rfl)) k1 bel lt1) (trodAll_cons_mk (Below.trod laidOut (by kernel_rfl) (of_decide_eq_true (by kernel_rfl)) k2 bel lt2) (trodAll_cons_mk (Below.trod laidOut (by kernel_rfl) (of_decide_eq_true (by kernel_rfl)) k3 bel lt3) (trodAll_cons_mk (Below.trod laidOut (by kernel_rfl) (of_decide_eq_true (by kernel_rfl)) k4 bel lt4) trodAll_mk0))))), rfl, bel.frame _, fun h => by cases h⟩
theorem row_holds : Rows.WindLegsSaid :=
  OpenClaim.holds_of_wide 9 Tryd.f9 rfl rfl rfl rfl rfl rfl rfl ⟨rfl, rfl, rfl, rfl, rfl⟩ rfl rfl rfl rfl rfl (by kernel_rfl) Tryd.func9 (by kernel_rfl)
    (of_decide_eq_true (by kernel_rfl)) (by unfold Func.isWrapper; first | (rw [if_pos (by decide +kernel)]; kernel_rfl) | (rw [if_neg (by decide +kernel)]; exact ⟨rfl, rfl⟩))
    (fun os started H enc _ => lifted os started H enc)
theorem card : Rows.WindLegsCardSaid :=
  Claim7.holds_tied_plain_at .later [] [.data, .data, .data] true (true, "17ef80045a9fa5e274109680073313d154a430c2368af78a9801b0bd952e068e") false
    row_holds (fun _ h => by cases h) (by kernel_rfl) (fun _ h => by cases h) windLegs_row_tie rfl ⟨rfl, rfl⟩ (by kernel_rfl) rfl
    (fun f fn hf hfn => by
      obtain rfl : f = 9 := Option.some.inj ((show Tryd.prog.funcNamed "skyway/skywaykeep1.WindLegs" = some 9 by kernel_rfl).symm.trans hf) |>.symm
      obtain rfl : fn = Tryd.f9 := (Option.some.inj (Tryd.func9.symm.trans hfn)).symm
      exact ⟨by kernel_rfl, fun j t ht => by
        rw [Tryd.params9] at ht
        have hm : t ∈ [42, 3, 3, 28, 28] := by simpa using Array.mem_of_getElem? ht
        have hall : ([42, 3, 3, 28, 28].all fun u => !Tryd.prog.wantsStandIn u) = true := by kernel_rfl
        exact (show Tryd.prog.wantsStandIn t = false by simpa using List.all_eq_true.1 hall t hm)⟩)
    (by kernel_rfl)
#print axioms card
end Go.Proofs.YthpbpdobghceeaaDoor.windLegs
namespace Go.Proofs.YthpbpdobghceeaaDoor
/-- The card, under a short name, for the claim. -/
theorem windLegs_holds : Rows.WindLegsCardSaid := windLegs.card
end Go.Proofs.YthpbpdobghceeaaDoor
