/- FlyWinds: the duration of a planned flight is the sum of the longest durations of its legs. -/
import Derived.Test.YthpbpdobghceeaaGreatDoorPFlyWindsx
import Derived.Test.YthpbpdobghceeaaGreatDoorTMath
import Derived.Laws.Strings
import Derived.Laws.MathBits
namespace Go.Proofs.YthpbpdobghceeaaGreatDoor.Pure
open Go Go.RowKit Go.Proofs.YthpbpdobghceeaaGreatDoor Go.Proofs.YthpbpdobghceeaaGreatDoor.PFlyWinds Go.Proofs.YthpbpdobghceeaaGreatDoorW.PrintWords Go.Proofs.YthpbpdobghceeaaGreatDoorW.PrintLast Go.Proofs.YthpbpdobghceeaaGreatDoorW.PrintMore Go.Proofs.YthpbpdobghceeaaGreatDoorM
def Ok (x y : Int) : Prop := -1000000 ≤ x ∧ x ≤ 1000000 ∧ -1000000 ≤ y ∧ y ≤ 1000000
instance (x y : Int) : Decidable (Ok x y) := inferInstanceAs (Decidable (_ ∧ _))
theorem check_f (x y : Int) : plane_Check.f x y = some (if Ok x y then 0 else 4) := by
  unfold plane_Check.f
  by_cases c : Ok x y
  · rw [if_pos c]
    obtain ⟨c1, c2, c3, c4⟩ := c
    rw [if_neg (by omega), if_neg (by omega), if_neg (by omega), if_neg (by omega)]
  · rw [if_neg c]
    by_cases c1 : x < -1000000
    · rw [if_pos c1]
    · rw [if_neg c1]
      by_cases c2 : x > 1000000
      · rw [if_pos c2]
      · rw [if_neg c2]
        by_cases c3 : y < -1000000
        · rw [if_pos c3]
        · rw [if_neg c3, if_pos (by
            rcases Int.lt_or_le 1000000 y with h | h
            · exact h
            · exact absurd (show Ok x y from ⟨by omega, by omega, by omega, h⟩) c)]
theorem down (k : Nat) (a b : Int) (a1 : -9223372036854775808 ≤ a) (a2 : a ≤ 9223372036854775807) (hb : b ≠ 0) (hno : ¬ (a = -9223372036854775808 ∧ b = -1)) : num_DivDown.f (k + 1) a b = some (Int.fdiv a b, 0) := by
  obtain ⟨r1, r2⟩ := fdiv_range a1 a2 hb hno
  have hf := tdiv_floor a b hb
  have main : num_DivDown.j0 (k + 1) a b false = some (Int.fdiv a b, 0) := by
    rw [num_DivDown.j0, if_neg (by decide), if_neg hb]
    by_cases h0 : Int.tmod a b = 0
    · rw [if_pos h0] at hf ⊢
      rw [hf, w64 r1 r2]
    · rw [if_neg h0] at hf ⊢
      by_cases hs : ((decide (a < 0)) != (decide (b < 0))) = true
      · rw [if_pos hs] at hf ⊢
        have ht : -9223372036854775808 ≤ Int.tdiv a b ∧ Int.tdiv a b ≤ 9223372036854775807 := by
          refine ⟨by omega, ?_⟩
          have h1 := Int.tdiv_nonpos_of_nonneg_of_nonpos (a := a) (b := b)
          by_cases ha : a < 0
          · have hb' : 0 < b := by
              simp [ha] at hs
              omega
            have h2 : Int.tdiv a b ≤ 0 := by
              have := Int.tdiv_nonneg (a := -a) (b := b) (by omega) (by omega)
              rw [Int.neg_tdiv] at this
              omega
            omega
          · have hb' : b < 0 := by
              simp [ha] at hs
              exact hs
            have := h1 (by omega) (by omega)
            omega
        rw [w64 ht.1 ht.2, hf, w64 r1 r2]
      · rw [if_neg hs] at hf ⊢
        rw [hf, w64 r1 r2]
  rw [num_DivDown.f, if_neg hb]
  by_cases ha : a = -9223372036854775808
  · rw [if_pos ha]
    have : (b == -1) = false := beq_eq_false_iff_ne.mpr (fun h => hno ⟨ha, h⟩)
    rw [this]
    exact main
  · rw [if_neg ha]
    exact main
theorem down_pos (k : Nat) (a b : Int) (a1 : -9223372036854775808 ≤ a) (a2 : a ≤ 9223372036854775807) (hb : 0 < b) : num_DivDown.f (k + 1) a b = some (a / b, 0) := by
  rw [down k a b a1 a2 (by omega) (by omega), fdiv_pos hb]
theorem dup (k : Nat) (a b : Int) (a1 : -9223372036854775808 ≤ a) (a2 : a ≤ 9223372036854775807) (hb : b ≠ 0) (hno : ¬ (a = -9223372036854775808 ∧ b = -1)) : num_DivUp.f (k + 1) a b = some (if Int.tmod a b = 0 then Int.fdiv a b else Int.fdiv a b + 1, 0) := by
  rw [num_DivUp.f, down k a b a1 a2 hb hno]
  simp only [Option.bind_some, if_true]
  rw [if_neg hb]
  by_cases h0 : Int.tmod a b = 0
  · rw [if_pos h0, if_pos h0]
  · rw [if_neg h0, if_neg h0]
    obtain ⟨r1, r2⟩ := fdiv_range a1 a2 hb hno
    have : Int.fdiv a b < 9223372036854775807 := by
      rcases Int.lt_or_le (Int.fdiv a b) 9223372036854775807 with h | h
      · exact h
      · exfalso
        have e : Int.fdiv a b = 9223372036854775807 := by omega
        have hm := Int.mul_fdiv_add_fmod a b
        rw [e] at hm
        have hn : Int.fmod a b ≠ 0 := fun h => h0 (Int.dvd_iff_tmod_eq_zero.1 (Int.dvd_iff_fmod_eq_zero.2 h))
        rcases Int.lt_or_le 0 b with hp | hp
        · have := Int.fmod_nonneg_of_pos a hp
          have := Int.fmod_lt_of_pos a hp
          omega
        · have h1 := Int.mul_fdiv_add_fmod (-a) (-b)
          rw [Int.neg_fdiv_neg, e] at h1
          have := Int.fmod_nonneg_of_pos (-a) (show 0 < -b by omega)
          have := Int.fmod_lt_of_pos (-a) (show 0 < -b by omega)
          omega
    rw [w64 (by omega) (by omega)]
theorem up_pos (k : Nat) (a b : Int) (a1 : -9223372036854775808 ≤ a) (a2 : a ≤ 9223372036854775807) (hb : 0 < b) : num_DivUp.f (k + 1) a b = some (if a % b = 0 then a / b else a / b + 1, 0) := by
  rw [dup k a b a1 a2 (by omega) (by omega), fdiv_pos hb]
  have : Int.tmod a b = 0 ↔ a % b = 0 := by rw [← Int.dvd_iff_tmod_eq_zero]; exact Int.dvd_iff_emod_eq_zero
  by_cases h : a % b = 0
  · rw [if_pos h, if_pos (this.2 h)]
  · rw [if_neg h, if_neg (fun g => h (this.1 g))]
abbrev Bd := S131
theorem rdW {l : List Bd} {i : Nat} (h : i < l.length) : rd_T131 l (i : Int) = l[i] := by
  unfold rd_T131
  rw [Int.toNat_natCast, List.getD_eq_getElem?_getD, List.getElem?_eq_getElem h]
  rfl
def BdOk (b : Bd) : Prop := (0 ≤ b.f0 ∧ b.f1 ≤ 60001 ∧ b.f0 < b.f1) ∧ (-150 ≤ b.f2.f0 ∧ b.f2.f0 ≤ 150) ∧ (-150 ≤ b.f2.f1 ∧ b.f2.f1 ≤ 150) ∧ 0 ≤ b.f3 ∧ b.f3 ≤ 100
theorem wcheck_j2 (l : List Bd) (i : Nat) (hi : i < l.length) (hl : l.length ≤ 16) (x : Bool) (a b c d e : Int) (k : Nat) (R : Int → Prop) (h4 : R 4) (h3 : R 3) (hn : x = false → ∃ r, wind_Check.l0 k l l (l.length : Int) ((i + 1 : Nat) : Int) = some r ∧ R r) :
    ∃ r, wind_Check.j2 (k + 1) l (i : Int) l (l.length : Int) (i : Int) x a b c d e = some r ∧ R r := by
  rw [wind_Check.j2]
  by_cases c0 : x = true
  · rw [if_pos c0]; exact ⟨4, rfl, h4⟩
  rw [if_neg c0, w64 (x := (i : Int) + 1) (by omega) (by omega), show ((i : Int) + 1) = ((i + 1 : Nat) : Int) by omega]
  have hn' := hn (by simpa using c0)
  by_cases c1 : (i : Int) > 0
  · rw [if_pos c1, w64 (x := (i : Int) - 1) (by omega) (by omega), if_pos (by omega), if_pos (by omega)]
    split
    · exact ⟨3, rfl, h3⟩
    · exact hn'
  · rw [if_neg c1]; exact hn'
theorem wcheck_l (l : List Bd) (hl : l.length ≤ 16) : ∀ (d k i : Nat), i + d = l.length → 3 * d < k → ∃ e, wind_Check.l0 k l l (l.length : Int) (i : Int) = some e ∧ (e = 0 → ∀ j (h : j < l.length), i ≤ j → BdOk l[j])
  | 0, k, i, hi, hk => by
    obtain ⟨k, rfl⟩ : ∃ m, k = m + 1 := ⟨k - 1, by omega⟩
    exact ⟨0, by rw [wind_Check.l0, if_neg (by omega)], fun _ j h1 h2 => by omega⟩
  | d + 1, k, i, hi, hk => by
    obtain ⟨k, rfl⟩ : ∃ m, k = m + 3 := ⟨k - 3, by omega⟩
    have hlt : i < l.length := by omega
    obtain ⟨e, he, hz⟩ := wcheck_l l hl d k (i + 1) (by omega) (by omega)
    have bad : ∀ a b c d e, ∃ r, wind_Check.j1 (k + 2) l (i : Int) l (l.length : Int) (i : Int) true a b c d e = some r ∧ (r = 0 → ∀ j (h : j < l.length), i ≤ j → BdOk l[j]) := fun a b c d e => by
      rw [wind_Check.j1, if_pos rfl]
      exact ⟨4, rfl, fun h => by omega⟩
    have bad2 : ∀ a b c d e, ∃ r, wind_Check.j2 (k + 1) l (i : Int) l (l.length : Int) (i : Int) true a b c d e = some r ∧ (r = 0 → ∀ j (h : j < l.length), i ≤ j → BdOk l[j]) := fun a b c d e => by
      rw [wind_Check.j2, if_pos rfl]
      exact ⟨4, rfl, fun h => by omega⟩
    rw [wind_Check.l0, if_pos (by omega), if_pos (by omega), if_pos (by omega), rdW hlt]
    by_cases c1 : l[i].f0 < 0
    · rw [if_pos c1]; exact bad _ _ _ _ _
    rw [if_neg c1]
    by_cases c2 : l[i].f1 > 60001
    · rw [if_pos c2]; exact bad _ _ _ _ _
    rw [if_neg c2]
    by_cases c3 : l[i].f0 ≥ l[i].f1
    · rw [decide_eq_true c3]; exact bad _ _ _ _ _
    rw [decide_eq_false c3, wind_Check.j1, if_neg (by decide)]
    by_cases c4 : l[i].f2.f0 < -150
    · rw [if_pos c4]; exact bad2 _ _ _ _ _
    rw [if_neg c4]
    by_cases c5 : l[i].f2.f0 > 150
    · rw [if_pos c5]; exact bad2 _ _ _ _ _
    rw [if_neg c5]
    by_cases c6 : l[i].f2.f1 < -150
    · rw [if_pos c6]; exact bad2 _ _ _ _ _
    rw [if_neg c6]
    by_cases c7 : l[i].f2.f1 > 150
    · rw [if_pos c7]; exact bad2 _ _ _ _ _
    rw [if_neg c7]
    by_cases c8 : l[i].f3 < 0
    · rw [if_pos c8]; exact bad2 _ _ _ _ _
    rw [if_neg c8]
    refine wcheck_j2 l i hlt hl _ _ _ _ _ _ k (fun r => r = 0 → ∀ j (h : j < l.length), i ≤ j → BdOk l[j]) (fun h => by omega) (fun h => by omega) (fun hx => ?_)
    have c9 : ¬ l[i].f3 > 100 := of_decide_eq_false hx
    refine ⟨e, he, fun h j hj hij => ?_⟩
    by_cases cj : j = i
    · subst cj
      exact ⟨⟨by omega, by omega, by omega⟩, ⟨by omega, by omega⟩, ⟨by omega, by omega⟩, by omega, by omega⟩
    · exact hz h j hj (by omega)
theorem wcheck_f (l : List Bd) (k : Nat) (hk : 60 ≤ k) : ∃ e, wind_Check.f k l = some e ∧ (e = 0 → l.length ≤ 16 ∧ ∀ j (h : j < l.length), BdOk l[j]) := by
  unfold wind_Check.f
  by_cases c : (l.length : Int) > 16
  · rw [if_pos c]; exact ⟨2, rfl, fun h => by omega⟩
  · rw [if_neg c]
    obtain ⟨e, he, hz⟩ := wcheck_l l (by omega) l.length k 0 (by omega) (by omega)
    exact ⟨e, he, fun h => ⟨by omega, fun j hj => hz h j hj (Nat.zero_le _)⟩⟩
theorem windWorks (k : Nat) (hk : 60 ≤ k) : skywaykeep1_windWorks.f k = some true := by
  have h : skywaykeep1_windWorks.f 60 = some true := by decide +kernel
  exact at_rounds skywaykeep1_windWorks.mono hk h
theorem mx_abs {a : Int} (h1 : -16384 ≤ a) (h2 : a ≤ 16384) : 0 ≤ mx a (wrap64 (-a)) ∧ mx a (wrap64 (-a)) ≤ 16384 := by
  rw [w64 (x := -a) (by omega) (by omega)]
  unfold mx
  split <;> omega
theorem ground_f (k : Nat) (s h l0 l1 x y e : Int) (hs : 1 ≤ s ∧ s ≤ 400) (hx : -150 ≤ x ∧ x ≤ 150) (hy : -150 ≤ y ∧ y ≤ 150) (he : 0 ≤ e ∧ e ≤ 100) :
    ∃ E : Int, 0 ≤ E ∧ E ≤ 3276800 ∧ (e = 0 → E = 0) ∧ wind_ground.f (k + 1) s h l0 l1 x y e = some (mx 1 (s + (x * Ang.sinI h + y * Ang.cosI h - E) / 16384), mx 1 (s + (if (x * Ang.sinI h + y * Ang.cosI h + E) % 16384 = 0 then (x * Ang.sinI h + y * Ang.cosI h + E) / 16384 else (x * Ang.sinI h + y * Ang.cosI h + E) / 16384 + 1))) := by
  obtain ⟨_, _, _, _, s1, s2⟩ := Ang.circ_at h
  obtain ⟨c1, c2⟩ := Ang.cos_bd h
  have bx := mul_bd hx.1 hx.2 s1 s2
  have bY := mul_bd hy.1 hy.2 c1 c2
  have m1 := mx_abs s1 s2
  have m2 := mx_abs c1 c2
  have aw : Ang.sinI (wrap64 (h + 1024)) = Ang.cosI h := Ang.sinI_wrap _
  have ca : angle_Cos.f h = some (Ang.cosI h) := by
    unfold angle_Cos.f angle_Sin.f
    rw [Option.bind_some, aw]
  generalize hS : Ang.sinI h = S at *
  generalize hC : Ang.cosI h = C at *
  generalize hX : x * S = X at *
  generalize hY : y * C = Y at *
  generalize h1 : mx S (wrap64 (-S)) = p at *
  generalize h2 : mx C (wrap64 (-C)) = q at *
  have pe := mul_bd (x := e) (y := p + q) (A := 100) (B := 32768) (by omega) (by omega) (by omega) (by omega)
  have p0 := Int.mul_nonneg he.1 (show 0 ≤ p + q by omega)
  have z0 : e = 0 → e * (p + q) = 0 := fun h => by rw [h, Int.zero_mul]
  refine ⟨e * (p + q), p0, by omega, z0, ?_⟩
  unfold wind_ground.f
  rw [ca, show angle_Sin.f h = some S by unfold angle_Sin.f; rw [hS], Option.bind_some, Option.bind_some, hX, hY, h1, h2]
  generalize hE : e * (p + q) = E at *
  rw [w64 (x := p + q) (by omega) (by omega), hE, w64 (x := X) (by omega) (by omega), w64 (x := Y) (by omega) (by omega), w64 (x := E) (by omega) (by omega), w64 (x := X + Y) (by omega) (by omega), w64 (x := X + Y - E) (by omega) (by omega), w64 (x := X + Y + E) (by omega) (by omega),
    down_pos k _ _ (by omega) (by omega) (by decide), up_pos k _ _ (by omega) (by omega) (by decide), Option.bind_some, Option.bind_some]
  dsimp only
  rw [w64 (x := s + (X + Y - E) / 16384) (by omega) (by omega), w64 (x := s + _) (by split <;> omega) (by split <;> omega)]
theorem at_l (h : Int) (l : List Bd) (hl : l.length ≤ 16) : ∀ (d k i : Nat), i + d = l.length → d < k → ∃ b : Bd, wind_at.l0 k h l (l.length : Int) (i : Int) = some (b.f0, b.f1, b.f2.f0, b.f2.f1, b.f3) ∧ ((∃ j, ∃ hj : j < l.length, b = l[j] ∧ b.f0 ≤ h ∧ h < b.f1) ∨ b = ⟨0, 60001, ⟨0, 0⟩, 0⟩)
  | 0, k, i, hi, hk => by
    obtain ⟨k, rfl⟩ : ∃ m, k = m + 1 := ⟨k - 1, by omega⟩
    exact ⟨⟨0, 60001, ⟨0, 0⟩, 0⟩, by rw [wind_at.l0, if_neg (by omega)], .inr rfl⟩
  | d + 1, k, i, hi, hk => by
    obtain ⟨k, rfl⟩ : ∃ m, k = m + 1 := ⟨k - 1, by omega⟩
    have hlt : i < l.length := by omega
    have ih := at_l h l hl d k (i + 1) (by omega) (by omega)
    rw [wind_at.l0, if_pos (by omega), if_pos (by omega), if_pos (by omega), rdW hlt, w64 (x := (i : Int) + 1) (by omega) (by omega), show ((i : Int) + 1) = ((i + 1 : Nat) : Int) by omega]
    by_cases c1 : h ≥ l[i].f0
    · rw [if_pos c1]
      by_cases c2 : h < l[i].f1
      · rw [if_pos c2]; exact ⟨l[i], rfl, .inl ⟨i, hlt, rfl, c1, c2⟩⟩
      · rw [if_neg c2]; exact ih
    · rw [if_neg c1]; exact ih
open RootF
def up (s : Int) : Int := if rootI s * rootI s < s then rootI s + 1 else rootI s
theorem up_spec {s : Int} (h : 0 ≤ s) : s ≤ up s * up s ∧ rootI s ≤ up s ∧ up s ≤ rootI s + 1 := by
  obtain ⟨h1, h2⟩ := rootI_spec h
  unfold up
  split
  · exact ⟨by omega, by omega, by omega⟩
  · exact ⟨by omega, by omega, by omega⟩
def S (x y : Int) : Int := x * x + y * y
theorem S_nonneg (x y : Int) : 0 ≤ S x y := by have := sq_nonneg x; have := sq_nonneg y; unfold S; omega
theorem square {ax ay bx b_y : Int} (h1 : -2000000000 ≤ ax - bx) (h2 : ax - bx ≤ 2000000000) (h3 : -2000000000 ≤ ay - b_y) (h4 : ay - b_y ≤ 2000000000) :
    plane_Square.f ax ay bx b_y = some (S (ax - bx) (ay - b_y)) ∧ S (ax - bx) (ay - b_y) ≤ 8000000000000000000 := by
  have q1 := sq_bd h1 h2
  have q2 := sq_bd h3 h4
  have p1 := sq_nonneg (ax - bx)
  have p2 := sq_nonneg (ay - b_y)
  refine ⟨?_, by unfold S; omega⟩
  unfold plane_Square.f plane_Sub.f plane_Dot.f S
  rw [w64 (by omega) (by omega), w64 (by omega) (by omega)]
  simp only [Option.bind_some]
  rw [w64 (x := (ax - bx) * (ax - bx)) (by omega) (by omega), w64 (x := (ay - b_y) * (ay - b_y)) (by omega) (by omega), w64 (by omega) (by omega)]
theorem root_f {s : Int} (h : s ≤ 9223372036854775807) : num_Root.f s = some (rootI s) := by unfold num_Root.f; rw [if_pos h]
theorem root_lt {s : Int} (h0 : 0 ≤ s) (h : s ≤ 8000000000000000000) : rootI s ≤ 3000000000 := by
  obtain ⟨h1, _⟩ := rootI_spec h0
  exact sq_le (by decide) (by omega)
theorem distance {ax ay bx b_y : Int} (h1 : -2000000000 ≤ ax - bx) (h2 : ax - bx ≤ 2000000000) (h3 : -2000000000 ≤ ay - b_y) (h4 : ay - b_y ≤ 2000000000) :
    plane_Distance.f ax ay bx b_y = some (rootI (S (ax - bx) (ay - b_y)), up (S (ax - bx) (ay - b_y))) := by
  obtain ⟨e, hb⟩ := square h1 h2 h3 h4
  have h0 := S_nonneg (ax - bx) (ay - b_y)
  unfold plane_Distance.f
  rw [e]
  generalize S (ax - bx) (ay - b_y) = s at *
  have r0 := rootI_nonneg s
  have r1 := root_lt h0 hb
  have r2 := (rootI_spec h0).1
  have r3 := sq_nonneg (rootI s)
  rw [Option.bind_some, root_f (by omega), Option.bind_some, w64 (by omega) (by omega)]
  unfold up
  split
  · rw [w64 (by omega) (by omega)]
  · rfl
theorem of_good {x y : Int} (x1 : -2000000 ≤ x) (x2 : x ≤ 2000000) (y1 : -2000000 ≤ y) (y2 : y ≤ 2000000) (h : x ≠ 0 ∨ y ≠ 0) : angle_Of.f x y = some (Ang.ofI x y, 0) := by
  unfold angle_Of.f
  rw [if_neg (by omega), if_neg (by omega), if_neg (by omega), if_neg (by omega), if_neg (by omega)]
theorem at_f (h : Int) (l : List Bd) (hl : l.length ≤ 16) : ∃ b : Bd, (∀ k, 40 ≤ k → wind_at.f k l h = some (b.f0, b.f1, b.f2.f0, b.f2.f1, b.f3)) ∧ ((∃ j, ∃ hj : j < l.length, b = l[j]) ∨ b = ⟨0, 60001, ⟨0, 0⟩, 0⟩) := by
  obtain ⟨b, hb, hc⟩ := at_l h l hl l.length 40 0 (by omega) (by omega)
  refine ⟨b, fun k hk => ?_, hc.imp (fun ⟨j, hj, e, _⟩ => ⟨j, hj, e⟩) id⟩
  refine at_rounds (wind_at.mono l h) hk ?_
  unfold wind_at.f
  exact hb
theorem mx1 (a : Int) : 1 ≤ mx 1 a ∧ a ≤ mx 1 a ∧ (mx 1 a = 1 ∨ mx 1 a = a) := by unfold mx; split <;> omega
theorem wcheck_all (w : List Bd) : ∃ e, (∀ k, 60 ≤ k → wind_Check.f k w = some e) ∧ (e = 0 → w.length ≤ 16 ∧ ∀ j (h : j < w.length), BdOk w[j]) := by
  obtain ⟨e, he, hz⟩ := wcheck_f w 60 (Nat.le_refl _)
  exact ⟨e, fun k hk => at_rounds (fun q => wind_Check.mono w q) hk he, hz⟩
theorem leg_good {l : List Bd} (he : ∀ k, 60 ≤ k → wind_Check.f k l = some 0) (hl : l.length ≤ 16) (hb : ∀ j (h : j < l.length), BdOk l[j]) {s h ax ay bx by_ : Int} (hs : 1 ≤ s ∧ s ≤ 400) (hh : 0 ≤ h ∧ h ≤ 60000) (ca : Ok ax ay) (cb : Ok bx by_) (hne0 : ¬ (ax = bx ∧ ay = by_)) :
    ∃ q slow, 0 ≤ slow ∧ slow ≤ 4000000000 ∧ ∀ k, 200 ≤ k → wind_Leg.f k l s h ax ay bx by_ = some (q, slow, 0) := by
  have key : ∃ q slow, 0 ≤ slow ∧ slow ≤ 4000000000 ∧ wind_Leg.f 200 l s h ax ay bx by_ = some (q, slow, 0) := by
    have hleg : wind_Leg.f 200 l s h ax ay bx by_ = wind_Leg.l0 199 l s h [(⟨ax, ay⟩ : S54), ⟨bx, by_⟩] 2 0 ax ay bx by_ := by
      unfold wind_Leg.f
      rw [he 200 (by decide), Option.bind_some, if_pos rfl, if_neg (by omega), if_neg (by omega), if_neg (by omega), decide_eq_false (by omega), show (200 : Nat) = 199 + 1 from rfl, wind_Leg.j0, if_neg (by decide), Option.bind_some]
      rfl
    rw [show (199 : Nat) = 198 + 1 from rfl, wind_Leg.l0, if_pos (by decide), if_pos (by decide), if_pos (by simp), show rd_T54 [(⟨ax, ay⟩ : S54), ⟨bx, by_⟩] 0 = ⟨ax, ay⟩ from rfl, check_f, Option.bind_some,
      if_pos ca, if_pos rfl, show wrap64 (0 + 1) = 1 by (unfold wrap64; omega), show (198 : Nat) = 197 + 1 from rfl, wind_Leg.l0, if_pos (by decide), if_pos (by decide), if_pos (by simp), show rd_T54 [(⟨ax, ay⟩ : S54), ⟨bx, by_⟩] 1 = ⟨bx, by_⟩ from rfl, check_f, Option.bind_some,
      if_pos cb, if_pos rfl, show wrap64 (1 + 1) = 2 by (unfold wrap64; omega), show (197 : Nat) = 196 + 1 from rfl, wind_Leg.l0, if_neg (by decide)] at hleg
    obtain ⟨b, hat, hbk⟩ := at_f h l hl
    have hbd : (-150 ≤ b.f2.f0 ∧ b.f2.f0 ≤ 150) ∧ (-150 ≤ b.f2.f1 ∧ b.f2.f1 ≤ 150) ∧ 0 ≤ b.f3 ∧ b.f3 ≤ 100 := by
      rcases hbk with ⟨j, hj, rfl⟩ | rfl
      · exact (hb j hj).2
      · decide
    obtain ⟨a1, a2, a3, a4⟩ := ca
    obtain ⟨b1, b2, b3, b4⟩ := cb
    have hD := distance (ax := ax) (ay := ay) (bx := bx) (b_y := by_) (by omega) (by omega) (by omega) (by omega)
    have cq : ¬ (ax == bx && ay == by_) = true := by
      intro g
      rw [Bool.and_eq_true, beq_iff_eq, beq_iff_eq] at g
      exact hne0 g
    have hne : bx - ax ≠ 0 ∨ by_ - ay ≠ 0 := by omega
    obtain ⟨E, E0, E1, E2, hg⟩ := ground_f 195 s (Ang.ofI (bx - ax) (by_ - ay)) b.f0 b.f1 b.f2.f0 b.f2.f1 b.f3 (by omega) hbd.1 hbd.2.1 hbd.2.2
    have hs0 := S_nonneg (ax - bx) (ay - by_)
    have hsb := (square (ax := ax) (ay := ay) (bx := bx) (b_y := by_) (by omega) (by omega) (by omega) (by omega)).2
    obtain ⟨u1, u2, u3⟩ := up_spec hs0
    have r0 := rootI_nonneg (S (ax - bx) (ay - by_))
    have r1 := root_lt hs0 hsb
    rw [if_neg cq] at hleg
    unfold plane_Sub.f at hleg
    rw [Option.bind_some, w64 (x := bx - ax) (by omega) (by omega), w64 (x := by_ - ay) (by omega) (by omega)] at hleg
    dsimp only at hleg
    rw [of_good (by omega) (by omega) (by omega) (by omega) hne, Option.bind_some, hat _ (by omega), Option.bind_some] at hleg
    dsimp only at hleg
    rw [show (196 : Nat) = 195 + 1 from rfl, hg, Option.bind_some, hD, Option.bind_some] at hleg
    dsimp only at hleg
    have m1 := mx1 (s + (b.f2.f0 * Ang.sinI (Ang.ofI (bx - ax) (by_ - ay)) + b.f2.f1 * Ang.cosI (Ang.ofI (bx - ax) (by_ - ay)) - E) / 16384)
    have m2 := mx1 (s + (if (b.f2.f0 * Ang.sinI (Ang.ofI (bx - ax) (by_ - ay)) + b.f2.f1 * Ang.cosI (Ang.ofI (bx - ax) (by_ - ay)) + E) % 16384 = 0 then (b.f2.f0 * Ang.sinI (Ang.ofI (bx - ax) (by_ - ay)) + b.f2.f1 * Ang.cosI (Ang.ofI (bx - ax) (by_ - ay)) + E) / 16384 else (b.f2.f0 * Ang.sinI (Ang.ofI (bx - ax) (by_ - ay)) + b.f2.f1 * Ang.cosI (Ang.ofI (bx - ax) (by_ - ay)) + E) / 16384 + 1))
    generalize mx 1 (s + (b.f2.f0 * Ang.sinI (Ang.ofI (bx - ax) (by_ - ay)) + b.f2.f1 * Ang.cosI (Ang.ofI (bx - ax) (by_ - ay)) - E) / 16384) = lo at m1 hleg
    generalize mx 1 (s + (if (b.f2.f0 * Ang.sinI (Ang.ofI (bx - ax) (by_ - ay)) + b.f2.f1 * Ang.cosI (Ang.ofI (bx - ax) (by_ - ay)) + E) % 16384 = 0 then (b.f2.f0 * Ang.sinI (Ang.ofI (bx - ax) (by_ - ay)) + b.f2.f1 * Ang.cosI (Ang.ofI (bx - ax) (by_ - ay)) + E) / 16384 else (b.f2.f0 * Ang.sinI (Ang.ofI (bx - ax) (by_ - ay)) + b.f2.f1 * Ang.cosI (Ang.ofI (bx - ax) (by_ - ay)) + E) / 16384 + 1)) = hi at m2 hleg
    generalize rootI (S (ax - bx) (ay - by_)) = near at *
    generalize up (S (ax - bx) (ay - by_)) = far at *
    have l1 := m1.1
    have l2 := m2.1
    rw [up_pos 195 far lo (by omega) (by omega) (by omega), Option.bind_some, if_neg (by omega)] at hleg
    have g2 : 0 ≤ far / lo := Int.ediv_nonneg (by omega) (by omega)
    have g3 : far / lo ≤ far := Int.ediv_le_self _ (by omega)
    refine ⟨_, _, ?_, ?_, hleg⟩ <;> (dsimp only; split <;> omega)
  obtain ⟨q, slow, s0, s1, hk⟩ := key
  exact ⟨q, slow, s0, s1, fun k hk2 => at_rounds (fun j => wind_Leg.mono _ _ _ _ _ _ _ j) hk2 hk⟩
def Ev {α : Type} (f : Nat → Option α) (r : α) : Prop := ∃ K, ∀ k, K ≤ k → f k = some r
theorem Ev.succ {α : Type} {f g : Nat → Option α} {r : α} (e : ∀ k, f (k + 1) = g k) (h : Ev g r) : Ev f r := by
  obtain ⟨K, h⟩ := h
  refine ⟨K + 1, fun k hk => ?_⟩
  obtain ⟨k, rfl⟩ : ∃ q, k = q + 1 := ⟨k - 1, by omega⟩
  rw [e]
  exact h k (by omega)
theorem Ev.bind {α β : Type} {f : Nat → Option α} {g : Nat → α → Option β} {a : α} {b : β} (hf : Ev f a) (hg : Ev (fun k => g k a) b) : Ev (fun k => (f k).bind (g k)) b := by
  obtain ⟨K, hf⟩ := hf
  obtain ⟨L, hg⟩ := hg
  exact ⟨K + L, fun k hk => by dsimp only; rw [hf k (by omega), Option.bind_some]; exact hg k (by omega)⟩
theorem Ev.some {α : Type} (r : α) : Ev (fun _ => Option.some r) r := ⟨0, fun _ _ => rfl⟩
theorem Ev.const {α : Type} {o : Option α} {r : α} (h : o = Option.some r) : Ev (fun _ => o) r := ⟨0, fun _ _ => h⟩
theorem Ev.congr {α : Type} {f g : Nat → Option α} {r : α} (h : Ev g r) (e : ∀ k, f k = g k) : Ev f r := by
  obtain ⟨K, h⟩ := h
  exact ⟨K, fun k hk => by rw [e]; exact h k hk⟩
theorem Ev.ex {α : Type} {f : Nat → Option α} {r : α} (h : Ev f r) : ∃ k, f k = Option.some r := by
  obtain ⟨K, h⟩ := h
  exact ⟨K, h K (Nat.le_refl _)⟩
theorem Ev.pos {α : Type} {p : Prop} [Decidable p] {f g : Nat → Option α} {r : α} (c : p) (h : Ev f r) : Ev (fun k => if p then f k else g k) r := Ev.congr h (fun _ => if_pos c)
theorem Ev.neg {α : Type} {p : Prop} [Decidable p] {f g : Nat → Option α} {r : α} (c : ¬ p) (h : Ev g r) : Ev (fun k => if p then f k else g k) r := Ev.congr h (fun _ => if_neg c)
theorem Ev.done {α β : Type} {o : Option α} {g : Nat → α → Option β} {a : α} {b : β} (ho : o = Option.some a) (hg : Ev (fun k => g k a) b) : Ev (fun k => o.bind (g k)) b := Ev.bind (Ev.const ho) hg
abbrev Fx := S84
abbrev Aw := S139
theorem bt_eq {a b : ByteArray} : a.toList = b.toList ↔ a = b := by
  constructor
  · intro h
    rw [ByteArray.toList_eq, ByteArray.toList_eq] at h
    exact ByteArray.ext (Array.toList_inj.mp h)
  · rintro rfl; rfl
theorem rdX {l : List Fx} {i : Nat} (h : i < l.length) : rd_T84 l (i : Int) = l[i] := by
  unfold rd_T84
  rw [Int.toNat_natCast, List.getD_eq_getElem?_getD, List.getElem?_eq_getElem h]
  rfl
theorem rdA {l : List Aw} {i : Nat} (h : i < l.length) : rd_T139 l (i : Int) = l[i] := by
  unfold rd_T139
  rw [Int.toNat_natCast, List.getD_eq_getElem?_getD, List.getElem?_eq_getElem h]
  rfl
theorem rdB {l : List ByteArray} {i : Nat} (h : i < l.length) : rdOf ByteArray.empty l (i : Int) = l[i] := by
  unfold rdOf
  rw [Int.toNat_natCast, List.getD_eq_getElem?_getD, List.getElem?_eq_getElem h]
  rfl
theorem name_l (s : ByteArray) (hs : s.size ≤ 8) : ∀ (d k i : Nat), i + d = s.size → d < k → ∃ b, chart_Name.l0 k s (s.size : Int) (i : Int) = some b
  | 0, k, i, hi, hk => by
    obtain ⟨k, rfl⟩ : ∃ m, k = m + 1 := ⟨k - 1, by omega⟩
    exact ⟨true, by rw [chart_Name.l0, if_neg (by omega)]⟩
  | d + 1, k, i, hi, hk => by
    obtain ⟨k, rfl⟩ : ∃ m, k = m + 1 := ⟨k - 1, by omega⟩
    have ih := name_l s hs d k (i + 1) (by omega) (by omega)
    rw [chart_Name.l0, if_pos (by omega), if_pos (by omega), if_pos (by omega), w64 (x := (i : Int) + 1) (by omega) (by omega), show ((i : Int) + 1) = ((i + 1 : Nat) : Int) by omega]
    repeat' split
    all_goals first | exact ih | exact ⟨_, rfl⟩
theorem name_some (s : ByteArray) (k : Nat) (hk : 20 ≤ k) : ∃ b, chart_Name.f k s = some b := by
  have h1 : ∀ (q : Nat) x, 15 ≤ q → s.size ≤ 8 ∨ x = true → ∃ b, chart_Name.j0 q s x = some b := by
    intro q x hq hx
    obtain ⟨q, rfl⟩ : ∃ m, q = m + 1 := ⟨q - 1, by omega⟩
    rw [chart_Name.j0]
    by_cases c : x = true
    · rw [if_pos c]; exact ⟨_, rfl⟩
    · rw [if_neg c]
      have hs : s.size ≤ 8 := hx.elim id (fun h => absurd h c)
      exact name_l s hs s.size q 0 (by omega) (by omega)
  unfold chart_Name.f
  by_cases c0 : (s.size : Int) = 0
  · rw [if_pos c0]; exact h1 _ _ (by omega) (.inr rfl)
  rw [if_neg c0]
  by_cases c1 : (s.size : Int) > 8
  · rw [if_pos c1]; exact h1 _ _ (by omega) (.inr rfl)
  rw [if_neg c1, if_pos (by omega)]
  by_cases c2 : bt s 0 < 65
  · rw [if_pos c2]; exact h1 _ _ (by omega) (.inr rfl)
  · rw [if_neg c2]; exact h1 _ _ (by omega) (.inl (by omega))
def at_ (l : List ByteArray) (s : ByteArray) : Int := IdxF.idx (fun x => decide (x = s)) l
theorem index_l (l : List ByteArray) (hl : l.length ≤ 8796093021952) (s : ByteArray) : ∀ (d k i : Nat), i + d = l.length → d < k → (∀ j (h : j < l.length), j < i → l[j] ≠ s) →
    slices_Index_string_string.l0 k l s (l.length : Int) (i : Int) = some (at_ l s)
  | 0, k, i, hi, hk, hb => by
    obtain ⟨k, rfl⟩ : ∃ m, k = m + 1 := ⟨k - 1, by omega⟩
    rw [slices_Index_string_string.l0, if_neg (by omega)]
    congr 1
    exact (IdxF.idx_miss _ l (fun j h => decide_eq_false (hb j h (by omega)))).symm
  | d + 1, k, i, hi, hk, hb => by
    obtain ⟨k, rfl⟩ : ∃ m, k = m + 1 := ⟨k - 1, by omega⟩
    have hlt : i < l.length := by omega
    rw [slices_Index_string_string.l0, if_pos (by omega), if_pos (by omega), if_pos (by omega), rdB hlt]
    by_cases c : s.toList = l[i].toList
    · rw [if_pos c]
      congr 1
      exact (IdxF.idx_hit _ l hlt (decide_eq_true (bt_eq.1 c).symm) (fun j h => decide_eq_false (hb j _ h))).symm
    · rw [if_neg c, w64 (x := (i : Int) + 1) (by omega) (by omega), show ((i : Int) + 1) = ((i + 1 : Nat) : Int) by omega]
      refine index_l l hl s d k (i + 1) (by omega) (by omega) (fun j h hj => ?_)
      by_cases e : j = i
      · subst e; exact fun h2 => c (bt_eq.2 h2.symm)
      · exact hb j h (by omega)
theorem index_f (l : List ByteArray) (hl : l.length ≤ 8796093021952) (s : ByteArray) (k : Nat) (hk : l.length < k) : slices_Index_string_string.f k l s = some (at_ l s) := by
  unfold slices_Index_string_string.f
  exact index_l l hl s l.length k 0 (by omega) hk (fun j _ h => absurd h (Nat.not_lt_zero _))
def fx (F : List Fx) (s : ByteArray) : Int := IdxF.idx (chart_find_1.p s) F
theorem find_f (F : List Fx) (L : List Aw) (s : ByteArray) : chart_find.f F L s = some (fx F s) := by
  unfold chart_find.f api_Fix_37.f
  rw [Option.bind_some]
  rfl
theorem fx_range (F : List Fx) (s : ByteArray) : fx F s = -1 ∨ (0 ≤ fx F s ∧ fx F s < (F.length : Int)) := IdxF.idx_range _ _
theorem airway_l (F : List Fx) (L : List Aw) (nm : ByteArray) (l : List ByteArray) (hl : l.length ≤ 24) : ∀ (d k i : Nat), i + d = l.length → d + 30 < k → (0 < i → ∀ h2 : i - 1 < l.length, 0 ≤ fx F l[i - 1]) →
    ∃ e, chart_airway.l0 k l (l.length : Int) (i : Int) F L nm l = some e
  | 0, k, i, hi, hk, hf => by
    obtain ⟨k, rfl⟩ : ∃ m, k = m + 1 := ⟨k - 1, by omega⟩
    exact ⟨0, by rw [chart_airway.l0, if_neg (by omega)]⟩
  | d + 1, k, i, hi, hk, hf => by
    obtain ⟨k, rfl⟩ : ∃ m, k = m + 1 := ⟨k - 1, by omega⟩
    have hlt : i < l.length := by omega
    have r := fx_range F l[i]
    rw [chart_airway.l0, if_pos (by omega), if_pos (by omega), if_pos (by omega), rdB hlt, find_f, Option.bind_some]
    by_cases c1 : fx F l[i] < 0
    · rw [if_pos c1]; exact ⟨_, rfl⟩
    have ih := airway_l F L nm l hl d k (i + 1) (by omega) (by omega) (fun _ h2 => by
      have e : i + 1 - 1 = i := by omega
      simp only [e]; omega)
    rw [show ((i + 1 : Nat) : Int) = (i : Int) + 1 by omega] at ih
    rw [if_neg c1, if_pos (by omega), Int.toNat_natCast]
    unfold slices_Contains_string_string.f
    rw [index_f (l.take i) (by rw [List.length_take]; omega) _ k (by rw [List.length_take]; omega), Option.bind_some, Option.bind_some]
    by_cases c2 : decide (at_ (l.take i) l[i] ≥ 0) = true
    · rw [if_pos c2]; exact ⟨_, rfl⟩
    rw [if_neg c2, w64 (x := (i : Int) + 1) (by omega) (by omega)]
    by_cases c3 : (i : Int) > 0
    · have hf' := hf (by omega) (by omega)
      have r2 := fx_range F l[i - 1]
      rw [if_pos c3, w64 (x := (i : Int) - 1) (by omega) (by omega), if_pos (by omega), if_pos (by omega), show ((i : Int) - 1) = ((i - 1 : Nat) : Int) by omega, rdB (show i - 1 < l.length by omega), find_f, Option.bind_some,
        if_pos hf', if_pos (by omega), if_pos (by omega), if_pos (by omega)]
      split
      · exact ⟨_, rfl⟩
      · exact ih
    · rw [if_neg c3]; exact ih
theorem airway_f (F : List Fx) (L : List Aw) (i k : Nat) (hk : 100 ≤ k) (hi : i < L.length) : ∃ e, chart_airway.f k F L (i : Int) = some e := by
  have hj : ∀ (q : Nat) x (nm : ByteArray) (l : List ByteArray), 90 ≤ q → ∃ e, chart_airway.j0 q x F L nm l = some e := by
    intro q x nm l hq
    obtain ⟨q, rfl⟩ : ∃ m, q = m + 1 := ⟨q - 1, by omega⟩
    rw [chart_airway.j0]
    by_cases c0 : x = true
    · rw [if_pos c0]; exact ⟨_, rfl⟩
    rw [if_neg c0]
    by_cases c1 : (l.length : Int) < 2
    · rw [if_pos c1]; exact ⟨_, rfl⟩
    rw [if_neg c1]
    by_cases c2 : (l.length : Int) > 24
    · rw [if_pos c2]; exact ⟨_, rfl⟩
    rw [if_neg c2]
    exact airway_l F L nm l (by omega) l.length q 0 (by omega) (by omega) (fun h => absurd h (Nat.lt_irrefl _))
  unfold chart_airway.f
  obtain ⟨b, hb⟩ := name_some (L[i]).f0 k (by omega)
  rw [if_pos (by omega), if_pos (by omega), rdA hi, hb, Option.bind_some]
  by_cases c0 : b = true
  · rw [if_pos c0, find_f, Option.bind_some]
    by_cases c1 : fx F (L[i]).f0 ≥ 0
    · rw [if_pos c1]; exact hj _ _ _ _ (by omega)
    · rw [if_neg c1, if_pos (by omega)]
      unfold api_Airway_105.f
      rw [Option.bind_some]
      exact hj _ _ _ _ (by omega)
  · rw [if_neg c0]; exact ⟨_, rfl⟩
theorem chk_l1 (F : List Fx) (L : List Aw) (hL : L.length ≤ 16) : ∀ (d k i : Nat), i + d = L.length → d + 100 < k → ∃ e, chart_Check.l1 k (L.length : Int) (i : Int) F L = some e
  | 0, k, i, hi, hk => by
    obtain ⟨k, rfl⟩ : ∃ m, k = m + 1 := ⟨k - 1, by omega⟩
    exact ⟨0, by rw [chart_Check.l1, if_neg (by omega)]⟩
  | d + 1, k, i, hi, hk => by
    obtain ⟨k, rfl⟩ : ∃ m, k = m + 1 := ⟨k - 1, by omega⟩
    obtain ⟨e, he⟩ := airway_f F L i k (by omega) (by omega)
    have ih := chk_l1 F L hL d k (i + 1) (by omega) (by omega)
    rw [chart_Check.l1, if_pos (by omega), he, Option.bind_some, w64 (x := (i : Int) + 1) (by omega) (by omega), show ((i : Int) + 1) = ((i + 1 : Nat) : Int) by omega]
    split
    · exact ih
    · exact ⟨_, rfl⟩
theorem chk_l0 (F : List Fx) (L : List Aw) (hF : F.length ≤ 64) (hL : L.length ≤ 16) : ∀ (d k i : Nat), i + d = F.length → d + 130 < k →
    ∃ e, chart_Check.l0 k F (F.length : Int) (i : Int) F L = some e ∧ (e = 0 → ∀ j (h : j < F.length), i ≤ j → chart_Name.f k (F[j]).f0 = some true ∧ (j : Int) ≤ fx F (F[j]).f0 ∧ Ok (F[j]).f1.f0 (F[j]).f1.f1)
  | 0, k, i, hi, hk => by
    obtain ⟨k, rfl⟩ : ∃ m, k = m + 1 := ⟨k - 1, by omega⟩
    obtain ⟨e, he⟩ := chk_l1 F L hL L.length k 0 (by omega) (by omega)
    refine ⟨e, by rw [chart_Check.l0, if_neg (by omega)]; exact he, fun _ j h hj => by omega⟩
  | d + 1, k, i, hi, hk => by
    obtain ⟨k, rfl⟩ : ∃ m, k = m + 1 := ⟨k - 1, by omega⟩
    have hlt : i < F.length := by omega
    obtain ⟨b, hb⟩ := name_some (F[i]).f0 k (by omega)
    obtain ⟨e, he, hz⟩ := chk_l0 F L hF hL d k (i + 1) (by omega) (by omega)
    rw [chart_Check.l0, if_pos (by omega), if_pos (by omega), if_pos (by omega), rdX hlt, hb, Option.bind_some, find_f]
    by_cases c0 : b = true
    · rw [if_pos c0, Option.bind_some]
      by_cases c1 : fx F (F[i]).f0 < (i : Int)
      · rw [if_pos c1]; exact ⟨7, rfl, fun h => by omega⟩
      · rw [if_neg c1, check_f, Option.bind_some, w64 (x := (i : Int) + 1) (by omega) (by omega), show ((i : Int) + 1) = ((i + 1 : Nat) : Int) by omega]
        by_cases c2 : Ok (F[i]).f1.f0 (F[i]).f1.f1
        · rw [if_pos c2, if_pos rfl]
          refine ⟨e, he, fun h j hj hij => ?_⟩
          by_cases c3 : j = i
          · subst c3
            exact ⟨at_rounds (fun q => chart_Name.mono _ q) (Nat.le_succ k) (c0 ▸ hb), by omega, c2⟩
          · obtain ⟨g1, g2⟩ := hz h j hj (by omega)
            exact ⟨at_rounds (fun q => chart_Name.mono _ q) (Nat.le_succ k) g1, g2⟩
        · rw [if_neg c2, if_neg (by decide)]
          exact ⟨4, rfl, fun h => by omega⟩
    · rw [if_neg c0]; exact ⟨5, rfl, fun h => by omega⟩
theorem chk (F : List Fx) (L : List Aw) : ∃ e, (∀ k, 250 ≤ k → chart_Check.f k F L = some e) ∧ (e = 0 → F.length ≤ 64 ∧ L.length ≤ 16 ∧ ∀ j (h : j < F.length), chart_Name.f 250 (F[j]).f0 = some true ∧ (j : Int) ≤ fx F (F[j]).f0 ∧ Ok (F[j]).f1.f0 (F[j]).f1.f1) := by
  have key : ∃ e, chart_Check.f 250 F L = some e ∧ (e = 0 → F.length ≤ 64 ∧ L.length ≤ 16 ∧ ∀ j (h : j < F.length), chart_Name.f 250 (F[j]).f0 = some true ∧ (j : Int) ≤ fx F (F[j]).f0 ∧ Ok (F[j]).f1.f0 (F[j]).f1.f1) := by
    unfold chart_Check.f
    by_cases c0 : (F.length : Int) > 64
    · rw [if_pos c0]; exact ⟨2, rfl, fun h => by omega⟩
    rw [if_neg c0, show (250 : Nat) = 249 + 1 from rfl, chart_Check.j0]
    by_cases c1 : (L.length : Int) > 16
    · rw [if_pos (decide_eq_true c1)]; exact ⟨2, rfl, fun h => by omega⟩
    rw [if_neg (by rw [decide_eq_false c1]; decide)]
    obtain ⟨e, he, hz⟩ := chk_l0 F L (by omega) (by omega) F.length 249 0 (by omega) (by omega)
    refine ⟨e, he, fun h => ⟨by omega, by omega, fun j hj => ?_⟩⟩
    obtain ⟨g1, g2⟩ := hz h j hj (Nat.zero_le _)
    exact ⟨at_rounds (fun q => chart_Name.mono _ q) (Nat.le_succ 249) g1, g2⟩
  obtain ⟨e, he, hz⟩ := key
  exact ⟨e, fun k hk => at_rounds (fun q => chart_Check.mono _ _ q) hk he, hz⟩
theorem airway_l2 (F : List Fx) (L : List Aw) (nm : ByteArray) (l : List ByteArray) (hl : l.length ≤ 24) : ∀ (d k i : Nat), i + d = l.length → d + 30 < k → (0 < i → ∀ h2 : i - 1 < l.length, 0 ≤ fx F l[i - 1]) →
    ∃ e, chart_airway.l0 k l (l.length : Int) (i : Int) F L nm l = some e ∧ (e = 0 → ∀ j (h : j < l.length), i ≤ j → 0 ≤ fx F l[j])
  | 0, k, i, hi, hk, hf => by
    obtain ⟨k, rfl⟩ : ∃ m, k = m + 1 := ⟨k - 1, by omega⟩
    exact ⟨0, by rw [chart_airway.l0, if_neg (by omega)], fun _ j h1 h2 => by omega⟩
  | d + 1, k, i, hi, hk, hf => by
    obtain ⟨k, rfl⟩ : ∃ m, k = m + 1 := ⟨k - 1, by omega⟩
    have hlt : i < l.length := by omega
    have r := fx_range F l[i]
    rw [chart_airway.l0, if_pos (by omega), if_pos (by omega), if_pos (by omega), rdB hlt, find_f, Option.bind_some]
    by_cases c1 : fx F l[i] < 0
    · rw [if_pos c1]; exact ⟨_, rfl, fun h => absurd h (by decide)⟩
    have ih := airway_l2 F L nm l hl d k (i + 1) (by omega) (by omega) (fun _ h2 => by
      have e : i + 1 - 1 = i := by omega
      simp only [e]; omega)
    rw [show ((i + 1 : Nat) : Int) = (i : Int) + 1 by omega] at ih
    obtain ⟨e1, he, hz⟩ := ih
    have fin : e1 = 0 → ∀ j (h : j < l.length), i ≤ j → 0 ≤ fx F l[j] := fun h0 j hj hij => by
      by_cases c : j = i
      · subst c; omega
      · exact hz h0 j hj (by omega)
    rw [if_neg c1, if_pos (by omega), Int.toNat_natCast]
    unfold slices_Contains_string_string.f
    rw [index_f (l.take i) (by rw [List.length_take]; omega) _ k (by rw [List.length_take]; omega), Option.bind_some, Option.bind_some]
    by_cases c2 : decide (at_ (l.take i) l[i] ≥ 0) = true
    · rw [if_pos c2]; exact ⟨_, rfl, fun h => absurd h (by decide)⟩
    rw [if_neg c2, w64 (x := (i : Int) + 1) (by omega) (by omega)]
    by_cases c3 : (i : Int) > 0
    · have hf' := hf (by omega) (by omega)
      have r2 := fx_range F l[i - 1]
      rw [if_pos c3, w64 (x := (i : Int) - 1) (by omega) (by omega), if_pos (by omega), if_pos (by omega), show ((i : Int) - 1) = ((i - 1 : Nat) : Int) by omega, rdB (show i - 1 < l.length by omega), find_f, Option.bind_some,
        if_pos hf', if_pos (by omega), if_pos (by omega), if_pos (by omega)]
      split
      · exact ⟨_, rfl, fun h => absurd h (by decide)⟩
      · exact ⟨e1, he, fin⟩
    · rw [if_neg c3]; exact ⟨e1, he, fin⟩
def AwOk (F : List Fx) (a : Aw) : Prop := fx F a.f0 < 0 ∧ 2 ≤ a.f1.length ∧ a.f1.length ≤ 24 ∧ ∀ j (h : j < a.f1.length), 0 ≤ fx F a.f1[j]
theorem airway_f2 (F : List Fx) (L : List Aw) (i k : Nat) (hk : 100 ≤ k) (hi : i < L.length) : ∃ e, chart_airway.f k F L (i : Int) = some e ∧ (e = 0 → AwOk F L[i]) := by
  have hj : ∀ (q : Nat) x (nm : ByteArray) (l : List ByteArray), 90 ≤ q → ∃ e, chart_airway.j0 q x F L nm l = some e ∧ (e = 0 → 2 ≤ l.length ∧ l.length ≤ 24 ∧ ∀ j (h : j < l.length), 0 ≤ fx F l[j]) := by
    intro q x nm l hq
    obtain ⟨q, rfl⟩ : ∃ m, q = m + 1 := ⟨q - 1, by omega⟩
    rw [chart_airway.j0]
    by_cases c0 : x = true
    · rw [if_pos c0]; exact ⟨_, rfl, fun h => absurd h (by decide)⟩
    rw [if_neg c0]
    by_cases c1 : (l.length : Int) < 2
    · rw [if_pos c1]; exact ⟨_, rfl, fun h => absurd h (by decide)⟩
    rw [if_neg c1]
    by_cases c2 : (l.length : Int) > 24
    · rw [if_pos c2]; exact ⟨_, rfl, fun h => absurd h (by decide)⟩
    rw [if_neg c2]
    obtain ⟨e, he, hz⟩ := airway_l2 F L nm l (by omega) l.length q 0 (by omega) (by omega) (fun h => absurd h (Nat.lt_irrefl _))
    exact ⟨e, he, fun h => ⟨by omega, by omega, fun j hj => hz h j hj (Nat.zero_le _)⟩⟩
  unfold chart_airway.f
  obtain ⟨b, hb⟩ := name_some (L[i]).f0 k (by omega)
  rw [if_pos (by omega), if_pos (by omega), rdA hi, hb, Option.bind_some]
  by_cases c0 : b = true
  · rw [if_pos c0, find_f, Option.bind_some]
    by_cases c1 : fx F (L[i]).f0 ≥ 0
    · rw [if_pos c1]
      obtain ⟨q, rfl⟩ : ∃ m, k = m + 1 := ⟨k - 1, by omega⟩
      rw [chart_airway.j0, if_pos rfl]
      exact ⟨_, rfl, fun h => absurd h (by decide)⟩
    · rw [if_neg c1, if_pos (by omega)]
      unfold api_Airway_105.f
      rw [Option.bind_some]
      obtain ⟨e, he, hz⟩ := hj k _ _ _ (by omega)
      exact ⟨e, he, fun h => ⟨by omega, hz h⟩⟩
  · rw [if_neg c0]; exact ⟨_, rfl, fun h => absurd h (by decide)⟩
theorem chk_l1b (F : List Fx) (L : List Aw) (hL : L.length ≤ 16) : ∀ (d k i : Nat), i + d = L.length → d + 100 < k → ∃ e, chart_Check.l1 k (L.length : Int) (i : Int) F L = some e ∧ (e = 0 → ∀ j (h : j < L.length), i ≤ j → AwOk F L[j])
  | 0, k, i, hi, hk => by
    obtain ⟨k, rfl⟩ : ∃ m, k = m + 1 := ⟨k - 1, by omega⟩
    exact ⟨0, by rw [chart_Check.l1, if_neg (by omega)], fun _ j h1 h2 => by omega⟩
  | d + 1, k, i, hi, hk => by
    obtain ⟨k, rfl⟩ : ∃ m, k = m + 1 := ⟨k - 1, by omega⟩
    obtain ⟨e, he, hz⟩ := airway_f2 F L i k (by omega) (by omega)
    obtain ⟨e2, ih, hz2⟩ := chk_l1b F L hL d k (i + 1) (by omega) (by omega)
    rw [chart_Check.l1, if_pos (by omega), he, Option.bind_some, w64 (x := (i : Int) + 1) (by omega) (by omega), show ((i : Int) + 1) = ((i + 1 : Nat) : Int) by omega]
    by_cases c : e = 0
    · rw [if_pos c]
      refine ⟨e2, ih, fun h0 j hj hij => ?_⟩
      by_cases cj : j = i
      · subst cj; exact hz c
      · exact hz2 h0 j hj (by omega)
    · rw [if_neg c]; exact ⟨_, rfl, fun h => absurd h c⟩
theorem rev_l (l : List ByteArray) (hl : l.length ≤ 8796093021952) : ∀ (d k i : Nat) (x : List ByteArray), l.length ≤ 2 * (i + d) + 1 → d < k → 2 * i ≤ l.length → x.length = l.length →
    (∀ m, m < l.length → x[m]? = if m < i ∨ l.length - i ≤ m then l[l.length - 1 - m]? else l[m]?) →
    slices_Reverse_string_string.l0 k x (i : Int) ((l.length : Int) - 1 - i) = some l.reverse
  | d, k, i, x, hd, hk, hi, hx, h => by
    obtain ⟨k, rfl⟩ : ∃ m, k = m + 1 := ⟨k - 1, by omega⟩
    by_cases c : (i : Int) < (l.length : Int) - 1 - i
    · cases d with
      | zero => omega
      | succ d =>
        have e : ((l.length : Int) - 1 - i) = ((l.length - 1 - i : Nat) : Int) := by omega
        rw [slices_Reverse_string_string.l0, if_pos c, e, if_pos (by omega), if_pos (by rw [hx]; omega), if_pos (by omega), if_pos (by rw [hx]; omega), rdB (show l.length - 1 - i < x.length by omega), rdB (show i < x.length by omega), Int.toNat_natCast, Int.toNat_natCast,
          w64 (x := (i : Int) + 1) (by omega) (by omega), w64 (x := ((l.length - 1 - i : Nat) : Int) - 1) (by omega) (by omega), show ((i : Int) + 1) = ((i + 1 : Nat) : Int) by omega, show (((l.length - 1 - i : Nat) : Int) - 1) = (l.length : Int) - 1 - ((i + 1 : Nat) : Int) by omega]
        have hi1 := h i (by omega)
        have hj1 := h (l.length - 1 - i) (by omega)
        rw [List.getElem?_eq_getElem (by omega), if_neg (by omega)] at hi1
        rw [List.getElem?_eq_getElem (by omega), if_neg (by omega)] at hj1
        refine rev_l l hl d k (i + 1) _ (by omega) (by omega) (by omega) (by simp [hx]) (fun m hm => ?_)
        rw [List.getElem?_set, List.getElem?_set]
        by_cases c1 : l.length - 1 - i = m
        · rw [if_pos c1, if_pos (by simp; omega), if_pos (by omega), hi1]
          congr 1; omega
        · rw [if_neg c1]
          by_cases c2 : i = m
          · rw [if_pos c2, if_pos (by omega), if_pos (by omega), hj1]
            congr 1; omega
          · rw [if_neg c2, h m hm]
            by_cases c3 : m < i ∨ l.length - i ≤ m
            · rw [if_pos c3, if_pos (by omega)]
            · rw [if_neg c3, if_neg (by omega)]
    · rw [slices_Reverse_string_string.l0, if_neg c]
      congr 1
      apply List.ext_getElem?
      intro m
      by_cases hm : m < l.length
      · rw [List.getElem?_reverse hm, h m hm]
        by_cases c3 : m < i ∨ l.length - i ≤ m
        · rw [if_pos c3]
        · rw [if_neg c3]; congr 1; omega
      · rw [List.getElem?_eq_none (by omega), List.getElem?_eq_none (by rw [List.length_reverse]; omega)]
termination_by d => d
theorem rev_f (l : List ByteArray) (hl : l.length ≤ 8796093021952) (k : Nat) (hk : l.length < k) : slices_Reverse_string_string.f k l = some l.reverse := by
  unfold slices_Reverse_string_string.f
  rw [w64 (x := (l.length : Int) - 1) (by omega) (by omega)]
  have := rev_l l hl l.length k 0 l (by omega) hk (by omega) rfl (fun m hm => by rw [if_neg (by omega)])
  rw [show ((l.length : Int) - 1 - ((0 : Nat) : Int)) = (l.length : Int) - 1 by omega] at this
  exact this
theorem clone_f (l : List ByteArray) (hl : l.length ≤ 8796093021952) : slices_Clone_string_string.f l = some l := by
  unfold slices_Clone_string_string.f
  rw [Option.bind_some, if_pos (by simp; omega), List.nil_append]
def ChOk (F : List Fx) (L : List Aw) : Prop := F.length ≤ 64 ∧ L.length ≤ 16 ∧ (∀ j (h : j < F.length), chart_Name.f 250 (F[j]).f0 = some true ∧ (j : Int) ≤ fx F (F[j]).f0 ∧ Ok (F[j]).f1.f0 (F[j]).f1.f1) ∧ ∀ j (h : j < L.length), AwOk F L[j]
theorem chk_l0b (F : List Fx) (L : List Aw) (hF : F.length ≤ 64) (hL : L.length ≤ 16) : ∀ (d k i : Nat), i + d = F.length → d + 130 < k →
    ∃ e, chart_Check.l0 k F (F.length : Int) (i : Int) F L = some e ∧ (e = 0 → ∀ j (h : j < L.length), AwOk F L[j])
  | 0, k, i, hi, hk => by
    obtain ⟨k, rfl⟩ : ∃ m, k = m + 1 := ⟨k - 1, by omega⟩
    obtain ⟨e, he, hz⟩ := chk_l1b F L hL L.length k 0 (by omega) (by omega)
    exact ⟨e, by rw [chart_Check.l0, if_neg (by omega)]; exact he, fun h j hj => hz h j hj (Nat.zero_le _)⟩
  | d + 1, k, i, hi, hk => by
    obtain ⟨k, rfl⟩ : ∃ m, k = m + 1 := ⟨k - 1, by omega⟩
    have hlt : i < F.length := by omega
    obtain ⟨b, hb⟩ := name_some (F[i]).f0 k (by omega)
    obtain ⟨e, he, hz⟩ := chk_l0b F L hF hL d k (i + 1) (by omega) (by omega)
    rw [chart_Check.l0, if_pos (by omega), if_pos (by omega), if_pos (by omega), rdX hlt, hb, Option.bind_some, find_f]
    by_cases c0 : b = true
    · rw [if_pos c0, Option.bind_some]
      by_cases c1 : fx F (F[i]).f0 < (i : Int)
      · rw [if_pos c1]; exact ⟨7, rfl, fun h => by omega⟩
      · rw [if_neg c1, check_f, Option.bind_some, w64 (x := (i : Int) + 1) (by omega) (by omega), show ((i : Int) + 1) = ((i + 1 : Nat) : Int) by omega]
        by_cases c2 : Ok (F[i]).f1.f0 (F[i]).f1.f1
        · rw [if_pos c2, if_pos rfl]
          exact ⟨e, he, hz⟩
        · rw [if_neg c2, if_neg (by decide)]
          exact ⟨4, rfl, fun h => by omega⟩
    · rw [if_neg c0]; exact ⟨5, rfl, fun h => by omega⟩
theorem chk2 (F : List Fx) (L : List Aw) : ∃ e, (∀ k, 250 ≤ k → chart_Check.f k F L = some e) ∧ (e = 0 → ChOk F L) := by
  obtain ⟨e, he, hz⟩ := chk F L
  refine ⟨e, he, fun h0 => ?_⟩
  obtain ⟨h1, h2, h3⟩ := hz h0
  refine ⟨h1, h2, h3, ?_⟩
  have h := he 250 (Nat.le_refl _)
  unfold chart_Check.f at h
  rw [if_neg (by omega), show (250 : Nat) = 249 + 1 from rfl, chart_Check.j0, if_neg (by rw [decide_eq_false (by omega)]; decide)] at h
  obtain ⟨e2, he2, hz2⟩ := chk_l0b F L h1 h2 F.length 249 0 (by omega) (by omega)
  have h' := he2.symm.trans h
  exact hz2 ((Option.some.inj h').trans h0)
def fixOf (F : List Fx) (s : ByteArray) : Fx := rd_T84 F (fx F s)
theorem isFix_f (F : List Fx) (L : List Aw) (s : ByteArray) : route_isFix.f F L s = some (decide (0 ≤ fx F s)) := by
  unfold route_isFix.f api_Fix_79.f
  rw [Option.bind_some]
  congr 1
  exact (IdxF.idx_any (route_isFix_1.p s) F).symm
def awy (L : List Aw) (s : ByteArray) : Bool := L.any (route_isAirway_1.p s)
theorem isAirway_f (F : List Fx) (L : List Aw) (s : ByteArray) : route_isAirway.f F L s = some (awy L s) := by
  unfold route_isAirway.f api_Airway_105.f
  rw [Option.bind_some]
  rfl
theorem fix_awy {F : List Fx} {L : List Aw} (hc : ChOk F L) {s : ByteArray} (h : 0 ≤ fx F s) : awy L s = false := by
  unfold awy
  rw [Bool.eq_false_iff]
  intro ha
  obtain ⟨a, ha, hp⟩ := List.any_eq_true.1 ha
  obtain ⟨j, hj, rfl⟩ := List.getElem_of_mem ha
  have h1 := (hc.2.2.2 j hj).1
  have h2 : (L[j]).f0 = s := of_decide_eq_true hp
  rw [h2] at h1
  omega
def FixAll (F : List Fx) (l : List ByteArray) : Prop := ∀ s ∈ l, 0 ≤ fx F s
theorem between_r {F : List Fx} {L : List Aw} (hc : ChOk F L) (hk : ∀ k, 250 ≤ k → chart_Check.f k F L = some 0) (nm s t : ByteArray) (k : Nat) (hk3 : 300 ≤ k) :
    ∃ r e, chart_Between.f k F L nm s t = some (r, e) ∧ (e = 0 → 1 ≤ r.length ∧ r.length ≤ 24 ∧ FixAll F r) := by
  unfold chart_Between.f api_Airway_109.f
  rw [hk k (by omega), Option.bind_some, if_pos rfl, Option.bind_some]
  rcases IdxF.idx_range (chart_Between_1.p nm) L with h | ⟨h1, h2⟩
  · rw [h, if_pos (by decide)]
    exact ⟨_, _, rfl, fun h => absurd h (by decide)⟩
  obtain ⟨q, hq⟩ : ∃ q : Nat, IdxF.idx (chart_Between_1.p nm) L = (q : Int) := ⟨(IdxF.idx (chart_Between_1.p nm) L).toNat, by omega⟩
  rw [hq] at h1 h2 ⊢
  have hlt : q < L.length := by omega
  obtain ⟨_, a1, a2, a3⟩ := hc.2.2.2 q hlt
  rw [if_neg (by omega), if_pos (by omega), if_pos (by omega), rdA hlt]
  generalize (L[q]).f1 = l at a1 a2 a3
  have hfix : FixAll F l := fun s hs => by
    obtain ⟨j, hj, rfl⟩ := List.getElem_of_mem hs
    exact a3 j hj
  rw [index_f l (by omega) s k (by omega), index_f l (by omega) t k (by omega), Option.bind_some, Option.bind_some]
  obtain ⟨k, rfl⟩ : ∃ m, k = m + 1 := ⟨k - 1, by omega⟩
  have none_ : ∀ x y : Int, chart_Between.j0 (k + 1) l x y true = some (([] : List ByteArray), 6) := fun x y => by rw [chart_Between.j0, if_pos rfl]
  have rs : at_ l s = -1 ∨ (0 ≤ at_ l s ∧ at_ l s < (l.length : Int)) := IdxF.idx_range _ l
  have rt : at_ l t = -1 ∨ (0 ≤ at_ l t ∧ at_ l t < (l.length : Int)) := IdxF.idx_range _ l
  by_cases ca : at_ l s < 0
  · rw [if_pos ca, none_]; exact ⟨_, _, rfl, fun h => absurd h (by decide)⟩
  rw [if_neg ca]
  by_cases cb : at_ l t < 0
  · rw [decide_eq_true cb, none_]; exact ⟨_, _, rfl, fun h => absurd h (by decide)⟩
  rw [decide_eq_false cb]
  obtain ⟨x, ex⟩ : ∃ a : Nat, at_ l s = (a : Int) := ⟨(at_ l s).toNat, by omega⟩
  obtain ⟨y, ey⟩ : ∃ b : Nat, at_ l t = (b : Int) := ⟨(at_ l t).toNat, by omega⟩
  rw [ex, ey, chart_Between.j0, if_neg (by decide)]
  have sub : ∀ a b, FixAll F ((l.take b).drop a) := fun a b s hs => hfix s (List.mem_of_mem_take (List.mem_of_mem_drop hs))
  by_cases c : x ≤ y
  · rw [if_pos (by omega), if_pos (by omega), w64 (x := (y : Int) + 1) (by omega) (by omega), if_pos (by omega), if_pos (by omega), show ((y : Int) + 1).toNat = y + 1 by omega, Int.toNat_natCast, clone_f _ (by rw [List.length_drop, List.length_take]; omega), Option.bind_some]
    exact ⟨_, _, rfl, fun _ => ⟨by rw [List.length_drop, List.length_take]; omega, by rw [List.length_drop, List.length_take]; omega, sub _ _⟩⟩
  · rw [if_neg (by omega), if_pos (by omega), w64 (x := (x : Int) + 1) (by omega) (by omega), if_pos (by omega), if_pos (by omega), show ((x : Int) + 1).toNat = x + 1 by omega, Int.toNat_natCast, clone_f _ (by rw [List.length_drop, List.length_take]; omega), Option.bind_some,
      rev_f _ (by rw [List.length_drop, List.length_take]; omega) k (by rw [List.length_drop, List.length_take]; omega), Option.bind_some]
    exact ⟨_, _, rfl, fun _ => ⟨by rw [List.length_reverse, List.length_drop, List.length_take]; omega, by rw [List.length_reverse, List.length_drop, List.length_take]; omega, fun s hs => sub _ _ s (List.mem_reverse.1 hs)⟩⟩
theorem names_l2 {F : List Fx} {L : List Aw} (hc : ChOk F L) (hk : ∀ k, 250 ≤ k → chart_Check.f k F L = some 0) (x : List ByteArray) (hx : x.length ≤ 26) (hall : ∀ i (h : i < x.length), awy L x[i] = false → 0 ≤ fx F x[i]) (h0 : ∀ h : 0 < x.length, awy L x[0] = false) (n : Nat) (hn : n + 1 = x.length) (hl : awy L (x[n]'(by omega)) = false) :
    ∀ (d k i : Nat) (acc : List ByteArray), i + d = n → d + 310 < k → FixAll F acc → acc.length ≤ 24 * i → ∃ out e, route_names.l2 k x acc x (x.length : Int) (i : Int) F L = some (out, e) ∧ (e ≠ 0 → out = []) ∧ (e = 0 → FixAll F out ∧ acc <+: out ∧ acc.length < out.length ∧ out[out.length - 1]? = some (x[n]'(by omega)) ∧ out.length ≤ 700)
  | 0, k, i, acc, hi, hkk, hf, ha => by
    obtain ⟨k, rfl⟩ : ∃ m, k = m + 2 := ⟨k - 2, by omega⟩
    obtain rfl : i = n := by omega
    have hlt : i < x.length := by omega
    rw [route_names.l2, if_pos (by omega), if_pos (by omega), if_pos (by omega), rdB hlt, isAirway_f, Option.bind_some, hl, if_neg (by decide), if_pos (by omega), w64 (x := (i : Int) + 1) (by omega) (by omega), route_names.l2, if_neg (by omega)]
    refine ⟨_, 0, rfl, fun h => absurd rfl h, fun _ => ⟨fun s hs => ?_, List.prefix_append _ _, by simp, ?_, by simp; omega⟩⟩
    · rcases List.mem_append.1 hs with hs | hs
      · exact hf s hs
      · obtain rfl := List.mem_singleton.1 hs
        exact hall i hlt hl
    · rw [List.getElem?_append_right (by simp)]
      simp
  | d + 1, k, i, acc, hi, hkk, hf, ha => by
    obtain ⟨k, rfl⟩ : ∃ m, k = m + 1 := ⟨k - 1, by omega⟩
    have hlt : i < x.length := by omega
    rw [route_names.l2, if_pos (by omega), if_pos (by omega), if_pos (by omega), rdB hlt, isAirway_f, Option.bind_some, w64 (x := (i : Int) + 1) (by omega) (by omega)]
    by_cases c : awy L x[i] = true
    · have hi0 : 0 < i := by
        rcases Nat.eq_zero_or_pos i with rfl | h
        · rw [h0 hlt] at c; cases c
        · exact h
      rw [if_pos c, w64 (x := (i : Int) - 1) (by omega) (by omega), if_pos (by omega), if_pos (by omega), if_pos (by omega), if_pos (by omega)]
      obtain ⟨r, e, hr, hz⟩ := between_r hc hk x[i] (rdOf ByteArray.empty x ((i : Int) - 1)) (rdOf ByteArray.empty x ((i : Int) + 1)) k (by omega)
      rw [hr, Option.bind_some]
      dsimp only
      by_cases ce : e = 0
      · obtain ⟨z1, z2, z3⟩ := hz ce
        have hm : 1 ≤ mx 1 ((r.length : Int) - 1) ∧ mx 1 ((r.length : Int) - 1) ≤ (r.length : Int) := by unfold mx; split <;> omega
        rw [if_pos ce, w64 (x := (r.length : Int) - 1) (by omega) (by omega), if_pos hm.1, if_pos hm.2, Option.bind_some]
        generalize hy : (r.take (mx 1 ((r.length : Int) - 1)).toNat).drop 1 = y
        have hyl : y.length ≤ 24 := by rw [← hy, List.length_drop, List.length_take]; omega
        have hyf : FixAll F y := fun s hs => z3 s (by rw [← hy] at hs; exact List.mem_of_mem_take (List.mem_of_mem_drop hs))
        rw [if_pos (by omega), show ((i : Int) + 1) = ((i + 1 : Nat) : Int) by omega]
        obtain ⟨out, e2, g1, g2, g3⟩ := names_l2 hc hk x hx hall h0 n hn hl d k (i + 1) (acc ++ y) (by omega) (by omega) (fun s hs => (List.mem_append.1 hs).elim (hf s) (hyf s)) (by rw [List.length_append]; omega)
        refine ⟨out, e2, g1, g2, fun h => ?_⟩
        obtain ⟨p1, p2, p3, p4, p5⟩ := g3 h
        rw [List.length_append] at p3
        exact ⟨p1, (List.prefix_append _ _).trans p2, by omega, p4, p5⟩
      · rw [if_neg ce]
        exact ⟨_, _, rfl, fun _ => rfl, fun h => absurd h ce⟩
    · have c' : awy L x[i] = false := by simpa using c
      rw [if_neg c, if_pos (by omega), show ((i : Int) + 1) = ((i + 1 : Nat) : Int) by omega]
      obtain ⟨out, e2, g1, g2, g3⟩ := names_l2 hc hk x hx hall h0 n hn hl d k (i + 1) (acc ++ [x[i]]) (by omega) (by omega) (fun s hs => by
        rcases List.mem_append.1 hs with hs | hs
        · exact hf s hs
        · obtain rfl := List.mem_singleton.1 hs
          exact hall i hlt c') (by simp; omega)
      refine ⟨out, e2, g1, g2, fun h => ?_⟩
      obtain ⟨p1, p2, p3, p4, p5⟩ := g3 h
      rw [List.length_append] at p3
      exact ⟨p1, (List.prefix_append _ _).trans p2, by omega, p4, p5⟩
theorem names_l1 (F : List Fx) (L : List Aw) (x : List ByteArray) (hx : x.length ≤ 26) : ∀ (d k i : Nat), i + d = x.length → 1 ≤ i → d < k →
    (∃ e, e ≠ 0 ∧ route_names.l1 k x (i : Int) F L = some ([], e)) ∨ ∃ q, k ≤ q + d + 1 ∧ route_names.l1 k x (i : Int) F L = route_names.l2 q x [] x (x.length : Int) 0 F L
  | 0, k, i, hi, h1, hk => by
    obtain ⟨k, rfl⟩ : ∃ m, k = m + 1 := ⟨k - 1, by omega⟩
    right
    exact ⟨k, by omega, by rw [route_names.l1, if_neg (by omega)]⟩
  | d + 1, k, i, hi, h1, hk => by
    obtain ⟨k, rfl⟩ : ∃ m, k = m + 1 := ⟨k - 1, by omega⟩
    have ih := names_l1 F L x hx d k (i + 1) (by omega) (by omega) (by omega)
    have fin : (∃ e, e ≠ 0 ∧ route_names.l1 k x ((i + 1 : Nat) : Int) F L = some ([], e)) ∨ ∃ q, k + 1 ≤ q + (d + 1) + 1 ∧ route_names.l1 k x ((i + 1 : Nat) : Int) F L = route_names.l2 q x [] x (x.length : Int) 0 F L := ih.imp id (fun ⟨q, h1, h2⟩ => ⟨q, by omega, h2⟩)
    rw [route_names.l1, if_pos (by omega), w64 (x := (i : Int) - 1) (by omega) (by omega), if_pos (by omega), if_pos (by omega), isAirway_f, isAirway_f, Option.bind_some, w64 (x := (i : Int) + 1) (by omega) (by omega), show ((i : Int) + 1) = ((i + 1 : Nat) : Int) by omega]
    split
    · rw [if_pos (by omega), Option.bind_some]
      split
      · left; exact ⟨3, by decide, rfl⟩
      · exact fin
    · exact fin
theorem names_l0 (F : List Fx) (L : List Aw) (x : List ByteArray) (hx : x.length ≤ 26) : ∀ (d k i : Nat), i + d = x.length → d + 30 < k → (∀ j (h : j < x.length), j < i → awy L x[j] = false → 0 ≤ fx F x[j]) →
    (∃ e, e ≠ 0 ∧ route_names.l0 k x x (x.length : Int) (i : Int) F L = some ([], e)) ∨ ((∀ j (h : j < x.length), awy L x[j] = false → 0 ≤ fx F x[j]) ∧ ∃ q, k ≤ q + d + 1 ∧ route_names.l0 k x x (x.length : Int) (i : Int) F L = route_names.l1 q x 1 F L)
  | 0, k, i, hi, hk, hb => by
    obtain ⟨k, rfl⟩ : ∃ m, k = m + 1 := ⟨k - 1, by omega⟩
    right
    exact ⟨fun j h => hb j h (by omega), k, by omega, by rw [route_names.l0, if_neg (by omega)]⟩
  | d + 1, k, i, hi, hk, hb => by
    obtain ⟨k, rfl⟩ : ∃ m, k = m + 1 := ⟨k - 1, by omega⟩
    have hlt : i < x.length := by omega
    have step : (awy L x[i] = false → 0 ≤ fx F x[i]) → (∃ e, e ≠ 0 ∧ route_names.l0 k x x (x.length : Int) ((i + 1 : Nat) : Int) F L = some ([], e)) ∨ ((∀ j (h : j < x.length), awy L x[j] = false → 0 ≤ fx F x[j]) ∧ ∃ q, k + 1 ≤ q + (d + 1) + 1 ∧ route_names.l0 k x x (x.length : Int) ((i + 1 : Nat) : Int) F L = route_names.l1 q x 1 F L) := fun h => by
      refine (names_l0 F L x hx d k (i + 1) (by omega) (by omega) (fun j hj hji => ?_)).imp id (fun ⟨h0, q, h1, h2⟩ => ⟨h0, q, by omega, h2⟩)
      by_cases c : j = i
      · subst c; exact h
      · exact hb j hj (by omega)
    rw [route_names.l0, if_pos (by omega), if_pos (by omega), if_pos (by omega), rdB hlt, isFix_f, isAirway_f, Option.bind_some, Option.bind_some, w64 (x := (i : Int) + 1) (by omega) (by omega), show ((i : Int) + 1) = ((i + 1 : Nat) : Int) by omega]
    by_cases c : 0 ≤ fx F x[i]
    · rw [if_pos (decide_eq_true c)]
      exact step (fun _ => c)
    · rw [if_neg (by rw [decide_eq_false c]; decide)]
      by_cases c2 : awy L x[i] = true
      · rw [if_pos c2]
        exact step (fun h => by rw [c2] at h; cases h)
      · rw [if_neg c2]
        left; exact ⟨6, by decide, rfl⟩
theorem names_f {F : List Fx} {L : List Aw} (hc : ChOk F L) (hk : ∀ k, 250 ≤ k → chart_Check.f k F L = some 0) (a b : ByteArray) (r : List ByteArray) (hr : r.length ≤ 24) (ha : 0 ≤ fx F a) (hb : 0 ≤ fx F b) (k : Nat) (hk4 : 400 ≤ k) :
    ∃ out e, route_names.f k (a :: (r ++ [b])) F L = some (out, e) ∧ (e ≠ 0 → out = []) ∧ (e = 0 → FixAll F out ∧ 2 ≤ out.length ∧ out.length ≤ 700 ∧ out[0]? = some a ∧ out[out.length - 1]? = some b) := by
  have hx : (a :: (r ++ [b])).length = r.length + 2 := by simp
  have hlast : ∀ h : r.length + 1 < (a :: (r ++ [b])).length, (a :: (r ++ [b]))[r.length + 1] = b := fun h => by simp
  unfold route_names.f
  generalize hX : a :: (r ++ [b]) = x at *
  have h00 : ∀ h : 0 < x.length, x[0] = a := fun h => by subst hX; rfl
  rcases names_l0 F L x (by omega) x.length k 0 (by omega) (by omega) (fun j h h0 => absurd h0 (Nat.not_lt_zero _)) with ⟨e, he, h⟩ | ⟨hall, q, hq, h⟩
  · rw [show ((0 : Nat) : Int) = 0 from rfl] at h
    exact ⟨[], e, h, fun _ => rfl, fun h0 => absurd h0 he⟩
  rw [show ((0 : Nat) : Int) = 0 from rfl] at h
  rw [h]
  rcases names_l1 F L x (by omega) (x.length - 1) q 1 (by omega) (by omega) (by omega) with ⟨e, he, h⟩ | ⟨q2, hq2, h⟩
  · rw [show ((1 : Nat) : Int) = 1 from rfl] at h
    exact ⟨[], e, h, fun _ => rfl, fun h0 => absurd h0 he⟩
  rw [show ((1 : Nat) : Int) = 1 from rfl] at h
  rw [h]
  obtain ⟨q2, rfl⟩ : ∃ m, q2 = m + 1 := ⟨q2 - 1, by omega⟩
  have hA := fix_awy hc ha
  have h0 : ∀ h : 0 < x.length, awy L x[0] = false := fun h => by rw [h00 h]; exact hA
  have hL : awy L (x[r.length + 1]'(by omega)) = false := by rw [hlast]; exact fix_awy hc hb
  rw [route_names.l2, if_pos (by omega), if_pos (by omega), if_pos (by omega), show (0 : Int) = ((0 : Nat) : Int) from rfl, rdB (show 0 < x.length by omega), isAirway_f, Option.bind_some, h0 (by omega), if_neg (by decide), if_pos (by simp), w64 (by omega) (by omega), show (((0 : Nat) : Int) + 1) = ((1 : Nat) : Int) from rfl, List.nil_append, h00 (by omega)]
  obtain ⟨out, e, g1, g2, g3⟩ := names_l2 hc hk x (by omega) hall h0 (r.length + 1) (by omega) hL r.length q2 1 [a] (by omega) (by omega) (fun s hs => by obtain rfl := List.mem_singleton.1 hs; exact ha) (by simp)
  refine ⟨out, e, g1, g2, fun h => ?_⟩
  obtain ⟨p1, p2, p3, p4, p5⟩ := g3 h
  rw [List.length_singleton] at p3
  refine ⟨p1, by omega, p5, ?_, by rw [p4, hlast]⟩
  obtain ⟨t, rfl⟩ := p2
  rfl
theorem expand_l {F : List Fx} {L : List Aw} (l : List ByteArray) (hl : l.length ≤ 700) (hf : FixAll F l) : ∀ (d k i : Nat), i + d = l.length → d < k →
    ∃ r e, route_Expand.l0 k ((l.take i).map (fixOf F)) l (l.length : Int) (i : Int) F L = some (r, e) ∧ (e ≠ 0 → r = []) ∧
      (e = 0 → r = l.map (fixOf F) ∧ l.length ≤ 62 ∧ ∀ j (h : j + 1 < l.length), i ≤ j + 1 → 0 < j + 1 → (fixOf F l[j]).f1 ≠ (fixOf F l[j + 1]).f1)
  | 0, k, i, hi, hk => by
    obtain ⟨k, rfl⟩ : ∃ m, k = m + 1 := ⟨k - 1, by omega⟩
    rw [route_Expand.l0, if_neg (by omega), List.take_of_length_le (by omega), List.length_map]
    split
    · exact ⟨_, _, rfl, fun _ => rfl, fun h => absurd h (by decide)⟩
    · exact ⟨_, _, rfl, fun h => absurd rfl h, fun _ => ⟨rfl, by omega, fun j h1 h2 _ => by omega⟩⟩
  | d + 1, k, i, hi, hk => by
    obtain ⟨k, rfl⟩ : ∃ m, k = m + 1 := ⟨k - 1, by omega⟩
    have hlt : i < l.length := by omega
    have h0 := hf _ (List.getElem_mem hlt)
    have hr := fx_range F l[i]
    obtain ⟨r, e, g1, g2, g3⟩ := expand_l (L := L) l hl hf d k (i + 1) (by omega) (by omega)
    have hidx : api_Fix_37.f F (route_Expand_1.p l[i]) = some (fx F l[i]) := rfl
    have hx : ((l.take i).map (fixOf F)).length = i := by rw [List.length_map, List.length_take]; omega
    have hap : (l.take i).map (fixOf F) ++ [(⟨(rd_T84 F (fx F l[i])).f0, (⟨(rd_T84 F (fx F l[i])).f1.f0, (rd_T84 F (fx F l[i])).f1.f1⟩ : S54)⟩ : Fx)] = (l.take (i + 1)).map (fixOf F) := by
      rw [List.take_succ_eq_append_getElem hlt, List.map_append]
      rfl
    rw [route_Expand.l0, if_pos (by omega), if_pos (by omega), if_pos (by omega), rdB hlt, hidx, Option.bind_some, w64 (x := (i : Int) + 1) (by omega) (by omega), show ((i : Int) + 1) = ((i + 1 : Nat) : Int) by omega]
    by_cases c : (i : Int) > 0
    · have hj : i - 1 < ((l.take i).map (fixOf F)).length := by rw [hx]; omega
      have hprev : rd_T84 ((l.take i).map (fixOf F)) ((i : Int) - 1) = fixOf F l[i - 1] := by
        rw [show ((i : Int) - 1) = ((i - 1 : Nat) : Int) by omega, rdX hj, List.getElem_map, List.getElem_take]
      rw [if_pos c, w64 (x := (i : Int) - 1) (by omega) (by omega), if_pos (by omega), if_pos (by rw [hx]; omega), hprev, if_pos h0, if_pos (by omega)]
      split
      · exact ⟨_, _, rfl, fun _ => rfl, fun h => absurd h (by decide)⟩
      · rename_i hne
        rw [if_pos (by rw [hx]; omega), hap]
        refine ⟨r, e, g1, g2, fun h => ?_⟩
        obtain ⟨p1, p2, p3⟩ := g3 h
        refine ⟨p1, p2, fun j hj1 hj2 hj3 => ?_⟩
        by_cases cj : j + 1 = i
        · subst cj
          intro heq
          apply hne
          rw [show fixOf F l[j + 1 - 1] = fixOf F l[j] from rfl, show rd_T84 F (fx F l[j + 1]) = fixOf F l[j + 1] from rfl, heq]
          simp
        · exact p3 j hj1 (by omega) hj3
    · rw [if_neg c, if_pos h0, if_pos (by omega), if_pos (by rw [hx]; omega), hap]
      refine ⟨r, e, g1, g2, fun h => ?_⟩
      obtain ⟨p1, p2, p3⟩ := g3 h
      exact ⟨p1, p2, fun j hj1 hj2 hj3 => p3 j hj1 (by omega) hj3⟩
theorem plan_j2 (k : Nat) (x : Bool) (a b c d : ByteArray) (t s h : Int) (r : List ByteArray) : ∃ e, plantext_Check.j2 (k + 1) x a b c d t s h r = some e ∧ (e = 0 → r.length ≤ 24) := by
  rw [plantext_Check.j2]
  by_cases c0 : x = true
  · rw [if_pos c0]; exact ⟨_, rfl, fun h => absurd h (by decide)⟩
  rw [if_neg c0]
  by_cases c1 : (r.length : Int) > 24
  · rw [if_pos c1]; exact ⟨_, rfl, fun h => absurd h (by decide)⟩
  rw [if_neg c1]
  unfold slices_ContainsFunc_string_string.f
  rw [Option.bind_some]
  split
  · exact ⟨_, rfl, fun h => absurd h (by decide)⟩
  · exact ⟨_, rfl, fun _ => by omega⟩
theorem plan_j1 (k : Nat) (x : Bool) (a b c d : ByteArray) (t s h : Int) (r : List ByteArray) : ∃ e, plantext_Check.j1 (k + 2) x a b c d t s h r = some e ∧ (e = 0 → r.length ≤ 24) := by
  rw [plantext_Check.j1]
  split
  · exact ⟨_, rfl, fun h => absurd h (by decide)⟩
  (repeat' split) <;> exact plan_j2 _ _ _ _ _ _ _ _ _ _
theorem plan_l0 (v : List ByteArray) (hv : v.length ≤ 4) (a b c d' : ByteArray) (t s h : Int) (r : List ByteArray) : ∀ (d k i : Nat), i + d = v.length → d + 30 ≤ k → ∃ e, plantext_Check.l0 k v (v.length : Int) (i : Int) a b c d' t s h r = some e ∧ (e = 0 → r.length ≤ 24)
  | 0, k, i, hi, hk => by
    obtain ⟨k, rfl⟩ : ∃ m, k = m + 3 := ⟨k - 3, by omega⟩
    rw [plantext_Check.l0, if_neg (by omega)]
    split <;> exact plan_j1 _ _ _ _ _ _ _ _ _ _
  | d + 1, k, i, hi, hk => by
    obtain ⟨k, rfl⟩ : ∃ m, k = m + 1 := ⟨k - 1, by omega⟩
    obtain ⟨bn, hb⟩ := name_some v[i] k (by omega)
    rw [plantext_Check.l0, if_pos (by omega), if_pos (by omega), if_pos (by omega), rdB (show i < v.length by omega), hb, Option.bind_some, w64 (x := (i : Int) + 1) (by omega) (by omega), show ((i : Int) + 1) = ((i + 1 : Nat) : Int) by omega]
    split
    · exact plan_l0 v hv a b c d' t s h r d k (i + 1) (by omega) (by omega)
    · exact ⟨_, rfl, fun h => absurd h (by decide)⟩
theorem plan_f (a b c d : ByteArray) (t s h : Int) (r : List ByteArray) (k : Nat) (hk : 40 ≤ k) : ∃ e, plantext_Check.f k a b c d t s h r = some e ∧ (e = 0 → r.length ≤ 24) := by
  unfold plantext_Check.f
  rw [Option.bind_some]
  exact plan_l0 [a, b, c, d] (by simp) a b c d t s h r 4 k 0 (by simp) (by omega)
theorem concat_f (a b : ByteArray) (r : List ByteArray) (hr : r.length ≤ 24) (k : Nat) (hk : 10 ≤ k) : slices_Concat_string_string.f k [[a], r, [b]] = some (a :: (r ++ [b])) := by
  obtain ⟨k, rfl⟩ : ∃ m, k = m + 10 := ⟨k - 10, by omega⟩
  have g0 : rd_L5 [[a], r, [b]] 0 = [a] := rfl
  have g1 : rd_L5 [[a], r, [b]] 1 = r := rfl
  have g2 : rd_L5 [[a], r, [b]] 2 = [b] := rfl
  have len : (([[a], r, [b]] : List (List ByteArray)).length : Int) = 3 := rfl
  have w1 : wrap64 (0 + 1) = 1 := w64 (by decide) (by decide)
  have w2 : wrap64 (1 + 1) = 2 := w64 (by decide) (by decide)
  have w3 : wrap64 (2 + 1) = 3 := w64 (by decide) (by decide)
  have s1 : wrap64 (0 + (([a] : List ByteArray).length : Int)) = 1 := by rw [w64 (by simp) (by simp)]; simp
  have s2 : wrap64 (1 + (r.length : Int)) = 1 + (r.length : Int) := w64 (by omega) (by omega)
  have s3 : wrap64 (1 + (r.length : Int) + (([b] : List ByteArray).length : Int)) = 2 + (r.length : Int) := by rw [w64 (by simp; omega) (by simp; omega)]; simp; omega
  unfold slices_Concat_string_string.f
  rw [len, slices_Concat_string_string.l0, if_pos (by decide), if_pos (by decide), len, if_pos (by decide), g0, s1, if_neg (by decide), w1]
  rw [slices_Concat_string_string.l0, if_pos (by decide), if_pos (by decide), len, if_pos (by decide), g1, s2, if_neg (by omega), w2]
  rw [slices_Concat_string_string.l0, if_pos (by decide), if_pos (by decide), len, if_pos (by decide), g2, s3, if_neg (by omega), w3]
  rw [slices_Concat_string_string.l0, if_neg (by decide)]
  unfold slices_Grow_string_string.f
  rw [if_pos ⟨rfl, by omega, by omega⟩, Option.bind_some, len]
  rw [slices_Concat_string_string.l1, if_pos (by decide), if_pos (by decide), len, if_pos (by decide), g0, if_pos (by simp), w1]
  rw [slices_Concat_string_string.l1, if_pos (by decide), if_pos (by decide), len, if_pos (by decide), g1, if_pos (by simp; omega), w2]
  rw [slices_Concat_string_string.l1, if_pos (by decide), if_pos (by decide), len, if_pos (by decide), g2, if_pos (by simp; omega), w3]
  rw [slices_Concat_string_string.l1, if_neg (by decide)]
  simp
theorem expand_g (a b c d : ByteArray) (t s h : Int) (r : List ByteArray) (F : List Fx) (L : List Aw) (k : Nat) (hk : 1500 ≤ k) :
    ∃ e, (e ≠ 0 ∧ route_Expand.f (k + 1) a b c d t s h r F L = some ([], e)) ∨ (e = 0 ∧ ChOk F L ∧ (∀ k, 250 ≤ k → chart_Check.f k F L = some 0) ∧ ∃ l, FixAll F l ∧ 2 ≤ l.length ∧ l.length ≤ 62 ∧ l[0]? = some c ∧ l[l.length - 1]? = some d ∧ plantext_Check.f (k + 1) a b c d t s h r = some 0 ∧ route_Expand.l0 k [] l (l.length : Int) 0 F L = some (l.map (fixOf F), 0) ∧ route_Expand.f (k + 1) a b c d t s h r F L = some (l.map (fixOf F), 0)) := by
  obtain ⟨e1, p1, p2⟩ := plan_f a b c d t s h r (k + 1) (by omega)
  obtain ⟨e2, q1, q2⟩ := chk2 F L
  have bad : route_Expand.j0 (k + 1) true a b c d t s h r F L = some ([], 6) := by rw [route_Expand.j0, if_pos rfl]
  unfold route_Expand.f
  rw [p1, Option.bind_some]
  by_cases c1 : e1 = 0
  · rw [if_pos c1, q1 _ (by omega), Option.bind_some]
    by_cases c2 : e2 = 0
    · subst c2
      have hc := q2 rfl
      rw [if_pos rfl, isFix_f, isFix_f, Option.bind_some, Option.bind_some]
      by_cases f1 : 0 ≤ fx F c
      · rw [if_pos (decide_eq_true f1)]
        by_cases f2 : 0 ≤ fx F d
        · rw [decide_eq_true f2, Bool.not_true, route_Expand.j0, if_neg (by decide), concat_f c d r (p2 c1) k (by omega), Option.bind_some]
          obtain ⟨l, e, n1, n2, n3⟩ := names_f hc q1 c d r (p2 c1) f1 f2 k (by omega)
          rw [n1, Option.bind_some]
          dsimp only
          by_cases c3 : e = 0
          · rw [if_pos c3]
            obtain ⟨m1, m2, m3, m4, m5⟩ := n3 c3
            obtain ⟨r', e', g1, g2, g3⟩ := expand_l (L := L) l m3 m1 l.length k 0 (by omega) (by omega)
            rw [List.take_zero, List.map_nil, show ((0 : Nat) : Int) = 0 from rfl] at g1
            rw [g1]
            by_cases c4 : e' = 0
            · obtain ⟨o1, o2, o3⟩ := g3 c4
              subst c4
              exact ⟨0, .inr ⟨rfl, hc, q1, l, m1, m2, o2, m4, m5, by rw [c1], by rw [g1, o1], by rw [o1]⟩⟩
            · exact ⟨e', .inl ⟨c4, by rw [g2 c4]⟩⟩
          · rw [if_neg c3]
            exact ⟨e, .inl ⟨c3, rfl⟩⟩
        · rw [decide_eq_false f2]
          exact ⟨6, .inl ⟨by decide, bad⟩⟩
      · rw [if_neg (by rw [decide_eq_false f1]; decide)]
        exact ⟨6, .inl ⟨by decide, bad⟩⟩
    · rw [if_neg c2]
      exact ⟨e2, .inl ⟨c2, rfl⟩⟩
  · rw [if_neg c1]
    exact ⟨e1, .inl ⟨c1, rfl⟩⟩
abbrev Nn : Type := S56
abbrev Pp : Type := S54
def At (l : List Fx) (i : Nat) : Pp := (rd_T84 l (i : Int)).f1
theorem name_all (s : ByteArray) : ∃ b, ∀ k, 20 ≤ k → chart_Name.f k s = some b := by
  obtain ⟨b, hb⟩ := name_some s 20 (by decide)
  exact ⟨b, fun k hk => at_rounds (chart_Name.mono s) hk hb⟩
def acc (b : Bool) (wk ce cl de sl fa : Int) : Int :=
  if b = true then (if wk < 0 ∨ wk > 3 then 1 else if ce < 1 ∨ ce > 60000 ∨ cl < 1 ∨ cl > 200 ∨ de < 1 ∨ de > 200 then 4 else if sl < 1 ∨ sl > 400 ∨ fa < 1 ∨ fa > 400 then 4 else if sl > fa then 3 else 0) else 5
theorem acc_zero {b : Bool} {wk ce cl de sl fa : Int} (h : acc b wk ce cl de sl fa = 0) : b = true ∧ 0 ≤ wk ∧ wk ≤ 3 ∧ 1 ≤ ce ∧ ce ≤ 60000 ∧ 1 ≤ cl ∧ cl ≤ 200 ∧ 1 ≤ de ∧ de ≤ 200 ∧ 1 ≤ sl ∧ sl ≤ fa ∧ fa ≤ 400 := by
  unfold acc at h
  cases b
  · simp at h
  · simp only [if_true] at h
    by_cases c1 : wk < 0 ∨ wk > 3
    · rw [if_pos c1] at h; omega
    rw [if_neg c1] at h
    by_cases c2 : ce < 1 ∨ ce > 60000 ∨ cl < 1 ∨ cl > 200 ∨ de < 1 ∨ de > 200
    · rw [if_pos c2] at h; omega
    rw [if_neg c2] at h
    by_cases c3 : sl < 1 ∨ sl > 400 ∨ fa < 1 ∨ fa > 400
    · rw [if_pos c3] at h; omega
    rw [if_neg c3] at h
    by_cases c4 : sl > fa
    · rw [if_pos c4] at h; omega
    exact ⟨rfl, by omega, by omega, by omega, by omega, by omega, by omega, by omega, by omega, by omega, by omega, by omega⟩
theorem check_k (s : ByteArray) (wk ce cl de sl fa : Int) : ∃ b, ∀ k, 20 ≤ k → aircraft_Check.f k s wk ce cl de sl fa = some (acc b wk ce cl de sl fa) := by
  obtain ⟨b, hb⟩ := name_all s
  refine ⟨b, fun k hk => ?_⟩
  obtain ⟨k, rfl⟩ : ∃ m, k = m + 4 := ⟨k - 4, by omega⟩
  unfold aircraft_Check.f acc
  rw [hb _ (by omega), Option.bind_some]
  cases b
  · rfl
  rw [if_pos rfl, if_pos rfl]
  have j3 : ∀ k x, aircraft_Check.j3 (k + 1) x s wk ce cl de sl fa = some (if x = true then 4 else if sl > fa then 3 else 0) := by
    intro k x; rw [aircraft_Check.j3]; (repeat' split) <;> rfl
  have j2 : ∀ k x, aircraft_Check.j2 (k + 2) x s wk ce cl de sl fa = some (if x = true then 4 else if sl < 1 ∨ sl > 400 ∨ fa < 1 ∨ fa > 400 then 4 else if sl > fa then 3 else 0) := by
    intro k x
    rw [aircraft_Check.j2]
    simp only [j3]
    cases x
    · by_cases c1 : sl < 1 <;> by_cases c2 : sl > 400 <;> by_cases c3 : fa < 1 <;> by_cases c4 : fa > 400 <;> simp [c1, c2, c3, c4]
    · simp
  have j1 : ∀ k x, aircraft_Check.j1 (k + 3) x s wk ce cl de sl fa = some (if x = true ∨ cl < 1 ∨ cl > 200 ∨ de < 1 ∨ de > 200 then 4 else if sl < 1 ∨ sl > 400 ∨ fa < 1 ∨ fa > 400 then 4 else if sl > fa then 3 else 0) := by
    intro k x
    rw [aircraft_Check.j1]
    simp only [j2]
    cases x
    · by_cases c1 : cl < 1 <;> by_cases c2 : cl > 200 <;> by_cases c3 : de < 1 <;> by_cases c4 : de > 200 <;> simp [c1, c2, c3, c4]
    · simp
  have j0 : ∀ x, aircraft_Check.j0 (k + 4) x s wk ce cl de sl fa = some (if x = true then 1 else if ce < 1 ∨ ce > 60000 ∨ cl < 1 ∨ cl > 200 ∨ de < 1 ∨ de > 200 then 4 else if sl < 1 ∨ sl > 400 ∨ fa < 1 ∨ fa > 400 then 4 else if sl > fa then 3 else 0) := by
    intro x
    rw [aircraft_Check.j0]
    simp only [j1]
    cases x
    · by_cases c1 : ce < 1 <;> by_cases c2 : ce > 60000 <;> simp [c1, c2]
    · simp
  simp only [j0]
  by_cases c1 : wk < 0 <;> by_cases c2 : wk > 3 <;> simp [c1, c2]
theorem pz2 {a b c d : ByteArray} {t s h : Int} {r : List ByteArray} : ∀ (k : Nat) (x : Bool), plantext_Check.j2 k x a b c d t s h r = some 0 → x = false
  | 0, x, h0 => by rw [plantext_Check.j2] at h0; cases h0
  | k + 1, x, h0 => by
    rw [plantext_Check.j2] at h0
    cases x
    · rfl
    · rw [if_pos rfl] at h0; cases h0
theorem pz1 {a b c d : ByteArray} {t s h : Int} {r : List ByteArray} : ∀ (k : Nat) (x : Bool), plantext_Check.j1 k x a b c d t s h r = some 0 → x = false ∧ (1 ≤ s ∧ s ≤ 400) ∧ 1 ≤ h ∧ h ≤ 60000
  | 0, x, h0 => by rw [plantext_Check.j1] at h0; cases h0
  | k + 1, x, h0 => by
    rw [plantext_Check.j1] at h0
    by_cases c0 : x = true
    · rw [if_pos c0] at h0; cases h0
    rw [if_neg c0] at h0
    by_cases c1 : s < 1
    · rw [if_pos c1] at h0; cases pz2 _ _ h0
    rw [if_neg c1] at h0
    by_cases c2 : s > 400
    · rw [if_pos c2] at h0; cases pz2 _ _ h0
    rw [if_neg c2] at h0
    by_cases c3 : h < 1
    · rw [if_pos c3] at h0; cases pz2 _ _ h0
    rw [if_neg c3] at h0
    have := of_decide_eq_false (pz2 _ _ h0)
    refine ⟨?_, by omega, by omega⟩
    cases x
    · rfl
    · exact absurd rfl c0
theorem pzl {a b c d : ByteArray} {t s h : Int} {r : List ByteArray} : ∀ (k : Nat) (v : List ByteArray) (n i : Int), plantext_Check.l0 k v n i a b c d t s h r = some 0 → (0 ≤ t ∧ t ≤ 200000) ∧ (1 ≤ s ∧ s ≤ 400) ∧ 1 ≤ h ∧ h ≤ 60000
  | 0, v, n, i, h0 => by rw [plantext_Check.l0] at h0; cases h0
  | k + 1, v, n, i, h0 => by
    rw [plantext_Check.l0] at h0
    by_cases c0 : i < n
    · rw [if_pos c0] at h0
      by_cases c1 : 0 ≤ i
      · rw [if_pos c1] at h0
        by_cases c2 : i < (v.length : Int)
        · rw [if_pos c2] at h0
          cases hb : chart_Name.f k (rdOf ByteArray.empty v i) with
          | none => rw [hb] at h0; cases h0
          | some b =>
            rw [hb, Option.bind_some] at h0
            by_cases c3 : b = true
            · rw [if_pos c3] at h0; exact pzl k v n _ h0
            · rw [if_neg c3] at h0; cases h0
        · rw [if_neg c2] at h0; cases h0
      · rw [if_neg c1] at h0; cases h0
    · rw [if_neg c0] at h0
      by_cases c1 : t < 0
      · rw [if_pos c1] at h0; cases (pz1 _ _ h0).1
      · rw [if_neg c1] at h0
        obtain ⟨g1, g2⟩ := pz1 _ _ h0
        have := of_decide_eq_false g1
        exact ⟨⟨by omega, by omega⟩, g2⟩
theorem plan_all (a b c d : ByteArray) (t s h : Int) (r : List ByteArray) : ∃ e, (∀ k, 40 ≤ k → plantext_Check.f k a b c d t s h r = some e) ∧ (e = 0 → (0 ≤ t ∧ t ≤ 200000) ∧ (1 ≤ s ∧ s ≤ 400) ∧ 1 ≤ h ∧ h ≤ 60000) := by
  obtain ⟨e, he, _⟩ := plan_f a b c d t s h r 40 (Nat.le_refl _)
  refine ⟨e, fun k hk => at_rounds (fun q => plantext_Check.mono _ _ _ _ _ _ _ _ q) hk he, fun h0 => ?_⟩
  rw [h0] at he
  unfold plantext_Check.f at he
  rw [Option.bind_some] at he
  exact pzl _ _ _ _ he
def Gd (off sp ht : Int) (bn : Bool) (wk ce cl de sl fa : Int) (w : List Bd) : Prop := (0 ≤ off ∧ off ≤ 200000) ∧ (1 ≤ sp ∧ sp ≤ 400) ∧ (1 ≤ ht ∧ ht ≤ 60000) ∧ ht ≤ ce ∧ acc bn wk ce cl de sl fa = 0 ∧ (∀ k, 60 ≤ k → wind_Check.f k w = some 0)
theorem fc_l0 (a b c d : ByteArray) (off sp ht : Int) (rt : List ByteArray) (nm : ByteArray) (wk ce cl de sl fa : Int) (l : List Fx) (w : List Bd) (hl : l.length ≤ 62) {bn : Bool} (hc : ∀ k, 20 ≤ k → aircraft_Check.f k nm wk ce cl de sl fa = some (acc bn wk ce cl de sl fa)) : ∀ (n i : Nat), i + n = l.length →
    ∃ e, Ev (fun k => fly_check.l0 k w l (l.length : Int) (i : Int) a b c d off sp ht rt nm wk ce cl de sl fa) e ∧ (e = 0 → (∀ j, i ≤ j → j < l.length → Ok (At l j).f0 (At l j).f1) ∧ Gd off sp ht bn wk ce cl de sl fa w)
  | 0, i, hi => by
    obtain ⟨e1, h1, z1⟩ := plan_all a b c d off sp ht rt
    obtain ⟨e2, h2, z2⟩ := wcheck_all w
    have hst : ∀ k, fly_check.l0 (k + 1) w l (l.length : Int) (i : Int) a b c d off sp ht rt nm wk ce cl de sl fa = (plantext_Check.f k a b c d off sp ht rt).bind fun t305 => if t305 = 0 then ((aircraft_Check.f k nm wk ce cl de sl fa).bind fun t306 => if t306 = 0 then (if ht > ce then some 20 else if sp < sl then some 4 else if sp > fa then some 4 else (wind_Check.f k w).bind fun t => some t) else some t306) else some t305 := by
      intro k
      rw [fly_check.l0, if_neg (by omega)]
    by_cases c1 : e1 = 0
    rotate_left
    · exact ⟨e1, Ev.succ hst (Ev.bind ⟨40, h1⟩ (Ev.neg c1 (Ev.some _))), fun h => absurd h c1⟩
    by_cases c2 : acc bn wk ce cl de sl fa = 0
    rotate_left
    · exact ⟨_, Ev.succ hst (Ev.bind ⟨40, h1⟩ (Ev.pos c1 (Ev.bind ⟨20, hc⟩ (Ev.neg c2 (Ev.some _))))), fun h => absurd h c2⟩
    by_cases c3 : ht > ce
    · exact ⟨20, Ev.succ hst (Ev.bind ⟨40, h1⟩ (Ev.pos c1 (Ev.bind ⟨20, hc⟩ (Ev.pos c2 (Ev.pos c3 (Ev.some _)))))), fun h => absurd h (by decide)⟩
    by_cases c4 : sp < sl
    · exact ⟨4, Ev.succ hst (Ev.bind ⟨40, h1⟩ (Ev.pos c1 (Ev.bind ⟨20, hc⟩ (Ev.pos c2 (Ev.neg c3 (Ev.pos c4 (Ev.some _))))))), fun h => absurd h (by decide)⟩
    by_cases c5 : sp > fa
    · exact ⟨4, Ev.succ hst (Ev.bind ⟨40, h1⟩ (Ev.pos c1 (Ev.bind ⟨20, hc⟩ (Ev.pos c2 (Ev.neg c3 (Ev.neg c4 (Ev.pos c5 (Ev.some _)))))))), fun h => absurd h (by decide)⟩
    refine ⟨e2, Ev.succ hst (Ev.bind ⟨40, h1⟩ (Ev.pos c1 (Ev.bind ⟨20, hc⟩ (Ev.pos c2 (Ev.neg c3 (Ev.neg c4 (Ev.neg c5 (Ev.bind ⟨60, h2⟩ (Ev.some _))))))))), fun h => ⟨fun j g1 g2 => by omega, ?_⟩⟩
    rw [h] at h2
    obtain ⟨p1, p2, p3⟩ := z1 c1
    exact ⟨p1, p2, p3, by omega, c2, h2⟩
  | n + 1, i, hi => by
    have hst : ∀ k, fly_check.l0 (k + 1) w l (l.length : Int) (i : Int) a b c d off sp ht rt nm wk ce cl de sl fa = if Ok (At l i).f0 (At l i).f1 then fly_check.l0 k w l (l.length : Int) ((i + 1 : Nat) : Int) a b c d off sp ht rt nm wk ce cl de sl fa else some 4 := by
      intro k
      have e : (i : Int) + 1 = ((i + 1 : Nat) : Int) := by omega
      rw [fly_check.l0, if_pos (by omega), if_pos (by omega), if_pos (by omega), check_f, Option.bind_some, w64 (x := (i : Int) + 1) (by omega) (by omega), e]
      show (if (if Ok (At l i).f0 (At l i).f1 then (0 : Int) else 4) = 0 then _ else some (if Ok (At l i).f0 (At l i).f1 then (0 : Int) else 4)) = _
      by_cases c : Ok (At l i).f0 (At l i).f1
      · rw [if_pos c, if_pos rfl, if_pos c]
      · rw [if_neg c, if_neg (by decide), if_neg c]
    by_cases cc : Ok (At l i).f0 (At l i).f1
    · obtain ⟨e, he, hz⟩ := fc_l0 a b c d off sp ht rt nm wk ce cl de sl fa l w hl hc n (i + 1) (by omega)
      refine ⟨e, Ev.succ hst (Ev.pos cc he), fun h => ⟨fun j g1 g2 => ?_, (hz h).2⟩⟩
      by_cases ej : j = i
      · rw [ej]; exact cc
      · exact (hz h).1 j (by omega) g2
    · exact ⟨4, Ev.succ hst (Ev.neg cc (Ev.some _)), fun h => absurd h (by decide)⟩
theorem fc_f (a b c d : ByteArray) (off sp ht : Int) (rt : List ByteArray) (nm : ByteArray) (wk ce cl de sl fa : Int) (l : List Fx) (w : List Bd) {bn : Bool} (hc : ∀ k, 20 ≤ k → aircraft_Check.f k nm wk ce cl de sl fa = some (acc bn wk ce cl de sl fa)) :
    ∃ e, Ev (fun k => fly_check.f k l a b c d off sp ht rt nm wk ce cl de sl fa w) e ∧ (e = 0 → 2 ≤ l.length ∧ l.length ≤ 62 ∧ (∀ j, j < l.length → Ok (At l j).f0 (At l j).f1) ∧ Gd off sp ht bn wk ce cl de sl fa w) := by
  unfold fly_check.f
  by_cases c1 : (l.length : Int) < 2
  · exact ⟨3, Ev.pos c1 (Ev.some _), fun h => absurd h (by decide)⟩
  by_cases c2 : (l.length : Int) > 62
  · exact ⟨2, Ev.neg c1 (Ev.pos c2 (Ev.some _)), fun h => absurd h (by decide)⟩
  obtain ⟨e, he, hz⟩ := fc_l0 a b c d off sp ht rt nm wk ce cl de sl fa l w (by omega) hc l.length 0 (by omega)
  exact ⟨e, Ev.neg c1 (Ev.neg c2 he), fun h => ⟨by omega, by omega, fun j hj => (hz h).1 j (by omega) hj, (hz h).2⟩⟩
def dur (w : List Bd) (s h : Int) (p q : Pp) : Int := mx 1 (match wind_Leg.f 200 w s h p.f0 p.f1 q.f0 q.f1 with | some r => r.2.1 | none => 0)
theorem leg_dur {w : List Bd} (he : ∀ k, 60 ≤ k → wind_Check.f k w = some 0) (hl : w.length ≤ 16) (hb : ∀ j (h : j < w.length), BdOk w[j]) {s h : Int} {p q : Pp} (hs : 1 ≤ s ∧ s ≤ 400) (hh : 0 ≤ h ∧ h ≤ 60000) (cp : Ok p.f0 p.f1) (cq : Ok q.f0 q.f1) (hne : ¬ (p.f0 = q.f0 ∧ p.f1 = q.f1)) :
    ∃ f slow, (∀ k, 200 ≤ k → wind_Leg.f k w s h p.f0 p.f1 q.f0 q.f1 = some (f, slow, 0)) ∧ mx 1 slow = dur w s h p q ∧ 1 ≤ dur w s h p q ∧ dur w s h p q ≤ 4000000000 := by
  obtain ⟨f, slow, s0, s1, hk⟩ := leg_good he hl hb hs hh cp cq hne
  have e : dur w s h p q = mx 1 slow := by unfold dur; rw [hk 200 (Nat.le_refl _)]
  have m := mx1 slow
  exact ⟨f, slow, hk, e.symm, by omega, by omega⟩
def fT (w : List Bd) (s h off : Int) (l : List Fx) : Nat → Int
  | 0 => off
  | i + 1 => fT w s h off l i + dur w s h (At l i) (At l (i + 1))
def fL (w : List Bd) (s h off : Int) (l : List Fx) (n : Nat) : List Nn := (List.range n).map fun i => ⟨fT w s h off l i, At l i, 0⟩
theorem fL_length (w : List Bd) (s h off : Int) (l : List Fx) (n : Nat) : (fL w s h off l n).length = n := by unfold fL; rw [List.length_map, List.length_range]
theorem fL_at (w : List Bd) (s h off : Int) (l : List Fx) {n i : Nat} (hi : i < n) : rd_T56 (fL w s h off l n) (i : Int) = ⟨fT w s h off l i, At l i, 0⟩ := by
  unfold rd_T56 fL
  rw [Int.toNat_natCast, List.getD_eq_getElem?_getD, List.getElem?_map, List.getElem?_range hi]
  rfl
theorem fL_succ (w : List Bd) (s h off : Int) (l : List Fx) (n : Nat) : fL w s h off l (n + 1) = fL w s h off l n ++ [⟨fT w s h off l n, At l n, 0⟩] := by
  unfold fL
  rw [List.range_succ, List.map_append]
  rfl
def Same (l : List Fx) (j : Nat) : Prop := (At l j).f0 = (At l (j - 1)).f0 ∧ (At l j).f1 = (At l (j - 1)).f1
section
variable {a b c d : ByteArray} {off sp ht : Int} {rt : List ByteArray} {nm : ByteArray} {wk ce cl de sl fa : Int} {l : List Fx} {w : List Bd}
theorem fp_l0 (hl : l.length ≤ 62) (X : List Nn) : ∀ (n i : Nat), i + n = l.length → 1 ≤ i →
    ((∃ j, i ≤ j ∧ j < l.length ∧ Same l j) ∧ Ev (fun k => fly_Path.l0 k l w X (i : Int) a b c d off sp ht rt nm wk ce cl de sl fa) ([], 10)) ∨
    ((∀ j, i ≤ j → j < l.length → ¬ Same l j) ∧ ∀ r, Ev (fun k => fly_Path.l1 k l w X 1 a b c d off sp ht rt nm wk ce cl de sl fa) r → Ev (fun k => fly_Path.l0 k l w X (i : Int) a b c d off sp ht rt nm wk ce cl de sl fa) r)
  | 0, i, hi, h1 => by
    refine Or.inr ⟨fun j g1 g2 => by omega, fun r hr => Ev.succ (fun k => ?_) hr⟩
    rw [fly_Path.l0, if_neg (by omega)]
  | n + 1, i, hi, h1 => by
    have hst : ∀ k, fly_Path.l0 (k + 1) l w X (i : Int) a b c d off sp ht rt nm wk ce cl de sl fa = if (((At l i).f0 == (At l (i - 1)).f0) && ((At l i).f1 == (At l (i - 1)).f1)) = true then some ([], 10) else fly_Path.l0 k l w X ((i + 1 : Nat) : Int) a b c d off sp ht rt nm wk ce cl de sl fa := by
      intro k
      rw [fly_Path.l0, if_pos (by omega), if_pos (by omega), w64 (x := (i : Int) - 1) (by omega) (by omega), if_pos (by omega), if_pos (by omega), w64 (x := (i : Int) + 1) (by omega) (by omega), show (i : Int) + 1 = ((i + 1 : Nat) : Int) by omega, show (i : Int) - 1 = ((i - 1 : Nat) : Int) by omega]
      rfl
    by_cases cs : Same l i
    · refine Or.inl ⟨⟨i, Nat.le_refl _, by omega, cs⟩, Ev.succ hst (Ev.pos ?_ (Ev.some _))⟩
      rw [Bool.and_eq_true, beq_iff_eq, beq_iff_eq]
      exact cs
    · have cs' : ¬ (((At l i).f0 == (At l (i - 1)).f0) && ((At l i).f1 == (At l (i - 1)).f1)) = true := by
        rw [Bool.and_eq_true, beq_iff_eq, beq_iff_eq]
        exact cs
      rcases fp_l0 hl X n (i + 1) (by omega) (by omega) with ⟨⟨j, g1, g2, g3⟩, h⟩ | ⟨g, h⟩
      · exact Or.inl ⟨⟨j, by omega, g2, g3⟩, Ev.succ hst (Ev.neg cs' h)⟩
      · refine Or.inr ⟨fun j g1 g2 => ?_, fun r hr => Ev.succ hst (Ev.neg cs' (h r hr))⟩
        by_cases e : j = i
        · rw [e]; exact cs
        · exact g j (by omega) g2
theorem fT_bd (hdur : ∀ j, j + 1 < l.length → 1 ≤ dur w sp ht (At l j) (At l (j + 1)) ∧ dur w sp ht (At l j) (At l (j + 1)) ≤ 4000000000) (h0 : 0 ≤ off ∧ off ≤ 200000) : ∀ i, i < l.length → (i : Int) ≤ fT w sp ht off l i - off ∧ fT w sp ht off l i ≤ 200000 + (i : Int) * 4000000000
  | 0, _ => by rw [fT]; omega
  | i + 1, hi => by
    have h := fT_bd hdur h0 i (by omega)
    have h2 := hdur i hi
    rw [fT]
    omega
theorem fp_l1 (hl : l.length ≤ 62) (h2 : 2 ≤ l.length) (hleg : ∀ j, j + 1 < l.length → ∃ f slow, (∀ k, 200 ≤ k → wind_Leg.f k w sp ht (At l j).f0 (At l j).f1 (At l (j + 1)).f0 (At l (j + 1)).f1 = some (f, slow, 0)) ∧ mx 1 slow = dur w sp ht (At l j) (At l (j + 1)) ∧ 1 ≤ dur w sp ht (At l j) (At l (j + 1)) ∧ dur w sp ht (At l j) (At l (j + 1)) ≤ 4000000000) (h0 : 0 ≤ off ∧ off ≤ 200000) {r : List Nn × Int}
    (hr : (fT w sp ht off l (l.length - 1) > 200000 ∧ r = ([], 12)) ∨ (fT w sp ht off l (l.length - 1) ≤ 200000 ∧ Ev (fun k => fly_Path.l2 k (fL w sp ht off l l.length) (fT w sp ht off l (l.length - 1)) (fT w sp ht off l (l.length - 1) - off) [] (fL w sp ht off l l.length) (l.length : Int) 0 a b c d off sp ht rt nm wk ce cl de sl fa) r)) : ∀ (n i : Nat), i + n = l.length → 1 ≤ i →
    Ev (fun k => fly_Path.l1 k l w (fL w sp ht off l i) (i : Int) a b c d off sp ht rt nm wk ce cl de sl fa) r
  | 0, i, hi, h1 => by
    obtain rfl : i = l.length := by omega
    have hb := fT_bd (w := w) (sp := sp) (ht := ht) (off := off) (l := l) (fun j hj => by obtain ⟨_, _, _, _, g⟩ := hleg j hj; exact g) h0 (l.length - 1) (by omega)
    have hst : ∀ k, fly_Path.l1 (k + 1) l w (fL w sp ht off l l.length) (l.length : Int) a b c d off sp ht rt nm wk ce cl de sl fa = if fT w sp ht off l (l.length - 1) > 200000 then some ([], 12) else fly_Path.l2 k (fL w sp ht off l l.length) (fT w sp ht off l (l.length - 1)) (fT w sp ht off l (l.length - 1) - off) [] (fL w sp ht off l l.length) (l.length : Int) 0 a b c d off sp ht rt nm wk ce cl de sl fa := by
      intro k
      rw [fly_Path.l1, if_neg (by omega), fL_length, w64 (x := (l.length : Int) - 1) (by omega) (by omega), if_pos (by omega), if_pos (by omega), show (l.length : Int) - 1 = ((l.length - 1 : Nat) : Int) by omega, fL_at w sp ht off l (show l.length - 1 < l.length by omega)]
      dsimp only
      rw [w64 (x := fT w sp ht off l (l.length - 1) - off) (by omega) (by omega)]
    rcases hr with ⟨g, rfl⟩ | ⟨g, h⟩
    · exact Ev.succ hst (Ev.pos g (Ev.some _))
    · exact Ev.succ hst (Ev.neg (by omega) h)
  | n + 1, i, hi, h1 => by
    obtain ⟨f, slow, hk, e, d1, d2⟩ := hleg (i - 1) (by omega)
    have e1 : i - 1 + 1 = i := by omega
    rw [e1] at hk e d1 d2
    have hb := fT_bd (w := w) (sp := sp) (ht := ht) (off := off) (l := l) (fun j hj => by obtain ⟨_, _, _, _, g⟩ := hleg j hj; exact g) h0 (i - 1) (by omega)
    have hst : ∀ k, fly_Path.l1 (k + 1) l w (fL w sp ht off l i) (i : Int) a b c d off sp ht rt nm wk ce cl de sl fa = (wind_Leg.f k w sp ht (At l (i - 1)).f0 (At l (i - 1)).f1 (At l i).f0 (At l i).f1).bind fun bt => if bt.2.2 = 0 then (if ((i - 1 : Nat) : Int) < (i : Int) then (if i < 4398046511104 then fly_Path.l1 k l w (fL w sp ht off l i ++ [⟨wrap64 (fT w sp ht off l (i - 1) + mx 1 bt.2.1), At l i, 0⟩]) ((i + 1 : Nat) : Int) a b c d off sp ht rt nm wk ce cl de sl fa else none) else none) else some ([], bt.2.2) := by
      intro k
      rw [fly_Path.l1, if_pos (by omega), w64 (x := (i : Int) - 1) (by omega) (by omega), if_pos (by omega), if_pos (by omega), if_pos (by omega), w64 (x := (i : Int) + 1) (by omega) (by omega), show (i : Int) + 1 = ((i + 1 : Nat) : Int) by omega, show (i : Int) - 1 = ((i - 1 : Nat) : Int) by omega, fL_length, fL_at w sp ht off l (show i - 1 < i by omega)]
      rfl
    refine Ev.succ hst (Ev.bind ⟨200, hk⟩ (Ev.pos rfl (Ev.pos (by omega) (Ev.pos (by omega) ?_))))
    dsimp only
    have hT : fT w sp ht off l i = fT w sp ht off l (i - 1) + dur w sp ht (At l (i - 1)) (At l i) := by
      conv => lhs; rw [← e1]
      rw [fT, e1]
    rw [e, ← hT, w64 (x := fT w sp ht off l i) (by omega) (by omega), ← fL_succ]
    exact fp_l1 hl h2 hleg h0 hr n (i + 1) (by omega) (by omega)
end
theorem compact_mem {β : Type} [Inhabited β] [DecidableEq β] (z : List β) (x : β) : x ∈ Lib.compact z ↔ x ∈ z := by
  unfold Lib.compact Lib.compactUpTo
  rw [List.mem_map]
  constructor
  · rintro ⟨j, hj, rfl⟩
    have hlt : j < z.length := List.mem_range.1 (List.mem_filter.1 hj).1
    rw [getElem!_pos _ j (by simpa using hlt)]
    simp
  · intro h
    obtain ⟨j, hj, e⟩ := List.getElem_of_mem h
    have key : ∀ n, n < z.length → z[n]? = some x → ∃ a ∈ (List.range z.length).filter (Lib.keeps z.toArray), z.toArray[a]! = x := by
      intro n
      induction n with
      | zero =>
        intro hn he
        refine ⟨0, List.mem_filter.2 ⟨List.mem_range.2 hn, by simp [Lib.keeps]⟩, ?_⟩
        rw [getElem!_pos _ 0 (by simpa using hn)]
        rw [List.getElem?_eq_getElem hn] at he
        simpa using Option.some.inj he
      | succ n ih =>
        intro hn he
        by_cases c : z[n]? = some x
        · exact ih (by omega) c
        · rw [List.getElem?_eq_getElem hn] at he
          rw [List.getElem?_eq_getElem (show n < z.length by omega)] at c
          refine ⟨n + 1, List.mem_filter.2 ⟨List.mem_range.2 hn, ?_⟩, ?_⟩
          · unfold Lib.keeps
            rw [decide_eq_true_eq]
            right
            rw [getElem!_pos _ (n + 1) (by simpa using hn), getElem!_pos _ (n + 1 - 1) (by simp; omega)]
            simp only [List.getElem_toArray, Nat.add_sub_cancel]
            intro g
            exact c (by rw [← Option.some.inj he, ← g])
          · rw [getElem!_pos _ (n + 1) (by simpa using hn)]
            simpa using Option.some.inj he
    exact key j hj (by rw [List.getElem?_eq_getElem hj, e])
theorem compact_lt {β : Type} [Inhabited β] [DecidableEq β] (le : β → β → Prop) (htr : ∀ a b c, le a b → le b c → le a c) (has : ∀ a b, le a b → le b a → a = b) (z : List β) (hs : z.Pairwise le) :
    (Lib.compact z).Pairwise fun a b => le a b ∧ a ≠ b := by
  unfold Lib.compact Lib.compactUpTo
  rw [List.pairwise_map]
  have h1 : ((List.range z.length).filter (Lib.keeps z.toArray)).Pairwise (· < ·) := List.Pairwise.filter _ List.pairwise_lt_range
  refine List.Pairwise.imp_of_mem ?_ h1
  intro i j hi hj hij
  have hjl : j < z.length := List.mem_range.1 (List.mem_filter.1 hj).1
  have hk := (List.mem_filter.1 hj).2
  unfold Lib.keeps at hk
  rw [decide_eq_true_eq] at hk
  have hne := hk.resolve_left (by omega)
  rw [getElem!_pos _ j (by simpa using hjl), getElem!_pos _ (j - 1) (by simp; omega)] at hne
  rw [getElem!_pos _ j (by simpa using hjl), getElem!_pos _ i (by simp; omega)]
  simp only [List.getElem_toArray] at hne ⊢
  have hp := List.pairwise_iff_getElem.1 hs
  have h2 : le z[j - 1] z[j] := hp (j - 1) j (by omega) hjl (by omega)
  have h3 : i = j - 1 ∨ le z[i] z[j - 1] := by
    by_cases c : i = j - 1
    · exact Or.inl c
    · exact Or.inr (hp i (j - 1) (by omega) (by omega) (by omega))
  rcases h3 with rfl | h3
  · exact ⟨h2, fun e => hne e.symm⟩
  · exact ⟨htr _ _ _ h3 h2, fun e => hne (has _ _ h2 (by rw [← e]; exact h3)).symm⟩
def tl (w : List Bd) (s h off : Int) (l : List Fx) (n : Nat) : List Int := (List.range n).map fun i => fT w s h off l i
theorem tl_length (w : List Bd) (s h off : Int) (l : List Fx) (n : Nat) : (tl w s h off l n).length = n := by unfold tl; rw [List.length_map, List.length_range]
theorem tl_succ (w : List Bd) (s h off : Int) (l : List Fx) (n : Nat) : tl w s h off l (n + 1) = tl w s h off l n ++ [fT w s h off l n] := by
  unfold tl
  rw [List.range_succ, List.map_append]
  rfl
def upq (a b : Int) : Int := if a % b = 0 then a / b else a / b + 1
theorem upq_bd {a b : Int} (ha : 0 ≤ a) (hb : 1 ≤ b) : 0 ≤ upq a b ∧ upq a b ≤ a + 1 := by
  have h1 : 0 ≤ a / b := Int.ediv_nonneg ha (by omega)
  have h2 : a / b ≤ a := Int.ediv_le_self _ ha
  unfold upq
  split <;> omega
def xt (ht cl de off T : Int) : List Int := if upq ht cl + upq ht de ≤ T - off then [off + upq ht cl, T - upq ht de] else []
def pT (ts : List Int) : List Int := slices_Compact_int_int.out (slices_Sort_int_int.sorted ts)
theorem pT_mem (ts : List Int) (x : Int) : x ∈ pT ts ↔ x ∈ ts := by
  unfold pT slices_Compact_int_int.out slices_Sort_int_int.sorted
  simp only [List.map_id']
  rw [compact_mem, (List.mergeSort_perm _ _).mem_iff]
theorem pT_lt (ts : List Int) : (pT ts).Pairwise (· < ·) := by
  unfold pT slices_Compact_int_int.out slices_Sort_int_int.sorted
  simp only [List.map_id']
  have hs : (ts.mergeSort fun x y => decide (x ≤ y)).Pairwise fun x y : Int => x ≤ y := by
    have := List.pairwise_mergeSort (le := fun x y : Int => decide (x ≤ y)) (fun a b c h1 h2 => decide_eq_true (Int.le_trans (of_decide_eq_true h1) (of_decide_eq_true h2))) (fun a b => by
      rw [Bool.or_eq_true, decide_eq_true_eq, decide_eq_true_eq]; exact Int.le_total a b) ts
    exact this.imp (fun h => of_decide_eq_true h)
  refine (compact_lt (fun x y : Int => x ≤ y) (fun a b c => Int.le_trans) (fun a b => Int.le_antisymm) _ hs).imp ?_
  rintro a b ⟨h1, h2⟩
  omega
theorem pT_len (ts : List Int) : (pT ts).length ≤ ts.length := by
  unfold pT slices_Compact_int_int.out slices_Sort_int_int.sorted
  simp only [List.map_id']
  unfold Lib.compact Lib.compactUpTo
  rw [List.length_map]
  refine Nat.le_trans (List.length_filter_le _ _) ?_
  rw [List.length_range, List.length_mergeSort]
  exact Nat.le_refl _
section
variable {a b c d : ByteArray} {off sp ht : Int} {rt : List ByteArray} {nm : ByteArray} {wk ce cl de sl fa : Int} {l : List Fx} {w : List Bd}
theorem fp_l2 (hl : l.length ≤ 62) (T D : Int) {r : List Nn × Int} (hr : Ev (fun k => fly_Path.l2 k (fL w sp ht off l l.length) T D (tl w sp ht off l l.length) (fL w sp ht off l l.length) (l.length : Int) (l.length : Int) a b c d off sp ht rt nm wk ce cl de sl fa) r) : ∀ (n i : Nat), i + n = l.length →
    Ev (fun k => fly_Path.l2 k (fL w sp ht off l l.length) T D (tl w sp ht off l i) (fL w sp ht off l l.length) (l.length : Int) (i : Int) a b c d off sp ht rt nm wk ce cl de sl fa) r
  | 0, i, hi => by
    obtain rfl : i = l.length := by omega
    exact hr
  | n + 1, i, hi => by
    refine Ev.succ (g := fun k => fly_Path.l2 k (fL w sp ht off l l.length) T D (tl w sp ht off l (i + 1)) (fL w sp ht off l l.length) (l.length : Int) ((i + 1 : Nat) : Int) a b c d off sp ht rt nm wk ce cl de sl fa) (fun k => ?_) (fp_l2 hl T D hr n (i + 1) (by omega))
    rw [fly_Path.l2, if_pos (by omega), if_pos (by omega), fL_length, if_pos (by omega), tl_length, if_pos (by omega), fL_at w sp ht off l (show i < l.length by omega), w64 (x := (i : Int) + 1) (by omega) (by omega), tl_succ]
    rfl
theorem fp_l2e (hl : l.length ≤ 62) {T : Int} (h0 : 0 ≤ off ∧ off ≤ 200000) (hT : off ≤ T ∧ T ≤ 200000) (hh : 1 ≤ ht ∧ ht ≤ 60000) (hc : 1 ≤ cl ∧ cl ≤ 200) (hd : 1 ≤ de ∧ de ≤ 200) {r : List Nn × Int}
    (hr : Ev (fun k => fly_Path.l3 k (fL w sp ht off l l.length) (T - off) [] (pT (tl w sp ht off l l.length ++ xt ht cl de off T)) ((pT (tl w sp ht off l l.length ++ xt ht cl de off T)).length : Int) 0 a b c d off sp ht rt nm wk ce cl de sl fa) r) :
    Ev (fun k => fly_Path.l2 k (fL w sp ht off l l.length) T (T - off) (tl w sp ht off l l.length) (fL w sp ht off l l.length) (l.length : Int) (l.length : Int) a b c d off sp ht rt nm wk ce cl de sl fa) r := by
  have j3 : Ev (fun k => fly_Path.j3 k (fL w sp ht off l l.length) (T - off) (tl w sp ht off l l.length ++ xt ht cl de off T) a b c d off sp ht rt nm wk ce cl de sl fa) r := by
    refine Ev.succ (fun k => ?_) hr
    have g1 : (tl w sp ht off l l.length ++ xt ht cl de off T).length ≤ 64 := by
      rw [List.length_append, tl_length]
      unfold xt
      split <;> (simp only [List.length_cons, List.length_nil]; omega)
    have g2 : (slices_Sort_int_int.sorted (tl w sp ht off l l.length ++ xt ht cl de off T)).length ≤ 64 := by
      rw [slices_Sort_int_int.length]; exact g1
    rw [fly_Path.j3]
    unfold slices_Sort_int_int.f slices_Compact_int_int.f
    rw [if_pos (by omega), Option.bind_some, if_pos (by omega), Option.bind_some]
    rfl
  obtain ⟨u1, u2⟩ := upq_bd (a := ht) (b := cl) (by omega) hc.1
  obtain ⟨d1, d2⟩ := upq_bd (a := ht) (b := de) (by omega) hd.1
  have eu : ∀ k, num_DivUp.f (k + 1) ht cl = some (upq ht cl, 0) := fun k => up_pos k ht cl (by omega) (by omega) (by omega)
  have ed : ∀ k, num_DivUp.f (k + 1) ht de = some (upq ht de, 0) := fun k => up_pos k ht de (by omega) (by omega) (by omega)
  have hu : Ev (fun k => num_DivUp.f k ht cl) (upq ht cl, 0) := Ev.succ eu (Ev.some _)
  have hdn : Ev (fun k => num_DivUp.f k ht de) (upq ht de, 0) := Ev.succ ed (Ev.some _)
  have hst : ∀ k, fly_Path.l2 (k + 1) (fL w sp ht off l l.length) T (T - off) (tl w sp ht off l l.length) (fL w sp ht off l l.length) (l.length : Int) (l.length : Int) a b c d off sp ht rt nm wk ce cl de sl fa = (num_DivUp.f k ht cl).bind fun p => (num_DivUp.f k ht de).bind fun q => if wrap64 (p.1 + q.1) ≤ T - off then ((some [wrap64 (off + p.1), wrap64 (T - q.1)]).bind fun y => if (tl w sp ht off l l.length).length + y.length < 17592186044416 then fly_Path.j3 k (fL w sp ht off l l.length) (T - off) (tl w sp ht off l l.length ++ y) a b c d off sp ht rt nm wk ce cl de sl fa else none) else fly_Path.j3 k (fL w sp ht off l l.length) (T - off) (tl w sp ht off l l.length) a b c d off sp ht rt nm wk ce cl de sl fa := by
    intro k
    rw [fly_Path.l2, if_neg (by omega)]
  refine Ev.succ hst (Ev.bind hu (Ev.bind hdn ?_))
  dsimp only
  rw [w64 (x := upq ht cl + upq ht de) (by omega) (by omega), w64 (x := off + upq ht cl) (by omega) (by omega), w64 (x := T - upq ht de) (by omega) (by omega)]
  unfold xt at j3
  by_cases g : upq ht cl + upq ht de ≤ T - off
  · rw [if_pos g] at j3
    refine Ev.pos g (Ev.done rfl (Ev.pos ?_ j3))
    rw [tl_length]
    simp only [List.length_cons, List.length_nil]
    omega
  · rw [if_neg g, List.append_nil] at j3
    exact Ev.neg g j3
end
theorem lin_bd {D n d : Int} (h0 : 0 < d) (h1 : d ≤ 200000) (h2 : 0 ≤ n) (h3 : n ≤ d) (h4 : -2000000 ≤ D) (h5 : D ≤ 2000000) :
    -400000000000 ≤ D * n ∧ D * n ≤ 400000000000 ∧ -2000000 ≤ D * n / d ∧ D * n / d ≤ 2000000 := by
  have m := mul_bd h4 h5 (show -200000 ≤ n by omega) (show n ≤ 200000 by omega)
  refine ⟨by omega, by omega, (Int.le_ediv_iff_mul_le h0).2 ?_, ?_⟩
  · have h6 := Int.mul_le_mul_of_nonneg_left h3 (show (0 : Int) ≤ 2000000 by decide)
    have h7 := Int.mul_nonneg (show 0 ≤ D + 2000000 by omega) h2
    rw [Int.add_mul] at h7
    omega
  · have : D * n / d < 2000001 := by
      refine (Int.ediv_lt_iff_lt_mul h0).2 ?_
      have h6 := Int.mul_le_mul_of_nonneg_left h3 (show (0 : Int) ≤ 2000000 by decide)
      have h7 := Int.mul_nonneg (show 0 ≤ 2000000 - D by omega) h2
      rw [Int.sub_mul] at h7
      omega
    omega
theorem toward (k : Nat) {ax ay bx b_y n d : Int} (h0 : 0 < d) (h1 : d ≤ 200000) (h2 : 0 ≤ n) (h3 : n ≤ d) (ha : Ok ax ay) (hb : Ok bx b_y) :
    plane_Toward.f (k + 2) ax ay bx b_y n d = some (ax + (bx - ax) * n / d, ay + (b_y - ay) * n / d, 0) := by
  obtain ⟨a1, a2, a3, a4⟩ := id ha
  obtain ⟨b1, b2, b3, b4⟩ := id hb
  obtain ⟨m1, m2, m3, m4⟩ := lin_bd h0 h1 h2 h3 (show -2000000 ≤ bx - ax by omega) (show bx - ax ≤ 2000000 by omega)
  obtain ⟨n1, n2, n3, n4⟩ := lin_bd h0 h1 h2 h3 (show -2000000 ≤ b_y - ay by omega) (show b_y - ay ≤ 2000000 by omega)
  unfold plane_Toward.f
  rw [if_neg (by omega), if_neg (by omega), if_neg (by omega), if_neg (by omega), check_f, check_f, Option.bind_some, Option.bind_some, if_pos ha, if_pos hb, if_pos rfl, plane_Toward.j0, if_neg (by decide)]
  rw [w64 (x := bx - ax) (by omega) (by omega), w64 (x := b_y - ay) (by omega) (by omega), w64 (x := (bx - ax) * n) (by omega) (by omega), w64 (x := (b_y - ay) * n) (by omega) (by omega)]
  rw [down_pos k _ d (by omega) (by omega) h0, down_pos k _ d (by omega) (by omega) h0, Option.bind_some, Option.bind_some, w64 (by omega) (by omega), w64 (by omega) (by omega)]
def Nd (l : List S56) (i : Nat) : S56 := rd_T56 l (i : Int)
def NodeOk (l : List S56) (j : Nat) : Prop :=
  0 ≤ (Nd l j).f0 ∧ (Nd l j).f0 ≤ 200000 ∧ (0 < j → (Nd l (j - 1)).f0 < (Nd l j).f0) ∧ Ok (Nd l j).f1.f0 (Nd l j).f1.f1 ∧ 0 ≤ (Nd l j).f2 ∧ (Nd l j).f2 ≤ 60000
def PathOk (l : List S56) : Prop := 0 < l.length ∧ l.length ≤ 64 ∧ ∀ j, j < l.length → NodeOk l j
theorem point_l {l : List S56} (h : PathOk l) (t : Int) : ∀ (d k i : Nat), i + d + 1 = l.length → d + 1 ≤ k → (Nd l i).f0 ≤ t →
    ∃ j m, i ≤ j ∧ j < l.length ∧ (Nd l j).f0 ≤ t ∧ (j + 1 < l.length → t < (Nd l (j + 1)).f0) ∧ k ≤ m + d + 1 ∧ fly_Point.l0 k l t (i : Int) = fly_Point.j1 m l t (j : Int)
  | 0, k, i, hi, hk, ht => by
    obtain ⟨k, rfl⟩ : ∃ m, k = m + 1 := ⟨k - 1, by omega⟩
    have hl := h.2.1
    rw [fly_Point.l0, w64 (by omega) (by omega), if_neg (by omega)]
    exact ⟨i, k, by omega, by omega, ht, fun _ => by omega, by omega, rfl⟩
  | d + 1, k, i, hi, hk, ht => by
    obtain ⟨k, rfl⟩ : ∃ m, k = m + 1 := ⟨k - 1, by omega⟩
    have hl := h.2.1
    rw [fly_Point.l0, w64 (by omega) (by omega), if_pos (by omega), if_pos (by omega), show ((i : Int) + 1) = ((i + 1 : Nat) : Int) by omega]
    have hN : rd_T56 l ((i + 1 : Nat) : Int) = Nd l (i + 1) := rfl
    rw [hN]
    by_cases c : (Nd l (i + 1)).f0 ≤ t
    · rw [if_pos c]
      obtain ⟨j, m, h1, h2, h3, h4, h5, h6⟩ := point_l h t d k (i + 1) (by omega) (by omega) c
      exact ⟨j, m, by omega, h2, h3, h4, by omega, h6⟩
    · rw [if_neg c]
      exact ⟨i, k, by omega, by omega, ht, fun _ => by omega, by omega, rfl⟩
theorem fly_at {l : List S56} (h : PathOk l) {t : Int} (k : Nat) (hk : 200 ≤ k) (h0 : (Nd l 0).f0 ≤ t) (h1 : t ≤ (Nd l (l.length - 1)).f0) :
    (∃ j, j < l.length ∧ (Nd l j).f0 = t ∧ fly_Point.f k l t = some ((Nd l j).f0, (Nd l j).f1.f0, (Nd l j).f1.f1, (Nd l j).f2)) ∨
    ∃ j, j + 1 < l.length ∧ (Nd l j).f0 < t ∧ t < (Nd l (j + 1)).f0 ∧ fly_Point.f k l t = some (t,
      (Nd l j).f1.f0 + ((Nd l (j + 1)).f1.f0 - (Nd l j).f1.f0) * (t - (Nd l j).f0) / ((Nd l (j + 1)).f0 - (Nd l j).f0),
      (Nd l j).f1.f1 + ((Nd l (j + 1)).f1.f1 - (Nd l j).f1.f1) * (t - (Nd l j).f0) / ((Nd l (j + 1)).f0 - (Nd l j).f0),
      (Nd l j).f2 + ((Nd l (j + 1)).f2 - (Nd l j).f2) * (t - (Nd l j).f0) / ((Nd l (j + 1)).f0 - (Nd l j).f0)) := by
  obtain ⟨hl0, hl, hn⟩ := id h
  obtain ⟨j, m, _, hj, g1, g2, hm, e⟩ := point_l h t (l.length - 1) k 0 (by omega) (by omega) h0
  obtain ⟨m, rfl⟩ : ∃ q, m = q + 4 := ⟨m - 4, by omega⟩
  have hN : rd_T56 l (j : Int) = Nd l j := rfl
  have e0 : fly_Point.f k l t = fly_Point.j1 (m + 4) l t (j : Int) := e
  rw [e0, fly_Point.j1, if_pos (by omega), if_pos (by omega), hN]
  by_cases c : (Nd l j).f0 = t
  · left
    rw [if_pos c, fly_Point.j2, if_pos rfl]
    exact ⟨j, hj, c, rfl⟩
  · right
    have hj1 : j + 1 < l.length := by
      rcases Nat.lt_or_ge (j + 1) l.length with g | g
      · exact g
      · have : l.length - 1 = j := by omega
        rw [this] at h1
        omega
    have hb : (wrap64 ((j : Int) + 1) == (l.length : Int)) = false := by
      rw [w64 (by omega) (by omega)]
      exact beq_eq_false_iff_ne.mpr (by omega)
    obtain ⟨a1, a2, a3, a4, a5, a6⟩ := hn j hj
    obtain ⟨b1, b2, b3, b4, b5, b6⟩ := hn (j + 1) hj1
    have g3 := g2 hj1
    have hN' : rd_T56 l ((j + 1 : Nat) : Int) = Nd l (j + 1) := rfl
    rw [if_neg c, hb, fly_Point.j2, if_neg (by decide), w64 (x := (j : Int) + 1) (by omega) (by omega), if_pos (by omega), if_pos (by omega), show ((j : Int) + 1) = ((j + 1 : Nat) : Int) by omega, hN',
      w64 (x := t - (Nd l j).f0) (by omega) (by omega), w64 (x := (Nd l (j + 1)).f0 - (Nd l j).f0) (by omega) (by omega), toward m (by omega) (by omega) (by omega) (by omega) a4 b4, Option.bind_some]
    obtain ⟨m1, m2, m3, m4⟩ := lin_bd (D := (Nd l (j + 1)).f2 - (Nd l j).f2) (n := t - (Nd l j).f0) (d := (Nd l (j + 1)).f0 - (Nd l j).f0) (by omega) (by omega) (by omega) (by omega) (by omega) (by omega)
    rw [w64 (x := (Nd l (j + 1)).f2 - (Nd l j).f2) (by omega) (by omega), w64 (x := ((Nd l (j + 1)).f2 - (Nd l j).f2) * (t - (Nd l j).f0)) (by omega) (by omega), down_pos (m + 1) _ _ (by omega) (by omega) (by omega), Option.bind_some, w64 (by omega) (by omega)]
    exact ⟨j, hj1, by omega, g3, rfl⟩
def hg (ht cl de D x : Int) : Int := mn (mn ht (cl * x)) (de * (D - x))
theorem profile (k : Nat) (hk : 20 ≤ k) {s : ByteArray} {wk ce cl de sl fa : Int} {b : Bool} (hc : ∀ k, 20 ≤ k → aircraft_Check.f k s wk ce cl de sl fa = some (acc b wk ce cl de sl fa)) (h0 : acc b wk ce cl de sl fa = 0)
    {h t a : Int} (g1 : h ≤ ce) (g2 : 0 ≤ h) (g3 : 0 ≤ t) (g4 : t ≤ 200000) (g5 : 0 ≤ a) (g6 : a ≤ t) : fly_Profile.f k s wk ce cl de sl fa h t a = some (hg h cl de t a, 0) := by
  obtain ⟨_, _, _, c1, c2, c3, c4, c5, c6, _, _, _⟩ := acc_zero h0
  have m1 := mul_bd (show -200 ≤ cl by omega) c4 (show -200000 ≤ a by omega) (show a ≤ 200000 by omega)
  have m2 := mul_bd (show -200 ≤ de by omega) c6 (show -200000 ≤ t - a by omega) (show t - a ≤ 200000 by omega)
  unfold fly_Profile.f hg
  rw [hc k hk, h0, Option.bind_some, if_pos rfl, if_neg (by omega), if_neg (by omega), if_neg (by omega), if_neg (by omega), if_neg (by omega), if_neg (by omega), w64 (x := t - a) (by omega) (by omega), w64 (x := cl * a) (by omega) (by omega), w64 (x := de * (t - a)) (by omega) (by omega)]
def nd (F : List Nn) (ht cl de off D t : Int) : Nn := match fly_Point.f 200 F t with | some q => ⟨q.1, ⟨q.2.1, q.2.2.1⟩, hg ht cl de D (t - off)⟩ | none => ⟨0, ⟨0, 0⟩, 0⟩
theorem point_ev {F : List Nn} (hp : PathOk F) {t : Int} (h0 : (Nd F 0).f0 ≤ t) (h1 : t ≤ (Nd F (F.length - 1)).f0) : ∃ q, Ev (fun k => fly_Point.f k F t) q ∧ fly_Point.f 200 F t = some q ∧ q.1 = t := by
  have e : ∃ q, fly_Point.f 200 F t = some q ∧ q.1 = t := by
    rcases fly_at hp (t := t) 200 (Nat.le_refl _) h0 h1 with ⟨j, _, g, e⟩ | ⟨j, _, _, _, e⟩
    · exact ⟨_, e, g⟩
    · exact ⟨_, e, rfl⟩
  obtain ⟨q, e, g⟩ := e
  exact ⟨q, ⟨200, fun k hk => at_rounds (fly_Point.mono F t) hk e⟩, e, g⟩
theorem rdI {l : List Int} {i : Nat} (h : i < l.length) : rd l (i : Int) = l[i] := by
  unfold rd
  rw [Int.toNat_natCast, List.getD_eq_getElem?_getD, List.getElem?_eq_getElem h]
  rfl
section
variable {a b c d : ByteArray} {off sp ht : Int} {rt : List ByteArray} {nm : ByteArray} {wk ce cl de sl fa : Int} {l : List Fx} {w : List Bd}
theorem fT_mono (hdur : ∀ j, j + 1 < l.length → 1 ≤ dur w sp ht (At l j) (At l (j + 1)) ∧ dur w sp ht (At l j) (At l (j + 1)) ≤ 4000000000) : ∀ (e j : Nat), j + e < l.length → fT w sp ht off l j + (e : Int) ≤ fT w sp ht off l (j + e)
  | 0, j, h => by
    rw [Nat.add_zero]; omega
  | e + 1, j, h => by
    have h1 := fT_mono hdur e j (by omega)
    have h2 := hdur (j + e) (by omega)
    rw [show j + (e + 1) = (j + e) + 1 by omega, fT]
    omega
theorem fL_ok (hl : l.length ≤ 62) (h2 : 2 ≤ l.length) (hdur : ∀ j, j + 1 < l.length → 1 ≤ dur w sp ht (At l j) (At l (j + 1)) ∧ dur w sp ht (At l j) (At l (j + 1)) ≤ 4000000000) (h0 : 0 ≤ off ∧ off ≤ 200000) (hok : ∀ j, j < l.length → Ok (At l j).f0 (At l j).f1) (hT : fT w sp ht off l (l.length - 1) ≤ 200000) :
    PathOk (fL w sp ht off l l.length) := by
  have hlen := fL_length w sp ht off l l.length
  refine ⟨by omega, by omega, fun j hj => ?_⟩
  have hj' : j < l.length := by omega
  have e : ∀ i, i < l.length → Nd (fL w sp ht off l l.length) i = ⟨fT w sp ht off l i, At l i, 0⟩ := fun i hi => fL_at w sp ht off l hi
  have m1 := fT_mono (off := off) hdur (l.length - 1 - j) j (by omega)
  rw [show j + (l.length - 1 - j) = l.length - 1 by omega] at m1
  have m2 := fT_bd (off := off) hdur h0 j hj'
  unfold NodeOk
  rw [e j hj']
  refine ⟨by dsimp only; omega, by dsimp only; omega, fun hp => ?_, hok j hj', by dsimp only; omega, by dsimp only; omega⟩
  rw [e (j - 1) (by omega)]
  have m3 := fT_mono (off := off) hdur 1 (j - 1) (by omega)
  rw [show j - 1 + 1 = j by omega] at m3
  dsimp only
  omega
theorem fp_l3 {F : List Nn} (hp : PathOk F) {bn : Bool} (hc : ∀ k, 20 ≤ k → aircraft_Check.f k nm wk ce cl de sl fa = some (acc bn wk ce cl de sl fa)) (hz : acc bn wk ce cl de sl fa = 0) (hh : 0 ≤ ht ∧ ht ≤ ce) {T : Int} (h0 : 0 ≤ off) (hT : T ≤ 200000) (e0 : (Nd F 0).f0 = off) (e1 : (Nd F (F.length - 1)).f0 = T)
    {ts : List Int} (hts : ∀ t ∈ ts, off ≤ t ∧ t ≤ T) (hlen : ts.length ≤ 64) : ∀ (n i : Nat), i + n = ts.length →
    Ev (fun k => fly_Path.l3 k F (T - off) ((ts.take i).map (nd F ht cl de off (T - off))) ts (ts.length : Int) (i : Int) a b c d off sp ht rt nm wk ce cl de sl fa) (ts.map (nd F ht cl de off (T - off)), 0)
  | 0, i, hi => by
    obtain rfl : i = ts.length := by omega
    refine Ev.succ (fun k => ?_) (Ev.some _)
    rw [fly_Path.l3, if_neg (by omega), List.take_length]
  | n + 1, i, hi => by
    have hlt : i < ts.length := by omega
    obtain ⟨t1, t2⟩ := hts ts[i] (List.getElem_mem hlt)
    obtain ⟨q, hq, hq2, hq3⟩ := point_ev hp (t := ts[i]) (by omega) (by omega)
    have hst : ∀ k, fly_Path.l3 (k + 1) F (T - off) ((ts.take i).map (nd F ht cl de off (T - off))) ts (ts.length : Int) (i : Int) a b c d off sp ht rt nm wk ce cl de sl fa = (fly_Point.f k F ts[i]).bind fun p => (fly_Profile.f k nm wk ce cl de sl fa ht (T - off) (ts[i] - off)).bind fun g => if ((ts.take i).map (nd F ht cl de off (T - off))).length < 4398046511104 then fly_Path.l3 k F (T - off) ((ts.take i).map (nd F ht cl de off (T - off)) ++ [⟨p.1, ⟨p.2.1, p.2.2.1⟩, g.1⟩]) ts (ts.length : Int) ((i + 1 : Nat) : Int) a b c d off sp ht rt nm wk ce cl de sl fa else none := by
      intro k
      rw [fly_Path.l3, if_pos (by omega), if_pos (by omega), if_pos (by omega), rdI hlt, w64 (x := ts[i] - off) (by omega) (by omega), w64 (x := (i : Int) + 1) (by omega) (by omega), show (i : Int) + 1 = ((i + 1 : Nat) : Int) by omega]
    refine Ev.succ hst (Ev.bind hq (Ev.bind (a := (hg ht cl de (T - off) (ts[i] - off), 0)) ⟨20, fun k hk => profile k hk hc hz hh.2 hh.1 (by omega) (by omega) (by omega) (by omega)⟩ (Ev.pos ?_ ?_)))
    · rw [List.length_map, List.length_take]; omega
    · have e : (ts.take i).map (nd F ht cl de off (T - off)) ++ [(⟨q.1, ⟨q.2.1, q.2.2.1⟩, hg ht cl de (T - off) (ts[i] - off)⟩ : Nn)] = (ts.take (i + 1)).map (nd F ht cl de off (T - off)) := by
        rw [List.take_succ_eq_append_getElem hlt, List.map_append]
        congr 1
        rw [List.map_cons, List.map_nil]
        unfold nd
        rw [hq2]
      dsimp only
      rw [e]
      exact fp_l3 hp hc hz hh h0 hT e0 e1 hts hlen n (i + 1) (by omega)
end
structure Fln (bn : Bool) (wk ce cl de sl fa off sp ht : Int) (l : List Fx) (w : List Bd) (P : List Nn) : Prop where
  len2 : 2 ≤ l.length
  len : l.length ≤ 62
  ok : ∀ j, j < l.length → Ok (At l j).f0 (At l j).f1
  gd : Gd off sp ht bn wk ce cl de sl fa w
  leg : ∀ j, j + 1 < l.length → ∃ f slow, (∀ k, 200 ≤ k → wind_Leg.f k w sp ht (At l j).f0 (At l j).f1 (At l (j + 1)).f0 (At l (j + 1)).f1 = some (f, slow, 0)) ∧ mx 1 slow = dur w sp ht (At l j) (At l (j + 1)) ∧ 1 ≤ dur w sp ht (At l j) (At l (j + 1)) ∧ dur w sp ht (At l j) (At l (j + 1)) ≤ 4000000000
  T : fT w sp ht off l (l.length - 1) ≤ 200000
  po : PathOk (fL w sp ht off l l.length)
  eq : P = (pT (tl w sp ht off l l.length ++ xt ht cl de off (fT w sp ht off l (l.length - 1)))).map (nd (fL w sp ht off l l.length) ht cl de off (fT w sp ht off l (l.length - 1) - off))
theorem ts_mem {w : List Bd} {off sp ht cl de : Int} {l : List Fx} (h2 : 2 ≤ l.length) (hl : l.length ≤ 62) (hh : 0 ≤ ht) (hc : 1 ≤ cl) (hd : 1 ≤ de) (hdur : ∀ j, j + 1 < l.length → 1 ≤ dur w sp ht (At l j) (At l (j + 1)) ∧ dur w sp ht (At l j) (At l (j + 1)) ≤ 4000000000) (h0 : 0 ≤ off ∧ off ≤ 200000) :
    ∀ t ∈ pT (tl w sp ht off l l.length ++ xt ht cl de off (fT w sp ht off l (l.length - 1))), off ≤ t ∧ t ≤ fT w sp ht off l (l.length - 1) := by
  intro t ht'
  rw [pT_mem, List.mem_append] at ht'
  rcases ht' with h | h
  · unfold tl at h
    rw [List.mem_map] at h
    obtain ⟨j, hj, rfl⟩ := h
    have hj := List.mem_range.1 hj
    have m1 := fT_mono (off := off) hdur (l.length - 1 - j) j (by omega)
    rw [show j + (l.length - 1 - j) = l.length - 1 by omega] at m1
    have m2 := fT_bd (off := off) hdur h0 j hj
    omega
  · unfold xt at h
    obtain ⟨u1, _⟩ := upq_bd hh hc
    obtain ⟨d1, _⟩ := upq_bd hh hd
    by_cases g : upq ht cl + upq ht de ≤ fT w sp ht off l (l.length - 1) - off
    · rw [if_pos g] at h
      simp only [List.mem_cons, List.not_mem_nil, or_false] at h
      omega
    · rw [if_neg g] at h
      cases h
theorem path_f (a b c d : ByteArray) (off sp ht : Int) (rt : List ByteArray) (nm : ByteArray) (wk ce cl de sl fa : Int) (l : List Fx) (w : List Bd) : ∃ bn, ∃ r : List Nn × Int, (∀ k, 20 ≤ k → aircraft_Check.f k nm wk ce cl de sl fa = some (acc bn wk ce cl de sl fa)) ∧
    Ev (fun k => fly_Path.f k l a b c d off sp ht rt nm wk ce cl de sl fa w) r ∧ (r.2 ≠ 0 → r.1 = []) ∧ (r.2 = 0 → Fln bn wk ce cl de sl fa off sp ht l w r.1) := by
  obtain ⟨bn, hc⟩ := check_k nm wk ce cl de sl fa
  obtain ⟨e, he, hz⟩ := fc_f a b c d off sp ht rt nm wk ce cl de sl fa l w hc
  refine ⟨bn, ?_⟩
  unfold fly_Path.f
  by_cases e0 : e = 0
  rotate_left
  · exact ⟨([], e), hc, Ev.bind he (Ev.neg e0 (Ev.some _)), fun _ => rfl, fun h => absurd h e0⟩
  obtain ⟨h2, hl, hok, hgd⟩ := hz e0
  obtain ⟨go, gs, gh, gce, gac, gw⟩ := id hgd
  obtain ⟨_, _, _, c1, c2, c3, c4, c5, c6, _, _, _⟩ := acc_zero gac
  obtain ⟨ew, hw, hwz⟩ := wcheck_all w
  have ew0 : ew = 0 := Option.some.inj ((hw 60 (Nat.le_refl _)).symm.trans (gw 60 (Nat.le_refl _)))
  obtain ⟨w16, wok⟩ := hwz ew0
  have start : ∀ {r : List Nn × Int}, Ev (fun k => fly_Path.l0 k l w (fL w sp ht off l 1) ((1 : Nat) : Int) a b c d off sp ht rt nm wk ce cl de sl fa) r → Ev (fun k => (fly_check.f k l a b c d off sp ht rt nm wk ce cl de sl fa w).bind fun t333 => (if t333 = 0 then (if 0 < (l.length : Int) then (fly_Path.l0 k l w (([(⟨off, (⟨(rd_T84 l 0).f1.f0, (rd_T84 l 0).f1.f1⟩ : Pp), 0⟩ : Nn)] : List (Nn))) 1 a b c d off sp ht rt nm wk ce cl de sl fa) else (none)) else (some (([] : List (Nn)), t333)))) r := by
    intro r h
    exact Ev.bind he (Ev.pos e0 (Ev.pos (by omega) h))
  rcases fp_l0 (w := w) (a := a) (b := b) (c := c) (d := d) (off := off) (sp := sp) (ht := ht) (rt := rt) (nm := nm) (wk := wk) (ce := ce) (cl := cl) (de := de) (sl := sl) (fa := fa) hl (fL w sp ht off l 1) (l.length - 1) 1 (by omega) (Nat.le_refl _) with ⟨_, h⟩ | ⟨hd, h⟩
  · exact ⟨([], 10), hc, start h, fun _ => rfl, fun h => absurd h (by decide)⟩
  have hleg : ∀ j, j + 1 < l.length → ∃ f slow, (∀ k, 200 ≤ k → wind_Leg.f k w sp ht (At l j).f0 (At l j).f1 (At l (j + 1)).f0 (At l (j + 1)).f1 = some (f, slow, 0)) ∧ mx 1 slow = dur w sp ht (At l j) (At l (j + 1)) ∧ 1 ≤ dur w sp ht (At l j) (At l (j + 1)) ∧ dur w sp ht (At l j) (At l (j + 1)) ≤ 4000000000 := by
    intro j hj
    refine leg_dur gw w16 wok gs ⟨by omega, by omega⟩ (hok j (by omega)) (hok (j + 1) hj) (fun g => hd (j + 1) (by omega) hj ?_)
    unfold Same
    rw [Nat.add_sub_cancel]
    exact ⟨g.1.symm, g.2.symm⟩
  have hdur : ∀ j, j + 1 < l.length → 1 ≤ dur w sp ht (At l j) (At l (j + 1)) ∧ dur w sp ht (At l j) (At l (j + 1)) ≤ 4000000000 := fun j hj => by obtain ⟨_, _, _, _, g⟩ := hleg j hj; exact g
  by_cases hT : fT w sp ht off l (l.length - 1) > 200000
  · exact ⟨([], 12), hc, start (h _ (fp_l1 hl h2 hleg go (Or.inl ⟨hT, rfl⟩) (l.length - 1) 1 (by omega) (Nat.le_refl _))), fun _ => rfl, fun h => absurd h (by decide)⟩
  have hT' : fT w sp ht off l (l.length - 1) ≤ 200000 := by omega
  have po := fL_ok hl h2 hdur go hok hT'
  have m0 := fT_bd (off := off) hdur go (l.length - 1) (by omega)
  have flen := fL_length w sp ht off l l.length
  refine ⟨(_, 0), hc, start (h _ (fp_l1 hl h2 hleg go (Or.inr ⟨hT', fp_l2 hl _ _ (fp_l2e hl go ⟨by omega, hT'⟩ gh ⟨c3, c4⟩ ⟨c5, c6⟩ (fp_l3 (T := fT w sp ht off l (l.length - 1)) po hc gac ⟨by omega, gce⟩ go.1 hT' ?_ ?_ (ts_mem h2 hl (by omega) c3 c5 hdur go) ?_ _ 0 (Nat.zero_add _))) l.length 0 (Nat.zero_add _)⟩) (l.length - 1) 1 (by omega) (Nat.le_refl _))), fun h => absurd rfl h, fun _ => ⟨h2, hl, hok, hgd, hleg, hT', po, rfl⟩⟩
  · show (rd_T56 (fL w sp ht off l l.length) ((0 : Nat) : Int)).f0 = off
    rw [fL_at w sp ht off l (show 0 < l.length by omega)]
    rfl
  · rw [flen]
    show (rd_T56 (fL w sp ht off l l.length) ((l.length - 1 : Nat) : Int)).f0 = _
    rw [fL_at w sp ht off l (show l.length - 1 < l.length by omega)]
  · refine Nat.le_trans (pT_len _) ?_
    rw [List.length_append, tl_length]
    unfold xt
    split <;> (simp only [List.length_cons, List.length_nil]; omega)
theorem Fln.times {bn : Bool} {wk ce cl de sl fa off sp ht : Int} {l : List Fx} {w : List Bd} {P : List Nn} (h : Fln bn wk ce cl de sl fa off sp ht l w P) :
    ∃ ts : List Int, P.length = ts.length ∧ 2 ≤ ts.length ∧ ts.length ≤ 64 ∧ (∀ i (hi : i < ts.length), (rd_T56 P (i : Int)).f0 = ts[i]) ∧ (∃ h0 : 0 < ts.length, ts[0] = off) ∧ (∃ h1 : ts.length - 1 < ts.length, ts[ts.length - 1] = fT w sp ht off l (l.length - 1)) := by
  have h2 := h.len2
  have hl := h.len
  have po := h.po
  obtain ⟨go, gs, gh, gce, gac, gw⟩ := h.gd
  obtain ⟨_, _, _, c1, c2, c3, c4, c5, c6, _, _, _⟩ := acc_zero gac
  have hdur : ∀ j, j + 1 < l.length → 1 ≤ dur w sp ht (At l j) (At l (j + 1)) ∧ dur w sp ht (At l j) (At l (j + 1)) ≤ 4000000000 := fun j hj => by obtain ⟨_, _, _, _, g⟩ := h.leg j hj; exact g
  have hm := ts_mem (cl := cl) (de := de) h2 hl (show 0 ≤ ht by omega) c3 c5 hdur go
  have he := h.eq
  have hin : ∀ j, j < l.length → fT w sp ht off l j ∈ pT (tl w sp ht off l l.length ++ xt ht cl de off (fT w sp ht off l (l.length - 1))) := by
    intro j hj
    rw [pT_mem, List.mem_append]
    left
    unfold tl
    exact List.mem_map.2 ⟨j, List.mem_range.2 hj, rfl⟩
  have hlen : (pT (tl w sp ht off l l.length ++ xt ht cl de off (fT w sp ht off l (l.length - 1)))).length ≤ 64 := by
    refine Nat.le_trans (pT_len _) ?_
    rw [List.length_append, tl_length]
    unfold xt
    split <;> (simp only [List.length_cons, List.length_nil]; omega)
  have hp := List.pairwise_iff_getElem.1 (pT_lt (tl w sp ht off l l.length ++ xt ht cl de off (fT w sp ht off l (l.length - 1))))
  have hT := h.T
  have f0 : (Nd (fL w sp ht off l l.length) 0).f0 = off := by
    show (rd_T56 (fL w sp ht off l l.length) ((0 : Nat) : Int)).f0 = off
    rw [fL_at w sp ht off l (show 0 < l.length by omega)]
    rfl
  have f1 : (Nd (fL w sp ht off l l.length) ((fL w sp ht off l l.length).length - 1)).f0 = fT w sp ht off l (l.length - 1) := by
    rw [fL_length]
    show (rd_T56 (fL w sp ht off l l.length) ((l.length - 1 : Nat) : Int)).f0 = _
    rw [fL_at w sp ht off l (show l.length - 1 < l.length by omega)]
  have i0 := hin 0 (by omega)
  have i1 := hin (l.length - 1) (by omega)
  have lt01 := fT_mono (off := off) hdur (l.length - 1) 0 (by omega)
  rw [Nat.zero_add] at lt01
  have ef : fT w sp ht off l 0 = off := rfl
  rw [ef] at i0 lt01
  generalize pT (tl w sp ht off l l.length ++ xt ht cl de off (fT w sp ht off l (l.length - 1))) = ts at *
  obtain ⟨a, ha, ea⟩ := List.getElem_of_mem i0
  obtain ⟨b, hb, eb⟩ := List.getElem_of_mem i1
  have a0 : a = 0 := by
    rcases Nat.eq_zero_or_pos a with g | g
    · exact g
    · have q1 := hp 0 a (by omega) ha g
      have q2 := hm ts[0] (List.getElem_mem _)
      omega
  have b0 : b = ts.length - 1 := by
    rcases Nat.lt_or_ge b (ts.length - 1) with g | g
    · have q1 := hp b (ts.length - 1) hb (by omega) g
      have q2 := hm ts[ts.length - 1] (List.getElem_mem _)
      omega
    · omega
  subst a0 b0
  refine ⟨ts, by rw [he, List.length_map], ?_, hlen, fun i hi => ?_, ⟨ha, ea⟩, ⟨hb, eb⟩⟩
  · rcases Nat.lt_or_ge ts.length 2 with g | g
    · exfalso
      have e : ts.length - 1 = 0 := by omega
      have : ts[ts.length - 1] = ts[0] := by congr 1
      omega
    · exact g
  · obtain ⟨t1, t2⟩ := hm ts[i] (List.getElem_mem hi)
    obtain ⟨q, _, hq2, hq3⟩ := point_ev po (t := ts[i]) (by omega) (by omega)
    unfold rd_T56
    rw [Int.toNat_natCast, List.getD_eq_getElem?_getD, he, List.getElem?_map, List.getElem?_eq_getElem hi]
    show (nd _ _ _ _ _ _ _).f0 = _
    unfold nd
    rw [hq2]
    exact hq3
theorem flyWorks (k : Nat) (hk : 60 ≤ k) : skywaykeep1_flyWorks.f k = some true := by
  have h : skywaykeep1_flyWorks.f 60 = some true := by decide +kernel
  exact at_rounds skywaykeep1_flyWorks.mono hk h
theorem expand_e (a b c d : ByteArray) (t s h : Int) (r : List ByteArray) (F : List Fx) (L : List Aw) : ∃ q : List Fx × Int, Ev (fun k => route_Expand.f k a b c d t s h r F L) q ∧ (q.2 ≠ 0 → q.1 = []) := by
  obtain ⟨e, h | h⟩ := expand_g a b c d t s h r F L 1500 (Nat.le_refl _)
  · exact ⟨_, ⟨1501, fun k hk => at_rounds (fun q => route_Expand.mono _ _ _ _ _ _ _ _ _ _ q) hk h.2⟩, fun _ => rfl⟩
  · obtain ⟨_, _, _, l, _, _, _, _, _, _, _, g⟩ := h
    exact ⟨_, ⟨1501, fun k hk => at_rounds (fun q => route_Expand.mono _ _ _ _ _ _ _ _ _ _ q) hk g⟩, fun h => absurd rfl h⟩
theorem fw_l0 {a b c d : ByteArray} {rt : List ByteArray} {bn : Bool} {wk ce cl de sl fa off sp ht : Int} {l : List Fx} {w : List Bd} {P : List Nn} (h : Fln bn wk ce cl de sl fa off sp ht l w P) : ∀ (n i : Nat), i + n = l.length → 1 ≤ i →
    Ev (fun k => skywaykeep1_FlyWinds.l0 k w l P (fT w sp ht off l (i - 1) - off) (i : Int) a b c d off sp ht rt) true
  | 0, i, hi, h1 => by
    obtain rfl : i = l.length := by omega
    obtain ⟨ts, e1, e2, e3, e4, ⟨q1, q2⟩, ⟨q3, q4⟩⟩ := h.times
    have hT := h.T
    have go := h.gd.1
    have h2 := h.len2
    have hdur : ∀ j, j + 1 < l.length → 1 ≤ dur w sp ht (At l j) (At l (j + 1)) ∧ dur w sp ht (At l j) (At l (j + 1)) ≤ 4000000000 := fun j hj => by obtain ⟨_, _, _, _, g⟩ := h.leg j hj; exact g
    have m0 := fT_bd (off := off) hdur go (l.length - 1) (by omega)
    have r0 := e4 0 (by omega)
    have r1 := e4 (ts.length - 1) (by omega)
    rw [q2] at r0
    rw [q4] at r1
    refine Ev.succ (fun k => ?_) (Ev.some _)
    rw [skywaykeep1_FlyWinds.l0, if_neg (by omega), e1, w64 (x := (ts.length : Int) - 1) (by omega) (by omega), if_pos (by omega), if_pos (by omega), if_pos (by omega), show (ts.length : Int) - 1 = ((ts.length - 1 : Nat) : Int) by omega, r1, show (0 : Int) = ((0 : Nat) : Int) from rfl, r0, w64 (x := fT w sp ht off l (l.length - 1) - off) (by omega) (by omega)]
    rw [beq_self_eq_true]
  | n + 1, i, hi, h1 => by
    obtain ⟨f, slow, hk, e, d1, d2⟩ := h.leg (i - 1) (by omega)
    have e1 : i - 1 + 1 = i := by omega
    rw [e1] at hk e d1 d2
    have hl := h.len
    have go := h.gd.1
    have hdur : ∀ j, j + 1 < l.length → 1 ≤ dur w sp ht (At l j) (At l (j + 1)) ∧ dur w sp ht (At l j) (At l (j + 1)) ≤ 4000000000 := fun j hj => by obtain ⟨_, _, _, _, g⟩ := h.leg j hj; exact g
    have m0 := fT_bd (off := off) hdur h.gd.1 (i - 1) (by omega)
    have m1 := fT_mono (off := off) hdur (i - 1) 0 (by omega)
    rw [Nat.zero_add] at m1
    have ef : fT w sp ht off l 0 = off := rfl
    have hst : ∀ k, skywaykeep1_FlyWinds.l0 (k + 1) w l P (fT w sp ht off l (i - 1) - off) (i : Int) a b c d off sp ht rt = (wind_Leg.f k w sp ht (At l (i - 1)).f0 (At l (i - 1)).f1 (At l i).f0 (At l i).f1).bind fun bt => if bt.2.2 = 0 then skywaykeep1_FlyWinds.l0 k w l P (wrap64 (fT w sp ht off l (i - 1) - off + mx 1 bt.2.1)) ((i + 1 : Nat) : Int) a b c d off sp ht rt else some false := by
      intro k
      rw [skywaykeep1_FlyWinds.l0, if_pos (by omega), w64 (x := (i : Int) - 1) (by omega) (by omega), if_pos (by omega), if_pos (by omega), if_pos (by omega), w64 (x := (i : Int) + 1) (by omega) (by omega), show (i : Int) + 1 = ((i + 1 : Nat) : Int) by omega, show (i : Int) - 1 = ((i - 1 : Nat) : Int) by omega]
      rfl
    refine Ev.succ hst (Ev.bind ⟨200, hk⟩ (Ev.pos rfl ?_))
    dsimp only
    have hT : fT w sp ht off l i = fT w sp ht off l (i - 1) + dur w sp ht (At l (i - 1)) (At l i) := by
      conv => lhs; rw [← e1]
      rw [fT, e1]
    rw [e, w64 (by omega) (by omega), show fT w sp ht off l (i - 1) - off + dur w sp ht (At l (i - 1)) (At l i) = fT w sp ht off l (i + 1 - 1) - off by rw [Nat.add_sub_cancel, hT]; omega]
    exact fw_l0 h n (i + 1) (by omega) (by omega)
theorem FlyWinds : skywaykeep1_FlyWinds.Pure := by
  intro a b c d off sp ht rt F L nm wk ce cl de sl fa w _ _ _ _ _ _ _ _ _ _ _ _ _ _ _ _ _ _
  obtain ⟨q, hq, qz⟩ := expand_e a b c d off sp ht rt F L
  obtain ⟨bn, r, hc, hr, rz, rp⟩ := path_f a b c d off sp ht rt nm wk ce cl de sl fa q.1 w
  have hj1 : ∀ {x : Bool} {P : List Nn}, x = true → P = [] → Ev (fun k => skywaykeep1_FlyWinds.j1 k w q.1 P x a b c d off sp ht rt) true := by
    rintro x P rfl rfl
    refine Ev.succ (fun k => ?_) (Ev.some _)
    rw [skywaykeep1_FlyWinds.j1, if_pos rfl]
    rfl
  unfold skywaykeep1_FlyWinds.f
  refine Ev.ex (Ev.bind ⟨60, flyWorks⟩ (Ev.pos rfl (Ev.bind ⟨60, windWorks⟩ (Ev.succ (g := fun k => (route_Expand.f k a b c d off sp ht rt F L).bind fun bt430 => ((fly_Path.f k bt430.1 a b c d off sp ht rt nm wk ce cl de sl fa w).bind fun bt434 => (if bt430.2 = 0 then (if bt434.2 = 0 then (skywaykeep1_FlyWinds.j1 k w bt430.1 bt434.1 ((bt434.1.length : Int) == 0) a b c d off sp ht rt) else (skywaykeep1_FlyWinds.j1 k w bt430.1 bt434.1 true a b c d off sp ht rt)) else (skywaykeep1_FlyWinds.j1 k w bt430.1 bt434.1 true a b c d off sp ht rt)))) (fun k => ?_) (Ev.bind hq (Ev.bind hr ?_))))))
  · rw [skywaykeep1_FlyWinds.j0, if_neg (by decide)]
  · by_cases q0 : q.2 = 0
    · by_cases r0 : r.2 = 0
      · refine Ev.pos q0 (Ev.pos r0 ?_)
        have h := rp r0
        obtain ⟨ts, e1, e2, _⟩ := h.times
        refine Ev.succ (fun k => ?_) (fw_l0 (a := a) (b := b) (c := c) (d := d) (rt := rt) h (q.1.length - 1) 1 (by have := h.len2; omega) (Nat.le_refl _))
        rw [skywaykeep1_FlyWinds.j1, if_neg (by rw [beq_iff_eq]; omega)]
        have ef : fT w sp ht off q.1 (1 - 1) = off := rfl
        rw [ef, Int.sub_self]
        rfl
      · exact Ev.pos q0 (Ev.neg r0 (hj1 rfl (rz r0)))
    · refine Ev.neg q0 (hj1 rfl ?_)
      by_cases r0 : r.2 = 0
      · have := (rp r0).len2
        rw [qz q0] at this
        exact absurd this (by decide)
      · exact rz r0
end Go.Proofs.YthpbpdobghceeaaGreatDoor.Pure
