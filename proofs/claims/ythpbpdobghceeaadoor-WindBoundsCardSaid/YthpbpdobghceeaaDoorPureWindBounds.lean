/- WindBounds: the bounds of the speed over ground hold one another, and the way back's are the mirrored ones. -/
import Derived.Test.YthpbpdobghceeaaDoorPWindBoundsx
import Derived.Test.YthpbpdobghceeaaDoorMath
namespace Go.Proofs.YthpbpdobghceeaaDoor.Pure
open Go Go.RowKit Go.Proofs.YthpbpdobghceeaaDoor Go.Proofs.YthpbpdobghceeaaDoor.PWindBounds Go.Proofs.YthpbpdobghceeaaDoorW.PrintWords Go.Proofs.YthpbpdobghceeaaDoorW.PrintLast Go.Proofs.YthpbpdobghceeaaDoorW.PrintMore Go.Proofs.YthpbpdobghceeaaDoorM
abbrev Bd := S38
theorem rdW {l : List Bd} {i : Nat} (h : i < l.length) : rd_T38 l (i : Int) = l[i] := by
  unfold rd_T38
  rw [Int.toNat_natCast, List.getD_eq_getElem?_getD, List.getElem?_eq_getElem h]
  rfl
/-- A permitted band. -/
def BdOk (b : Bd) : Prop := (0 ≤ b.f0 ∧ b.f1 ≤ 60001 ∧ b.f0 < b.f1) ∧ (-150 ≤ b.f2.f0 ∧ b.f2.f0 ≤ 150) ∧ (-150 ≤ b.f2.f1 ∧ b.f2.f1 ≤ 150) ∧ 0 ≤ b.f3 ∧ b.f3 ≤ 100
theorem wcheck_j2 (l : List Bd) (i : Nat) (hi : i < l.length) (hl : l.length ≤ 16) (x : Bool) (a b c d e : Int) (k : Nat) (R : Int → Prop) (h4 : R 4) (h3 : R 3) (hn : x = false → ∃ r, wind_Check.l0 k l l (l.length : Int) ((i + 1 : Nat) : Int) = some r ∧ R r) :
    ∃ r, wind_Check.j2 (k + 1) l (i : Int) l (l.length : Int) (i : Int) x a b c d e = some r ∧ R r := by
  rw [wind_Check.j2]
  by_cases c0 : x = true
  · rw [if_pos c0]; exact ⟨4, rfl, h4⟩
  rw [if_neg c0, w64 (x := (i : Int) + 1) (by omega) (by omega), show ((i : Int) + 1) = ((i + 1 : Nat) : Int) by omega]
  have hn' := hn (by simpa using c0)
  by_cases c1 : (i : Int) > 0
  · rw [if_pos c1, w64 (x := (i : Int) - 1) (by omega) (by omega), if_pos (by omega), if_pos (by omega)]
    split
    · exact ⟨3, rfl, h3⟩
    · exact hn'
  · rw [if_neg c1]; exact hn'
theorem wcheck_l (l : List Bd) (hl : l.length ≤ 16) : ∀ (d k i : Nat), i + d = l.length → 3 * d < k → ∃ e, wind_Check.l0 k l l (l.length : Int) (i : Int) = some e ∧ (e = 0 → ∀ j (h : j < l.length), i ≤ j → BdOk l[j])
  | 0, k, i, hi, hk => by
    obtain ⟨k, rfl⟩ : ∃ m, k = m + 1 := ⟨k - 1, by omega⟩
    exact ⟨0, by rw [wind_Check.l0, if_neg (by omega)], fun _ j h1 h2 => by omega⟩
  | d + 1, k, i, hi, hk => by
    obtain ⟨k, rfl⟩ : ∃ m, k = m + 3 := ⟨k - 3, by omega⟩
    have hlt : i < l.length := by omega
    obtain ⟨e, he, hz⟩ := wcheck_l l hl d k (i + 1) (by omega) (by omega)
    have bad : ∀ a b c d e, ∃ r, wind_Check.j1 (k + 2) l (i : Int) l (l.length : Int) (i : Int) true a b c d e = some r ∧ (r = 0 → ∀ j (h : j < l.length), i ≤ j → BdOk l[j]) := fun a b c d e => by
      rw [wind_Check.j1, if_pos rfl]
      exact ⟨4, rfl, fun h => by omega⟩
    have bad2 : ∀ a b c d e, ∃ r, wind_Check.j2 (k + 1) l (i : Int) l (l.length : Int) (i : Int) true a b c d e = some r ∧ (r = 0 → ∀ j (h : j < l.length), i ≤ j → BdOk l[j]) := fun a b c d e => by
      rw [wind_Check.j2, if_pos rfl]
      exact ⟨4, rfl, fun h => by omega⟩
    rw [wind_Check.l0, if_pos (by omega), if_pos (by omega), if_pos (by omega), rdW hlt]
    by_cases c1 : l[i].f0 < 0
    · rw [if_pos c1]; exact bad _ _ _ _ _
    rw [if_neg c1]
    by_cases c2 : l[i].f1 > 60001
    · rw [if_pos c2]; exact bad _ _ _ _ _
    rw [if_neg c2]
    by_cases c3 : l[i].f0 ≥ l[i].f1
    · rw [decide_eq_true c3]; exact bad _ _ _ _ _
    rw [decide_eq_false c3, wind_Check.j1, if_neg (by decide)]
    by_cases c4 : l[i].f2.f0 < -150
    · rw [if_pos c4]; exact bad2 _ _ _ _ _
    rw [if_neg c4]
    by_cases c5 : l[i].f2.f0 > 150
    · rw [if_pos c5]; exact bad2 _ _ _ _ _
    rw [if_neg c5]
    by_cases c6 : l[i].f2.f1 < -150
    · rw [if_pos c6]; exact bad2 _ _ _ _ _
    rw [if_neg c6]
    by_cases c7 : l[i].f2.f1 > 150
    · rw [if_pos c7]; exact bad2 _ _ _ _ _
    rw [if_neg c7]
    by_cases c8 : l[i].f3 < 0
    · rw [if_pos c8]; exact bad2 _ _ _ _ _
    rw [if_neg c8]
    refine wcheck_j2 l i hlt hl _ _ _ _ _ _ k (fun r => r = 0 → ∀ j (h : j < l.length), i ≤ j → BdOk l[j]) (fun h => by omega) (fun h => by omega) (fun hx => ?_)
    have c9 : ¬ l[i].f3 > 100 := of_decide_eq_false hx
    refine ⟨e, he, fun h j hj hij => ?_⟩
    by_cases cj : j = i
    · subst cj
      exact ⟨⟨by omega, by omega, by omega⟩, ⟨by omega, by omega⟩, ⟨by omega, by omega⟩, by omega, by omega⟩
    · exact hz h j hj (by omega)
theorem wcheck_f (l : List Bd) (k : Nat) (hk : 60 ≤ k) : ∃ e, wind_Check.f k l = some e ∧ (e = 0 → l.length ≤ 16 ∧ ∀ j (h : j < l.length), BdOk l[j]) := by
  unfold wind_Check.f
  by_cases c : (l.length : Int) > 16
  · rw [if_pos c]; exact ⟨2, rfl, fun h => by omega⟩
  · rw [if_neg c]
    obtain ⟨e, he, hz⟩ := wcheck_l l (by omega) l.length k 0 (by omega) (by omega)
    exact ⟨e, he, fun h => ⟨by omega, fun j hj => hz h j hj (Nat.zero_le _)⟩⟩
theorem windWorks (k : Nat) (hk : 60 ≤ k) : skywaykeep1_windWorks.f k = some true := by
  have h : skywaykeep1_windWorks.f 60 = some true := by decide +kernel
  exact at_rounds skywaykeep1_windWorks.mono hk h
theorem down (k : Nat) (a b : Int) (a1 : -9223372036854775808 ≤ a) (a2 : a ≤ 9223372036854775807) (hb : b ≠ 0) (hno : ¬ (a = -9223372036854775808 ∧ b = -1)) : num_DivDown.f (k + 1) a b = some (Int.fdiv a b, 0) := by
  obtain ⟨r1, r2⟩ := fdiv_range a1 a2 hb hno
  have hf := tdiv_floor a b hb
  have main : num_DivDown.j0 (k + 1) a b false = some (Int.fdiv a b, 0) := by
    rw [num_DivDown.j0, if_neg (by decide), if_neg hb]
    by_cases h0 : Int.tmod a b = 0
    · rw [if_pos h0] at hf ⊢
      rw [hf, w64 r1 r2]
    · rw [if_neg h0] at hf ⊢
      by_cases hs : ((decide (a < 0)) != (decide (b < 0))) = true
      · rw [if_pos hs] at hf ⊢
        have ht : -9223372036854775808 ≤ Int.tdiv a b ∧ Int.tdiv a b ≤ 9223372036854775807 := by
          refine ⟨by omega, ?_⟩
          have h1 := Int.tdiv_nonpos_of_nonneg_of_nonpos (a := a) (b := b)
          by_cases ha : a < 0
          · have hb' : 0 < b := by
              simp [ha] at hs
              omega
            have h2 : Int.tdiv a b ≤ 0 := by
              have := Int.tdiv_nonneg (a := -a) (b := b) (by omega) (by omega)
              rw [Int.neg_tdiv] at this
              omega
            omega
          · have hb' : b < 0 := by
              simp [ha] at hs
              exact hs
            have := h1 (by omega) (by omega)
            omega
        rw [w64 ht.1 ht.2, hf, w64 r1 r2]
      · rw [if_neg hs] at hf ⊢
        rw [hf, w64 r1 r2]
  rw [num_DivDown.f, if_neg hb]
  by_cases ha : a = -9223372036854775808
  · rw [if_pos ha]
    have : (b == -1) = false := beq_eq_false_iff_ne.mpr (fun h => hno ⟨ha, h⟩)
    rw [this]
    exact main
  · rw [if_neg ha]
    exact main
theorem down_pos (k : Nat) (a b : Int) (a1 : -9223372036854775808 ≤ a) (a2 : a ≤ 9223372036854775807) (hb : 0 < b) : num_DivDown.f (k + 1) a b = some (a / b, 0) := by
  rw [down k a b a1 a2 (by omega) (by omega), fdiv_pos hb]
theorem up (k : Nat) (a b : Int) (a1 : -9223372036854775808 ≤ a) (a2 : a ≤ 9223372036854775807) (hb : b ≠ 0) (hno : ¬ (a = -9223372036854775808 ∧ b = -1)) : num_DivUp.f (k + 1) a b = some (if Int.tmod a b = 0 then Int.fdiv a b else Int.fdiv a b + 1, 0) := by
  rw [num_DivUp.f, down k a b a1 a2 hb hno]
  simp only [Option.bind_some, if_true]
  rw [if_neg hb]
  by_cases h0 : Int.tmod a b = 0
  · rw [if_pos h0, if_pos h0]
  · rw [if_neg h0, if_neg h0]
    obtain ⟨r1, r2⟩ := fdiv_range a1 a2 hb hno
    have : Int.fdiv a b < 9223372036854775807 := by
      rcases Int.lt_or_le (Int.fdiv a b) 9223372036854775807 with h | h
      · exact h
      · exfalso
        have e : Int.fdiv a b = 9223372036854775807 := by omega
        have hm := Int.mul_fdiv_add_fmod a b
        rw [e] at hm
        have hn : Int.fmod a b ≠ 0 := fun h => h0 (Int.dvd_iff_tmod_eq_zero.1 (Int.dvd_iff_fmod_eq_zero.2 h))
        rcases Int.lt_or_le 0 b with hp | hp
        · have := Int.fmod_nonneg_of_pos a hp
          have := Int.fmod_lt_of_pos a hp
          omega
        · have h1 := Int.mul_fdiv_add_fmod (-a) (-b)
          rw [Int.neg_fdiv_neg, e] at h1
          have := Int.fmod_nonneg_of_pos (-a) (show 0 < -b by omega)
          have := Int.fmod_lt_of_pos (-a) (show 0 < -b by omega)
          omega
    rw [w64 (by omega) (by omega)]
theorem up_pos (k : Nat) (a b : Int) (a1 : -9223372036854775808 ≤ a) (a2 : a ≤ 9223372036854775807) (hb : 0 < b) : num_DivUp.f (k + 1) a b = some (if a % b = 0 then a / b else a / b + 1, 0) := by
  rw [up k a b a1 a2 (by omega) (by omega), fdiv_pos hb]
  have : Int.tmod a b = 0 ↔ a % b = 0 := by rw [← Int.dvd_iff_tmod_eq_zero]; exact Int.dvd_iff_emod_eq_zero
  by_cases h : a % b = 0
  · rw [if_pos h, if_pos (this.2 h)]
  · rw [if_neg h, if_neg (fun g => h (this.1 g))]
theorem wcheck_one (b : Bd) (hb : BdOk b) (k : Nat) (hk : 60 ≤ k) : wind_Check.f k [b] = some 0 := by
  obtain ⟨m, rfl⟩ : ∃ m, k = m + 4 := ⟨k - 4, by omega⟩
  obtain ⟨⟨h1, h2, h3⟩, ⟨h4, h5⟩, ⟨h6, h7⟩, h8, h9⟩ := hb
  have r : rd_T38 [b] 0 = b := rfl
  have e1 : (([b].length : Nat) : Int) = 1 := rfl
  unfold wind_Check.f
  rw [e1, if_neg (by decide), wind_Check.l0, if_pos (by decide), if_pos (by decide), e1, if_pos (by decide), r, if_neg (by omega), if_neg (by omega), decide_eq_false (show ¬ b.f0 ≥ b.f1 by omega),
    wind_Check.j1, if_neg (by decide), if_neg (by omega), if_neg (by omega), if_neg (by omega), if_neg (by omega), if_neg (by omega), decide_eq_false (show ¬ b.f3 > 100 by omega),
    wind_Check.j2, if_neg (by decide), show wrap64 (0 + 1) = 1 by (unfold wrap64; omega), if_neg (by decide), wind_Check.l0, if_neg (by decide)]
theorem mx_abs {a : Int} (h1 : -16384 ≤ a) (h2 : a ≤ 16384) : 0 ≤ mx a (wrap64 (-a)) ∧ mx a (wrap64 (-a)) ≤ 16384 := by
  rw [w64 (x := -a) (by omega) (by omega)]
  unfold mx
  split <;> omega
theorem ground_f (k : Nat) (s h l0 l1 x y e : Int) (hs : 1 ≤ s ∧ s ≤ 400) (hx : -150 ≤ x ∧ x ≤ 150) (hy : -150 ≤ y ∧ y ≤ 150) (he : 0 ≤ e ∧ e ≤ 100) :
    ∃ E : Int, 0 ≤ E ∧ E ≤ 3276800 ∧ (e = 0 → E = 0) ∧ wind_ground.f (k + 1) s h l0 l1 x y e = some (mx 1 (s + (x * Ang.sinI h + y * Ang.cosI h - E) / 16384), mx 1 (s + (if (x * Ang.sinI h + y * Ang.cosI h + E) % 16384 = 0 then (x * Ang.sinI h + y * Ang.cosI h + E) / 16384 else (x * Ang.sinI h + y * Ang.cosI h + E) / 16384 + 1))) := by
  obtain ⟨_, _, _, _, s1, s2⟩ := Ang.circ_at h
  obtain ⟨c1, c2⟩ := Ang.cos_bd h
  have bx := mul_bd hx.1 hx.2 s1 s2
  have bY := mul_bd hy.1 hy.2 c1 c2
  have m1 := mx_abs s1 s2
  have m2 := mx_abs c1 c2
  have aw : Ang.sinI (wrap64 (h + 1024)) = Ang.cosI h := Ang.sinI_wrap _
  have ca : angle_Cos.f h = some (Ang.cosI h) := by
    unfold angle_Cos.f angle_Sin.f
    rw [Option.bind_some, aw]
  generalize hS : Ang.sinI h = S at *
  generalize hC : Ang.cosI h = C at *
  generalize hX : x * S = X at *
  generalize hY : y * C = Y at *
  generalize h1 : mx S (wrap64 (-S)) = p at *
  generalize h2 : mx C (wrap64 (-C)) = q at *
  have pe := mul_bd (x := e) (y := p + q) (A := 100) (B := 32768) (by omega) (by omega) (by omega) (by omega)
  have p0 := Int.mul_nonneg he.1 (show 0 ≤ p + q by omega)
  have z0 : e = 0 → e * (p + q) = 0 := fun h => by rw [h, Int.zero_mul]
  refine ⟨e * (p + q), p0, by omega, z0, ?_⟩
  unfold wind_ground.f
  rw [ca, show angle_Sin.f h = some S by unfold angle_Sin.f; rw [hS], Option.bind_some, Option.bind_some, hX, hY, h1, h2]
  generalize hE : e * (p + q) = E at *
  rw [w64 (x := p + q) (by omega) (by omega), hE, w64 (x := X) (by omega) (by omega), w64 (x := Y) (by omega) (by omega), w64 (x := E) (by omega) (by omega), w64 (x := X + Y) (by omega) (by omega), w64 (x := X + Y - E) (by omega) (by omega), w64 (x := X + Y + E) (by omega) (by omega),
    down_pos k _ _ (by omega) (by omega) (by decide), up_pos k _ _ (by omega) (by omega) (by decide), Option.bind_some, Option.bind_some]
  dsimp only
  rw [w64 (x := s + (X + Y - E) / 16384) (by omega) (by omega), w64 (x := s + _) (by split <;> omega) (by split <;> omega)]
theorem Ground_f (k : Nat) (hk : 60 ≤ k) (s h l0 l1 x y e : Int) (hs : 1 ≤ s ∧ s ≤ 400) (hb : BdOk ⟨l0, l1, ⟨x, y⟩, e⟩) :
    ∃ E : Int, 0 ≤ E ∧ E ≤ 3276800 ∧ (e = 0 → E = 0) ∧ wind_Ground.f k s h l0 l1 x y e = some (mx 1 (s + (x * Ang.sinI h + y * Ang.cosI h - E) / 16384), mx 1 (s + (if (x * Ang.sinI h + y * Ang.cosI h + E) % 16384 = 0 then (x * Ang.sinI h + y * Ang.cosI h + E) / 16384 else (x * Ang.sinI h + y * Ang.cosI h + E) / 16384 + 1)), 0) := by
  obtain ⟨m, rfl⟩ : ∃ m, k = m + 1 := ⟨k - 1, by omega⟩
  have hb' := hb
  obtain ⟨_, hx, hy, h8, h9⟩ := hb
  obtain ⟨E, a, b, c, d⟩ := ground_f m s h l0 l1 x y e hs hx hy ⟨h8, h9⟩
  refine ⟨E, a, b, c, ?_⟩
  unfold wind_Ground.f
  rw [wcheck_one _ hb' _ hk, Option.bind_some, if_pos rfl, if_neg (by omega), if_neg (by omega), d]
  rfl
theorem WindBounds : skywaykeep1_WindBounds.Pure := by
  intro s h l0 l1 x y e _ _ _ _ _ _ _
  refine ⟨200, ?_⟩
  unfold skywaykeep1_WindBounds.f
  rw [windWorks _ (by omega), Option.bind_some, if_pos rfl]
  obtain ⟨t, ht, hz⟩ := wcheck_f [⟨l0, l1, ⟨x, y⟩, e⟩] 200 (by omega)
  by_cases c0 : t = 0
  · have hb : BdOk ⟨l0, l1, ⟨x, y⟩, e⟩ := (hz c0).2 0 (Nat.zero_lt_one)
    by_cases hs : 1 ≤ s ∧ s ≤ 400
    · have hb0 : BdOk ⟨l0, l1, ⟨x, y⟩, 0⟩ := ⟨hb.1, hb.2.1, hb.2.2.1, Int.le_refl 0, show (0 : Int) ≤ 100 by decide⟩
      obtain ⟨E, a1, a2, _, g1⟩ := Ground_f 200 (by omega) s h l0 l1 x y e hs hb
      obtain ⟨E0, _, _, z0, g2⟩ := Ground_f 199 (by omega) s h l0 l1 x y 0 hs hb0
      obtain ⟨E1, _, _, z1, g3⟩ := Ground_f 199 (by omega) s (wrap64 (h + 2048)) l0 l1 x y 0 hs hb0
      obtain ⟨_, _, sb, _, s1, s2⟩ := Ang.circ_at h
      obtain ⟨_, _, cb, _, _, _⟩ := Ang.circ_at (h + 1024)
      obtain ⟨c1, c2⟩ := Ang.cos_bd h
      have bx := mul_bd hb.2.1.1 hb.2.1.2 s1 s2
      have bY := mul_bd hb.2.2.1.1 hb.2.2.1.2 c1 c2
      have n1 : x * Ang.sinI (wrap64 (h + 2048)) = -(x * Ang.sinI h) := by rw [Ang.sinI_wrap, sb, Int.mul_neg]
      have n2 : y * Ang.cosI (wrap64 (h + 2048)) = -(y * Ang.cosI h) := by
        rw [Ang.cosI_wrap, show Ang.cosI (h + 2048) = Ang.sinI (h + 1024 + 2048) from congrArg Ang.sinI (by omega), cb, Int.mul_neg]
        rfl
      rw [n1, n2] at g3
      rw [z0 rfl] at g2
      rw [z1 rfl] at g3
      rw [g1, Option.bind_some]
      dsimp only at bx bY ⊢
      rw [if_pos rfl, skywaykeep1_WindBounds.j0, g2, g3, Option.bind_some, Option.bind_some]
      dsimp only
      rw [if_pos rfl, if_pos rfl]
      generalize x * Ang.sinI h = X at *
      generalize y * Ang.cosI h = Y at *
      have bc : -4915200 ≤ X + Y ∧ X + Y ≤ 4915200 := by omega
      rw [show -X + -Y = -(X + Y) by omega]
      generalize X + Y = c at *
      clear g1 g2 g3 bx bY n1 n2 sb cb z0 z1 ht hz
      have key : ∀ a b : Int, mx 1 a = b → (1 < a ∧ b = a) ∨ (a ≤ 1 ∧ b = 1) := by
        intro a b hab
        unfold mx at hab
        split at hab <;> omega
      generalize r1 : mx 1 (s + (c - E) / 16384) = A at *
      generalize r2 : mx 1 (s + (if (c + E) % 16384 = 0 then (c + E) / 16384 else (c + E) / 16384 + 1)) = B at *
      generalize r3 : mx 1 (s + (c - 0) / 16384) = C at *
      generalize r4 : mx 1 (s + (if (c + 0) % 16384 = 0 then (c + 0) / 16384 else (c + 0) / 16384 + 1)) = D at *
      generalize r5 : mx 1 (s + (-c - 0) / 16384) = F at *
      generalize r6 : mx 1 (s + (if (-c + 0) % 16384 = 0 then (-c + 0) / 16384 else (-c + 0) / 16384 + 1)) = G at *
      replace r1 := key _ _ r1
      replace r2 := key _ _ r2
      replace r3 := key _ _ r3
      replace r4 := key _ _ r4
      replace r5 := key _ _ r5
      replace r6 := key _ _ r6
      have dz : (0 : Int) ≤ 0 := by omega
      have k1 : (-c) % 16384 = 0 ↔ c % 16384 = 0 := by omega
      have up1 : ∃ u, (if (c + E) % 16384 = 0 then (c + E) / 16384 else (c + E) / 16384 + 1) = u ∧ (u - 1) * 16384 < c + E ∧ c + E ≤ u * 16384 := by
        refine ⟨_, rfl, ?_⟩
        split <;> omega
      have up2 : ∃ u, (if (c + 0) % 16384 = 0 then (c + 0) / 16384 else (c + 0) / 16384 + 1) = u ∧ (u - 1) * 16384 < c ∧ c ≤ u * 16384 := by
        refine ⟨_, rfl, ?_⟩
        split <;> omega
      have up3 : ∃ u, (if (-c + 0) % 16384 = 0 then (-c + 0) / 16384 else (-c + 0) / 16384 + 1) = u ∧ (u - 1) * 16384 < -c ∧ -c ≤ u * 16384 := by
        refine ⟨_, rfl, ?_⟩
        split <;> omega
      obtain ⟨u1, e1, f1, f1'⟩ := up1
      obtain ⟨u2, e2, f2, f2'⟩ := up2
      obtain ⟨u3, e3, f3, f3'⟩ := up3
      rw [e1] at r2
      rw [e2] at r4
      rw [e3] at r6
      have d1 : ∃ v, (c - E) / 16384 = v ∧ v * 16384 ≤ c - E ∧ c - E < (v + 1) * 16384 := ⟨_, rfl, by omega, by omega⟩
      have d2 : ∃ v, (c - 0) / 16384 = v ∧ v * 16384 ≤ c ∧ c < (v + 1) * 16384 := ⟨_, rfl, by omega, by omega⟩
      have d3 : ∃ v, (-c - 0) / 16384 = v ∧ v * 16384 ≤ -c ∧ -c < (v + 1) * 16384 := ⟨_, rfl, by omega, by omega⟩
      obtain ⟨v1, i1, j1, j1'⟩ := d1
      obtain ⟨v2, i2, j2, j2'⟩ := d2
      obtain ⟨v3, i3, j3, j3'⟩ := d3
      rw [i1] at r1
      rw [i2] at r3
      rw [i3] at r5
      clear e1 e2 e3 i1 i2 i3 k1 key
      have o1 : v1 ≤ v2 := by omega
      have o2 : u2 ≤ u1 := by omega
      have o3 : v2 ≤ u2 := by omega
      have o4 : u2 ≤ v2 + 1 := by omega
      have o5 : u3 = -v2 := by omega
      have o6 : v3 = -u2 := by omega
      have vb : -400 ≤ v2 ∧ v2 ≤ 400 := by omega
      have ub : -400 ≤ u2 ∧ u2 ≤ 400 := by omega
      subst o5 o6
      clear f1 f1' f2 f2' f3 f3' j1 j1' j2 j2' j3 j3' dz
      rw [if_neg (show ¬ C < A by omega), if_neg (show ¬ D > B by omega), if_neg (show ¬ A > B by omega), w64 (x := D - C) (by omega) (by omega), if_neg (show ¬ D - C > 1 by omega)]
      by_cases q1 : C = 1
      · rw [if_pos q1]
      rw [if_neg q1]
      by_cases q2 : F = 1
      · rw [if_pos q2]
      rw [if_neg q2, w64 (x := C + G) (by omega) (by omega), w64 (x := D + F) (by omega) (by omega), w64 (x := 2 * s) (by omega) (by omega), if_pos (by omega)]
      rw [show D + F = 2 * s by omega]
      simp
    · unfold wind_Ground.f
      rw [ht, Option.bind_some, if_pos c0]
      by_cases c1 : s < 1
      · rw [if_pos c1]; rfl
      · rw [if_neg c1, if_pos (by omega)]; rfl
  · unfold wind_Ground.f
    rw [ht, Option.bind_some, if_neg c0, Option.bind_some]
    dsimp only
    rw [if_neg c0]
    rfl
end Go.Proofs.YthpbpdobghceeaaDoor.Pure
