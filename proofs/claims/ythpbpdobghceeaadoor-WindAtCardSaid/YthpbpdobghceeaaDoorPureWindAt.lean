/- WindAt: the band that At returns holds the height, and is one of those that were handed over, or the calm one. -/
import Derived.Test.YthpbpdobghceeaaDoorPWindAtx
import Derived.Test.YthpbpdobghceeaaDoorMath
namespace Go.Proofs.YthpbpdobghceeaaDoor.Pure
open Go Go.RowKit Go.Proofs.YthpbpdobghceeaaDoor Go.Proofs.YthpbpdobghceeaaDoor.PWindAt Go.Proofs.YthpbpdobghceeaaDoorW.PrintWords Go.Proofs.YthpbpdobghceeaaDoorW.PrintLast Go.Proofs.YthpbpdobghceeaaDoorW.PrintMore Go.Proofs.YthpbpdobghceeaaDoorM
abbrev Bd := S38
theorem rdW {l : List Bd} {i : Nat} (h : i < l.length) : rd_T38 l (i : Int) = l[i] := by
  unfold rd_T38
  rw [Int.toNat_natCast, List.getD_eq_getElem?_getD, List.getElem?_eq_getElem h]
  rfl
/-- A permitted band. -/
def BdOk (b : Bd) : Prop := (0 ≤ b.f0 ∧ b.f1 ≤ 60001 ∧ b.f0 < b.f1) ∧ (-150 ≤ b.f2.f0 ∧ b.f2.f0 ≤ 150) ∧ (-150 ≤ b.f2.f1 ∧ b.f2.f1 ≤ 150) ∧ 0 ≤ b.f3 ∧ b.f3 ≤ 100
theorem wcheck_j2 (l : List Bd) (i : Nat) (hi : i < l.length) (hl : l.length ≤ 16) (x : Bool) (a b c d e : Int) (k : Nat) (R : Int → Prop) (h4 : R 4) (h3 : R 3) (hn : x = false → ∃ r, wind_Check.l0 k l l (l.length : Int) ((i + 1 : Nat) : Int) = some r ∧ R r) :
    ∃ r, wind_Check.j2 (k + 1) l (i : Int) l (l.length : Int) (i : Int) x a b c d e = some r ∧ R r := by
  rw [wind_Check.j2]
  by_cases c0 : x = true
  · rw [if_pos c0]; exact ⟨4, rfl, h4⟩
  rw [if_neg c0, w64 (x := (i : Int) + 1) (by omega) (by omega), show ((i : Int) + 1) = ((i + 1 : Nat) : Int) by omega]
  have hn' := hn (by simpa using c0)
  by_cases c1 : (i : Int) > 0
  · rw [if_pos c1, w64 (x := (i : Int) - 1) (by omega) (by omega), if_pos (by omega), if_pos (by omega)]
    split
    · exact ⟨3, rfl, h3⟩
    · exact hn'
  · rw [if_neg c1]; exact hn'
theorem wcheck_l (l : List Bd) (hl : l.length ≤ 16) : ∀ (d k i : Nat), i + d = l.length → 3 * d < k → ∃ e, wind_Check.l0 k l l (l.length : Int) (i : Int) = some e ∧ (e = 0 → ∀ j (h : j < l.length), i ≤ j → BdOk l[j])
  | 0, k, i, hi, hk => by
    obtain ⟨k, rfl⟩ : ∃ m, k = m + 1 := ⟨k - 1, by omega⟩
    exact ⟨0, by rw [wind_Check.l0, if_neg (by omega)], fun _ j h1 h2 => by omega⟩
  | d + 1, k, i, hi, hk => by
    obtain ⟨k, rfl⟩ : ∃ m, k = m + 3 := ⟨k - 3, by omega⟩
    have hlt : i < l.length := by omega
    obtain ⟨e, he, hz⟩ := wcheck_l l hl d k (i + 1) (by omega) (by omega)
    have bad : ∀ a b c d e, ∃ r, wind_Check.j1 (k + 2) l (i : Int) l (l.length : Int) (i : Int) true a b c d e = some r ∧ (r = 0 → ∀ j (h : j < l.length), i ≤ j → BdOk l[j]) := fun a b c d e => by
      rw [wind_Check.j1, if_pos rfl]
      exact ⟨4, rfl, fun h => by omega⟩
    have bad2 : ∀ a b c d e, ∃ r, wind_Check.j2 (k + 1) l (i : Int) l (l.length : Int) (i : Int) true a b c d e = some r ∧ (r = 0 → ∀ j (h : j < l.length), i ≤ j → BdOk l[j]) := fun a b c d e => by
      rw [wind_Check.j2, if_pos rfl]
      exact ⟨4, rfl, fun h => by omega⟩
    rw [wind_Check.l0, if_pos (by omega), if_pos (by omega), if_pos (by omega), rdW hlt]
    by_cases c1 : l[i].f0 < 0
    · rw [if_pos c1]; exact bad _ _ _ _ _
    rw [if_neg c1]
    by_cases c2 : l[i].f1 > 60001
    · rw [if_pos c2]; exact bad _ _ _ _ _
    rw [if_neg c2]
    by_cases c3 : l[i].f0 ≥ l[i].f1
    · rw [decide_eq_true c3]; exact bad _ _ _ _ _
    rw [decide_eq_false c3, wind_Check.j1, if_neg (by decide)]
    by_cases c4 : l[i].f2.f0 < -150
    · rw [if_pos c4]; exact bad2 _ _ _ _ _
    rw [if_neg c4]
    by_cases c5 : l[i].f2.f0 > 150
    · rw [if_pos c5]; exact bad2 _ _ _ _ _
    rw [if_neg c5]
    by_cases c6 : l[i].f2.f1 < -150
    · rw [if_pos c6]; exact bad2 _ _ _ _ _
    rw [if_neg c6]
    by_cases c7 : l[i].f2.f1 > 150
    · rw [if_pos c7]; exact bad2 _ _ _ _ _
    rw [if_neg c7]
    by_cases c8 : l[i].f3 < 0
    · rw [if_pos c8]; exact bad2 _ _ _ _ _
    rw [if_neg c8]
    refine wcheck_j2 l i hlt hl _ _ _ _ _ _ k (fun r => r = 0 → ∀ j (h : j < l.length), i ≤ j → BdOk l[j]) (fun h => by omega) (fun h => by omega) (fun hx => ?_)
    have c9 : ¬ l[i].f3 > 100 := of_decide_eq_false hx
    refine ⟨e, he, fun h j hj hij => ?_⟩
    by_cases cj : j = i
    · subst cj
      exact ⟨⟨by omega, by omega, by omega⟩, ⟨by omega, by omega⟩, ⟨by omega, by omega⟩, by omega, by omega⟩
    · exact hz h j hj (by omega)
theorem wcheck_f (l : List Bd) (k : Nat) (hk : 60 ≤ k) : ∃ e, wind_Check.f k l = some e ∧ (e = 0 → l.length ≤ 16 ∧ ∀ j (h : j < l.length), BdOk l[j]) := by
  unfold wind_Check.f
  by_cases c : (l.length : Int) > 16
  · rw [if_pos c]; exact ⟨2, rfl, fun h => by omega⟩
  · rw [if_neg c]
    obtain ⟨e, he, hz⟩ := wcheck_l l (by omega) l.length k 0 (by omega) (by omega)
    exact ⟨e, he, fun h => ⟨by omega, fun j hj => hz h j hj (Nat.zero_le _)⟩⟩
theorem windWorks (k : Nat) (hk : 60 ≤ k) : skywaykeep1_windWorks.f k = some true := by
  have h : skywaykeep1_windWorks.f 60 = some true := by decide +kernel
  exact at_rounds skywaykeep1_windWorks.mono hk h
theorem at_l (h : Int) (l : List Bd) (hl : l.length ≤ 16) : ∀ (d k i : Nat), i + d = l.length → d < k → ∃ b : Bd, wind_at.l0 k h l (l.length : Int) (i : Int) = some (b.f0, b.f1, b.f2.f0, b.f2.f1, b.f3) ∧ ((∃ j, ∃ hj : j < l.length, b = l[j] ∧ b.f0 ≤ h ∧ h < b.f1) ∨ b = ⟨0, 60001, ⟨0, 0⟩, 0⟩)
  | 0, k, i, hi, hk => by
    obtain ⟨k, rfl⟩ : ∃ m, k = m + 1 := ⟨k - 1, by omega⟩
    exact ⟨⟨0, 60001, ⟨0, 0⟩, 0⟩, by rw [wind_at.l0, if_neg (by omega)], .inr rfl⟩
  | d + 1, k, i, hi, hk => by
    obtain ⟨k, rfl⟩ : ∃ m, k = m + 1 := ⟨k - 1, by omega⟩
    have hlt : i < l.length := by omega
    have ih := at_l h l hl d k (i + 1) (by omega) (by omega)
    rw [wind_at.l0, if_pos (by omega), if_pos (by omega), if_pos (by omega), rdW hlt, w64 (x := (i : Int) + 1) (by omega) (by omega), show ((i : Int) + 1) = ((i + 1 : Nat) : Int) by omega]
    by_cases c1 : h ≥ l[i].f0
    · rw [if_pos c1]
      by_cases c2 : h < l[i].f1
      · rw [if_pos c2]; exact ⟨l[i], rfl, .inl ⟨i, hlt, rfl, c1, c2⟩⟩
      · rw [if_neg c2]; exact ih
    · rw [if_neg c1]; exact ih
theorem law_l (h : Int) (b : Bd) (h1 : b.f0 ≤ h) (h2 : h < b.f1) (l : List Bd) (hl : l.length ≤ 16) : ∀ (d k i : Nat) (x : Bool), i + d = l.length → d < k → (x = true ∨ (∃ j, ∃ hj : j < l.length, i ≤ j ∧ b = l[j]) ∨ b = ⟨0, 60001, ⟨0, 0⟩, 0⟩) →
    skywaykeep1_WindAt.l0 k h x l (l.length : Int) (i : Int) b.f0 b.f1 b.f2.f0 b.f2.f1 b.f3 = some true
  | 0, k, i, x, hi, hk, hx => by
    obtain ⟨k, rfl⟩ : ∃ m, k = m + 1 := ⟨k - 1, by omega⟩
    rw [skywaykeep1_WindAt.l0, if_neg (by omega), if_pos h1, if_pos h2]
    by_cases c : x = true
    · rw [if_pos c]
    · rw [if_neg c]
      rcases hx with hx | ⟨j, hj, hij, _⟩ | rfl
      · exact absurd hx c
      · omega
      · rfl
  | d + 1, k, i, x, hi, hk, hx => by
    obtain ⟨k, rfl⟩ : ∃ m, k = m + 1 := ⟨k - 1, by omega⟩
    have hlt : i < l.length := by omega
    rw [skywaykeep1_WindAt.l0, if_pos (by omega), if_pos (by omega), if_pos (by omega), rdW hlt, w64 (x := (i : Int) + 1) (by omega) (by omega), show ((i : Int) + 1) = ((i + 1 : Nat) : Int) by omega]
    by_cases c : x = true
    · rw [if_pos c]
      exact law_l h b h1 h2 l hl d k (i + 1) true (by omega) (by omega) (.inl rfl)
    · rw [if_neg c]
      refine law_l h b h1 h2 l hl d k (i + 1) _ (by omega) (by omega) ?_
      rcases hx with hx | ⟨j, hj, hij, hb⟩ | hb
      · exact absurd hx c
      · by_cases cj : j = i
        · subst cj
          left
          rw [hb]
          simp
        · exact .inr (.inl ⟨j, hj, by omega, hb⟩)
      · exact .inr (.inr hb)
theorem WindAt : skywaykeep1_WindAt.Pure := by
  intro l h _ _
  refine ⟨200, ?_⟩
  unfold skywaykeep1_WindAt.f
  rw [windWorks _ (by omega), Option.bind_some, if_pos rfl]
  obtain ⟨e, he, hz⟩ := wcheck_f l 200 (by omega)
  unfold wind_At.f
  rw [he, Option.bind_some]
  by_cases c0 : e = 0
  · obtain ⟨h16, _⟩ := hz c0
    rw [if_pos c0]
    by_cases c1 : h < 0
    · rw [if_pos c1]; rfl
    rw [if_neg c1]
    by_cases c2 : h > 60000
    · rw [if_pos c2]; rfl
    rw [if_neg c2]
    unfold wind_at.f
    obtain ⟨b, hb, hc⟩ := at_l h l h16 l.length 200 0 (by omega) (by omega)
    rw [show ((0 : Nat) : Int) = 0 from rfl] at hb
    rw [hb, Option.bind_some, Option.bind_some]
    dsimp only
    rw [if_pos rfl]
    rcases hc with ⟨j, hj, hbj, g1, g2⟩ | rfl
    · exact law_l h b g1 g2 l h16 l.length 200 0 false (by omega) (by omega) (.inr (.inl ⟨j, hj, Nat.zero_le _, hbj⟩))
    · exact law_l h _ (show (0 : Int) ≤ h by omega) (show h < 60001 by omega) l h16 l.length 200 0 false (by omega) (by omega) (.inr (.inr rfl))
  · rw [if_neg c0, Option.bind_some]
    dsimp only
    rw [if_neg c0]
    rfl
end Go.Proofs.YthpbpdobghceeaaDoor.Pure
