/- RouteDirect: the fixes of a route, as a route of fixes alone, are the same route. -/
import Derived.Test.YtbpbpojnfhhbjaaPRouteDirectx
import Derived.Test.YtbpbpojnfhhbjaaTMath
import Derived.Laws.Strings
namespace Go.Proofs.Ytbpbpojnfhhbjaa.Pure
open Go Go.RowKit Go.Proofs.Ytbpbpojnfhhbjaa Go.Proofs.Ytbpbpojnfhhbjaa.PRouteDirect Go.Proofs.YtbpbpojnfhhbjaaW.PrintWords Go.Proofs.YtbpbpojnfhhbjaaW.PrintLast Go.Proofs.YtbpbpojnfhhbjaaW.PrintMore Go.Proofs.YtbpbpojnfhhbjaaM
/-- A permitted coordinate. -/
def Ok (x y : Int) : Prop := -1000000 ≤ x ∧ x ≤ 1000000 ∧ -1000000 ≤ y ∧ y ≤ 1000000
instance (x y : Int) : Decidable (Ok x y) := inferInstanceAs (Decidable (_ ∧ _))
theorem check_f (x y : Int) : plane_Check.f x y = some (if Ok x y then 0 else 4) := by
  unfold plane_Check.f
  by_cases c : Ok x y
  · rw [if_pos c]
    obtain ⟨c1, c2, c3, c4⟩ := c
    rw [if_neg (by omega), if_neg (by omega), if_neg (by omega), if_neg (by omega)]
  · rw [if_neg c]
    by_cases c1 : x < -1000000
    · rw [if_pos c1]
    · rw [if_neg c1]
      by_cases c2 : x > 1000000
      · rw [if_pos c2]
      · rw [if_neg c2]
        by_cases c3 : y < -1000000
        · rw [if_pos c3]
        · rw [if_neg c3, if_pos (by
            rcases Int.lt_or_le 1000000 y with h | h
            · exact h
            · exact absurd (show Ok x y from ⟨by omega, by omega, by omega, h⟩) c)]
abbrev Fx := S40
abbrev Aw := S48
theorem bt_eq {a b : ByteArray} : a.toList = b.toList ↔ a = b := by
  constructor
  · intro h
    rw [ByteArray.toList_eq, ByteArray.toList_eq] at h
    exact ByteArray.ext (Array.toList_inj.mp h)
  · rintro rfl; rfl
theorem rdX {l : List Fx} {i : Nat} (h : i < l.length) : rd_T40 l (i : Int) = l[i] := by
  unfold rd_T40
  rw [Int.toNat_natCast, List.getD_eq_getElem?_getD, List.getElem?_eq_getElem h]
  rfl
theorem rdA {l : List Aw} {i : Nat} (h : i < l.length) : rd_T48 l (i : Int) = l[i] := by
  unfold rd_T48
  rw [Int.toNat_natCast, List.getD_eq_getElem?_getD, List.getElem?_eq_getElem h]
  rfl
theorem rdB {l : List ByteArray} {i : Nat} (h : i < l.length) : rdOf ByteArray.empty l (i : Int) = l[i] := by
  unfold rdOf
  rw [Int.toNat_natCast, List.getD_eq_getElem?_getD, List.getElem?_eq_getElem h]
  rfl
theorem name_l (s : ByteArray) (hs : s.size ≤ 8) : ∀ (d k i : Nat), i + d = s.size → d < k → ∃ b, chart_Name.l0 k s (s.size : Int) (i : Int) = some b
  | 0, k, i, hi, hk => by
    obtain ⟨k, rfl⟩ : ∃ m, k = m + 1 := ⟨k - 1, by omega⟩
    exact ⟨true, by rw [chart_Name.l0, if_neg (by omega)]⟩
  | d + 1, k, i, hi, hk => by
    obtain ⟨k, rfl⟩ : ∃ m, k = m + 1 := ⟨k - 1, by omega⟩
    have ih := name_l s hs d k (i + 1) (by omega) (by omega)
    rw [chart_Name.l0, if_pos (by omega), if_pos (by omega), if_pos (by omega), w64 (x := (i : Int) + 1) (by omega) (by omega), show ((i : Int) + 1) = ((i + 1 : Nat) : Int) by omega]
    repeat' split
    all_goals first | exact ih | exact ⟨_, rfl⟩
theorem name_some (s : ByteArray) (k : Nat) (hk : 20 ≤ k) : ∃ b, chart_Name.f k s = some b := by
  have h1 : ∀ (q : Nat) x, 15 ≤ q → s.size ≤ 8 ∨ x = true → ∃ b, chart_Name.j0 q s x = some b := by
    intro q x hq hx
    obtain ⟨q, rfl⟩ : ∃ m, q = m + 1 := ⟨q - 1, by omega⟩
    rw [chart_Name.j0]
    by_cases c : x = true
    · rw [if_pos c]; exact ⟨_, rfl⟩
    · rw [if_neg c]
      have hs : s.size ≤ 8 := hx.elim id (fun h => absurd h c)
      exact name_l s hs s.size q 0 (by omega) (by omega)
  unfold chart_Name.f
  by_cases c0 : (s.size : Int) = 0
  · rw [if_pos c0]; exact h1 _ _ (by omega) (.inr rfl)
  rw [if_neg c0]
  by_cases c1 : (s.size : Int) > 8
  · rw [if_pos c1]; exact h1 _ _ (by omega) (.inr rfl)
  rw [if_neg c1, if_pos (by omega)]
  by_cases c2 : bt s 0 < 65
  · rw [if_pos c2]; exact h1 _ _ (by omega) (.inr rfl)
  · rw [if_neg c2]; exact h1 _ _ (by omega) (.inl (by omega))
/-- Where a name stands in a list, or -1. -/
def at_ (l : List ByteArray) (s : ByteArray) : Int := IdxF.idx (fun x => decide (x = s)) l
theorem index_l (l : List ByteArray) (hl : l.length ≤ 8796093021952) (s : ByteArray) : ∀ (d k i : Nat), i + d = l.length → d < k → (∀ j (h : j < l.length), j < i → l[j] ≠ s) →
    slices_Index_string_string.l0 k l s (l.length : Int) (i : Int) = some (at_ l s)
  | 0, k, i, hi, hk, hb => by
    obtain ⟨k, rfl⟩ : ∃ m, k = m + 1 := ⟨k - 1, by omega⟩
    rw [slices_Index_string_string.l0, if_neg (by omega)]
    congr 1
    exact (IdxF.idx_miss _ l (fun j h => decide_eq_false (hb j h (by omega)))).symm
  | d + 1, k, i, hi, hk, hb => by
    obtain ⟨k, rfl⟩ : ∃ m, k = m + 1 := ⟨k - 1, by omega⟩
    have hlt : i < l.length := by omega
    rw [slices_Index_string_string.l0, if_pos (by omega), if_pos (by omega), if_pos (by omega), rdB hlt]
    by_cases c : s.toList = l[i].toList
    · rw [if_pos c]
      congr 1
      exact (IdxF.idx_hit _ l hlt (decide_eq_true (bt_eq.1 c).symm) (fun j h => decide_eq_false (hb j _ h))).symm
    · rw [if_neg c, w64 (x := (i : Int) + 1) (by omega) (by omega), show ((i : Int) + 1) = ((i + 1 : Nat) : Int) by omega]
      refine index_l l hl s d k (i + 1) (by omega) (by omega) (fun j h hj => ?_)
      by_cases e : j = i
      · subst e; exact fun h2 => c (bt_eq.2 h2.symm)
      · exact hb j h (by omega)
theorem index_f (l : List ByteArray) (hl : l.length ≤ 8796093021952) (s : ByteArray) (k : Nat) (hk : l.length < k) : slices_Index_string_string.f k l s = some (at_ l s) := by
  unfold slices_Index_string_string.f
  exact index_l l hl s l.length k 0 (by omega) hk (fun j _ h => absurd h (Nat.not_lt_zero _))
/-- Where a fix stands, or -1. -/
def fx (F : List Fx) (s : ByteArray) : Int := IdxF.idx (chart_find_1.p s) F
theorem find_f (F : List Fx) (L : List Aw) (s : ByteArray) : chart_find.f F L s = some (fx F s) := by
  unfold chart_find.f api_Fix_67.f
  rw [Option.bind_some]
  rfl
theorem fx_range (F : List Fx) (s : ByteArray) : fx F s = -1 ∨ (0 ≤ fx F s ∧ fx F s < (F.length : Int)) := IdxF.idx_range _ _
theorem airway_l (F : List Fx) (L : List Aw) (nm : ByteArray) (l : List ByteArray) (hl : l.length ≤ 24) : ∀ (d k i : Nat), i + d = l.length → d + 30 < k → (0 < i → ∀ h2 : i - 1 < l.length, 0 ≤ fx F l[i - 1]) →
    ∃ e, chart_airway.l0 k l (l.length : Int) (i : Int) F L nm l = some e
  | 0, k, i, hi, hk, hf => by
    obtain ⟨k, rfl⟩ : ∃ m, k = m + 1 := ⟨k - 1, by omega⟩
    exact ⟨0, by rw [chart_airway.l0, if_neg (by omega)]⟩
  | d + 1, k, i, hi, hk, hf => by
    obtain ⟨k, rfl⟩ : ∃ m, k = m + 1 := ⟨k - 1, by omega⟩
    have hlt : i < l.length := by omega
    have r := fx_range F l[i]
    rw [chart_airway.l0, if_pos (by omega), if_pos (by omega), if_pos (by omega), rdB hlt, find_f, Option.bind_some]
    by_cases c1 : fx F l[i] < 0
    · rw [if_pos c1]; exact ⟨_, rfl⟩
    have ih := airway_l F L nm l hl d k (i + 1) (by omega) (by omega) (fun _ h2 => by
      have e : i + 1 - 1 = i := by omega
      simp only [e]; omega)
    rw [show ((i + 1 : Nat) : Int) = (i : Int) + 1 by omega] at ih
    rw [if_neg c1, if_pos (by omega), Int.toNat_natCast]
    unfold slices_Contains_string_string.f
    rw [index_f (l.take i) (by rw [List.length_take]; omega) _ k (by rw [List.length_take]; omega), Option.bind_some, Option.bind_some]
    by_cases c2 : decide (at_ (l.take i) l[i] ≥ 0) = true
    · rw [if_pos c2]; exact ⟨_, rfl⟩
    rw [if_neg c2, w64 (x := (i : Int) + 1) (by omega) (by omega)]
    by_cases c3 : (i : Int) > 0
    · have hf' := hf (by omega) (by omega)
      have r2 := fx_range F l[i - 1]
      rw [if_pos c3, w64 (x := (i : Int) - 1) (by omega) (by omega), if_pos (by omega), if_pos (by omega), show ((i : Int) - 1) = ((i - 1 : Nat) : Int) by omega, rdB (show i - 1 < l.length by omega), find_f, Option.bind_some,
        if_pos hf', if_pos (by omega), if_pos (by omega), if_pos (by omega)]
      split
      · exact ⟨_, rfl⟩
      · exact ih
    · rw [if_neg c3]; exact ih
theorem airway_f (F : List Fx) (L : List Aw) (i k : Nat) (hk : 100 ≤ k) (hi : i < L.length) : ∃ e, chart_airway.f k F L (i : Int) = some e := by
  have hj : ∀ (q : Nat) x (nm : ByteArray) (l : List ByteArray), 90 ≤ q → ∃ e, chart_airway.j0 q x F L nm l = some e := by
    intro q x nm l hq
    obtain ⟨q, rfl⟩ : ∃ m, q = m + 1 := ⟨q - 1, by omega⟩
    rw [chart_airway.j0]
    by_cases c0 : x = true
    · rw [if_pos c0]; exact ⟨_, rfl⟩
    rw [if_neg c0]
    by_cases c1 : (l.length : Int) < 2
    · rw [if_pos c1]; exact ⟨_, rfl⟩
    rw [if_neg c1]
    by_cases c2 : (l.length : Int) > 24
    · rw [if_pos c2]; exact ⟨_, rfl⟩
    rw [if_neg c2]
    exact airway_l F L nm l (by omega) l.length q 0 (by omega) (by omega) (fun h => absurd h (Nat.lt_irrefl _))
  unfold chart_airway.f
  obtain ⟨b, hb⟩ := name_some (L[i]).f0 k (by omega)
  rw [if_pos (by omega), if_pos (by omega), rdA hi, hb, Option.bind_some]
  by_cases c0 : b = true
  · rw [if_pos c0, find_f, Option.bind_some]
    by_cases c1 : fx F (L[i]).f0 ≥ 0
    · rw [if_pos c1]; exact hj _ _ _ _ (by omega)
    · rw [if_neg c1, if_pos (by omega)]
      unfold api_Airway_121.f
      rw [Option.bind_some]
      exact hj _ _ _ _ (by omega)
  · rw [if_neg c0]; exact ⟨_, rfl⟩
theorem chk_l1 (F : List Fx) (L : List Aw) (hL : L.length ≤ 16) : ∀ (d k i : Nat), i + d = L.length → d + 100 < k → ∃ e, chart_Check.l1 k (L.length : Int) (i : Int) F L = some e
  | 0, k, i, hi, hk => by
    obtain ⟨k, rfl⟩ : ∃ m, k = m + 1 := ⟨k - 1, by omega⟩
    exact ⟨0, by rw [chart_Check.l1, if_neg (by omega)]⟩
  | d + 1, k, i, hi, hk => by
    obtain ⟨k, rfl⟩ : ∃ m, k = m + 1 := ⟨k - 1, by omega⟩
    obtain ⟨e, he⟩ := airway_f F L i k (by omega) (by omega)
    have ih := chk_l1 F L hL d k (i + 1) (by omega) (by omega)
    rw [chart_Check.l1, if_pos (by omega), he, Option.bind_some, w64 (x := (i : Int) + 1) (by omega) (by omega), show ((i : Int) + 1) = ((i + 1 : Nat) : Int) by omega]
    split
    · exact ih
    · exact ⟨_, rfl⟩
theorem chk_l0 (F : List Fx) (L : List Aw) (hF : F.length ≤ 64) (hL : L.length ≤ 16) : ∀ (d k i : Nat), i + d = F.length → d + 130 < k →
    ∃ e, chart_Check.l0 k F (F.length : Int) (i : Int) F L = some e ∧ (e = 0 → ∀ j (h : j < F.length), i ≤ j → chart_Name.f k (F[j]).f0 = some true ∧ (j : Int) ≤ fx F (F[j]).f0 ∧ Ok (F[j]).f1.f0 (F[j]).f1.f1)
  | 0, k, i, hi, hk => by
    obtain ⟨k, rfl⟩ : ∃ m, k = m + 1 := ⟨k - 1, by omega⟩
    obtain ⟨e, he⟩ := chk_l1 F L hL L.length k 0 (by omega) (by omega)
    refine ⟨e, by rw [chart_Check.l0, if_neg (by omega)]; exact he, fun _ j h hj => by omega⟩
  | d + 1, k, i, hi, hk => by
    obtain ⟨k, rfl⟩ : ∃ m, k = m + 1 := ⟨k - 1, by omega⟩
    have hlt : i < F.length := by omega
    obtain ⟨b, hb⟩ := name_some (F[i]).f0 k (by omega)
    obtain ⟨e, he, hz⟩ := chk_l0 F L hF hL d k (i + 1) (by omega) (by omega)
    rw [chart_Check.l0, if_pos (by omega), if_pos (by omega), if_pos (by omega), rdX hlt, hb, Option.bind_some, find_f]
    by_cases c0 : b = true
    · rw [if_pos c0, Option.bind_some]
      by_cases c1 : fx F (F[i]).f0 < (i : Int)
      · rw [if_pos c1]; exact ⟨7, rfl, fun h => by omega⟩
      · rw [if_neg c1, check_f, Option.bind_some, w64 (x := (i : Int) + 1) (by omega) (by omega), show ((i : Int) + 1) = ((i + 1 : Nat) : Int) by omega]
        by_cases c2 : Ok (F[i]).f1.f0 (F[i]).f1.f1
        · rw [if_pos c2, if_pos rfl]
          refine ⟨e, he, fun h j hj hij => ?_⟩
          by_cases c3 : j = i
          · subst c3
            exact ⟨at_rounds (fun q => chart_Name.mono _ q) (Nat.le_succ k) (c0 ▸ hb), by omega, c2⟩
          · obtain ⟨g1, g2⟩ := hz h j hj (by omega)
            exact ⟨at_rounds (fun q => chart_Name.mono _ q) (Nat.le_succ k) g1, g2⟩
        · rw [if_neg c2, if_neg (by decide)]
          exact ⟨4, rfl, fun h => by omega⟩
    · rw [if_neg c0]; exact ⟨5, rfl, fun h => by omega⟩
theorem chk (F : List Fx) (L : List Aw) : ∃ e, (∀ k, 250 ≤ k → chart_Check.f k F L = some e) ∧ (e = 0 → F.length ≤ 64 ∧ L.length ≤ 16 ∧ ∀ j (h : j < F.length), chart_Name.f 250 (F[j]).f0 = some true ∧ (j : Int) ≤ fx F (F[j]).f0 ∧ Ok (F[j]).f1.f0 (F[j]).f1.f1) := by
  have key : ∃ e, chart_Check.f 250 F L = some e ∧ (e = 0 → F.length ≤ 64 ∧ L.length ≤ 16 ∧ ∀ j (h : j < F.length), chart_Name.f 250 (F[j]).f0 = some true ∧ (j : Int) ≤ fx F (F[j]).f0 ∧ Ok (F[j]).f1.f0 (F[j]).f1.f1) := by
    unfold chart_Check.f
    by_cases c0 : (F.length : Int) > 64
    · rw [if_pos c0]; exact ⟨2, rfl, fun h => by omega⟩
    rw [if_neg c0, show (250 : Nat) = 249 + 1 from rfl, chart_Check.j0]
    by_cases c1 : (L.length : Int) > 16
    · rw [if_pos (decide_eq_true c1)]; exact ⟨2, rfl, fun h => by omega⟩
    rw [if_neg (by rw [decide_eq_false c1]; decide)]
    obtain ⟨e, he, hz⟩ := chk_l0 F L (by omega) (by omega) F.length 249 0 (by omega) (by omega)
    refine ⟨e, he, fun h => ⟨by omega, by omega, fun j hj => ?_⟩⟩
    obtain ⟨g1, g2⟩ := hz h j hj (Nat.zero_le _)
    exact ⟨at_rounds (fun q => chart_Name.mono _ q) (Nat.le_succ 249) g1, g2⟩
  obtain ⟨e, he, hz⟩ := key
  exact ⟨e, fun k hk => at_rounds (fun q => chart_Check.mono _ _ q) hk he, hz⟩
theorem idx_at {α : Type} (p : α → Bool) (l : List α) {i : Nat} (h : IdxF.idx p l = (i : Int)) : ∃ hi : i < l.length, p l[i] = true := by
  unfold IdxF.idx at h
  by_cases c : l.any p = true
  · rw [if_pos c] at h
    have hlt := List.findIdx_lt_length.2 (List.any_eq_true.1 c)
    obtain rfl : l.findIdx p = i := by omega
    exact ⟨hlt, List.findIdx_getElem⟩
  · rw [if_neg c] at h; omega
/-- As airway_l, and what no error tells. -/
theorem airway_l2 (F : List Fx) (L : List Aw) (nm : ByteArray) (l : List ByteArray) (hl : l.length ≤ 24) : ∀ (d k i : Nat), i + d = l.length → d + 30 < k → (0 < i → ∀ h2 : i - 1 < l.length, 0 ≤ fx F l[i - 1]) →
    ∃ e, chart_airway.l0 k l (l.length : Int) (i : Int) F L nm l = some e ∧ (e = 0 → ∀ j (h : j < l.length), i ≤ j → 0 ≤ fx F l[j])
  | 0, k, i, hi, hk, hf => by
    obtain ⟨k, rfl⟩ : ∃ m, k = m + 1 := ⟨k - 1, by omega⟩
    exact ⟨0, by rw [chart_airway.l0, if_neg (by omega)], fun _ j h1 h2 => by omega⟩
  | d + 1, k, i, hi, hk, hf => by
    obtain ⟨k, rfl⟩ : ∃ m, k = m + 1 := ⟨k - 1, by omega⟩
    have hlt : i < l.length := by omega
    have r := fx_range F l[i]
    rw [chart_airway.l0, if_pos (by omega), if_pos (by omega), if_pos (by omega), rdB hlt, find_f, Option.bind_some]
    by_cases c1 : fx F l[i] < 0
    · rw [if_pos c1]; exact ⟨_, rfl, fun h => absurd h (by decide)⟩
    have ih := airway_l2 F L nm l hl d k (i + 1) (by omega) (by omega) (fun _ h2 => by
      have e : i + 1 - 1 = i := by omega
      simp only [e]; omega)
    rw [show ((i + 1 : Nat) : Int) = (i : Int) + 1 by omega] at ih
    obtain ⟨e1, he, hz⟩ := ih
    have fin : e1 = 0 → ∀ j (h : j < l.length), i ≤ j → 0 ≤ fx F l[j] := fun h0 j hj hij => by
      by_cases c : j = i
      · subst c; omega
      · exact hz h0 j hj (by omega)
    rw [if_neg c1, if_pos (by omega), Int.toNat_natCast]
    unfold slices_Contains_string_string.f
    rw [index_f (l.take i) (by rw [List.length_take]; omega) _ k (by rw [List.length_take]; omega), Option.bind_some, Option.bind_some]
    by_cases c2 : decide (at_ (l.take i) l[i] ≥ 0) = true
    · rw [if_pos c2]; exact ⟨_, rfl, fun h => absurd h (by decide)⟩
    rw [if_neg c2, w64 (x := (i : Int) + 1) (by omega) (by omega)]
    by_cases c3 : (i : Int) > 0
    · have hf' := hf (by omega) (by omega)
      have r2 := fx_range F l[i - 1]
      rw [if_pos c3, w64 (x := (i : Int) - 1) (by omega) (by omega), if_pos (by omega), if_pos (by omega), show ((i : Int) - 1) = ((i - 1 : Nat) : Int) by omega, rdB (show i - 1 < l.length by omega), find_f, Option.bind_some,
        if_pos hf', if_pos (by omega), if_pos (by omega), if_pos (by omega)]
      split
      · exact ⟨_, rfl, fun h => absurd h (by decide)⟩
      · exact ⟨e1, he, fin⟩
    · rw [if_neg c3]; exact ⟨e1, he, fin⟩
def AwOk (F : List Fx) (a : Aw) : Prop := fx F a.f0 < 0 ∧ 2 ≤ a.f1.length ∧ a.f1.length ≤ 24 ∧ ∀ j (h : j < a.f1.length), 0 ≤ fx F a.f1[j]
theorem airway_f2 (F : List Fx) (L : List Aw) (i k : Nat) (hk : 100 ≤ k) (hi : i < L.length) : ∃ e, chart_airway.f k F L (i : Int) = some e ∧ (e = 0 → AwOk F L[i]) := by
  have hj : ∀ (q : Nat) x (nm : ByteArray) (l : List ByteArray), 90 ≤ q → ∃ e, chart_airway.j0 q x F L nm l = some e ∧ (e = 0 → 2 ≤ l.length ∧ l.length ≤ 24 ∧ ∀ j (h : j < l.length), 0 ≤ fx F l[j]) := by
    intro q x nm l hq
    obtain ⟨q, rfl⟩ : ∃ m, q = m + 1 := ⟨q - 1, by omega⟩
    rw [chart_airway.j0]
    by_cases c0 : x = true
    · rw [if_pos c0]; exact ⟨_, rfl, fun h => absurd h (by decide)⟩
    rw [if_neg c0]
    by_cases c1 : (l.length : Int) < 2
    · rw [if_pos c1]; exact ⟨_, rfl, fun h => absurd h (by decide)⟩
    rw [if_neg c1]
    by_cases c2 : (l.length : Int) > 24
    · rw [if_pos c2]; exact ⟨_, rfl, fun h => absurd h (by decide)⟩
    rw [if_neg c2]
    obtain ⟨e, he, hz⟩ := airway_l2 F L nm l (by omega) l.length q 0 (by omega) (by omega) (fun h => absurd h (Nat.lt_irrefl _))
    exact ⟨e, he, fun h => ⟨by omega, by omega, fun j hj => hz h j hj (Nat.zero_le _)⟩⟩
  unfold chart_airway.f
  obtain ⟨b, hb⟩ := name_some (L[i]).f0 k (by omega)
  rw [if_pos (by omega), if_pos (by omega), rdA hi, hb, Option.bind_some]
  by_cases c0 : b = true
  · rw [if_pos c0, find_f, Option.bind_some]
    by_cases c1 : fx F (L[i]).f0 ≥ 0
    · rw [if_pos c1]
      obtain ⟨q, rfl⟩ : ∃ m, k = m + 1 := ⟨k - 1, by omega⟩
      rw [chart_airway.j0, if_pos rfl]
      exact ⟨_, rfl, fun h => absurd h (by decide)⟩
    · rw [if_neg c1, if_pos (by omega)]
      unfold api_Airway_121.f
      rw [Option.bind_some]
      obtain ⟨e, he, hz⟩ := hj k _ _ _ (by omega)
      exact ⟨e, he, fun h => ⟨by omega, hz h⟩⟩
  · rw [if_neg c0]; exact ⟨_, rfl, fun h => absurd h (by decide)⟩
theorem chk_l1b (F : List Fx) (L : List Aw) (hL : L.length ≤ 16) : ∀ (d k i : Nat), i + d = L.length → d + 100 < k → ∃ e, chart_Check.l1 k (L.length : Int) (i : Int) F L = some e ∧ (e = 0 → ∀ j (h : j < L.length), i ≤ j → AwOk F L[j])
  | 0, k, i, hi, hk => by
    obtain ⟨k, rfl⟩ : ∃ m, k = m + 1 := ⟨k - 1, by omega⟩
    exact ⟨0, by rw [chart_Check.l1, if_neg (by omega)], fun _ j h1 h2 => by omega⟩
  | d + 1, k, i, hi, hk => by
    obtain ⟨k, rfl⟩ : ∃ m, k = m + 1 := ⟨k - 1, by omega⟩
    obtain ⟨e, he, hz⟩ := airway_f2 F L i k (by omega) (by omega)
    obtain ⟨e2, ih, hz2⟩ := chk_l1b F L hL d k (i + 1) (by omega) (by omega)
    rw [chart_Check.l1, if_pos (by omega), he, Option.bind_some, w64 (x := (i : Int) + 1) (by omega) (by omega), show ((i : Int) + 1) = ((i + 1 : Nat) : Int) by omega]
    by_cases c : e = 0
    · rw [if_pos c]
      refine ⟨e2, ih, fun h0 j hj hij => ?_⟩
      by_cases cj : j = i
      · subst cj; exact hz c
      · exact hz2 h0 j hj (by omega)
    · rw [if_neg c]; exact ⟨_, rfl, fun h => absurd h c⟩
/-- What slices.Reverse leaves. -/
theorem rev_l (l : List ByteArray) (hl : l.length ≤ 8796093021952) : ∀ (d k i : Nat) (x : List ByteArray), l.length ≤ 2 * (i + d) + 1 → d < k → 2 * i ≤ l.length → x.length = l.length →
    (∀ m, m < l.length → x[m]? = if m < i ∨ l.length - i ≤ m then l[l.length - 1 - m]? else l[m]?) →
    slices_Reverse_string_string.l0 k x (i : Int) ((l.length : Int) - 1 - i) = some l.reverse
  | d, k, i, x, hd, hk, hi, hx, h => by
    obtain ⟨k, rfl⟩ : ∃ m, k = m + 1 := ⟨k - 1, by omega⟩
    by_cases c : (i : Int) < (l.length : Int) - 1 - i
    · cases d with
      | zero => omega
      | succ d =>
        have e : ((l.length : Int) - 1 - i) = ((l.length - 1 - i : Nat) : Int) := by omega
        rw [slices_Reverse_string_string.l0, if_pos c, e, if_pos (by omega), if_pos (by rw [hx]; omega), if_pos (by omega), if_pos (by rw [hx]; omega), rdB (show l.length - 1 - i < x.length by omega), rdB (show i < x.length by omega), Int.toNat_natCast, Int.toNat_natCast,
          w64 (x := (i : Int) + 1) (by omega) (by omega), w64 (x := ((l.length - 1 - i : Nat) : Int) - 1) (by omega) (by omega), show ((i : Int) + 1) = ((i + 1 : Nat) : Int) by omega, show (((l.length - 1 - i : Nat) : Int) - 1) = (l.length : Int) - 1 - ((i + 1 : Nat) : Int) by omega]
        have hi1 := h i (by omega)
        have hj1 := h (l.length - 1 - i) (by omega)
        rw [List.getElem?_eq_getElem (by omega), if_neg (by omega)] at hi1
        rw [List.getElem?_eq_getElem (by omega), if_neg (by omega)] at hj1
        refine rev_l l hl d k (i + 1) _ (by omega) (by omega) (by omega) (by simp [hx]) (fun m hm => ?_)
        rw [List.getElem?_set, List.getElem?_set]
        by_cases c1 : l.length - 1 - i = m
        · rw [if_pos c1, if_pos (by simp; omega), if_pos (by omega), hi1]
          congr 1; omega
        · rw [if_neg c1]
          by_cases c2 : i = m
          · rw [if_pos c2, if_pos (by omega), if_pos (by omega), hj1]
            congr 1; omega
          · rw [if_neg c2, h m hm]
            by_cases c3 : m < i ∨ l.length - i ≤ m
            · rw [if_pos c3, if_pos (by omega)]
            · rw [if_neg c3, if_neg (by omega)]
    · rw [slices_Reverse_string_string.l0, if_neg c]
      congr 1
      apply List.ext_getElem?
      intro m
      by_cases hm : m < l.length
      · rw [List.getElem?_reverse hm, h m hm]
        by_cases c3 : m < i ∨ l.length - i ≤ m
        · rw [if_pos c3]
        · rw [if_neg c3]; congr 1; omega
      · rw [List.getElem?_eq_none (by omega), List.getElem?_eq_none (by rw [List.length_reverse]; omega)]
termination_by d => d
theorem rev_f (l : List ByteArray) (hl : l.length ≤ 8796093021952) (k : Nat) (hk : l.length < k) : slices_Reverse_string_string.f k l = some l.reverse := by
  unfold slices_Reverse_string_string.f
  rw [w64 (x := (l.length : Int) - 1) (by omega) (by omega)]
  have := rev_l l hl l.length k 0 l (by omega) hk (by omega) rfl (fun m hm => by rw [if_neg (by omega)])
  rw [show ((l.length : Int) - 1 - ((0 : Nat) : Int)) = (l.length : Int) - 1 by omega] at this
  exact this
theorem clone_f (l : List ByteArray) (hl : l.length ≤ 8796093021952) : slices_Clone_string_string.f l = some l := by
  unfold slices_Clone_string_string.f
  rw [Option.bind_some, if_pos (by simp; omega), List.nil_append]
/-- A chart that passes the check. -/
def ChOk (F : List Fx) (L : List Aw) : Prop := F.length ≤ 64 ∧ L.length ≤ 16 ∧ (∀ j (h : j < F.length), chart_Name.f 250 (F[j]).f0 = some true ∧ (j : Int) ≤ fx F (F[j]).f0 ∧ Ok (F[j]).f1.f0 (F[j]).f1.f1) ∧ ∀ j (h : j < L.length), AwOk F L[j]
theorem chk_l0b (F : List Fx) (L : List Aw) (hF : F.length ≤ 64) (hL : L.length ≤ 16) : ∀ (d k i : Nat), i + d = F.length → d + 130 < k →
    ∃ e, chart_Check.l0 k F (F.length : Int) (i : Int) F L = some e ∧ (e = 0 → ∀ j (h : j < L.length), AwOk F L[j])
  | 0, k, i, hi, hk => by
    obtain ⟨k, rfl⟩ : ∃ m, k = m + 1 := ⟨k - 1, by omega⟩
    obtain ⟨e, he, hz⟩ := chk_l1b F L hL L.length k 0 (by omega) (by omega)
    exact ⟨e, by rw [chart_Check.l0, if_neg (by omega)]; exact he, fun h j hj => hz h j hj (Nat.zero_le _)⟩
  | d + 1, k, i, hi, hk => by
    obtain ⟨k, rfl⟩ : ∃ m, k = m + 1 := ⟨k - 1, by omega⟩
    have hlt : i < F.length := by omega
    obtain ⟨b, hb⟩ := name_some (F[i]).f0 k (by omega)
    obtain ⟨e, he, hz⟩ := chk_l0b F L hF hL d k (i + 1) (by omega) (by omega)
    rw [chart_Check.l0, if_pos (by omega), if_pos (by omega), if_pos (by omega), rdX hlt, hb, Option.bind_some, find_f]
    by_cases c0 : b = true
    · rw [if_pos c0, Option.bind_some]
      by_cases c1 : fx F (F[i]).f0 < (i : Int)
      · rw [if_pos c1]; exact ⟨7, rfl, fun h => by omega⟩
      · rw [if_neg c1, check_f, Option.bind_some, w64 (x := (i : Int) + 1) (by omega) (by omega), show ((i : Int) + 1) = ((i + 1 : Nat) : Int) by omega]
        by_cases c2 : Ok (F[i]).f1.f0 (F[i]).f1.f1
        · rw [if_pos c2, if_pos rfl]
          exact ⟨e, he, hz⟩
        · rw [if_neg c2, if_neg (by decide)]
          exact ⟨4, rfl, fun h => by omega⟩
    · rw [if_neg c0]; exact ⟨5, rfl, fun h => by omega⟩
theorem chk2 (F : List Fx) (L : List Aw) : ∃ e, (∀ k, 250 ≤ k → chart_Check.f k F L = some e) ∧ (e = 0 → ChOk F L) := by
  obtain ⟨e, he, hz⟩ := chk F L
  refine ⟨e, he, fun h0 => ?_⟩
  obtain ⟨h1, h2, h3⟩ := hz h0
  refine ⟨h1, h2, h3, ?_⟩
  have h := he 250 (Nat.le_refl _)
  unfold chart_Check.f at h
  rw [if_neg (by omega), show (250 : Nat) = 249 + 1 from rfl, chart_Check.j0, if_neg (by rw [decide_eq_false (by omega)]; decide)] at h
  obtain ⟨e2, he2, hz2⟩ := chk_l0b F L h1 h2 F.length 249 0 (by omega) (by omega)
  have h' := he2.symm.trans h
  exact hz2 ((Option.some.inj h').trans h0)
/-- The fix of a name. -/
def fixOf (F : List Fx) (s : ByteArray) : Fx := rd_T40 F (fx F s)
theorem fix_at (F : List Fx) (s : ByteArray) (h : 0 ≤ fx F s) : ∃ j, ∃ hj : j < F.length, fx F s = (j : Int) ∧ fixOf F s = F[j] ∧ (F[j]).f0 = s := by
  have r := fx_range F s
  obtain ⟨q, hq⟩ : ∃ q : Nat, fx F s = (q : Int) := ⟨(fx F s).toNat, by omega⟩
  obtain ⟨hlt, hp⟩ := idx_at _ _ hq
  exact ⟨q, hlt, hq, by unfold fixOf; rw [hq, rdX hlt], of_decide_eq_true hp⟩
theorem fix_name (F : List Fx) (s : ByteArray) (h : 0 ≤ fx F s) : (fixOf F s).f0 = s := by
  obtain ⟨j, hj, _, h2, h3⟩ := fix_at F s h
  rw [h2, h3]
theorem isFix_f (F : List Fx) (L : List Aw) (s : ByteArray) : route_isFix.f F L s = some (decide (0 ≤ fx F s)) := by
  unfold route_isFix.f api_Fix_99.f
  rw [Option.bind_some]
  congr 1
  exact (IdxF.idx_any (route_isFix_1.p s) F).symm
/-- Whether a name is that of an airway. -/
def awy (L : List Aw) (s : ByteArray) : Bool := L.any (route_isAirway_1.p s)
theorem isAirway_f (F : List Fx) (L : List Aw) (s : ByteArray) : route_isAirway.f F L s = some (awy L s) := by
  unfold route_isAirway.f api_Airway_121.f
  rw [Option.bind_some]
  rfl
theorem fix_awy {F : List Fx} {L : List Aw} (hc : ChOk F L) {s : ByteArray} (h : 0 ≤ fx F s) : awy L s = false := by
  unfold awy
  rw [Bool.eq_false_iff]
  intro ha
  obtain ⟨a, ha, hp⟩ := List.any_eq_true.1 ha
  obtain ⟨j, hj, rfl⟩ := List.getElem_of_mem ha
  have h1 := (hc.2.2.2 j hj).1
  have h2 : (L[j]).f0 = s := of_decide_eq_true hp
  rw [h2] at h1
  omega
def FixAll (F : List Fx) (l : List ByteArray) : Prop := ∀ s ∈ l, 0 ≤ fx F s
/-- What a part of an airway is. -/
theorem between_r {F : List Fx} {L : List Aw} (hc : ChOk F L) (hk : ∀ k, 250 ≤ k → chart_Check.f k F L = some 0) (nm s t : ByteArray) (k : Nat) (hk3 : 300 ≤ k) :
    ∃ r e, chart_Between.f k F L nm s t = some (r, e) ∧ (e = 0 → 1 ≤ r.length ∧ r.length ≤ 24 ∧ FixAll F r) := by
  unfold chart_Between.f api_Airway_50.f
  rw [hk k (by omega), Option.bind_some, if_pos rfl, Option.bind_some]
  rcases IdxF.idx_range (chart_Between_1.p nm) L with h | ⟨h1, h2⟩
  · rw [h, if_pos (by decide)]
    exact ⟨_, _, rfl, fun h => absurd h (by decide)⟩
  obtain ⟨q, hq⟩ : ∃ q : Nat, IdxF.idx (chart_Between_1.p nm) L = (q : Int) := ⟨(IdxF.idx (chart_Between_1.p nm) L).toNat, by omega⟩
  rw [hq] at h1 h2 ⊢
  have hlt : q < L.length := by omega
  obtain ⟨_, a1, a2, a3⟩ := hc.2.2.2 q hlt
  rw [if_neg (by omega), if_pos (by omega), if_pos (by omega), rdA hlt]
  generalize (L[q]).f1 = l at a1 a2 a3
  have hfix : FixAll F l := fun s hs => by
    obtain ⟨j, hj, rfl⟩ := List.getElem_of_mem hs
    exact a3 j hj
  rw [index_f l (by omega) s k (by omega), index_f l (by omega) t k (by omega), Option.bind_some, Option.bind_some]
  obtain ⟨k, rfl⟩ : ∃ m, k = m + 1 := ⟨k - 1, by omega⟩
  have none_ : ∀ x y : Int, chart_Between.j0 (k + 1) l x y true = some (([] : List ByteArray), 6) := fun x y => by rw [chart_Between.j0, if_pos rfl]
  have rs : at_ l s = -1 ∨ (0 ≤ at_ l s ∧ at_ l s < (l.length : Int)) := IdxF.idx_range _ l
  have rt : at_ l t = -1 ∨ (0 ≤ at_ l t ∧ at_ l t < (l.length : Int)) := IdxF.idx_range _ l
  by_cases ca : at_ l s < 0
  · rw [if_pos ca, none_]; exact ⟨_, _, rfl, fun h => absurd h (by decide)⟩
  rw [if_neg ca]
  by_cases cb : at_ l t < 0
  · rw [decide_eq_true cb, none_]; exact ⟨_, _, rfl, fun h => absurd h (by decide)⟩
  rw [decide_eq_false cb]
  obtain ⟨x, ex⟩ : ∃ a : Nat, at_ l s = (a : Int) := ⟨(at_ l s).toNat, by omega⟩
  obtain ⟨y, ey⟩ : ∃ b : Nat, at_ l t = (b : Int) := ⟨(at_ l t).toNat, by omega⟩
  rw [ex, ey, chart_Between.j0, if_neg (by decide)]
  have sub : ∀ a b, FixAll F ((l.take b).drop a) := fun a b s hs => hfix s (List.mem_of_mem_take (List.mem_of_mem_drop hs))
  by_cases c : x ≤ y
  · rw [if_pos (by omega), if_pos (by omega), w64 (x := (y : Int) + 1) (by omega) (by omega), if_pos (by omega), if_pos (by omega), show ((y : Int) + 1).toNat = y + 1 by omega, Int.toNat_natCast, clone_f _ (by rw [List.length_drop, List.length_take]; omega), Option.bind_some]
    exact ⟨_, _, rfl, fun _ => ⟨by rw [List.length_drop, List.length_take]; omega, by rw [List.length_drop, List.length_take]; omega, sub _ _⟩⟩
  · rw [if_neg (by omega), if_pos (by omega), w64 (x := (x : Int) + 1) (by omega) (by omega), if_pos (by omega), if_pos (by omega), show ((x : Int) + 1).toNat = x + 1 by omega, Int.toNat_natCast, clone_f _ (by rw [List.length_drop, List.length_take]; omega), Option.bind_some,
      rev_f _ (by rw [List.length_drop, List.length_take]; omega) k (by rw [List.length_drop, List.length_take]; omega), Option.bind_some]
    exact ⟨_, _, rfl, fun _ => ⟨by rw [List.length_reverse, List.length_drop, List.length_take]; omega, by rw [List.length_reverse, List.length_drop, List.length_take]; omega, fun s hs => sub _ _ s (List.mem_reverse.1 hs)⟩⟩
/-- The names of a route's fixes: third loop, from the place i on. -/
theorem names_l2 {F : List Fx} {L : List Aw} (hc : ChOk F L) (hk : ∀ k, 250 ≤ k → chart_Check.f k F L = some 0) (x : List ByteArray) (hx : x.length ≤ 26) (hall : ∀ i (h : i < x.length), awy L x[i] = false → 0 ≤ fx F x[i]) (h0 : ∀ h : 0 < x.length, awy L x[0] = false) (n : Nat) (hn : n + 1 = x.length) (hl : awy L (x[n]'(by omega)) = false) :
    ∀ (d k i : Nat) (acc : List ByteArray), i + d = n → d + 310 < k → FixAll F acc → acc.length ≤ 24 * i → ∃ out e, route_names.l2 k x acc x (x.length : Int) (i : Int) F L = some (out, e) ∧ (e ≠ 0 → out = []) ∧ (e = 0 → FixAll F out ∧ acc <+: out ∧ acc.length < out.length ∧ out[out.length - 1]? = some (x[n]'(by omega)) ∧ out.length ≤ 700)
  | 0, k, i, acc, hi, hkk, hf, ha => by
    obtain ⟨k, rfl⟩ : ∃ m, k = m + 2 := ⟨k - 2, by omega⟩
    obtain rfl : i = n := by omega
    have hlt : i < x.length := by omega
    rw [route_names.l2, if_pos (by omega), if_pos (by omega), if_pos (by omega), rdB hlt, isAirway_f, Option.bind_some, hl, if_neg (by decide), if_pos (by omega), w64 (x := (i : Int) + 1) (by omega) (by omega), route_names.l2, if_neg (by omega)]
    refine ⟨_, 0, rfl, fun h => absurd rfl h, fun _ => ⟨fun s hs => ?_, List.prefix_append _ _, by simp, ?_, by simp; omega⟩⟩
    · rcases List.mem_append.1 hs with hs | hs
      · exact hf s hs
      · obtain rfl := List.mem_singleton.1 hs
        exact hall i hlt hl
    · rw [List.getElem?_append_right (by simp)]
      simp
  | d + 1, k, i, acc, hi, hkk, hf, ha => by
    obtain ⟨k, rfl⟩ : ∃ m, k = m + 1 := ⟨k - 1, by omega⟩
    have hlt : i < x.length := by omega
    rw [route_names.l2, if_pos (by omega), if_pos (by omega), if_pos (by omega), rdB hlt, isAirway_f, Option.bind_some, w64 (x := (i : Int) + 1) (by omega) (by omega)]
    by_cases c : awy L x[i] = true
    · have hi0 : 0 < i := by
        rcases Nat.eq_zero_or_pos i with rfl | h
        · rw [h0 hlt] at c; cases c
        · exact h
      rw [if_pos c, w64 (x := (i : Int) - 1) (by omega) (by omega), if_pos (by omega), if_pos (by omega), if_pos (by omega), if_pos (by omega)]
      obtain ⟨r, e, hr, hz⟩ := between_r hc hk x[i] (rdOf ByteArray.empty x ((i : Int) - 1)) (rdOf ByteArray.empty x ((i : Int) + 1)) k (by omega)
      rw [hr, Option.bind_some]
      dsimp only
      by_cases ce : e = 0
      · obtain ⟨z1, z2, z3⟩ := hz ce
        have hm : 1 ≤ mx 1 ((r.length : Int) - 1) ∧ mx 1 ((r.length : Int) - 1) ≤ (r.length : Int) := by unfold mx; split <;> omega
        rw [if_pos ce, w64 (x := (r.length : Int) - 1) (by omega) (by omega), if_pos hm.1, if_pos hm.2, Option.bind_some]
        generalize hy : (r.take (mx 1 ((r.length : Int) - 1)).toNat).drop 1 = y
        have hyl : y.length ≤ 24 := by rw [← hy, List.length_drop, List.length_take]; omega
        have hyf : FixAll F y := fun s hs => z3 s (by rw [← hy] at hs; exact List.mem_of_mem_take (List.mem_of_mem_drop hs))
        rw [if_pos (by omega), show ((i : Int) + 1) = ((i + 1 : Nat) : Int) by omega]
        obtain ⟨out, e2, g1, g2, g3⟩ := names_l2 hc hk x hx hall h0 n hn hl d k (i + 1) (acc ++ y) (by omega) (by omega) (fun s hs => (List.mem_append.1 hs).elim (hf s) (hyf s)) (by rw [List.length_append]; omega)
        refine ⟨out, e2, g1, g2, fun h => ?_⟩
        obtain ⟨p1, p2, p3, p4, p5⟩ := g3 h
        rw [List.length_append] at p3
        exact ⟨p1, (List.prefix_append _ _).trans p2, by omega, p4, p5⟩
      · rw [if_neg ce]
        exact ⟨_, _, rfl, fun _ => rfl, fun h => absurd h ce⟩
    · have c' : awy L x[i] = false := by simpa using c
      rw [if_neg c, if_pos (by omega), show ((i : Int) + 1) = ((i + 1 : Nat) : Int) by omega]
      obtain ⟨out, e2, g1, g2, g3⟩ := names_l2 hc hk x hx hall h0 n hn hl d k (i + 1) (acc ++ [x[i]]) (by omega) (by omega) (fun s hs => by
        rcases List.mem_append.1 hs with hs | hs
        · exact hf s hs
        · obtain rfl := List.mem_singleton.1 hs
          exact hall i hlt c') (by simp; omega)
      refine ⟨out, e2, g1, g2, fun h => ?_⟩
      obtain ⟨p1, p2, p3, p4, p5⟩ := g3 h
      rw [List.length_append] at p3
      exact ⟨p1, (List.prefix_append _ _).trans p2, by omega, p4, p5⟩
/-- Second loop: no two airways behind one another. -/
theorem names_l1 (F : List Fx) (L : List Aw) (x : List ByteArray) (hx : x.length ≤ 26) : ∀ (d k i : Nat), i + d = x.length → 1 ≤ i → d < k →
    (∃ e, e ≠ 0 ∧ route_names.l1 k x (i : Int) F L = some ([], e)) ∨ ∃ q, k ≤ q + d + 1 ∧ route_names.l1 k x (i : Int) F L = route_names.l2 q x [] x (x.length : Int) 0 F L
  | 0, k, i, hi, h1, hk => by
    obtain ⟨k, rfl⟩ : ∃ m, k = m + 1 := ⟨k - 1, by omega⟩
    right
    exact ⟨k, by omega, by rw [route_names.l1, if_neg (by omega)]⟩
  | d + 1, k, i, hi, h1, hk => by
    obtain ⟨k, rfl⟩ : ∃ m, k = m + 1 := ⟨k - 1, by omega⟩
    have ih := names_l1 F L x hx d k (i + 1) (by omega) (by omega) (by omega)
    have fin : (∃ e, e ≠ 0 ∧ route_names.l1 k x ((i + 1 : Nat) : Int) F L = some ([], e)) ∨ ∃ q, k + 1 ≤ q + (d + 1) + 1 ∧ route_names.l1 k x ((i + 1 : Nat) : Int) F L = route_names.l2 q x [] x (x.length : Int) 0 F L := ih.imp id (fun ⟨q, h1, h2⟩ => ⟨q, by omega, h2⟩)
    rw [route_names.l1, if_pos (by omega), w64 (x := (i : Int) - 1) (by omega) (by omega), if_pos (by omega), if_pos (by omega), isAirway_f, isAirway_f, Option.bind_some, w64 (x := (i : Int) + 1) (by omega) (by omega), show ((i : Int) + 1) = ((i + 1 : Nat) : Int) by omega]
    split
    · rw [if_pos (by omega), Option.bind_some]
      split
      · left; exact ⟨3, by decide, rfl⟩
      · exact fin
    · exact fin
/-- First loop: each is a fix or an airway. -/
theorem names_l0 (F : List Fx) (L : List Aw) (x : List ByteArray) (hx : x.length ≤ 26) : ∀ (d k i : Nat), i + d = x.length → d + 30 < k → (∀ j (h : j < x.length), j < i → awy L x[j] = false → 0 ≤ fx F x[j]) →
    (∃ e, e ≠ 0 ∧ route_names.l0 k x x (x.length : Int) (i : Int) F L = some ([], e)) ∨ ((∀ j (h : j < x.length), awy L x[j] = false → 0 ≤ fx F x[j]) ∧ ∃ q, k ≤ q + d + 1 ∧ route_names.l0 k x x (x.length : Int) (i : Int) F L = route_names.l1 q x 1 F L)
  | 0, k, i, hi, hk, hb => by
    obtain ⟨k, rfl⟩ : ∃ m, k = m + 1 := ⟨k - 1, by omega⟩
    right
    exact ⟨fun j h => hb j h (by omega), k, by omega, by rw [route_names.l0, if_neg (by omega)]⟩
  | d + 1, k, i, hi, hk, hb => by
    obtain ⟨k, rfl⟩ : ∃ m, k = m + 1 := ⟨k - 1, by omega⟩
    have hlt : i < x.length := by omega
    have step : (awy L x[i] = false → 0 ≤ fx F x[i]) → (∃ e, e ≠ 0 ∧ route_names.l0 k x x (x.length : Int) ((i + 1 : Nat) : Int) F L = some ([], e)) ∨ ((∀ j (h : j < x.length), awy L x[j] = false → 0 ≤ fx F x[j]) ∧ ∃ q, k + 1 ≤ q + (d + 1) + 1 ∧ route_names.l0 k x x (x.length : Int) ((i + 1 : Nat) : Int) F L = route_names.l1 q x 1 F L) := fun h => by
      refine (names_l0 F L x hx d k (i + 1) (by omega) (by omega) (fun j hj hji => ?_)).imp id (fun ⟨h0, q, h1, h2⟩ => ⟨h0, q, by omega, h2⟩)
      by_cases c : j = i
      · subst c; exact h
      · exact hb j hj (by omega)
    rw [route_names.l0, if_pos (by omega), if_pos (by omega), if_pos (by omega), rdB hlt, isFix_f, isAirway_f, Option.bind_some, Option.bind_some, w64 (x := (i : Int) + 1) (by omega) (by omega), show ((i : Int) + 1) = ((i + 1 : Nat) : Int) by omega]
    by_cases c : 0 ≤ fx F x[i]
    · rw [if_pos (decide_eq_true c)]
      exact step (fun _ => c)
    · rw [if_neg (by rw [decide_eq_false c]; decide)]
      by_cases c2 : awy L x[i] = true
      · rw [if_pos c2]
        exact step (fun h => by rw [c2] at h; cases h)
      · rw [if_neg c2]
        left; exact ⟨6, by decide, rfl⟩
/-- The names of a route's fixes. -/
theorem names_f {F : List Fx} {L : List Aw} (hc : ChOk F L) (hk : ∀ k, 250 ≤ k → chart_Check.f k F L = some 0) (a b : ByteArray) (r : List ByteArray) (hr : r.length ≤ 24) (ha : 0 ≤ fx F a) (hb : 0 ≤ fx F b) (k : Nat) (hk4 : 400 ≤ k) :
    ∃ out e, route_names.f k (a :: (r ++ [b])) F L = some (out, e) ∧ (e ≠ 0 → out = []) ∧ (e = 0 → FixAll F out ∧ 2 ≤ out.length ∧ out.length ≤ 700 ∧ out[0]? = some a ∧ out[out.length - 1]? = some b) := by
  have hx : (a :: (r ++ [b])).length = r.length + 2 := by simp
  have hlast : ∀ h : r.length + 1 < (a :: (r ++ [b])).length, (a :: (r ++ [b]))[r.length + 1] = b := fun h => by simp
  unfold route_names.f
  generalize hX : a :: (r ++ [b]) = x at *
  have h00 : ∀ h : 0 < x.length, x[0] = a := fun h => by subst hX; rfl
  rcases names_l0 F L x (by omega) x.length k 0 (by omega) (by omega) (fun j h h0 => absurd h0 (Nat.not_lt_zero _)) with ⟨e, he, h⟩ | ⟨hall, q, hq, h⟩
  · rw [show ((0 : Nat) : Int) = 0 from rfl] at h
    exact ⟨[], e, h, fun _ => rfl, fun h0 => absurd h0 he⟩
  rw [show ((0 : Nat) : Int) = 0 from rfl] at h
  rw [h]
  rcases names_l1 F L x (by omega) (x.length - 1) q 1 (by omega) (by omega) (by omega) with ⟨e, he, h⟩ | ⟨q2, hq2, h⟩
  · rw [show ((1 : Nat) : Int) = 1 from rfl] at h
    exact ⟨[], e, h, fun _ => rfl, fun h0 => absurd h0 he⟩
  rw [show ((1 : Nat) : Int) = 1 from rfl] at h
  rw [h]
  obtain ⟨q2, rfl⟩ : ∃ m, q2 = m + 1 := ⟨q2 - 1, by omega⟩
  have hA := fix_awy hc ha
  have h0 : ∀ h : 0 < x.length, awy L x[0] = false := fun h => by rw [h00 h]; exact hA
  have hL : awy L (x[r.length + 1]'(by omega)) = false := by rw [hlast]; exact fix_awy hc hb
  rw [route_names.l2, if_pos (by omega), if_pos (by omega), if_pos (by omega), show (0 : Int) = ((0 : Nat) : Int) from rfl, rdB (show 0 < x.length by omega), isAirway_f, Option.bind_some, h0 (by omega), if_neg (by decide), if_pos (by simp), w64 (by omega) (by omega), show (((0 : Nat) : Int) + 1) = ((1 : Nat) : Int) from rfl, List.nil_append, h00 (by omega)]
  obtain ⟨out, e, g1, g2, g3⟩ := names_l2 hc hk x (by omega) hall h0 (r.length + 1) (by omega) hL r.length q2 1 [a] (by omega) (by omega) (fun s hs => by obtain rfl := List.mem_singleton.1 hs; exact ha) (by simp)
  refine ⟨out, e, g1, g2, fun h => ?_⟩
  obtain ⟨p1, p2, p3, p4, p5⟩ := g3 h
  rw [List.length_singleton] at p3
  refine ⟨p1, by omega, p5, ?_, by rw [p4, hlast]⟩
  obtain ⟨t, rfl⟩ := p2
  rfl
/-- The fixes of a route, one by one. -/
theorem expand_l {F : List Fx} {L : List Aw} (l : List ByteArray) (hl : l.length ≤ 700) (hf : FixAll F l) : ∀ (d k i : Nat), i + d = l.length → d < k →
    ∃ r e, route_Expand.l0 k ((l.take i).map (fixOf F)) l (l.length : Int) (i : Int) F L = some (r, e) ∧ (e ≠ 0 → r = []) ∧
      (e = 0 → r = l.map (fixOf F) ∧ l.length ≤ 62 ∧ ∀ j (h : j + 1 < l.length), i ≤ j + 1 → 0 < j + 1 → (fixOf F l[j]).f1 ≠ (fixOf F l[j + 1]).f1)
  | 0, k, i, hi, hk => by
    obtain ⟨k, rfl⟩ : ∃ m, k = m + 1 := ⟨k - 1, by omega⟩
    rw [route_Expand.l0, if_neg (by omega), List.take_of_length_le (by omega), List.length_map]
    split
    · exact ⟨_, _, rfl, fun _ => rfl, fun h => absurd h (by decide)⟩
    · exact ⟨_, _, rfl, fun h => absurd rfl h, fun _ => ⟨rfl, by omega, fun j h1 h2 _ => by omega⟩⟩
  | d + 1, k, i, hi, hk => by
    obtain ⟨k, rfl⟩ : ∃ m, k = m + 1 := ⟨k - 1, by omega⟩
    have hlt : i < l.length := by omega
    have h0 := hf _ (List.getElem_mem hlt)
    have hr := fx_range F l[i]
    obtain ⟨r, e, g1, g2, g3⟩ := expand_l (L := L) l hl hf d k (i + 1) (by omega) (by omega)
    have hidx : api_Fix_67.f F (route_Expand_1.p l[i]) = some (fx F l[i]) := rfl
    have hx : ((l.take i).map (fixOf F)).length = i := by rw [List.length_map, List.length_take]; omega
    have hap : (l.take i).map (fixOf F) ++ [(⟨(rd_T40 F (fx F l[i])).f0, (⟨(rd_T40 F (fx F l[i])).f1.f0, (rd_T40 F (fx F l[i])).f1.f1⟩ : S36)⟩ : Fx)] = (l.take (i + 1)).map (fixOf F) := by
      rw [List.take_succ_eq_append_getElem hlt, List.map_append]
      rfl
    rw [route_Expand.l0, if_pos (by omega), if_pos (by omega), if_pos (by omega), rdB hlt, hidx, Option.bind_some, w64 (x := (i : Int) + 1) (by omega) (by omega), show ((i : Int) + 1) = ((i + 1 : Nat) : Int) by omega]
    by_cases c : (i : Int) > 0
    · have hj : i - 1 < ((l.take i).map (fixOf F)).length := by rw [hx]; omega
      have hprev : rd_T40 ((l.take i).map (fixOf F)) ((i : Int) - 1) = fixOf F l[i - 1] := by
        rw [show ((i : Int) - 1) = ((i - 1 : Nat) : Int) by omega, rdX hj, List.getElem_map, List.getElem_take]
      rw [if_pos c, w64 (x := (i : Int) - 1) (by omega) (by omega), if_pos (by omega), if_pos (by rw [hx]; omega), hprev, if_pos h0, if_pos (by omega)]
      split
      · exact ⟨_, _, rfl, fun _ => rfl, fun h => absurd h (by decide)⟩
      · rename_i hne
        rw [if_pos (by rw [hx]; omega), hap]
        refine ⟨r, e, g1, g2, fun h => ?_⟩
        obtain ⟨p1, p2, p3⟩ := g3 h
        refine ⟨p1, p2, fun j hj1 hj2 hj3 => ?_⟩
        by_cases cj : j + 1 = i
        · subst cj
          intro heq
          apply hne
          rw [show fixOf F l[j + 1 - 1] = fixOf F l[j] from rfl, show rd_T40 F (fx F l[j + 1]) = fixOf F l[j + 1] from rfl, heq]
          simp
        · exact p3 j hj1 (by omega) hj3
    · rw [if_neg c, if_pos h0, if_pos (by omega), if_pos (by rw [hx]; omega), hap]
      refine ⟨r, e, g1, g2, fun h => ?_⟩
      obtain ⟨p1, p2, p3⟩ := g3 h
      exact ⟨p1, p2, fun j hj1 hj2 hj3 => p3 j hj1 (by omega) hj3⟩
/-- What the check of a plan answers. -/
theorem plan_j2 (k : Nat) (x : Bool) (a b c d : ByteArray) (t s h : Int) (r : List ByteArray) : ∃ e, plantext_Check.j2 (k + 1) x a b c d t s h r = some e ∧ (e = 0 → r.length ≤ 24) := by
  rw [plantext_Check.j2]
  by_cases c0 : x = true
  · rw [if_pos c0]; exact ⟨_, rfl, fun h => absurd h (by decide)⟩
  rw [if_neg c0]
  by_cases c1 : (r.length : Int) > 24
  · rw [if_pos c1]; exact ⟨_, rfl, fun h => absurd h (by decide)⟩
  rw [if_neg c1]
  unfold slices_ContainsFunc_string_string.f
  rw [Option.bind_some]
  split
  · exact ⟨_, rfl, fun h => absurd h (by decide)⟩
  · exact ⟨_, rfl, fun _ => by omega⟩
theorem plan_j1 (k : Nat) (x : Bool) (a b c d : ByteArray) (t s h : Int) (r : List ByteArray) : ∃ e, plantext_Check.j1 (k + 2) x a b c d t s h r = some e ∧ (e = 0 → r.length ≤ 24) := by
  rw [plantext_Check.j1]
  split
  · exact ⟨_, rfl, fun h => absurd h (by decide)⟩
  (repeat' split) <;> exact plan_j2 _ _ _ _ _ _ _ _ _ _
theorem plan_l0 (v : List ByteArray) (hv : v.length ≤ 4) (a b c d' : ByteArray) (t s h : Int) (r : List ByteArray) : ∀ (d k i : Nat), i + d = v.length → d + 30 ≤ k → ∃ e, plantext_Check.l0 k v (v.length : Int) (i : Int) a b c d' t s h r = some e ∧ (e = 0 → r.length ≤ 24)
  | 0, k, i, hi, hk => by
    obtain ⟨k, rfl⟩ : ∃ m, k = m + 3 := ⟨k - 3, by omega⟩
    rw [plantext_Check.l0, if_neg (by omega)]
    split <;> exact plan_j1 _ _ _ _ _ _ _ _ _ _
  | d + 1, k, i, hi, hk => by
    obtain ⟨k, rfl⟩ : ∃ m, k = m + 1 := ⟨k - 1, by omega⟩
    obtain ⟨bn, hb⟩ := name_some v[i] k (by omega)
    rw [plantext_Check.l0, if_pos (by omega), if_pos (by omega), if_pos (by omega), rdB (show i < v.length by omega), hb, Option.bind_some, w64 (x := (i : Int) + 1) (by omega) (by omega), show ((i : Int) + 1) = ((i + 1 : Nat) : Int) by omega]
    split
    · exact plan_l0 v hv a b c d' t s h r d k (i + 1) (by omega) (by omega)
    · exact ⟨_, rfl, fun h => absurd h (by decide)⟩
theorem plan_f (a b c d : ByteArray) (t s h : Int) (r : List ByteArray) (k : Nat) (hk : 40 ≤ k) : ∃ e, plantext_Check.f k a b c d t s h r = some e ∧ (e = 0 → r.length ≤ 24) := by
  unfold plantext_Check.f
  rw [Option.bind_some]
  exact plan_l0 [a, b, c, d] (by simp) a b c d t s h r 4 k 0 (by simp) (by omega)
/-- The names between a beginning and an end. -/
theorem concat_f (a b : ByteArray) (r : List ByteArray) (hr : r.length ≤ 24) (k : Nat) (hk : 10 ≤ k) : slices_Concat_string_string.f k [[a], r, [b]] = some (a :: (r ++ [b])) := by
  obtain ⟨k, rfl⟩ : ∃ m, k = m + 10 := ⟨k - 10, by omega⟩
  have g0 : rd_L5 [[a], r, [b]] 0 = [a] := rfl
  have g1 : rd_L5 [[a], r, [b]] 1 = r := rfl
  have g2 : rd_L5 [[a], r, [b]] 2 = [b] := rfl
  have len : (([[a], r, [b]] : List (List ByteArray)).length : Int) = 3 := rfl
  have w1 : wrap64 (0 + 1) = 1 := w64 (by decide) (by decide)
  have w2 : wrap64 (1 + 1) = 2 := w64 (by decide) (by decide)
  have w3 : wrap64 (2 + 1) = 3 := w64 (by decide) (by decide)
  have s1 : wrap64 (0 + (([a] : List ByteArray).length : Int)) = 1 := by rw [w64 (by simp) (by simp)]; simp
  have s2 : wrap64 (1 + (r.length : Int)) = 1 + (r.length : Int) := w64 (by omega) (by omega)
  have s3 : wrap64 (1 + (r.length : Int) + (([b] : List ByteArray).length : Int)) = 2 + (r.length : Int) := by rw [w64 (by simp; omega) (by simp; omega)]; simp; omega
  unfold slices_Concat_string_string.f
  rw [len, slices_Concat_string_string.l0, if_pos (by decide), if_pos (by decide), len, if_pos (by decide), g0, s1, if_neg (by decide), w1]
  rw [slices_Concat_string_string.l0, if_pos (by decide), if_pos (by decide), len, if_pos (by decide), g1, s2, if_neg (by omega), w2]
  rw [slices_Concat_string_string.l0, if_pos (by decide), if_pos (by decide), len, if_pos (by decide), g2, s3, if_neg (by omega), w3]
  rw [slices_Concat_string_string.l0, if_neg (by decide)]
  unfold slices_Grow_string_string.f
  rw [if_pos ⟨rfl, by omega, by omega⟩, Option.bind_some, len]
  rw [slices_Concat_string_string.l1, if_pos (by decide), if_pos (by decide), len, if_pos (by decide), g0, if_pos (by simp), w1]
  rw [slices_Concat_string_string.l1, if_pos (by decide), if_pos (by decide), len, if_pos (by decide), g1, if_pos (by simp; omega), w2]
  rw [slices_Concat_string_string.l1, if_pos (by decide), if_pos (by decide), len, if_pos (by decide), g2, if_pos (by simp; omega), w3]
  rw [slices_Concat_string_string.l1, if_neg (by decide)]
  simp
theorem expand_g (a b c d : ByteArray) (t s h : Int) (r : List ByteArray) (F : List Fx) (L : List Aw) (k : Nat) (hk : 1500 ≤ k) :
    ∃ e, (e ≠ 0 ∧ route_Expand.f (k + 1) a b c d t s h r F L = some ([], e)) ∨ (e = 0 ∧ ChOk F L ∧ (∀ k, 250 ≤ k → chart_Check.f k F L = some 0) ∧ ∃ l, FixAll F l ∧ 2 ≤ l.length ∧ l.length ≤ 62 ∧ l[0]? = some c ∧ l[l.length - 1]? = some d ∧ plantext_Check.f (k + 1) a b c d t s h r = some 0 ∧ route_Expand.l0 k [] l (l.length : Int) 0 F L = some (l.map (fixOf F), 0) ∧ route_Expand.f (k + 1) a b c d t s h r F L = some (l.map (fixOf F), 0)) := by
  obtain ⟨e1, p1, p2⟩ := plan_f a b c d t s h r (k + 1) (by omega)
  obtain ⟨e2, q1, q2⟩ := chk2 F L
  have bad : route_Expand.j0 (k + 1) true a b c d t s h r F L = some ([], 6) := by rw [route_Expand.j0, if_pos rfl]
  unfold route_Expand.f
  rw [p1, Option.bind_some]
  by_cases c1 : e1 = 0
  · rw [if_pos c1, q1 _ (by omega), Option.bind_some]
    by_cases c2 : e2 = 0
    · subst c2
      have hc := q2 rfl
      rw [if_pos rfl, isFix_f, isFix_f, Option.bind_some, Option.bind_some]
      by_cases f1 : 0 ≤ fx F c
      · rw [if_pos (decide_eq_true f1)]
        by_cases f2 : 0 ≤ fx F d
        · rw [decide_eq_true f2, Bool.not_true, route_Expand.j0, if_neg (by decide), concat_f c d r (p2 c1) k (by omega), Option.bind_some]
          obtain ⟨l, e, n1, n2, n3⟩ := names_f hc q1 c d r (p2 c1) f1 f2 k (by omega)
          rw [n1, Option.bind_some]
          dsimp only
          by_cases c3 : e = 0
          · rw [if_pos c3]
            obtain ⟨m1, m2, m3, m4, m5⟩ := n3 c3
            obtain ⟨r', e', g1, g2, g3⟩ := expand_l (L := L) l m3 m1 l.length k 0 (by omega) (by omega)
            rw [List.take_zero, List.map_nil, show ((0 : Nat) : Int) = 0 from rfl] at g1
            rw [g1]
            by_cases c4 : e' = 0
            · obtain ⟨o1, o2, o3⟩ := g3 c4
              subst c4
              exact ⟨0, .inr ⟨rfl, hc, q1, l, m1, m2, o2, m4, m5, by rw [c1], by rw [g1, o1], by rw [o1]⟩⟩
            · exact ⟨e', .inl ⟨c4, by rw [g2 c4]⟩⟩
          · rw [if_neg c3]
            exact ⟨e, .inl ⟨c3, rfl⟩⟩
        · rw [decide_eq_false f2]
          exact ⟨6, .inl ⟨by decide, bad⟩⟩
      · rw [if_neg (by rw [decide_eq_false f1]; decide)]
        exact ⟨6, .inl ⟨by decide, bad⟩⟩
    · rw [if_neg c2]
      exact ⟨e2, .inl ⟨c2, rfl⟩⟩
  · rw [if_neg c1]
    exact ⟨e1, .inl ⟨c1, rfl⟩⟩
theorem routeWorks (k : Nat) (hk : 100 ≤ k) : skywaykeep1_routeWorks.f k = some true := by
  have h : skywaykeep1_routeWorks.f 100 = some true := by decide +kernel
  exact at_rounds skywaykeep1_routeWorks.mono hk h
theorem cj2 {a b c d : ByteArray} {t s h : Int} {r r' : List ByteArray} (h24 : r'.length ≤ 24) (hv : r'.any plantext_Check_1.p = false) : ∀ (k : Nat) (x : Bool), plantext_Check.j2 k x a b c d t s h r = some 0 → plantext_Check.j2 k x a b c d t s h r' = some 0
  | 0, x, h0 => by rw [plantext_Check.j2] at h0; cases h0
  | k + 1, x, h0 => by
    rw [plantext_Check.j2] at h0 ⊢
    by_cases c0 : x = true
    · rw [if_pos c0] at h0; cases h0
    · rw [if_neg c0, if_neg (by omega)]
      unfold slices_ContainsFunc_string_string.f
      rw [hv, Option.bind_some, if_neg (by decide)]
theorem cj1 {a b c d : ByteArray} {t s h : Int} {r r' : List ByteArray} (h24 : r'.length ≤ 24) (hv : r'.any plantext_Check_1.p = false) : ∀ (k : Nat) (x : Bool), plantext_Check.j1 k x a b c d t s h r = some 0 → plantext_Check.j1 k x a b c d t s h r' = some 0
  | 0, x, h0 => by rw [plantext_Check.j1] at h0; cases h0
  | k + 1, x, h0 => by
    rw [plantext_Check.j1] at h0 ⊢
    by_cases c0 : x = true
    · rw [if_pos c0] at h0; cases h0
    · rw [if_neg c0] at h0 ⊢
      by_cases c1 : s < 1
      · rw [if_pos c1] at h0 ⊢; exact cj2 h24 hv _ _ h0
      · rw [if_neg c1] at h0 ⊢
        by_cases c2 : s > 400
        · rw [if_pos c2] at h0 ⊢; exact cj2 h24 hv _ _ h0
        · rw [if_neg c2] at h0 ⊢
          by_cases c3 : h < 1
          · rw [if_pos c3] at h0 ⊢; exact cj2 h24 hv _ _ h0
          · rw [if_neg c3] at h0 ⊢; exact cj2 h24 hv _ _ h0
theorem cl0 {a b c d : ByteArray} {t s h : Int} {r r' : List ByteArray} (h24 : r'.length ≤ 24) (hv : r'.any plantext_Check_1.p = false) : ∀ (k : Nat) (v : List ByteArray) (n i : Int), plantext_Check.l0 k v n i a b c d t s h r = some 0 → plantext_Check.l0 k v n i a b c d t s h r' = some 0
  | 0, v, n, i, h0 => by rw [plantext_Check.l0] at h0; cases h0
  | k + 1, v, n, i, h0 => by
    rw [plantext_Check.l0] at h0 ⊢
    by_cases c0 : i < n
    · rw [if_pos c0] at h0 ⊢
      by_cases c1 : 0 ≤ i
      · rw [if_pos c1] at h0 ⊢
        by_cases c2 : i < (v.length : Int)
        · rw [if_pos c2] at h0 ⊢
          cases hb : chart_Name.f k (rdOf ByteArray.empty v i) with
          | none => rw [hb] at h0; cases h0
          | some b =>
            rw [hb, Option.bind_some] at h0
            rw [Option.bind_some]
            by_cases c3 : b = true
            · rw [if_pos c3] at h0 ⊢; exact cl0 h24 hv k v n _ h0
            · rw [if_neg c3] at h0; cases h0
        · rw [if_neg c2] at h0; cases h0
      · rw [if_neg c1] at h0; cases h0
    · rw [if_neg c0] at h0 ⊢
      by_cases c1 : t < 0
      · rw [if_pos c1] at h0 ⊢; exact cj1 h24 hv _ _ h0
      · rw [if_neg c1] at h0 ⊢; exact cj1 h24 hv _ _ h0
theorem cf {a b c d : ByteArray} {t s h : Int} {r r' : List ByteArray} (h24 : r'.length ≤ 24) (hv : r'.any plantext_Check_1.p = false) (k : Nat) (h0 : plantext_Check.f k a b c d t s h r = some 0) : plantext_Check.f k a b c d t s h r' = some 0 := by
  unfold plantext_Check.f at h0 ⊢
  rw [Option.bind_some] at h0 ⊢
  exact cl0 h24 hv _ _ _ _ h0
theorem nl0 {F : List Fx} {L : List Aw} (x : List ByteArray) (hx : x.length ≤ 26) (hf : FixAll F x) : ∀ (d k i : Nat), i + d = x.length → d + 30 < k → ∃ q, k ≤ q + d + 1 ∧ route_names.l0 k x x (x.length : Int) (i : Int) F L = route_names.l1 q x 1 F L
  | 0, k, i, hi, hk => by
    obtain ⟨k, rfl⟩ : ∃ m, k = m + 1 := ⟨k - 1, by omega⟩
    exact ⟨k, by omega, by rw [route_names.l0, if_neg (by omega)]⟩
  | d + 1, k, i, hi, hk => by
    obtain ⟨k, rfl⟩ : ∃ m, k = m + 1 := ⟨k - 1, by omega⟩
    have hlt : i < x.length := by omega
    obtain ⟨q, h1, h2⟩ := nl0 (L := L) x hx hf d k (i + 1) (by omega) (by omega)
    refine ⟨q, by omega, ?_⟩
    rw [route_names.l0, if_pos (by omega), if_pos (by omega), if_pos (by omega), rdB hlt, isFix_f, isAirway_f, Option.bind_some, Option.bind_some, w64 (x := (i : Int) + 1) (by omega) (by omega), show ((i : Int) + 1) = ((i + 1 : Nat) : Int) by omega, if_pos (decide_eq_true (hf _ (List.getElem_mem hlt)))]
    exact h2
theorem nl1 {F : List Fx} {L : List Aw} (hc : ChOk F L) (x : List ByteArray) (hx : x.length ≤ 26) (hf : FixAll F x) : ∀ (d k i : Nat), i + d = x.length → 1 ≤ i → d < k → ∃ q, k ≤ q + d + 1 ∧ route_names.l1 k x (i : Int) F L = route_names.l2 q x [] x (x.length : Int) 0 F L
  | 0, k, i, hi, h1, hk => by
    obtain ⟨k, rfl⟩ : ∃ m, k = m + 1 := ⟨k - 1, by omega⟩
    exact ⟨k, by omega, by rw [route_names.l1, if_neg (by omega)]⟩
  | d + 1, k, i, hi, h1, hk => by
    obtain ⟨k, rfl⟩ : ∃ m, k = m + 1 := ⟨k - 1, by omega⟩
    obtain ⟨q, g1, g2⟩ := nl1 hc x hx hf d k (i + 1) (by omega) (by omega) (by omega)
    refine ⟨q, by omega, ?_⟩
    have hlt : i - 1 < x.length := by omega
    rw [route_names.l1, if_pos (by omega), w64 (x := (i : Int) - 1) (by omega) (by omega), if_pos (by omega), if_pos (by omega), show ((i : Int) - 1) = ((i - 1 : Nat) : Int) by omega, rdB hlt, isAirway_f, Option.bind_some, fix_awy hc (hf _ (List.getElem_mem hlt)), if_neg (by decide), w64 (x := (i : Int) + 1) (by omega) (by omega), show ((i : Int) + 1) = ((i + 1 : Nat) : Int) by omega]
    exact g2
theorem nl2 {F : List Fx} {L : List Aw} (hc : ChOk F L) (x : List ByteArray) (hx : x.length ≤ 26) (hf : FixAll F x) : ∀ (d k i : Nat), i + d = x.length → d + 10 < k → route_names.l2 k x (x.take i) x (x.length : Int) (i : Int) F L = some (x, 0)
  | 0, k, i, hi, hk => by
    obtain ⟨k, rfl⟩ : ∃ m, k = m + 1 := ⟨k - 1, by omega⟩
    rw [route_names.l2, if_neg (by omega), List.take_of_length_le (by omega)]
  | d + 1, k, i, hi, hk => by
    obtain ⟨k, rfl⟩ : ∃ m, k = m + 1 := ⟨k - 1, by omega⟩
    have hlt : i < x.length := by omega
    have ih := nl2 hc x hx hf d k (i + 1) (by omega) (by omega)
    rw [route_names.l2, if_pos (by omega), if_pos (by omega), if_pos (by omega), rdB hlt, isAirway_f, Option.bind_some, fix_awy hc (hf _ (List.getElem_mem hlt)), if_neg (by decide), if_pos (by rw [List.length_take]; omega), w64 (x := (i : Int) + 1) (by omega) (by omega), show ((i : Int) + 1) = ((i + 1 : Nat) : Int) by omega, ← List.take_succ_eq_append_getElem hlt]
    exact ih
theorem nf {F : List Fx} {L : List Aw} (hc : ChOk F L) (x : List ByteArray) (hx : x.length ≤ 26) (h1 : 1 ≤ x.length) (hf : FixAll F x) (k : Nat) (hk : 400 ≤ k) : route_names.f k x F L = some (x, 0) := by
  obtain ⟨q, g1, g2⟩ := nl0 (L := L) x hx hf x.length k 0 (by omega) (by omega)
  obtain ⟨q2, g3, g4⟩ := nl1 hc x hx hf (x.length - 1) q 1 (by omega) (by omega) (by omega)
  have g5 := nl2 hc x hx hf x.length q2 0 (by omega) (by omega)
  unfold route_names.f
  rw [show ((0 : Nat) : Int) = 0 from rfl] at g2 g5
  rw [show ((1 : Nat) : Int) = 1 from rfl] at g4
  rw [g2, g4]
  exact g5
theorem name_good {F : List Fx} {L : List Aw} (hc : ChOk F L) {s : ByteArray} (h : 0 ≤ fx F s) : plantext_Check_1.p s = false := by
  obtain ⟨j, hj, _, _, h4⟩ := fix_at F s h
  have h1 := (hc.2.2.1 j hj).1
  rw [h4] at h1
  have h2 := plantext_Check_1.name s
  have h3 := at_rounds (chart_Name.mono s) (show 10 ≤ 250 by decide) h2
  rw [h1] at h3
  unfold plantext_Check_1.p
  rw [← Option.some.inj h3]
  rfl
/-- The route of fixes alone. -/
theorem again {a b c d : ByteArray} {t s h : Int} {F : List Fx} {L : List Aw} {k : Nat} (hk : 1500 ≤ k) (hc : ChOk F L) (l : List ByteArray) (hf : FixAll F l) (h2 : 2 ≤ l.length) (h20 : l.length ≤ 20) (hc0 : l[0]? = some c) (hd0 : l[l.length - 1]? = some d)
    (hx : ∀ k, 250 ≤ k → chart_Check.f k F L = some 0) (h0 : ∃ q, plantext_Check.f (k + 1) a b c d t s h q = some 0) (hl : route_Expand.l0 k [] l (l.length : Int) 0 F L = some (l.map (fixOf F), 0)) :
    route_Expand.f (k + 1) a b c d t s h ((l.take (l.length - 1)).drop 1) F L = some (l.map (fixOf F), 0) := by
  obtain ⟨q, h0⟩ := h0
  have hmem : ∀ s ∈ (l.take (l.length - 1)).drop 1, 0 ≤ fx F s := fun s hs => hf s (List.mem_of_mem_take (List.mem_of_mem_drop hs))
  have hlen : ((l.take (l.length - 1)).drop 1).length ≤ 24 := by rw [List.length_drop, List.length_take]; omega
  have hv : ((l.take (l.length - 1)).drop 1).any plantext_Check_1.p = false := by
    rw [Bool.eq_false_iff]
    intro hany
    obtain ⟨s, hs, hp⟩ := List.any_eq_true.1 hany
    rw [name_good hc (hmem s hs)] at hp
    cases hp
  have hck := cf hlen hv (k + 1) h0
  have hwhole : c :: ((l.take (l.length - 1)).drop 1 ++ [d]) = l := by
    obtain ⟨x, m, rfl⟩ : ∃ x m, l = x :: m := by
      cases l with
      | nil => simp at h2
      | cons x m => exact ⟨x, m, rfl⟩
    obtain rfl : x = c := by simpa using hc0
    have hm : m.length ≠ 0 := by simp at h2; omega
    rw [List.length_cons, show m.length + 1 - 1 = (m.length - 1) + 1 by omega, List.take_succ_cons, List.drop_succ_cons, List.drop_zero]
    have hlast : m[m.length - 1]? = some d := by
      rw [List.length_cons, show m.length + 1 - 1 = (m.length - 1) + 1 by omega, List.getElem?_cons_succ] at hd0
      exact hd0
    congr 1
    obtain ⟨h3, h4⟩ := List.getElem?_eq_some_iff.1 hlast
    have := List.take_succ_eq_append_getElem h3
    rw [show m.length - 1 + 1 = m.length by omega, List.take_length, h4] at this
    exact this.symm
  have hcf : 0 ≤ fx F c := hf c (List.mem_of_getElem? hc0)
  have hdf : 0 ≤ fx F d := hf d (List.mem_of_getElem? hd0)
  unfold route_Expand.f
  rw [hck, Option.bind_some, if_pos rfl, hx _ (by omega), Option.bind_some, if_pos rfl, isFix_f, isFix_f, Option.bind_some, Option.bind_some, if_pos (decide_eq_true hcf), decide_eq_true hdf, Bool.not_true, route_Expand.j0, if_neg (by decide), concat_f c d _ hlen k (by omega), Option.bind_some, hwhole, nf hc l (by omega) (by omega) hf k (by omega), Option.bind_some]
  dsimp only
  rw [if_pos rfl]
  exact hl
theorem nms_eq {F : List Fx} {l : List ByteArray} (hf : FixAll F l) : skywaykeep1_RouteDirect.nms (l.map (fixOf F)) = (l.take (l.length - 1)).drop 1 := by
  unfold skywaykeep1_RouteDirect.nms
  rw [List.length_map, ← List.map_take, ← List.map_drop, List.map_map]
  have : ∀ m : List ByteArray, (∀ s ∈ m, 0 ≤ fx F s) → m.map ((fun x : Fx => x.f0) ∘ fixOf F) = m := by
    intro m
    induction m with
    | nil => intro _; rfl
    | cons x m ih =>
      intro h
      rw [List.map_cons, ih (fun s hs => h s (List.mem_cons_of_mem _ hs))]
      congr 1
      exact fix_name F x (h x (List.mem_cons_self ..))
  exact this _ (fun s hs => hf s (List.mem_of_mem_take (List.mem_of_mem_drop hs)))
theorem RouteDirect : skywaykeep1_RouteDirect.Pure := by
  intro a b c d t s h r F L _ _ _ _ _ _ _ _ _ _
  refine ⟨1501, ?_⟩
  unfold skywaykeep1_RouteDirect.f
  rw [routeWorks _ (by omega), Option.bind_some, if_pos rfl]
  obtain ⟨e, ⟨he, hx⟩ | ⟨_, hc, hk, l, hf, h2, _, hc0, hd0, hp, hl, hx⟩⟩ := expand_g a b c d t s h r F L 1500 (by omega)
  · rw [hx, Option.bind_some]
    dsimp only
    rw [if_neg he]
    rfl
  · rw [hx, Option.bind_some]
    dsimp only
    rw [if_pos rfl, List.length_map]
    by_cases c20 : 20 < l.length
    · rw [if_pos c20]
    · rw [if_neg c20, if_neg (by omega), nms_eq hf, again (by omega) hc l hf h2 (by omega) hc0 hd0 hk ⟨r, hp⟩ hl, Option.bind_some]
      exact if_pos ⟨rfl, rfl⟩
end Go.Proofs.Ytbpbpojnfhhbjaa.Pure
