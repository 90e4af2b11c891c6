/- ChartBetween: a part of an airway, flown in the other direction, is the reverse, and its ends are as asked for. -/
import Derived.Test.YtbpbpojnfhhbjaaPChartBetweenx
import Derived.Test.YtbpbpojnfhhbjaaMath
import Derived.Laws.Strings
namespace Go.Proofs.Ytbpbpojnfhhbjaa.Pure
open Go Go.RowKit Go.Proofs.Ytbpbpojnfhhbjaa Go.Proofs.Ytbpbpojnfhhbjaa.PChartBetween Go.Proofs.YtbpbpojnfhhbjaaW.PrintWords Go.Proofs.YtbpbpojnfhhbjaaW.PrintLast Go.Proofs.YtbpbpojnfhhbjaaM
/-- A permitted coordinate. -/
def Ok (x y : Int) : Prop := -1000000 ≤ x ∧ x ≤ 1000000 ∧ -1000000 ≤ y ∧ y ≤ 1000000
instance (x y : Int) : Decidable (Ok x y) := inferInstanceAs (Decidable (_ ∧ _))
theorem check_f (x y : Int) : plane_Check.f x y = some (if Ok x y then 0 else 4) := by
  unfold plane_Check.f
  by_cases c : Ok x y
  · rw [if_pos c]
    obtain ⟨c1, c2, c3, c4⟩ := c
    rw [if_neg (by omega), if_neg (by omega), if_neg (by omega), if_neg (by omega)]
  · rw [if_neg c]
    by_cases c1 : x < -1000000
    · rw [if_pos c1]
    · rw [if_neg c1]
      by_cases c2 : x > 1000000
      · rw [if_pos c2]
      · rw [if_neg c2]
        by_cases c3 : y < -1000000
        · rw [if_pos c3]
        · rw [if_neg c3, if_pos (by
            rcases Int.lt_or_le 1000000 y with h | h
            · exact h
            · exact absurd (show Ok x y from ⟨by omega, by omega, by omega, h⟩) c)]
abbrev Fx := S40
abbrev Aw := S48
theorem bt_eq {a b : ByteArray} : a.toList = b.toList ↔ a = b := by
  constructor
  · intro h
    rw [ByteArray.toList_eq, ByteArray.toList_eq] at h
    exact ByteArray.ext (Array.toList_inj.mp h)
  · rintro rfl; rfl
theorem rdX {l : List Fx} {i : Nat} (h : i < l.length) : rd_T40 l (i : Int) = l[i] := by
  unfold rd_T40
  rw [Int.toNat_natCast, List.getD_eq_getElem?_getD, List.getElem?_eq_getElem h]
  rfl
theorem rdA {l : List Aw} {i : Nat} (h : i < l.length) : rd_T48 l (i : Int) = l[i] := by
  unfold rd_T48
  rw [Int.toNat_natCast, List.getD_eq_getElem?_getD, List.getElem?_eq_getElem h]
  rfl
theorem rdB {l : List ByteArray} {i : Nat} (h : i < l.length) : rdOf ByteArray.empty l (i : Int) = l[i] := by
  unfold rdOf
  rw [Int.toNat_natCast, List.getD_eq_getElem?_getD, List.getElem?_eq_getElem h]
  rfl
theorem name_l (s : ByteArray) (hs : s.size ≤ 8) : ∀ (d k i : Nat), i + d = s.size → d < k → ∃ b, chart_Name.l0 k s (s.size : Int) (i : Int) = some b
  | 0, k, i, hi, hk => by
    obtain ⟨k, rfl⟩ : ∃ m, k = m + 1 := ⟨k - 1, by omega⟩
    exact ⟨true, by rw [chart_Name.l0, if_neg (by omega)]⟩
  | d + 1, k, i, hi, hk => by
    obtain ⟨k, rfl⟩ : ∃ m, k = m + 1 := ⟨k - 1, by omega⟩
    have ih := name_l s hs d k (i + 1) (by omega) (by omega)
    rw [chart_Name.l0, if_pos (by omega), if_pos (by omega), if_pos (by omega), w64 (x := (i : Int) + 1) (by omega) (by omega), show ((i : Int) + 1) = ((i + 1 : Nat) : Int) by omega]
    repeat' split
    all_goals first | exact ih | exact ⟨_, rfl⟩
theorem name_some (s : ByteArray) (k : Nat) (hk : 20 ≤ k) : ∃ b, chart_Name.f k s = some b := by
  have h1 : ∀ (q : Nat) x, 15 ≤ q → s.size ≤ 8 ∨ x = true → ∃ b, chart_Name.j0 q s x = some b := by
    intro q x hq hx
    obtain ⟨q, rfl⟩ : ∃ m, q = m + 1 := ⟨q - 1, by omega⟩
    rw [chart_Name.j0]
    by_cases c : x = true
    · rw [if_pos c]; exact ⟨_, rfl⟩
    · rw [if_neg c]
      have hs : s.size ≤ 8 := hx.elim id (fun h => absurd h c)
      exact name_l s hs s.size q 0 (by omega) (by omega)
  unfold chart_Name.f
  by_cases c0 : (s.size : Int) = 0
  · rw [if_pos c0]; exact h1 _ _ (by omega) (.inr rfl)
  rw [if_neg c0]
  by_cases c1 : (s.size : Int) > 8
  · rw [if_pos c1]; exact h1 _ _ (by omega) (.inr rfl)
  rw [if_neg c1, if_pos (by omega)]
  by_cases c2 : bt s 0 < 65
  · rw [if_pos c2]; exact h1 _ _ (by omega) (.inr rfl)
  · rw [if_neg c2]; exact h1 _ _ (by omega) (.inl (by omega))
/-- Where a name stands in a list, or -1. -/
def at_ (l : List ByteArray) (s : ByteArray) : Int := IdxF.idx (fun x => decide (x = s)) l
theorem index_l (l : List ByteArray) (hl : l.length ≤ 8796093021952) (s : ByteArray) : ∀ (d k i : Nat), i + d = l.length → d < k → (∀ j (h : j < l.length), j < i → l[j] ≠ s) →
    slices_Index_string_string.l0 k l s (l.length : Int) (i : Int) = some (at_ l s)
  | 0, k, i, hi, hk, hb => by
    obtain ⟨k, rfl⟩ : ∃ m, k = m + 1 := ⟨k - 1, by omega⟩
    rw [slices_Index_string_string.l0, if_neg (by omega)]
    congr 1
    exact (IdxF.idx_miss _ l (fun j h => decide_eq_false (hb j h (by omega)))).symm
  | d + 1, k, i, hi, hk, hb => by
    obtain ⟨k, rfl⟩ : ∃ m, k = m + 1 := ⟨k - 1, by omega⟩
    have hlt : i < l.length := by omega
    rw [slices_Index_string_string.l0, if_pos (by omega), if_pos (by omega), if_pos (by omega), rdB hlt]
    by_cases c : s.toList = l[i].toList
    · rw [if_pos c]
      congr 1
      exact (IdxF.idx_hit _ l hlt (decide_eq_true (bt_eq.1 c).symm) (fun j h => decide_eq_false (hb j _ h))).symm
    · rw [if_neg c, w64 (x := (i : Int) + 1) (by omega) (by omega), show ((i : Int) + 1) = ((i + 1 : Nat) : Int) by omega]
      refine index_l l hl s d k (i + 1) (by omega) (by omega) (fun j h hj => ?_)
      by_cases e : j = i
      · subst e; exact fun h2 => c (bt_eq.2 h2.symm)
      · exact hb j h (by omega)
theorem index_f (l : List ByteArray) (hl : l.length ≤ 8796093021952) (s : ByteArray) (k : Nat) (hk : l.length < k) : slices_Index_string_string.f k l s = some (at_ l s) := by
  unfold slices_Index_string_string.f
  exact index_l l hl s l.length k 0 (by omega) hk (fun j _ h => absurd h (Nat.not_lt_zero _))
/-- Where a fix stands, or -1. -/
def fx (F : List Fx) (s : ByteArray) : Int := IdxF.idx (chart_find_1.p s) F
theorem find_f (F : List Fx) (L : List Aw) (s : ByteArray) : chart_find.f F L s = some (fx F s) := by
  unfold chart_find.f api_Fix.f
  rw [Option.bind_some]
  rfl
theorem fx_range (F : List Fx) (s : ByteArray) : fx F s = -1 ∨ (0 ≤ fx F s ∧ fx F s < (F.length : Int)) := IdxF.idx_range _ _
theorem airway_l (F : List Fx) (L : List Aw) (nm : ByteArray) (l : List ByteArray) (hl : l.length ≤ 24) : ∀ (d k i : Nat), i + d = l.length → d + 30 < k → (0 < i → ∀ h2 : i - 1 < l.length, 0 ≤ fx F l[i - 1]) →
    ∃ e, chart_airway.l0 k l (l.length : Int) (i : Int) F L nm l = some e
  | 0, k, i, hi, hk, hf => by
    obtain ⟨k, rfl⟩ : ∃ m, k = m + 1 := ⟨k - 1, by omega⟩
    exact ⟨0, by rw [chart_airway.l0, if_neg (by omega)]⟩
  | d + 1, k, i, hi, hk, hf => by
    obtain ⟨k, rfl⟩ : ∃ m, k = m + 1 := ⟨k - 1, by omega⟩
    have hlt : i < l.length := by omega
    have r := fx_range F l[i]
    rw [chart_airway.l0, if_pos (by omega), if_pos (by omega), if_pos (by omega), rdB hlt, find_f, Option.bind_some]
    by_cases c1 : fx F l[i] < 0
    · rw [if_pos c1]; exact ⟨_, rfl⟩
    have ih := airway_l F L nm l hl d k (i + 1) (by omega) (by omega) (fun _ h2 => by
      have e : i + 1 - 1 = i := by omega
      simp only [e]; omega)
    rw [show ((i + 1 : Nat) : Int) = (i : Int) + 1 by omega] at ih
    rw [if_neg c1, if_pos (by omega), Int.toNat_natCast]
    unfold slices_Contains_string_string.f
    rw [index_f (l.take i) (by rw [List.length_take]; omega) _ k (by rw [List.length_take]; omega), Option.bind_some, Option.bind_some]
    by_cases c2 : decide (at_ (l.take i) l[i] ≥ 0) = true
    · rw [if_pos c2]; exact ⟨_, rfl⟩
    rw [if_neg c2, w64 (x := (i : Int) + 1) (by omega) (by omega)]
    by_cases c3 : (i : Int) > 0
    · have hf' := hf (by omega) (by omega)
      have r2 := fx_range F l[i - 1]
      rw [if_pos c3, w64 (x := (i : Int) - 1) (by omega) (by omega), if_pos (by omega), if_pos (by omega), show ((i : Int) - 1) = ((i - 1 : Nat) : Int) by omega, rdB (show i - 1 < l.length by omega), find_f, Option.bind_some,
        if_pos hf', if_pos (by omega), if_pos (by omega), if_pos (by omega)]
      split
      · exact ⟨_, rfl⟩
      · exact ih
    · rw [if_neg c3]; exact ih
theorem airway_f (F : List Fx) (L : List Aw) (i k : Nat) (hk : 100 ≤ k) (hi : i < L.length) : ∃ e, chart_airway.f k F L (i : Int) = some e := by
  have hj : ∀ (q : Nat) x (nm : ByteArray) (l : List ByteArray), 90 ≤ q → ∃ e, chart_airway.j0 q x F L nm l = some e := by
    intro q x nm l hq
    obtain ⟨q, rfl⟩ : ∃ m, q = m + 1 := ⟨q - 1, by omega⟩
    rw [chart_airway.j0]
    by_cases c0 : x = true
    · rw [if_pos c0]; exact ⟨_, rfl⟩
    rw [if_neg c0]
    by_cases c1 : (l.length : Int) < 2
    · rw [if_pos c1]; exact ⟨_, rfl⟩
    rw [if_neg c1]
    by_cases c2 : (l.length : Int) > 24
    · rw [if_pos c2]; exact ⟨_, rfl⟩
    rw [if_neg c2]
    exact airway_l F L nm l (by omega) l.length q 0 (by omega) (by omega) (fun h => absurd h (Nat.lt_irrefl _))
  unfold chart_airway.f
  obtain ⟨b, hb⟩ := name_some (L[i]).f0 k (by omega)
  rw [if_pos (by omega), if_pos (by omega), rdA hi, hb, Option.bind_some]
  by_cases c0 : b = true
  · rw [if_pos c0, find_f, Option.bind_some]
    by_cases c1 : fx F (L[i]).f0 ≥ 0
    · rw [if_pos c1]; exact hj _ _ _ _ (by omega)
    · rw [if_neg c1, if_pos (by omega)]
      unfold api_Airway_121.f
      rw [Option.bind_some]
      exact hj _ _ _ _ (by omega)
  · rw [if_neg c0]; exact ⟨_, rfl⟩
theorem chk_l1 (F : List Fx) (L : List Aw) (hL : L.length ≤ 16) : ∀ (d k i : Nat), i + d = L.length → d + 100 < k → ∃ e, chart_Check.l1 k (L.length : Int) (i : Int) F L = some e
  | 0, k, i, hi, hk => by
    obtain ⟨k, rfl⟩ : ∃ m, k = m + 1 := ⟨k - 1, by omega⟩
    exact ⟨0, by rw [chart_Check.l1, if_neg (by omega)]⟩
  | d + 1, k, i, hi, hk => by
    obtain ⟨k, rfl⟩ : ∃ m, k = m + 1 := ⟨k - 1, by omega⟩
    obtain ⟨e, he⟩ := airway_f F L i k (by omega) (by omega)
    have ih := chk_l1 F L hL d k (i + 1) (by omega) (by omega)
    rw [chart_Check.l1, if_pos (by omega), he, Option.bind_some, w64 (x := (i : Int) + 1) (by omega) (by omega), show ((i : Int) + 1) = ((i + 1 : Nat) : Int) by omega]
    split
    · exact ih
    · exact ⟨_, rfl⟩
/-- What the check of a chart tells of its fixes. -/
def FixOk (F : List Fx) : Prop := ∀ i (h : i < F.length), chart_Name.f 200 (F[i]).f0 = some true ∧ (i : Int) ≤ fx F (F[i]).f0 ∧ Ok (F[i]).f1.f0 (F[i]).f1.f1
theorem chk_l0 (F : List Fx) (L : List Aw) (hF : F.length ≤ 64) (hL : L.length ≤ 16) : ∀ (d k i : Nat), i + d = F.length → d + 130 < k →
    ∃ e, chart_Check.l0 k F (F.length : Int) (i : Int) F L = some e ∧ (e = 0 → ∀ j (h : j < F.length), i ≤ j → chart_Name.f k (F[j]).f0 = some true ∧ (j : Int) ≤ fx F (F[j]).f0 ∧ Ok (F[j]).f1.f0 (F[j]).f1.f1)
  | 0, k, i, hi, hk => by
    obtain ⟨k, rfl⟩ : ∃ m, k = m + 1 := ⟨k - 1, by omega⟩
    obtain ⟨e, he⟩ := chk_l1 F L hL L.length k 0 (by omega) (by omega)
    refine ⟨e, by rw [chart_Check.l0, if_neg (by omega)]; exact he, fun _ j h hj => by omega⟩
  | d + 1, k, i, hi, hk => by
    obtain ⟨k, rfl⟩ : ∃ m, k = m + 1 := ⟨k - 1, by omega⟩
    have hlt : i < F.length := by omega
    obtain ⟨b, hb⟩ := name_some (F[i]).f0 k (by omega)
    obtain ⟨e, he, hz⟩ := chk_l0 F L hF hL d k (i + 1) (by omega) (by omega)
    rw [chart_Check.l0, if_pos (by omega), if_pos (by omega), if_pos (by omega), rdX hlt, hb, Option.bind_some, find_f]
    by_cases c0 : b = true
    · rw [if_pos c0, Option.bind_some]
      by_cases c1 : fx F (F[i]).f0 < (i : Int)
      · rw [if_pos c1]; exact ⟨7, rfl, fun h => by omega⟩
      · rw [if_neg c1, check_f, Option.bind_some, w64 (x := (i : Int) + 1) (by omega) (by omega), show ((i : Int) + 1) = ((i + 1 : Nat) : Int) by omega]
        by_cases c2 : Ok (F[i]).f1.f0 (F[i]).f1.f1
        · rw [if_pos c2, if_pos rfl]
          refine ⟨e, he, fun h j hj hij => ?_⟩
          by_cases c3 : j = i
          · subst c3
            exact ⟨at_rounds (fun q => chart_Name.mono _ q) (Nat.le_succ k) (c0 ▸ hb), by omega, c2⟩
          · obtain ⟨g1, g2⟩ := hz h j hj (by omega)
            exact ⟨at_rounds (fun q => chart_Name.mono _ q) (Nat.le_succ k) g1, g2⟩
        · rw [if_neg c2, if_neg (by decide)]
          exact ⟨4, rfl, fun h => by omega⟩
    · rw [if_neg c0]; exact ⟨5, rfl, fun h => by omega⟩
theorem chk (F : List Fx) (L : List Aw) : ∃ e, (∀ k, 250 ≤ k → chart_Check.f k F L = some e) ∧ (e = 0 → F.length ≤ 64 ∧ L.length ≤ 16 ∧ ∀ j (h : j < F.length), chart_Name.f 250 (F[j]).f0 = some true ∧ (j : Int) ≤ fx F (F[j]).f0 ∧ Ok (F[j]).f1.f0 (F[j]).f1.f1) := by
  have key : ∃ e, chart_Check.f 250 F L = some e ∧ (e = 0 → F.length ≤ 64 ∧ L.length ≤ 16 ∧ ∀ j (h : j < F.length), chart_Name.f 250 (F[j]).f0 = some true ∧ (j : Int) ≤ fx F (F[j]).f0 ∧ Ok (F[j]).f1.f0 (F[j]).f1.f1) := by
    unfold chart_Check.f
    by_cases c0 : (F.length : Int) > 64
    · rw [if_pos c0]; exact ⟨2, rfl, fun h => by omega⟩
    rw [if_neg c0, show (250 : Nat) = 249 + 1 from rfl, chart_Check.j0]
    by_cases c1 : (L.length : Int) > 16
    · rw [if_pos (decide_eq_true c1)]; exact ⟨2, rfl, fun h => by omega⟩
    rw [if_neg (by rw [decide_eq_false c1]; decide)]
    obtain ⟨e, he, hz⟩ := chk_l0 F L (by omega) (by omega) F.length 249 0 (by omega) (by omega)
    refine ⟨e, he, fun h => ⟨by omega, by omega, fun j hj => ?_⟩⟩
    obtain ⟨g1, g2⟩ := hz h j hj (Nat.zero_le _)
    exact ⟨at_rounds (fun q => chart_Name.mono _ q) (Nat.le_succ 249) g1, g2⟩
  obtain ⟨e, he, hz⟩ := key
  exact ⟨e, fun k hk => at_rounds (fun q => chart_Check.mono _ _ q) hk he, hz⟩
theorem chartWorks (k : Nat) (hk : 60 ≤ k) : skywaykeep1_chartWorks.f k = some true := by
  have h : skywaykeep1_chartWorks.f 60 = some true := by decide +kernel
  exact at_rounds skywaykeep1_chartWorks.mono hk h
theorem idx_le {α : Type} (p : α → Bool) (l : List α) {j : Nat} (hj : j < l.length) (hp : p l[j] = true) : 0 ≤ IdxF.idx p l ∧ IdxF.idx p l ≤ (j : Int) := by
  unfold IdxF.idx
  rw [if_pos (IdxF.any_split p l hj hp)]
  have h : l.findIdx p ≤ j := by
    rcases Nat.lt_or_ge j (l.findIdx p) with h | h
    · have := List.not_of_lt_findIdx h
      rw [hp] at this
      cases this
    · exact h
  omega
theorem idx_at {α : Type} (p : α → Bool) (l : List α) {i : Nat} (h : IdxF.idx p l = (i : Int)) : ∃ hi : i < l.length, p l[i] = true := by
  unfold IdxF.idx at h
  by_cases c : l.any p = true
  · rw [if_pos c] at h
    have hlt := List.findIdx_lt_length.2 (List.any_eq_true.1 c)
    obtain rfl : l.findIdx p = i := by omega
    exact ⟨hlt, List.findIdx_getElem⟩
  · rw [if_neg c] at h; omega
/-- What slices.Reverse leaves. -/
theorem rev_l (l : List ByteArray) (hl : l.length ≤ 8796093021952) : ∀ (d k i : Nat) (x : List ByteArray), l.length ≤ 2 * (i + d) + 1 → d < k → 2 * i ≤ l.length → x.length = l.length →
    (∀ m, m < l.length → x[m]? = if m < i ∨ l.length - i ≤ m then l[l.length - 1 - m]? else l[m]?) →
    slices_Reverse_string_string.l0 k x (i : Int) ((l.length : Int) - 1 - i) = some l.reverse
  | d, k, i, x, hd, hk, hi, hx, h => by
    obtain ⟨k, rfl⟩ : ∃ m, k = m + 1 := ⟨k - 1, by omega⟩
    by_cases c : (i : Int) < (l.length : Int) - 1 - i
    · cases d with
      | zero => omega
      | succ d =>
        have e : ((l.length : Int) - 1 - i) = ((l.length - 1 - i : Nat) : Int) := by omega
        rw [slices_Reverse_string_string.l0, if_pos c, e, if_pos (by omega), if_pos (by rw [hx]; omega), if_pos (by omega), if_pos (by rw [hx]; omega), rdB (show l.length - 1 - i < x.length by omega), rdB (show i < x.length by omega), Int.toNat_natCast, Int.toNat_natCast,
          w64 (x := (i : Int) + 1) (by omega) (by omega), w64 (x := ((l.length - 1 - i : Nat) : Int) - 1) (by omega) (by omega), show ((i : Int) + 1) = ((i + 1 : Nat) : Int) by omega, show (((l.length - 1 - i : Nat) : Int) - 1) = (l.length : Int) - 1 - ((i + 1 : Nat) : Int) by omega]
        have hi1 := h i (by omega)
        have hj1 := h (l.length - 1 - i) (by omega)
        rw [List.getElem?_eq_getElem (by omega), if_neg (by omega)] at hi1
        rw [List.getElem?_eq_getElem (by omega), if_neg (by omega)] at hj1
        refine rev_l l hl d k (i + 1) _ (by omega) (by omega) (by omega) (by simp [hx]) (fun m hm => ?_)
        rw [List.getElem?_set, List.getElem?_set]
        by_cases c1 : l.length - 1 - i = m
        · rw [if_pos c1, if_pos (by simp; omega), if_pos (by omega), hi1]
          congr 1; omega
        · rw [if_neg c1]
          by_cases c2 : i = m
          · rw [if_pos c2, if_pos (by omega), if_pos (by omega), hj1]
            congr 1; omega
          · rw [if_neg c2, h m hm]
            by_cases c3 : m < i ∨ l.length - i ≤ m
            · rw [if_pos c3, if_pos (by omega)]
            · rw [if_neg c3, if_neg (by omega)]
    · rw [slices_Reverse_string_string.l0, if_neg c]
      congr 1
      apply List.ext_getElem?
      intro m
      by_cases hm : m < l.length
      · rw [List.getElem?_reverse hm, h m hm]
        by_cases c3 : m < i ∨ l.length - i ≤ m
        · rw [if_pos c3]
        · rw [if_neg c3]; congr 1; omega
      · rw [List.getElem?_eq_none (by omega), List.getElem?_eq_none (by rw [List.length_reverse]; omega)]
termination_by d => d
theorem rev_f (l : List ByteArray) (hl : l.length ≤ 8796093021952) (k : Nat) (hk : l.length < k) : slices_Reverse_string_string.f k l = some l.reverse := by
  unfold slices_Reverse_string_string.f
  rw [w64 (x := (l.length : Int) - 1) (by omega) (by omega)]
  have := rev_l l hl l.length k 0 l (by omega) hk (by omega) rfl (fun m hm => by rw [if_neg (by omega)])
  rw [show ((l.length : Int) - 1 - ((0 : Nat) : Int)) = (l.length : Int) - 1 by omega] at this
  exact this
theorem clone_f (l : List ByteArray) (hl : l.length ≤ 8796093021952) : slices_Clone_string_string.f l = some l := by
  unfold slices_Clone_string_string.f
  rw [Option.bind_some, if_pos (by simp; omega), List.nil_append]
theorem exists_bound (L : List Aw) : ∃ B, ∀ a ∈ L, a.f1.length ≤ B := by
  induction L with
  | nil => exact ⟨0, fun a h => by cases h⟩
  | cons x L ih =>
    obtain ⟨B, hB⟩ := ih
    refine ⟨x.f1.length + B, fun a h => ?_⟩
    rcases List.mem_cons.1 h with rfl | h
    · omega
    · have := hB a h; omega
/-- The part of a list from one place to another. -/
def seg (l : List ByteArray) (a b : Nat) : List ByteArray := if a ≤ b then (l.take (b + 1)).drop a else ((l.take (a + 1)).drop b).reverse
theorem part_len (l : List ByteArray) {a b : Nat} (h : a ≤ b) (hb : b < l.length) : ((l.take (b + 1)).drop a).length = b + 1 - a := by rw [List.length_drop, List.length_take]; omega
theorem part_one (l : List ByteArray) {a : Nat} (h : a < l.length) : (l.take (a + 1)).drop a = [l[a]] := by
  rw [List.take_succ_eq_append_getElem h, List.drop_append_of_le_length (by rw [List.length_take]; omega), List.drop_of_length_le (by rw [List.length_take]; omega), List.nil_append]
theorem seg_rev (l : List ByteArray) {a b : Nat} (ha : a < l.length) (_hb : b < l.length) : seg l b a = (seg l a b).reverse := by
  unfold seg
  by_cases c1 : a ≤ b <;> by_cases c2 : b ≤ a
  · obtain rfl : a = b := by omega
    rw [if_pos c1, part_one l ha]; rfl
  · rw [if_pos c1, if_neg c2]
  · rw [if_neg c1, if_pos c2, List.reverse_reverse]
  · omega
theorem part_at (l : List ByteArray) {a b j : Nat} (_h : a ≤ b) (_hb : b < l.length) (hj : j < b + 1 - a) : ((l.take (b + 1)).drop a)[j]? = l[a + j]? := by
  rw [List.getElem?_drop, List.getElem?_take_of_lt (by omega)]
theorem seg_len (l : List ByteArray) {a b : Nat} (ha : a < l.length) (hb : b < l.length) : 0 < (seg l a b).length ∧ (seg l a b).length ≤ l.length := by
  unfold seg
  split
  · rename_i h; rw [part_len l h hb]; omega
  · rw [List.length_reverse, part_len l (by omega) ha]; omega
theorem seg_first (l : List ByteArray) {a b : Nat} (ha : a < l.length) (hb : b < l.length) : (seg l a b)[0]? = some l[a] := by
  unfold seg
  by_cases h : a ≤ b
  · rw [if_pos h, part_at l h hb (by omega), Nat.add_zero, List.getElem?_eq_getElem ha]
  · have hl := part_len l (show b ≤ a by omega) ha
    rw [if_neg h, List.getElem?_reverse (by omega), hl, part_at l (by omega) ha (by omega), show b + (a + 1 - b - 1 - 0) = a by omega, List.getElem?_eq_getElem ha]
theorem between_f (F : List Fx) (L : List Aw) (hL : ∀ a ∈ L, a.f1.length ≤ 8796093021952) (hc : ∀ k, 250 ≤ k → chart_Check.f k F L = some 0) (nm s t : ByteArray) (k : Nat) (hk : 300 ≤ k) (hb : ∀ a ∈ L, a.f1.length + 2 < k) :
    (∃ (l : List ByteArray) (a b : Nat) (ha : a < l.length) (hb : b < l.length), l.length ≤ 8796093021952 ∧ l.length + 2 < k ∧ l[a] = s ∧ l[b] = t ∧ chart_Between.f k F L nm s t = some (seg l a b, 0) ∧ chart_Between.f k F L nm t s = some (seg l b a, 0)) ∨
    (chart_Between.f k F L nm s t = some ([], 6) ∧ chart_Between.f k F L nm t s = some ([], 6)) := by
  unfold chart_Between.f api_Airway_50.f
  rw [hc k (by omega), Option.bind_some, Option.bind_some, Option.bind_some, Option.bind_some, if_pos rfl, if_pos rfl]
  rcases IdxF.idx_range (chart_Between_1.p nm) L with h | ⟨h1, h2⟩
  · right
    rw [h, if_pos (by decide)]
    exact ⟨rfl, rfl⟩
  · obtain ⟨q, hq⟩ : ∃ q : Nat, IdxF.idx (chart_Between_1.p nm) L = (q : Int) := ⟨(IdxF.idx (chart_Between_1.p nm) L).toNat, by omega⟩
    rw [hq] at h1 h2 ⊢
    have hlt : q < L.length := by omega
    have hl := hL _ (List.getElem_mem hlt)
    have hlb := hb _ (List.getElem_mem hlt)
    rw [if_neg (by omega), if_pos (by omega), if_pos (by omega), if_neg (by omega), if_pos (by omega), if_pos (by omega), rdA hlt]
    generalize (L[q]).f1 = l at hl hlb
    rw [index_f l hl s k (by omega), index_f l hl t k (by omega), Option.bind_some, Option.bind_some, Option.bind_some, Option.bind_some]
    obtain ⟨k, rfl⟩ : ∃ m, k = m + 1 := ⟨k - 1, by omega⟩
    have none_ : ∀ x y : Int, chart_Between.j0 (k + 1) l x y true = some (([] : List ByteArray), 6) := fun x y => by rw [chart_Between.j0, if_pos rfl]
    have seg_ : ∀ x y : Nat, x < l.length → y < l.length → chart_Between.j0 (k + 1) l (x : Int) (y : Int) false = some (seg l x y, 0) := by
      intro x y hx hy
      rw [chart_Between.j0, if_neg (by decide)]
      unfold seg
      by_cases c : x ≤ y
      · rw [if_pos c, if_pos (by omega), if_pos (by omega), w64 (x := (y : Int) + 1) (by omega) (by omega), if_pos (by omega), if_pos (by omega), show ((y : Int) + 1).toNat = y + 1 by omega, Int.toNat_natCast, clone_f _ (by rw [part_len l c hy]; omega), Option.bind_some]
      · rw [if_neg c, if_neg (by omega), if_pos (by omega), w64 (x := (x : Int) + 1) (by omega) (by omega), if_pos (by omega), if_pos (by omega), show ((x : Int) + 1).toNat = x + 1 by omega, Int.toNat_natCast, clone_f _ (by rw [part_len l (by omega) hx]; omega), Option.bind_some,
          rev_f _ (by rw [part_len l (by omega) hx]; omega) k (by rw [part_len l (by omega) hx]; omega), Option.bind_some]
    have rs := IdxF.idx_range (fun x => decide (x = s)) l
    have rt := IdxF.idx_range (fun x => decide (x = t)) l
    by_cases ca : at_ l s < 0
    · right
      rw [if_pos ca, none_]
      refine ⟨rfl, ?_⟩
      by_cases cb : at_ l t < 0
      · rw [if_pos cb, none_]
      · rw [if_neg cb, decide_eq_true ca, none_]
    · by_cases cb : at_ l t < 0
      · right
        rw [if_neg ca, if_pos cb, decide_eq_true cb, none_, none_]
        exact ⟨rfl, rfl⟩
      · left
        have ra : at_ l s = -1 ∨ _ := rs
        have rb : at_ l t = -1 ∨ _ := rt
        obtain ⟨a, ea⟩ : ∃ a : Nat, at_ l s = (a : Int) := ⟨(at_ l s).toNat, by omega⟩
        obtain ⟨b, eb⟩ : ∃ b : Nat, at_ l t = (b : Int) := ⟨(at_ l t).toNat, by omega⟩
        obtain ⟨ha, pa⟩ := idx_at _ _ ea
        obtain ⟨hb', pb⟩ := idx_at _ _ eb
        refine ⟨l, a, b, ha, hb', hl, hlb, of_decide_eq_true pa, of_decide_eq_true pb, ?_, ?_⟩
        · rw [if_neg ca, decide_eq_false cb, ea, eb]; exact seg_ a b ha hb'
        · rw [if_neg cb, decide_eq_false ca, ea, eb]; exact seg_ b a hb' ha
theorem law_l (x : List ByteArray) (hx : x.length ≤ 8796093021952) : ∀ (d k i : Nat), i + d = x.length → d < k → skywaykeep1_ChartBetween.l0 k x x.reverse (x.length : Int) (i : Int) = some true
  | 0, k, i, hi, hk => by
    obtain ⟨k, rfl⟩ : ∃ m, k = m + 1 := ⟨k - 1, by omega⟩
    rw [skywaykeep1_ChartBetween.l0, if_neg (by omega)]
  | d + 1, k, i, hi, hk => by
    obtain ⟨k, rfl⟩ : ∃ m, k = m + 1 := ⟨k - 1, by omega⟩
    have hlt : i < x.length := by omega
    have ih := law_l x hx d k (i + 1) (by omega) (by omega)
    have hr : x.length - 1 - i < x.reverse.length := by rw [List.length_reverse]; omega
    have hg : x.reverse[x.length - 1 - i] = x[i] := by
      rw [List.getElem_reverse]
      congr 1; omega
    rw [skywaykeep1_ChartBetween.l0, if_pos (by omega), if_pos (by omega), if_pos (by omega), List.length_reverse, w64 (x := (x.length : Int) - 1) (by omega) (by omega), w64 (x := (x.length : Int) - 1 - (i : Int)) (by omega) (by omega), if_pos (by omega), if_pos (by omega), rdB hlt,
      show ((x.length : Int) - 1 - (i : Int)) = ((x.length - 1 - i : Nat) : Int) by omega, rdB hr, hg, if_pos rfl, w64 (x := (i : Int) + 1) (by omega) (by omega), show ((i : Int) + 1) = ((i + 1 : Nat) : Int) by omega]
    exact ih
theorem ChartBetween : skywaykeep1_ChartBetween.Pure := by
  intro F L nm s t _ hL _ _ _
  obtain ⟨B, hB⟩ := exists_bound L
  refine ⟨400 + B, ?_⟩
  have hLl : ∀ a ∈ L, a.f1.length ≤ 8796093021952 := fun a ha => by
    have := (hL.2 a ha).2.1
    omega
  unfold skywaykeep1_ChartBetween.f
  rw [chartWorks _ (by omega), Option.bind_some, if_pos rfl]
  obtain ⟨e, he, _⟩ := chk F L
  obtain ⟨k, hk⟩ : ∃ k, 400 + B = k + 2 := ⟨398 + B, by omega⟩
  have hkB : k = 398 + B := by omega
  rw [hk]
  have bad : ∀ e : Int, skywaykeep1_ChartBetween.j0 (k + 2) s t [] e [] e true = some true := fun e => by
    rw [skywaykeep1_ChartBetween.j0, if_pos rfl, if_pos rfl, show (((([] : List ByteArray).length : Nat) : Int) + ((([] : List ByteArray).length : Nat) : Int)) = 0 from rfl, w64 (by decide) (by decide)]
    rfl
  by_cases h0 : e = 0
  · rcases between_f F L hLl (fun k hk => h0 ▸ he k hk) nm s t (k + 2) (by omega) (fun a ha => by have := hB a ha; omega) with ⟨l, a, b, ha, hb, hl, hlk, rfl, rfl, r1, r2⟩ | ⟨r1, r2⟩
    · rw [r1, r2, Option.bind_some, Option.bind_some]
      dsimp only
      obtain ⟨n1, n2⟩ := seg_len l ha hb
      have f1 := seg_first l ha hb
      have f2 := seg_first l hb ha
      rw [seg_rev l ha hb, List.getElem?_reverse n1] at f2
      rw [if_pos rfl, seg_rev l ha hb]
      generalize seg l a b = x at n1 n2 f1 f2
      rw [List.getElem?_eq_getElem n1] at f1
      rw [List.getElem?_eq_getElem (by omega)] at f2
      have f1' := Option.some.inj f1
      have f2' : x[x.length - 1] = l[b] := by
        have := Option.some.inj f2
        exact this
      rw [skywaykeep1_ChartBetween.j0, if_neg (by decide), if_neg (by omega), List.length_reverse, if_pos rfl, if_pos (by omega), show (0 : Int) = ((0 : Nat) : Int) from rfl, rdB n1, f1', if_pos rfl, w64 (x := (x.length : Int) - 1) (by omega) (by omega), if_pos (by omega), if_pos (by omega),
        show ((x.length : Int) - 1) = ((x.length - 1 : Nat) : Int) by omega, rdB (by omega), f2', skywaykeep1_ChartBetween.j1, if_neg (by simp)]
      exact law_l x (by omega) x.length k 0 (by omega) (by omega)
    · rw [r1, r2, Option.bind_some, Option.bind_some]
      dsimp only
      rw [if_neg (by decide)]
      exact bad 6
  · have r : ∀ u v, chart_Between.f (k + 2) F L nm u v = some ([], e) := fun u v => by
      unfold chart_Between.f
      rw [he _ (by omega), Option.bind_some, if_neg h0]
    rw [r, r, Option.bind_some, Option.bind_some]
    dsimp only
    rw [if_neg h0]
    exact bad e
end Go.Proofs.Ytbpbpojnfhhbjaa.Pure
