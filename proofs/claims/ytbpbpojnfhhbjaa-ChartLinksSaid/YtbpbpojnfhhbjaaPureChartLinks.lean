/- ChartLinks: for all charts and fixes, links are mutual, and consecutive fixes of an airway are linked. -/
import Derived.Test.YtbpbpojnfhhbjaaPChartLinksx
import Derived.Test.YtbpbpojnfhhbjaaMath
import Derived.Laws.Strings
namespace Go.Proofs.Ytbpbpojnfhhbjaa.Pure
open Go Go.RowKit Go.Proofs.Ytbpbpojnfhhbjaa Go.Proofs.Ytbpbpojnfhhbjaa.PChartLinks Go.Proofs.YtbpbpojnfhhbjaaW.PrintWords Go.Proofs.YtbpbpojnfhhbjaaW.PrintLast Go.Proofs.YtbpbpojnfhhbjaaW.PrintMore Go.Proofs.YtbpbpojnfhhbjaaM
/-- A permitted coordinate. -/
def Ok (x y : Int) : Prop := -1000000 ≤ x ∧ x ≤ 1000000 ∧ -1000000 ≤ y ∧ y ≤ 1000000
instance (x y : Int) : Decidable (Ok x y) := inferInstanceAs (Decidable (_ ∧ _))
theorem check_f (x y : Int) : plane_Check.f x y = some (if Ok x y then 0 else 4) := by
  unfold plane_Check.f
  by_cases c : Ok x y
  · rw [if_pos c]
    obtain ⟨c1, c2, c3, c4⟩ := c
    rw [if_neg (by omega), if_neg (by omega), if_neg (by omega), if_neg (by omega)]
  · rw [if_neg c]
    by_cases c1 : x < -1000000
    · rw [if_pos c1]
    · rw [if_neg c1]
      by_cases c2 : x > 1000000
      · rw [if_pos c2]
      · rw [if_neg c2]
        by_cases c3 : y < -1000000
        · rw [if_pos c3]
        · rw [if_neg c3, if_pos (by
            rcases Int.lt_or_le 1000000 y with h | h
            · exact h
            · exact absurd (show Ok x y from ⟨by omega, by omega, by omega, h⟩) c)]
abbrev Fx := S40
abbrev Aw := S48
theorem bt_eq {a b : ByteArray} : a.toList = b.toList ↔ a = b := by
  constructor
  · intro h
    rw [ByteArray.toList_eq, ByteArray.toList_eq] at h
    exact ByteArray.ext (Array.toList_inj.mp h)
  · rintro rfl; rfl
theorem rdX {l : List Fx} {i : Nat} (h : i < l.length) : rd_T40 l (i : Int) = l[i] := by
  unfold rd_T40
  rw [Int.toNat_natCast, List.getD_eq_getElem?_getD, List.getElem?_eq_getElem h]
  rfl
theorem rdA {l : List Aw} {i : Nat} (h : i < l.length) : rd_T48 l (i : Int) = l[i] := by
  unfold rd_T48
  rw [Int.toNat_natCast, List.getD_eq_getElem?_getD, List.getElem?_eq_getElem h]
  rfl
theorem rdB {l : List ByteArray} {i : Nat} (h : i < l.length) : rdOf ByteArray.empty l (i : Int) = l[i] := by
  unfold rdOf
  rw [Int.toNat_natCast, List.getD_eq_getElem?_getD, List.getElem?_eq_getElem h]
  rfl
theorem name_l (s : ByteArray) (hs : s.size ≤ 8) : ∀ (d k i : Nat), i + d = s.size → d < k → ∃ b, chart_Name.l0 k s (s.size : Int) (i : Int) = some b
  | 0, k, i, hi, hk => by
    obtain ⟨k, rfl⟩ : ∃ m, k = m + 1 := ⟨k - 1, by omega⟩
    exact ⟨true, by rw [chart_Name.l0, if_neg (by omega)]⟩
  | d + 1, k, i, hi, hk => by
    obtain ⟨k, rfl⟩ : ∃ m, k = m + 1 := ⟨k - 1, by omega⟩
    have ih := name_l s hs d k (i + 1) (by omega) (by omega)
    rw [chart_Name.l0, if_pos (by omega), if_pos (by omega), if_pos (by omega), w64 (x := (i : Int) + 1) (by omega) (by omega), show ((i : Int) + 1) = ((i + 1 : Nat) : Int) by omega]
    repeat' split
    all_goals first | exact ih | exact ⟨_, rfl⟩
theorem name_some (s : ByteArray) (k : Nat) (hk : 20 ≤ k) : ∃ b, chart_Name.f k s = some b := by
  have h1 : ∀ (q : Nat) x, 15 ≤ q → s.size ≤ 8 ∨ x = true → ∃ b, chart_Name.j0 q s x = some b := by
    intro q x hq hx
    obtain ⟨q, rfl⟩ : ∃ m, q = m + 1 := ⟨q - 1, by omega⟩
    rw [chart_Name.j0]
    by_cases c : x = true
    · rw [if_pos c]; exact ⟨_, rfl⟩
    · rw [if_neg c]
      have hs : s.size ≤ 8 := hx.elim id (fun h => absurd h c)
      exact name_l s hs s.size q 0 (by omega) (by omega)
  unfold chart_Name.f
  by_cases c0 : (s.size : Int) = 0
  · rw [if_pos c0]; exact h1 _ _ (by omega) (.inr rfl)
  rw [if_neg c0]
  by_cases c1 : (s.size : Int) > 8
  · rw [if_pos c1]; exact h1 _ _ (by omega) (.inr rfl)
  rw [if_neg c1, if_pos (by omega)]
  by_cases c2 : bt s 0 < 65
  · rw [if_pos c2]; exact h1 _ _ (by omega) (.inr rfl)
  · rw [if_neg c2]; exact h1 _ _ (by omega) (.inl (by omega))
/-- Where a name stands in a list, or -1. -/
def at_ (l : List ByteArray) (s : ByteArray) : Int := IdxF.idx (fun x => decide (x = s)) l
theorem index_l (l : List ByteArray) (hl : l.length ≤ 8796093021952) (s : ByteArray) : ∀ (d k i : Nat), i + d = l.length → d < k → (∀ j (h : j < l.length), j < i → l[j] ≠ s) →
    slices_Index_string_string.l0 k l s (l.length : Int) (i : Int) = some (at_ l s)
  | 0, k, i, hi, hk, hb => by
    obtain ⟨k, rfl⟩ : ∃ m, k = m + 1 := ⟨k - 1, by omega⟩
    rw [slices_Index_string_string.l0, if_neg (by omega)]
    congr 1
    exact (IdxF.idx_miss _ l (fun j h => decide_eq_false (hb j h (by omega)))).symm
  | d + 1, k, i, hi, hk, hb => by
    obtain ⟨k, rfl⟩ : ∃ m, k = m + 1 := ⟨k - 1, by omega⟩
    have hlt : i < l.length := by omega
    rw [slices_Index_string_string.l0, if_pos (by omega), if_pos (by omega), if_pos (by omega), rdB hlt]
    by_cases c : s.toList = l[i].toList
    · rw [if_pos c]
      congr 1
      exact (IdxF.idx_hit _ l hlt (decide_eq_true (bt_eq.1 c).symm) (fun j h => decide_eq_false (hb j _ h))).symm
    · rw [if_neg c, w64 (x := (i : Int) + 1) (by omega) (by omega), show ((i : Int) + 1) = ((i + 1 : Nat) : Int) by omega]
      refine index_l l hl s d k (i + 1) (by omega) (by omega) (fun j h hj => ?_)
      by_cases e : j = i
      · subst e; exact fun h2 => c (bt_eq.2 h2.symm)
      · exact hb j h (by omega)
theorem index_f (l : List ByteArray) (hl : l.length ≤ 8796093021952) (s : ByteArray) (k : Nat) (hk : l.length < k) : slices_Index_string_string.f k l s = some (at_ l s) := by
  unfold slices_Index_string_string.f
  exact index_l l hl s l.length k 0 (by omega) hk (fun j _ h => absurd h (Nat.not_lt_zero _))
/-- Where a fix stands, or -1. -/
def fx (F : List Fx) (s : ByteArray) : Int := IdxF.idx (chart_find_1.p s) F
theorem find_f (F : List Fx) (L : List Aw) (s : ByteArray) : chart_find.f F L s = some (fx F s) := by
  unfold chart_find.f api_Fix.f
  rw [Option.bind_some]
  rfl
theorem fx_range (F : List Fx) (s : ByteArray) : fx F s = -1 ∨ (0 ≤ fx F s ∧ fx F s < (F.length : Int)) := IdxF.idx_range _ _
theorem airway_l (F : List Fx) (L : List Aw) (nm : ByteArray) (l : List ByteArray) (hl : l.length ≤ 24) : ∀ (d k i : Nat), i + d = l.length → d + 30 < k → (0 < i → ∀ h2 : i - 1 < l.length, 0 ≤ fx F l[i - 1]) →
    ∃ e, chart_airway.l0 k l (l.length : Int) (i : Int) F L nm l = some e
  | 0, k, i, hi, hk, hf => by
    obtain ⟨k, rfl⟩ : ∃ m, k = m + 1 := ⟨k - 1, by omega⟩
    exact ⟨0, by rw [chart_airway.l0, if_neg (by omega)]⟩
  | d + 1, k, i, hi, hk, hf => by
    obtain ⟨k, rfl⟩ : ∃ m, k = m + 1 := ⟨k - 1, by omega⟩
    have hlt : i < l.length := by omega
    have r := fx_range F l[i]
    rw [chart_airway.l0, if_pos (by omega), if_pos (by omega), if_pos (by omega), rdB hlt, find_f, Option.bind_some]
    by_cases c1 : fx F l[i] < 0
    · rw [if_pos c1]; exact ⟨_, rfl⟩
    have ih := airway_l F L nm l hl d k (i + 1) (by omega) (by omega) (fun _ h2 => by
      have e : i + 1 - 1 = i := by omega
      simp only [e]; omega)
    rw [show ((i + 1 : Nat) : Int) = (i : Int) + 1 by omega] at ih
    rw [if_neg c1, if_pos (by omega), Int.toNat_natCast]
    unfold slices_Contains_string_string.f
    rw [index_f (l.take i) (by rw [List.length_take]; omega) _ k (by rw [List.length_take]; omega), Option.bind_some, Option.bind_some]
    by_cases c2 : decide (at_ (l.take i) l[i] ≥ 0) = true
    · rw [if_pos c2]; exact ⟨_, rfl⟩
    rw [if_neg c2, w64 (x := (i : Int) + 1) (by omega) (by omega)]
    by_cases c3 : (i : Int) > 0
    · have hf' := hf (by omega) (by omega)
      have r2 := fx_range F l[i - 1]
      rw [if_pos c3, w64 (x := (i : Int) - 1) (by omega) (by omega), if_pos (by omega), if_pos (by omega), show ((i : Int) - 1) = ((i - 1 : Nat) : Int) by omega, rdB (show i - 1 < l.length by omega), find_f, Option.bind_some,
        if_pos hf', if_pos (by omega), if_pos (by omega), if_pos (by omega)]
      split
      · exact ⟨_, rfl⟩
      · exact ih
    · rw [if_neg c3]; exact ih
theorem airway_f (F : List Fx) (L : List Aw) (i k : Nat) (hk : 100 ≤ k) (hi : i < L.length) : ∃ e, chart_airway.f k F L (i : Int) = some e := by
  have hj : ∀ (q : Nat) x (nm : ByteArray) (l : List ByteArray), 90 ≤ q → ∃ e, chart_airway.j0 q x F L nm l = some e := by
    intro q x nm l hq
    obtain ⟨q, rfl⟩ : ∃ m, q = m + 1 := ⟨q - 1, by omega⟩
    rw [chart_airway.j0]
    by_cases c0 : x = true
    · rw [if_pos c0]; exact ⟨_, rfl⟩
    rw [if_neg c0]
    by_cases c1 : (l.length : Int) < 2
    · rw [if_pos c1]; exact ⟨_, rfl⟩
    rw [if_neg c1]
    by_cases c2 : (l.length : Int) > 24
    · rw [if_pos c2]; exact ⟨_, rfl⟩
    rw [if_neg c2]
    exact airway_l F L nm l (by omega) l.length q 0 (by omega) (by omega) (fun h => absurd h (Nat.lt_irrefl _))
  unfold chart_airway.f
  obtain ⟨b, hb⟩ := name_some (L[i]).f0 k (by omega)
  rw [if_pos (by omega), if_pos (by omega), rdA hi, hb, Option.bind_some]
  by_cases c0 : b = true
  · rw [if_pos c0, find_f, Option.bind_some]
    by_cases c1 : fx F (L[i]).f0 ≥ 0
    · rw [if_pos c1]; exact hj _ _ _ _ (by omega)
    · rw [if_neg c1, if_pos (by omega)]
      unfold api_Airway_121.f
      rw [Option.bind_some]
      exact hj _ _ _ _ (by omega)
  · rw [if_neg c0]; exact ⟨_, rfl⟩
theorem chk_l1 (F : List Fx) (L : List Aw) (hL : L.length ≤ 16) : ∀ (d k i : Nat), i + d = L.length → d + 100 < k → ∃ e, chart_Check.l1 k (L.length : Int) (i : Int) F L = some e
  | 0, k, i, hi, hk => by
    obtain ⟨k, rfl⟩ : ∃ m, k = m + 1 := ⟨k - 1, by omega⟩
    exact ⟨0, by rw [chart_Check.l1, if_neg (by omega)]⟩
  | d + 1, k, i, hi, hk => by
    obtain ⟨k, rfl⟩ : ∃ m, k = m + 1 := ⟨k - 1, by omega⟩
    obtain ⟨e, he⟩ := airway_f F L i k (by omega) (by omega)
    have ih := chk_l1 F L hL d k (i + 1) (by omega) (by omega)
    rw [chart_Check.l1, if_pos (by omega), he, Option.bind_some, w64 (x := (i : Int) + 1) (by omega) (by omega), show ((i : Int) + 1) = ((i + 1 : Nat) : Int) by omega]
    split
    · exact ih
    · exact ⟨_, rfl⟩
/-- What the check of a chart tells of its fixes. -/
def FixOk (F : List Fx) : Prop := ∀ i (h : i < F.length), chart_Name.f 200 (F[i]).f0 = some true ∧ (i : Int) ≤ fx F (F[i]).f0 ∧ Ok (F[i]).f1.f0 (F[i]).f1.f1
theorem chk_l0 (F : List Fx) (L : List Aw) (hF : F.length ≤ 64) (hL : L.length ≤ 16) : ∀ (d k i : Nat), i + d = F.length → d + 130 < k →
    ∃ e, chart_Check.l0 k F (F.length : Int) (i : Int) F L = some e ∧ (e = 0 → ∀ j (h : j < F.length), i ≤ j → chart_Name.f k (F[j]).f0 = some true ∧ (j : Int) ≤ fx F (F[j]).f0 ∧ Ok (F[j]).f1.f0 (F[j]).f1.f1)
  | 0, k, i, hi, hk => by
    obtain ⟨k, rfl⟩ : ∃ m, k = m + 1 := ⟨k - 1, by omega⟩
    obtain ⟨e, he⟩ := chk_l1 F L hL L.length k 0 (by omega) (by omega)
    refine ⟨e, by rw [chart_Check.l0, if_neg (by omega)]; exact he, fun _ j h hj => by omega⟩
  | d + 1, k, i, hi, hk => by
    obtain ⟨k, rfl⟩ : ∃ m, k = m + 1 := ⟨k - 1, by omega⟩
    have hlt : i < F.length := by omega
    obtain ⟨b, hb⟩ := name_some (F[i]).f0 k (by omega)
    obtain ⟨e, he, hz⟩ := chk_l0 F L hF hL d k (i + 1) (by omega) (by omega)
    rw [chart_Check.l0, if_pos (by omega), if_pos (by omega), if_pos (by omega), rdX hlt, hb, Option.bind_some, find_f]
    by_cases c0 : b = true
    · rw [if_pos c0, Option.bind_some]
      by_cases c1 : fx F (F[i]).f0 < (i : Int)
      · rw [if_pos c1]; exact ⟨7, rfl, fun h => by omega⟩
      · rw [if_neg c1, check_f, Option.bind_some, w64 (x := (i : Int) + 1) (by omega) (by omega), show ((i : Int) + 1) = ((i + 1 : Nat) : Int) by omega]
        by_cases c2 : Ok (F[i]).f1.f0 (F[i]).f1.f1
        · rw [if_pos c2, if_pos rfl]
          refine ⟨e, he, fun h j hj hij => ?_⟩
          by_cases c3 : j = i
          · subst c3
            exact ⟨at_rounds (fun q => chart_Name.mono _ q) (Nat.le_succ k) (c0 ▸ hb), by omega, c2⟩
          · obtain ⟨g1, g2⟩ := hz h j hj (by omega)
            exact ⟨at_rounds (fun q => chart_Name.mono _ q) (Nat.le_succ k) g1, g2⟩
        · rw [if_neg c2, if_neg (by decide)]
          exact ⟨4, rfl, fun h => by omega⟩
    · rw [if_neg c0]; exact ⟨5, rfl, fun h => by omega⟩
theorem chk (F : List Fx) (L : List Aw) : ∃ e, (∀ k, 250 ≤ k → chart_Check.f k F L = some e) ∧ (e = 0 → F.length ≤ 64 ∧ L.length ≤ 16 ∧ ∀ j (h : j < F.length), chart_Name.f 250 (F[j]).f0 = some true ∧ (j : Int) ≤ fx F (F[j]).f0 ∧ Ok (F[j]).f1.f0 (F[j]).f1.f1) := by
  have key : ∃ e, chart_Check.f 250 F L = some e ∧ (e = 0 → F.length ≤ 64 ∧ L.length ≤ 16 ∧ ∀ j (h : j < F.length), chart_Name.f 250 (F[j]).f0 = some true ∧ (j : Int) ≤ fx F (F[j]).f0 ∧ Ok (F[j]).f1.f0 (F[j]).f1.f1) := by
    unfold chart_Check.f
    by_cases c0 : (F.length : Int) > 64
    · rw [if_pos c0]; exact ⟨2, rfl, fun h => by omega⟩
    rw [if_neg c0, show (250 : Nat) = 249 + 1 from rfl, chart_Check.j0]
    by_cases c1 : (L.length : Int) > 16
    · rw [if_pos (decide_eq_true c1)]; exact ⟨2, rfl, fun h => by omega⟩
    rw [if_neg (by rw [decide_eq_false c1]; decide)]
    obtain ⟨e, he, hz⟩ := chk_l0 F L (by omega) (by omega) F.length 249 0 (by omega) (by omega)
    refine ⟨e, he, fun h => ⟨by omega, by omega, fun j hj => ?_⟩⟩
    obtain ⟨g1, g2⟩ := hz h j hj (Nat.zero_le _)
    exact ⟨at_rounds (fun q => chart_Name.mono _ q) (Nat.le_succ 249) g1, g2⟩
  obtain ⟨e, he, hz⟩ := key
  exact ⟨e, fun k hk => at_rounds (fun q => chart_Check.mono _ _ q) hk he, hz⟩
theorem chartWorks (k : Nat) (hk : 60 ≤ k) : skywaykeep1_chartWorks.f k = some true := by
  have h : skywaykeep1_chartWorks.f 60 = some true := by decide +kernel
  exact at_rounds skywaykeep1_chartWorks.mono hk h
theorem idx_le {α : Type} (p : α → Bool) (l : List α) {j : Nat} (hj : j < l.length) (hp : p l[j] = true) : 0 ≤ IdxF.idx p l ∧ IdxF.idx p l ≤ (j : Int) := by
  unfold IdxF.idx
  rw [if_pos (IdxF.any_split p l hj hp)]
  have h : l.findIdx p ≤ j := by
    rcases Nat.lt_or_ge j (l.findIdx p) with h | h
    · have := List.not_of_lt_findIdx h
      rw [hp] at this
      cases this
    · exact h
  omega
theorem idx_at {α : Type} (p : α → Bool) (l : List α) {i : Nat} (h : IdxF.idx p l = (i : Int)) : ∃ hi : i < l.length, p l[i] = true := by
  unfold IdxF.idx at h
  by_cases c : l.any p = true
  · rw [if_pos c] at h
    have hlt := List.findIdx_lt_length.2 (List.any_eq_true.1 c)
    obtain rfl : l.findIdx p = i := by omega
    exact ⟨hlt, List.findIdx_getElem⟩
  · rw [if_neg c] at h; omega
/-- As airway_l, and what no error tells. -/
theorem airway_l2 (F : List Fx) (L : List Aw) (nm : ByteArray) (l : List ByteArray) (hl : l.length ≤ 24) : ∀ (d k i : Nat), i + d = l.length → d + 30 < k → (0 < i → ∀ h2 : i - 1 < l.length, 0 ≤ fx F l[i - 1]) →
    ∃ e, chart_airway.l0 k l (l.length : Int) (i : Int) F L nm l = some e ∧ (e = 0 → ∀ j (h : j < l.length), i ≤ j → 0 ≤ fx F l[j] ∧ at_ (l.take j) l[j] < 0)
  | 0, k, i, hi, hk, hf => by
    obtain ⟨k, rfl⟩ : ∃ m, k = m + 1 := ⟨k - 1, by omega⟩
    exact ⟨0, by rw [chart_airway.l0, if_neg (by omega)], fun _ j h1 h2 => by omega⟩
  | d + 1, k, i, hi, hk, hf => by
    obtain ⟨k, rfl⟩ : ∃ m, k = m + 1 := ⟨k - 1, by omega⟩
    have hlt : i < l.length := by omega
    have r := fx_range F l[i]
    rw [chart_airway.l0, if_pos (by omega), if_pos (by omega), if_pos (by omega), rdB hlt, find_f, Option.bind_some]
    by_cases c1 : fx F l[i] < 0
    · rw [if_pos c1]; exact ⟨_, rfl, fun h => absurd h (by decide)⟩
    have ih := airway_l2 F L nm l hl d k (i + 1) (by omega) (by omega) (fun _ h2 => by
      have e : i + 1 - 1 = i := by omega
      simp only [e]; omega)
    rw [show ((i + 1 : Nat) : Int) = (i : Int) + 1 by omega] at ih
    obtain ⟨e1, he, hz⟩ := ih
    rw [if_neg c1, if_pos (by omega), Int.toNat_natCast]
    unfold slices_Contains_string_string.f
    rw [index_f (l.take i) (by rw [List.length_take]; omega) _ k (by rw [List.length_take]; omega), Option.bind_some, Option.bind_some]
    by_cases c2 : decide (at_ (l.take i) l[i] ≥ 0) = true
    · rw [if_pos c2]; exact ⟨_, rfl, fun h => absurd h (by decide)⟩
    have fin : e1 = 0 → ∀ j (h : j < l.length), i ≤ j → 0 ≤ fx F l[j] ∧ at_ (l.take j) l[j] < 0 := fun h0 j hj hij => by
      by_cases c : j = i
      · subst c
        rw [decide_eq_true_eq] at c2
        exact ⟨by omega, by omega⟩
      · exact hz h0 j hj (by omega)
    rw [if_neg c2, w64 (x := (i : Int) + 1) (by omega) (by omega)]
    by_cases c3 : (i : Int) > 0
    · have hf' := hf (by omega) (by omega)
      have r2 := fx_range F l[i - 1]
      rw [if_pos c3, w64 (x := (i : Int) - 1) (by omega) (by omega), if_pos (by omega), if_pos (by omega), show ((i : Int) - 1) = ((i - 1 : Nat) : Int) by omega, rdB (show i - 1 < l.length by omega), find_f, Option.bind_some,
        if_pos hf', if_pos (by omega), if_pos (by omega), if_pos (by omega)]
      split
      · exact ⟨_, rfl, fun h => absurd h (by decide)⟩
      · exact ⟨e1, he, fin⟩
    · rw [if_neg c3]; exact ⟨e1, he, fin⟩
def AwOk (F : List Fx) (a : Aw) : Prop := fx F a.f0 < 0 ∧ 2 ≤ a.f1.length ∧ a.f1.length ≤ 24 ∧ ∀ j (h : j < a.f1.length), 0 ≤ fx F a.f1[j] ∧ at_ (a.f1.take j) a.f1[j] < 0
theorem airway_f2 (F : List Fx) (L : List Aw) (i k : Nat) (hk : 100 ≤ k) (hi : i < L.length) : ∃ e, chart_airway.f k F L (i : Int) = some e ∧ (e = 0 → AwOk F L[i]) := by
  have hj : ∀ (q : Nat) x (nm : ByteArray) (l : List ByteArray), 90 ≤ q → ∃ e, chart_airway.j0 q x F L nm l = some e ∧ (e = 0 → 2 ≤ l.length ∧ l.length ≤ 24 ∧ ∀ j (h : j < l.length), 0 ≤ fx F l[j] ∧ at_ (l.take j) l[j] < 0) := by
    intro q x nm l hq
    obtain ⟨q, rfl⟩ : ∃ m, q = m + 1 := ⟨q - 1, by omega⟩
    rw [chart_airway.j0]
    by_cases c0 : x = true
    · rw [if_pos c0]; exact ⟨_, rfl, fun h => absurd h (by decide)⟩
    rw [if_neg c0]
    by_cases c1 : (l.length : Int) < 2
    · rw [if_pos c1]; exact ⟨_, rfl, fun h => absurd h (by decide)⟩
    rw [if_neg c1]
    by_cases c2 : (l.length : Int) > 24
    · rw [if_pos c2]; exact ⟨_, rfl, fun h => absurd h (by decide)⟩
    rw [if_neg c2]
    obtain ⟨e, he, hz⟩ := airway_l2 F L nm l (by omega) l.length q 0 (by omega) (by omega) (fun h => absurd h (Nat.lt_irrefl _))
    exact ⟨e, he, fun h => ⟨by omega, by omega, fun j hj => hz h j hj (Nat.zero_le _)⟩⟩
  unfold chart_airway.f
  obtain ⟨b, hb⟩ := name_some (L[i]).f0 k (by omega)
  rw [if_pos (by omega), if_pos (by omega), rdA hi, hb, Option.bind_some]
  by_cases c0 : b = true
  · rw [if_pos c0, find_f, Option.bind_some]
    by_cases c1 : fx F (L[i]).f0 ≥ 0
    · rw [if_pos c1]
      obtain ⟨q, rfl⟩ : ∃ m, k = m + 1 := ⟨k - 1, by omega⟩
      rw [chart_airway.j0, if_pos rfl]
      exact ⟨_, rfl, fun h => absurd h (by decide)⟩
    · rw [if_neg c1, if_pos (by omega)]
      unfold api_Airway_121.f
      rw [Option.bind_some]
      obtain ⟨e, he, hz⟩ := hj k _ _ _ (by omega)
      exact ⟨e, he, fun h => ⟨by omega, hz h⟩⟩
  · rw [if_neg c0]; exact ⟨_, rfl, fun h => absurd h (by decide)⟩
theorem chk_l1b (F : List Fx) (L : List Aw) (hL : L.length ≤ 16) : ∀ (d k i : Nat), i + d = L.length → d + 100 < k → ∃ e, chart_Check.l1 k (L.length : Int) (i : Int) F L = some e ∧ (e = 0 → ∀ j (h : j < L.length), i ≤ j → AwOk F L[j])
  | 0, k, i, hi, hk => by
    obtain ⟨k, rfl⟩ : ∃ m, k = m + 1 := ⟨k - 1, by omega⟩
    exact ⟨0, by rw [chart_Check.l1, if_neg (by omega)], fun _ j h1 h2 => by omega⟩
  | d + 1, k, i, hi, hk => by
    obtain ⟨k, rfl⟩ : ∃ m, k = m + 1 := ⟨k - 1, by omega⟩
    obtain ⟨e, he, hz⟩ := airway_f2 F L i k (by omega) (by omega)
    obtain ⟨e2, ih, hz2⟩ := chk_l1b F L hL d k (i + 1) (by omega) (by omega)
    rw [chart_Check.l1, if_pos (by omega), he, Option.bind_some, w64 (x := (i : Int) + 1) (by omega) (by omega), show ((i : Int) + 1) = ((i + 1 : Nat) : Int) by omega]
    by_cases c : e = 0
    · rw [if_pos c]
      refine ⟨e2, ih, fun h0 j hj hij => ?_⟩
      by_cases cj : j = i
      · subst cj; exact hz c
      · exact hz2 h0 j hj (by omega)
    · rw [if_neg c]; exact ⟨_, rfl, fun h => absurd h c⟩
/-- A chart that passes the check. -/
def ChOk (F : List Fx) (L : List Aw) : Prop := F.length ≤ 64 ∧ L.length ≤ 16 ∧ (∀ j (h : j < F.length), chart_Name.f 250 (F[j]).f0 = some true ∧ (j : Int) ≤ fx F (F[j]).f0 ∧ Ok (F[j]).f1.f0 (F[j]).f1.f1) ∧ ∀ j (h : j < L.length), AwOk F L[j]
theorem chk_l0b (F : List Fx) (L : List Aw) (hF : F.length ≤ 64) (hL : L.length ≤ 16) : ∀ (d k i : Nat), i + d = F.length → d + 130 < k →
    ∃ e, chart_Check.l0 k F (F.length : Int) (i : Int) F L = some e ∧ (e = 0 → ∀ j (h : j < L.length), AwOk F L[j])
  | 0, k, i, hi, hk => by
    obtain ⟨k, rfl⟩ : ∃ m, k = m + 1 := ⟨k - 1, by omega⟩
    obtain ⟨e, he, hz⟩ := chk_l1b F L hL L.length k 0 (by omega) (by omega)
    exact ⟨e, by rw [chart_Check.l0, if_neg (by omega)]; exact he, fun h j hj => hz h j hj (Nat.zero_le _)⟩
  | d + 1, k, i, hi, hk => by
    obtain ⟨k, rfl⟩ : ∃ m, k = m + 1 := ⟨k - 1, by omega⟩
    have hlt : i < F.length := by omega
    obtain ⟨b, hb⟩ := name_some (F[i]).f0 k (by omega)
    obtain ⟨e, he, hz⟩ := chk_l0b F L hF hL d k (i + 1) (by omega) (by omega)
    rw [chart_Check.l0, if_pos (by omega), if_pos (by omega), if_pos (by omega), rdX hlt, hb, Option.bind_some, find_f]
    by_cases c0 : b = true
    · rw [if_pos c0, Option.bind_some]
      by_cases c1 : fx F (F[i]).f0 < (i : Int)
      · rw [if_pos c1]; exact ⟨7, rfl, fun h => by omega⟩
      · rw [if_neg c1, check_f, Option.bind_some, w64 (x := (i : Int) + 1) (by omega) (by omega), show ((i : Int) + 1) = ((i + 1 : Nat) : Int) by omega]
        by_cases c2 : Ok (F[i]).f1.f0 (F[i]).f1.f1
        · rw [if_pos c2, if_pos rfl]
          exact ⟨e, he, hz⟩
        · rw [if_neg c2, if_neg (by decide)]
          exact ⟨4, rfl, fun h => by omega⟩
    · rw [if_neg c0]; exact ⟨5, rfl, fun h => by omega⟩
theorem chk2 (F : List Fx) (L : List Aw) : ∃ e, (∀ k, 250 ≤ k → chart_Check.f k F L = some e) ∧ (e = 0 → ChOk F L) := by
  obtain ⟨e, he, hz⟩ := chk F L
  refine ⟨e, he, fun h0 => ?_⟩
  obtain ⟨h1, h2, h3⟩ := hz h0
  refine ⟨h1, h2, h3, ?_⟩
  have h := he 250 (Nat.le_refl _)
  unfold chart_Check.f at h
  rw [if_neg (by omega), show (250 : Nat) = 249 + 1 from rfl, chart_Check.j0, if_neg (by rw [decide_eq_false (by omega)]; decide)] at h
  obtain ⟨e2, he2, hz2⟩ := chk_l0b F L h1 h2 F.length 249 0 (by omega) (by omega)
  have h' := he2.symm.trans h
  exact hz2 ((Option.some.inj h').trans h0)
/-! What a sorted list leaves behind Compact. -/
theorem compact_mem {β : Type} [Inhabited β] [DecidableEq β] (z : List β) (x : β) : x ∈ Lib.compact z ↔ x ∈ z := by
  unfold Lib.compact Lib.compactUpTo
  rw [List.mem_map]
  constructor
  · rintro ⟨j, hj, rfl⟩
    have hlt : j < z.length := List.mem_range.1 (List.mem_filter.1 hj).1
    rw [getElem!_pos _ j (by simpa using hlt)]
    simp
  · intro h
    obtain ⟨j, hj, e⟩ := List.getElem_of_mem h
    have key : ∀ n, n < z.length → z[n]? = some x → ∃ a ∈ (List.range z.length).filter (Lib.keeps z.toArray), z.toArray[a]! = x := by
      intro n
      induction n with
      | zero =>
        intro hn he
        refine ⟨0, List.mem_filter.2 ⟨List.mem_range.2 hn, by simp [Lib.keeps]⟩, ?_⟩
        rw [getElem!_pos _ 0 (by simpa using hn)]
        rw [List.getElem?_eq_getElem hn] at he
        simpa using Option.some.inj he
      | succ n ih =>
        intro hn he
        by_cases c : z[n]? = some x
        · exact ih (by omega) c
        · rw [List.getElem?_eq_getElem hn] at he
          rw [List.getElem?_eq_getElem (show n < z.length by omega)] at c
          refine ⟨n + 1, List.mem_filter.2 ⟨List.mem_range.2 hn, ?_⟩, ?_⟩
          · unfold Lib.keeps
            rw [decide_eq_true_eq]
            right
            rw [getElem!_pos _ (n + 1) (by simpa using hn), getElem!_pos _ (n + 1 - 1) (by simp; omega)]
            simp only [List.getElem_toArray, Nat.add_sub_cancel]
            intro g
            exact c (by rw [← Option.some.inj he, ← g])
          · rw [getElem!_pos _ (n + 1) (by simpa using hn)]
            simpa using Option.some.inj he
    exact key j hj (by rw [List.getElem?_eq_getElem hj, e])
theorem compact_lt {β : Type} [Inhabited β] [DecidableEq β] (le : β → β → Prop) (htr : ∀ a b c, le a b → le b c → le a c) (has : ∀ a b, le a b → le b a → a = b) (z : List β) (hs : z.Pairwise le) :
    (Lib.compact z).Pairwise fun a b => le a b ∧ a ≠ b := by
  unfold Lib.compact Lib.compactUpTo
  rw [List.pairwise_map]
  have h1 : ((List.range z.length).filter (Lib.keeps z.toArray)).Pairwise (· < ·) := List.Pairwise.filter _ List.pairwise_lt_range
  refine List.Pairwise.imp_of_mem ?_ h1
  intro i j hi hj hij
  have hjl : j < z.length := List.mem_range.1 (List.mem_filter.1 hj).1
  have hk := (List.mem_filter.1 hj).2
  unfold Lib.keeps at hk
  rw [decide_eq_true_eq] at hk
  have hne := hk.resolve_left (by omega)
  rw [getElem!_pos _ j (by simpa using hjl), getElem!_pos _ (j - 1) (by simp; omega)] at hne
  rw [getElem!_pos _ j (by simpa using hjl), getElem!_pos _ i (by simp; omega)]
  simp only [List.getElem_toArray] at hne ⊢
  have hp := List.pairwise_iff_getElem.1 hs
  have h2 : le z[j - 1] z[j] := hp (j - 1) j (by omega) hjl (by omega)
  have h3 : i = j - 1 ∨ le z[i] z[j - 1] := by
    by_cases c : i = j - 1
    · exact Or.inl c
    · exact Or.inr (hp i (j - 1) (by omega) (by omega) (by omega))
  rcases h3 with rfl | h3
  · exact ⟨h2, fun e => hne e.symm⟩
  · exact ⟨htr _ _ _ h3 h2, fun e => hne (has _ _ h2 (by rw [← e]; exact h3)).symm⟩
/-! The neighbours of a fix on the airways. -/
theorem take_ne {l : List ByteArray} {j : Nat} (hj : j < l.length) (h : at_ (l.take j) l[j] < 0) : ∀ i (hi : i < j), l[i]'(Nat.lt_trans hi hj) ≠ l[j] := by
  intro i hi e
  have hl : i < (l.take j).length := by rw [List.length_take]; omega
  have := idx_le (fun x => decide (x = l[j])) (l.take j) hl (by rw [decide_eq_true_eq, List.getElem_take]; exact e)
  unfold at_ at h
  omega
/-- No fix twice. -/
def Dst (l : List ByteArray) : Prop := ∀ i j (hi : i < j) (hj : j < l.length), l[i] ≠ l[j]
theorem dst_ne {l : List ByteArray} (h : Dst l) {i j : Nat} (hi : i < l.length) (hj : j < l.length) (hij : i ≠ j) : l[i] ≠ l[j] := by
  rcases Nat.lt_or_ge i j with c | c
  · exact h i j c hj
  · exact fun e => h j i (by omega) hi e.symm
theorem at_dst {l : List ByteArray} (h : Dst l) {i : Nat} (hi : i < l.length) : at_ l l[i] = (i : Int) :=
  IdxF.idx_hit _ l hi (decide_eq_true rfl) (fun j hj => decide_eq_false (h j i hj hi))
theorem at_cases (l : List ByteArray) (s : ByteArray) : (at_ l s = -1 ∧ s ∉ l) ∨ ∃ t, ∃ ht : t < l.length, at_ l s = (t : Int) ∧ l[t] = s := by
  rcases IdxF.idx_range (fun x => decide (x = s)) l with h | h
  · refine Or.inl ⟨h, fun hm => ?_⟩
    obtain ⟨j, hj, e⟩ := List.getElem_of_mem hm
    have := idx_le (fun x => decide (x = s)) l hj (decide_eq_true e)
    omega
  · obtain ⟨q, hq⟩ : ∃ q : Nat, IdxF.idx (fun x => decide (x = s)) l = (q : Int) := ⟨(IdxF.idx (fun x => decide (x = s)) l).toNat, by omega⟩
    obtain ⟨ht, hp⟩ := idx_at _ _ hq
    exact Or.inr ⟨q, ht, hq, of_decide_eq_true hp⟩
/-- The neighbours of a fix in a list. -/
def nb (s : ByteArray) (l : List ByteArray) : List ByteArray :=
  if at_ l s < 0 then [] else (if at_ l s > 0 then [rdOf ByteArray.empty l (at_ l s - 1)] else []) ++ (if at_ l s + 1 < (l.length : Int) then [rdOf ByteArray.empty l (at_ l s + 1)] else [])
theorem nb_length (s : ByteArray) (l : List ByteArray) : (nb s l).length ≤ 2 := by
  unfold nb
  (repeat' split) <;> simp
theorem nb_mem {l : List ByteArray} {s x : ByteArray} : x ∈ nb s l ↔ ∃ t, ∃ ht : t < l.length, at_ l s = (t : Int) ∧ l[t] = s ∧ ((0 < t ∧ ∃ h : t - 1 < l.length, l[t - 1] = x) ∨ ∃ h : t + 1 < l.length, l[t + 1] = x) := by
  rcases at_cases l s with ⟨h, _⟩ | ⟨t, ht, h, e⟩
  · unfold nb
    rw [if_pos (by omega)]
    constructor
    · intro g; cases g
    · rintro ⟨t, _, g, _⟩
      omega
  · unfold nb
    rw [if_neg (by omega), List.mem_append]
    constructor
    · intro g
      refine ⟨t, ht, h, e, ?_⟩
      rcases g with g | g
      · left
        by_cases c : at_ l s > 0
        · rw [if_pos c, List.mem_singleton, h, show (t : Int) - 1 = ((t - 1 : Nat) : Int) by omega, rdB (show t - 1 < l.length by omega)] at g
          exact ⟨by omega, by omega, g.symm⟩
        · rw [if_neg c] at g; cases g
      · right
        by_cases c : at_ l s + 1 < (l.length : Int)
        · rw [if_pos c, List.mem_singleton, h, show (t : Int) + 1 = ((t + 1 : Nat) : Int) by omega, rdB (show t + 1 < l.length by omega)] at g
          exact ⟨by omega, g.symm⟩
        · rw [if_neg c] at g; cases g
    · rintro ⟨t', ht', h', e', g⟩
      obtain rfl : t' = t := by omega
      rcases g with ⟨g0, g1, g2⟩ | ⟨g1, g2⟩
      · left
        rw [if_pos (by omega), List.mem_singleton, h, show (t' : Int) - 1 = ((t' - 1 : Nat) : Int) by omega, rdB g1]
        exact g2.symm
      · right
        rw [if_pos (by omega), List.mem_singleton, h, show (t' : Int) + 1 = ((t' + 1 : Nat) : Int) by omega, rdB g1]
        exact g2.symm
theorem nb_sym {l : List ByteArray} (hd : Dst l) {s x : ByteArray} (h : x ∈ nb s l) : s ∈ nb x l ∧ x ≠ s ∧ x ∈ l := by
  obtain ⟨t, ht, _, e, g⟩ := nb_mem.1 h
  rcases g with ⟨g0, g1, g2⟩ | ⟨g1, g2⟩
  · refine ⟨nb_mem.2 ⟨t - 1, g1, by rw [← g2]; exact at_dst hd g1, g2, Or.inr ⟨by omega, ?_⟩⟩, ?_, ?_⟩
    · have e2 : t - 1 + 1 = t := by omega
      simp only [e2]
      exact e
    · rw [← g2, ← e]; exact dst_ne hd g1 ht (by omega)
    · rw [← g2]; exact List.getElem_mem g1
  · refine ⟨nb_mem.2 ⟨t + 1, g1, by rw [← g2]; exact at_dst hd g1, g2, Or.inl ⟨by omega, by omega, ?_⟩⟩, ?_, ?_⟩
    · simp only [Nat.add_sub_cancel]
      exact e
    · rw [← g2, ← e]; exact dst_ne hd g1 ht (by omega)
    · rw [← g2]; exact List.getElem_mem g1
theorem nb_next {l : List ByteArray} (hd : Dst l) {i : Nat} (hi : i + 1 < l.length) : l[i + 1] ∈ nb (l[i]'(by omega)) l :=
  nb_mem.2 ⟨i, by omega, at_dst hd (by omega), rfl, Or.inr ⟨hi, rfl⟩⟩
theorem awok_dst {F : List Fx} {a : Aw} (h : AwOk F a) : Dst a.f1 := fun i j hi hj => take_ne hj (h.2.2.2 j hj).2 i hi
def nbs (s : ByteArray) (L : List Aw) : List ByteArray := L.flatMap fun a => nb s a.f1
theorem nbs_length (s : ByteArray) : ∀ L : List Aw, (nbs s L).length ≤ 2 * L.length
  | [] => Nat.le_refl _
  | a :: L => by
    have h1 := nbs_length s L
    have h2 := nb_length s a.f1
    unfold nbs at h1 ⊢
    rw [List.flatMap_cons, List.length_append, List.length_cons]
    omega
/-- What Links answers. -/
def lnk (s : ByteArray) (L : List Aw) : List ByteArray := slices_Compact_string_string.out (slices_Sort_string_string.sorted (nbs s L))
theorem sorted_mem (l : List ByteArray) (x : ByteArray) : x ∈ slices_Sort_string_string.sorted l ↔ x ∈ l := by
  unfold slices_Sort_string_string.sorted
  rw [List.mem_map]
  constructor
  · rintro ⟨u, hu, rfl⟩
    rw [(List.mergeSort_perm _ _).mem_iff, List.mem_map] at hu
    obtain ⟨b, hb, rfl⟩ := hu
    exact hb
  · intro h
    exact ⟨x.data.toList, (List.mergeSort_perm _ _).mem_iff.2 (List.mem_map.2 ⟨x, h, rfl⟩), rfl⟩
theorem out_mem (l : List ByteArray) (x : ByteArray) : x ∈ slices_Compact_string_string.out l ↔ x ∈ l := by
  unfold slices_Compact_string_string.out
  rw [List.mem_map]
  constructor
  · rintro ⟨u, hu, rfl⟩
    rw [compact_mem, List.mem_map] at hu
    obtain ⟨b, hb, rfl⟩ := hu
    exact hb
  · intro h
    exact ⟨x.data.toList, (compact_mem _ _).2 (List.mem_map.2 ⟨x, h, rfl⟩), rfl⟩
theorem lnk_mem {s x : ByteArray} {L : List Aw} : x ∈ lnk s L ↔ ∃ a ∈ L, x ∈ nb s a.f1 := by
  unfold lnk nbs
  rw [out_mem, sorted_mem, List.mem_flatMap]
theorem out_sorted (l : List ByteArray) : (slices_Compact_string_string.out (slices_Sort_string_string.sorted l)).Pairwise fun a b => Op.bytesLess a.toList b.toList = true := by
  unfold slices_Compact_string_string.out
  rw [List.pairwise_map]
  have e : (slices_Sort_string_string.sorted l).map (fun b : ByteArray => b.data.toList) = (l.map fun b : ByteArray => b.data.toList).mergeSort fun x y => decide (x ≤ y) := by
    unfold slices_Sort_string_string.sorted
    rw [List.map_map]
    exact List.map_id' _
  rw [e]
  have hs : ((l.map fun b : ByteArray => b.data.toList).mergeSort fun x y => decide (x ≤ y)).Pairwise fun x y : List UInt8 => x ≤ y := by
    have := List.pairwise_mergeSort (le := fun x y : List UInt8 => decide (x ≤ y)) (fun a b c h1 h2 => decide_eq_true (List.le_trans (of_decide_eq_true h1) (of_decide_eq_true h2))) (fun a b => by
      rcases List.le_total a b with h | h
      · simp [h]
      · simp [h]) (l.map fun b : ByteArray => b.data.toList)
    exact this.imp (fun h => of_decide_eq_true h)
  refine (compact_lt (fun x y : List UInt8 => x ≤ y) (fun a b c => List.le_trans) (fun a b => List.le_antisymm) _ hs).imp ?_
  intro a b h
  rw [bytesLess_eq, Lib.toList_data, Lib.toList_data]
  rw [decide_eq_true_eq]
  show a < b
  by_cases g : a < b
  · exact g
  · exact absurd (List.le_antisymm h.1 (List.not_lt.1 g)) h.2
theorem lnk_sorted (s : ByteArray) (L : List Aw) : (lnk s L).Pairwise fun a b => Op.bytesLess a.toList b.toList = true := out_sorted _
theorem links_l (F : List Fx) (L : List Aw) (hL : L.length ≤ 16) (ha : ∀ j (h : j < L.length), AwOk F L[j]) (s : ByteArray) : ∀ (d k i : Nat) (x : List ByteArray), i + d = L.length → d + 100 ≤ k → x.length ≤ 2 * i →
    chart_Links.l0 k s x L (L.length : Int) (i : Int) = some (slices_Compact_string_string.out (slices_Sort_string_string.sorted (x ++ nbs s (L.drop i))), 0)
  | 0, k, i, x, hi, hk, hx => by
    obtain ⟨k, rfl⟩ : ∃ m, k = m + 1 := ⟨k - 1, by omega⟩
    have e : nbs s (L.drop i) = [] := by rw [List.drop_eq_nil_of_le (by omega)]; rfl
    rw [chart_Links.l0, if_neg (by omega), e, List.append_nil]
    unfold slices_Sort_string_string.f slices_Compact_string_string.f
    rw [if_pos (by omega), Option.bind_some, if_pos (by rw [slices_Sort_string_string.length]; omega), Option.bind_some]
  | d + 1, k, i, x, hi, hk, hx => by
    obtain ⟨k, rfl⟩ : ∃ m, k = m + 1 := ⟨k - 1, by omega⟩
    have hlt : i < L.length := by omega
    obtain ⟨_, _, a3, _⟩ := ha i hlt
    have hn : nbs s (L.drop i) = nb s (L[i]).f1 ++ nbs s (L.drop (i + 1)) := by
      rw [List.drop_eq_getElem_cons hlt]
      unfold nbs
      rw [List.flatMap_cons]
    have h2 := nb_length s (L[i]).f1
    have ih := links_l F L hL ha s d k (i + 1) (x ++ nb s (L[i]).f1) (by omega) (by omega) (by rw [List.length_append]; omega)
    rw [List.append_assoc, ← hn, show ((i + 1 : Nat) : Int) = (i : Int) + 1 by omega] at ih
    rw [chart_Links.l0, if_pos (by omega), if_pos (by omega), if_pos (by omega), rdA hlt, index_f (L[i]).f1 (by omega) s k (by omega), Option.bind_some, w64 (x := (i : Int) + 1) (by omega) (by omega), ← ih]
    have r := at_cases (L[i]).f1 s
    have hr : at_ (L[i]).f1 s = -1 ∨ (0 ≤ at_ (L[i]).f1 s ∧ at_ (L[i]).f1 s < ((L[i]).f1.length : Int)) := IdxF.idx_range _ _
    clear ih
    unfold nb
    by_cases c1 : at_ (L[i]).f1 s < 0
    · rw [if_pos c1, if_pos c1, List.append_nil]
    · rw [if_neg c1, if_neg c1, w64 (x := at_ (L[i]).f1 s + 1) (by omega) (by omega), w64 (x := at_ (L[i]).f1 s - 1) (by omega) (by omega)]
      by_cases c2 : at_ (L[i]).f1 s > 0
      · rw [if_pos c2, if_pos c2, if_pos (by omega), if_pos (by omega), if_pos (by omega), Option.bind_some]
        by_cases c3 : at_ (L[i]).f1 s + 1 < ((L[i]).f1.length : Int)
        · rw [if_pos c3, if_pos c3, if_pos (by omega), if_pos (by rw [List.length_append, List.length_singleton]; omega), List.append_assoc]
        · rw [if_neg c3, if_neg c3, List.append_nil]
      · rw [if_neg c2, if_neg c2, List.nil_append]
        by_cases c3 : at_ (L[i]).f1 s + 1 < ((L[i]).f1.length : Int)
        · rw [if_pos c3, if_pos c3, if_pos (by omega), if_pos (by omega)]
        · rw [if_neg c3, if_neg c3, List.append_nil]
theorem links_f {F : List Fx} {L : List Aw} (hc : ChOk F L) (hk0 : ∀ k, 250 ≤ k → chart_Check.f k F L = some 0) (s : ByteArray) (k : Nat) (hk : 250 ≤ k) : chart_Links.f k F L s = some (if fx F s < 0 then ([], 6) else (lnk s L, 0)) := by
  unfold chart_Links.f
  rw [hk0 k hk, Option.bind_some, if_pos rfl, find_f, Option.bind_some]
  by_cases c : fx F s < 0
  · rw [if_pos c, if_pos c]
  · rw [if_neg c, if_neg c]
    exact links_l F L hc.2.1 hc.2.2.2 s L.length k 0 [] (by omega) (by have := hc.2.1; omega) (Nat.zero_le _)
instance decMem (s : ByteArray) (l : List ByteArray) : Decidable (s ∈ l) := decidable_of_iff (l.any (fun x => decide (x = s)) = true) (by simp)
theorem has_l (l : List ByteArray) (hl : l.length ≤ 1000000) (s : ByteArray) : ∀ (d k i : Nat), i + d = l.length → d + 1 ≤ k → skywayref1_HasText.l0 k s l (l.length : Int) (i : Int) = some (decide (s ∈ l.drop i))
  | 0, k, i, hi, hk => by
    obtain ⟨k, rfl⟩ : ∃ m, k = m + 1 := ⟨k - 1, by omega⟩
    rw [skywayref1_HasText.l0, if_neg (by omega), List.drop_eq_nil_of_le (by omega)]
    rfl
  | d + 1, k, i, hi, hk => by
    obtain ⟨k, rfl⟩ : ∃ m, k = m + 1 := ⟨k - 1, by omega⟩
    have hlt : i < l.length := by omega
    rw [skywayref1_HasText.l0, if_pos (by omega), if_pos (by omega), if_pos (by omega), rdB hlt, List.drop_eq_getElem_cons hlt]
    by_cases c : l[i].toList = s.toList
    · rw [if_pos c, decide_eq_true (by rw [bt_eq.1 c]; exact List.mem_cons_self)]
    · rw [if_neg c, w64 (x := (i : Int) + 1) (by omega) (by omega), show ((i : Int) + 1) = ((i + 1 : Nat) : Int) by omega, has_l l hl s d k (i + 1) (by omega) (by omega)]
      congr 1
      apply decide_eq_decide.2
      rw [List.mem_cons]
      exact ⟨Or.inr, fun h => h.resolve_left (fun e => c (by rw [e]))⟩
theorem has_f (l : List ByteArray) (hl : l.length ≤ 1000000) (s : ByteArray) (k : Nat) (hk : l.length + 1 ≤ k) : skywayref1_HasText.f k l s = some (decide (s ∈ l)) := by
  unfold skywayref1_HasText.f
  have := has_l l hl s l.length k 0 (by omega) hk
  rw [List.drop_zero] at this
  exact this
theorem lnk_length (s : ByteArray) (L : List Aw) : (lnk s L).length ≤ 2 * L.length := by
  have h1 := slices_Compact_string_string.out_length (slices_Sort_string_string.sorted (nbs s L))
  have h2 := slices_Sort_string_string.length (nbs s L)
  have h3 := nbs_length s L
  unfold lnk
  omega
theorem cl_l2 (L L2 : List Aw) (s : ByteArray) (l : List ByteArray) (hl : l.length ≤ 24) (hd : Dst l) (hm : ∀ x ∈ nb s l, x ∈ lnk s L) (hL : L.length ≤ 16) (x68 : List Aw) (x69 x70 : Int) (nm : ByteArray) (K : Nat) {r : Option Bool}
    (hr : ∀ k, K ≤ k → skywaykeep1_ChartLinks.l1 k s (lnk s L) x68 x69 (wrap64 (x70 + 1)) = r) : ∀ (d k i : Nat), i + d = l.length → 0 < i → d + 1 + K + 100 ≤ k →
    skywaykeep1_ChartLinks.l2 k s (lnk s L) (i : Int) x68 x69 x70 nm l = r
  | 0, k, i, hi, h0, hk => by
    obtain ⟨k, rfl⟩ : ∃ m, k = m + 1 := ⟨k - 1, by omega⟩
    rw [skywaykeep1_ChartLinks.l2, if_neg (by omega)]
    exact hr k (by omega)
  | d + 1, k, i, hi, h0, hk => by
    obtain ⟨k, rfl⟩ : ∃ m, k = m + 1 := ⟨k - 1, by omega⟩
    have hlt : i < l.length := by omega
    have ih := cl_l2 L L2 s l hl hd hm hL x68 x69 x70 nm K hr d k (i + 1) (by omega) (by omega) (by omega)
    have h1 := lnk_length s L
    rw [show ((i + 1 : Nat) : Int) = (i : Int) + 1 by omega] at ih
    rw [skywaykeep1_ChartLinks.l2, if_pos (by omega), w64 (x := (i : Int) - 1) (by omega) (by omega), w64 (x := (i : Int) + 1) (by omega) (by omega), if_pos (by omega), if_pos (by omega), show (i : Int) - 1 = ((i - 1 : Nat) : Int) by omega, rdB (show i - 1 < l.length by omega)]
    by_cases c : l[i - 1].toList = s.toList
    · have e := bt_eq.1 c
      have hx : l[i] ∈ lnk s L := hm _ (by
        rw [← e]
        have := nb_next hd (i := i - 1) (by omega)
        have e2 : i - 1 + 1 = i := by omega
        simp only [e2] at this
        exact this)
      rw [if_pos c, if_pos (by omega), rdB hlt, has_f _ (by omega) _ k (by omega), Option.bind_some, if_pos (decide_eq_true hx)]
      exact ih
    · rw [if_neg c]
      exact ih
theorem cl_l1 {F : List Fx} {L : List Aw} (hc : ChOk F L) (s : ByteArray) : ∀ (d k i : Nat), i + d = L.length → d * 200 + 200 ≤ k →
    skywaykeep1_ChartLinks.l1 k s (lnk s L) L (L.length : Int) (i : Int) = some true
  | 0, k, i, hi, hk => by
    obtain ⟨k, rfl⟩ : ∃ m, k = m + 1 := ⟨k - 1, by omega⟩
    rw [skywaykeep1_ChartLinks.l1, if_neg (by omega)]
  | d + 1, k, i, hi, hk => by
    obtain ⟨k, rfl⟩ : ∃ m, k = m + 1 := ⟨k - 1, by omega⟩
    have hlt : i < L.length := by omega
    have ha := hc.2.2.2 i hlt
    have hL := hc.2.1
    have h3 := ha.2.2.1
    have h2 := ha.2.1
    rw [skywaykeep1_ChartLinks.l1, if_pos (by omega), if_pos (by omega), if_pos (by omega), rdA hlt]
    refine cl_l2 L L s (L[i]).f1 h3 (awok_dst ha) (fun x hx => lnk_mem.2 ⟨L[i], List.getElem_mem hlt, hx⟩) hL L (L.length : Int) (i : Int) (L[i]).f0 (d * 200 + 200) ?_ ((L[i]).f1.length - 1) k 1 (by omega) (by omega) (by omega)
    intro k' hk'
    rw [w64 (x := (i : Int) + 1) (by omega) (by omega), show (i : Int) + 1 = ((i + 1 : Nat) : Int) by omega]
    exact cl_l1 hc s d k' (i + 1) (by omega) hk'
theorem cl_l0 {F : List Fx} {L : List Aw} (hc : ChOk F L) (hk0 : ∀ k, 250 ≤ k → chart_Check.f k F L = some 0) (s : ByteArray) : ∀ (d k i : Nat), i + d = (lnk s L).length → d + 5000 ≤ k →
    skywaykeep1_ChartLinks.l0 k s (lnk s L) (lnk s L) ((lnk s L).length : Int) (i : Int) F L = some true
  | 0, k, i, hi, hk => by
    obtain ⟨k, rfl⟩ : ∃ m, k = m + 1 := ⟨k - 1, by omega⟩
    rw [skywaykeep1_ChartLinks.l0, if_neg (by omega)]
    exact cl_l1 hc s L.length k 0 (by omega) (by have := hc.2.1; omega)
  | d + 1, k, i, hi, hk => by
    obtain ⟨k, rfl⟩ : ∃ m, k = m + 1 := ⟨k - 1, by omega⟩
    have hlt : i < (lnk s L).length := by omega
    have hL := hc.2.1
    have h1 := lnk_length s L
    have ih := cl_l0 hc hk0 s d k (i + 1) (by omega) (by omega)
    rw [show ((i + 1 : Nat) : Int) = (i : Int) + 1 by omega] at ih
    obtain ⟨a, ham, hx⟩ := lnk_mem.1 (List.getElem_mem hlt)
    obtain ⟨j, hj, ej⟩ := List.getElem_of_mem ham
    have ha : AwOk F a := ej ▸ hc.2.2.2 j hj
    obtain ⟨g1, g2, g3⟩ := nb_sym (awok_dst ha) hx
    have hb : s ∈ lnk (lnk s L)[i] L := lnk_mem.2 ⟨a, ham, g1⟩
    have hf : ¬ fx F (lnk s L)[i] < 0 := by
      obtain ⟨q, hq, eq⟩ := List.getElem_of_mem g3
      have := (ha.2.2.2 q hq).1
      rw [eq] at this
      omega
    have h2 := lnk_length (lnk s L)[i] L
    rw [skywaykeep1_ChartLinks.l0, if_pos (by omega), if_pos (by omega), if_pos (by omega), rdB hlt, links_f hc hk0 _ k (by omega), if_neg hf, Option.bind_some]
    dsimp only
    rw [if_pos rfl, has_f _ (by omega) _ k (by omega), Option.bind_some, if_pos (decide_eq_true hb), if_neg (fun h => g2 (bt_eq.1 h)), w64 (x := (i : Int) + 1) (by omega) (by omega)]
    by_cases c : (i : Int) > 0
    · have hp := (List.pairwise_iff_getElem.1 (lnk_sorted s L)) (i - 1) i (by omega) hlt (by omega)
      rw [if_pos c, w64 (x := (i : Int) - 1) (by omega) (by omega), if_pos (by omega), if_pos (by omega), show (i : Int) - 1 = ((i - 1 : Nat) : Int) by omega, rdB (show i - 1 < (lnk s L).length by omega), if_pos hp]
      exact ih
    · rw [if_neg c]
      exact ih
theorem ChartLinks : skywaykeep1_ChartLinks.Pure := by
  intro F L s _ _ _
  refine ⟨6000, ?_⟩
  unfold skywaykeep1_ChartLinks.f
  rw [chartWorks 6000 (by decide), Option.bind_some, if_pos rfl]
  obtain ⟨e, he, hz⟩ := chk2 F L
  by_cases h0 : e = 0
  · have hc := hz h0
    have hk0 : ∀ k, 250 ≤ k → chart_Check.f k F L = some 0 := fun k hk => h0 ▸ he k hk
    rw [links_f hc hk0 s 6000 (by decide), Option.bind_some]
    by_cases c : fx F s < 0
    · rw [if_pos c]
      rfl
    · rw [if_neg c]
      dsimp only
      rw [if_pos rfl]
      have := lnk_length s L
      have := hc.2.1
      exact cl_l0 hc hk0 s (lnk s L).length 6000 0 (by omega) (by omega)
  · unfold chart_Links.f
    rw [he 6000 (by decide), Option.bind_some, if_neg h0, Option.bind_some]
    dsimp only
    rw [if_neg h0]
    rfl
end Go.Proofs.Ytbpbpojnfhhbjaa.Pure
