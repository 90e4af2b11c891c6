/- ChartLengths: lengths of two parts of a way add up. -/
import Derived.Test.YtbpbpojnfhhbjaaPChartLengthsx
import Derived.Test.YtbpbpojnfhhbjaaMath
import Derived.Laws.Strings
namespace Go.Proofs.Ytbpbpojnfhhbjaa.Pure
open Go Go.RowKit Go.Proofs.Ytbpbpojnfhhbjaa Go.Proofs.Ytbpbpojnfhhbjaa.PChartLengths Go.Proofs.YtbpbpojnfhhbjaaW.PrintWords Go.Proofs.YtbpbpojnfhhbjaaW.PrintLast Go.Proofs.YtbpbpojnfhhbjaaW.PrintMore Go.Proofs.YtbpbpojnfhhbjaaM
/-- A permitted coordinate. -/
def Ok (x y : Int) : Prop := -1000000 ≤ x ∧ x ≤ 1000000 ∧ -1000000 ≤ y ∧ y ≤ 1000000
instance (x y : Int) : Decidable (Ok x y) := inferInstanceAs (Decidable (_ ∧ _))
theorem check_f (x y : Int) : plane_Check.f x y = some (if Ok x y then 0 else 4) := by
  unfold plane_Check.f
  by_cases c : Ok x y
  · rw [if_pos c]
    obtain ⟨c1, c2, c3, c4⟩ := c
    rw [if_neg (by omega), if_neg (by omega), if_neg (by omega), if_neg (by omega)]
  · rw [if_neg c]
    by_cases c1 : x < -1000000
    · rw [if_pos c1]
    · rw [if_neg c1]
      by_cases c2 : x > 1000000
      · rw [if_pos c2]
      · rw [if_neg c2]
        by_cases c3 : y < -1000000
        · rw [if_pos c3]
        · rw [if_neg c3, if_pos (by
            rcases Int.lt_or_le 1000000 y with h | h
            · exact h
            · exact absurd (show Ok x y from ⟨by omega, by omega, by omega, h⟩) c)]
abbrev Fx := S40
abbrev Aw := S48
theorem bt_eq {a b : ByteArray} : a.toList = b.toList ↔ a = b := by
  constructor
  · intro h
    rw [ByteArray.toList_eq, ByteArray.toList_eq] at h
    exact ByteArray.ext (Array.toList_inj.mp h)
  · rintro rfl; rfl
theorem rdX {l : List Fx} {i : Nat} (h : i < l.length) : rd_T40 l (i : Int) = l[i] := by
  unfold rd_T40
  rw [Int.toNat_natCast, List.getD_eq_getElem?_getD, List.getElem?_eq_getElem h]
  rfl
theorem rdA {l : List Aw} {i : Nat} (h : i < l.length) : rd_T48 l (i : Int) = l[i] := by
  unfold rd_T48
  rw [Int.toNat_natCast, List.getD_eq_getElem?_getD, List.getElem?_eq_getElem h]
  rfl
theorem rdB {l : List ByteArray} {i : Nat} (h : i < l.length) : rdOf ByteArray.empty l (i : Int) = l[i] := by
  unfold rdOf
  rw [Int.toNat_natCast, List.getD_eq_getElem?_getD, List.getElem?_eq_getElem h]
  rfl
theorem name_l (s : ByteArray) (hs : s.size ≤ 8) : ∀ (d k i : Nat), i + d = s.size → d < k → ∃ b, chart_Name.l0 k s (s.size : Int) (i : Int) = some b
  | 0, k, i, hi, hk => by
    obtain ⟨k, rfl⟩ : ∃ m, k = m + 1 := ⟨k - 1, by omega⟩
    exact ⟨true, by rw [chart_Name.l0, if_neg (by omega)]⟩
  | d + 1, k, i, hi, hk => by
    obtain ⟨k, rfl⟩ : ∃ m, k = m + 1 := ⟨k - 1, by omega⟩
    have ih := name_l s hs d k (i + 1) (by omega) (by omega)
    rw [chart_Name.l0, if_pos (by omega), if_pos (by omega), if_pos (by omega), w64 (x := (i : Int) + 1) (by omega) (by omega), show ((i : Int) + 1) = ((i + 1 : Nat) : Int) by omega]
    repeat' split
    all_goals first | exact ih | exact ⟨_, rfl⟩
theorem name_some (s : ByteArray) (k : Nat) (hk : 20 ≤ k) : ∃ b, chart_Name.f k s = some b := by
  have h1 : ∀ (q : Nat) x, 15 ≤ q → s.size ≤ 8 ∨ x = true → ∃ b, chart_Name.j0 q s x = some b := by
    intro q x hq hx
    obtain ⟨q, rfl⟩ : ∃ m, q = m + 1 := ⟨q - 1, by omega⟩
    rw [chart_Name.j0]
    by_cases c : x = true
    · rw [if_pos c]; exact ⟨_, rfl⟩
    · rw [if_neg c]
      have hs : s.size ≤ 8 := hx.elim id (fun h => absurd h c)
      exact name_l s hs s.size q 0 (by omega) (by omega)
  unfold chart_Name.f
  by_cases c0 : (s.size : Int) = 0
  · rw [if_pos c0]; exact h1 _ _ (by omega) (.inr rfl)
  rw [if_neg c0]
  by_cases c1 : (s.size : Int) > 8
  · rw [if_pos c1]; exact h1 _ _ (by omega) (.inr rfl)
  rw [if_neg c1, if_pos (by omega)]
  by_cases c2 : bt s 0 < 65
  · rw [if_pos c2]; exact h1 _ _ (by omega) (.inr rfl)
  · rw [if_neg c2]; exact h1 _ _ (by omega) (.inl (by omega))
/-- Where a name stands in a list, or -1. -/
def at_ (l : List ByteArray) (s : ByteArray) : Int := IdxF.idx (fun x => decide (x = s)) l
theorem index_l (l : List ByteArray) (hl : l.length ≤ 8796093021952) (s : ByteArray) : ∀ (d k i : Nat), i + d = l.length → d < k → (∀ j (h : j < l.length), j < i → l[j] ≠ s) →
    slices_Index_string_string.l0 k l s (l.length : Int) (i : Int) = some (at_ l s)
  | 0, k, i, hi, hk, hb => by
    obtain ⟨k, rfl⟩ : ∃ m, k = m + 1 := ⟨k - 1, by omega⟩
    rw [slices_Index_string_string.l0, if_neg (by omega)]
    congr 1
    exact (IdxF.idx_miss _ l (fun j h => decide_eq_false (hb j h (by omega)))).symm
  | d + 1, k, i, hi, hk, hb => by
    obtain ⟨k, rfl⟩ : ∃ m, k = m + 1 := ⟨k - 1, by omega⟩
    have hlt : i < l.length := by omega
    rw [slices_Index_string_string.l0, if_pos (by omega), if_pos (by omega), if_pos (by omega), rdB hlt]
    by_cases c : s.toList = l[i].toList
    · rw [if_pos c]
      congr 1
      exact (IdxF.idx_hit _ l hlt (decide_eq_true (bt_eq.1 c).symm) (fun j h => decide_eq_false (hb j _ h))).symm
    · rw [if_neg c, w64 (x := (i : Int) + 1) (by omega) (by omega), show ((i : Int) + 1) = ((i + 1 : Nat) : Int) by omega]
      refine index_l l hl s d k (i + 1) (by omega) (by omega) (fun j h hj => ?_)
      by_cases e : j = i
      · subst e; exact fun h2 => c (bt_eq.2 h2.symm)
      · exact hb j h (by omega)
theorem index_f (l : List ByteArray) (hl : l.length ≤ 8796093021952) (s : ByteArray) (k : Nat) (hk : l.length < k) : slices_Index_string_string.f k l s = some (at_ l s) := by
  unfold slices_Index_string_string.f
  exact index_l l hl s l.length k 0 (by omega) hk (fun j _ h => absurd h (Nat.not_lt_zero _))
/-- Where a fix stands, or -1. -/
def fx (F : List Fx) (s : ByteArray) : Int := IdxF.idx (chart_find_1.p s) F
theorem find_f (F : List Fx) (L : List Aw) (s : ByteArray) : chart_find.f F L s = some (fx F s) := by
  unfold chart_find.f api_Fix.f
  rw [Option.bind_some]
  rfl
theorem fx_range (F : List Fx) (s : ByteArray) : fx F s = -1 ∨ (0 ≤ fx F s ∧ fx F s < (F.length : Int)) := IdxF.idx_range _ _
theorem airway_l (F : List Fx) (L : List Aw) (nm : ByteArray) (l : List ByteArray) (hl : l.length ≤ 24) : ∀ (d k i : Nat), i + d = l.length → d + 30 < k → (0 < i → ∀ h2 : i - 1 < l.length, 0 ≤ fx F l[i - 1]) →
    ∃ e, chart_airway.l0 k l (l.length : Int) (i : Int) F L nm l = some e
  | 0, k, i, hi, hk, hf => by
    obtain ⟨k, rfl⟩ : ∃ m, k = m + 1 := ⟨k - 1, by omega⟩
    exact ⟨0, by rw [chart_airway.l0, if_neg (by omega)]⟩
  | d + 1, k, i, hi, hk, hf => by
    obtain ⟨k, rfl⟩ : ∃ m, k = m + 1 := ⟨k - 1, by omega⟩
    have hlt : i < l.length := by omega
    have r := fx_range F l[i]
    rw [chart_airway.l0, if_pos (by omega), if_pos (by omega), if_pos (by omega), rdB hlt, find_f, Option.bind_some]
    by_cases c1 : fx F l[i] < 0
    · rw [if_pos c1]; exact ⟨_, rfl⟩
    have ih := airway_l F L nm l hl d k (i + 1) (by omega) (by omega) (fun _ h2 => by
      have e : i + 1 - 1 = i := by omega
      simp only [e]; omega)
    rw [show ((i + 1 : Nat) : Int) = (i : Int) + 1 by omega] at ih
    rw [if_neg c1, if_pos (by omega), Int.toNat_natCast]
    unfold slices_Contains_string_string.f
    rw [index_f (l.take i) (by rw [List.length_take]; omega) _ k (by rw [List.length_take]; omega), Option.bind_some, Option.bind_some]
    by_cases c2 : decide (at_ (l.take i) l[i] ≥ 0) = true
    · rw [if_pos c2]; exact ⟨_, rfl⟩
    rw [if_neg c2, w64 (x := (i : Int) + 1) (by omega) (by omega)]
    by_cases c3 : (i : Int) > 0
    · have hf' := hf (by omega) (by omega)
      have r2 := fx_range F l[i - 1]
      rw [if_pos c3, w64 (x := (i : Int) - 1) (by omega) (by omega), if_pos (by omega), if_pos (by omega), show ((i : Int) - 1) = ((i - 1 : Nat) : Int) by omega, rdB (show i - 1 < l.length by omega), find_f, Option.bind_some,
        if_pos hf', if_pos (by omega), if_pos (by omega), if_pos (by omega)]
      split
      · exact ⟨_, rfl⟩
      · exact ih
    · rw [if_neg c3]; exact ih
theorem airway_f (F : List Fx) (L : List Aw) (i k : Nat) (hk : 100 ≤ k) (hi : i < L.length) : ∃ e, chart_airway.f k F L (i : Int) = some e := by
  have hj : ∀ (q : Nat) x (nm : ByteArray) (l : List ByteArray), 90 ≤ q → ∃ e, chart_airway.j0 q x F L nm l = some e := by
    intro q x nm l hq
    obtain ⟨q, rfl⟩ : ∃ m, q = m + 1 := ⟨q - 1, by omega⟩
    rw [chart_airway.j0]
    by_cases c0 : x = true
    · rw [if_pos c0]; exact ⟨_, rfl⟩
    rw [if_neg c0]
    by_cases c1 : (l.length : Int) < 2
    · rw [if_pos c1]; exact ⟨_, rfl⟩
    rw [if_neg c1]
    by_cases c2 : (l.length : Int) > 24
    · rw [if_pos c2]; exact ⟨_, rfl⟩
    rw [if_neg c2]
    exact airway_l F L nm l (by omega) l.length q 0 (by omega) (by omega) (fun h => absurd h (Nat.lt_irrefl _))
  unfold chart_airway.f
  obtain ⟨b, hb⟩ := name_some (L[i]).f0 k (by omega)
  rw [if_pos (by omega), if_pos (by omega), rdA hi, hb, Option.bind_some]
  by_cases c0 : b = true
  · rw [if_pos c0, find_f, Option.bind_some]
    by_cases c1 : fx F (L[i]).f0 ≥ 0
    · rw [if_pos c1]; exact hj _ _ _ _ (by omega)
    · rw [if_neg c1, if_pos (by omega)]
      unfold api_Airway_121.f
      rw [Option.bind_some]
      exact hj _ _ _ _ (by omega)
  · rw [if_neg c0]; exact ⟨_, rfl⟩
theorem chk_l1 (F : List Fx) (L : List Aw) (hL : L.length ≤ 16) : ∀ (d k i : Nat), i + d = L.length → d + 100 < k → ∃ e, chart_Check.l1 k (L.length : Int) (i : Int) F L = some e
  | 0, k, i, hi, hk => by
    obtain ⟨k, rfl⟩ : ∃ m, k = m + 1 := ⟨k - 1, by omega⟩
    exact ⟨0, by rw [chart_Check.l1, if_neg (by omega)]⟩
  | d + 1, k, i, hi, hk => by
    obtain ⟨k, rfl⟩ : ∃ m, k = m + 1 := ⟨k - 1, by omega⟩
    obtain ⟨e, he⟩ := airway_f F L i k (by omega) (by omega)
    have ih := chk_l1 F L hL d k (i + 1) (by omega) (by omega)
    rw [chart_Check.l1, if_pos (by omega), he, Option.bind_some, w64 (x := (i : Int) + 1) (by omega) (by omega), show ((i : Int) + 1) = ((i + 1 : Nat) : Int) by omega]
    split
    · exact ih
    · exact ⟨_, rfl⟩
/-- What the check of a chart tells of its fixes. -/
def FixOk (F : List Fx) : Prop := ∀ i (h : i < F.length), chart_Name.f 200 (F[i]).f0 = some true ∧ (i : Int) ≤ fx F (F[i]).f0 ∧ Ok (F[i]).f1.f0 (F[i]).f1.f1
theorem chk_l0 (F : List Fx) (L : List Aw) (hF : F.length ≤ 64) (hL : L.length ≤ 16) : ∀ (d k i : Nat), i + d = F.length → d + 130 < k →
    ∃ e, chart_Check.l0 k F (F.length : Int) (i : Int) F L = some e ∧ (e = 0 → ∀ j (h : j < F.length), i ≤ j → chart_Name.f k (F[j]).f0 = some true ∧ (j : Int) ≤ fx F (F[j]).f0 ∧ Ok (F[j]).f1.f0 (F[j]).f1.f1)
  | 0, k, i, hi, hk => by
    obtain ⟨k, rfl⟩ : ∃ m, k = m + 1 := ⟨k - 1, by omega⟩
    obtain ⟨e, he⟩ := chk_l1 F L hL L.length k 0 (by omega) (by omega)
    refine ⟨e, by rw [chart_Check.l0, if_neg (by omega)]; exact he, fun _ j h hj => by omega⟩
  | d + 1, k, i, hi, hk => by
    obtain ⟨k, rfl⟩ : ∃ m, k = m + 1 := ⟨k - 1, by omega⟩
    have hlt : i < F.length := by omega
    obtain ⟨b, hb⟩ := name_some (F[i]).f0 k (by omega)
    obtain ⟨e, he, hz⟩ := chk_l0 F L hF hL d k (i + 1) (by omega) (by omega)
    rw [chart_Check.l0, if_pos (by omega), if_pos (by omega), if_pos (by omega), rdX hlt, hb, Option.bind_some, find_f]
    by_cases c0 : b = true
    · rw [if_pos c0, Option.bind_some]
      by_cases c1 : fx F (F[i]).f0 < (i : Int)
      · rw [if_pos c1]; exact ⟨7, rfl, fun h => by omega⟩
      · rw [if_neg c1, check_f, Option.bind_some, w64 (x := (i : Int) + 1) (by omega) (by omega), show ((i : Int) + 1) = ((i + 1 : Nat) : Int) by omega]
        by_cases c2 : Ok (F[i]).f1.f0 (F[i]).f1.f1
        · rw [if_pos c2, if_pos rfl]
          refine ⟨e, he, fun h j hj hij => ?_⟩
          by_cases c3 : j = i
          · subst c3
            exact ⟨at_rounds (fun q => chart_Name.mono _ q) (Nat.le_succ k) (c0 ▸ hb), by omega, c2⟩
          · obtain ⟨g1, g2⟩ := hz h j hj (by omega)
            exact ⟨at_rounds (fun q => chart_Name.mono _ q) (Nat.le_succ k) g1, g2⟩
        · rw [if_neg c2, if_neg (by decide)]
          exact ⟨4, rfl, fun h => by omega⟩
    · rw [if_neg c0]; exact ⟨5, rfl, fun h => by omega⟩
theorem chk (F : List Fx) (L : List Aw) : ∃ e, (∀ k, 250 ≤ k → chart_Check.f k F L = some e) ∧ (e = 0 → F.length ≤ 64 ∧ L.length ≤ 16 ∧ ∀ j (h : j < F.length), chart_Name.f 250 (F[j]).f0 = some true ∧ (j : Int) ≤ fx F (F[j]).f0 ∧ Ok (F[j]).f1.f0 (F[j]).f1.f1) := by
  have key : ∃ e, chart_Check.f 250 F L = some e ∧ (e = 0 → F.length ≤ 64 ∧ L.length ≤ 16 ∧ ∀ j (h : j < F.length), chart_Name.f 250 (F[j]).f0 = some true ∧ (j : Int) ≤ fx F (F[j]).f0 ∧ Ok (F[j]).f1.f0 (F[j]).f1.f1) := by
    unfold chart_Check.f
    by_cases c0 : (F.length : Int) > 64
    · rw [if_pos c0]; exact ⟨2, rfl, fun h => by omega⟩
    rw [if_neg c0, show (250 : Nat) = 249 + 1 from rfl, chart_Check.j0]
    by_cases c1 : (L.length : Int) > 16
    · rw [if_pos (decide_eq_true c1)]; exact ⟨2, rfl, fun h => by omega⟩
    rw [if_neg (by rw [decide_eq_false c1]; decide)]
    obtain ⟨e, he, hz⟩ := chk_l0 F L (by omega) (by omega) F.length 249 0 (by omega) (by omega)
    refine ⟨e, he, fun h => ⟨by omega, by omega, fun j hj => ?_⟩⟩
    obtain ⟨g1, g2⟩ := hz h j hj (Nat.zero_le _)
    exact ⟨at_rounds (fun q => chart_Name.mono _ q) (Nat.le_succ 249) g1, g2⟩
  obtain ⟨e, he, hz⟩ := key
  exact ⟨e, fun k hk => at_rounds (fun q => chart_Check.mono _ _ q) hk he, hz⟩
theorem chartWorks (k : Nat) (hk : 60 ≤ k) : skywaykeep1_chartWorks.f k = some true := by
  have h : skywaykeep1_chartWorks.f 60 = some true := by decide +kernel
  exact at_rounds skywaykeep1_chartWorks.mono hk h
theorem idx_le {α : Type} (p : α → Bool) (l : List α) {j : Nat} (hj : j < l.length) (hp : p l[j] = true) : 0 ≤ IdxF.idx p l ∧ IdxF.idx p l ≤ (j : Int) := by
  unfold IdxF.idx
  rw [if_pos (IdxF.any_split p l hj hp)]
  have h : l.findIdx p ≤ j := by
    rcases Nat.lt_or_ge j (l.findIdx p) with h | h
    · have := List.not_of_lt_findIdx h
      rw [hp] at this
      cases this
    · exact h
  omega
theorem idx_at {α : Type} (p : α → Bool) (l : List α) {i : Nat} (h : IdxF.idx p l = (i : Int)) : ∃ hi : i < l.length, p l[i] = true := by
  unfold IdxF.idx at h
  by_cases c : l.any p = true
  · rw [if_pos c] at h
    have hlt := List.findIdx_lt_length.2 (List.any_eq_true.1 c)
    obtain rfl : l.findIdx p = i := by omega
    exact ⟨hlt, List.findIdx_getElem⟩
  · rw [if_neg c] at h; omega
/-- The distance of two named fixes, rounded up. -/
def stepD (F : List Fx) (s t : ByteArray) : Int :=
  ((plane_Distance.f (rd_T40 F (fx F s)).f1.f0 (rd_T40 F (fx F s)).f1.f1 (rd_T40 F (fx F t)).f1.f0 (rd_T40 F (fx F t)).f1.f1).getD (0, 0)).2
theorem dist_some (a b c d : Int) : ∃ r, plane_Distance.f a b c d = some r := by
  unfold plane_Distance.f plane_Square.f plane_Sub.f plane_Dot.f num_Root.f
  simp only [Option.bind_some]
  rw [if_pos (wrap64_rng _).2, Option.bind_some]
  split <;> exact ⟨_, rfl⟩
/-- The lengths of consecutive parts, added up. -/
def sumD (F : List Fx) : List ByteArray → Int
  | [] => 0
  | [_] => 0
  | s :: t :: r => stepD F s t + sumD F (t :: r)
def tot (F : List Fx) (l : List ByteArray) : Int := wrap64 (sumD F l)
def FixAll (F : List Fx) (l : List ByteArray) : Prop := ∀ s ∈ l, 0 ≤ fx F s
theorem sumD_snoc (F : List Fx) : ∀ (l : List ByteArray) (s t : ByteArray), sumD F (l ++ [s, t]) = sumD F (l ++ [s]) + stepD F s t
  | [], s, t => by simp [sumD]
  | [a], s, t => by simp [sumD]
  | a :: b :: l, s, t => by
    have := sumD_snoc F (b :: l) s t
    simp only [List.cons_append] at this ⊢
    rw [sumD, sumD, this]
    omega
theorem sum_take (F : List Fx) (l : List ByteArray) {i : Nat} (h0 : 0 < i) (hi : i < l.length) : sumD F (l.take (i + 1)) = sumD F (l.take i) + stepD F (l[i - 1]'(by omega)) l[i] := by
  obtain ⟨j, rfl⟩ : ∃ j, i = j + 1 := ⟨i - 1, by omega⟩
  rw [List.take_succ_eq_append_getElem hi, List.take_succ_eq_append_getElem (show j < l.length by omega), List.append_assoc]
  exact sumD_snoc F _ _ _
theorem sum_split (F : List Fx) : ∀ (l : List ByteArray) (q : Nat), q < l.length → sumD F l = sumD F (l.take (q + 1)) + sumD F (l.drop q)
  | [], q, h => by simp at h
  | [a], q, h => by
    obtain rfl : q = 0 := by simp at h; omega
    simp [sumD]
  | a :: b :: l, 0, h => by simp [sumD]
  | a :: b :: l, q + 1, h => by
    have ih := sum_split F (b :: l) q (by simp at h ⊢; omega)
    rw [List.take_succ_cons, List.drop_succ_cons, sumD]
    rw [List.take_succ_cons] at ih ⊢
    rw [sumD, ih]
    omega
theorem length_l (F : List Fx) (L : List Aw) (l : List ByteArray) (hl : l.length ≤ 64) : ∀ (d k i : Nat), i + d = l.length → d < k → FixAll F (l.take i) →
    (FixAll F l → chart_Length.l0 k l (wrap64 (sumD F (l.take i))) l (l.length : Int) (i : Int) F L = some (tot F l, 0)) ∧
    (¬ FixAll F l → chart_Length.l0 k l (wrap64 (sumD F (l.take i))) l (l.length : Int) (i : Int) F L = some (0, 6))
  | 0, k, i, hi, hk, hf => by
    obtain ⟨k, rfl⟩ : ∃ m, k = m + 1 := ⟨k - 1, by omega⟩
    rw [List.take_of_length_le (by omega)] at hf ⊢
    exact ⟨fun _ => by rw [chart_Length.l0, if_neg (by omega)]; rfl, fun h => absurd hf h⟩
  | d + 1, k, i, hi, hk, hf => by
    obtain ⟨k, rfl⟩ : ∃ m, k = m + 1 := ⟨k - 1, by omega⟩
    have hlt : i < l.length := by omega
    have r := fx_range F l[i]
    rw [chart_Length.l0, if_pos (by omega), if_pos (by omega), if_pos (by omega), rdB hlt, find_f, Option.bind_some]
    by_cases c1 : fx F l[i] < 0
    · rw [if_pos c1]
      exact ⟨fun h => absurd (h _ (List.getElem_mem hlt)) (by omega), fun _ => rfl⟩
    rw [if_neg c1, w64 (x := (i : Int) + 1) (by omega) (by omega)]
    have hf2 : FixAll F (l.take (i + 1)) := by
      intro s hs
      rw [List.take_succ_eq_append_getElem hlt] at hs
      rcases List.mem_append.1 hs with hs | hs
      · exact hf s hs
      · obtain rfl := List.mem_singleton.1 hs; omega
    have ih := length_l F L l hl d k (i + 1) (by omega) (by omega) hf2
    rw [show ((i + 1 : Nat) : Int) = (i : Int) + 1 by omega] at ih
    by_cases c3 : (i : Int) > 0
    · have hp : l[i - 1] ∈ l.take i := by
        rw [List.mem_take_iff_getElem]
        exact ⟨i - 1, by omega, rfl⟩
      have hf' := hf _ hp
      have r2 := fx_range F l[i - 1]
      rw [if_pos c3, w64 (x := (i : Int) - 1) (by omega) (by omega), if_pos (by omega), if_pos (by omega), show ((i : Int) - 1) = ((i - 1 : Nat) : Int) by omega, rdB (show i - 1 < l.length by omega), find_f, Option.bind_some,
        if_pos hf', if_pos (by omega), if_pos (by omega), if_pos (by omega)]
      obtain ⟨q, hq⟩ := dist_some (rd_T40 F (fx F l[i - 1])).f1.f0 (rd_T40 F (fx F l[i - 1])).f1.f1 (rd_T40 F (fx F l[i])).f1.f0 (rd_T40 F (fx F l[i])).f1.f1
      have hs : q.2 = stepD F l[i - 1] l[i] := by unfold stepD; rw [hq]; rfl
      rw [hq, Option.bind_some, hs]
      have e : wrap64 (wrap64 (sumD F (l.take i)) + stepD F l[i - 1] l[i]) = wrap64 (sumD F (l.take (i + 1))) := by
        rw [sum_take F l (by omega) hlt]
        unfold wrap64
        omega
      rw [e]
      exact ih
    · rw [if_neg c3]
      obtain rfl : i = 0 := by omega
      have e : sumD F (l.take (0 + 1)) = sumD F (l.take 0) := by
        rw [List.take_succ_eq_append_getElem hlt]
        simp [sumD]
      rw [e] at ih
      exact ih
instance (F : List Fx) (l : List ByteArray) : Decidable (FixAll F l) := inferInstanceAs (Decidable (∀ s ∈ l, 0 ≤ fx F s))
theorem tot_nil (F : List Fx) : tot F [] = 0 := by unfold tot; rw [sumD]; exact w64 (by decide) (by decide)
theorem length_f (F : List Fx) (L : List Aw) (hc : ∀ k, 250 ≤ k → chart_Check.f k F L = some 0) (l : List ByteArray) (hl : l.length ≤ 64) (k : Nat) (hk : 300 ≤ k) : chart_Length.f k F L l = some (if FixAll F l then (tot F l, 0) else (0, 6)) := by
  unfold chart_Length.f
  rw [hc k (by omega), Option.bind_some, if_pos rfl, if_neg (by omega)]
  have h := length_l F L l hl l.length k 0 (by omega) (by omega) (fun s hs => by simp at hs)
  have e : wrap64 (sumD F (l.take 0)) = 0 := by rw [List.take_zero]; exact tot_nil F
  rw [e, show ((0 : Nat) : Int) = 0 from rfl] at h
  by_cases hf : FixAll F l
  · rw [if_pos hf]; exact h.1 hf
  · rw [if_neg hf]; exact h.2 hf
theorem ChartLengths : skywaykeep1_ChartLengths.Pure := by
  intro F L names a2 _ _ _ ha2
  rw [wf64] at ha2
  refine ⟨400, ?_⟩
  unfold skywaykeep1_ChartLengths.f
  have hm : mn (names.length : Int) 12 = ((min names.length 12 : Nat) : Int) := by unfold mn; split <;> omega
  rw [hm, if_pos (by omega), if_pos (by omega), chartWorks 400 (by decide), Option.bind_some, if_pos rfl, Int.toNat_natCast]
  have hl : (names.take (min names.length 12)).length ≤ 12 := by rw [List.length_take]; omega
  generalize names.take (min names.length 12) = n at hl
  obtain ⟨e, he, _⟩ := chk F L
  by_cases h0 : e = 0
  · have hc : ∀ k, 250 ≤ k → chart_Check.f k F L = some 0 := fun k hk => h0 ▸ he k hk
    rw [length_f F L hc n (by omega) 400 (by decide), Option.bind_some]
    by_cases hf : FixAll F n
    · rw [if_pos hf]
      dsimp only
      rw [if_pos rfl, show (400 : Nat) = 399 + 1 from rfl, skywaykeep1_ChartLengths.j0]
      by_cases hz : (n.length : Int) = 0
      · have : n = [] := List.eq_nil_of_length_eq_zero (by omega)
        subst this
        rw [if_pos (by rfl), tot_nil]
        rfl
      · have hn0 : n.length ≠ 0 := by omega
        rw [if_neg (by simpa using hn0), if_neg hz]
        have t1 : -((n.length : Nat) : Int) < Int.tmod a2 (n.length : Int) ∧ Int.tmod a2 (n.length : Int) < (n.length : Int) := by
          have h1 := Int.tmod_lt_of_pos a2 (show (0 : Int) < (n.length : Int) by omega)
          have h2 := Int.lt_tmod_of_pos a2 (show (0 : Int) < (n.length : Int) by omega)
          exact ⟨h2, h1⟩
        rw [w64 (x := Int.tmod a2 (n.length : Int) + (n.length : Int)) (by omega) (by omega)]
        obtain ⟨q, hq⟩ : ∃ q : Nat, Int.tmod (Int.tmod a2 (n.length : Int) + (n.length : Int)) (n.length : Int) = (q : Int) := ⟨(Int.tmod (Int.tmod a2 (n.length : Int) + (n.length : Int)) (n.length : Int)).toNat, by
          have := Int.tmod_nonneg (n.length : Int) (show 0 ≤ Int.tmod a2 (n.length : Int) + (n.length : Int) by omega)
          omega⟩
        have hqlt : (q : Int) < (n.length : Int) := by rw [← hq]; exact Int.tmod_lt_of_pos _ (by omega)
        rw [hq, w64 (x := (q : Int) + 1) (by omega) (by omega), if_pos (by omega), if_pos (by omega), show ((q : Int) + 1).toNat = q + 1 by omega,
          length_f F L hc (n.take (q + 1)) (by rw [List.length_take]; omega) 399 (by decide), Option.bind_some, if_pos (show FixAll F (n.take (q + 1)) from fun s hs => hf s (List.mem_of_mem_take hs)), if_pos (by omega), if_pos (by omega), Int.toNat_natCast,
          length_f F L hc (n.drop q) (by rw [List.length_drop]; omega) 399 (by decide), Option.bind_some, if_pos (show FixAll F (n.drop q) from fun s hs => hf s (List.mem_of_mem_drop hs))]
        dsimp only
        rw [if_pos rfl, if_pos rfl]
        congr 1
        rw [beq_iff_eq]
        have hs := sum_split F n q (by omega)
        unfold tot
        rw [hs]
        unfold wrap64
        omega
    · rw [if_neg hf]
      dsimp only
      rw [if_neg (by decide), show (400 : Nat) = 399 + 1 from rfl, skywaykeep1_ChartLengths.j0, if_pos rfl]
      rfl
  · unfold chart_Length.f
    rw [he 400 (by decide), Option.bind_some, if_neg h0, Option.bind_some]
    dsimp only
    rw [if_neg h0, show (400 : Nat) = 399 + 1 from rfl, skywaykeep1_ChartLengths.j0, if_pos rfl]
    rfl
end Go.Proofs.Ytbpbpojnfhhbjaa.Pure
