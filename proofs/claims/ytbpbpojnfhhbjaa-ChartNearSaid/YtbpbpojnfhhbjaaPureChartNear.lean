/- ChartNear: no fix is nearer than the nearest one. -/
import Derived.Test.YtbpbpojnfhhbjaaPChartNearx
import Derived.Test.YtbpbpojnfhhbjaaMath
import Derived.Laws.Strings
namespace Go.Proofs.Ytbpbpojnfhhbjaa.Pure
open Go Go.RowKit Go.Proofs.Ytbpbpojnfhhbjaa Go.Proofs.Ytbpbpojnfhhbjaa.PChartNear Go.Proofs.YtbpbpojnfhhbjaaW.PrintWords Go.Proofs.YtbpbpojnfhhbjaaW.PrintLast Go.Proofs.YtbpbpojnfhhbjaaM
/-- A permitted coordinate. -/
def Ok (x y : Int) : Prop := -1000000 ≤ x ∧ x ≤ 1000000 ∧ -1000000 ≤ y ∧ y ≤ 1000000
instance (x y : Int) : Decidable (Ok x y) := inferInstanceAs (Decidable (_ ∧ _))
theorem check_f (x y : Int) : plane_Check.f x y = some (if Ok x y then 0 else 4) := by
  unfold plane_Check.f
  by_cases c : Ok x y
  · rw [if_pos c]
    obtain ⟨c1, c2, c3, c4⟩ := c
    rw [if_neg (by omega), if_neg (by omega), if_neg (by omega), if_neg (by omega)]
  · rw [if_neg c]
    by_cases c1 : x < -1000000
    · rw [if_pos c1]
    · rw [if_neg c1]
      by_cases c2 : x > 1000000
      · rw [if_pos c2]
      · rw [if_neg c2]
        by_cases c3 : y < -1000000
        · rw [if_pos c3]
        · rw [if_neg c3, if_pos (by
            rcases Int.lt_or_le 1000000 y with h | h
            · exact h
            · exact absurd (show Ok x y from ⟨by omega, by omega, by omega, h⟩) c)]
abbrev Fx := S40
abbrev Aw := S48
theorem bt_eq {a b : ByteArray} : a.toList = b.toList ↔ a = b := by
  constructor
  · intro h
    rw [ByteArray.toList_eq, ByteArray.toList_eq] at h
    exact ByteArray.ext (Array.toList_inj.mp h)
  · rintro rfl; rfl
theorem rdX {l : List Fx} {i : Nat} (h : i < l.length) : rd_T40 l (i : Int) = l[i] := by
  unfold rd_T40
  rw [Int.toNat_natCast, List.getD_eq_getElem?_getD, List.getElem?_eq_getElem h]
  rfl
theorem rdA {l : List Aw} {i : Nat} (h : i < l.length) : rd_T48 l (i : Int) = l[i] := by
  unfold rd_T48
  rw [Int.toNat_natCast, List.getD_eq_getElem?_getD, List.getElem?_eq_getElem h]
  rfl
theorem rdB {l : List ByteArray} {i : Nat} (h : i < l.length) : rdOf ByteArray.empty l (i : Int) = l[i] := by
  unfold rdOf
  rw [Int.toNat_natCast, List.getD_eq_getElem?_getD, List.getElem?_eq_getElem h]
  rfl
theorem name_l (s : ByteArray) (hs : s.size ≤ 8) : ∀ (d k i : Nat), i + d = s.size → d < k → ∃ b, chart_Name.l0 k s (s.size : Int) (i : Int) = some b
  | 0, k, i, hi, hk => by
    obtain ⟨k, rfl⟩ : ∃ m, k = m + 1 := ⟨k - 1, by omega⟩
    exact ⟨true, by rw [chart_Name.l0, if_neg (by omega)]⟩
  | d + 1, k, i, hi, hk => by
    obtain ⟨k, rfl⟩ : ∃ m, k = m + 1 := ⟨k - 1, by omega⟩
    have ih := name_l s hs d k (i + 1) (by omega) (by omega)
    rw [chart_Name.l0, if_pos (by omega), if_pos (by omega), if_pos (by omega), w64 (x := (i : Int) + 1) (by omega) (by omega), show ((i : Int) + 1) = ((i + 1 : Nat) : Int) by omega]
    repeat' split
    all_goals first | exact ih | exact ⟨_, rfl⟩
theorem name_some (s : ByteArray) (k : Nat) (hk : 20 ≤ k) : ∃ b, chart_Name.f k s = some b := by
  have h1 : ∀ (q : Nat) x, 15 ≤ q → s.size ≤ 8 ∨ x = true → ∃ b, chart_Name.j0 q s x = some b := by
    intro q x hq hx
    obtain ⟨q, rfl⟩ : ∃ m, q = m + 1 := ⟨q - 1, by omega⟩
    rw [chart_Name.j0]
    by_cases c : x = true
    · rw [if_pos c]; exact ⟨_, rfl⟩
    · rw [if_neg c]
      have hs : s.size ≤ 8 := hx.elim id (fun h => absurd h c)
      exact name_l s hs s.size q 0 (by omega) (by omega)
  unfold chart_Name.f
  by_cases c0 : (s.size : Int) = 0
  · rw [if_pos c0]; exact h1 _ _ (by omega) (.inr rfl)
  rw [if_neg c0]
  by_cases c1 : (s.size : Int) > 8
  · rw [if_pos c1]; exact h1 _ _ (by omega) (.inr rfl)
  rw [if_neg c1, if_pos (by omega)]
  by_cases c2 : bt s 0 < 65
  · rw [if_pos c2]; exact h1 _ _ (by omega) (.inr rfl)
  · rw [if_neg c2]; exact h1 _ _ (by omega) (.inl (by omega))
/-- Where a name stands in a list, or -1. -/
def at_ (l : List ByteArray) (s : ByteArray) : Int := IdxF.idx (fun x => decide (x = s)) l
theorem index_l (l : List ByteArray) (hl : l.length ≤ 8796093021952) (s : ByteArray) : ∀ (d k i : Nat), i + d = l.length → d < k → (∀ j (h : j < l.length), j < i → l[j] ≠ s) →
    slices_Index_string_string.l0 k l s (l.length : Int) (i : Int) = some (at_ l s)
  | 0, k, i, hi, hk, hb => by
    obtain ⟨k, rfl⟩ : ∃ m, k = m + 1 := ⟨k - 1, by omega⟩
    rw [slices_Index_string_string.l0, if_neg (by omega)]
    congr 1
    exact (IdxF.idx_miss _ l (fun j h => decide_eq_false (hb j h (by omega)))).symm
  | d + 1, k, i, hi, hk, hb => by
    obtain ⟨k, rfl⟩ : ∃ m, k = m + 1 := ⟨k - 1, by omega⟩
    have hlt : i < l.length := by omega
    rw [slices_Index_string_string.l0, if_pos (by omega), if_pos (by omega), if_pos (by omega), rdB hlt]
    by_cases c : s.toList = l[i].toList
    · rw [if_pos c]
      congr 1
      exact (IdxF.idx_hit _ l hlt (decide_eq_true (bt_eq.1 c).symm) (fun j h => decide_eq_false (hb j _ h))).symm
    · rw [if_neg c, w64 (x := (i : Int) + 1) (by omega) (by omega), show ((i : Int) + 1) = ((i + 1 : Nat) : Int) by omega]
      refine index_l l hl s d k (i + 1) (by omega) (by omega) (fun j h hj => ?_)
      by_cases e : j = i
      · subst e; exact fun h2 => c (bt_eq.2 h2.symm)
      · exact hb j h (by omega)
theorem index_f (l : List ByteArray) (hl : l.length ≤ 8796093021952) (s : ByteArray) (k : Nat) (hk : l.length < k) : slices_Index_string_string.f k l s = some (at_ l s) := by
  unfold slices_Index_string_string.f
  exact index_l l hl s l.length k 0 (by omega) hk (fun j _ h => absurd h (Nat.not_lt_zero _))
/-- Where a fix stands, or -1. -/
def fx (F : List Fx) (s : ByteArray) : Int := IdxF.idx (chart_find_1.p s) F
theorem find_f (F : List Fx) (L : List Aw) (s : ByteArray) : chart_find.f F L s = some (fx F s) := by
  unfold chart_find.f api_Fix.f
  rw [Option.bind_some]
  rfl
theorem fx_range (F : List Fx) (s : ByteArray) : fx F s = -1 ∨ (0 ≤ fx F s ∧ fx F s < (F.length : Int)) := IdxF.idx_range _ _
theorem airway_l (F : List Fx) (L : List Aw) (nm : ByteArray) (l : List ByteArray) (hl : l.length ≤ 24) : ∀ (d k i : Nat), i + d = l.length → d + 30 < k → (0 < i → ∀ h2 : i - 1 < l.length, 0 ≤ fx F l[i - 1]) →
    ∃ e, chart_airway.l0 k l (l.length : Int) (i : Int) F L nm l = some e
  | 0, k, i, hi, hk, hf => by
    obtain ⟨k, rfl⟩ : ∃ m, k = m + 1 := ⟨k - 1, by omega⟩
    exact ⟨0, by rw [chart_airway.l0, if_neg (by omega)]⟩
  | d + 1, k, i, hi, hk, hf => by
    obtain ⟨k, rfl⟩ : ∃ m, k = m + 1 := ⟨k - 1, by omega⟩
    have hlt : i < l.length := by omega
    have r := fx_range F l[i]
    rw [chart_airway.l0, if_pos (by omega), if_pos (by omega), if_pos (by omega), rdB hlt, find_f, Option.bind_some]
    by_cases c1 : fx F l[i] < 0
    · rw [if_pos c1]; exact ⟨_, rfl⟩
    have ih := airway_l F L nm l hl d k (i + 1) (by omega) (by omega) (fun _ h2 => by
      have e : i + 1 - 1 = i := by omega
      simp only [e]; omega)
    rw [show ((i + 1 : Nat) : Int) = (i : Int) + 1 by omega] at ih
    rw [if_neg c1, if_pos (by omega), Int.toNat_natCast]
    unfold slices_Contains_string_string.f
    rw [index_f (l.take i) (by rw [List.length_take]; omega) _ k (by rw [List.length_take]; omega), Option.bind_some, Option.bind_some]
    by_cases c2 : decide (at_ (l.take i) l[i] ≥ 0) = true
    · rw [if_pos c2]; exact ⟨_, rfl⟩
    rw [if_neg c2, w64 (x := (i : Int) + 1) (by omega) (by omega)]
    by_cases c3 : (i : Int) > 0
    · have hf' := hf (by omega) (by omega)
      have r2 := fx_range F l[i - 1]
      rw [if_pos c3, w64 (x := (i : Int) - 1) (by omega) (by omega), if_pos (by omega), if_pos (by omega), show ((i : Int) - 1) = ((i - 1 : Nat) : Int) by omega, rdB (show i - 1 < l.length by omega), find_f, Option.bind_some,
        if_pos hf', if_pos (by omega), if_pos (by omega), if_pos (by omega)]
      split
      · exact ⟨_, rfl⟩
      · exact ih
    · rw [if_neg c3]; exact ih
theorem airway_f (F : List Fx) (L : List Aw) (i k : Nat) (hk : 100 ≤ k) (hi : i < L.length) : ∃ e, chart_airway.f k F L (i : Int) = some e := by
  have hj : ∀ (q : Nat) x (nm : ByteArray) (l : List ByteArray), 90 ≤ q → ∃ e, chart_airway.j0 q x F L nm l = some e := by
    intro q x nm l hq
    obtain ⟨q, rfl⟩ : ∃ m, q = m + 1 := ⟨q - 1, by omega⟩
    rw [chart_airway.j0]
    by_cases c0 : x = true
    · rw [if_pos c0]; exact ⟨_, rfl⟩
    rw [if_neg c0]
    by_cases c1 : (l.length : Int) < 2
    · rw [if_pos c1]; exact ⟨_, rfl⟩
    rw [if_neg c1]
    by_cases c2 : (l.length : Int) > 24
    · rw [if_pos c2]; exact ⟨_, rfl⟩
    rw [if_neg c2]
    exact airway_l F L nm l (by omega) l.length q 0 (by omega) (by omega) (fun h => absurd h (Nat.lt_irrefl _))
  unfold chart_airway.f
  obtain ⟨b, hb⟩ := name_some (L[i]).f0 k (by omega)
  rw [if_pos (by omega), if_pos (by omega), rdA hi, hb, Option.bind_some]
  by_cases c0 : b = true
  · rw [if_pos c0, find_f, Option.bind_some]
    by_cases c1 : fx F (L[i]).f0 ≥ 0
    · rw [if_pos c1]; exact hj _ _ _ _ (by omega)
    · rw [if_neg c1, if_pos (by omega)]
      unfold api_Airway_121.f
      rw [Option.bind_some]
      exact hj _ _ _ _ (by omega)
  · rw [if_neg c0]; exact ⟨_, rfl⟩
theorem chk_l1 (F : List Fx) (L : List Aw) (hL : L.length ≤ 16) : ∀ (d k i : Nat), i + d = L.length → d + 100 < k → ∃ e, chart_Check.l1 k (L.length : Int) (i : Int) F L = some e
  | 0, k, i, hi, hk => by
    obtain ⟨k, rfl⟩ : ∃ m, k = m + 1 := ⟨k - 1, by omega⟩
    exact ⟨0, by rw [chart_Check.l1, if_neg (by omega)]⟩
  | d + 1, k, i, hi, hk => by
    obtain ⟨k, rfl⟩ : ∃ m, k = m + 1 := ⟨k - 1, by omega⟩
    obtain ⟨e, he⟩ := airway_f F L i k (by omega) (by omega)
    have ih := chk_l1 F L hL d k (i + 1) (by omega) (by omega)
    rw [chart_Check.l1, if_pos (by omega), he, Option.bind_some, w64 (x := (i : Int) + 1) (by omega) (by omega), show ((i : Int) + 1) = ((i + 1 : Nat) : Int) by omega]
    split
    · exact ih
    · exact ⟨_, rfl⟩
/-- What the check of a chart tells of its fixes. -/
def FixOk (F : List Fx) : Prop := ∀ i (h : i < F.length), chart_Name.f 200 (F[i]).f0 = some true ∧ (i : Int) ≤ fx F (F[i]).f0 ∧ Ok (F[i]).f1.f0 (F[i]).f1.f1
theorem chk_l0 (F : List Fx) (L : List Aw) (hF : F.length ≤ 64) (hL : L.length ≤ 16) : ∀ (d k i : Nat), i + d = F.length → d + 130 < k →
    ∃ e, chart_Check.l0 k F (F.length : Int) (i : Int) F L = some e ∧ (e = 0 → ∀ j (h : j < F.length), i ≤ j → chart_Name.f k (F[j]).f0 = some true ∧ (j : Int) ≤ fx F (F[j]).f0 ∧ Ok (F[j]).f1.f0 (F[j]).f1.f1)
  | 0, k, i, hi, hk => by
    obtain ⟨k, rfl⟩ : ∃ m, k = m + 1 := ⟨k - 1, by omega⟩
    obtain ⟨e, he⟩ := chk_l1 F L hL L.length k 0 (by omega) (by omega)
    refine ⟨e, by rw [chart_Check.l0, if_neg (by omega)]; exact he, fun _ j h hj => by omega⟩
  | d + 1, k, i, hi, hk => by
    obtain ⟨k, rfl⟩ : ∃ m, k = m + 1 := ⟨k - 1, by omega⟩
    have hlt : i < F.length := by omega
    obtain ⟨b, hb⟩ := name_some (F[i]).f0 k (by omega)
    obtain ⟨e, he, hz⟩ := chk_l0 F L hF hL d k (i + 1) (by omega) (by omega)
    rw [chart_Check.l0, if_pos (by omega), if_pos (by omega), if_pos (by omega), rdX hlt, hb, Option.bind_some, find_f]
    by_cases c0 : b = true
    · rw [if_pos c0, Option.bind_some]
      by_cases c1 : fx F (F[i]).f0 < (i : Int)
      · rw [if_pos c1]; exact ⟨7, rfl, fun h => by omega⟩
      · rw [if_neg c1, check_f, Option.bind_some, w64 (x := (i : Int) + 1) (by omega) (by omega), show ((i : Int) + 1) = ((i + 1 : Nat) : Int) by omega]
        by_cases c2 : Ok (F[i]).f1.f0 (F[i]).f1.f1
        · rw [if_pos c2, if_pos rfl]
          refine ⟨e, he, fun h j hj hij => ?_⟩
          by_cases c3 : j = i
          · subst c3
            exact ⟨at_rounds (fun q => chart_Name.mono _ q) (Nat.le_succ k) (c0 ▸ hb), by omega, c2⟩
          · obtain ⟨g1, g2⟩ := hz h j hj (by omega)
            exact ⟨at_rounds (fun q => chart_Name.mono _ q) (Nat.le_succ k) g1, g2⟩
        · rw [if_neg c2, if_neg (by decide)]
          exact ⟨4, rfl, fun h => by omega⟩
    · rw [if_neg c0]; exact ⟨5, rfl, fun h => by omega⟩
theorem chk (F : List Fx) (L : List Aw) : ∃ e, (∀ k, 250 ≤ k → chart_Check.f k F L = some e) ∧ (e = 0 → F.length ≤ 64 ∧ L.length ≤ 16 ∧ ∀ j (h : j < F.length), chart_Name.f 250 (F[j]).f0 = some true ∧ (j : Int) ≤ fx F (F[j]).f0 ∧ Ok (F[j]).f1.f0 (F[j]).f1.f1) := by
  have key : ∃ e, chart_Check.f 250 F L = some e ∧ (e = 0 → F.length ≤ 64 ∧ L.length ≤ 16 ∧ ∀ j (h : j < F.length), chart_Name.f 250 (F[j]).f0 = some true ∧ (j : Int) ≤ fx F (F[j]).f0 ∧ Ok (F[j]).f1.f0 (F[j]).f1.f1) := by
    unfold chart_Check.f
    by_cases c0 : (F.length : Int) > 64
    · rw [if_pos c0]; exact ⟨2, rfl, fun h => by omega⟩
    rw [if_neg c0, show (250 : Nat) = 249 + 1 from rfl, chart_Check.j0]
    by_cases c1 : (L.length : Int) > 16
    · rw [if_pos (decide_eq_true c1)]; exact ⟨2, rfl, fun h => by omega⟩
    rw [if_neg (by rw [decide_eq_false c1]; decide)]
    obtain ⟨e, he, hz⟩ := chk_l0 F L (by omega) (by omega) F.length 249 0 (by omega) (by omega)
    refine ⟨e, he, fun h => ⟨by omega, by omega, fun j hj => ?_⟩⟩
    obtain ⟨g1, g2⟩ := hz h j hj (Nat.zero_le _)
    exact ⟨at_rounds (fun q => chart_Name.mono _ q) (Nat.le_succ 249) g1, g2⟩
  obtain ⟨e, he, hz⟩ := key
  exact ⟨e, fun k hk => at_rounds (fun q => chart_Check.mono _ _ q) hk he, hz⟩
theorem chartWorks (k : Nat) (hk : 60 ≤ k) : skywaykeep1_chartWorks.f k = some true := by
  have h : skywaykeep1_chartWorks.f 60 = some true := by decide +kernel
  exact at_rounds skywaykeep1_chartWorks.mono hk h
theorem idx_le {α : Type} (p : α → Bool) (l : List α) {j : Nat} (hj : j < l.length) (hp : p l[j] = true) : 0 ≤ IdxF.idx p l ∧ IdxF.idx p l ≤ (j : Int) := by
  unfold IdxF.idx
  rw [if_pos (IdxF.any_split p l hj hp)]
  have h : l.findIdx p ≤ j := by
    rcases Nat.lt_or_ge j (l.findIdx p) with h | h
    · have := List.not_of_lt_findIdx h
      rw [hp] at this
      cases this
    · exact h
  omega
theorem idx_at {α : Type} (p : α → Bool) (l : List α) {i : Nat} (h : IdxF.idx p l = (i : Int)) : ∃ hi : i < l.length, p l[i] = true := by
  unfold IdxF.idx at h
  by_cases c : l.any p = true
  · rw [if_pos c] at h
    have hlt := List.findIdx_lt_length.2 (List.any_eq_true.1 c)
    obtain rfl : l.findIdx p = i := by omega
    exact ⟨hlt, List.findIdx_getElem⟩
  · rw [if_neg c] at h; omega
theorem bl_irrefl : ∀ x : List UInt8, Op.bytesLess x x = false
  | [] => rfl
  | a :: x => by rw [Op.bytesLess, bl_irrefl x]; simp
theorem bl_trans : ∀ x y z : List UInt8, Op.bytesLess x y = true → Op.bytesLess y z = true → Op.bytesLess x z = true
  | _, _, [], _, h => by simp [Op.bytesLess] at h
  | _, [], _ :: _, h, _ => by simp [Op.bytesLess] at h
  | [], _ :: _, _ :: _, _, _ => rfl
  | a :: x, b :: y, c :: z, h1, h2 => by
    rw [Op.bytesLess, Bool.or_eq_true, Bool.and_eq_true] at h1 h2 ⊢
    simp only [decide_eq_true_eq, beq_iff_eq] at h1 h2 ⊢
    rcases h1 with h1 | ⟨rfl, h1⟩
    · rcases h2 with h2 | ⟨rfl, h2⟩
      · exact .inl (UInt8.lt_trans h1 h2)
      · exact .inl h1
    · rcases h2 with h2 | ⟨rfl, h2⟩
      · exact .inl h2
      · exact .inr ⟨rfl, bl_trans x y z h1 h2⟩
def Dq (x y a b : Int) : Int := (plane_Square.f x y a b).getD 0
theorem sq_f (x y a b : Int) : plane_Square.f x y a b = some (Dq x y a b) := by
  unfold Dq plane_Square.f plane_Sub.f plane_Dot.f
  simp only [Option.bind_some, Option.getD_some]
theorem name_ne (s : ByteArray) (k : Nat) (h : chart_Name.f k s = some true) : s ≠ ⟨#[]⟩ := by
  rintro rfl
  unfold chart_Name.f at h
  rw [if_pos (by rfl)] at h
  cases k with
  | zero => rw [chart_Name.j0] at h; cases h
  | succ k => rw [chart_Name.j0, if_pos rfl] at h; cases h
/-- The fix j is the best of the first i. -/
def Best (F : List Fx) (a b : Int) (i : Nat) (s : ByteArray) (d : Int) : Prop :=
  ∃ j, ∃ hj : j < F.length, j < i ∧ s = (F[j]).f0 ∧ d = Dq (F[j]).f1.f0 (F[j]).f1.f1 a b ∧
    ∀ m (hm : m < F.length), m < i → ¬ (Dq (F[m]).f1.f0 (F[m]).f1.f1 a b < d) ∧ (Dq (F[m]).f1.f0 (F[m]).f1.f1 a b = d → Op.bytesLess ((F[m]).f0).toList s.toList = false)
theorem near_l (F : List Fx) (hF : F.length ≤ 64) (a b : Int) (hne : ∀ j (h : j < F.length), (F[j]).f0 ≠ ⟨#[]⟩) (h0 : 0 < F.length) : ∀ (q k i : Nat) (s : ByteArray) (d : Int), i + q = F.length → q < k → (0 < i → Best F a b i s d) →
    ∃ s2 d2, Best F a b F.length s2 d2 ∧ chart_Near.l0 k s d F (F.length : Int) (i : Int) a b = some (s2, 0)
  | 0, k, i, s, d, hi, hk, hB => by
    obtain ⟨k, rfl⟩ : ∃ m, k = m + 1 := ⟨k - 1, by omega⟩
    have hb := hB (by omega)
    obtain rfl : i = F.length := by omega
    refine ⟨s, d, hb, ?_⟩
    obtain ⟨j, hj, _, hs, _⟩ := hb
    rw [chart_Near.l0, if_neg (by omega), if_neg]
    intro h
    have h2 : s = ⟨#[]⟩ := bt_eq.1 (h.trans (by rw [ByteArray.toList_eq]))
    exact hne j hj (hs ▸ h2)
  | q + 1, k, i, s, d, hi, hk, hB => by
    obtain ⟨k, rfl⟩ : ∃ m, k = m + 1 := ⟨k - 1, by omega⟩
    have hlt : i < F.length := by omega
    rw [chart_Near.l0, if_pos (by omega), if_pos (by omega), if_pos (by omega), rdX hlt, sq_f, Option.bind_some, w64 (x := (i : Int) + 1) (by omega) (by omega), show ((i : Int) + 1) = ((i + 1 : Nat) : Int) by omega]
    have nw := near_l F hF a b hne h0 q k (i + 1) (F[i]).f0 (Dq (F[i]).f1.f0 (F[i]).f1.f1 a b) (by omega) (by omega)
    have st := near_l F hF a b hne h0 q k (i + 1) s d (by omega) (by omega)
    by_cases c0 : (i : Int) = 0
    · rw [if_pos c0]
      refine nw (fun _ => ⟨i, hlt, by omega, rfl, rfl, fun m hm hmi => ?_⟩)
      obtain rfl : m = i := by omega
      exact ⟨Int.lt_irrefl _, fun _ => bl_irrefl _⟩
    · rw [if_neg c0]
      obtain ⟨j, hj, hji, hs, hd, hall⟩ := hB (by omega)
      have keep : ¬ (Dq (F[i]).f1.f0 (F[i]).f1.f1 a b < d) → (Dq (F[i]).f1.f0 (F[i]).f1.f1 a b = d → Op.bytesLess ((F[i]).f0).toList s.toList = false) → Best F a b (i + 1) s d := by
        intro g1 g2
        refine ⟨j, hj, by omega, hs, hd, fun m hm hmi => ?_⟩
        by_cases e : m = i
        · subst e; exact ⟨g1, g2⟩
        · exact hall m hm (by omega)
      by_cases c1 : Dq (F[i]).f1.f0 (F[i]).f1.f1 a b < d
      · rw [if_pos c1]
        refine nw (fun _ => ⟨i, hlt, by omega, rfl, rfl, fun m hm hmi => ?_⟩)
        by_cases e : m = i
        · subst e; exact ⟨Int.lt_irrefl _, fun _ => bl_irrefl _⟩
        · obtain ⟨g1, _⟩ := hall m hm (by omega)
          exact ⟨by omega, fun h => by omega⟩
      · rw [if_neg c1]
        by_cases c2 : Dq (F[i]).f1.f0 (F[i]).f1.f1 a b = d
        · rw [if_pos c2]
          by_cases c3 : Op.bytesLess ((F[i]).f0).toList s.toList = true
          · rw [if_pos c3]
            refine nw (fun _ => ⟨i, hlt, by omega, rfl, rfl, fun m hm hmi => ?_⟩)
            by_cases e : m = i
            · subst e; exact ⟨Int.lt_irrefl _, fun _ => bl_irrefl _⟩
            · obtain ⟨g1, g2⟩ := hall m hm (by omega)
              refine ⟨by omega, fun h => ?_⟩
              have g3 := g2 (h.trans c2)
              cases hq : Op.bytesLess ((F[m]).f0).toList ((F[i]).f0).toList with
              | false => rfl
              | true => rw [bl_trans _ _ _ hq c3] at g3; cases g3
          · rw [if_neg c3]
            exact st (fun _ => keep c1 (fun _ => by simpa using c3))
        · rw [if_neg c2]
          exact st (fun _ => keep c1 (fun h => absurd h c2))
theorem law_l (F : List Fx) (hF : F.length ≤ 64) (a b x y : Int) (s : ByteArray) (hall : ∀ m (hm : m < F.length), ¬ (Dq (F[m]).f1.f0 (F[m]).f1.f1 a b < Dq x y a b) ∧ (Dq (F[m]).f1.f0 (F[m]).f1.f1 a b = Dq x y a b → Op.bytesLess ((F[m]).f0).toList s.toList = false)) : ∀ (q k i : Nat), i + q = F.length → q < k →
    skywaykeep1_ChartNear.l0 k s 0 F (F.length : Int) (i : Int) a b s x y = some true
  | 0, k, i, hi, hk => by
    obtain ⟨k, rfl⟩ : ∃ m, k = m + 1 := ⟨k - 1, by omega⟩
    rw [skywaykeep1_ChartNear.l0, if_neg (by omega), if_pos rfl]
    congr 1
    exact beq_self_eq_true _
  | q + 1, k, i, hi, hk => by
    obtain ⟨k, rfl⟩ : ∃ m, k = m + 1 := ⟨k - 1, by omega⟩
    have hlt : i < F.length := by omega
    obtain ⟨g1, g2⟩ := hall i hlt
    have ih := law_l F hF a b x y s hall q k (i + 1) (by omega) (by omega)
    rw [skywaykeep1_ChartNear.l0, if_pos (by omega), if_pos (by omega), if_pos (by omega), rdX hlt, sq_f, Option.bind_some, sq_f, Option.bind_some, if_neg g1, w64 (x := (i : Int) + 1) (by omega) (by omega), show ((i : Int) + 1) = ((i + 1 : Nat) : Int) by omega]
    by_cases c : Dq (F[i]).f1.f0 (F[i]).f1.f1 a b = Dq x y a b
    · rw [if_pos c, if_neg (by rw [g2 c]; decide)]; exact ih
    · rw [if_neg c]; exact ih
theorem ChartNear : skywaykeep1_ChartNear.Pure := by
  intro F L a b _ _ _ _
  refine ⟨400, ?_⟩
  unfold skywaykeep1_ChartNear.f
  rw [chartWorks 400 (by decide), Option.bind_some, if_pos rfl]
  obtain ⟨e, he, hz⟩ := chk F L
  have bad : ∀ e : Int, e ≠ 0 → ((some ((⟨#[]⟩ : ByteArray), e)).bind fun bt236 => (if bt236.2 = 0 then ((chart_Find.f 400 F L bt236.1).bind fun bt238 => (skywaykeep1_ChartNear.l0 400 bt236.1 bt238.2.2.2 F (F.length : Int) 0 a b bt238.1 bt238.2.1 bt238.2.2.1)) else (some (bt236.1.toList == ([] : List UInt8))))) = some true := by
    intro e h0
    rw [Option.bind_some]
    dsimp only
    rw [if_neg h0, ByteArray.toList_eq]
    rfl
  unfold chart_Near.f
  rw [he 400 (by decide), Option.bind_some]
  by_cases h0 : e = 0
  · rw [if_pos h0, check_f, Option.bind_some]
    by_cases hq : Ok a b
    · rw [if_pos hq, if_pos rfl]
      obtain ⟨hF, hL, hfix⟩ := hz h0
      have hne : ∀ j (h : j < F.length), (F[j]).f0 ≠ ⟨#[]⟩ := fun j h => name_ne _ _ (hfix j h).1
      by_cases hl : 0 < F.length
      · obtain ⟨s, d, ⟨j, hj, _, hs, hd, hall⟩, hr⟩ := near_l F hF a b hne hl F.length 400 0 ⟨#[]⟩ 0 (by omega) (by omega) (fun h => absurd h (Nat.lt_irrefl _))
        rw [show ((0 : Nat) : Int) = 0 from rfl] at hr
        rw [hr, Option.bind_some]
        dsimp only
        have hx : fx F s = (j : Int) := by
          have g1 := (hfix j hj).2.1
          have g2 := idx_le (chart_find_1.p s) F hj (decide_eq_true hs.symm)
          rw [← hs] at g1
          unfold fx at *
          omega
        rw [if_pos rfl]
        unfold chart_Find.f
        rw [he 400 (by decide), Option.bind_some, if_pos h0, find_f, Option.bind_some, hx, if_neg (by omega), if_pos (by omega), if_pos (by omega), Option.bind_some, rdX hj]
        dsimp only
        rw [← hs]
        subst hd
        exact law_l F hF a b _ _ s (fun m hm => hall m hm hm) F.length 400 0 (by omega) (by omega)
      · have hF0 : F = [] := List.eq_nil_of_length_eq_zero (by omega)
        subst hF0
        have : chart_Near.l0 400 ⟨#[]⟩ 0 ([] : List Fx) (([] : List Fx).length : Int) 0 a b = some (⟨#[]⟩, 8) := by
          rw [show (400 : Nat) = 399 + 1 from rfl, chart_Near.l0, if_neg (by decide), if_pos (by rw [ByteArray.toList_eq])]
        rw [this]
        exact bad 8 (by decide)
    · rw [if_neg hq, if_neg (by decide)]
      exact bad 4 (by decide)
  · rw [if_neg h0]
    exact bad e h0
end Go.Proofs.Ytbpbpojnfhhbjaa.Pure
