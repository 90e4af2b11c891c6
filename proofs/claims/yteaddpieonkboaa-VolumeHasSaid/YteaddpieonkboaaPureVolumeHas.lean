/- VolumeHas: a volume has a point if its area has it and the height is in its interval. -/
import Derived.Test.YteaddpieonkboaaPVolumeHasx
import Derived.Test.YteaddpieonkboaaMath
import Derived.Laws.MathBits
namespace Go.Proofs.Yteaddpieonkboaa.Pure
open Go Go.RowKit Go.Proofs.Yteaddpieonkboaa.PVolumeHas Go.Proofs.YteaddpieonkboaaW.PrintWords Go.Proofs.YteaddpieonkboaaW.PrintLast Go.Proofs.YteaddpieonkboaaW.PrintMore Go.Proofs.YteaddpieonkboaaM

/-- A permitted coordinate. -/
def Ok (x y : Int) : Prop := -1000000 ≤ x ∧ x ≤ 1000000 ∧ -1000000 ≤ y ∧ y ≤ 1000000
instance (x y : Int) : Decidable (Ok x y) := inferInstanceAs (Decidable (_ ∧ _))
theorem check_f (x y : Int) : plane_Check.f x y = some (if Ok x y then 0 else 4) := by
  unfold plane_Check.f
  by_cases c : Ok x y
  · rw [if_pos c]
    obtain ⟨c1, c2, c3, c4⟩ := c
    rw [if_neg (by omega), if_neg (by omega), if_neg (by omega), if_neg (by omega)]
  · rw [if_neg c]
    by_cases c1 : x < -1000000
    · rw [if_pos c1]
    · rw [if_neg c1]
      by_cases c2 : x > 1000000
      · rw [if_pos c2]
      · rw [if_neg c2]
        by_cases c3 : y < -1000000
        · rw [if_pos c3]
        · rw [if_neg c3, if_pos (by
            rcases Int.lt_or_le 1000000 y with h | h
            · exact h
            · exact absurd (show Ok x y from ⟨by omega, by omega, by omega, h⟩) c)]
/-- The cross product of b - a and c - a. -/
def X (ax ay bx b_y cx cy : Int) : Int := (bx - ax) * (cy - ay) - (b_y - ay) * (cx - ax)
def sg (x : Int) : Int := if x > 0 then 1 else if x < 0 then -1 else 0
theorem turn {ax ay bx b_y cx cy : Int} (h1 : -2000000000 ≤ bx - ax) (h2 : bx - ax ≤ 2000000000) (h3 : -2000000000 ≤ b_y - ay) (h4 : b_y - ay ≤ 2000000000)
    (h5 : -2000000000 ≤ cx - ax) (h6 : cx - ax ≤ 2000000000) (h7 : -2000000000 ≤ cy - ay) (h8 : cy - ay ≤ 2000000000) :
    plane_Turn.f ax ay bx b_y cx cy = some (sg (X ax ay bx b_y cx cy)) := by
  have m1 := mul_bd h1 h2 h7 h8
  have m2 := mul_bd h3 h4 h5 h6
  unfold plane_Turn.f plane_Sub.f plane_Cross.f X sg
  simp only [Option.bind_some]
  rw [w64 (x := bx - ax) (by omega) (by omega), w64 (x := b_y - ay) (by omega) (by omega), w64 (x := cx - ax) (by omega) (by omega), w64 (x := cy - ay) (by omega) (by omega),
    w64 (x := (bx - ax) * (cy - ay)) (by omega) (by omega), w64 (x := (b_y - ay) * (cx - ax)) (by omega) (by omega), w64 (by omega) (by omega)]
  split
  · rfl
  · split <;> rfl
theorem sg_neg (x : Int) : sg (-x) = -sg x := by unfold sg; (repeat' split) <;> omega
theorem sg_rng (x : Int) : -1 ≤ sg x ∧ sg x ≤ 1 := by unfold sg; (repeat' split) <;> omega
/-- The scalar product of the ways from a point to two others. -/
def Dt (ax ay bx b_y px py : Int) : Int := (ax - px) * (bx - px) + (ay - py) * (b_y - py)
theorem on_f {ax ay bx b_y px py : Int} (ha : Ok ax ay) (hb : Ok bx b_y) (hp : Ok px py) : polygon_on.f ax ay bx b_y px py = some (decide (Dt ax ay bx b_y px py ≤ 0)) := by
  obtain ⟨a1, a2, a3, a4⟩ := ha
  obtain ⟨b1, b2, b3, b4⟩ := hb
  obtain ⟨p1, p2, p3, p4⟩ := hp
  have m1 := mul_bd (show -2000000 ≤ ax - px by omega) (show ax - px ≤ 2000000 by omega) (show -2000000 ≤ bx - px by omega) (show bx - px ≤ 2000000 by omega)
  have m2 := mul_bd (show -2000000 ≤ ay - py by omega) (show ay - py ≤ 2000000 by omega) (show -2000000 ≤ b_y - py by omega) (show b_y - py ≤ 2000000 by omega)
  unfold polygon_on.f plane_Sub.f plane_Dot.f Dt
  simp only [Option.bind_some]
  rw [w64 (x := ax - px) (by omega) (by omega), w64 (x := ay - py) (by omega) (by omega), w64 (x := bx - px) (by omega) (by omega), w64 (x := b_y - py) (by omega) (by omega),
    w64 (x := (ax - px) * (bx - px)) (by omega) (by omega), w64 (x := (ay - py) * (b_y - py)) (by omega) (by omega), w64 (by omega) (by omega)]
theorem turn_ok {ax ay bx b_y cx cy : Int} (ha : Ok ax ay) (hb : Ok bx b_y) (hc : Ok cx cy) : plane_Turn.f ax ay bx b_y cx cy = some (sg (X ax ay bx b_y cx cy)) := by
  obtain ⟨a1, a2, a3, a4⟩ := ha
  obtain ⟨b1, b2, b3, b4⟩ := hb
  obtain ⟨c1, c2, c3, c4⟩ := hc
  exact turn (by omega) (by omega) (by omega) (by omega) (by omega) (by omega) (by omega) (by omega)
def comB (s t u v : Int) (o1 o2 o3 o4 : Bool) : Bool := (decide (s * t < 0) && decide (u * v < 0)) || (decide (s = 0) && o1) || (decide (t = 0) && o2) || (decide (u = 0) && o3) || (decide (v = 0) && o4)
theorem com_j0 (k : Nat) (s t u v : Int) (x : Bool) {ax ay bx b_y cx cy dx dy : Int} (o1 o2 o3 o4 : Bool)
    (h1 : polygon_on.f ax ay bx b_y cx cy = some o1) (h2 : polygon_on.f ax ay bx b_y dx dy = some o2) (h3 : polygon_on.f cx cy dx dy ax ay = some o3) (h4 : polygon_on.f cx cy dx dy bx b_y = some o4) :
    polygon_Common.j0 (k + 1) s t u v x ax ay bx b_y cx cy dx dy = some (x || (decide (s = 0) && o1) || (decide (t = 0) && o2) || (decide (u = 0) && o3) || (decide (v = 0) && o4)) := by
  rw [polygon_Common.j0, h1, h2, h3, h4]
  simp only [Option.bind_some]
  cases x
  · by_cases c1 : s = 0 <;> by_cases c2 : t = 0 <;> by_cases c3 : u = 0 <;> by_cases c4 : v = 0 <;> cases o1 <;> cases o2 <;> cases o3 <;> cases o4 <;> simp [c1, c2, c3, c4]
  · simp
theorem common_f (k : Nat) {ax ay bx b_y cx cy dx dy : Int} (ha : Ok ax ay) (hb : Ok bx b_y) (hc : Ok cx cy) (hd : Ok dx dy) :
    polygon_Common.f (k + 1) ax ay bx b_y cx cy dx dy = some (comB (sg (X ax ay bx b_y cx cy)) (sg (X ax ay bx b_y dx dy)) (sg (X cx cy dx dy ax ay)) (sg (X cx cy dx dy bx b_y))
      (decide (Dt ax ay bx b_y cx cy ≤ 0)) (decide (Dt ax ay bx b_y dx dy ≤ 0)) (decide (Dt cx cy dx dy ax ay ≤ 0)) (decide (Dt cx cy dx dy bx b_y ≤ 0))) := by
  have r1 := sg_rng (X ax ay bx b_y cx cy)
  have r2 := sg_rng (X ax ay bx b_y dx dy)
  have r3 := sg_rng (X cx cy dx dy ax ay)
  have r4 := sg_rng (X cx cy dx dy bx b_y)
  unfold polygon_Common.f
  rw [turn_ok ha hb hc, turn_ok ha hb hd, turn_ok hc hd ha, turn_ok hc hd hb]
  simp only [Option.bind_some]
  have m1 := mul_bd r1.1 r1.2 r2.1 r2.2
  have m2 := mul_bd r3.1 r3.2 r4.1 r4.2
  rw [w64 (by omega) (by omega), w64 (by omega) (by omega), com_j0 k _ _ _ _ _ _ _ _ _ (on_f ha hb hc) (on_f ha hb hd) (on_f hc hd ha) (on_f hc hd hb), com_j0 k _ _ _ _ _ _ _ _ _ (on_f ha hb hc) (on_f ha hb hd) (on_f hc hd ha) (on_f hc hd hb)]
  unfold comB
  by_cases c : sg (X ax ay bx b_y cx cy) * sg (X ax ay bx b_y dx dy) < 0
  · rw [if_pos c, decide_eq_true c, Bool.true_and]
  · rw [if_neg c, decide_eq_false c, Bool.false_and]
/-- Vertex i. -/
def Pt (l : List S25) (i : Nat) : S25 := rd_T25 l (i : Int)
def Okp (p : S25) : Prop := Ok p.f0 p.f1
def Xp (a b c : S25) : Int := X a.f0 a.f1 b.f0 b.f1 c.f0 c.f1
def crs (a b : S25) : Int := a.f0 * b.f1 - a.f1 * b.f0
def cmn (a b c d : S25) : Bool := comB (sg (Xp a b c)) (sg (Xp a b d)) (sg (Xp c d a)) (sg (Xp c d b)) (decide (Dt a.f0 a.f1 b.f0 b.f1 c.f0 c.f1 ≤ 0)) (decide (Dt a.f0 a.f1 b.f0 b.f1 d.f0 d.f1 ≤ 0)) (decide (Dt c.f0 c.f1 d.f0 d.f1 a.f0 a.f1 ≤ 0)) (decide (Dt c.f0 c.f1 d.f0 d.f1 b.f0 b.f1 ≤ 0))
theorem sg_zero (x : Int) : sg x = 0 ↔ x = 0 := by unfold sg; (repeat' split) <;> omega
def nx (n i : Nat) : Nat := if i + 1 < n then i + 1 else i + 1 - n
def nx2 (n i : Nat) : Nat := if i + 2 < n then i + 2 else i + 2 - n
def pv (n i : Nat) : Nat := if i = 0 then n - 1 else i - 1
theorem nx_lt {n i : Nat} (h : i < n) : nx n i < n := by unfold nx; split <;> omega
theorem nx2_lt {n i : Nat} (h : i < n) (h2 : 2 ≤ n) : nx2 n i < n := by unfold nx2; split <;> omega
theorem pv_lt {n i : Nat} (h : i < n) : pv n i < n := by unfold pv; split <;> omega
theorem md_lt {a n : Int} (h0 : 0 ≤ a) (h : a < n) : Int.tmod a n = a := by rw [Int.tmod_eq_emod_of_nonneg h0, Int.emod_eq_of_lt h0 h]
theorem md_add {a n : Int} (h0 : 0 ≤ a) (h : a < n) : Int.tmod (a + n) n = a := by
  rw [Int.tmod_eq_emod_of_nonneg (by omega)]
  have : (a + n) % n = a % n := by simp
  rw [this, Int.emod_eq_of_lt h0 h]
theorem md_nx {n i : Nat} (h : i < n) : Int.tmod ((i : Int) + 1) (n : Int) = ((nx n i : Nat) : Int) := by
  unfold nx
  split
  · rw [md_lt (by omega) (by omega)]; omega
  · have e : (i : Int) + 1 = ((i + 1 - n : Nat) : Int) + n := by omega
    rw [e, md_add (by omega) (by omega)]
theorem md_nx2 {n i : Nat} (h : i < n) (h2 : 2 ≤ n) : Int.tmod ((i : Int) + 2) (n : Int) = ((nx2 n i : Nat) : Int) := by
  unfold nx2
  split
  · rw [md_lt (by omega) (by omega)]; omega
  · have e : (i : Int) + 2 = ((i + 2 - n : Nat) : Int) + n := by omega
    rw [e, md_add (by omega) (by omega)]
theorem md_pv {n i : Nat} (h : i < n) : Int.tmod ((i : Int) + n - 1) (n : Int) = ((pv n i : Nat) : Int) := by
  unfold pv
  split
  · rw [md_lt (by omega) (by omega)]; omega
  · have e : (i : Int) + n - 1 = ((i - 1 : Nat) : Int) + n := by omega
    rw [e, md_add (by omega) (by omega)]
theorem crs_bd {a b : S25} (ha : Okp a) (hb : Okp b) : -4000000000000 ≤ crs a b ∧ crs a b ≤ 4000000000000 ∧ plane_Cross.f a.f0 a.f1 b.f0 b.f1 = some (crs a b) := by
  obtain ⟨a1, a2, a3, a4⟩ := ha
  obtain ⟨b1, b2, b3, b4⟩ := hb
  have m1 := mul_bd a1 a2 b3 b4
  have m2 := mul_bd a3 a4 b1 b2
  unfold plane_Cross.f crs
  refine ⟨by omega, by omega, ?_⟩
  rw [w64 (x := a.f0 * b.f1) (by omega) (by omega), w64 (x := a.f1 * b.f0) (by omega) (by omega), w64 (by omega) (by omega)]
/-- The cross products from vertex i on, d of them. -/
def dblS (l : List S25) : Nat → Nat → Int
  | 0, _ => 0
  | d + 1, i => crs (Pt l i) (Pt l (nx l.length i)) + dblS l d (i + 1)
theorem double_l (l : List S25) (hl : l.length ≤ 16) (hok : ∀ i, i < l.length → Okp (Pt l i)) (d : Nat) : ∀ (k i : Nat) (a : Int), i + d = l.length → d < k →
    -1000000000000000 + (d : Int) * 4000000000000 ≤ a → a ≤ 1000000000000000 - (d : Int) * 4000000000000 → polygon_double.l0 k l a l (l.length : Int) (i : Int) = some (a + dblS l d i) := by
  induction d with
  | zero =>
    intro k i a hi hk _ _
    obtain ⟨k, rfl⟩ : ∃ m, k = m + 1 := ⟨k - 1, by omega⟩
    rw [polygon_double.l0, if_neg (by omega), dblS, Int.add_zero]
  | succ d ih =>
    intro k i a hi hk h1 h2
    obtain ⟨k, rfl⟩ : ∃ m, k = m + 1 := ⟨k - 1, by omega⟩
    have hlt : i < l.length := by omega
    have hn := nx_lt hlt
    obtain ⟨c1, c2, c3⟩ := crs_bd (hok i hlt) (hok _ hn)
    have e1 : rd_T25 l (i : Int) = Pt l i := rfl
    have e2 : rd_T25 l ((nx l.length i : Nat) : Int) = Pt l (nx l.length i) := rfl
    rw [polygon_double.l0, if_pos (by omega), if_pos (by omega), if_pos (by omega), if_neg (by omega), w64 (x := (i : Int) + 1) (by omega) (by omega), md_nx hlt, if_pos (by omega), if_pos (by omega), e1, e2, c3, Option.bind_some, w64 (x := a + crs (Pt l i) (Pt l (nx l.length i))) (by omega) (by omega),
      show ((i : Int) + 1) = ((i + 1 : Nat) : Int) by omega, ih k (i + 1) _ (by omega) (by omega) (by omega) (by omega), dblS, Int.add_assoc]
theorem common_p (k : Nat) {a b c d : S25} (ha : Okp a) (hb : Okp b) (hc : Okp c) (hd : Okp d) : polygon_Common.f (k + 1) a.f0 a.f1 b.f0 b.f1 c.f0 c.f1 d.f0 d.f1 = some (cmn a b c d) := common_f k ha hb hc hd
/-- Edge i has no point in common with the edges from m on, but for its neighbours. -/
def C2 (l : List S25) (i m : Nat) : Prop := ∀ j, m ≤ j → j < l.length → nx l.length j ≠ i → cmn (Pt l i) (Pt l (i + 1)) (Pt l j) (Pt l (nx l.length j)) = false
def C1 (l : List S25) (i : Nat) : Prop := ∀ i', i ≤ i' → i' < l.length → Xp (Pt l i') (Pt l (nx l.length i')) (Pt l (nx2 l.length i')) ≠ 0 ∧ C2 l i' (i' + 2)
theorem check_l2 (l : List S25) (hl : l.length ≤ 16) (hok : ∀ i, i < l.length → Okp (Pt l i)) (i : Nat) (hi : i < l.length) (R : Prop) (K : Nat)
    (hnext : ∀ k, K ≤ k → ∃ e, polygon_Check.l1 k l (l.length : Int) (l.length : Int) ((i + 1 : Nat) : Int) = some e ∧ (e = 0 ↔ R)) :
    ∀ (d k m : Nat), i + 2 ≤ m → m ≤ 20 → l.length - m = d → K + d + 2 ≤ k → ∃ e, polygon_Check.l2 k l (l.length : Int) (i : Int) (m : Int) (l.length : Int) (i : Int) = some e ∧ (e = 0 ↔ C2 l i m ∧ R)
  | 0, k, m, hm, hm2, hd, hk => by
    obtain ⟨k, rfl⟩ : ∃ q, k = q + 1 := ⟨k - 1, by omega⟩
    rw [polygon_Check.l2, if_neg (by omega), w64 (by omega) (by omega), show ((i : Int) + 1) = ((i + 1 : Nat) : Int) by omega]
    obtain ⟨e, he, hz⟩ := hnext k (by omega)
    exact ⟨e, he, hz.trans ⟨fun h => ⟨fun j h1 h2 => by omega, h⟩, fun h => h.2⟩⟩
  | d + 1, k, m, hm, hm2, hd, hk => by
    obtain ⟨k, rfl⟩ : ∃ q, k = q + 2 := ⟨k - 2, by omega⟩
    have hlt : m < l.length := by omega
    have hn := nx_lt hlt
    have e1 : ∀ j : Nat, rd_T25 l (j : Int) = Pt l j := fun _ => rfl
    obtain ⟨e, he, hz⟩ := check_l2 l hl hok i hi R K hnext d (k + 1) (m + 1) (by omega) (by omega) (by omega) (by omega)
    have hstep : C2 l i m ↔ (nx l.length m ≠ i → cmn (Pt l i) (Pt l (i + 1)) (Pt l m) (Pt l (nx l.length m)) = false) ∧ C2 l i (m + 1) := by
      refine ⟨fun h => ⟨fun g => h m (Nat.le_refl _) hlt g, fun j h1 h2 => h j (by omega) h2⟩, fun h j h1 h2 h3 => ?_⟩
      by_cases hj : j = m
      · subst hj; exact h.1 h3
      · exact h.2 j (by omega) h2 h3
    rw [polygon_Check.l2, if_pos (by omega), if_neg (by omega), w64 (x := (m : Int) + 1) (by omega) (by omega), md_nx hlt, show ((m : Int) + 1) = ((m + 1 : Nat) : Int) by omega, he]
    by_cases c : nx l.length m = i
    · rw [if_pos (by omega)]
      exact ⟨e, rfl, by rw [hz, hstep]; exact ⟨fun h => ⟨⟨fun g => absurd c g, h.1⟩, h.2⟩, fun h => ⟨h.1.2, h.2⟩⟩⟩
    · rw [if_neg (by omega), if_pos (by omega), if_pos (by omega), w64 (x := (i : Int) + 1) (by omega) (by omega), if_pos (by omega), if_pos (by omega), if_pos (by omega), if_pos (by omega), if_pos (by omega), if_pos (by omega), show ((i : Int) + 1) = ((i + 1 : Nat) : Int) by omega, e1, e1, e1, e1,
        common_p k (hok i hi) (hok (i + 1) (by omega)) (hok m hlt) (hok _ hn), Option.bind_some]
      by_cases cc : cmn (Pt l i) (Pt l (i + 1)) (Pt l m) (Pt l (nx l.length m)) = true
      · rw [if_pos cc]
        exact ⟨3, rfl, ⟨fun h => by omega, fun h => by rw [(hstep.1 h.1).1 c] at cc; cases cc⟩⟩
      · rw [if_neg cc]
        exact ⟨e, rfl, by rw [hz, hstep]; exact ⟨fun h => ⟨⟨fun _ => by simpa using cc, h.1⟩, h.2⟩, fun h => ⟨h.1.2, h.2⟩⟩⟩
theorem check_l1 (l : List S25) (hl : l.length ≤ 16) (hl3 : 3 ≤ l.length) (hok : ∀ i, i < l.length → Okp (Pt l i)) :
    ∀ (d k i : Nat), i + d = l.length → d * 22 + 20 ≤ k → ∃ e, polygon_Check.l1 k l (l.length : Int) (l.length : Int) (i : Int) = some e ∧ (e = 0 ↔ C1 l i ∧ 0 < dblS l l.length 0)
  | 0, k, i, hi, hk => by
    obtain ⟨k, rfl⟩ : ∃ q, k = q + 1 := ⟨k - 1, by omega⟩
    have hd : polygon_double.l0 k l 0 l (l.length : Int) 0 = some (0 + dblS l l.length 0) := double_l l hl hok l.length k 0 0 (by omega) (by omega) (by omega) (by omega)
    rw [polygon_Check.l1, if_neg (by omega), polygon_double.f, hd, Option.bind_some, Int.zero_add]
    by_cases c : dblS l l.length 0 ≤ 0
    · rw [if_pos c]; exact ⟨3, rfl, ⟨fun h => by omega, fun h => by omega⟩⟩
    · rw [if_neg c]; exact ⟨0, rfl, ⟨fun _ => ⟨fun j h1 h2 => by omega, by omega⟩, fun _ => rfl⟩⟩
  | d + 1, k, i, hi, hk => by
    obtain ⟨k, rfl⟩ : ∃ q, k = q + 1 := ⟨k - 1, by omega⟩
    have hlt : i < l.length := by omega
    have hn := nx_lt hlt
    have hn2 := nx2_lt hlt (by omega)
    have e1 : ∀ j : Nat, rd_T25 l (j : Int) = Pt l j := fun _ => rfl
    have ht : plane_Turn.f (Pt l i).f0 (Pt l i).f1 (Pt l (nx l.length i)).f0 (Pt l (nx l.length i)).f1 (Pt l (nx2 l.length i)).f0 (Pt l (nx2 l.length i)).f1 = some (sg (Xp (Pt l i) (Pt l (nx l.length i)) (Pt l (nx2 l.length i)))) := turn_ok (hok i hlt) (hok _ hn) (hok _ hn2)
    have hstep : C1 l i ↔ (Xp (Pt l i) (Pt l (nx l.length i)) (Pt l (nx2 l.length i)) ≠ 0 ∧ C2 l i (i + 2)) ∧ C1 l (i + 1) := by
      refine ⟨fun h => ⟨h i (Nat.le_refl _) hlt, fun j h1 h2 => h j (by omega) h2⟩, fun h j h1 h2 => ?_⟩
      by_cases hj : j = i
      · subst hj; exact h.1
      · exact h.2 j (by omega) h2
    rw [polygon_Check.l1, if_pos (by omega), if_pos (by omega), if_pos (by omega), if_neg (by omega), w64 (x := (i : Int) + 1) (by omega) (by omega), w64 (x := (i : Int) + 2) (by omega) (by omega), md_nx hlt, md_nx2 hlt (by omega), if_pos (by omega), if_pos (by omega), if_pos (by omega), if_pos (by omega), e1, e1, e1, ht, Option.bind_some, show ((i : Int) + 2) = ((i + 2 : Nat) : Int) by omega]
    by_cases c : Xp (Pt l i) (Pt l (nx l.length i)) (Pt l (nx2 l.length i)) = 0
    · rw [if_pos ((sg_zero _).2 c)]
      exact ⟨3, rfl, ⟨fun h => by omega, fun h => absurd c (hstep.1 h.1).1.1⟩⟩
    · rw [if_neg (fun h => c ((sg_zero _).1 h))]
      obtain ⟨e, he, hz⟩ := check_l2 l hl hok i hlt (C1 l (i + 1) ∧ 0 < dblS l l.length 0) (d * 22 + 20) (fun k hk => check_l1 l hl hl3 hok d k (i + 1) (by omega) hk) (l.length - (i + 2)) k (i + 2) (by omega) (by omega) rfl (by omega)
      exact ⟨e, he, by rw [hz, hstep]; exact ⟨fun h => ⟨⟨⟨c, h.1⟩, h.2.1⟩, h.2.2⟩, fun h => ⟨h.1.1.2, h.1.2, h.2⟩⟩⟩
theorem check_l0 (l : List S25) (hl : l.length ≤ 16) (hl3 : 3 ≤ l.length) :
    ∀ (d k i : Nat), i + d = l.length → d + 400 ≤ k → (∀ j, j < i → Okp (Pt l j)) → ∃ e, polygon_Check.l0 k l l (l.length : Int) (i : Int) = some e ∧ (e = 0 ↔ (∀ j, j < l.length → Okp (Pt l j)) ∧ C1 l 0 ∧ 0 < dblS l l.length 0)
  | 0, k, i, hi, hk, hj => by
    obtain ⟨k, rfl⟩ : ∃ q, k = q + 1 := ⟨k - 1, by omega⟩
    have hok : ∀ j, j < l.length → Okp (Pt l j) := fun j h => hj j (by omega)
    rw [polygon_Check.l0, if_neg (by omega)]
    obtain ⟨e, he, hz⟩ := check_l1 l hl hl3 hok l.length k 0 (by omega) (by omega)
    exact ⟨e, he, hz.trans ⟨fun h => ⟨hok, h⟩, fun h => h.2⟩⟩
  | d + 1, k, i, hi, hk, hj => by
    obtain ⟨k, rfl⟩ : ∃ q, k = q + 1 := ⟨k - 1, by omega⟩
    have hlt : i < l.length := by omega
    have e1 : ∀ j : Nat, rd_T25 l (j : Int) = Pt l j := fun _ => rfl
    rw [polygon_Check.l0, if_pos (by omega), if_pos (by omega), if_pos (by omega), e1, check_f, Option.bind_some]
    by_cases c : Ok (Pt l i).f0 (Pt l i).f1
    · rw [if_pos c, if_pos rfl, w64 (by omega) (by omega), show ((i : Int) + 1) = ((i + 1 : Nat) : Int) by omega]
      exact check_l0 l hl hl3 d k (i + 1) (by omega) (by omega) (fun j h => by
        by_cases g : j = i
        · subst g; exact c
        · exact hj j (by omega))
    · rw [if_neg c, if_neg (by decide)]
      exact ⟨4, rfl, ⟨fun h => by omega, fun h => absurd (h.1 i hlt) c⟩⟩
/-- A valid polygon. -/
def Valid (l : List S25) : Prop := (3 ≤ l.length ∧ l.length ≤ 16) ∧ (∀ j, j < l.length → Okp (Pt l j)) ∧ C1 l 0 ∧ 0 < dblS l l.length 0
theorem pcheck (l : List S25) : ∃ e, (∀ k, 420 ≤ k → polygon_Check.f k l = some e) ∧ (e = 0 ↔ Valid l) := by
  have main : ∃ e, polygon_Check.f 420 l = some e ∧ (e = 0 ↔ Valid l) := by
    unfold polygon_Check.f
    by_cases h1 : (l.length : Int) > 16
    · rw [if_pos h1]; exact ⟨2, rfl, ⟨fun h => by omega, fun h => by have := h.1.2; omega⟩⟩
    · rw [if_neg h1]
      by_cases h2 : (l.length : Int) < 3
      · rw [if_pos h2]; exact ⟨3, rfl, ⟨fun h => by omega, fun h => by have := h.1.1; omega⟩⟩
      · rw [if_neg h2]
        obtain ⟨e, he, hz⟩ := check_l0 l (by omega) (by omega) l.length 420 0 (by omega) (by omega) (fun j h => by omega)
        exact ⟨e, he, hz.trans ⟨fun h => ⟨⟨by omega, by omega⟩, h⟩, fun h => h.2⟩⟩
  obtain ⟨e, he, hz⟩ := main
  exact ⟨e, fun k hk => at_rounds (fun k => polygon_Check.mono l k) hk he, hz⟩
/-- A point on an edge. -/
def onE (l : List S25) (x y : Int) (i : Nat) : Bool := decide (X (Pt l (pv l.length i)).f0 (Pt l (pv l.length i)).f1 (Pt l i).f0 (Pt l i).f1 x y = 0) && decide (Dt (Pt l (pv l.length i)).f0 (Pt l (pv l.length i)).f1 (Pt l i).f0 (Pt l i).f1 x y ≤ 0)
/-- Whether the ray from a point crosses an edge. -/
def crossE (a b : S25) (x y : Int) : Bool := (decide (a.f1 ≤ y ∧ y < b.f1) && decide (X a.f0 a.f1 b.f0 b.f1 x y > 0)) || (decide (b.f1 ≤ y ∧ y < a.f1) && decide (X a.f0 a.f1 b.f0 b.f1 x y < 0))
def locS (l : List S25) (x y : Int) : Nat → Nat → Int → Int
  | 0, _, v => v
  | d + 1, i, v => if onE l x y i = true then 0 else locS l x y d (i + 1) (if crossE (Pt l (pv l.length i)) (Pt l i) x y = true then -v else v)
theorem sg_pos (x : Int) : sg x > 0 ↔ x > 0 := by unfold sg; (repeat' split) <;> omega
theorem sg_lt (x : Int) : sg x < 0 ↔ x < 0 := by unfold sg; (repeat' split) <;> omega
theorem loc_j1 (k : Nat) (l l' : List S25) (v t n i x y bx b_y ax ay : Int) (hv : wrap64 (-v) = -v) : polygon_locate.j1 (k + 1) l v t l' n i false x y bx b_y ax ay =
    if (decide (ay ≤ y ∧ y < b_y) && decide (t > 0)) || (decide (b_y ≤ y ∧ y < ay) && decide (t < 0)) then polygon_locate.l0 k l (-v) l' n (wrap64 (i + 1)) x y else polygon_locate.l0 k l v l' n (wrap64 (i + 1)) x y := by
  rw [polygon_locate.j1, if_neg (by decide), hv]
  by_cases c1 : ay ≤ y <;> by_cases c2 : y < b_y <;> by_cases c3 : t > 0 <;> by_cases c4 : b_y ≤ y <;> by_cases c5 : y < ay <;> by_cases c6 : t < 0 <;> simp [c1, c2, c3, c4, c5, c6] <;> omega
theorem locate_l (l : List S25) (hl : l.length ≤ 16) (hok : ∀ i, i < l.length → Okp (Pt l i)) {x y : Int} (hq : Ok x y) : ∀ (d k i : Nat) (v : Int), i + d = l.length → 2 * d < k → -1 ≤ v → v ≤ 1 →
    polygon_locate.l0 k l v l (l.length : Int) (i : Int) x y = some (locS l x y d i v)
  | 0, k, i, v, hi, hk, h1, h2 => by
    obtain ⟨k, rfl⟩ : ∃ m, k = m + 1 := ⟨k - 1, by omega⟩
    rw [polygon_locate.l0, if_neg (by omega), locS]
  | d + 1, k, i, v, hi, hk, h1, h2 => by
    obtain ⟨k, rfl⟩ : ∃ m, k = m + 2 := ⟨k - 2, by omega⟩
    have hlt : i < l.length := by omega
    have hn := pv_lt hlt
    have e1 : ∀ j : Nat, rd_T25 l (j : Int) = Pt l j := fun _ => rfl
    have ht := turn_ok (hok _ hn) (hok i hlt) hq
    have ho := on_f (hok _ hn) (hok i hlt) hq
    rw [polygon_locate.l0, if_pos (by omega), if_pos (by omega), if_pos (by omega), if_neg (by omega), w64 (x := (i : Int) + (l.length : Int)) (by omega) (by omega), w64 (x := (i : Int) + (l.length : Int) - 1) (by omega) (by omega), md_pv hlt, if_pos (by omega), if_pos (by omega), e1, e1, ht, Option.bind_some, locS]
    have step : ∀ b : Bool, (b = false) → polygon_locate.j1 (k + 1) l v (sg (X (Pt l (pv l.length i)).f0 (Pt l (pv l.length i)).f1 (Pt l i).f0 (Pt l i).f1 x y)) l (l.length : Int) (i : Int) b x y (Pt l i).f0 (Pt l i).f1 (Pt l (pv l.length i)).f0 (Pt l (pv l.length i)).f1 = some (locS l x y d (i + 1) (if crossE (Pt l (pv l.length i)) (Pt l i) x y = true then -v else v)) := by
      intro b hb
      subst hb
      have hc : ((decide ((Pt l (pv l.length i)).f1 ≤ y ∧ y < (Pt l i).f1) && decide (sg (X (Pt l (pv l.length i)).f0 (Pt l (pv l.length i)).f1 (Pt l i).f0 (Pt l i).f1 x y) > 0)) || (decide ((Pt l i).f1 ≤ y ∧ y < (Pt l (pv l.length i)).f1) && decide (sg (X (Pt l (pv l.length i)).f0 (Pt l (pv l.length i)).f1 (Pt l i).f0 (Pt l i).f1 x y) < 0))) = crossE (Pt l (pv l.length i)) (Pt l i) x y := by
        unfold crossE
        rw [decide_eq_decide.2 (sg_pos _), decide_eq_decide.2 (sg_lt _)]
      rw [loc_j1 _ _ _ _ _ _ _ _ _ _ _ _ _ (w64 (by omega) (by omega)), hc, w64 (x := (i : Int) + 1) (by omega) (by omega), show ((i : Int) + 1) = ((i + 1 : Nat) : Int) by omega]
      by_cases c : crossE (Pt l (pv l.length i)) (Pt l i) x y = true
      · rw [if_pos c, if_pos c, locate_l l hl hok hq d k (i + 1) (-v) (by omega) (by omega) (by omega) (by omega)]
      · rw [if_neg c, if_neg c, locate_l l hl hok hq d k (i + 1) v (by omega) (by omega) (by omega) (by omega)]
    by_cases c : X (Pt l (pv l.length i)).f0 (Pt l (pv l.length i)).f1 (Pt l i).f0 (Pt l i).f1 x y = 0
    · rw [if_pos ((sg_zero _).2 c), ho, Option.bind_some]
      by_cases c2 : Dt (Pt l (pv l.length i)).f0 (Pt l (pv l.length i)).f1 (Pt l i).f0 (Pt l i).f1 x y ≤ 0
      · have hE : onE l x y i = true := by unfold onE; rw [decide_eq_true c, decide_eq_true c2]; rfl
        rw [if_pos hE, decide_eq_true c2, polygon_locate.j1, if_pos rfl]
      · have hE : ¬ onE l x y i = true := by unfold onE; rw [decide_eq_false c2]; simp
        rw [if_neg hE]
        exact step _ (decide_eq_false c2)
    · have hE : ¬ onE l x y i = true := by unfold onE; rw [decide_eq_false c]; simp
      rw [if_neg hE, if_neg (fun h => c ((sg_zero _).1 h))]
      exact step _ rfl
def loc (l : List S25) (x y : Int) : Int := locS l x y l.length 0 (-1)
theorem locate_f (l : List S25) (hl : l.length ≤ 16) (hok : ∀ i, i < l.length → Okp (Pt l i)) {x y : Int} (hq : Ok x y) (k : Nat) (hk : 40 ≤ k) : polygon_locate.f k l x y = some (loc l x y) := by
  unfold polygon_locate.f loc
  exact locate_l l hl hok hq l.length k 0 (-1) (by omega) (by omega) (by omega) (by omega)
theorem locS_on (l : List S25) (x y : Int) : ∀ (d i j : Nat) (v : Int), i ≤ j → j < i + d → onE l x y j = true → locS l x y d i v = 0
  | 0, i, j, v, h1, h2, h => by omega
  | d + 1, i, j, v, h1, h2, h => by
    rw [locS]
    by_cases c : onE l x y i = true
    · rw [if_pos c]
    · rw [if_neg c]
      have : i ≠ j := fun e => c (e ▸ h)
      exact locS_on l x y d (i + 1) j _ (by omega) (by omega) h
theorem loc_on (l : List S25) {x y : Int} {j : Nat} (hj : j < l.length) (h : onE l x y j = true) : loc l x y = 0 := locS_on l x y l.length 0 j (-1) (by omega) (by omega) h
abbrev Sp := S58
def spOk (x : Sp) : Prop := 0 ≤ x.f0 ∧ x.f1 ≤ 200000 ∧ x.f0 < x.f1
instance (x : Sp) : Decidable (spOk x) := inferInstanceAs (Decidable (_ ∧ _ ∧ _))
def LOk (l : List Sp) : Prop := l.length ≤ 256 ∧ ∀ x ∈ l, spOk x
theorem rdS {l : List Sp} {i : Nat} (h : i < l.length) : rd_T58 l (i : Int) = l[i] := by
  unfold rd_T58
  rw [Int.toNat_natCast, List.getD_eq_getElem?_getD, List.getElem?_eq_getElem h]
  rfl
theorem chk_l (l : List Sp) (hl : l.length ≤ 256) : ∀ (d k i : Nat), i + d = l.length → d < k →
    ∃ e, volume_CheckSpans.l0 k l (l.length : Int) (i : Int) = some e ∧ (e = 0 ↔ ∀ x ∈ l.drop i, spOk x)
  | 0, k, i, hi, hk => by
    obtain ⟨k, rfl⟩ : ∃ m, k = m + 1 := ⟨k - 1, by omega⟩
    refine ⟨0, by rw [volume_CheckSpans.l0, if_neg (by omega)], fun _ => ?_, fun _ => rfl⟩
    rw [List.drop_of_length_le (by omega)]
    intro x hx; cases hx
  | d + 1, k, i, hi, hk => by
    obtain ⟨k, rfl⟩ : ∃ m, k = m + 1 := ⟨k - 1, by omega⟩
    have hlt : i < l.length := by omega
    obtain ⟨e, he, hz⟩ := chk_l l hl d k (i + 1) (by omega) (by omega)
    rw [volume_CheckSpans.l0, if_pos (by omega), if_pos (by omega), if_pos (by omega), rdS hlt, List.drop_eq_getElem_cons hlt]
    have no : ¬ spOk l[i] → ((12 : Int) = 0 ↔ ∀ x ∈ l[i] :: l.drop (i + 1), spOk x) := fun h => ⟨fun h2 => by omega, fun h2 => absurd (h2 _ List.mem_cons_self) h⟩
    by_cases c1 : l[i].f0 < 0
    · rw [if_pos c1]
      exact ⟨12, rfl, no (fun h => by have := h.1; omega)⟩
    rw [if_neg c1]
    by_cases c2 : l[i].f1 > 200000
    · rw [if_pos c2]
      exact ⟨12, rfl, no (fun h => by have := h.2.1; omega)⟩
    rw [if_neg c2]
    by_cases c3 : l[i].f0 ≥ l[i].f1
    · rw [if_pos c3]
      exact ⟨12, rfl, no (fun h => by have := h.2.2; omega)⟩
    rw [if_neg c3, w64 (x := (i : Int) + 1) (by omega) (by omega), show ((i : Int) + 1) = ((i + 1 : Nat) : Int) by omega]
    refine ⟨e, he, hz.trans ⟨fun h x hx => ?_, fun h x hx => h x (List.mem_cons_of_mem _ hx)⟩⟩
    rcases List.mem_cons.1 hx with rfl | hx
    · exact ⟨by omega, by omega, by omega⟩
    · exact h x hx
theorem chk (l : List Sp) (k : Nat) (hk : 300 ≤ k) : ∃ e, volume_CheckSpans.f k l = some e ∧ (e = 0 ↔ LOk l) := by
  unfold volume_CheckSpans.f
  by_cases c : (l.length : Int) > 256
  · rw [if_pos c]
    exact ⟨2, rfl, fun h => by omega, fun h => by have := h.1; omega⟩
  · rw [if_neg c]
    obtain ⟨e, he, hz⟩ := chk_l l (by omega) l.length k 0 (by omega) (by omega)
    rw [List.drop_zero] at hz
    exact ⟨e, he, fun h => ⟨by omega, hz.1 h⟩, fun h => hz.2 h.2⟩
/-- The merging of what is sorted: o is done, p is the last one. -/
def mg (o : List Sp) (p : Sp) : List Sp → List Sp
  | [] => o ++ [p]
  | s :: r => if s.f0 ≤ p.f1 then mg o ⟨p.f0, mx p.f1 s.f1⟩ r else mg (o ++ [p]) s r
theorem lastS (o : List Sp) (p : Sp) (h : (o ++ [p]).length < 1000000) : wrap64 (((o ++ [p]).length : Int) - 1) = (o.length : Int) ∧ rd_T58 (o ++ [p]) (o.length : Int) = p := by
  have e : (o ++ [p]).length = o.length + 1 := by rw [List.length_append]; rfl
  refine ⟨by rw [e, w64 (by omega) (by omega)]; omega, ?_⟩
  rw [rdS (by omega), List.getElem_append_right (Nat.le_refl _)]
  simp
theorem union_l (xs : List Sp) (hx : xs.length ≤ 256) : ∀ (d k i : Nat) (o : List Sp) (p : Sp), i + d = xs.length → d < k → o.length + 1 ≤ i →
    volume_Union.l0 k (o ++ [p]) xs (xs.length : Int) (i : Int) = some (mg o p (xs.drop i), 0)
  | 0, k, i, o, p, hi, hk, ho => by
    obtain ⟨k, rfl⟩ : ∃ m, k = m + 1 := ⟨k - 1, by omega⟩
    rw [volume_Union.l0, if_neg (by omega), List.drop_of_length_le (by omega), mg]
  | d + 1, k, i, o, p, hi, hk, ho => by
    obtain ⟨k, rfl⟩ : ∃ m, k = m + 1 := ⟨k - 1, by omega⟩
    have hlt : i < xs.length := by omega
    have e : (o ++ [p]).length = o.length + 1 := by rw [List.length_append]; rfl
    obtain ⟨e1, e2⟩ := lastS o p (by omega)
    rw [volume_Union.l0, if_pos (by omega), if_pos (by omega), if_pos (by omega), if_pos (show ((o ++ [p]).length : Int) > 0 by omega), e1, if_pos (by omega), if_pos (by omega), e2, rdS hlt, List.drop_eq_getElem_cons hlt, mg,
      w64 (x := (i : Int) + 1) (by omega) (by omega), show ((i : Int) + 1) = ((i + 1 : Nat) : Int) by omega]
    by_cases c : xs[i].f0 ≤ p.f1
    · rw [if_pos c, if_pos c, Int.toNat_natCast, List.set_append_right _ _ (Nat.le_refl _), Nat.sub_self, List.set_cons_zero]
      exact union_l xs hx d k (i + 1) o _ (by omega) (by omega) (by omega)
    · rw [if_neg c, if_neg c, if_pos (by omega)]
      exact union_l xs hx d k (i + 1) (o ++ [p]) _ (by omega) (by omega) (by omega)
def cov (t : Int) (l : List Sp) : Prop := ∃ x ∈ l, x.f0 ≤ t ∧ t < x.f1
def Apt (l : List Sp) : Prop := l.Pairwise fun a b => a.f1 < b.f0
theorem mg_spec : ∀ (r o : List Sp) (p : Sp), Apt (o ++ [p]) → (∀ x ∈ o ++ [p], spOk x) → (∀ x ∈ r, spOk x ∧ p.f0 ≤ x.f0) → r.Pairwise (fun x y => x.f0 ≤ y.f0) →
    Apt (mg o p r) ∧ (∀ x ∈ mg o p r, spOk x) ∧ (∀ t, cov t (mg o p r) ↔ cov t (o ++ [p]) ∨ cov t r) ∧ (mg o p r).length ≤ o.length + 1 + r.length
  | [], o, p, h1, h2, h3, h4 => by
    rw [mg]
    refine ⟨h1, h2, fun t => ⟨fun h => .inl h, fun h => h.elim id (fun ⟨x, hx, _⟩ => by cases hx)⟩, by rw [List.length_append]; simp⟩
  | s :: r, o, p, h1, h2, h3, h4 => by
    obtain ⟨so, ps⟩ := h3 s List.mem_cons_self
    have po := h2 p (by simp)
    obtain ⟨h4a, h4b⟩ := List.pairwise_cons.1 h4
    unfold Apt at h1
    rw [List.pairwise_append] at h1
    obtain ⟨ha, hb, hc⟩ := h1
    rw [mg]
    by_cases c : s.f0 ≤ p.f1
    · rw [if_pos c]
      have hm : p.f1 ≤ mx p.f1 s.f1 ∧ s.f1 ≤ mx p.f1 s.f1 ∧ (mx p.f1 s.f1 = p.f1 ∨ mx p.f1 s.f1 = s.f1) := by unfold mx; split <;> omega
      obtain ⟨p1, p2, p3⟩ := po
      obtain ⟨s1, s2, s3⟩ := so
      have np : spOk ⟨p.f0, mx p.f1 s.f1⟩ := ⟨p1, by show mx p.f1 s.f1 ≤ 200000; omega, by show p.f0 < mx p.f1 s.f1; omega⟩
      obtain ⟨g1, g2, g3, g4⟩ := mg_spec r o ⟨p.f0, mx p.f1 s.f1⟩
        (by unfold Apt; rw [List.pairwise_append]; refine ⟨ha, List.pairwise_singleton _ _, fun a h b hb => ?_⟩; obtain rfl := List.mem_singleton.1 hb; exact hc a h p (by simp))
        (by intro x hx; rcases List.mem_append.1 hx with hx | hx; exact h2 x (List.mem_append_left _ hx); obtain rfl := List.mem_singleton.1 hx; exact np)
        (fun x hx => h3 x (List.mem_cons_of_mem _ hx)) h4b
      refine ⟨g1, g2, fun t => (g3 t).trans ⟨?_, ?_⟩, by rw [List.length_cons]; omega⟩
      · rintro (⟨x, hx, t1, t2⟩ | ⟨x, hx, t1, t2⟩)
        · rcases List.mem_append.1 hx with hx | hx
          · exact .inl ⟨x, List.mem_append_left _ hx, t1, t2⟩
          · obtain rfl := List.mem_singleton.1 hx
            dsimp only at t1 t2
            by_cases ct : t < p.f1
            · exact .inl ⟨p, by simp, t1, ct⟩
            · exact .inr ⟨s, List.mem_cons_self, by omega, by omega⟩
        · exact .inr ⟨x, List.mem_cons_of_mem _ hx, t1, t2⟩
      · rintro (⟨x, hx, t1, t2⟩ | ⟨x, hx, t1, t2⟩)
        · rcases List.mem_append.1 hx with hx | hx
          · exact .inl ⟨x, List.mem_append_left _ hx, t1, t2⟩
          · obtain rfl := List.mem_singleton.1 hx
            exact .inl ⟨⟨x.f0, mx x.f1 s.f1⟩, by simp, t1, by show t < mx x.f1 s.f1; omega⟩
        · rcases List.mem_cons.1 hx with rfl | hx
          · exact .inl ⟨⟨p.f0, mx p.f1 x.f1⟩, by simp, by show p.f0 ≤ t; omega, by show t < mx p.f1 x.f1; omega⟩
          · exact .inr ⟨x, hx, t1, t2⟩
    · rw [if_neg c]
      obtain ⟨g1, g2, g3, g4⟩ := mg_spec r (o ++ [p]) s
        (by
          unfold Apt; rw [List.pairwise_append]; refine ⟨by rw [List.pairwise_append]; exact ⟨ha, hb, hc⟩, List.pairwise_singleton _ _, fun a h b hb => ?_⟩
          obtain rfl := List.mem_singleton.1 hb
          rcases List.mem_append.1 h with h | h
          · have := hc a h p (by simp); have := po.2.2; omega
          · obtain rfl := List.mem_singleton.1 h; omega)
        (by intro x hx; rcases List.mem_append.1 hx with hx | hx; exact h2 x hx; obtain rfl := List.mem_singleton.1 hx; exact so)
        (fun x hx => ⟨(h3 x (List.mem_cons_of_mem _ hx)).1, h4a x hx⟩) h4b
      refine ⟨g1, g2, fun t => (g3 t).trans ⟨?_, ?_⟩, by rw [List.length_append] at g4; rw [List.length_cons]; simp at g4; omega⟩
      · rintro (⟨x, hx, t1, t2⟩ | ⟨x, hx, t1, t2⟩)
        · rcases List.mem_append.1 hx with hx | hx
          · exact .inl ⟨x, hx, t1, t2⟩
          · obtain rfl := List.mem_singleton.1 hx
            exact .inr ⟨x, List.mem_cons_self, t1, t2⟩
        · exact .inr ⟨x, List.mem_cons_of_mem _ hx, t1, t2⟩
      · rintro (⟨x, hx, t1, t2⟩ | ⟨x, hx, t1, t2⟩)
        · exact .inl ⟨x, List.mem_append_left _ hx, t1, t2⟩
        · rcases List.mem_cons.1 hx with rfl | hx
          · exact .inl ⟨x, by simp, t1, t2⟩
          · exact .inr ⟨x, hx, t1, t2⟩
theorem okAll_of {l : List Sp} (h : LOk l) : okAll l = true := by
  unfold okAll
  rw [Bool.and_eq_true]
  refine ⟨decide_eq_true (by have := h.1; omega), List.all_eq_true.2 fun x hx => decide_eq_true ?_⟩
  obtain ⟨a, b, c⟩ := h.2 x hx
  exact ⟨a, by omega⟩
def joinS : List Sp → List Sp
  | [] => []
  | s :: r => mg [] s r
theorem union_f (l : List Sp) (k : Nat) (hk : 300 ≤ k) (h : LOk l) : volume_Union.f k l = some (joinS (sortedS l (okAll_of h)), 0) := by
  obtain ⟨e, he, hz⟩ := chk l k hk
  obtain rfl : e = 0 := hz.2 h
  have hl := h.1
  have hs := sortedS_length l (okAll_of h)
  unfold volume_Union.f
  rw [he, Option.bind_some, if_pos rfl]
  unfold api_Span_60.f api_Span_61.f
  rw [Option.bind_some, if_pos (by simp; omega), Option.bind_some, List.nil_append, dif_pos (okAll_of h), Option.bind_some]
  rw [← hs]
  generalize sortedS l (okAll_of h) = m at hs
  obtain ⟨k, rfl⟩ : ∃ q, k = q + 1 := ⟨k - 1, by omega⟩
  cases m with
  | nil => rw [volume_Union.l0]; rfl
  | cons s r =>
    have e0 : rd_T58 (s :: r) 0 = s := rfl
    rw [List.length_cons] at hs
    rw [volume_Union.l0, if_pos (by rw [List.length_cons]; omega), if_pos (by omega), if_pos (by rw [List.length_cons]; omega), if_neg (by simp), if_pos (by simp), e0, w64 (by omega) (by omega), List.nil_append]
    exact union_l (s :: r) (by rw [List.length_cons]; omega) r.length k 1 [] s (by rw [List.length_cons]; omega) (by omega) (by simp)
theorem union_ok (l : List Sp) (k : Nat) (hk : 300 ≤ k) (h : LOk l) : ∃ u, volume_Union.f k l = some (u, 0) ∧ Apt u ∧ (∀ x ∈ u, spOk x) ∧ (∀ t, cov t u ↔ cov t l) ∧ u.length ≤ 256 := by
  refine ⟨_, union_f l k hk h, ?_⟩
  have hp := sortedS_perm l (okAll_of h)
  have hs := sortedS_sorted l (okAll_of h)
  have hl := h.1
  rw [← hp.length_eq] at hl
  have hm : ∀ t, cov t (sortedS l (okAll_of h)) ↔ cov t l := fun t => ⟨fun ⟨x, hx, g⟩ => ⟨x, hp.mem_iff.1 hx, g⟩, fun ⟨x, hx, g⟩ => ⟨x, hp.mem_iff.2 hx, g⟩⟩
  have ho : ∀ x ∈ sortedS l (okAll_of h), spOk x := fun x hx => h.2 x (hp.mem_iff.1 hx)
  generalize sortedS l (okAll_of h) = m at hp hs hl hm ho
  cases m with
  | nil => exact ⟨List.Pairwise.nil, fun x hx => (by cases hx), hm, by simp [joinS]⟩
  | cons s r =>
    obtain ⟨sa, sb⟩ := List.pairwise_cons.1 hs
    obtain ⟨g1, g2, g3, g4⟩ := mg_spec r [] s (List.pairwise_singleton _ _) (fun x hx => by obtain rfl := List.mem_singleton.1 hx; exact ho x List.mem_cons_self) (fun x hx => ⟨ho x (List.mem_cons_of_mem _ hx), sa x hx⟩) sb
    refine ⟨g1, g2, fun t => (g3 t).trans (Iff.trans ⟨?_, ?_⟩ (hm t)), by rw [List.length_cons] at hl; show (mg [] s r).length ≤ 256; rw [List.length_nil] at g4; omega⟩
    · rintro (⟨x, hx, g⟩ | ⟨x, hx, g⟩)
      · obtain rfl := List.mem_singleton.1 hx
        exact ⟨x, List.mem_cons_self, g⟩
      · exact ⟨x, List.mem_cons_of_mem _ hx, g⟩
    · rintro ⟨x, hx, g⟩
      rcases List.mem_cons.1 hx with rfl | hx
      · exact .inl ⟨x, by simp, g⟩
      · exact .inr ⟨x, hx, g⟩
theorem union_bad (l : List Sp) (k : Nat) (hk : 300 ≤ k) (h : ¬ LOk l) : ∃ e, e ≠ 0 ∧ volume_Union.f k l = some ([], e) := by
  obtain ⟨e, he, hz⟩ := chk l k hk
  have h0 : e ≠ 0 := fun h0 => h (hz.1 h0)
  refine ⟨e, h0, ?_⟩
  unfold volume_Union.f
  rw [he, Option.bind_some, if_neg h0]
theorem works (k : Nat) (hk : 300 ≤ k) : skywaykeep1_volumeWorks.f k = some true := by
  have hL : LOk [⟨3, 6⟩, ⟨6, 8⟩, ⟨1, 2⟩] := ⟨by simp, by decide⟩
  unfold skywaykeep1_volumeWorks.f
  rw [union_f _ k hk hL]
  have hp := sortedS_perm _ (okAll_of hL)
  have hs := sortedS_sorted _ (okAll_of hL)
  have e : sortedS [⟨3, 6⟩, ⟨6, 8⟩, ⟨1, 2⟩] (okAll_of hL) = [⟨1, 2⟩, ⟨3, 6⟩, ⟨6, 8⟩] := by
    refine List.Perm.eq_of_pairwise (le := fun x y => x.f0 ≤ y.f0) ?_ hs (by decide) (hp.trans (List.perm_append_comm (l₁ := ([⟨3, 6⟩, ⟨6, 8⟩] : List Sp)) (l₂ := ([⟨1, 2⟩] : List Sp))))
    intro a b ha hb h1 h2
    have ha' := hp.mem_iff.1 ha
    simp only [List.mem_cons, List.not_mem_nil, or_false] at ha' hb
    rcases ha' with rfl | rfl | rfl <;> rcases hb with rfl | rfl | rfl <;> first | rfl | (dsimp only at h1 h2; omega)
  rw [e]
  rfl
theorem locate_yes {l : List S25} (h : Valid l) (x y : Int) : polygon_Locate.f 500 l x y = some (if Ok x y then (loc l x y, 0) else (0, 4)) := by
  obtain ⟨e, he, hz⟩ := pcheck l
  unfold polygon_Locate.f
  rw [he 500 (by decide), hz.2 h, Option.bind_some, if_pos rfl, check_f, Option.bind_some]
  by_cases hq : Ok x y
  · rw [if_pos hq, if_pos hq, if_pos rfl, locate_f l h.1.2 h.2.1 hq 500 (by decide), Option.bind_some]
  · rw [if_neg hq, if_neg hq, if_neg (by decide)]
theorem VolumeHas : skywaykeep1_VolumeHas.Pure := by
  intro l lo_ hi_ x y h _ _ _ _ _ _
  refine ⟨500, ?_⟩
  unfold skywaykeep1_VolumeHas.f
  rw [works 500 (by decide), Option.bind_some, if_pos rfl]
  obtain ⟨e, he, hz⟩ := pcheck l
  unfold volume_Has.f volume_Check.f
  rw [he 500 (by decide), Option.bind_some]
  by_cases h0 : e = 0
  · have hv := hz.1 h0
    have hl := locate_yes hv x y
    subst h0
    rw [if_pos rfl]
    by_cases c1 : lo_ < 0
    · rw [if_pos c1]; rfl
    by_cases c2 : hi_ > 60001
    · rw [if_neg c1, if_pos c2]; rfl
    by_cases c3 : lo_ ≥ hi_
    · rw [if_neg c1, if_neg c2, if_pos c3]; rfl
    rw [if_neg c1, if_neg c2, if_neg c3, Option.bind_some, if_pos rfl, check_f, Option.bind_some]
    by_cases hq : Ok x y
    · rw [if_pos hq] at hl ⊢
      rw [if_pos rfl, hl]
      by_cases c4 : h < 0
      · rw [if_pos c4]; rfl
      by_cases c5 : h > 60000
      · rw [if_neg c4, if_pos c5]; rfl
      rw [if_neg c4, if_neg c5, Option.bind_some]
      dsimp only
      by_cases c6 : loc l x y ≥ 0
      · rw [if_pos c6]
        by_cases c7 : h ≥ lo_
        · rw [if_pos c7, Option.bind_some]
          dsimp only
          rw [if_pos rfl, Option.bind_some]
          dsimp only
          rw [if_pos rfl, if_pos c6, if_pos c7]
          simp
        · rw [if_neg c7, Option.bind_some]
          dsimp only
          rw [if_pos rfl, Option.bind_some]
          dsimp only
          rw [if_pos rfl, if_pos c6, if_neg c7]
          rfl
      · rw [if_neg c6, Option.bind_some]
        dsimp only
        rw [if_pos rfl, Option.bind_some]
        dsimp only
        rw [if_pos rfl, if_neg c6]
        rfl
    · rw [if_neg hq, if_neg (by decide)]
      rfl
  · rw [if_neg h0, Option.bind_some, if_neg h0, Option.bind_some]
    dsimp only
    rw [if_neg h0]
    rfl
end Go.Proofs.Yteaddpieonkboaa.Pure
