/- VolumeOverlap: two volumes overlap if their areas overlap and their intervals of heights do; one overlaps itself. -/
import Derived.Test.YthghilclgobpbaaPVolumeOverlapx
import Derived.Test.YthghilclgobpbaaTMath
import Derived.Laws.MathBits
namespace Go.Proofs.Ythghilclgobpbaa.Pure
open Go Go.RowKit Go.Proofs.Ythghilclgobpbaa.PVolumeOverlap Go.Proofs.YthghilclgobpbaaW.PrintWords Go.Proofs.YthghilclgobpbaaW.PrintLast Go.Proofs.YthghilclgobpbaaW.PrintMore Go.Proofs.YthghilclgobpbaaM

/-- A permitted coordinate. -/
def Ok (x y : Int) : Prop := -1000000 ≤ x ∧ x ≤ 1000000 ∧ -1000000 ≤ y ∧ y ≤ 1000000
instance (x y : Int) : Decidable (Ok x y) := inferInstanceAs (Decidable (_ ∧ _))
theorem check_f (x y : Int) : plane_Check.f x y = some (if Ok x y then 0 else 4) := by
  unfold plane_Check.f
  by_cases c : Ok x y
  · rw [if_pos c]
    obtain ⟨c1, c2, c3, c4⟩ := c
    rw [if_neg (by omega), if_neg (by omega), if_neg (by omega), if_neg (by omega)]
  · rw [if_neg c]
    by_cases c1 : x < -1000000
    · rw [if_pos c1]
    · rw [if_neg c1]
      by_cases c2 : x > 1000000
      · rw [if_pos c2]
      · rw [if_neg c2]
        by_cases c3 : y < -1000000
        · rw [if_pos c3]
        · rw [if_neg c3, if_pos (by
            rcases Int.lt_or_le 1000000 y with h | h
            · exact h
            · exact absurd (show Ok x y from ⟨by omega, by omega, by omega, h⟩) c)]
/-- The cross product of b - a and c - a. -/
def X (ax ay bx b_y cx cy : Int) : Int := (bx - ax) * (cy - ay) - (b_y - ay) * (cx - ax)
def sg (x : Int) : Int := if x > 0 then 1 else if x < 0 then -1 else 0
theorem turn {ax ay bx b_y cx cy : Int} (h1 : -2000000000 ≤ bx - ax) (h2 : bx - ax ≤ 2000000000) (h3 : -2000000000 ≤ b_y - ay) (h4 : b_y - ay ≤ 2000000000)
    (h5 : -2000000000 ≤ cx - ax) (h6 : cx - ax ≤ 2000000000) (h7 : -2000000000 ≤ cy - ay) (h8 : cy - ay ≤ 2000000000) :
    plane_Turn.f ax ay bx b_y cx cy = some (sg (X ax ay bx b_y cx cy)) := by
  have m1 := mul_bd h1 h2 h7 h8
  have m2 := mul_bd h3 h4 h5 h6
  unfold plane_Turn.f plane_Sub.f plane_Cross.f X sg
  simp only [Option.bind_some]
  rw [w64 (x := bx - ax) (by omega) (by omega), w64 (x := b_y - ay) (by omega) (by omega), w64 (x := cx - ax) (by omega) (by omega), w64 (x := cy - ay) (by omega) (by omega),
    w64 (x := (bx - ax) * (cy - ay)) (by omega) (by omega), w64 (x := (b_y - ay) * (cx - ax)) (by omega) (by omega), w64 (by omega) (by omega)]
  split
  · rfl
  · split <;> rfl
theorem sg_rng (x : Int) : -1 ≤ sg x ∧ sg x ≤ 1 := by unfold sg; (repeat' split) <;> omega
/-- The scalar product of the ways from a point to two others. -/
def Dt (ax ay bx b_y px py : Int) : Int := (ax - px) * (bx - px) + (ay - py) * (b_y - py)
theorem on_f {ax ay bx b_y px py : Int} (ha : Ok ax ay) (hb : Ok bx b_y) (hp : Ok px py) : polygon_on.f ax ay bx b_y px py = some (decide (Dt ax ay bx b_y px py ≤ 0)) := by
  obtain ⟨a1, a2, a3, a4⟩ := ha
  obtain ⟨b1, b2, b3, b4⟩ := hb
  obtain ⟨p1, p2, p3, p4⟩ := hp
  have m1 := mul_bd (show -2000000 ≤ ax - px by omega) (show ax - px ≤ 2000000 by omega) (show -2000000 ≤ bx - px by omega) (show bx - px ≤ 2000000 by omega)
  have m2 := mul_bd (show -2000000 ≤ ay - py by omega) (show ay - py ≤ 2000000 by omega) (show -2000000 ≤ b_y - py by omega) (show b_y - py ≤ 2000000 by omega)
  unfold polygon_on.f plane_Sub.f plane_Dot.f Dt
  simp only [Option.bind_some]
  rw [w64 (x := ax - px) (by omega) (by omega), w64 (x := ay - py) (by omega) (by omega), w64 (x := bx - px) (by omega) (by omega), w64 (x := b_y - py) (by omega) (by omega),
    w64 (x := (ax - px) * (bx - px)) (by omega) (by omega), w64 (x := (ay - py) * (b_y - py)) (by omega) (by omega), w64 (by omega) (by omega)]
theorem turn_ok {ax ay bx b_y cx cy : Int} (ha : Ok ax ay) (hb : Ok bx b_y) (hc : Ok cx cy) : plane_Turn.f ax ay bx b_y cx cy = some (sg (X ax ay bx b_y cx cy)) := by
  obtain ⟨a1, a2, a3, a4⟩ := ha
  obtain ⟨b1, b2, b3, b4⟩ := hb
  obtain ⟨c1, c2, c3, c4⟩ := hc
  exact turn (by omega) (by omega) (by omega) (by omega) (by omega) (by omega) (by omega) (by omega)
def comB (s t u v : Int) (o1 o2 o3 o4 : Bool) : Bool := (decide (s * t < 0) && decide (u * v < 0)) || (decide (s = 0) && o1) || (decide (t = 0) && o2) || (decide (u = 0) && o3) || (decide (v = 0) && o4)
theorem com_j0 (k : Nat) (s t u v : Int) (x : Bool) {ax ay bx b_y cx cy dx dy : Int} (o1 o2 o3 o4 : Bool)
    (h1 : polygon_on.f ax ay bx b_y cx cy = some o1) (h2 : polygon_on.f ax ay bx b_y dx dy = some o2) (h3 : polygon_on.f cx cy dx dy ax ay = some o3) (h4 : polygon_on.f cx cy dx dy bx b_y = some o4) :
    polygon_Common.j0 (k + 1) s t u v x ax ay bx b_y cx cy dx dy = some (x || (decide (s = 0) && o1) || (decide (t = 0) && o2) || (decide (u = 0) && o3) || (decide (v = 0) && o4)) := by
  rw [polygon_Common.j0, h1, h2, h3, h4]
  simp only [Option.bind_some]
  cases x
  · by_cases c1 : s = 0 <;> by_cases c2 : t = 0 <;> by_cases c3 : u = 0 <;> by_cases c4 : v = 0 <;> cases o1 <;> cases o2 <;> cases o3 <;> cases o4 <;> simp [c1, c2, c3, c4]
  · simp
theorem common_f (k : Nat) {ax ay bx b_y cx cy dx dy : Int} (ha : Ok ax ay) (hb : Ok bx b_y) (hc : Ok cx cy) (hd : Ok dx dy) :
    polygon_Common.f (k + 1) ax ay bx b_y cx cy dx dy = some (comB (sg (X ax ay bx b_y cx cy)) (sg (X ax ay bx b_y dx dy)) (sg (X cx cy dx dy ax ay)) (sg (X cx cy dx dy bx b_y))
      (decide (Dt ax ay bx b_y cx cy ≤ 0)) (decide (Dt ax ay bx b_y dx dy ≤ 0)) (decide (Dt cx cy dx dy ax ay ≤ 0)) (decide (Dt cx cy dx dy bx b_y ≤ 0))) := by
  have r1 := sg_rng (X ax ay bx b_y cx cy)
  have r2 := sg_rng (X ax ay bx b_y dx dy)
  have r3 := sg_rng (X cx cy dx dy ax ay)
  have r4 := sg_rng (X cx cy dx dy bx b_y)
  unfold polygon_Common.f
  rw [turn_ok ha hb hc, turn_ok ha hb hd, turn_ok hc hd ha, turn_ok hc hd hb]
  simp only [Option.bind_some]
  have m1 := mul_bd r1.1 r1.2 r2.1 r2.2
  have m2 := mul_bd r3.1 r3.2 r4.1 r4.2
  rw [w64 (by omega) (by omega), w64 (by omega) (by omega), com_j0 k _ _ _ _ _ _ _ _ _ (on_f ha hb hc) (on_f ha hb hd) (on_f hc hd ha) (on_f hc hd hb), com_j0 k _ _ _ _ _ _ _ _ _ (on_f ha hb hc) (on_f ha hb hd) (on_f hc hd ha) (on_f hc hd hb)]
  unfold comB
  by_cases c : sg (X ax ay bx b_y cx cy) * sg (X ax ay bx b_y dx dy) < 0
  · rw [if_pos c, decide_eq_true c, Bool.true_and]
  · rw [if_neg c, decide_eq_false c, Bool.false_and]
/-- Vertex i. -/
def Pt (l : List S41) (i : Nat) : S41 := rd_T41 l (i : Int)
def Okp (p : S41) : Prop := Ok p.f0 p.f1
def Xp (a b c : S41) : Int := X a.f0 a.f1 b.f0 b.f1 c.f0 c.f1
def crs (a b : S41) : Int := a.f0 * b.f1 - a.f1 * b.f0
def cmn (a b c d : S41) : Bool := comB (sg (Xp a b c)) (sg (Xp a b d)) (sg (Xp c d a)) (sg (Xp c d b)) (decide (Dt a.f0 a.f1 b.f0 b.f1 c.f0 c.f1 ≤ 0)) (decide (Dt a.f0 a.f1 b.f0 b.f1 d.f0 d.f1 ≤ 0)) (decide (Dt c.f0 c.f1 d.f0 d.f1 a.f0 a.f1 ≤ 0)) (decide (Dt c.f0 c.f1 d.f0 d.f1 b.f0 b.f1 ≤ 0))
theorem sg_zero (x : Int) : sg x = 0 ↔ x = 0 := by unfold sg; (repeat' split) <;> omega
def nx (n i : Nat) : Nat := if i + 1 < n then i + 1 else i + 1 - n
def nx2 (n i : Nat) : Nat := if i + 2 < n then i + 2 else i + 2 - n
def pv (n i : Nat) : Nat := if i = 0 then n - 1 else i - 1
theorem nx_lt {n i : Nat} (h : i < n) : nx n i < n := by unfold nx; split <;> omega
theorem nx2_lt {n i : Nat} (h : i < n) (h2 : 2 ≤ n) : nx2 n i < n := by unfold nx2; split <;> omega
theorem pv_lt {n i : Nat} (h : i < n) : pv n i < n := by unfold pv; split <;> omega
theorem md_lt {a n : Int} (h0 : 0 ≤ a) (h : a < n) : Int.tmod a n = a := by rw [Int.tmod_eq_emod_of_nonneg h0, Int.emod_eq_of_lt h0 h]
theorem md_add {a n : Int} (h0 : 0 ≤ a) (h : a < n) : Int.tmod (a + n) n = a := by
  rw [Int.tmod_eq_emod_of_nonneg (by omega)]
  have : (a + n) % n = a % n := by simp
  rw [this, Int.emod_eq_of_lt h0 h]
theorem md_nx {n i : Nat} (h : i < n) : Int.tmod ((i : Int) + 1) (n : Int) = ((nx n i : Nat) : Int) := by
  unfold nx
  split
  · rw [md_lt (by omega) (by omega)]; omega
  · have e : (i : Int) + 1 = ((i + 1 - n : Nat) : Int) + n := by omega
    rw [e, md_add (by omega) (by omega)]
theorem md_nx2 {n i : Nat} (h : i < n) (h2 : 2 ≤ n) : Int.tmod ((i : Int) + 2) (n : Int) = ((nx2 n i : Nat) : Int) := by
  unfold nx2
  split
  · rw [md_lt (by omega) (by omega)]; omega
  · have e : (i : Int) + 2 = ((i + 2 - n : Nat) : Int) + n := by omega
    rw [e, md_add (by omega) (by omega)]
theorem md_pv {n i : Nat} (h : i < n) : Int.tmod ((i : Int) + n - 1) (n : Int) = ((pv n i : Nat) : Int) := by
  unfold pv
  split
  · rw [md_lt (by omega) (by omega)]; omega
  · have e : (i : Int) + n - 1 = ((i - 1 : Nat) : Int) + n := by omega
    rw [e, md_add (by omega) (by omega)]
theorem crs_bd {a b : S41} (ha : Okp a) (hb : Okp b) : -4000000000000 ≤ crs a b ∧ crs a b ≤ 4000000000000 ∧ plane_Cross.f a.f0 a.f1 b.f0 b.f1 = some (crs a b) := by
  obtain ⟨a1, a2, a3, a4⟩ := ha
  obtain ⟨b1, b2, b3, b4⟩ := hb
  have m1 := mul_bd a1 a2 b3 b4
  have m2 := mul_bd a3 a4 b1 b2
  unfold plane_Cross.f crs
  refine ⟨by omega, by omega, ?_⟩
  rw [w64 (x := a.f0 * b.f1) (by omega) (by omega), w64 (x := a.f1 * b.f0) (by omega) (by omega), w64 (by omega) (by omega)]
/-- The cross products from vertex i on, d of them. -/
def dblS (l : List S41) : Nat → Nat → Int
  | 0, _ => 0
  | d + 1, i => crs (Pt l i) (Pt l (nx l.length i)) + dblS l d (i + 1)
theorem double_l (l : List S41) (hl : l.length ≤ 16) (hok : ∀ i, i < l.length → Okp (Pt l i)) (d : Nat) : ∀ (k i : Nat) (a : Int), i + d = l.length → d < k →
    -1000000000000000 + (d : Int) * 4000000000000 ≤ a → a ≤ 1000000000000000 - (d : Int) * 4000000000000 → polygon_double.l0 k l a l (l.length : Int) (i : Int) = some (a + dblS l d i) := by
  induction d with
  | zero =>
    intro k i a hi hk _ _
    obtain ⟨k, rfl⟩ : ∃ m, k = m + 1 := ⟨k - 1, by omega⟩
    rw [polygon_double.l0, if_neg (by omega), dblS, Int.add_zero]
  | succ d ih =>
    intro k i a hi hk h1 h2
    obtain ⟨k, rfl⟩ : ∃ m, k = m + 1 := ⟨k - 1, by omega⟩
    have hlt : i < l.length := by omega
    have hn := nx_lt hlt
    obtain ⟨c1, c2, c3⟩ := crs_bd (hok i hlt) (hok _ hn)
    have e1 : rd_T41 l (i : Int) = Pt l i := rfl
    have e2 : rd_T41 l ((nx l.length i : Nat) : Int) = Pt l (nx l.length i) := rfl
    rw [polygon_double.l0, if_pos (by omega), if_pos (by omega), if_pos (by omega), if_neg (by omega), w64 (x := (i : Int) + 1) (by omega) (by omega), md_nx hlt, if_pos (by omega), if_pos (by omega), e1, e2, c3, Option.bind_some, w64 (x := a + crs (Pt l i) (Pt l (nx l.length i))) (by omega) (by omega),
      show ((i : Int) + 1) = ((i + 1 : Nat) : Int) by omega, ih k (i + 1) _ (by omega) (by omega) (by omega) (by omega), dblS, Int.add_assoc]
theorem common_p (k : Nat) {a b c d : S41} (ha : Okp a) (hb : Okp b) (hc : Okp c) (hd : Okp d) : polygon_Common.f (k + 1) a.f0 a.f1 b.f0 b.f1 c.f0 c.f1 d.f0 d.f1 = some (cmn a b c d) := common_f k ha hb hc hd
/-- Edge i has no point in common with the edges from m on, but for its neighbours. -/
def C2 (l : List S41) (i m : Nat) : Prop := ∀ j, m ≤ j → j < l.length → nx l.length j ≠ i → cmn (Pt l i) (Pt l (i + 1)) (Pt l j) (Pt l (nx l.length j)) = false
def C1 (l : List S41) (i : Nat) : Prop := ∀ i', i ≤ i' → i' < l.length → Xp (Pt l i') (Pt l (nx l.length i')) (Pt l (nx2 l.length i')) ≠ 0 ∧ C2 l i' (i' + 2)
theorem check_l2 (l : List S41) (hl : l.length ≤ 16) (hok : ∀ i, i < l.length → Okp (Pt l i)) (i : Nat) (hi : i < l.length) (R : Prop) (K : Nat)
    (hnext : ∀ k, K ≤ k → ∃ e, polygon_Check.l1 k l (l.length : Int) (l.length : Int) ((i + 1 : Nat) : Int) = some e ∧ (e = 0 ↔ R)) :
    ∀ (d k m : Nat), i + 2 ≤ m → m ≤ 20 → l.length - m = d → K + d + 2 ≤ k → ∃ e, polygon_Check.l2 k l (l.length : Int) (i : Int) (m : Int) (l.length : Int) (i : Int) = some e ∧ (e = 0 ↔ C2 l i m ∧ R)
  | 0, k, m, hm, hm2, hd, hk => by
    obtain ⟨k, rfl⟩ : ∃ q, k = q + 1 := ⟨k - 1, by omega⟩
    rw [polygon_Check.l2, if_neg (by omega), w64 (by omega) (by omega), show ((i : Int) + 1) = ((i + 1 : Nat) : Int) by omega]
    obtain ⟨e, he, hz⟩ := hnext k (by omega)
    exact ⟨e, he, hz.trans ⟨fun h => ⟨fun j h1 h2 => by omega, h⟩, fun h => h.2⟩⟩
  | d + 1, k, m, hm, hm2, hd, hk => by
    obtain ⟨k, rfl⟩ : ∃ q, k = q + 2 := ⟨k - 2, by omega⟩
    have hlt : m < l.length := by omega
    have hn := nx_lt hlt
    have e1 : ∀ j : Nat, rd_T41 l (j : Int) = Pt l j := fun _ => rfl
    obtain ⟨e, he, hz⟩ := check_l2 l hl hok i hi R K hnext d (k + 1) (m + 1) (by omega) (by omega) (by omega) (by omega)
    have hstep : C2 l i m ↔ (nx l.length m ≠ i → cmn (Pt l i) (Pt l (i + 1)) (Pt l m) (Pt l (nx l.length m)) = false) ∧ C2 l i (m + 1) := by
      refine ⟨fun h => ⟨fun g => h m (Nat.le_refl _) hlt g, fun j h1 h2 => h j (by omega) h2⟩, fun h j h1 h2 h3 => ?_⟩
      by_cases hj : j = m
      · subst hj; exact h.1 h3
      · exact h.2 j (by omega) h2 h3
    rw [polygon_Check.l2, if_pos (by omega), if_neg (by omega), w64 (x := (m : Int) + 1) (by omega) (by omega), md_nx hlt, show ((m : Int) + 1) = ((m + 1 : Nat) : Int) by omega, he]
    by_cases c : nx l.length m = i
    · rw [if_pos (by omega)]
      exact ⟨e, rfl, by rw [hz, hstep]; exact ⟨fun h => ⟨⟨fun g => absurd c g, h.1⟩, h.2⟩, fun h => ⟨h.1.2, h.2⟩⟩⟩
    · rw [if_neg (by omega), if_pos (by omega), if_pos (by omega), w64 (x := (i : Int) + 1) (by omega) (by omega), if_pos (by omega), if_pos (by omega), if_pos (by omega), if_pos (by omega), if_pos (by omega), if_pos (by omega), show ((i : Int) + 1) = ((i + 1 : Nat) : Int) by omega, e1, e1, e1, e1,
        common_p k (hok i hi) (hok (i + 1) (by omega)) (hok m hlt) (hok _ hn), Option.bind_some]
      by_cases cc : cmn (Pt l i) (Pt l (i + 1)) (Pt l m) (Pt l (nx l.length m)) = true
      · rw [if_pos cc]
        exact ⟨3, rfl, ⟨fun h => by omega, fun h => by rw [(hstep.1 h.1).1 c] at cc; cases cc⟩⟩
      · rw [if_neg cc]
        exact ⟨e, rfl, by rw [hz, hstep]; exact ⟨fun h => ⟨⟨fun _ => by simpa using cc, h.1⟩, h.2⟩, fun h => ⟨h.1.2, h.2⟩⟩⟩
theorem check_l1 (l : List S41) (hl : l.length ≤ 16) (hl3 : 3 ≤ l.length) (hok : ∀ i, i < l.length → Okp (Pt l i)) :
    ∀ (d k i : Nat), i + d = l.length → d * 22 + 20 ≤ k → ∃ e, polygon_Check.l1 k l (l.length : Int) (l.length : Int) (i : Int) = some e ∧ (e = 0 ↔ C1 l i ∧ 0 < dblS l l.length 0)
  | 0, k, i, hi, hk => by
    obtain ⟨k, rfl⟩ : ∃ q, k = q + 1 := ⟨k - 1, by omega⟩
    have hd : polygon_double.l0 k l 0 l (l.length : Int) 0 = some (0 + dblS l l.length 0) := double_l l hl hok l.length k 0 0 (by omega) (by omega) (by omega) (by omega)
    rw [polygon_Check.l1, if_neg (by omega), polygon_double.f, hd, Option.bind_some, Int.zero_add]
    by_cases c : dblS l l.length 0 ≤ 0
    · rw [if_pos c]; exact ⟨3, rfl, ⟨fun h => by omega, fun h => by omega⟩⟩
    · rw [if_neg c]; exact ⟨0, rfl, ⟨fun _ => ⟨fun j h1 h2 => by omega, by omega⟩, fun _ => rfl⟩⟩
  | d + 1, k, i, hi, hk => by
    obtain ⟨k, rfl⟩ : ∃ q, k = q + 1 := ⟨k - 1, by omega⟩
    have hlt : i < l.length := by omega
    have hn := nx_lt hlt
    have hn2 := nx2_lt hlt (by omega)
    have e1 : ∀ j : Nat, rd_T41 l (j : Int) = Pt l j := fun _ => rfl
    have ht : plane_Turn.f (Pt l i).f0 (Pt l i).f1 (Pt l (nx l.length i)).f0 (Pt l (nx l.length i)).f1 (Pt l (nx2 l.length i)).f0 (Pt l (nx2 l.length i)).f1 = some (sg (Xp (Pt l i) (Pt l (nx l.length i)) (Pt l (nx2 l.length i)))) := turn_ok (hok i hlt) (hok _ hn) (hok _ hn2)
    have hstep : C1 l i ↔ (Xp (Pt l i) (Pt l (nx l.length i)) (Pt l (nx2 l.length i)) ≠ 0 ∧ C2 l i (i + 2)) ∧ C1 l (i + 1) := by
      refine ⟨fun h => ⟨h i (Nat.le_refl _) hlt, fun j h1 h2 => h j (by omega) h2⟩, fun h j h1 h2 => ?_⟩
      by_cases hj : j = i
      · subst hj; exact h.1
      · exact h.2 j (by omega) h2
    rw [polygon_Check.l1, if_pos (by omega), if_pos (by omega), if_pos (by omega), if_neg (by omega), w64 (x := (i : Int) + 1) (by omega) (by omega), w64 (x := (i : Int) + 2) (by omega) (by omega), md_nx hlt, md_nx2 hlt (by omega), if_pos (by omega), if_pos (by omega), if_pos (by omega), if_pos (by omega), e1, e1, e1, ht, Option.bind_some, show ((i : Int) + 2) = ((i + 2 : Nat) : Int) by omega]
    by_cases c : Xp (Pt l i) (Pt l (nx l.length i)) (Pt l (nx2 l.length i)) = 0
    · rw [if_pos ((sg_zero _).2 c)]
      exact ⟨3, rfl, ⟨fun h => by omega, fun h => absurd c (hstep.1 h.1).1.1⟩⟩
    · rw [if_neg (fun h => c ((sg_zero _).1 h))]
      obtain ⟨e, he, hz⟩ := check_l2 l hl hok i hlt (C1 l (i + 1) ∧ 0 < dblS l l.length 0) (d * 22 + 20) (fun k hk => check_l1 l hl hl3 hok d k (i + 1) (by omega) hk) (l.length - (i + 2)) k (i + 2) (by omega) (by omega) rfl (by omega)
      exact ⟨e, he, by rw [hz, hstep]; exact ⟨fun h => ⟨⟨⟨c, h.1⟩, h.2.1⟩, h.2.2⟩, fun h => ⟨h.1.1.2, h.1.2, h.2⟩⟩⟩
theorem check_l0 (l : List S41) (hl : l.length ≤ 16) (hl3 : 3 ≤ l.length) :
    ∀ (d k i : Nat), i + d = l.length → d + 400 ≤ k → (∀ j, j < i → Okp (Pt l j)) → ∃ e, polygon_Check.l0 k l l (l.length : Int) (i : Int) = some e ∧ (e = 0 ↔ (∀ j, j < l.length → Okp (Pt l j)) ∧ C1 l 0 ∧ 0 < dblS l l.length 0)
  | 0, k, i, hi, hk, hj => by
    obtain ⟨k, rfl⟩ : ∃ q, k = q + 1 := ⟨k - 1, by omega⟩
    have hok : ∀ j, j < l.length → Okp (Pt l j) := fun j h => hj j (by omega)
    rw [polygon_Check.l0, if_neg (by omega)]
    obtain ⟨e, he, hz⟩ := check_l1 l hl hl3 hok l.length k 0 (by omega) (by omega)
    exact ⟨e, he, hz.trans ⟨fun h => ⟨hok, h⟩, fun h => h.2⟩⟩
  | d + 1, k, i, hi, hk, hj => by
    obtain ⟨k, rfl⟩ : ∃ q, k = q + 1 := ⟨k - 1, by omega⟩
    have hlt : i < l.length := by omega
    have e1 : ∀ j : Nat, rd_T41 l (j : Int) = Pt l j := fun _ => rfl
    rw [polygon_Check.l0, if_pos (by omega), if_pos (by omega), if_pos (by omega), e1, check_f, Option.bind_some]
    by_cases c : Ok (Pt l i).f0 (Pt l i).f1
    · rw [if_pos c, if_pos rfl, w64 (by omega) (by omega), show ((i : Int) + 1) = ((i + 1 : Nat) : Int) by omega]
      exact check_l0 l hl hl3 d k (i + 1) (by omega) (by omega) (fun j h => by
        by_cases g : j = i
        · subst g; exact c
        · exact hj j (by omega))
    · rw [if_neg c, if_neg (by decide)]
      exact ⟨4, rfl, ⟨fun h => by omega, fun h => absurd (h.1 i hlt) c⟩⟩
/-- A valid polygon. -/
def Valid (l : List S41) : Prop := (3 ≤ l.length ∧ l.length ≤ 16) ∧ (∀ j, j < l.length → Okp (Pt l j)) ∧ C1 l 0 ∧ 0 < dblS l l.length 0
theorem pcheck (l : List S41) : ∃ e, (∀ k, 420 ≤ k → polygon_Check.f k l = some e) ∧ (e = 0 ↔ Valid l) := by
  have main : ∃ e, polygon_Check.f 420 l = some e ∧ (e = 0 ↔ Valid l) := by
    unfold polygon_Check.f
    by_cases h1 : (l.length : Int) > 16
    · rw [if_pos h1]; exact ⟨2, rfl, ⟨fun h => by omega, fun h => by have := h.1.2; omega⟩⟩
    · rw [if_neg h1]
      by_cases h2 : (l.length : Int) < 3
      · rw [if_pos h2]; exact ⟨3, rfl, ⟨fun h => by omega, fun h => by have := h.1.1; omega⟩⟩
      · rw [if_neg h2]
        obtain ⟨e, he, hz⟩ := check_l0 l (by omega) (by omega) l.length 420 0 (by omega) (by omega) (fun j h => by omega)
        exact ⟨e, he, hz.trans ⟨fun h => ⟨⟨by omega, by omega⟩, h⟩, fun h => h.2⟩⟩
  obtain ⟨e, he, hz⟩ := main
  exact ⟨e, fun k hk => at_rounds (fun k => polygon_Check.mono l k) hk he, hz⟩
/-- A point on an edge. -/
def onE (l : List S41) (x y : Int) (i : Nat) : Bool := decide (X (Pt l (pv l.length i)).f0 (Pt l (pv l.length i)).f1 (Pt l i).f0 (Pt l i).f1 x y = 0) && decide (Dt (Pt l (pv l.length i)).f0 (Pt l (pv l.length i)).f1 (Pt l i).f0 (Pt l i).f1 x y ≤ 0)
/-- Whether the ray from a point crosses an edge. -/
def crossE (a b : S41) (x y : Int) : Bool := (decide (a.f1 ≤ y ∧ y < b.f1) && decide (X a.f0 a.f1 b.f0 b.f1 x y > 0)) || (decide (b.f1 ≤ y ∧ y < a.f1) && decide (X a.f0 a.f1 b.f0 b.f1 x y < 0))
def locS (l : List S41) (x y : Int) : Nat → Nat → Int → Int
  | 0, _, v => v
  | d + 1, i, v => if onE l x y i = true then 0 else locS l x y d (i + 1) (if crossE (Pt l (pv l.length i)) (Pt l i) x y = true then -v else v)
theorem sg_pos (x : Int) : sg x > 0 ↔ x > 0 := by unfold sg; (repeat' split) <;> omega
theorem sg_lt (x : Int) : sg x < 0 ↔ x < 0 := by unfold sg; (repeat' split) <;> omega
theorem loc_j1 (k : Nat) (l l' : List S41) (v t n i x y bx b_y ax ay : Int) (hv : wrap64 (-v) = -v) : polygon_locate.j1 (k + 1) l v t l' n i false x y bx b_y ax ay =
    if (decide (ay ≤ y ∧ y < b_y) && decide (t > 0)) || (decide (b_y ≤ y ∧ y < ay) && decide (t < 0)) then polygon_locate.l0 k l (-v) l' n (wrap64 (i + 1)) x y else polygon_locate.l0 k l v l' n (wrap64 (i + 1)) x y := by
  rw [polygon_locate.j1, if_neg (by decide), hv]
  by_cases c1 : ay ≤ y <;> by_cases c2 : y < b_y <;> by_cases c3 : t > 0 <;> by_cases c4 : b_y ≤ y <;> by_cases c5 : y < ay <;> by_cases c6 : t < 0 <;> simp [c1, c2, c3, c4, c5, c6] <;> omega
theorem locate_l (l : List S41) (hl : l.length ≤ 16) (hok : ∀ i, i < l.length → Okp (Pt l i)) {x y : Int} (hq : Ok x y) : ∀ (d k i : Nat) (v : Int), i + d = l.length → 2 * d < k → -1 ≤ v → v ≤ 1 →
    polygon_locate.l0 k l v l (l.length : Int) (i : Int) x y = some (locS l x y d i v)
  | 0, k, i, v, hi, hk, h1, h2 => by
    obtain ⟨k, rfl⟩ : ∃ m, k = m + 1 := ⟨k - 1, by omega⟩
    rw [polygon_locate.l0, if_neg (by omega), locS]
  | d + 1, k, i, v, hi, hk, h1, h2 => by
    obtain ⟨k, rfl⟩ : ∃ m, k = m + 2 := ⟨k - 2, by omega⟩
    have hlt : i < l.length := by omega
    have hn := pv_lt hlt
    have e1 : ∀ j : Nat, rd_T41 l (j : Int) = Pt l j := fun _ => rfl
    have ht := turn_ok (hok _ hn) (hok i hlt) hq
    have ho := on_f (hok _ hn) (hok i hlt) hq
    rw [polygon_locate.l0, if_pos (by omega), if_pos (by omega), if_pos (by omega), if_neg (by omega), w64 (x := (i : Int) + (l.length : Int)) (by omega) (by omega), w64 (x := (i : Int) + (l.length : Int) - 1) (by omega) (by omega), md_pv hlt, if_pos (by omega), if_pos (by omega), e1, e1, ht, Option.bind_some, locS]
    have step : ∀ b : Bool, (b = false) → polygon_locate.j1 (k + 1) l v (sg (X (Pt l (pv l.length i)).f0 (Pt l (pv l.length i)).f1 (Pt l i).f0 (Pt l i).f1 x y)) l (l.length : Int) (i : Int) b x y (Pt l i).f0 (Pt l i).f1 (Pt l (pv l.length i)).f0 (Pt l (pv l.length i)).f1 = some (locS l x y d (i + 1) (if crossE (Pt l (pv l.length i)) (Pt l i) x y = true then -v else v)) := by
      intro b hb
      subst hb
      have hc : ((decide ((Pt l (pv l.length i)).f1 ≤ y ∧ y < (Pt l i).f1) && decide (sg (X (Pt l (pv l.length i)).f0 (Pt l (pv l.length i)).f1 (Pt l i).f0 (Pt l i).f1 x y) > 0)) || (decide ((Pt l i).f1 ≤ y ∧ y < (Pt l (pv l.length i)).f1) && decide (sg (X (Pt l (pv l.length i)).f0 (Pt l (pv l.length i)).f1 (Pt l i).f0 (Pt l i).f1 x y) < 0))) = crossE (Pt l (pv l.length i)) (Pt l i) x y := by
        unfold crossE
        rw [decide_eq_decide.2 (sg_pos _), decide_eq_decide.2 (sg_lt _)]
      rw [loc_j1 _ _ _ _ _ _ _ _ _ _ _ _ _ (w64 (by omega) (by omega)), hc, w64 (x := (i : Int) + 1) (by omega) (by omega), show ((i : Int) + 1) = ((i + 1 : Nat) : Int) by omega]
      by_cases c : crossE (Pt l (pv l.length i)) (Pt l i) x y = true
      · rw [if_pos c, if_pos c, locate_l l hl hok hq d k (i + 1) (-v) (by omega) (by omega) (by omega) (by omega)]
      · rw [if_neg c, if_neg c, locate_l l hl hok hq d k (i + 1) v (by omega) (by omega) (by omega) (by omega)]
    by_cases c : X (Pt l (pv l.length i)).f0 (Pt l (pv l.length i)).f1 (Pt l i).f0 (Pt l i).f1 x y = 0
    · rw [if_pos ((sg_zero _).2 c), ho, Option.bind_some]
      by_cases c2 : Dt (Pt l (pv l.length i)).f0 (Pt l (pv l.length i)).f1 (Pt l i).f0 (Pt l i).f1 x y ≤ 0
      · have hE : onE l x y i = true := by unfold onE; rw [decide_eq_true c, decide_eq_true c2]; rfl
        rw [if_pos hE, decide_eq_true c2, polygon_locate.j1, if_pos rfl]
      · have hE : ¬ onE l x y i = true := by unfold onE; rw [decide_eq_false c2]; simp
        rw [if_neg hE]
        exact step _ (decide_eq_false c2)
    · have hE : ¬ onE l x y i = true := by unfold onE; rw [decide_eq_false c]; simp
      rw [if_neg hE, if_neg (fun h => c ((sg_zero _).1 h))]
      exact step _ rfl
def loc (l : List S41) (x y : Int) : Int := locS l x y l.length 0 (-1)
theorem locate_f (l : List S41) (hl : l.length ≤ 16) (hok : ∀ i, i < l.length → Okp (Pt l i)) {x y : Int} (hq : Ok x y) (k : Nat) (hk : 40 ≤ k) : polygon_locate.f k l x y = some (loc l x y) := by
  unfold polygon_locate.f loc
  exact locate_l l hl hok hq l.length k 0 (-1) (by omega) (by omega) (by omega) (by omega)
/-- Vertex j, counted around. -/
def cy (l : List S41) (j : Nat) : S41 := Pt l (j % l.length)
theorem cy_lt {l : List S41} {j : Nat} (h : j < l.length) : cy l j = Pt l j := by unfold cy; rw [Nat.mod_eq_of_lt h]
theorem cy_n (l : List S41) (j : Nat) : cy l (j + l.length) = cy l j := by unfold cy; rw [Nat.add_mod_right]
theorem nx_mod {n i : Nat} (h : i < n) : nx n i = (i + 1) % n := by
  unfold nx
  split
  · rw [Nat.mod_eq_of_lt (by omega)]
  · have : i + 1 = n := by omega
    rw [this, Nat.mod_self]; omega
theorem nx2_mod {n i : Nat} (h : i < n) (h2 : 2 ≤ n) : nx2 n i = (i + 2) % n := by
  unfold nx2
  split
  · rw [Nat.mod_eq_of_lt (by omega)]
  · have e : i + 2 = (i + 2 - n) + n := by omega
    rw [e, Nat.add_mod_right, Nat.mod_eq_of_lt (by omega)]; omega
theorem cy_nx {l : List S41} {j : Nat} (h : j < l.length) : Pt l (nx l.length j) = cy l (j + 1) := by rw [nx_mod h]; rfl
theorem cy_nx2 {l : List S41} {j : Nat} (h : j < l.length) (h2 : 2 ≤ l.length) : Pt l (nx2 l.length j) = cy l (j + 2) := by rw [nx2_mod h h2]; rfl
theorem cy_mod (l : List S41) (j m : Nat) : cy l (j % l.length + m) = cy l (j + m) := by unfold cy; rw [Nat.mod_add_mod]
/-- Two segments without a common point. -/
structure NC (a b u v : S41) : Prop where
  n0 : ¬ ((Xp a b u < 0 ∧ 0 < Xp a b v ∨ 0 < Xp a b u ∧ Xp a b v < 0) ∧ (Xp u v a < 0 ∧ 0 < Xp u v b ∨ 0 < Xp u v a ∧ Xp u v b < 0))
  nu : Xp a b u = 0 → 0 < Dt a.f0 a.f1 b.f0 b.f1 u.f0 u.f1
  nv : Xp a b v = 0 → 0 < Dt a.f0 a.f1 b.f0 b.f1 v.f0 v.f1
  na : Xp u v a = 0 → 0 < Dt u.f0 u.f1 v.f0 v.f1 a.f0 a.f1
  nb : Xp u v b = 0 → 0 < Dt u.f0 u.f1 v.f0 v.f1 b.f0 b.f1
theorem NC.sym {a b u v : S41} (h : NC a b u v) : NC u v a b := by
  obtain ⟨n0, nu, nv, na, nb⟩ := h
  exact ⟨fun g => n0 ⟨g.2, g.1⟩, na, nb, nu, nv⟩
theorem sg_mul (x y : Int) : sg x * sg y < 0 ↔ (x < 0 ∧ 0 < y ∨ 0 < x ∧ y < 0) := by
  unfold sg
  (repeat' split) <;> simp <;> omega
theorem or_pos {p : Prop} {d : Int} : (¬ p ∨ ¬ d ≤ 0) ↔ (p → 0 < d) := by
  constructor
  · rintro (h | h) g
    · exact absurd g h
    · omega
  · intro h
    by_cases c : p
    · have := h c
      right; omega
    · left; exact c
theorem nc_iff {a b u v : S41} : cmn a b u v = false ↔ NC a b u v := by
  unfold cmn comB
  simp only [Bool.or_eq_false_iff, Bool.and_eq_false_iff, decide_eq_false_iff_not, sg_mul, sg_zero]
  constructor
  · rintro ⟨⟨⟨⟨h0, h1⟩, h2⟩, h3⟩, h4⟩
    exact ⟨Classical.not_and_iff_not_or_not.2 h0, or_pos.1 h1, or_pos.1 h2, or_pos.1 h3, or_pos.1 h4⟩
  · rintro ⟨n0, nu, nv, na, nb⟩
    exact ⟨⟨⟨⟨Classical.not_and_iff_not_or_not.1 n0, or_pos.2 nu⟩, or_pos.2 nv⟩, or_pos.2 na⟩, or_pos.2 nb⟩
/-- No vertex lies on the line of its neighbours; edges that aren't neighbours have no common point. -/
def CV (l : List S41) : Prop := ∀ i, Xp (cy l i) (cy l (i + 1)) (cy l (i + 2)) ≠ 0 ∧ ∀ d, 2 ≤ d → d + 2 ≤ l.length → cmn (cy l i) (cy l (i + 1)) (cy l (i + d)) (cy l (i + d + 1)) = false
theorem cmn_sym {a b c d : S41} (h : cmn a b c d = false) : cmn c d a b = false := nc_iff.2 (nc_iff.1 h).sym
theorem cy_mod0 (l : List S41) (j : Nat) : cy l (j % l.length) = cy l j := cy_mod l j 0
theorem C1_cy {l : List S41} (h3 : 3 ≤ l.length) : C1 l 0 ↔ CV l := by
  constructor
  · intro h i
    have hi : i % l.length < l.length := Nat.mod_lt _ (by omega)
    have e0 : cy l i = cy l (i % l.length) := (cy_mod0 l i).symm
    have ed : ∀ d, cy l (i + d) = cy l (i % l.length + d) := fun d => (cy_mod l i d).symm
    refine ⟨?_, fun d h2 hd => ?_⟩
    · rw [e0, ed, ed, cy_lt hi, ← cy_nx hi, ← cy_nx2 hi (by omega)]
      exact (h _ (Nat.zero_le _) hi).1
    · rw [e0, ed, ed, show i + d + 1 = i + (d + 1) by omega, ed]
      generalize i % l.length = q at hi
      by_cases c : q + d < l.length
      · have g := (h q (Nat.zero_le _) hi).2 (q + d) (by omega) c (by unfold nx; split <;> omega)
        rw [cy_nx c, ← cy_lt hi, ← cy_lt c, ← cy_lt (show q + 1 < l.length by omega)] at g
        exact g
      · obtain ⟨p, hp⟩ : ∃ p, q + d = p + l.length := ⟨q + d - l.length, by omega⟩
        have hpl : p < l.length := by omega
        have g := (h p (Nat.zero_le _) hpl).2 q (by omega) hi (by unfold nx; split <;> omega)
        rw [hp, cy_n, show q + (d + 1) = p + 1 + l.length by omega, cy_n]
        rw [cy_nx hi, ← cy_lt hi, ← cy_lt hpl, ← cy_lt (show p + 1 < l.length by omega)] at g
        exact cmn_sym g
  · intro h i _ hi
    refine ⟨?_, fun j h1 h2 h4 => ?_⟩
    · rw [← cy_lt hi, cy_nx hi, cy_nx2 hi (by omega)]
      exact (h i).1
    · have hd : j - i + 2 ≤ l.length := by
        have : j - i ≠ l.length - 1 := fun e => h4 (by unfold nx; split <;> omega)
        omega
      have g := (h i).2 (j - i) (by omega) hd
      rw [show i + (j - i) = j by omega, ← cy_nx h2, cy_lt hi, cy_lt h2, cy_lt (show i + 1 < l.length by omega)] at g
      exact g
theorem turn_some (a b c d e f : Int) : ∃ t, plane_Turn.f a b c d e f = some t := by
  unfold plane_Turn.f plane_Sub.f plane_Cross.f
  simp only [Option.bind_some]
  (repeat' split) <;> exact ⟨_, rfl⟩
theorem on_some (a b c d e f : Int) : ∃ t, polygon_on.f a b c d e f = some t := by
  unfold polygon_on.f plane_Sub.f plane_Dot.f
  simp only [Option.bind_some]
  exact ⟨_, rfl⟩
theorem crosses_some (a b c d e f g h : Int) : ∃ t, polygon_crosses.f a b c d e f g h = some t := by
  unfold polygon_crosses.f
  obtain ⟨t1, h1⟩ := turn_some a b c d e f
  obtain ⟨t2, h2⟩ := turn_some a b c d g h
  obtain ⟨t3, h3⟩ := turn_some e f g h a b
  obtain ⟨t4, h4⟩ := turn_some e f g h c d
  rw [h1, Option.bind_some, h2, Option.bind_some, h3, Option.bind_some, h4, Option.bind_some]
  split <;> exact ⟨_, rfl⟩
theorem loc_j1_some (k : Nat) (l : List S41) (v t n i : Int) (b : Bool) (x y c d e f : Int) (h : ∀ v', ∃ r, polygon_locate.l0 k l v' l n (wrap64 (i + 1)) x y = some r) : ∃ r, polygon_locate.j1 (k + 1) l v t l n i b x y c d e f = some r := by
  rw [polygon_locate.j1]
  (repeat' split) <;> first | exact ⟨_, rfl⟩ | exact h _
theorem loc_l0_some (l : List S41) (hl : l.length ≤ 64) (x y : Int) : ∀ (d k i : Nat) (v : Int), i + d = l.length → 2 * d < k → ∃ r, polygon_locate.l0 k l v l (l.length : Int) (i : Int) x y = some r
  | 0, k, i, v, hi, hk => by
    obtain ⟨k, rfl⟩ : ∃ m, k = m + 1 := ⟨k - 1, by omega⟩
    rw [polygon_locate.l0, if_neg (by omega)]
    exact ⟨_, rfl⟩
  | d + 1, k, i, v, hi, hk => by
    obtain ⟨k, rfl⟩ : ∃ m, k = m + 2 := ⟨k - 2, by omega⟩
    have hlt : i < l.length := by omega
    have hn := pv_lt hlt
    have h : ∀ v', ∃ r, polygon_locate.l0 k l v' l (l.length : Int) (wrap64 ((i : Int) + 1)) x y = some r := fun v' => by
      rw [w64 (x := (i : Int) + 1) (by omega) (by omega), show ((i : Int) + 1) = ((i + 1 : Nat) : Int) by omega]
      exact loc_l0_some l hl x y d k (i + 1) v' (by omega) (by omega)
    rw [polygon_locate.l0, if_pos (by omega), if_pos (by omega), if_pos (by omega), if_neg (by omega), w64 (x := (i : Int) + (l.length : Int)) (by omega) (by omega), w64 (x := (i : Int) + (l.length : Int) - 1) (by omega) (by omega), md_pv hlt, if_pos (by omega), if_pos (by omega)]
    obtain ⟨t, ht⟩ := turn_some (rd_T41 l ((pv l.length i : Nat) : Int)).f0 (rd_T41 l ((pv l.length i : Nat) : Int)).f1 (rd_T41 l (i : Int)).f0 (rd_T41 l (i : Int)).f1 x y
    obtain ⟨o, ho⟩ := on_some (rd_T41 l ((pv l.length i : Nat) : Int)).f0 (rd_T41 l ((pv l.length i : Nat) : Int)).f1 (rd_T41 l (i : Int)).f0 (rd_T41 l (i : Int)).f1 x y
    rw [ht, Option.bind_some]
    split
    · rw [ho, Option.bind_some]
      exact loc_j1_some k l v _ _ _ _ _ _ _ _ _ _ h
    · exact loc_j1_some k l v _ _ _ _ _ _ _ _ _ _ h
theorem locate_some (l : List S41) (hl : l.length ≤ 64) (x y : Int) (k : Nat) (hk : 130 ≤ k) : ∃ r, polygon_locate.f k l x y = some r := by
  unfold polygon_locate.f
  exact loc_l0_some l hl x y l.length k 0 _ (by omega) (by omega)
theorem scaled_l_some (l : List S41) (hl : l.length ≤ 64) : ∀ (d k i : Nat) (acc : List S41), i + d = l.length → d < k → acc.length = i → ∃ r, polygon_scaled.l0 k 2 acc l (l.length : Int) (i : Int) = some r ∧ r.length = l.length
  | 0, k, i, acc, hi, hk, ha => by
    obtain ⟨k, rfl⟩ : ∃ m, k = m + 1 := ⟨k - 1, by omega⟩
    rw [polygon_scaled.l0, if_neg (by omega)]
    exact ⟨_, rfl, by omega⟩
  | d + 1, k, i, acc, hi, hk, ha => by
    obtain ⟨k, rfl⟩ : ∃ m, k = m + 1 := ⟨k - 1, by omega⟩
    rw [polygon_scaled.l0, if_pos (by omega), if_pos (by omega), if_pos (by omega), if_pos (by omega), w64 (x := (i : Int) + 1) (by omega) (by omega), show ((i : Int) + 1) = ((i + 1 : Nat) : Int) by omega]
    exact scaled_l_some l hl d k (i + 1) _ (by omega) (by omega) (by simp; omega)
theorem scaled_some (l : List S41) (hl : l.length ≤ 64) (k : Nat) (hk : 70 ≤ k) : ∃ r, polygon_scaled.f k l 2 = some r ∧ r.length = l.length := by
  unfold polygon_scaled.f
  exact scaled_l_some l hl l.length k 0 [] (by omega) (by omega) rfl
theorem cuts_some (a b c d : Int) : ∀ vs acc, ∃ cs, polygon_pieceInside.cuts a b c d vs acc = some cs
  | [], acc => ⟨acc, rfl⟩
  | v :: vs, acc => by
    obtain ⟨t, ht⟩ := turn_some a b c d v.f0 v.f1
    obtain ⟨o, ho⟩ := on_some a b c d v.f0 v.f1
    rw [polygon_pieceInside.cuts, ht, Option.bind_some, ho, Option.bind_some]
    (repeat' split) <;> exact cuts_some a b c d vs _
theorem inner_some (k : Nat) (hk : 130 ≤ k) (tw : List S41) (ht : tw.length ≤ 64) (u : S41) : ∀ vs, ∃ r, polygon_pieceInside.inner k tw u vs = some r
  | [] => ⟨_, rfl⟩
  | v :: vs => by
    rw [polygon_pieceInside.inner]
    split
    · exact inner_some k hk tw ht u vs
    · unfold plane_Add.f
      obtain ⟨n, hn⟩ := locate_some tw ht (wrap64 (u.f0 + v.f0)) (wrap64 (u.f1 + v.f1)) k hk
      rw [Option.bind_some]
      dsimp only
      rw [hn, Option.bind_some]
      split
      · exact ⟨_, rfl⟩
      · exact inner_some k hk tw ht u vs
theorem outer_some (k : Nat) (hk : 130 ≤ k) (tw : List S41) (ht : tw.length ≤ 64) : ∀ us pre, ∃ r, polygon_pieceInside.outer k tw pre us = some r
  | [], _ => ⟨_, rfl⟩
  | u :: us, pre => by
    obtain ⟨r, hr⟩ := inner_some k hk tw ht u pre
    rw [polygon_pieceInside.outer, hr, Option.bind_some]
    split
    · exact ⟨_, rfl⟩
    · exact outer_some k hk tw ht us _
theorem piece_some {l : List S41} (h : Valid l) {a b : S41} (ha : Okp a) (hb : Okp b) (k : Nat) (hk : 200 ≤ k) : ∃ r, polygon_pieceInside.f k a.f0 a.f1 b.f0 b.f1 l = some r ∧ (0 < loc l b.f0 b.f1 → r = true) := by
  have hl := h.1.2
  unfold polygon_pieceInside.f
  obtain ⟨cs, hcs⟩ := cuts_some a.f0 a.f1 b.f0 b.f1 l [⟨a.f0, a.f1⟩, ⟨b.f0, b.f1⟩]
  obtain ⟨tw, htw, htl⟩ := scaled_some l (by omega) k (by omega)
  obtain ⟨r, hr⟩ := outer_some k (by omega) tw (by omega) cs []
  rw [locate_f l hl h.2.1 ha k (by omega), Option.bind_some]
  by_cases c1 : loc l a.f0 a.f1 > 0
  · rw [if_pos c1]
    exact ⟨_, rfl, fun _ => rfl⟩
  · rw [if_neg c1, locate_f l hl h.2.1 hb k (by omega), Option.bind_some]
    by_cases c2 : loc l b.f0 b.f1 > 0
    · rw [if_pos c2]
      exact ⟨_, rfl, fun _ => rfl⟩
    · rw [if_neg c2, if_pos (by omega), hcs, Option.bind_some, htw, Option.bind_some, hr]
      exact ⟨_, rfl, fun g => absurd g c2⟩
theorem cr_some (a b : S41) (l : List S41) : ∀ d i, ∃ c, polygon_Overlap.cr a b l d i = some c
  | 0, _ => ⟨_, rfl⟩
  | d + 1, i => by
    obtain ⟨c, hc⟩ := crosses_some a.f0 a.f1 b.f0 b.f1 (rd_T41 l (polygon_Overlap.pv l.length i : Nat)).f0 (rd_T41 l (polygon_Overlap.pv l.length i : Nat)).f1 (rd_T41 l (i : Nat)).f0 (rd_T41 l (i : Nat)).f1
    rw [polygon_Overlap.cr, hc, Option.bind_some]
    split
    · exact ⟨_, rfl⟩
    · exact cr_some a b l d (i + 1)
theorem ed_some {p q : List S41} (hp : Valid p) (hq : Valid q) (k : Nat) (hk : 200 ≤ k) : ∀ d i, i + d ≤ p.length → ∃ a, polygon_Overlap.ed k p q d i = some a ∧ ((∃ j, i ≤ j ∧ j < i + d ∧ 0 < loc q (Pt p j).f0 (Pt p j).f1) → a = true)
  | 0, i, _ => ⟨false, rfl, fun ⟨j, h1, h2, _⟩ => by omega⟩
  | d + 1, i, hi => by
    have hlt : i < p.length := by omega
    obtain ⟨c, hc⟩ := cr_some (rd_T41 p (polygon_Overlap.pv p.length i : Nat)) (rd_T41 p (i : Nat)) q q.length 0
    obtain ⟨r, hr, hz⟩ := piece_some hq (a := Pt p (polygon_Overlap.pv p.length i)) (b := Pt p i) (hp.2.1 _ (polygon_Overlap.pv_lt hlt)) (hp.2.1 i hlt) k hk
    obtain ⟨a, ha, hin⟩ := ed_some hp hq k hk d (i + 1) (by omega)
    have hr' : polygon_pieceInside.f k (rd_T41 p (polygon_Overlap.pv p.length i : Nat)).f0 (rd_T41 p (polygon_Overlap.pv p.length i : Nat)).f1 (rd_T41 p (i : Nat)).f0 (rd_T41 p (i : Nat)).f1 q = some r := hr
    rw [polygon_Overlap.ed, hc, Option.bind_some, hr', Option.bind_some, ha]
    split
    · exact ⟨true, rfl, fun _ => rfl⟩
    · split
      · exact ⟨true, rfl, fun _ => rfl⟩
      · rename_i _ hnr
        refine ⟨a, rfl, fun ⟨j, h1, h2, h3⟩ => ?_⟩
        by_cases e : j = i
        · subst e; exact absurd (hz h3) hnr
        · exact hin ⟨j, by omega, by omega, h3⟩
theorem pt_ext {a b : S41} (h0 : a.f0 = b.f0) (h1 : a.f1 = b.f1) : a = b := by cases a; cases b; simp_all
theorem pt_beq (a b : S41) : ((a.f0 == b.f0) && (a.f1 == b.f1)) = true ↔ a = b := by
  rw [Bool.and_eq_true, beq_iff_eq, beq_iff_eq]
  exact ⟨fun h => pt_ext h.1 h.2, fun h => by rw [h]; exact ⟨rfl, rfl⟩⟩
theorem X_self (a b c d : Int) : X a b c d a b = 0 ∧ X a b a b c d = 0 := by unfold X; constructor <;> simp
theorem ne_next {l : List S41} (h : CV l) (i : Nat) : cy l i ≠ cy l (i + 1) := fun e => by
  refine (h i).1 ?_
  rw [← e]
  exact (X_self _ _ _ _).2
theorem ne_far {l : List S41} (h : CV l) (i d : Nat) (h2 : 2 ≤ d) (hd : d + 2 ≤ l.length) : cy l i ≠ cy l (i + d) := fun e => by
  have g := (h i).2 d h2 hd
  rw [← e] at g
  unfold cmn comB at g
  have hs : sg (Xp (cy l i) (cy l (i + 1)) (cy l i)) = 0 := (sg_zero _).2 (X_self _ _ _ _).1
  have hd : Dt (cy l i).f0 (cy l i).f1 (cy l (i + 1)).f0 (cy l (i + 1)).f1 (cy l i).f0 (cy l i).f1 ≤ 0 := by unfold Dt; simp
  rw [hs, decide_eq_true hd] at g
  simp at g
theorem cy_ne {l : List S41} (h : CV l) {i d : Nat} (h1 : 1 ≤ d) (hd : d < l.length) : cy l i ≠ cy l (i + d) := by
  by_cases e1 : d = 1
  · subst e1; exact ne_next h i
  · by_cases e2 : d + 1 = l.length
    · intro e
      have := ne_next h (i + d)
      rw [show i + d + 1 = i + l.length by omega, cy_n] at this
      exact this e.symm
    · exact ne_far h i d (by omega) (by omega)
theorem cy_inj {l : List S41} (h : CV l) {i j : Nat} (hi : i < l.length) (hj : j < l.length) (e : cy l i = cy l j) : i = j := by
  rcases Nat.lt_trichotomy i j with g | g | g
  · exact absurd e (by have := cy_ne h (i := i) (d := j - i) (by omega) (by omega); rwa [show i + (j - i) = j by omega] at this)
  · exact g
  · exact absurd e.symm (by have := cy_ne h (i := j) (d := i - j) (by omega) (by omega); rwa [show j + (i - j) = i by omega] at this)
/-- The same vertices from k on. -/
def Rt (p q : List S41) : Prop := p.length = q.length ∧ ∃ k, k < q.length ∧ ∀ j, j < q.length → cy p j = cy q (k + j)
theorem Rt.sym {p q : List S41} (h : Rt p q) : Rt q p := by
  obtain ⟨hl, k, hk, h⟩ := h
  refine ⟨hl.symm, (q.length - k) % p.length, by rw [hl]; exact Nat.mod_lt _ (by omega), fun j hj => ?_⟩
  rw [hl] at hj
  rw [cy_mod]
  have e : cy p (q.length - k + j) = cy p ((q.length - k + j) % p.length) := (cy_mod0 _ _).symm
  rw [e, hl, h _ (Nat.mod_lt _ (by omega))]
  have e2 : k + (q.length - k + j) % q.length = (q.length - k + j) % q.length + k := Nat.add_comm _ _
  rw [e2, cy_mod, show q.length - k + j + k = j + q.length by omega, cy_n]
theorem Rt.refl {p : List S41} (h : 0 < p.length) : Rt p p := ⟨rfl, 0, h, fun j _ => by rw [Nat.zero_add]⟩
theorem same_l1 {p q : List S41} (hl : p.length = q.length) (hq : q.length ≤ 64) (m : Nat) (hm : m < q.length) : ∀ (d k i : Nat), i + d = q.length → d < k →
    ∃ b, polygon_same.l1 k p q (m : Int) (p.length : Int) (i : Int) = some b ∧ (b = true ↔ ∀ j, i ≤ j → j < q.length → cy p j = cy q (m + j))
  | 0, k, i, hi, hk => by
    obtain ⟨k, rfl⟩ : ∃ m, k = m + 1 := ⟨k - 1, by omega⟩
    rw [polygon_same.l1, if_neg (by omega)]
    exact ⟨true, rfl, fun _ j h1 h2 => by omega, fun _ => rfl⟩
  | d + 1, k, i, hi, hk => by
    obtain ⟨k, rfl⟩ : ∃ m, k = m + 1 := ⟨k - 1, by omega⟩
    obtain ⟨b, hb, hz⟩ := same_l1 hl hq m hm d k (i + 1) (by omega) (by omega)
    have hmd : Int.tmod ((m : Int) + (i : Int)) (q.length : Int) = (((m + i) % q.length : Nat) : Int) := by
      rw [Int.tmod_eq_emod_of_nonneg (by omega)]
      rfl
    have hlt := Nat.mod_lt (m + i) (show 0 < q.length by omega)
    have e1 : rd_T41 p (i : Int) = cy p i := (cy_lt (by omega)).symm
    have e2 : rd_T41 q (((m + i) % q.length : Nat) : Int) = cy q (m + i) := rfl
    rw [polygon_same.l1, if_pos (by omega), if_pos (by omega), if_pos (by omega), if_neg (by omega), w64 (x := (m : Int) + (i : Int)) (by omega) (by omega), hmd, if_pos (by omega), if_pos (by omega), e1, e2]
    by_cases c : cy p i = cy q (m + i)
    · rw [if_neg (by rw [c]; simp), w64 (x := (i : Int) + 1) (by omega) (by omega), show ((i : Int) + 1) = ((i + 1 : Nat) : Int) by omega, hb]
      refine ⟨b, rfl, hz.trans ⟨fun h j h1 h2 => ?_, fun h j h1 h2 => h j (by omega) h2⟩⟩
      by_cases e : j = i
      · subst e; exact c
      · exact h j (by omega) h2
    · rw [if_pos (by
        have h1 : ¬ ((cy p i).f0 = (cy q (m + i)).f0 ∧ (cy p i).f1 = (cy q (m + i)).f1) := fun h => c (pt_ext h.1 h.2)
        rw [Bool.or_eq_true, Bool.not_eq_true', Bool.not_eq_true', beq_eq_false_iff_ne, beq_eq_false_iff_ne]
        by_cases g : (cy p i).f0 = (cy q (m + i)).f0
        · exact .inr fun g2 => h1 ⟨g, g2⟩
        · exact .inl g)]
      exact ⟨false, rfl, (fun h => nomatch h), fun h => absurd (h i (Nat.le_refl _) (by omega)) c⟩
theorem same_l0 {p q : List S41} (hl : p.length = q.length) (hq : q.length ≤ 64) : ∀ (d k i : Nat), i + d = q.length → d + 70 < k →
    ∃ b, polygon_same.l0 k p q q (q.length : Int) (i : Int) = some b ∧ (b = true → Rt p q) ∧ (CV q → (∃ m, i ≤ m ∧ m < q.length ∧ ∀ j, j < q.length → cy p j = cy q (m + j)) → b = true)
  | 0, k, i, hi, hk => by
    obtain ⟨k, rfl⟩ : ∃ m, k = m + 1 := ⟨k - 1, by omega⟩
    rw [polygon_same.l0, if_neg (by omega)]
    exact ⟨false, rfl, fun h => (by cases h), fun _ ⟨m, h1, h2, _⟩ => by omega⟩
  | d + 1, k, i, hi, hk => by
    obtain ⟨k, rfl⟩ : ∃ m, k = m + 1 := ⟨k - 1, by omega⟩
    obtain ⟨b, hb, hz, hc⟩ := same_l0 hl hq d k (i + 1) (by omega) (by omega)
    have e1 : rd_T41 q (i : Int) = cy q i := (cy_lt (by omega)).symm
    have e2 : rd_T41 p 0 = cy p 0 := (cy_lt (show 0 < p.length by omega)).symm
    rw [polygon_same.l0, if_pos (by omega), if_pos (by omega), if_pos (by omega), if_pos (by omega), e1, e2]
    by_cases c : cy q i = cy p 0
    · rw [if_pos ((pt_beq _ _).2 c)]
      obtain ⟨b1, hb1, hz1⟩ := same_l1 hl hq i (by omega) q.length k 0 (by omega) (by omega)
      refine ⟨b1, by rw [← hb1]; rfl, fun h => ⟨hl, i, by omega, fun j hj => hz1.1 h j (Nat.zero_le _) hj⟩, fun hv ⟨m, h1, h2, h3⟩ => ?_⟩
      have h0 := h3 0 (by omega)
      rw [← c, Nat.add_zero] at h0
      obtain rfl := cy_inj hv (by omega) h2 h0
      exact hz1.2 fun j _ hj => h3 j hj
    · rw [if_neg (fun h => c ((pt_beq _ _).1 h)), w64 (x := (i : Int) + 1) (by omega) (by omega), show ((i : Int) + 1) = ((i + 1 : Nat) : Int) by omega, hb]
      refine ⟨b, rfl, hz, fun hv ⟨m, h1, h2, h3⟩ => hc hv ⟨m, ?_, h2, h3⟩⟩
      by_cases e : m = i
      · subst e
        have h0 := h3 0 (by omega)
        rw [Nat.add_zero] at h0
        exact absurd h0.symm c
      · omega
theorem same_f {p q : List S41} (hq : q.length ≤ 64) (hv : CV q) (k : Nat) (hk : 200 ≤ k) : ∃ b, polygon_same.f k p q = some b ∧ (b = true ↔ Rt p q) := by
  unfold polygon_same.f
  by_cases hl : p.length = q.length
  · rw [if_pos (by omega)]
    obtain ⟨b, hb, hz, hc⟩ := same_l0 hl hq q.length k 0 (by omega) (by omega)
    exact ⟨b, by rw [← hb]; rfl, hz, fun ⟨_, m, h1, h2⟩ => hc hv ⟨m, Nat.zero_le _, h1, h2⟩⟩
  · rw [if_neg (by omega)]
    exact ⟨false, rfl, fun h => (by cases h), fun h => absurd h.1 hl⟩
theorem valid_CV {q : List S41} (hq : Valid q) : CV q := (C1_cy hq.1.1).1 hq.2.2.1
/-- What Overlap answers of valid polygons. -/
theorem overlap_v {p q : List S41} (hp : Valid p) (hq : Valid q) : ∃ A B : Bool, (∀ k, 900 ≤ k → ∃ s, (s = true ↔ Rt p q) ∧ polygon_Overlap.f k p q = some (A || B || s, 0)) ∧ (∀ k, 900 ≤ k → ∃ s, (s = true ↔ Rt q p) ∧ polygon_Overlap.f k q p = some (B || A || s, 0)) ∧ ((∃ j, j < p.length ∧ 0 < loc q (Pt p j).f0 (Pt p j).f1) → A = true) := by
  obtain ⟨e1, he1, hz1⟩ := pcheck p
  obtain ⟨e2, he2, hz2⟩ := pcheck q
  have h1 := hz1.2 hp
  have h2 := hz2.2 hq
  subst h1 h2
  obtain ⟨A, hA, hin⟩ := ed_some hp hq 900 (by omega) p.length 0 (by omega)
  obtain ⟨B, hB, _⟩ := ed_some hq hp 900 (by omega) q.length 0 (by omega)
  have up : ∀ (l m : List S41) (d i : Nat) (r : Bool), polygon_Overlap.ed 900 l m d i = some r → ∀ k, 900 ≤ k → polygon_Overlap.ed k l m d i = some r := fun l m d i r h k hk => at_rounds (g := fun k => polygon_Overlap.ed k l m d i) (fun k => polygon_Overlap.mono_ed k l m d i) hk h
  have hp2 := hp.1.2
  have hq2 := hq.1.2
  refine ⟨A, B, fun k hk => ?_, fun k hk => ?_, fun ⟨j, g1, g2⟩ => hin ⟨j, Nat.zero_le _, by omega, g2⟩⟩
  · obtain ⟨s, hs, hz⟩ := same_f (p := p) (q := q) (by omega) (valid_CV hq) k (by omega)
    refine ⟨s, hz, ?_⟩
    unfold polygon_Overlap.f
    rw [he1 k (by omega), Option.bind_some, if_pos rfl, he2 k (by omega), Option.bind_some, if_pos rfl, if_pos ⟨by omega, by omega⟩, up _ _ _ _ _ hA k hk, Option.bind_some, polygon_Overlap.f1]
    cases A with
    | true => rfl
    | false =>
      rw [if_neg (by decide), up _ _ _ _ _ hB k hk, Option.bind_some, polygon_Overlap.f2]
      cases B with
      | true => rfl
      | false => rw [if_neg (by decide), hs]; rfl
  · obtain ⟨s, hs, hz⟩ := same_f (p := q) (q := p) (by omega) (valid_CV hp) k (by omega)
    refine ⟨s, hz, ?_⟩
    unfold polygon_Overlap.f
    rw [he2 k (by omega), Option.bind_some, if_pos rfl, he1 k (by omega), Option.bind_some, if_pos rfl, if_pos ⟨by omega, by omega⟩, up _ _ _ _ _ hB k hk, Option.bind_some, polygon_Overlap.f1]
    cases B with
    | true => rfl
    | false =>
      rw [if_neg (by decide), up _ _ _ _ _ hA k hk, Option.bind_some, polygon_Overlap.f2]
      cases A with
      | true => rfl
      | false => rw [if_neg (by decide), hs]; rfl
theorem overlap_f (p q : List S41) : (∃ e, e ≠ 0 ∧ ∀ k, 900 ≤ k → polygon_Overlap.f k p q = some (false, e)) ∨ (Valid p ∧ Valid q ∧ ∃ r, (∀ k, 900 ≤ k → polygon_Overlap.f k p q = some (r, 0)) ∧ ((∃ j, j < p.length ∧ 0 < loc q (Pt p j).f0 (Pt p j).f1) → r = true)) := by
  obtain ⟨e1, he1, hz1⟩ := pcheck p
  obtain ⟨e2, he2, hz2⟩ := pcheck q
  by_cases c1 : e1 = 0
  · by_cases c2 : e2 = 0
    · right
      have hp := hz1.1 c1
      have hq := hz2.1 c2
      refine ⟨hp, hq, ?_⟩
      obtain ⟨A, B, h1, _, hin⟩ := overlap_v hp hq
      obtain ⟨s, hs, hf⟩ := h1 900 (by omega)
      refine ⟨A || B || s, fun k hk => ?_, fun g => by rw [hin g]; rfl⟩
      obtain ⟨s', hs', hf'⟩ := h1 k hk
      rw [hf', show s' = s by rw [Bool.eq_iff_iff, hs, hs']]
    · left
      refine ⟨e2, c2, fun k hk => ?_⟩
      unfold polygon_Overlap.f
      rw [he1 k (by omega), Option.bind_some, if_pos c1, he2 k (by omega), Option.bind_some, if_neg c2]
  · left
    refine ⟨e1, c1, fun k hk => ?_⟩
    unfold polygon_Overlap.f
    rw [he1 k (by omega), Option.bind_some, if_neg c1]
theorem overlap_ok {p q : List S41} (hp : Valid p) (hq : Valid q) {e : Int} (h : polygon_Overlap.f 2000 p q = some (false, e)) : e = 0 := by
  obtain ⟨A, B, h1, _, _⟩ := overlap_v hp hq
  obtain ⟨s, _, hf⟩ := h1 2000 (by omega)
  rw [hf] at h
  exact ((Prod.mk.inj (Option.some.inj h)).2).symm
theorem overlap_self {p : List S41} (hp : Valid p) (k : Nat) (hk : 900 ≤ k) : polygon_Overlap.f k p p = some (true, 0) := by
  obtain ⟨A, B, h1, _, _⟩ := overlap_v hp hp
  obtain ⟨s, hs, hf⟩ := h1 k hk
  rw [hf, hs.2 (Rt.refl (by have := hp.1.1; omega)), Bool.or_true]
abbrev Sp := S62
def spOk (x : Sp) : Prop := 0 ≤ x.f0 ∧ x.f1 ≤ 200000 ∧ x.f0 < x.f1
instance (x : Sp) : Decidable (spOk x) := inferInstanceAs (Decidable (_ ∧ _ ∧ _))
def LOk (l : List Sp) : Prop := l.length ≤ 256 ∧ ∀ x ∈ l, spOk x
theorem rdS {l : List Sp} {i : Nat} (h : i < l.length) : rd_T62 l (i : Int) = l[i] := by
  unfold rd_T62
  rw [Int.toNat_natCast, List.getD_eq_getElem?_getD, List.getElem?_eq_getElem h]
  rfl
theorem chk_l (l : List Sp) (hl : l.length ≤ 256) : ∀ (d k i : Nat), i + d = l.length → d < k →
    ∃ e, volume_CheckSpans.l0 k l (l.length : Int) (i : Int) = some e ∧ (e = 0 ↔ ∀ x ∈ l.drop i, spOk x)
  | 0, k, i, hi, hk => by
    obtain ⟨k, rfl⟩ : ∃ m, k = m + 1 := ⟨k - 1, by omega⟩
    refine ⟨0, by rw [volume_CheckSpans.l0, if_neg (by omega)], fun _ => ?_, fun _ => rfl⟩
    rw [List.drop_of_length_le (by omega)]
    intro x hx; cases hx
  | d + 1, k, i, hi, hk => by
    obtain ⟨k, rfl⟩ : ∃ m, k = m + 1 := ⟨k - 1, by omega⟩
    have hlt : i < l.length := by omega
    obtain ⟨e, he, hz⟩ := chk_l l hl d k (i + 1) (by omega) (by omega)
    rw [volume_CheckSpans.l0, if_pos (by omega), if_pos (by omega), if_pos (by omega), rdS hlt, List.drop_eq_getElem_cons hlt]
    have no : ¬ spOk l[i] → ((12 : Int) = 0 ↔ ∀ x ∈ l[i] :: l.drop (i + 1), spOk x) := fun h => ⟨fun h2 => by omega, fun h2 => absurd (h2 _ List.mem_cons_self) h⟩
    by_cases c1 : l[i].f0 < 0
    · rw [if_pos c1]
      exact ⟨12, rfl, no (fun h => by have := h.1; omega)⟩
    rw [if_neg c1]
    by_cases c2 : l[i].f1 > 200000
    · rw [if_pos c2]
      exact ⟨12, rfl, no (fun h => by have := h.2.1; omega)⟩
    rw [if_neg c2]
    by_cases c3 : l[i].f0 ≥ l[i].f1
    · rw [if_pos c3]
      exact ⟨12, rfl, no (fun h => by have := h.2.2; omega)⟩
    rw [if_neg c3, w64 (x := (i : Int) + 1) (by omega) (by omega), show ((i : Int) + 1) = ((i + 1 : Nat) : Int) by omega]
    refine ⟨e, he, hz.trans ⟨fun h x hx => ?_, fun h x hx => h x (List.mem_cons_of_mem _ hx)⟩⟩
    rcases List.mem_cons.1 hx with rfl | hx
    · exact ⟨by omega, by omega, by omega⟩
    · exact h x hx
theorem chk (l : List Sp) (k : Nat) (hk : 300 ≤ k) : ∃ e, volume_CheckSpans.f k l = some e ∧ (e = 0 ↔ LOk l) := by
  unfold volume_CheckSpans.f
  by_cases c : (l.length : Int) > 256
  · rw [if_pos c]
    exact ⟨2, rfl, fun h => by omega, fun h => by have := h.1; omega⟩
  · rw [if_neg c]
    obtain ⟨e, he, hz⟩ := chk_l l (by omega) l.length k 0 (by omega) (by omega)
    rw [List.drop_zero] at hz
    exact ⟨e, he, fun h => ⟨by omega, hz.1 h⟩, fun h => hz.2 h.2⟩
/-- The merging of what is sorted: o is done, p is the last one. -/
def mg (o : List Sp) (p : Sp) : List Sp → List Sp
  | [] => o ++ [p]
  | s :: r => if s.f0 ≤ p.f1 then mg o ⟨p.f0, mx p.f1 s.f1⟩ r else mg (o ++ [p]) s r
theorem lastS (o : List Sp) (p : Sp) (h : (o ++ [p]).length < 1000000) : wrap64 (((o ++ [p]).length : Int) - 1) = (o.length : Int) ∧ rd_T62 (o ++ [p]) (o.length : Int) = p := by
  have e : (o ++ [p]).length = o.length + 1 := by rw [List.length_append]; rfl
  refine ⟨by rw [e, w64 (by omega) (by omega)]; omega, ?_⟩
  rw [rdS (by omega), List.getElem_append_right (Nat.le_refl _)]
  simp
theorem union_l (xs : List Sp) (hx : xs.length ≤ 256) : ∀ (d k i : Nat) (o : List Sp) (p : Sp), i + d = xs.length → d < k → o.length + 1 ≤ i →
    volume_Union.l0 k (o ++ [p]) xs (xs.length : Int) (i : Int) = some (mg o p (xs.drop i), 0)
  | 0, k, i, o, p, hi, hk, ho => by
    obtain ⟨k, rfl⟩ : ∃ m, k = m + 1 := ⟨k - 1, by omega⟩
    rw [volume_Union.l0, if_neg (by omega), List.drop_of_length_le (by omega), mg]
  | d + 1, k, i, o, p, hi, hk, ho => by
    obtain ⟨k, rfl⟩ : ∃ m, k = m + 1 := ⟨k - 1, by omega⟩
    have hlt : i < xs.length := by omega
    have e : (o ++ [p]).length = o.length + 1 := by rw [List.length_append]; rfl
    obtain ⟨e1, e2⟩ := lastS o p (by omega)
    rw [volume_Union.l0, if_pos (by omega), if_pos (by omega), if_pos (by omega), if_pos (show ((o ++ [p]).length : Int) > 0 by omega), e1, if_pos (by omega), if_pos (by omega), e2, rdS hlt, List.drop_eq_getElem_cons hlt, mg,
      w64 (x := (i : Int) + 1) (by omega) (by omega), show ((i : Int) + 1) = ((i + 1 : Nat) : Int) by omega]
    by_cases c : xs[i].f0 ≤ p.f1
    · rw [if_pos c, if_pos c, Int.toNat_natCast, List.set_append_right _ _ (Nat.le_refl _), Nat.sub_self, List.set_cons_zero]
      exact union_l xs hx d k (i + 1) o _ (by omega) (by omega) (by omega)
    · rw [if_neg c, if_neg c, if_pos (by omega)]
      exact union_l xs hx d k (i + 1) (o ++ [p]) _ (by omega) (by omega) (by omega)
theorem okAll_of {l : List Sp} (h : LOk l) : okAll l = true := by
  unfold okAll
  rw [Bool.and_eq_true]
  refine ⟨decide_eq_true (by have := h.1; omega), List.all_eq_true.2 fun x hx => decide_eq_true ?_⟩
  obtain ⟨a, b, c⟩ := h.2 x hx
  exact ⟨a, by omega⟩
def joinS : List Sp → List Sp
  | [] => []
  | s :: r => mg [] s r
theorem union_f (l : List Sp) (k : Nat) (hk : 300 ≤ k) (h : LOk l) : volume_Union.f k l = some (joinS (sortedS l (okAll_of h)), 0) := by
  obtain ⟨e, he, hz⟩ := chk l k hk
  obtain rfl : e = 0 := hz.2 h
  have hl := h.1
  have hs := sortedS_length l (okAll_of h)
  unfold volume_Union.f
  rw [he, Option.bind_some, if_pos rfl]
  first | unfold api_Span_60.f api_Span_61.f | unfold api_Span_63.f api_Span_64.f
  rw [Option.bind_some, if_pos (by simp; omega), Option.bind_some, List.nil_append, dif_pos (okAll_of h), Option.bind_some]
  rw [← hs]
  generalize sortedS l (okAll_of h) = m at hs
  obtain ⟨k, rfl⟩ : ∃ q, k = q + 1 := ⟨k - 1, by omega⟩
  cases m with
  | nil => rw [volume_Union.l0]; rfl
  | cons s r =>
    have e0 : rd_T62 (s :: r) 0 = s := rfl
    rw [List.length_cons] at hs
    rw [volume_Union.l0, if_pos (by rw [List.length_cons]; omega), if_pos (by omega), if_pos (by rw [List.length_cons]; omega), if_neg (by simp), if_pos (by simp), e0, w64 (by omega) (by omega), List.nil_append]
    exact union_l (s :: r) (by rw [List.length_cons]; omega) r.length k 1 [] s (by rw [List.length_cons]; omega) (by omega) (by simp)
theorem works (k : Nat) (hk : 300 ≤ k) : skywaykeep1_volumeWorks.f k = some true := by
  have hL : LOk [⟨3, 6⟩, ⟨6, 8⟩, ⟨1, 2⟩] := ⟨by simp, by decide⟩
  unfold skywaykeep1_volumeWorks.f
  rw [union_f _ k hk hL]
  have hp := sortedS_perm _ (okAll_of hL)
  have hs := sortedS_sorted _ (okAll_of hL)
  have e : sortedS [⟨3, 6⟩, ⟨6, 8⟩, ⟨1, 2⟩] (okAll_of hL) = [⟨1, 2⟩, ⟨3, 6⟩, ⟨6, 8⟩] := by
    refine List.Perm.eq_of_pairwise (le := fun x y => x.f0 ≤ y.f0) ?_ hs (by decide) (hp.trans (List.perm_append_comm (l₁ := ([⟨3, 6⟩, ⟨6, 8⟩] : List Sp)) (l₂ := ([⟨1, 2⟩] : List Sp))))
    intro a b ha hb h1 h2
    have ha' := hp.mem_iff.1 ha
    simp only [List.mem_cons, List.not_mem_nil, or_false] at ha' hb
    rcases ha' with rfl | rfl | rfl <;> rcases hb with rfl | rfl | rfl <;> first | rfl | (dsimp only at h1 h2; omega)
  rw [e]
  rfl
theorem vcheck (l : List S41) (a b : Int) : ∃ e, (∀ k, 900 ≤ k → volume_Check.f k l a b = some e) ∧ (e = 0 → Valid l ∧ a < b) := by
  obtain ⟨e, he, hz⟩ := pcheck l
  by_cases h0 : e = 0
  · by_cases c1 : a < 0
    · exact ⟨4, fun k hk => (by unfold volume_Check.f; rw [he k (by omega), Option.bind_some, if_pos h0, if_pos c1]), fun h => by omega⟩
    by_cases c2 : b > 60001
    · exact ⟨4, fun k hk => (by unfold volume_Check.f; rw [he k (by omega), Option.bind_some, if_pos h0, if_neg c1, if_pos c2]), fun h => by omega⟩
    by_cases c3 : a ≥ b
    · exact ⟨4, fun k hk => (by unfold volume_Check.f; rw [he k (by omega), Option.bind_some, if_pos h0, if_neg c1, if_neg c2, if_pos c3]), fun h => by omega⟩
    exact ⟨0, fun k hk => (by unfold volume_Check.f; rw [he k (by omega), Option.bind_some, if_pos h0, if_neg c1, if_neg c2, if_neg c3]), fun _ => ⟨hz.1 h0, by omega⟩⟩
  · exact ⟨e, fun k hk => (by unfold volume_Check.f; rw [he k (by omega), Option.bind_some, if_neg h0]), fun h => absurd h h0⟩
theorem VolumeOverlap : skywaykeep1_VolumeOverlap.Pure := by
  intro p a b q c d _ _ _ _ _ _
  refine ⟨2000, ?_⟩
  obtain ⟨e1, h1, z1⟩ := vcheck p a b
  obtain ⟨e2, h2, z2⟩ := vcheck q c d
  replace h1 := h1 2000 (by decide)
  replace h2 := h2 2000 (by decide)
  unfold skywaykeep1_VolumeOverlap.f
  rw [works 2000 (by decide), Option.bind_some, if_pos rfl]
  unfold volume_Overlap.f
  rw [h1, h2, Option.bind_some]
  by_cases c1 : e1 = 0
  · obtain ⟨hp, hab⟩ := z1 c1
    rw [if_pos c1, Option.bind_some]
    by_cases c2 : e2 = 0
    · obtain ⟨hq, hcd⟩ := z2 c2
      have hs : (if a ≥ b then some (false, (0 : Int)) else if a ≥ b then some (false, 0) else (polygon_Overlap.f 2000 p p).bind fun bt => some (bt.1, bt.2)) = some (true, 0) := by
        rw [if_neg (by omega), if_neg (by omega), overlap_self hp 2000 (by decide)]; rfl
      subst c1
      simp only [if_pos c2, Option.bind_some, if_true, hs]
      rcases overlap_f p q with ⟨e, he, h⟩ | ⟨_, _, r, h, _⟩
      · exact absurd (overlap_ok hp hq (h 2000 (by decide))) he
      rw [h 2000 (by decide)]
      by_cases g1 : a ≥ d
      · rw [if_pos g1]
        have n1 : ¬ a < d := by omega
        cases r <;> simp [n1]
      rw [if_neg g1]
      have n1 : a < d := by omega
      by_cases g2 : c ≥ b
      · rw [if_pos g2]
        have n2 : ¬ c < b := by omega
        cases r <;> simp [n1, n2]
      rw [if_neg g2]
      have n2 : c < b := by omega
      cases r <;> simp [n1, n2]
    · rw [if_neg c2, Option.bind_some, if_neg c2]; rfl
  · rw [if_neg c1, Option.bind_some, if_neg c1]; rfl
end Go.Proofs.Ythghilclgobpbaa.Pure
