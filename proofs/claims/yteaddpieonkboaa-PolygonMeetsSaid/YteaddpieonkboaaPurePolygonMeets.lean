/- PolygonMeets: for all polygons and segments, Meets does not depend on the order of the ends, a segment with an end in the polygon meets it, and a segment with the whole polygon on one side of its line does not. -/
import Derived.Test.YteaddpieonkboaaPPolygonMeetsx
import Derived.Test.YteaddpieonkboaaMath
import Derived.Laws.MathBits
namespace Go.Proofs.Yteaddpieonkboaa.Pure
open Go Go.RowKit Go.Proofs.Yteaddpieonkboaa.PPolygonMeets Go.Proofs.YteaddpieonkboaaW.PrintWords Go.Proofs.YteaddpieonkboaaW.PrintLast Go.Proofs.YteaddpieonkboaaM

/-- A permitted coordinate. -/
def Ok (x y : Int) : Prop := -1000000 ≤ x ∧ x ≤ 1000000 ∧ -1000000 ≤ y ∧ y ≤ 1000000
instance (x y : Int) : Decidable (Ok x y) := inferInstanceAs (Decidable (_ ∧ _))
def S (x y : Int) : Int := x * x + y * y
theorem S_nonneg (x y : Int) : 0 ≤ S x y := by have := sq_nonneg x; have := sq_nonneg y; unfold S; omega
theorem square {ax ay bx b_y : Int} (h1 : -2000000000 ≤ ax - bx) (h2 : ax - bx ≤ 2000000000) (h3 : -2000000000 ≤ ay - b_y) (h4 : ay - b_y ≤ 2000000000) :
    plane_Square.f ax ay bx b_y = some (S (ax - bx) (ay - b_y)) ∧ S (ax - bx) (ay - b_y) ≤ 8000000000000000000 := by
  have q1 := sq_bd h1 h2
  have q2 := sq_bd h3 h4
  have p1 := sq_nonneg (ax - bx)
  have p2 := sq_nonneg (ay - b_y)
  refine ⟨?_, by unfold S; omega⟩
  unfold plane_Square.f plane_Sub.f plane_Dot.f S
  rw [w64 (by omega) (by omega), w64 (by omega) (by omega)]
  simp only [Option.bind_some]
  rw [w64 (x := (ax - bx) * (ax - bx)) (by omega) (by omega), w64 (x := (ay - b_y) * (ay - b_y)) (by omega) (by omega), w64 (by omega) (by omega)]
theorem check_f (x y : Int) : plane_Check.f x y = some (if Ok x y then 0 else 4) := by
  unfold plane_Check.f
  by_cases c : Ok x y
  · rw [if_pos c]
    obtain ⟨c1, c2, c3, c4⟩ := c
    rw [if_neg (by omega), if_neg (by omega), if_neg (by omega), if_neg (by omega)]
  · rw [if_neg c]
    by_cases c1 : x < -1000000
    · rw [if_pos c1]
    · rw [if_neg c1]
      by_cases c2 : x > 1000000
      · rw [if_pos c2]
      · rw [if_neg c2]
        by_cases c3 : y < -1000000
        · rw [if_pos c3]
        · rw [if_neg c3, if_pos (by
            rcases Int.lt_or_le 1000000 y with h | h
            · exact h
            · exact absurd (show Ok x y from ⟨by omega, by omega, by omega, h⟩) c)]
/-- The cross product of b - a and c - a. -/
def X (ax ay bx b_y cx cy : Int) : Int := (bx - ax) * (cy - ay) - (b_y - ay) * (cx - ax)
def sg (x : Int) : Int := if x > 0 then 1 else if x < 0 then -1 else 0
theorem turn {ax ay bx b_y cx cy : Int} (h1 : -2000000000 ≤ bx - ax) (h2 : bx - ax ≤ 2000000000) (h3 : -2000000000 ≤ b_y - ay) (h4 : b_y - ay ≤ 2000000000)
    (h5 : -2000000000 ≤ cx - ax) (h6 : cx - ax ≤ 2000000000) (h7 : -2000000000 ≤ cy - ay) (h8 : cy - ay ≤ 2000000000) :
    plane_Turn.f ax ay bx b_y cx cy = some (sg (X ax ay bx b_y cx cy)) := by
  have m1 := mul_bd h1 h2 h7 h8
  have m2 := mul_bd h3 h4 h5 h6
  unfold plane_Turn.f plane_Sub.f plane_Cross.f X sg
  simp only [Option.bind_some]
  rw [w64 (x := bx - ax) (by omega) (by omega), w64 (x := b_y - ay) (by omega) (by omega), w64 (x := cx - ax) (by omega) (by omega), w64 (x := cy - ay) (by omega) (by omega),
    w64 (x := (bx - ax) * (cy - ay)) (by omega) (by omega), w64 (x := (b_y - ay) * (cx - ax)) (by omega) (by omega), w64 (by omega) (by omega)]
  split
  · rfl
  · split <;> rfl
theorem sg_neg (x : Int) : sg (-x) = -sg x := by unfold sg; (repeat' split) <;> omega
theorem sg_rng (x : Int) : -1 ≤ sg x ∧ sg x ≤ 1 := by unfold sg; (repeat' split) <;> omega
/-- The scalar product of the ways from a point to two others. -/
def Dt (ax ay bx b_y px py : Int) : Int := (ax - px) * (bx - px) + (ay - py) * (b_y - py)
theorem on_f {ax ay bx b_y px py : Int} (ha : Ok ax ay) (hb : Ok bx b_y) (hp : Ok px py) : polygon_on.f ax ay bx b_y px py = some (decide (Dt ax ay bx b_y px py ≤ 0)) := by
  obtain ⟨a1, a2, a3, a4⟩ := ha
  obtain ⟨b1, b2, b3, b4⟩ := hb
  obtain ⟨p1, p2, p3, p4⟩ := hp
  have m1 := mul_bd (show -2000000 ≤ ax - px by omega) (show ax - px ≤ 2000000 by omega) (show -2000000 ≤ bx - px by omega) (show bx - px ≤ 2000000 by omega)
  have m2 := mul_bd (show -2000000 ≤ ay - py by omega) (show ay - py ≤ 2000000 by omega) (show -2000000 ≤ b_y - py by omega) (show b_y - py ≤ 2000000 by omega)
  unfold polygon_on.f plane_Sub.f plane_Dot.f Dt
  simp only [Option.bind_some]
  rw [w64 (x := ax - px) (by omega) (by omega), w64 (x := ay - py) (by omega) (by omega), w64 (x := bx - px) (by omega) (by omega), w64 (x := b_y - py) (by omega) (by omega),
    w64 (x := (ax - px) * (bx - px)) (by omega) (by omega), w64 (x := (ay - py) * (b_y - py)) (by omega) (by omega), w64 (by omega) (by omega)]
theorem turn_ok {ax ay bx b_y cx cy : Int} (ha : Ok ax ay) (hb : Ok bx b_y) (hc : Ok cx cy) : plane_Turn.f ax ay bx b_y cx cy = some (sg (X ax ay bx b_y cx cy)) := by
  obtain ⟨a1, a2, a3, a4⟩ := ha
  obtain ⟨b1, b2, b3, b4⟩ := hb
  obtain ⟨c1, c2, c3, c4⟩ := hc
  exact turn (by omega) (by omega) (by omega) (by omega) (by omega) (by omega) (by omega) (by omega)
def comB (s t u v : Int) (o1 o2 o3 o4 : Bool) : Bool := (decide (s * t < 0) && decide (u * v < 0)) || (decide (s = 0) && o1) || (decide (t = 0) && o2) || (decide (u = 0) && o3) || (decide (v = 0) && o4)
theorem com_j0 (k : Nat) (s t u v : Int) (x : Bool) {ax ay bx b_y cx cy dx dy : Int} (o1 o2 o3 o4 : Bool)
    (h1 : polygon_on.f ax ay bx b_y cx cy = some o1) (h2 : polygon_on.f ax ay bx b_y dx dy = some o2) (h3 : polygon_on.f cx cy dx dy ax ay = some o3) (h4 : polygon_on.f cx cy dx dy bx b_y = some o4) :
    polygon_Common.j0 (k + 1) s t u v x ax ay bx b_y cx cy dx dy = some (x || (decide (s = 0) && o1) || (decide (t = 0) && o2) || (decide (u = 0) && o3) || (decide (v = 0) && o4)) := by
  rw [polygon_Common.j0, h1, h2, h3, h4]
  simp only [Option.bind_some]
  cases x
  · by_cases c1 : s = 0 <;> by_cases c2 : t = 0 <;> by_cases c3 : u = 0 <;> by_cases c4 : v = 0 <;> cases o1 <;> cases o2 <;> cases o3 <;> cases o4 <;> simp [c1, c2, c3, c4]
  · simp
theorem common_f (k : Nat) {ax ay bx b_y cx cy dx dy : Int} (ha : Ok ax ay) (hb : Ok bx b_y) (hc : Ok cx cy) (hd : Ok dx dy) :
    polygon_Common.f (k + 1) ax ay bx b_y cx cy dx dy = some (comB (sg (X ax ay bx b_y cx cy)) (sg (X ax ay bx b_y dx dy)) (sg (X cx cy dx dy ax ay)) (sg (X cx cy dx dy bx b_y))
      (decide (Dt ax ay bx b_y cx cy ≤ 0)) (decide (Dt ax ay bx b_y dx dy ≤ 0)) (decide (Dt cx cy dx dy ax ay ≤ 0)) (decide (Dt cx cy dx dy bx b_y ≤ 0))) := by
  have r1 := sg_rng (X ax ay bx b_y cx cy)
  have r2 := sg_rng (X ax ay bx b_y dx dy)
  have r3 := sg_rng (X cx cy dx dy ax ay)
  have r4 := sg_rng (X cx cy dx dy bx b_y)
  unfold polygon_Common.f
  rw [turn_ok ha hb hc, turn_ok ha hb hd, turn_ok hc hd ha, turn_ok hc hd hb]
  simp only [Option.bind_some]
  have m1 := mul_bd r1.1 r1.2 r2.1 r2.2
  have m2 := mul_bd r3.1 r3.2 r4.1 r4.2
  rw [w64 (by omega) (by omega), w64 (by omega) (by omega), com_j0 k _ _ _ _ _ _ _ _ _ (on_f ha hb hc) (on_f ha hb hd) (on_f hc hd ha) (on_f hc hd hb), com_j0 k _ _ _ _ _ _ _ _ _ (on_f ha hb hc) (on_f ha hb hd) (on_f hc hd ha) (on_f hc hd hb)]
  unfold comB
  by_cases c : sg (X ax ay bx b_y cx cy) * sg (X ax ay bx b_y dx dy) < 0
  · rw [if_pos c, decide_eq_true c, Bool.true_and]
  · rw [if_neg c, decide_eq_false c, Bool.false_and]
/-- Vertex i. -/
def Pt (l : List S25) (i : Nat) : S25 := rd_T25 l (i : Int)
def Okp (p : S25) : Prop := Ok p.f0 p.f1
def Xp (a b c : S25) : Int := X a.f0 a.f1 b.f0 b.f1 c.f0 c.f1
def crs (a b : S25) : Int := a.f0 * b.f1 - a.f1 * b.f0
def cmn (a b c d : S25) : Bool := comB (sg (Xp a b c)) (sg (Xp a b d)) (sg (Xp c d a)) (sg (Xp c d b)) (decide (Dt a.f0 a.f1 b.f0 b.f1 c.f0 c.f1 ≤ 0)) (decide (Dt a.f0 a.f1 b.f0 b.f1 d.f0 d.f1 ≤ 0)) (decide (Dt c.f0 c.f1 d.f0 d.f1 a.f0 a.f1 ≤ 0)) (decide (Dt c.f0 c.f1 d.f0 d.f1 b.f0 b.f1 ≤ 0))
theorem sg_zero (x : Int) : sg x = 0 ↔ x = 0 := by unfold sg; (repeat' split) <;> omega
def nx (n i : Nat) : Nat := if i + 1 < n then i + 1 else i + 1 - n
def nx2 (n i : Nat) : Nat := if i + 2 < n then i + 2 else i + 2 - n
def pv (n i : Nat) : Nat := if i = 0 then n - 1 else i - 1
theorem nx_lt {n i : Nat} (h : i < n) : nx n i < n := by unfold nx; split <;> omega
theorem nx2_lt {n i : Nat} (h : i < n) (h2 : 2 ≤ n) : nx2 n i < n := by unfold nx2; split <;> omega
theorem pv_lt {n i : Nat} (h : i < n) : pv n i < n := by unfold pv; split <;> omega
theorem md_lt {a n : Int} (h0 : 0 ≤ a) (h : a < n) : Int.tmod a n = a := by rw [Int.tmod_eq_emod_of_nonneg h0, Int.emod_eq_of_lt h0 h]
theorem md_add {a n : Int} (h0 : 0 ≤ a) (h : a < n) : Int.tmod (a + n) n = a := by
  rw [Int.tmod_eq_emod_of_nonneg (by omega)]
  have : (a + n) % n = a % n := by simp
  rw [this, Int.emod_eq_of_lt h0 h]
theorem md_nx {n i : Nat} (h : i < n) : Int.tmod ((i : Int) + 1) (n : Int) = ((nx n i : Nat) : Int) := by
  unfold nx
  split
  · rw [md_lt (by omega) (by omega)]; omega
  · have e : (i : Int) + 1 = ((i + 1 - n : Nat) : Int) + n := by omega
    rw [e, md_add (by omega) (by omega)]
theorem md_nx2 {n i : Nat} (h : i < n) (h2 : 2 ≤ n) : Int.tmod ((i : Int) + 2) (n : Int) = ((nx2 n i : Nat) : Int) := by
  unfold nx2
  split
  · rw [md_lt (by omega) (by omega)]; omega
  · have e : (i : Int) + 2 = ((i + 2 - n : Nat) : Int) + n := by omega
    rw [e, md_add (by omega) (by omega)]
theorem md_pv {n i : Nat} (h : i < n) : Int.tmod ((i : Int) + n - 1) (n : Int) = ((pv n i : Nat) : Int) := by
  unfold pv
  split
  · rw [md_lt (by omega) (by omega)]; omega
  · have e : (i : Int) + n - 1 = ((i - 1 : Nat) : Int) + n := by omega
    rw [e, md_add (by omega) (by omega)]
theorem crs_bd {a b : S25} (ha : Okp a) (hb : Okp b) : -4000000000000 ≤ crs a b ∧ crs a b ≤ 4000000000000 ∧ plane_Cross.f a.f0 a.f1 b.f0 b.f1 = some (crs a b) := by
  obtain ⟨a1, a2, a3, a4⟩ := ha
  obtain ⟨b1, b2, b3, b4⟩ := hb
  have m1 := mul_bd a1 a2 b3 b4
  have m2 := mul_bd a3 a4 b1 b2
  unfold plane_Cross.f crs
  refine ⟨by omega, by omega, ?_⟩
  rw [w64 (x := a.f0 * b.f1) (by omega) (by omega), w64 (x := a.f1 * b.f0) (by omega) (by omega), w64 (by omega) (by omega)]
/-- The cross products from vertex i on, d of them. -/
def dblS (l : List S25) : Nat → Nat → Int
  | 0, _ => 0
  | d + 1, i => crs (Pt l i) (Pt l (nx l.length i)) + dblS l d (i + 1)
theorem double_l (l : List S25) (hl : l.length ≤ 16) (hok : ∀ i, i < l.length → Okp (Pt l i)) (d : Nat) : ∀ (k i : Nat) (a : Int), i + d = l.length → d < k →
    -1000000000000000 + (d : Int) * 4000000000000 ≤ a → a ≤ 1000000000000000 - (d : Int) * 4000000000000 → polygon_double.l0 k l a l (l.length : Int) (i : Int) = some (a + dblS l d i) := by
  induction d with
  | zero =>
    intro k i a hi hk _ _
    obtain ⟨k, rfl⟩ : ∃ m, k = m + 1 := ⟨k - 1, by omega⟩
    rw [polygon_double.l0, if_neg (by omega), dblS, Int.add_zero]
  | succ d ih =>
    intro k i a hi hk h1 h2
    obtain ⟨k, rfl⟩ : ∃ m, k = m + 1 := ⟨k - 1, by omega⟩
    have hlt : i < l.length := by omega
    have hn := nx_lt hlt
    obtain ⟨c1, c2, c3⟩ := crs_bd (hok i hlt) (hok _ hn)
    have e1 : rd_T25 l (i : Int) = Pt l i := rfl
    have e2 : rd_T25 l ((nx l.length i : Nat) : Int) = Pt l (nx l.length i) := rfl
    rw [polygon_double.l0, if_pos (by omega), if_pos (by omega), if_pos (by omega), if_neg (by omega), w64 (x := (i : Int) + 1) (by omega) (by omega), md_nx hlt, if_pos (by omega), if_pos (by omega), e1, e2, c3, Option.bind_some, w64 (x := a + crs (Pt l i) (Pt l (nx l.length i))) (by omega) (by omega),
      show ((i : Int) + 1) = ((i + 1 : Nat) : Int) by omega, ih k (i + 1) _ (by omega) (by omega) (by omega) (by omega), dblS, Int.add_assoc]
theorem common_p (k : Nat) {a b c d : S25} (ha : Okp a) (hb : Okp b) (hc : Okp c) (hd : Okp d) : polygon_Common.f (k + 1) a.f0 a.f1 b.f0 b.f1 c.f0 c.f1 d.f0 d.f1 = some (cmn a b c d) := common_f k ha hb hc hd
/-- Edge i has no point in common with the edges from m on, but for its neighbours. -/
def C2 (l : List S25) (i m : Nat) : Prop := ∀ j, m ≤ j → j < l.length → nx l.length j ≠ i → cmn (Pt l i) (Pt l (i + 1)) (Pt l j) (Pt l (nx l.length j)) = false
def C1 (l : List S25) (i : Nat) : Prop := ∀ i', i ≤ i' → i' < l.length → Xp (Pt l i') (Pt l (nx l.length i')) (Pt l (nx2 l.length i')) ≠ 0 ∧ C2 l i' (i' + 2)
theorem check_l2 (l : List S25) (hl : l.length ≤ 16) (hok : ∀ i, i < l.length → Okp (Pt l i)) (i : Nat) (hi : i < l.length) (R : Prop) (K : Nat)
    (hnext : ∀ k, K ≤ k → ∃ e, polygon_Check.l1 k l (l.length : Int) (l.length : Int) ((i + 1 : Nat) : Int) = some e ∧ (e = 0 ↔ R)) :
    ∀ (d k m : Nat), i + 2 ≤ m → m ≤ 20 → l.length - m = d → K + d + 2 ≤ k → ∃ e, polygon_Check.l2 k l (l.length : Int) (i : Int) (m : Int) (l.length : Int) (i : Int) = some e ∧ (e = 0 ↔ C2 l i m ∧ R)
  | 0, k, m, hm, hm2, hd, hk => by
    obtain ⟨k, rfl⟩ : ∃ q, k = q + 1 := ⟨k - 1, by omega⟩
    rw [polygon_Check.l2, if_neg (by omega), w64 (by omega) (by omega), show ((i : Int) + 1) = ((i + 1 : Nat) : Int) by omega]
    obtain ⟨e, he, hz⟩ := hnext k (by omega)
    exact ⟨e, he, hz.trans ⟨fun h => ⟨fun j h1 h2 => by omega, h⟩, fun h => h.2⟩⟩
  | d + 1, k, m, hm, hm2, hd, hk => by
    obtain ⟨k, rfl⟩ : ∃ q, k = q + 2 := ⟨k - 2, by omega⟩
    have hlt : m < l.length := by omega
    have hn := nx_lt hlt
    have e1 : ∀ j : Nat, rd_T25 l (j : Int) = Pt l j := fun _ => rfl
    obtain ⟨e, he, hz⟩ := check_l2 l hl hok i hi R K hnext d (k + 1) (m + 1) (by omega) (by omega) (by omega) (by omega)
    have hstep : C2 l i m ↔ (nx l.length m ≠ i → cmn (Pt l i) (Pt l (i + 1)) (Pt l m) (Pt l (nx l.length m)) = false) ∧ C2 l i (m + 1) := by
      refine ⟨fun h => ⟨fun g => h m (Nat.le_refl _) hlt g, fun j h1 h2 => h j (by omega) h2⟩, fun h j h1 h2 h3 => ?_⟩
      by_cases hj : j = m
      · subst hj; exact h.1 h3
      · exact h.2 j (by omega) h2 h3
    rw [polygon_Check.l2, if_pos (by omega), if_neg (by omega), w64 (x := (m : Int) + 1) (by omega) (by omega), md_nx hlt, show ((m : Int) + 1) = ((m + 1 : Nat) : Int) by omega, he]
    by_cases c : nx l.length m = i
    · rw [if_pos (by omega)]
      exact ⟨e, rfl, by rw [hz, hstep]; exact ⟨fun h => ⟨⟨fun g => absurd c g, h.1⟩, h.2⟩, fun h => ⟨h.1.2, h.2⟩⟩⟩
    · rw [if_neg (by omega), if_pos (by omega), if_pos (by omega), w64 (x := (i : Int) + 1) (by omega) (by omega), if_pos (by omega), if_pos (by omega), if_pos (by omega), if_pos (by omega), if_pos (by omega), if_pos (by omega), show ((i : Int) + 1) = ((i + 1 : Nat) : Int) by omega, e1, e1, e1, e1,
        common_p k (hok i hi) (hok (i + 1) (by omega)) (hok m hlt) (hok _ hn), Option.bind_some]
      by_cases cc : cmn (Pt l i) (Pt l (i + 1)) (Pt l m) (Pt l (nx l.length m)) = true
      · rw [if_pos cc]
        exact ⟨3, rfl, ⟨fun h => by omega, fun h => by rw [(hstep.1 h.1).1 c] at cc; cases cc⟩⟩
      · rw [if_neg cc]
        exact ⟨e, rfl, by rw [hz, hstep]; exact ⟨fun h => ⟨⟨fun _ => by simpa using cc, h.1⟩, h.2⟩, fun h => ⟨h.1.2, h.2⟩⟩⟩
theorem check_l1 (l : List S25) (hl : l.length ≤ 16) (hl3 : 3 ≤ l.length) (hok : ∀ i, i < l.length → Okp (Pt l i)) :
    ∀ (d k i : Nat), i + d = l.length → d * 22 + 20 ≤ k → ∃ e, polygon_Check.l1 k l (l.length : Int) (l.length : Int) (i : Int) = some e ∧ (e = 0 ↔ C1 l i ∧ 0 < dblS l l.length 0)
  | 0, k, i, hi, hk => by
    obtain ⟨k, rfl⟩ : ∃ q, k = q + 1 := ⟨k - 1, by omega⟩
    have hd : polygon_double.l0 k l 0 l (l.length : Int) 0 = some (0 + dblS l l.length 0) := double_l l hl hok l.length k 0 0 (by omega) (by omega) (by omega) (by omega)
    rw [polygon_Check.l1, if_neg (by omega), polygon_double.f, hd, Option.bind_some, Int.zero_add]
    by_cases c : dblS l l.length 0 ≤ 0
    · rw [if_pos c]; exact ⟨3, rfl, ⟨fun h => by omega, fun h => by omega⟩⟩
    · rw [if_neg c]; exact ⟨0, rfl, ⟨fun _ => ⟨fun j h1 h2 => by omega, by omega⟩, fun _ => rfl⟩⟩
  | d + 1, k, i, hi, hk => by
    obtain ⟨k, rfl⟩ : ∃ q, k = q + 1 := ⟨k - 1, by omega⟩
    have hlt : i < l.length := by omega
    have hn := nx_lt hlt
    have hn2 := nx2_lt hlt (by omega)
    have e1 : ∀ j : Nat, rd_T25 l (j : Int) = Pt l j := fun _ => rfl
    have ht : plane_Turn.f (Pt l i).f0 (Pt l i).f1 (Pt l (nx l.length i)).f0 (Pt l (nx l.length i)).f1 (Pt l (nx2 l.length i)).f0 (Pt l (nx2 l.length i)).f1 = some (sg (Xp (Pt l i) (Pt l (nx l.length i)) (Pt l (nx2 l.length i)))) := turn_ok (hok i hlt) (hok _ hn) (hok _ hn2)
    have hstep : C1 l i ↔ (Xp (Pt l i) (Pt l (nx l.length i)) (Pt l (nx2 l.length i)) ≠ 0 ∧ C2 l i (i + 2)) ∧ C1 l (i + 1) := by
      refine ⟨fun h => ⟨h i (Nat.le_refl _) hlt, fun j h1 h2 => h j (by omega) h2⟩, fun h j h1 h2 => ?_⟩
      by_cases hj : j = i
      · subst hj; exact h.1
      · exact h.2 j (by omega) h2
    rw [polygon_Check.l1, if_pos (by omega), if_pos (by omega), if_pos (by omega), if_neg (by omega), w64 (x := (i : Int) + 1) (by omega) (by omega), w64 (x := (i : Int) + 2) (by omega) (by omega), md_nx hlt, md_nx2 hlt (by omega), if_pos (by omega), if_pos (by omega), if_pos (by omega), if_pos (by omega), e1, e1, e1, ht, Option.bind_some, show ((i : Int) + 2) = ((i + 2 : Nat) : Int) by omega]
    by_cases c : Xp (Pt l i) (Pt l (nx l.length i)) (Pt l (nx2 l.length i)) = 0
    · rw [if_pos ((sg_zero _).2 c)]
      exact ⟨3, rfl, ⟨fun h => by omega, fun h => absurd c (hstep.1 h.1).1.1⟩⟩
    · rw [if_neg (fun h => c ((sg_zero _).1 h))]
      obtain ⟨e, he, hz⟩ := check_l2 l hl hok i hlt (C1 l (i + 1) ∧ 0 < dblS l l.length 0) (d * 22 + 20) (fun k hk => check_l1 l hl hl3 hok d k (i + 1) (by omega) hk) (l.length - (i + 2)) k (i + 2) (by omega) (by omega) rfl (by omega)
      exact ⟨e, he, by rw [hz, hstep]; exact ⟨fun h => ⟨⟨⟨c, h.1⟩, h.2.1⟩, h.2.2⟩, fun h => ⟨h.1.1.2, h.1.2, h.2⟩⟩⟩
theorem check_l0 (l : List S25) (hl : l.length ≤ 16) (hl3 : 3 ≤ l.length) :
    ∀ (d k i : Nat), i + d = l.length → d + 400 ≤ k → (∀ j, j < i → Okp (Pt l j)) → ∃ e, polygon_Check.l0 k l l (l.length : Int) (i : Int) = some e ∧ (e = 0 ↔ (∀ j, j < l.length → Okp (Pt l j)) ∧ C1 l 0 ∧ 0 < dblS l l.length 0)
  | 0, k, i, hi, hk, hj => by
    obtain ⟨k, rfl⟩ : ∃ q, k = q + 1 := ⟨k - 1, by omega⟩
    have hok : ∀ j, j < l.length → Okp (Pt l j) := fun j h => hj j (by omega)
    rw [polygon_Check.l0, if_neg (by omega)]
    obtain ⟨e, he, hz⟩ := check_l1 l hl hl3 hok l.length k 0 (by omega) (by omega)
    exact ⟨e, he, hz.trans ⟨fun h => ⟨hok, h⟩, fun h => h.2⟩⟩
  | d + 1, k, i, hi, hk, hj => by
    obtain ⟨k, rfl⟩ : ∃ q, k = q + 1 := ⟨k - 1, by omega⟩
    have hlt : i < l.length := by omega
    have e1 : ∀ j : Nat, rd_T25 l (j : Int) = Pt l j := fun _ => rfl
    rw [polygon_Check.l0, if_pos (by omega), if_pos (by omega), if_pos (by omega), e1, check_f, Option.bind_some]
    by_cases c : Ok (Pt l i).f0 (Pt l i).f1
    · rw [if_pos c, if_pos rfl, w64 (by omega) (by omega), show ((i : Int) + 1) = ((i + 1 : Nat) : Int) by omega]
      exact check_l0 l hl hl3 d k (i + 1) (by omega) (by omega) (fun j h => by
        by_cases g : j = i
        · subst g; exact c
        · exact hj j (by omega))
    · rw [if_neg c, if_neg (by decide)]
      exact ⟨4, rfl, ⟨fun h => by omega, fun h => absurd (h.1 i hlt) c⟩⟩
/-- A valid polygon. -/
def Valid (l : List S25) : Prop := (3 ≤ l.length ∧ l.length ≤ 16) ∧ (∀ j, j < l.length → Okp (Pt l j)) ∧ C1 l 0 ∧ 0 < dblS l l.length 0
theorem pcheck (l : List S25) : ∃ e, (∀ k, 420 ≤ k → polygon_Check.f k l = some e) ∧ (e = 0 ↔ Valid l) := by
  have main : ∃ e, polygon_Check.f 420 l = some e ∧ (e = 0 ↔ Valid l) := by
    unfold polygon_Check.f
    by_cases h1 : (l.length : Int) > 16
    · rw [if_pos h1]; exact ⟨2, rfl, ⟨fun h => by omega, fun h => by have := h.1.2; omega⟩⟩
    · rw [if_neg h1]
      by_cases h2 : (l.length : Int) < 3
      · rw [if_pos h2]; exact ⟨3, rfl, ⟨fun h => by omega, fun h => by have := h.1.1; omega⟩⟩
      · rw [if_neg h2]
        obtain ⟨e, he, hz⟩ := check_l0 l (by omega) (by omega) l.length 420 0 (by omega) (by omega) (fun j h => by omega)
        exact ⟨e, he, hz.trans ⟨fun h => ⟨⟨by omega, by omega⟩, h⟩, fun h => h.2⟩⟩
  obtain ⟨e, he, hz⟩ := main
  exact ⟨e, fun k hk => at_rounds (fun k => polygon_Check.mono l k) hk he, hz⟩
/-- A point on an edge. -/
def onE (l : List S25) (x y : Int) (i : Nat) : Bool := decide (X (Pt l (pv l.length i)).f0 (Pt l (pv l.length i)).f1 (Pt l i).f0 (Pt l i).f1 x y = 0) && decide (Dt (Pt l (pv l.length i)).f0 (Pt l (pv l.length i)).f1 (Pt l i).f0 (Pt l i).f1 x y ≤ 0)
/-- Whether the ray from a point crosses an edge. -/
def crossE (a b : S25) (x y : Int) : Bool := (decide (a.f1 ≤ y ∧ y < b.f1) && decide (X a.f0 a.f1 b.f0 b.f1 x y > 0)) || (decide (b.f1 ≤ y ∧ y < a.f1) && decide (X a.f0 a.f1 b.f0 b.f1 x y < 0))
def locS (l : List S25) (x y : Int) : Nat → Nat → Int → Int
  | 0, _, v => v
  | d + 1, i, v => if onE l x y i = true then 0 else locS l x y d (i + 1) (if crossE (Pt l (pv l.length i)) (Pt l i) x y = true then -v else v)
theorem sg_pos (x : Int) : sg x > 0 ↔ x > 0 := by unfold sg; (repeat' split) <;> omega
theorem sg_lt (x : Int) : sg x < 0 ↔ x < 0 := by unfold sg; (repeat' split) <;> omega
theorem loc_j1 (k : Nat) (l l' : List S25) (v t n i x y bx b_y ax ay : Int) (hv : wrap64 (-v) = -v) : polygon_locate.j1 (k + 1) l v t l' n i false x y bx b_y ax ay =
    if (decide (ay ≤ y ∧ y < b_y) && decide (t > 0)) || (decide (b_y ≤ y ∧ y < ay) && decide (t < 0)) then polygon_locate.l0 k l (-v) l' n (wrap64 (i + 1)) x y else polygon_locate.l0 k l v l' n (wrap64 (i + 1)) x y := by
  rw [polygon_locate.j1, if_neg (by decide), hv]
  by_cases c1 : ay ≤ y <;> by_cases c2 : y < b_y <;> by_cases c3 : t > 0 <;> by_cases c4 : b_y ≤ y <;> by_cases c5 : y < ay <;> by_cases c6 : t < 0 <;> simp [c1, c2, c3, c4, c5, c6] <;> omega
theorem locate_l (l : List S25) (hl : l.length ≤ 16) (hok : ∀ i, i < l.length → Okp (Pt l i)) {x y : Int} (hq : Ok x y) : ∀ (d k i : Nat) (v : Int), i + d = l.length → 2 * d < k → -1 ≤ v → v ≤ 1 →
    polygon_locate.l0 k l v l (l.length : Int) (i : Int) x y = some (locS l x y d i v)
  | 0, k, i, v, hi, hk, h1, h2 => by
    obtain ⟨k, rfl⟩ : ∃ m, k = m + 1 := ⟨k - 1, by omega⟩
    rw [polygon_locate.l0, if_neg (by omega), locS]
  | d + 1, k, i, v, hi, hk, h1, h2 => by
    obtain ⟨k, rfl⟩ : ∃ m, k = m + 2 := ⟨k - 2, by omega⟩
    have hlt : i < l.length := by omega
    have hn := pv_lt hlt
    have e1 : ∀ j : Nat, rd_T25 l (j : Int) = Pt l j := fun _ => rfl
    have ht := turn_ok (hok _ hn) (hok i hlt) hq
    have ho := on_f (hok _ hn) (hok i hlt) hq
    rw [polygon_locate.l0, if_pos (by omega), if_pos (by omega), if_pos (by omega), if_neg (by omega), w64 (x := (i : Int) + (l.length : Int)) (by omega) (by omega), w64 (x := (i : Int) + (l.length : Int) - 1) (by omega) (by omega), md_pv hlt, if_pos (by omega), if_pos (by omega), e1, e1, ht, Option.bind_some, locS]
    have step : ∀ b : Bool, (b = false) → polygon_locate.j1 (k + 1) l v (sg (X (Pt l (pv l.length i)).f0 (Pt l (pv l.length i)).f1 (Pt l i).f0 (Pt l i).f1 x y)) l (l.length : Int) (i : Int) b x y (Pt l i).f0 (Pt l i).f1 (Pt l (pv l.length i)).f0 (Pt l (pv l.length i)).f1 = some (locS l x y d (i + 1) (if crossE (Pt l (pv l.length i)) (Pt l i) x y = true then -v else v)) := by
      intro b hb
      subst hb
      have hc : ((decide ((Pt l (pv l.length i)).f1 ≤ y ∧ y < (Pt l i).f1) && decide (sg (X (Pt l (pv l.length i)).f0 (Pt l (pv l.length i)).f1 (Pt l i).f0 (Pt l i).f1 x y) > 0)) || (decide ((Pt l i).f1 ≤ y ∧ y < (Pt l (pv l.length i)).f1) && decide (sg (X (Pt l (pv l.length i)).f0 (Pt l (pv l.length i)).f1 (Pt l i).f0 (Pt l i).f1 x y) < 0))) = crossE (Pt l (pv l.length i)) (Pt l i) x y := by
        unfold crossE
        rw [decide_eq_decide.2 (sg_pos _), decide_eq_decide.2 (sg_lt _)]
      rw [loc_j1 _ _ _ _ _ _ _ _ _ _ _ _ _ (w64 (by omega) (by omega)), hc, w64 (x := (i : Int) + 1) (by omega) (by omega), show ((i : Int) + 1) = ((i + 1 : Nat) : Int) by omega]
      by_cases c : crossE (Pt l (pv l.length i)) (Pt l i) x y = true
      · rw [if_pos c, if_pos c, locate_l l hl hok hq d k (i + 1) (-v) (by omega) (by omega) (by omega) (by omega)]
      · rw [if_neg c, if_neg c, locate_l l hl hok hq d k (i + 1) v (by omega) (by omega) (by omega) (by omega)]
    by_cases c : X (Pt l (pv l.length i)).f0 (Pt l (pv l.length i)).f1 (Pt l i).f0 (Pt l i).f1 x y = 0
    · rw [if_pos ((sg_zero _).2 c), ho, Option.bind_some]
      by_cases c2 : Dt (Pt l (pv l.length i)).f0 (Pt l (pv l.length i)).f1 (Pt l i).f0 (Pt l i).f1 x y ≤ 0
      · have hE : onE l x y i = true := by unfold onE; rw [decide_eq_true c, decide_eq_true c2]; rfl
        rw [if_pos hE, decide_eq_true c2, polygon_locate.j1, if_pos rfl]
      · have hE : ¬ onE l x y i = true := by unfold onE; rw [decide_eq_false c2]; simp
        rw [if_neg hE]
        exact step _ (decide_eq_false c2)
    · have hE : ¬ onE l x y i = true := by unfold onE; rw [decide_eq_false c]; simp
      rw [if_neg hE, if_neg (fun h => c ((sg_zero _).1 h))]
      exact step _ rfl
def loc (l : List S25) (x y : Int) : Int := locS l x y l.length 0 (-1)
theorem locate_f (l : List S25) (hl : l.length ≤ 16) (hok : ∀ i, i < l.length → Okp (Pt l i)) {x y : Int} (hq : Ok x y) (k : Nat) (hk : 40 ≤ k) : polygon_locate.f k l x y = some (loc l x y) := by
  unfold polygon_locate.f loc
  exact locate_l l hl hok hq l.length k 0 (-1) (by omega) (by omega) (by omega) (by omega)
theorem locS_on (l : List S25) (x y : Int) : ∀ (d i j : Nat) (v : Int), i ≤ j → j < i + d → onE l x y j = true → locS l x y d i v = 0
  | 0, i, j, v, h1, h2, h => by omega
  | d + 1, i, j, v, h1, h2, h => by
    rw [locS]
    by_cases c : onE l x y i = true
    · rw [if_pos c]
    · rw [if_neg c]
      have : i ≠ j := fun e => c (e ▸ h)
      exact locS_on l x y d (i + 1) j _ (by omega) (by omega) h
theorem loc_on (l : List S25) {x y : Int} {j : Nat} (hj : j < l.length) (h : onE l x y j = true) : loc l x y = 0 := locS_on l x y l.length 0 j (-1) (by omega) (by omega) h
/-- Vertex j, counted around. -/
def cy (l : List S25) (j : Nat) : S25 := Pt l (j % l.length)
theorem cy_lt {l : List S25} {j : Nat} (h : j < l.length) : cy l j = Pt l j := by unfold cy; rw [Nat.mod_eq_of_lt h]
theorem cy_n (l : List S25) (j : Nat) : cy l (j + l.length) = cy l j := by unfold cy; rw [Nat.add_mod_right]
theorem nx_mod {n i : Nat} (h : i < n) : nx n i = (i + 1) % n := by
  unfold nx
  split
  · rw [Nat.mod_eq_of_lt (by omega)]
  · have : i + 1 = n := by omega
    rw [this, Nat.mod_self]; omega
theorem nx2_mod {n i : Nat} (h : i < n) (h2 : 2 ≤ n) : nx2 n i = (i + 2) % n := by
  unfold nx2
  split
  · rw [Nat.mod_eq_of_lt (by omega)]
  · have e : i + 2 = (i + 2 - n) + n := by omega
    rw [e, Nat.add_mod_right, Nat.mod_eq_of_lt (by omega)]; omega
theorem pv_mod {n i : Nat} (h : i < n) : pv n i = (i + n - 1) % n := by
  unfold pv
  split
  · rw [Nat.mod_eq_of_lt (by omega)]; omega
  · have e : i + n - 1 = (i - 1) + n := by omega
    rw [e, Nat.add_mod_right, Nat.mod_eq_of_lt (by omega)]
theorem cy_nx {l : List S25} {j : Nat} (h : j < l.length) : Pt l (nx l.length j) = cy l (j + 1) := by rw [nx_mod h]; rfl
theorem cy_nx2 {l : List S25} {j : Nat} (h : j < l.length) (h2 : 2 ≤ l.length) : Pt l (nx2 l.length j) = cy l (j + 2) := by rw [nx2_mod h h2]; rfl
theorem cy_pv {l : List S25} {j : Nat} (h : j < l.length) : Pt l (pv l.length j) = cy l (j + l.length - 1) := by rw [pv_mod h]; rfl
theorem cy_mod (l : List S25) (j m : Nat) : cy l (j % l.length + m) = cy l (j + m) := by unfold cy; rw [Nat.mod_add_mod]
/-- A sum. -/
def sumN (f : Nat → Int) : Nat → Nat → Int
  | 0, _ => 0
  | d + 1, i => f i + sumN f d (i + 1)
theorem sumN_last (f : Nat → Int) : ∀ d i, sumN f (d + 1) i = sumN f d i + f (i + d)
  | 0, i => by simp [sumN]
  | d + 1, i => by
    have h := sumN_last f d (i + 1)
    have e : i + 1 + d = i + (d + 1) := by omega
    rw [e] at h
    rw [sumN, h, sumN, Int.add_assoc]
theorem sumN_congr {f g : Nat → Int} : ∀ d i, (∀ j, i ≤ j → j < i + d → f j = g j) → sumN f d i = sumN g d i
  | 0, i, h => rfl
  | d + 1, i, h => by
    rw [sumN, sumN, h i (by omega) (by omega), sumN_congr d (i + 1) (fun j h1 h2 => h j (by omega) (by omega))]
theorem sumN_add (f g : Nat → Int) : ∀ d i, sumN (fun j => f j + g j) d i = sumN f d i + sumN g d i
  | 0, i => rfl
  | d + 1, i => by
    have h := sumN_add f g d (i + 1)
    simp only [sumN]
    omega
theorem sumN_shift (f : Nat → Int) (k : Nat) : ∀ d i, sumN (fun j => f (j + k)) d i = sumN f d (i + k)
  | 0, i => rfl
  | d + 1, i => by
    have h := sumN_shift f k d (i + 1)
    have e : i + 1 + k = i + k + 1 := by omega
    rw [e] at h
    simp only [sumN]
    rw [h]
theorem sumN_period (f : Nat → Int) (n : Nat) (h : ∀ j, f (j + n) = f j) : ∀ k, sumN f n k = sumN f n 0
  | 0 => rfl
  | k + 1 => by
    have a := sumN_last f n k
    have b : sumN f (n + 1) k = f k + sumN f n (k + 1) := rfl
    have c := h k
    have d := sumN_period f n h k
    omega
/-- Whether the ray from a point crosses an edge, as a number. -/
def crN (a b : S25) (x y : Int) : Int := if crossE a b x y = true then 1 else 0
def onP (a b : S25) (x y : Int) : Bool := decide (X a.f0 a.f1 b.f0 b.f1 x y = 0) && decide (Dt a.f0 a.f1 b.f0 b.f1 x y ≤ 0)
theorem locS_sum (l : List S25) (x y : Int) : ∀ (d i : Nat) (v : Int), (∀ j, i ≤ j → j < i + d → onE l x y j = false) →
    locS l x y d i v = if sumN (fun j => crN (Pt l (pv l.length j)) (Pt l j) x y) d i % 2 = 0 then v else -v
  | 0, i, v, h => by rw [locS, sumN, if_pos (by decide)]
  | d + 1, i, v, h => by
    rw [locS, if_neg (by rw [h i (by omega) (by omega)]; decide), locS_sum l x y d (i + 1) _ (fun j h1 h2 => h j (by omega) (by omega)), sumN]
    generalize sumN (fun j => crN (Pt l (pv l.length j)) (Pt l j) x y) d (i + 1) = s
    unfold crN
    by_cases c : crossE (Pt l (pv l.length i)) (Pt l i) x y = true
    · rw [if_pos c, if_pos c]
      by_cases p : s % 2 = 0
      · rw [if_pos p, if_neg (by omega)]
      · rw [if_neg p, if_pos (by omega), Int.neg_neg]
    · rw [if_neg c, if_neg c, Int.zero_add]
/-- The number of crossings around. -/
def cF (l : List S25) (x y : Int) (j : Nat) : Int := crN (cy l j) (cy l (j + 1)) x y
theorem cF_n (l : List S25) (x y : Int) (j : Nat) : cF l x y (j + l.length) = cF l x y j := by
  unfold cF
  rw [cy_n, show j + l.length + 1 = j + 1 + l.length by omega, cy_n]
def crossings (l : List S25) (x y : Int) : Int := sumN (cF l x y) l.length 0
def OnAny (l : List S25) (x y : Int) : Prop := ∃ j, onP (cy l j) (cy l (j + 1)) x y = true
theorem onE_cy {l : List S25} {x y : Int} {j : Nat} (h : j < l.length) : onE l x y j = onP (cy l (j + l.length - 1)) (cy l (j + l.length - 1 + 1)) x y := by
  have e : j + l.length - 1 + 1 = j + l.length := by omega
  rw [e, cy_n, cy_lt h, ← cy_pv h]; rfl
theorem onAny_iff {l : List S25} {x y : Int} (h3 : 0 < l.length) : OnAny l x y ↔ ∃ j, j < l.length ∧ onE l x y j = true := by
  constructor
  · rintro ⟨j, hj⟩
    have hlt : (j + 1) % l.length < l.length := Nat.mod_lt _ h3
    refine ⟨(j + 1) % l.length, hlt, ?_⟩
    rw [onE_cy hlt]
    have e1 : (j + 1) % l.length + l.length - 1 = (j + 1) % l.length + (l.length - 1) := by omega
    have e2 : (j + 1) % l.length + l.length - 1 + 1 = (j + 1) % l.length + l.length := by omega
    rw [e2, e1, cy_mod, cy_n, show j + 1 + (l.length - 1) = j + l.length by omega, cy_n]
    have e3 : cy l ((j + 1) % l.length) = cy l (j + 1) := cy_mod l (j + 1) 0
    rw [e3]; exact hj
  · rintro ⟨j, hj, h⟩
    exact ⟨_, by rw [onE_cy hj] at h; exact h⟩
theorem crossings_sum {l : List S25} (x y : Int) (h3 : 0 < l.length) : sumN (fun j => crN (Pt l (pv l.length j)) (Pt l j) x y) l.length 0 = crossings l x y := by
  have e1 : sumN (fun j => crN (Pt l (pv l.length j)) (Pt l j) x y) l.length 0 = sumN (fun j => cF l x y (j + (l.length - 1))) l.length 0 := by
    refine sumN_congr _ _ (fun j _ hj => ?_)
    have hj' : j < l.length := by omega
    unfold cF
    rw [cy_pv hj', show j + (l.length - 1) + 1 = j + l.length by omega, cy_n, cy_lt hj', show j + l.length - 1 = j + (l.length - 1) by omega]
  exact e1.trans ((sumN_shift (cF l x y) (l.length - 1) l.length 0).trans (sumN_period (cF l x y) l.length (cF_n l x y) _))
/-- Where a point lies. -/
theorem loc_cy {l : List S25} {x y : Int} (h3 : 0 < l.length) : (OnAny l x y → loc l x y = 0) ∧ (¬ OnAny l x y → loc l x y = if crossings l x y % 2 = 0 then -1 else 1) := by
  constructor
  · intro h
    obtain ⟨j, hj, h⟩ := (onAny_iff h3).1 h
    exact loc_on l hj h
  · intro h
    have hno : ∀ j, 0 ≤ j → j < 0 + l.length → onE l x y j = false := by
      intro j _ hj
      rw [Bool.eq_false_iff]
      intro g
      exact h ((onAny_iff h3).2 ⟨j, by omega, g⟩)
    unfold loc
    rw [locS_sum l x y l.length 0 (-1) hno, crossings_sum x y h3]
    rfl
/-- Two segments without a common point. -/
structure NC (a b u v : S25) : Prop where
  n0 : ¬ ((Xp a b u < 0 ∧ 0 < Xp a b v ∨ 0 < Xp a b u ∧ Xp a b v < 0) ∧ (Xp u v a < 0 ∧ 0 < Xp u v b ∨ 0 < Xp u v a ∧ Xp u v b < 0))
  nu : Xp a b u = 0 → 0 < Dt a.f0 a.f1 b.f0 b.f1 u.f0 u.f1
  nv : Xp a b v = 0 → 0 < Dt a.f0 a.f1 b.f0 b.f1 v.f0 v.f1
  na : Xp u v a = 0 → 0 < Dt u.f0 u.f1 v.f0 v.f1 a.f0 a.f1
  nb : Xp u v b = 0 → 0 < Dt u.f0 u.f1 v.f0 v.f1 b.f0 b.f1
theorem Xp_sw (a b u : S25) : Xp b a u = -Xp a b u := by unfold Xp X; grind
theorem Dt_sw (ax ay bx b_y ux uy : Int) : Dt bx b_y ax ay ux uy = Dt ax ay bx b_y ux uy := by unfold Dt; grind
theorem NC.sw {a b u v : S25} (h : NC a b u v) : NC b a u v := by
  obtain ⟨n0, nu, nv, na, nb⟩ := h
  refine ⟨?_, ?_, ?_, nb, na⟩
  · rw [Xp_sw a b u, Xp_sw a b v]; omega
  · rw [Xp_sw a b u, Dt_sw]; exact fun g => nu (by omega)
  · rw [Xp_sw a b v, Dt_sw]; exact fun g => nv (by omega)
theorem NC.sym {a b u v : S25} (h : NC a b u v) : NC u v a b := by
  obtain ⟨n0, nu, nv, na, nb⟩ := h
  exact ⟨fun g => n0 ⟨g.2, g.1⟩, na, nb, nu, nv⟩
theorem sg_mul (x y : Int) : sg x * sg y < 0 ↔ (x < 0 ∧ 0 < y ∨ 0 < x ∧ y < 0) := by
  unfold sg
  (repeat' split) <;> simp <;> omega
theorem or_pos {p : Prop} {d : Int} : (¬ p ∨ ¬ d ≤ 0) ↔ (p → 0 < d) := by
  constructor
  · rintro (h | h) g
    · exact absurd g h
    · omega
  · intro h
    by_cases c : p
    · have := h c
      right; omega
    · left; exact c
theorem nc_iff {a b u v : S25} : cmn a b u v = false ↔ NC a b u v := by
  unfold cmn comB
  simp only [Bool.or_eq_false_iff, Bool.and_eq_false_iff, decide_eq_false_iff_not, sg_mul, sg_zero]
  constructor
  · rintro ⟨⟨⟨⟨h0, h1⟩, h2⟩, h3⟩, h4⟩
    exact ⟨Classical.not_and_iff_not_or_not.2 h0, or_pos.1 h1, or_pos.1 h2, or_pos.1 h3, or_pos.1 h4⟩
  · rintro ⟨n0, nu, nv, na, nb⟩
    exact ⟨⟨⟨⟨Classical.not_and_iff_not_or_not.1 n0, or_pos.2 nu⟩, or_pos.2 nv⟩, or_pos.2 na⟩, or_pos.2 nb⟩
theorem tri {p q r x y z : Int} (h : p * x + q * y + r * z = 0) (hp : 0 ≤ p) (hq : 0 ≤ q) (hr : 0 < r) (hx : 0 < x) (hz : 0 < z) : y < 0 := by
  have h1 := Int.mul_nonneg hp (Int.le_of_lt hx)
  have h2 := Int.mul_pos hr hz
  rcases Int.lt_or_le y 0 with g | g
  · exact g
  · have := Int.mul_nonneg hq g
    omega
/-- A point of the line at a height between those of the ends is between the ends. -/
theorem between_on {ax ay bx b_y ux uy : Int} (h : X ax ay bx b_y ux uy = 0) (h1 : ay ≤ uy) (h2 : uy ≤ b_y) (h3 : ay < b_y) : Dt ax ay bx b_y ux uy ≤ 0 := by
  unfold X at h
  unfold Dt
  have hd : 0 < (b_y - ay) * (b_y - ay) := Int.mul_pos (by omega) (by omega)
  have hpq : 0 ≤ (uy - ay) * (b_y - uy) := Int.mul_nonneg (by omega) (by omega)
  have hw : 0 ≤ (bx - ax) * (bx - ax) := sq_nonneg _
  have e : (ux - ax) * (bx - ux) * ((b_y - ay) * (b_y - ay)) = (bx - ax) * (bx - ax) * ((uy - ay) * (b_y - uy)) := by grind
  have h4 : 0 ≤ (ux - ax) * (bx - ux) * ((b_y - ay) * (b_y - ay)) := by rw [e]; exact Int.mul_nonneg hw hpq
  have h5 : 0 ≤ (ux - ax) * (bx - ux) := by
    rcases Int.lt_or_le ((ux - ax) * (bx - ux)) 0 with g | g
    · have := Int.mul_neg_of_neg_of_pos g hd
      omega
    · exact g
  have e2 : (ax - ux) * (bx - ux) + (ay - uy) * (b_y - uy) = -((ux - ax) * (bx - ux)) - (uy - ay) * (b_y - uy) := by grind
  omega
theorem opp {k x y : Int} (hk : 0 < k) (h : k * x < 0 ∧ 0 < k * y ∨ 0 < k * x ∧ k * y < 0) : x * y ≤ 0 := by
  rcases Int.lt_or_le (x * y) 1 with g | g
  · omega
  · exfalso
    have e : (k * x) * (k * y) = (k * k) * (x * y) := by grind
    have h1 : 0 < (k * k) * (x * y) := Int.mul_pos (Int.mul_pos hk hk) (by omega)
    rcases h with ⟨h2, h3⟩ | ⟨h2, h3⟩
    · have := Int.mul_neg_of_neg_of_pos h2 h3
      omega
    · have := Int.mul_neg_of_pos_of_neg h2 h3
      omega
theorem par0 {ax ay bx b_y ux uy vx vy A B U V : Int} (eA : A = X ux uy vx vy ax ay) (eB : B = X ux uy vx vy bx b_y) (eU : U = X ax ay bx b_y ux uy) (eV : V = X ax ay bx b_y vx vy)
    (h1 : ay ≤ b_y) (h2 : uy ≤ vy) (n0 : ¬ ((U < 0 ∧ 0 < V ∨ 0 < U ∧ V < 0) ∧ (A < 0 ∧ 0 < B ∨ 0 < A ∧ B < 0)))
    (nu : U = 0 → 0 < Dt ax ay bx b_y ux uy) (nv : V = 0 → 0 < Dt ax ay bx b_y vx vy) (na : A = 0 → 0 < Dt ux uy vx vy ax ay) (nb : B = 0 → 0 < Dt ux uy vx vy bx b_y) :
    ((if uy ≤ ay ∧ ay < vy ∧ 0 < A then (1 : Int) else 0) + (if uy ≤ b_y ∧ b_y < vy ∧ 0 < B then 1 else 0) + (if ay < uy ∧ uy ≤ b_y ∧ U < 0 then 1 else 0) + (if ay < vy ∧ vy ≤ b_y ∧ V < 0 then 1 else 0)) % 2 = 0 := by
  have ia : (vy - ay) * U + (ay - uy) * V + (b_y - ay) * A = 0 := by rw [eA, eU, eV]; unfold X; grind
  have ib : (vy - b_y) * U + (b_y - uy) * V + (b_y - ay) * B = 0 := by rw [eB, eU, eV]; unfold X; grind
  have iu : (b_y - uy) * A + (uy - ay) * B + (vy - uy) * U = 0 := by rw [eA, eB, eU]; unfold X; grind
  have iv : (b_y - vy) * A + (vy - ay) * B + (vy - uy) * V = 0 := by rw [eA, eB, eV]; unfold X; grind
  by_cases c1 : vy ≤ ay
  · rw [if_neg (by omega), if_neg (by omega), if_neg (by omega), if_neg (by omega)]; rfl
  by_cases c2 : b_y < uy
  · rw [if_neg (by omega), if_neg (by omega), if_neg (by omega), if_neg (by omega)]; rfl
  by_cases c3 : uy ≤ ay
  · have zA : A ≠ 0 := fun z => by have := na z; have := between_on (eA ▸ z) c3 (show ay ≤ vy by omega) (by omega); omega
    by_cases c4 : vy ≤ b_y
    · have zV : V ≠ 0 := fun z => by have := nv z; have := between_on (eV ▸ z) (show ay ≤ vy by omega) c4 (by omega); omega
      have f1 : ¬ (0 < A ∧ 0 < V) := by
        rintro ⟨g1, g2⟩
        have q1 : B < 0 := tri iv (by omega) (by omega) (by omega) g1 g2
        have q2 : U < 0 := tri (p := ay - uy) (q := vy - ay) (r := b_y - ay) (x := V) (z := A) (by omega) (by omega) (by omega) (by omega) g2 g1
        exact n0 ⟨Or.inl ⟨q2, g2⟩, Or.inr ⟨g1, q1⟩⟩
      have f2 : ¬ (A < 0 ∧ V < 0) := by
        rintro ⟨g1, g2⟩
        have q1 : -B < 0 := tri (p := b_y - vy) (q := vy - ay) (r := vy - uy) (x := -A) (z := -V) (by simp only [Int.mul_neg]; omega) (by omega) (by omega) (by omega) (by omega) (by omega)
        have q2 : -U < 0 := tri (p := ay - uy) (q := vy - ay) (r := b_y - ay) (x := -V) (z := -A) (by simp only [Int.mul_neg]; omega) (by omega) (by omega) (by omega) (by omega) (by omega)
        exact n0 ⟨Or.inr ⟨by omega, g2⟩, Or.inl ⟨g1, by omega⟩⟩
      clear ia ib iu iv
      (repeat' split) <;> omega
    · have zB : B ≠ 0 := fun z => by have := nb z; have := between_on (eB ▸ z) (show uy ≤ b_y by omega) (show b_y ≤ vy by omega) (by omega); omega
      have f1 : ¬ (0 < A ∧ B < 0) := by
        rintro ⟨g1, g2⟩
        have q1 : -V < 0 := tri (p := vy - b_y) (q := vy - uy) (r := vy - ay) (x := A) (z := -B) (by rw [show b_y - vy = -(vy - b_y) by omega, Int.neg_mul] at iv; simp only [Int.mul_neg]; omega) (by omega) (by omega) (by omega) g1 (by omega)
        by_cases c5 : b_y = uy
        · have : U = 0 := by
            have e1 : b_y - uy = 0 := by omega
            have e2 : uy - ay = 0 := by omega
            rw [e1, e2, Int.zero_mul, Int.zero_mul, Int.zero_add, Int.zero_add] at iu
            rcases Int.mul_eq_zero.1 iu with h | h
            · omega
            · exact h
          have hd := nu this
          have e3 : ay = uy := by omega
          have k1 : (vy - uy) * (ux - ax) = A := by rw [eA, e3]; unfold X; grind
          have k2 : (vy - uy) * (ux - bx) = B := by rw [eB, c5]; unfold X; grind
          have := opp (k := vy - uy) (x := ux - ax) (y := ux - bx) (by omega) (by rw [k1, k2]; exact Or.inr ⟨g1, g2⟩)
          have e4 : Dt ax ay bx b_y ux uy = (ux - ax) * (ux - bx) := by unfold Dt; rw [e3, c5]; grind
          omega
        · have q2 : U < 0 := tri (p := ay - uy) (q := vy - uy) (r := b_y - uy) (x := -B) (z := A) (by rw [show uy - ay = -(ay - uy) by omega, Int.neg_mul] at iu; simp only [Int.mul_neg]; omega) (by omega) (by omega) (by omega) (by omega) g1
          exact n0 ⟨Or.inl ⟨q2, by omega⟩, Or.inr ⟨g1, g2⟩⟩
      have f2 : ¬ (A < 0 ∧ 0 < B) := by
        rintro ⟨g1, g2⟩
        have q1 : V < 0 := tri (p := vy - b_y) (q := vy - uy) (r := vy - ay) (x := -A) (z := B) (by rw [show b_y - vy = -(vy - b_y) by omega, Int.neg_mul] at iv; simp only [Int.mul_neg]; omega) (by omega) (by omega) (by omega) (by omega) g2
        by_cases c5 : b_y = uy
        · have : U = 0 := by
            have e1 : b_y - uy = 0 := by omega
            have e2 : uy - ay = 0 := by omega
            rw [e1, e2, Int.zero_mul, Int.zero_mul, Int.zero_add, Int.zero_add] at iu
            rcases Int.mul_eq_zero.1 iu with h | h
            · omega
            · exact h
          have hd := nu this
          have e3 : ay = uy := by omega
          have k1 : (vy - uy) * (ux - ax) = A := by rw [eA, e3]; unfold X; grind
          have k2 : (vy - uy) * (ux - bx) = B := by rw [eB, c5]; unfold X; grind
          have := opp (k := vy - uy) (x := ux - ax) (y := ux - bx) (by omega) (by rw [k1, k2]; exact Or.inl ⟨g1, g2⟩)
          have e4 : Dt ax ay bx b_y ux uy = (ux - ax) * (ux - bx) := by unfold Dt; rw [e3, c5]; grind
          omega
        · have q2 : -U < 0 := tri (p := ay - uy) (q := vy - uy) (r := b_y - uy) (x := B) (z := -A) (by rw [show uy - ay = -(ay - uy) by omega, Int.neg_mul] at iu; simp only [Int.mul_neg]; omega) (by omega) (by omega) (by omega) g2 (by omega)
          exact n0 ⟨Or.inr ⟨by omega, q1⟩, Or.inl ⟨g1, g2⟩⟩
      clear ia ib iu iv
      (repeat' split) <;> omega
  · have zU : U ≠ 0 := fun z => by have := nu z; have := between_on (eU ▸ z) (show ay ≤ uy by omega) (show uy ≤ b_y by omega) (by omega); omega
    by_cases c4 : vy ≤ b_y
    · have zV : V ≠ 0 := fun z => by have := nv z; have := between_on (eV ▸ z) (show ay ≤ vy by omega) c4 (by omega); omega
      have f1 : ¬ (U < 0 ∧ 0 < V) := by
        rintro ⟨g1, g2⟩
        have q1 : -A < 0 := tri (p := vy - ay) (q := b_y - ay) (r := uy - ay) (x := -U) (z := V) (by rw [show ay - uy = -(uy - ay) by omega, Int.neg_mul] at ia; simp only [Int.mul_neg]; omega) (by omega) (by omega) (by omega) (by omega) g2
        by_cases c5 : uy = b_y
        · have e3 : vy = b_y := by omega
          have : B = 0 := by rw [eB, c5, e3]; unfold X; grind
          have hd := nb this
          have k1 : (b_y - ay) * (bx - ux) = U := by rw [eU, c5]; unfold X; grind
          have k2 : (b_y - ay) * (bx - vx) = V := by rw [eV, e3]; unfold X; grind
          have := opp (k := b_y - ay) (x := bx - ux) (y := bx - vx) (by omega) (by rw [k1, k2]; exact Or.inl ⟨g1, g2⟩)
          have e4 : Dt ux uy vx vy bx b_y = (bx - ux) * (bx - vx) := by unfold Dt; rw [c5, e3]; grind
          omega
        · have q2 : B < 0 := tri (p := b_y - vy) (q := b_y - ay) (r := b_y - uy) (x := -U) (z := V) (by rw [show vy - b_y = -(b_y - vy) by omega, Int.neg_mul] at ib; simp only [Int.mul_neg]; omega) (by omega) (by omega) (by omega) (by omega) g2
          exact n0 ⟨Or.inl ⟨g1, g2⟩, Or.inr ⟨by omega, q2⟩⟩
      have f2 : ¬ (0 < U ∧ V < 0) := by
        rintro ⟨g1, g2⟩
        have q1 : A < 0 := tri (p := vy - ay) (q := b_y - ay) (r := uy - ay) (x := U) (z := -V) (by rw [show ay - uy = -(uy - ay) by omega, Int.neg_mul] at ia; simp only [Int.mul_neg]; omega) (by omega) (by omega) (by omega) g1 (by omega)
        by_cases c5 : uy = b_y
        · have e3 : vy = b_y := by omega
          have : B = 0 := by rw [eB, c5, e3]; unfold X; grind
          have hd := nb this
          have k1 : (b_y - ay) * (bx - ux) = U := by rw [eU, c5]; unfold X; grind
          have k2 : (b_y - ay) * (bx - vx) = V := by rw [eV, e3]; unfold X; grind
          have := opp (k := b_y - ay) (x := bx - ux) (y := bx - vx) (by omega) (by rw [k1, k2]; exact Or.inr ⟨g1, g2⟩)
          have e4 : Dt ux uy vx vy bx b_y = (bx - ux) * (bx - vx) := by unfold Dt; rw [c5, e3]; grind
          omega
        · have q2 : -B < 0 := tri (p := b_y - vy) (q := b_y - ay) (r := b_y - uy) (x := U) (z := -V) (by rw [show vy - b_y = -(b_y - vy) by omega, Int.neg_mul] at ib; simp only [Int.mul_neg]; omega) (by omega) (by omega) (by omega) g1 (by omega)
          exact n0 ⟨Or.inr ⟨g1, g2⟩, Or.inl ⟨q1, by omega⟩⟩
      clear ia ib iu iv
      (repeat' split) <;> omega
    · have zB : B ≠ 0 := fun z => by have := nb z; have := between_on (eB ▸ z) (show uy ≤ b_y by omega) (show b_y ≤ vy by omega) (by omega); omega
      have f1 : ¬ (0 < B ∧ 0 < U) := by
        rintro ⟨g1, g2⟩
        have q1 : V < 0 := tri (p := vy - b_y) (q := b_y - uy) (r := b_y - ay) (x := U) (z := B) (by omega) (by omega) (by omega) (by omega) g2 g1
        have q2 : A < 0 := tri (p := uy - ay) (q := b_y - uy) (r := vy - uy) (x := B) (z := U) (by omega) (by omega) (by omega) (by omega) g1 g2
        exact n0 ⟨Or.inr ⟨g2, q1⟩, Or.inl ⟨q2, g1⟩⟩
      have f2 : ¬ (B < 0 ∧ U < 0) := by
        rintro ⟨g1, g2⟩
        have q1 : -V < 0 := tri (p := vy - b_y) (q := b_y - uy) (r := b_y - ay) (x := -U) (z := -B) (by simp only [Int.mul_neg]; omega) (by omega) (by omega) (by omega) (by omega) (by omega)
        have q2 : -A < 0 := tri (p := uy - ay) (q := b_y - uy) (r := vy - uy) (x := -B) (z := -U) (by simp only [Int.mul_neg]; omega) (by omega) (by omega) (by omega) (by omega) (by omega)
        exact n0 ⟨Or.inl ⟨g2, by omega⟩, Or.inr ⟨by omega, g1⟩⟩
      clear ia ib iu iv
      (repeat' split) <;> omega
/-- Which vertices are swept by the ray from the points of a way. -/
def gN (a b u : S25) : Int := if (a.f1 < u.f1 ∧ u.f1 ≤ b.f1 ∧ Xp a b u < 0) ∨ (b.f1 < u.f1 ∧ u.f1 ≤ a.f1 ∧ 0 < Xp a b u) then 1 else 0
theorem crN_eq (u v : S25) (x y : Int) : crN u v x y = if (u.f1 ≤ y ∧ y < v.f1 ∧ 0 < X u.f0 u.f1 v.f0 v.f1 x y) ∨ (v.f1 ≤ y ∧ y < u.f1 ∧ X u.f0 u.f1 v.f0 v.f1 x y < 0) then 1 else 0 := by
  unfold crN crossE
  simp only [Bool.or_eq_true, Bool.and_eq_true, decide_eq_true_eq, and_assoc, gt_iff_lt]
theorem crN_sw (u v : S25) (x y : Int) : crN v u x y = crN u v x y := by
  have e : X v.f0 v.f1 u.f0 u.f1 x y = -X u.f0 u.f1 v.f0 v.f1 x y := by unfold X; grind
  rw [crN_eq, crN_eq, e]
  (repeat' split) <;> omega
theorem gN_sw (a b u : S25) : gN b a u = gN a b u := by
  unfold gN
  rw [Xp_sw a b u]
  (repeat' split) <;> omega
theorem par1 {a b u v : S25} (h : NC a b u v) (h1 : a.f1 ≤ b.f1) (h2 : u.f1 ≤ v.f1) : (crN u v a.f0 a.f1 + crN u v b.f0 b.f1 + gN a b u + gN a b v) % 2 = 0 := by
  have m := par0 (ax := a.f0) (ay := a.f1) (bx := b.f0) (b_y := b.f1) (ux := u.f0) (uy := u.f1) (vx := v.f0) (vy := v.f1) rfl rfl rfl rfl h1 h2 h.n0 h.nu h.nv h.na h.nb
  rw [crN_eq, crN_eq]
  unfold gN
  unfold Xp
  revert m
  generalize X u.f0 u.f1 v.f0 v.f1 a.f0 a.f1 = A
  generalize X u.f0 u.f1 v.f0 v.f1 b.f0 b.f1 = B
  generalize X a.f0 a.f1 b.f0 b.f1 u.f0 u.f1 = U
  generalize X a.f0 a.f1 b.f0 b.f1 v.f0 v.f1 = V
  intro m
  have t : ∀ (P Q : Prop) [Decidable P] [Decidable Q], (P ↔ Q) → (if P then (1 : Int) else 0) = if Q then 1 else 0 := fun P Q _ _ hpq => by
    by_cases hP : P
    · rw [if_pos hP, if_pos (hpq.1 hP)]
    · rw [if_neg hP, if_neg (fun g => hP (hpq.2 g))]
  have q1 := t ((u.f1 ≤ a.f1 ∧ a.f1 < v.f1 ∧ 0 < A) ∨ (v.f1 ≤ a.f1 ∧ a.f1 < u.f1 ∧ A < 0)) (u.f1 ≤ a.f1 ∧ a.f1 < v.f1 ∧ 0 < A) (by omega)
  have q2 := t ((u.f1 ≤ b.f1 ∧ b.f1 < v.f1 ∧ 0 < B) ∨ (v.f1 ≤ b.f1 ∧ b.f1 < u.f1 ∧ B < 0)) (u.f1 ≤ b.f1 ∧ b.f1 < v.f1 ∧ 0 < B) (by omega)
  have q3 := t ((a.f1 < u.f1 ∧ u.f1 ≤ b.f1 ∧ U < 0) ∨ (b.f1 < u.f1 ∧ u.f1 ≤ a.f1 ∧ 0 < U)) (a.f1 < u.f1 ∧ u.f1 ≤ b.f1 ∧ U < 0) (by omega)
  have q4 := t ((a.f1 < v.f1 ∧ v.f1 ≤ b.f1 ∧ V < 0) ∨ (b.f1 < v.f1 ∧ v.f1 ≤ a.f1 ∧ 0 < V)) (a.f1 < v.f1 ∧ v.f1 ≤ b.f1 ∧ V < 0) (by omega)
  rw [q1, q2, q3, q4]
  exact m
/-- An edge without a common point with a way: the rays from the ends of the way cross it as often (but for even numbers) as it leaves what the ray sweeps. -/
theorem par {a b u v : S25} (h : NC a b u v) : (crN u v a.f0 a.f1 + crN u v b.f0 b.f1 + gN a b u + gN a b v) % 2 = 0 := by
  rcases Int.le_total a.f1 b.f1 with h1 | h1 <;> rcases Int.le_total u.f1 v.f1 with h2 | h2
  · exact par1 h h1 h2
  · have := par1 h.sym.sw.sym h1 h2
    rw [crN_sw u v, crN_sw u v] at this
    omega
  · have := par1 h.sw h1 h2
    rw [gN_sw a b, gN_sw a b] at this
    omega
  · have := par1 h.sw.sym.sw.sym h1 h2
    rw [crN_sw u v, crN_sw u v, gN_sw a b, gN_sw a b] at this
    omega
/-- Along a way that has no point in common with the edges, the position is the same. -/
theorem loc_same {l : List S25} (h3 : 0 < l.length) {a b : S25} (h : ∀ j, NC a b (cy l j) (cy l (j + 1))) (ha : ¬ OnAny l a.f0 a.f1) (hb : ¬ OnAny l b.f0 b.f1) : loc l a.f0 a.f1 = loc l b.f0 b.f1 := by
  rw [(loc_cy h3).2 ha, (loc_cy h3).2 hb]
  have e : ∀ d i, (sumN (cF l a.f0 a.f1) d i + sumN (cF l b.f0 b.f1) d i + sumN (fun j => gN a b (cy l j)) d i + sumN (fun j => gN a b (cy l (j + 1))) d i) % 2 = 0 := by
    intro d
    induction d with
    | zero => intro i; rfl
    | succ d ih =>
      intro i
      have h1 := ih (i + 1)
      have h2 := par (h i)
      simp only [sumN]
      unfold cF at h1 ⊢
      omega
  have e0 := e l.length 0
  have e1 : sumN (fun j => gN a b (cy l (j + 1))) l.length 0 = sumN (fun j => gN a b (cy l j)) l.length 0 :=
    (sumN_shift (fun j => gN a b (cy l j)) 1 l.length 0).trans (sumN_period (fun j => gN a b (cy l j)) l.length (fun j => by rw [cy_n]) _)
  unfold crossings
  rw [e1] at e0
  (repeat' split) <;> omega
/-- A segment meets a polygon. -/
def MeetP (l : List S25) (a b : S25) : Prop := 0 ≤ loc l a.f0 a.f1 ∨ ∃ j, ¬ NC a b (cy l j) (cy l (j + 1))
theorem nc_out {l : List S25} {a b : S25} (h : ∀ j, NC a b (cy l j) (cy l (j + 1))) : ¬ OnAny l a.f0 a.f1 ∧ ¬ OnAny l b.f0 b.f1 := by
  constructor
  · rintro ⟨j, hj⟩
    unfold onP at hj
    rw [Bool.and_eq_true, decide_eq_true_eq, decide_eq_true_eq] at hj
    have := (h j).na hj.1
    omega
  · rintro ⟨j, hj⟩
    unfold onP at hj
    rw [Bool.and_eq_true, decide_eq_true_eq, decide_eq_true_eq] at hj
    have := (h j).nb hj.1
    omega
theorem meet_sym {l : List S25} (h3 : 0 < l.length) {a b : S25} (h : MeetP l a b) : MeetP l b a := by
  by_cases c : ∀ j, NC a b (cy l j) (cy l (j + 1))
  · rcases h with h | ⟨j, hj⟩
    · obtain ⟨o1, o2⟩ := nc_out c
      left
      rw [← loc_same h3 c o1 o2]
      exact h
    · exact absurd (c j) hj
  · obtain ⟨j, hj⟩ := Classical.not_forall.1 c
    exact Or.inr ⟨j, fun g => hj g.sw⟩
theorem loc_out {l : List S25} (h3 : 0 < l.length) {x y : Int} (h : loc l x y < 0) (j : Nat) : ¬ (X (cy l j).f0 (cy l j).f1 (cy l (j + 1)).f0 (cy l (j + 1)).f1 x y = 0 ∧ Dt (cy l j).f0 (cy l j).f1 (cy l (j + 1)).f0 (cy l (j + 1)).f1 x y ≤ 0) := by
  rintro ⟨g1, g2⟩
  have := (loc_cy (x := x) (y := y) h3).1 ⟨j, by unfold onP; rw [decide_eq_true g1, decide_eq_true g2]; rfl⟩
  omega
theorem sq_sum_pos {x y : Int} (h : ¬ (x = 0 ∧ y = 0)) : 0 < x * x + y * y := by
  have h1 := sq_nonneg x
  have h2 := sq_nonneg y
  by_cases c : x = 0
  · have : 0 < y * y := by
      rcases Int.lt_or_lt_of_ne (show y ≠ 0 from fun g => h ⟨c, g⟩) with g | g
      · exact Int.mul_pos_of_neg_of_neg g g
      · exact Int.mul_pos g g
    omega
  · have : 0 < x * x := by
      rcases Int.lt_or_lt_of_ne c with g | g
      · exact Int.mul_pos_of_neg_of_neg g g
      · exact Int.mul_pos g g
    omega
theorem not_meet_same {l : List S25} (h3 : 0 < l.length) {a : S25} (ha : loc l a.f0 a.f1 < 0) : ¬ MeetP l a a := by
  rintro (h | ⟨j, hj⟩)
  · omega
  · apply hj
    have out := loc_out h3 ha j
    generalize cy l j = u at out
    generalize cy l (j + 1) = v at out
    have z : ∀ w, Xp a a w = 0 := fun w => by unfold Xp X; grind
    have n1 : ¬ (a.f0 - u.f0 = 0 ∧ a.f1 - u.f1 = 0) := by
      rintro ⟨g1, g2⟩
      have e1 : a.f0 = u.f0 := by omega
      have e2 : a.f1 = u.f1 := by omega
      exact out ⟨by rw [e1, e2]; unfold X; grind, by rw [e1, e2]; unfold Dt; grind⟩
    have n2 : ¬ (a.f0 - v.f0 = 0 ∧ a.f1 - v.f1 = 0) := by
      rintro ⟨g1, g2⟩
      have e1 : a.f0 = v.f0 := by omega
      have e2 : a.f1 = v.f1 := by omega
      exact out ⟨by rw [e1, e2]; unfold X; grind, by rw [e1, e2]; unfold Dt; grind⟩
    refine ⟨?_, fun _ => ?_, fun _ => ?_, fun g => ?_, fun g => ?_⟩
    · rw [z, z]; omega
    · unfold Dt; exact sq_sum_pos n1
    · unfold Dt; exact sq_sum_pos n2
    · rcases Int.lt_or_le 0 (Dt u.f0 u.f1 v.f0 v.f1 a.f0 a.f1) with q | q
      · exact q
      · exact absurd ⟨g, q⟩ out
    · rcases Int.lt_or_le 0 (Dt u.f0 u.f1 v.f0 v.f1 a.f0 a.f1) with q | q
      · exact q
      · exact absurd ⟨g, q⟩ out
theorem not_meet_side {l : List S25} (h3 : 0 < l.length) {a b : S25} (ha : loc l a.f0 a.f1 < 0) (hb : loc l b.f0 b.f1 < 0) (hs : (∀ j, j < l.length → 0 < Xp a b (Pt l j)) ∨ ∀ j, j < l.length → Xp a b (Pt l j) < 0) : ¬ MeetP l a b := by
  rintro (h | ⟨j, hj⟩)
  · omega
  · apply hj
    have oa := loc_out h3 ha j
    have ob := loc_out h3 hb j
    have hs' : (0 < Xp a b (cy l j) ∧ 0 < Xp a b (cy l (j + 1))) ∨ (Xp a b (cy l j) < 0 ∧ Xp a b (cy l (j + 1)) < 0) := by
      unfold cy
      rcases hs with hs | hs
      · exact Or.inl ⟨hs _ (Nat.mod_lt _ h3), hs _ (Nat.mod_lt _ h3)⟩
      · exact Or.inr ⟨hs _ (Nat.mod_lt _ h3), hs _ (Nat.mod_lt _ h3)⟩
    generalize cy l j = u at oa ob hs'
    generalize cy l (j + 1) = v at oa ob hs'
    refine ⟨by omega, fun _ => by omega, fun _ => by omega, fun g => ?_, fun g => ?_⟩
    · rcases Int.lt_or_le 0 (Dt u.f0 u.f1 v.f0 v.f1 a.f0 a.f1) with q | q
      · exact q
      · exact absurd ⟨g, q⟩ oa
    · rcases Int.lt_or_le 0 (Dt u.f0 u.f1 v.f0 v.f1 b.f0 b.f1) with q | q
      · exact q
      · exact absurd ⟨g, q⟩ ob
theorem edge_iff {l : List S25} (h3 : 0 < l.length) (R : S25 → S25 → Prop) : (∃ j, R (cy l j) (cy l (j + 1))) ↔ ∃ j, j < l.length ∧ R (Pt l (pv l.length j)) (Pt l j) := by
  constructor
  · rintro ⟨j, hj⟩
    have hlt : (j + 1) % l.length < l.length := Nat.mod_lt _ h3
    refine ⟨(j + 1) % l.length, hlt, ?_⟩
    have e1 : (j + 1) % l.length + l.length - 1 = (j + 1) % l.length + (l.length - 1) := by omega
    have e3 : cy l ((j + 1) % l.length) = cy l (j + 1) := cy_mod l (j + 1) 0
    rw [cy_pv hlt, e1, cy_mod, show j + 1 + (l.length - 1) = j + l.length by omega, cy_n, ← cy_lt hlt, e3]
    exact hj
  · rintro ⟨j, hj, h⟩
    refine ⟨j + l.length - 1, ?_⟩
    rw [show j + l.length - 1 + 1 = j + l.length by omega, cy_n, cy_lt hj, ← cy_pv hj]
    exact h
theorem meets_l (l : List S25) (hl : l.length ≤ 16) (hok : ∀ i, i < l.length → Okp (Pt l i)) {a b : S25} (ha : Okp a) (hb : Okp b) : ∀ (m k i : Nat), i + m = l.length → m + 1 < k →
    ∃ r, polygon_Meets.l1 k l l (l.length : Int) (i : Int) a.f0 a.f1 b.f0 b.f1 = some (r, 0) ∧ (r = true ↔ ∃ j, i ≤ j ∧ j < l.length ∧ cmn a b (Pt l (pv l.length j)) (Pt l j) = true)
  | 0, k, i, hi, hk => by
    obtain ⟨k, rfl⟩ : ∃ m, k = m + 1 := ⟨k - 1, by omega⟩
    rw [polygon_Meets.l1, if_neg (by omega)]
    exact ⟨false, rfl, ⟨fun h => (by cases h), fun ⟨j, h1, h2, _⟩ => by omega⟩⟩
  | m + 1, k, i, hi, hk => by
    obtain ⟨k, rfl⟩ : ∃ m, k = m + 2 := ⟨k - 2, by omega⟩
    have hlt : i < l.length := by omega
    have hn := pv_lt hlt
    have e1 : ∀ j : Nat, rd_T25 l (j : Int) = Pt l j := fun _ => rfl
    rw [polygon_Meets.l1, if_pos (by omega), if_pos (by omega), if_pos (by omega), if_neg (by omega), w64 (x := (i : Int) + (l.length : Int)) (by omega) (by omega), w64 (x := (i : Int) + (l.length : Int) - 1) (by omega) (by omega), md_pv hlt, if_pos (by omega), if_pos (by omega), e1, e1,
      common_p k ha hb (hok _ hn) (hok i hlt), Option.bind_some]
    by_cases c : cmn a b (Pt l (pv l.length i)) (Pt l i) = true
    · rw [if_pos c]
      exact ⟨true, rfl, ⟨fun _ => ⟨i, Nat.le_refl _, hlt, c⟩, fun _ => rfl⟩⟩
    · rw [if_neg c, w64 (by omega) (by omega), show ((i : Int) + 1) = ((i + 1 : Nat) : Int) by omega]
      obtain ⟨r, hr, hz⟩ := meets_l l hl hok ha hb m (k + 1) (i + 1) (by omega) (by omega)
      refine ⟨r, hr, hz.trans ⟨fun ⟨j, h1, h2, h3⟩ => ⟨j, by omega, h2, h3⟩, fun ⟨j, h1, h2, h3⟩ => ⟨j, ?_, h2, h3⟩⟩⟩
      rcases Nat.lt_or_ge i j with g | g
      · omega
      · obtain rfl : j = i := by omega
        exact absurd h3 c
theorem meets_f {l : List S25} (h : Valid l) (k : Nat) (hk : 500 ≤ k) (a b : S25) :
    (¬ (Okp a ∧ Okp b) ∧ polygon_Meets.f k l a.f0 a.f1 b.f0 b.f1 = some (false, 4)) ∨
    ((Okp a ∧ Okp b) ∧ ∃ r, polygon_Meets.f k l a.f0 a.f1 b.f0 b.f1 = some (r, 0) ∧ (r = true ↔ MeetP l a b)) := by
  obtain ⟨e, he, hz⟩ := pcheck l
  have h0 := hz.2 h
  obtain ⟨k, rfl⟩ : ∃ m, k = m + 3 := ⟨k - 3, by omega⟩
  have g1 : rd_T25 [(⟨a.f0, a.f1⟩ : S25), ⟨b.f0, b.f1⟩] 0 = a := rfl
  have g2 : rd_T25 [(⟨a.f0, a.f1⟩ : S25), ⟨b.f0, b.f1⟩] 1 = b := rfl
  have len : (([(⟨a.f0, a.f1⟩ : S25), ⟨b.f0, b.f1⟩] : List S25).length : Int) = 2 := rfl
  have w1 : wrap64 (0 + 1) = 1 := w64 (by decide) (by decide)
  have w2 : wrap64 (1 + 1) = 2 := w64 (by decide) (by decide)
  unfold polygon_Meets.f
  rw [he _ (by omega), h0, Option.bind_some, if_pos rfl, Option.bind_some, len, polygon_Meets.l0, len, if_pos (by decide), if_pos (by decide), if_pos (by decide), g1, check_f, Option.bind_some]
  by_cases ha : Ok a.f0 a.f1
  · rw [if_pos ha, if_pos rfl, w1, polygon_Meets.l0, len, if_pos (by decide), if_pos (by decide), if_pos (by decide), g2, check_f, Option.bind_some]
    by_cases hb : Ok b.f0 b.f1
    · right
      refine ⟨⟨ha, hb⟩, ?_⟩
      have h3 : 0 < l.length := by have := h.1.1; omega
      rw [if_pos hb, if_pos rfl, w2, polygon_Meets.l0, if_neg (by decide), locate_f l h.1.2 h.2.1 ha k (by omega), Option.bind_some]
      by_cases c : loc l a.f0 a.f1 ≥ 0
      · rw [if_pos c]; exact ⟨true, rfl, ⟨fun _ => Or.inl c, fun _ => rfl⟩⟩
      · rw [if_neg c]
        obtain ⟨r, hr, hrz⟩ := meets_l l h.1.2 h.2.1 (a := a) (b := b) ha hb l.length k 0 (by omega) (by have := h.1.2; omega)
        refine ⟨r, hr, hrz.trans ⟨fun ⟨j, _, h1, h2⟩ => Or.inr ?_, fun g => ?_⟩⟩
        · refine (edge_iff h3 (fun u v => ¬ NC a b u v)).2 ⟨j, h1, fun g => ?_⟩
          rw [nc_iff.2 g] at h2; cases h2
        · rcases g with g | g
          · exact absurd g c
          · obtain ⟨j, h1, h2⟩ := (edge_iff h3 (fun u v => ¬ NC a b u v)).1 g
            refine ⟨j, Nat.zero_le _, h1, ?_⟩
            cases q : cmn a b (Pt l (pv l.length j)) (Pt l j) with
            | true => rfl
            | false => exact absurd (nc_iff.1 q) h2
    · left
      rw [if_neg hb, if_neg (by decide)]
      exact ⟨fun g => hb g.2, rfl⟩
  · left
    rw [if_neg ha, if_neg (by decide)]
    exact ⟨fun g => ha g.1, rfl⟩
theorem polyWorks (k : Nat) (hk : 60 ≤ k) : skywaykeep1_polygonWorks.f k = some true := by
  have h : skywaykeep1_polygonWorks.f 60 = some true := by decide +kernel
  exact at_rounds skywaykeep1_polygonWorks.mono hk h
/-- The law's loop over the vertices. -/
theorem law_l {l : List S25} (h : Valid l) {a b : S25} (ha : Okp a) (hb : Okp b) (m : Bool) (hs : ((∀ j, j < l.length → 0 < Xp a b (Pt l j)) ∨ ∀ j, j < l.length → Xp a b (Pt l j) < 0) → m = false) (hab : a.f0 = b.f0 ∧ a.f1 = b.f1 → m = false) :
    ∀ (d k i : Nat) (u v : Int), i + d = l.length → d < k → 0 ≤ u → u ≤ i → 0 ≤ v → v ≤ i → (u = i → ∀ j, j < i → 0 < Xp a b (Pt l j)) → (v = i → ∀ j, j < i → Xp a b (Pt l j) < 0) →
    skywaykeep1_PolygonMeets.l0 k l m u v l (l.length : Int) (i : Int) a.f0 a.f1 b.f0 b.f1 = some true
  | 0, k, i, u, v, hi, hk, u1, u2, v1, v2, hu, hv => by
    obtain ⟨k, rfl⟩ : ∃ m, k = m + 1 := ⟨k - 1, by omega⟩
    obtain rfl : i = l.length := by omega
    rw [skywaykeep1_PolygonMeets.l0, if_neg (by omega)]
    cases m with
    | false =>
      by_cases c : (a.f0 == b.f0 && (a.f1 == b.f1)) = true
      · rw [if_pos c, if_neg (by decide)]
      · rw [if_neg c, if_neg (by decide)]
    | true =>
      have c : ¬ (a.f0 == b.f0 && (a.f1 == b.f1)) = true := by
        intro g
        rw [Bool.and_eq_true, beq_iff_eq, beq_iff_eq] at g
        have := hab g; cases this
      rw [if_neg c, if_pos rfl, if_pos]
      · congr 1
        refine decide_eq_true ?_
        rcases Int.lt_or_le v (l.length : Int) with g | g
        · exact g
        · have := hs (Or.inr (hv (by omega))); cases this
      · rcases Int.lt_or_le u (l.length : Int) with g | g
        · exact g
        · have := hs (Or.inl (hu (by omega))); cases this
  | d + 1, k, i, u, v, hi, hk, u1, u2, v1, v2, hu, hv => by
    obtain ⟨k, rfl⟩ : ∃ m, k = m + 1 := ⟨k - 1, by omega⟩
    have hlt : i < l.length := by omega
    have hl := h.1.2
    have e1 : ∀ j : Nat, rd_T25 l (j : Int) = Pt l j := fun _ => rfl
    have ht : plane_Turn.f a.f0 a.f1 b.f0 b.f1 (Pt l i).f0 (Pt l i).f1 = some (sg (Xp a b (Pt l i))) := turn_ok ha hb (h.2.1 i hlt)
    rw [skywaykeep1_PolygonMeets.l0, if_pos (by omega), if_pos (by omega), if_pos (by omega), e1, ht, Option.bind_some, w64 (x := (i : Int) + 1) (by omega) (by omega), show ((i : Int) + 1) = ((i + 1 : Nat) : Int) by omega]
    rcases Int.lt_trichotomy (Xp a b (Pt l i)) 0 with g | g | g
    · have es : sg (Xp a b (Pt l i)) = -1 := by unfold sg; rw [if_neg (by omega), if_pos g]
      rw [es, if_neg (by decide), if_pos rfl, w64 (by omega) (by omega)]
      refine law_l h ha hb m hs hab d k (i + 1) _ _ (by omega) (by omega) u1 (by omega) (by omega) (by omega) (fun q => by omega) (fun q j hj => ?_)
      by_cases hji : j = i
      · rw [hji]; exact g
      · exact hv (by omega) j (by omega)
    · have es : sg (Xp a b (Pt l i)) = 0 := by rw [g]; rfl
      rw [es, if_neg (by decide), if_neg (by decide)]
      exact law_l h ha hb m hs hab d k (i + 1) _ _ (by omega) (by omega) u1 (by omega) v1 (by omega) (fun q => by omega) (fun q => by omega)
    · have es : sg (Xp a b (Pt l i)) = 1 := by unfold sg; rw [if_pos g]
      rw [es, if_pos rfl, w64 (by omega) (by omega)]
      refine law_l h ha hb m hs hab d k (i + 1) _ _ (by omega) (by omega) (by omega) (by omega) v1 (by omega) (fun q j hj => ?_) (fun q => by omega)
      by_cases hji : j = i
      · rw [hji]; exact g
      · exact hu (by omega) j (by omega)
theorem PolygonMeets : skywaykeep1_PolygonMeets.Pure := by
  intro l ax ay bx b_y _ _ _ _ _
  refine ⟨600, ?_⟩
  unfold skywaykeep1_PolygonMeets.f
  rw [polyWorks 600 (by decide), Option.bind_some, if_pos rfl]
  obtain ⟨e, he, hz⟩ := pcheck l
  by_cases h0 : e = 0
  · have h := hz.1 h0
    have h3 : 0 < l.length := by have := h.1.1; omega
    rcases meets_f h 600 (by decide) ⟨ax, ay⟩ ⟨bx, b_y⟩ with ⟨_, ea⟩ | ⟨⟨ha, hb⟩, r, ea, hr⟩
    · dsimp only at ea
      rw [ea, Option.bind_some, if_neg (by decide)]; rfl
    · rcases meets_f h 600 (by decide) ⟨bx, b_y⟩ ⟨ax, ay⟩ with ⟨g, _⟩ | ⟨_, r2, ea2, hr2⟩
      · exact absurd ⟨hb, ha⟩ g
      have hsame : r2 = r := by
        rw [Bool.eq_iff_iff, hr, hr2]
        exact ⟨meet_sym h3, meet_sym h3⟩
      have hloc : ∀ x y, Ok x y → polygon_Locate.f 600 l x y = some (loc l x y, 0) := by
        intro x y hq
        unfold polygon_Locate.f
        rw [he 600 (by decide), h0, Option.bind_some, if_pos rfl, check_f, if_pos hq, Option.bind_some, if_pos rfl, locate_f l h.1.2 h.2.1 hq 600 (by decide), Option.bind_some]
      dsimp only at ea ea2
      rw [ea, Option.bind_some, if_pos rfl, hloc ax ay ha, Option.bind_some, hloc bx b_y hb, Option.bind_some, ea2, Option.bind_some, if_pos rfl, if_pos rfl, if_pos rfl, hsame]
      dsimp only
      rw [show (r != r) = false by simp, show (600 : Nat) = 599 + 1 from rfl, skywaykeep1_PolygonMeets.j0, if_neg (by decide)]
      have top : ∀ t : Bool, (t = true → 0 ≤ loc l ax ay ∨ 0 ≤ loc l bx b_y) → (t = false → loc l ax ay < 0 ∧ loc l bx b_y < 0) → skywaykeep1_PolygonMeets.j1 599 l r t ax ay bx b_y = some true := by
        intro t t1 t2
        rw [show (599 : Nat) = 598 + 1 from rfl, skywaykeep1_PolygonMeets.j1]
        cases t with
        | true =>
          rw [if_pos rfl]
          congr 1
          rcases t1 rfl with g | g
          · exact hr.2 (Or.inl g)
          · exact hr.2 (meet_sym h3 (Or.inl g))
        | false =>
          obtain ⟨g1, g2⟩ := t2 rfl
          rw [if_neg (by decide)]
          refine law_l h (a := ⟨ax, ay⟩) (b := ⟨bx, b_y⟩) ha hb r (fun hs => ?_) (fun hab => ?_) l.length 598 0 0 0 (by omega) (by have := h.1.2; omega) (by decide) (by decide) (by decide) (by decide) (fun _ j hj => by omega) (fun _ j hj => by omega)
          · rw [Bool.eq_false_iff]
            exact fun q => not_meet_side h3 g1 g2 hs (hr.1 q)
          · rw [Bool.eq_false_iff]
            intro q
            obtain ⟨q1, q2⟩ := hab
            dsimp only at q1 q2
            subst q1 q2
            exact not_meet_same h3 (a := ⟨ax, ay⟩) g1 (hr.1 q)
      by_cases c : loc l ax ay ≥ 0
      · rw [if_pos c]
        exact top true (fun _ => Or.inl c) (fun g => by cases g)
      · rw [if_neg c]
        exact top _ (fun g => Or.inr (of_decide_eq_true g)) (fun g => ⟨by omega, by have := of_decide_eq_false g; omega⟩)
  · have e1 : polygon_Meets.f 600 l ax ay bx b_y = some (false, e) := by
      unfold polygon_Meets.f
      rw [he 600 (by decide), Option.bind_some, if_neg h0]
    rw [e1, Option.bind_some, if_neg h0]; rfl

end Go.Proofs.Yteaddpieonkboaa.Pure
