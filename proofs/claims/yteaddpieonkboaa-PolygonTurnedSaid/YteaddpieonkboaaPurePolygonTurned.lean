/- PolygonTurned: for all polygons, points and numbers k, the polygon that begins with vertex k has the same area, and the point has the same position in it. -/
import Derived.Test.YteaddpieonkboaaPPolygonTurnedx
import Derived.Test.YteaddpieonkboaaMath
import Derived.Laws.MathBits
namespace Go.Proofs.Yteaddpieonkboaa.Pure
open Go Go.RowKit Go.Proofs.Yteaddpieonkboaa.PPolygonTurned Go.Proofs.YteaddpieonkboaaW.PrintWords Go.Proofs.YteaddpieonkboaaW.PrintLast Go.Proofs.YteaddpieonkboaaM

/-- A permitted coordinate. -/
def Ok (x y : Int) : Prop := -1000000 ≤ x ∧ x ≤ 1000000 ∧ -1000000 ≤ y ∧ y ≤ 1000000
instance (x y : Int) : Decidable (Ok x y) := inferInstanceAs (Decidable (_ ∧ _))
def S (x y : Int) : Int := x * x + y * y
theorem S_nonneg (x y : Int) : 0 ≤ S x y := by have := sq_nonneg x; have := sq_nonneg y; unfold S; omega
theorem square {ax ay bx b_y : Int} (h1 : -2000000000 ≤ ax - bx) (h2 : ax - bx ≤ 2000000000) (h3 : -2000000000 ≤ ay - b_y) (h4 : ay - b_y ≤ 2000000000) :
    plane_Square.f ax ay bx b_y = some (S (ax - bx) (ay - b_y)) ∧ S (ax - bx) (ay - b_y) ≤ 8000000000000000000 := by
  have q1 := sq_bd h1 h2
  have q2 := sq_bd h3 h4
  have p1 := sq_nonneg (ax - bx)
  have p2 := sq_nonneg (ay - b_y)
  refine ⟨?_, by unfold S; omega⟩
  unfold plane_Square.f plane_Sub.f plane_Dot.f S
  rw [w64 (by omega) (by omega), w64 (by omega) (by omega)]
  simp only [Option.bind_some]
  rw [w64 (x := (ax - bx) * (ax - bx)) (by omega) (by omega), w64 (x := (ay - b_y) * (ay - b_y)) (by omega) (by omega), w64 (by omega) (by omega)]
theorem check_f (x y : Int) : plane_Check.f x y = some (if Ok x y then 0 else 4) := by
  unfold plane_Check.f
  by_cases c : Ok x y
  · rw [if_pos c]
    obtain ⟨c1, c2, c3, c4⟩ := c
    rw [if_neg (by omega), if_neg (by omega), if_neg (by omega), if_neg (by omega)]
  · rw [if_neg c]
    by_cases c1 : x < -1000000
    · rw [if_pos c1]
    · rw [if_neg c1]
      by_cases c2 : x > 1000000
      · rw [if_pos c2]
      · rw [if_neg c2]
        by_cases c3 : y < -1000000
        · rw [if_pos c3]
        · rw [if_neg c3, if_pos (by
            rcases Int.lt_or_le 1000000 y with h | h
            · exact h
            · exact absurd (show Ok x y from ⟨by omega, by omega, by omega, h⟩) c)]
/-- The cross product of b - a and c - a. -/
def X (ax ay bx b_y cx cy : Int) : Int := (bx - ax) * (cy - ay) - (b_y - ay) * (cx - ax)
def sg (x : Int) : Int := if x > 0 then 1 else if x < 0 then -1 else 0
theorem turn {ax ay bx b_y cx cy : Int} (h1 : -2000000000 ≤ bx - ax) (h2 : bx - ax ≤ 2000000000) (h3 : -2000000000 ≤ b_y - ay) (h4 : b_y - ay ≤ 2000000000)
    (h5 : -2000000000 ≤ cx - ax) (h6 : cx - ax ≤ 2000000000) (h7 : -2000000000 ≤ cy - ay) (h8 : cy - ay ≤ 2000000000) :
    plane_Turn.f ax ay bx b_y cx cy = some (sg (X ax ay bx b_y cx cy)) := by
  have m1 := mul_bd h1 h2 h7 h8
  have m2 := mul_bd h3 h4 h5 h6
  unfold plane_Turn.f plane_Sub.f plane_Cross.f X sg
  simp only [Option.bind_some]
  rw [w64 (x := bx - ax) (by omega) (by omega), w64 (x := b_y - ay) (by omega) (by omega), w64 (x := cx - ax) (by omega) (by omega), w64 (x := cy - ay) (by omega) (by omega),
    w64 (x := (bx - ax) * (cy - ay)) (by omega) (by omega), w64 (x := (b_y - ay) * (cx - ax)) (by omega) (by omega), w64 (by omega) (by omega)]
  split
  · rfl
  · split <;> rfl
theorem sg_neg (x : Int) : sg (-x) = -sg x := by unfold sg; (repeat' split) <;> omega
theorem sg_rng (x : Int) : -1 ≤ sg x ∧ sg x ≤ 1 := by unfold sg; (repeat' split) <;> omega
/-- The scalar product of the ways from a point to two others. -/
def Dt (ax ay bx b_y px py : Int) : Int := (ax - px) * (bx - px) + (ay - py) * (b_y - py)
theorem on_f {ax ay bx b_y px py : Int} (ha : Ok ax ay) (hb : Ok bx b_y) (hp : Ok px py) : polygon_on.f ax ay bx b_y px py = some (decide (Dt ax ay bx b_y px py ≤ 0)) := by
  obtain ⟨a1, a2, a3, a4⟩ := ha
  obtain ⟨b1, b2, b3, b4⟩ := hb
  obtain ⟨p1, p2, p3, p4⟩ := hp
  have m1 := mul_bd (show -2000000 ≤ ax - px by omega) (show ax - px ≤ 2000000 by omega) (show -2000000 ≤ bx - px by omega) (show bx - px ≤ 2000000 by omega)
  have m2 := mul_bd (show -2000000 ≤ ay - py by omega) (show ay - py ≤ 2000000 by omega) (show -2000000 ≤ b_y - py by omega) (show b_y - py ≤ 2000000 by omega)
  unfold polygon_on.f plane_Sub.f plane_Dot.f Dt
  simp only [Option.bind_some]
  rw [w64 (x := ax - px) (by omega) (by omega), w64 (x := ay - py) (by omega) (by omega), w64 (x := bx - px) (by omega) (by omega), w64 (x := b_y - py) (by omega) (by omega),
    w64 (x := (ax - px) * (bx - px)) (by omega) (by omega), w64 (x := (ay - py) * (b_y - py)) (by omega) (by omega), w64 (by omega) (by omega)]
theorem turn_ok {ax ay bx b_y cx cy : Int} (ha : Ok ax ay) (hb : Ok bx b_y) (hc : Ok cx cy) : plane_Turn.f ax ay bx b_y cx cy = some (sg (X ax ay bx b_y cx cy)) := by
  obtain ⟨a1, a2, a3, a4⟩ := ha
  obtain ⟨b1, b2, b3, b4⟩ := hb
  obtain ⟨c1, c2, c3, c4⟩ := hc
  exact turn (by omega) (by omega) (by omega) (by omega) (by omega) (by omega) (by omega) (by omega)
def comB (s t u v : Int) (o1 o2 o3 o4 : Bool) : Bool := (decide (s * t < 0) && decide (u * v < 0)) || (decide (s = 0) && o1) || (decide (t = 0) && o2) || (decide (u = 0) && o3) || (decide (v = 0) && o4)
theorem com_j0 (k : Nat) (s t u v : Int) (x : Bool) {ax ay bx b_y cx cy dx dy : Int} (o1 o2 o3 o4 : Bool)
    (h1 : polygon_on.f ax ay bx b_y cx cy = some o1) (h2 : polygon_on.f ax ay bx b_y dx dy = some o2) (h3 : polygon_on.f cx cy dx dy ax ay = some o3) (h4 : polygon_on.f cx cy dx dy bx b_y = some o4) :
    polygon_Common.j0 (k + 1) s t u v x ax ay bx b_y cx cy dx dy = some (x || (decide (s = 0) && o1) || (decide (t = 0) && o2) || (decide (u = 0) && o3) || (decide (v = 0) && o4)) := by
  rw [polygon_Common.j0, h1, h2, h3, h4]
  simp only [Option.bind_some]
  cases x
  · by_cases c1 : s = 0 <;> by_cases c2 : t = 0 <;> by_cases c3 : u = 0 <;> by_cases c4 : v = 0 <;> cases o1 <;> cases o2 <;> cases o3 <;> cases o4 <;> simp [c1, c2, c3, c4]
  · simp
theorem common_f (k : Nat) {ax ay bx b_y cx cy dx dy : Int} (ha : Ok ax ay) (hb : Ok bx b_y) (hc : Ok cx cy) (hd : Ok dx dy) :
    polygon_Common.f (k + 1) ax ay bx b_y cx cy dx dy = some (comB (sg (X ax ay bx b_y cx cy)) (sg (X ax ay bx b_y dx dy)) (sg (X cx cy dx dy ax ay)) (sg (X cx cy dx dy bx b_y))
      (decide (Dt ax ay bx b_y cx cy ≤ 0)) (decide (Dt ax ay bx b_y dx dy ≤ 0)) (decide (Dt cx cy dx dy ax ay ≤ 0)) (decide (Dt cx cy dx dy bx b_y ≤ 0))) := by
  have r1 := sg_rng (X ax ay bx b_y cx cy)
  have r2 := sg_rng (X ax ay bx b_y dx dy)
  have r3 := sg_rng (X cx cy dx dy ax ay)
  have r4 := sg_rng (X cx cy dx dy bx b_y)
  unfold polygon_Common.f
  rw [turn_ok ha hb hc, turn_ok ha hb hd, turn_ok hc hd ha, turn_ok hc hd hb]
  simp only [Option.bind_some]
  have m1 := mul_bd r1.1 r1.2 r2.1 r2.2
  have m2 := mul_bd r3.1 r3.2 r4.1 r4.2
  rw [w64 (by omega) (by omega), w64 (by omega) (by omega), com_j0 k _ _ _ _ _ _ _ _ _ (on_f ha hb hc) (on_f ha hb hd) (on_f hc hd ha) (on_f hc hd hb), com_j0 k _ _ _ _ _ _ _ _ _ (on_f ha hb hc) (on_f ha hb hd) (on_f hc hd ha) (on_f hc hd hb)]
  unfold comB
  by_cases c : sg (X ax ay bx b_y cx cy) * sg (X ax ay bx b_y dx dy) < 0
  · rw [if_pos c, decide_eq_true c, Bool.true_and]
  · rw [if_neg c, decide_eq_false c, Bool.false_and]
/-- Vertex i. -/
def Pt (l : List S25) (i : Nat) : S25 := rd_T25 l (i : Int)
def Okp (p : S25) : Prop := Ok p.f0 p.f1
def Xp (a b c : S25) : Int := X a.f0 a.f1 b.f0 b.f1 c.f0 c.f1
def crs (a b : S25) : Int := a.f0 * b.f1 - a.f1 * b.f0
def cmn (a b c d : S25) : Bool := comB (sg (Xp a b c)) (sg (Xp a b d)) (sg (Xp c d a)) (sg (Xp c d b)) (decide (Dt a.f0 a.f1 b.f0 b.f1 c.f0 c.f1 ≤ 0)) (decide (Dt a.f0 a.f1 b.f0 b.f1 d.f0 d.f1 ≤ 0)) (decide (Dt c.f0 c.f1 d.f0 d.f1 a.f0 a.f1 ≤ 0)) (decide (Dt c.f0 c.f1 d.f0 d.f1 b.f0 b.f1 ≤ 0))
theorem sg_zero (x : Int) : sg x = 0 ↔ x = 0 := by unfold sg; (repeat' split) <;> omega
def nx (n i : Nat) : Nat := if i + 1 < n then i + 1 else i + 1 - n
def nx2 (n i : Nat) : Nat := if i + 2 < n then i + 2 else i + 2 - n
def pv (n i : Nat) : Nat := if i = 0 then n - 1 else i - 1
theorem nx_lt {n i : Nat} (h : i < n) : nx n i < n := by unfold nx; split <;> omega
theorem nx2_lt {n i : Nat} (h : i < n) (h2 : 2 ≤ n) : nx2 n i < n := by unfold nx2; split <;> omega
theorem pv_lt {n i : Nat} (h : i < n) : pv n i < n := by unfold pv; split <;> omega
theorem md_lt {a n : Int} (h0 : 0 ≤ a) (h : a < n) : Int.tmod a n = a := by rw [Int.tmod_eq_emod_of_nonneg h0, Int.emod_eq_of_lt h0 h]
theorem md_add {a n : Int} (h0 : 0 ≤ a) (h : a < n) : Int.tmod (a + n) n = a := by
  rw [Int.tmod_eq_emod_of_nonneg (by omega)]
  have : (a + n) % n = a % n := by simp
  rw [this, Int.emod_eq_of_lt h0 h]
theorem md_nx {n i : Nat} (h : i < n) : Int.tmod ((i : Int) + 1) (n : Int) = ((nx n i : Nat) : Int) := by
  unfold nx
  split
  · rw [md_lt (by omega) (by omega)]; omega
  · have e : (i : Int) + 1 = ((i + 1 - n : Nat) : Int) + n := by omega
    rw [e, md_add (by omega) (by omega)]
theorem md_nx2 {n i : Nat} (h : i < n) (h2 : 2 ≤ n) : Int.tmod ((i : Int) + 2) (n : Int) = ((nx2 n i : Nat) : Int) := by
  unfold nx2
  split
  · rw [md_lt (by omega) (by omega)]; omega
  · have e : (i : Int) + 2 = ((i + 2 - n : Nat) : Int) + n := by omega
    rw [e, md_add (by omega) (by omega)]
theorem md_pv {n i : Nat} (h : i < n) : Int.tmod ((i : Int) + n - 1) (n : Int) = ((pv n i : Nat) : Int) := by
  unfold pv
  split
  · rw [md_lt (by omega) (by omega)]; omega
  · have e : (i : Int) + n - 1 = ((i - 1 : Nat) : Int) + n := by omega
    rw [e, md_add (by omega) (by omega)]
theorem crs_bd {a b : S25} (ha : Okp a) (hb : Okp b) : -4000000000000 ≤ crs a b ∧ crs a b ≤ 4000000000000 ∧ plane_Cross.f a.f0 a.f1 b.f0 b.f1 = some (crs a b) := by
  obtain ⟨a1, a2, a3, a4⟩ := ha
  obtain ⟨b1, b2, b3, b4⟩ := hb
  have m1 := mul_bd a1 a2 b3 b4
  have m2 := mul_bd a3 a4 b1 b2
  unfold plane_Cross.f crs
  refine ⟨by omega, by omega, ?_⟩
  rw [w64 (x := a.f0 * b.f1) (by omega) (by omega), w64 (x := a.f1 * b.f0) (by omega) (by omega), w64 (by omega) (by omega)]
/-- The cross products from vertex i on, d of them. -/
def dblS (l : List S25) : Nat → Nat → Int
  | 0, _ => 0
  | d + 1, i => crs (Pt l i) (Pt l (nx l.length i)) + dblS l d (i + 1)
theorem double_l (l : List S25) (hl : l.length ≤ 16) (hok : ∀ i, i < l.length → Okp (Pt l i)) (d : Nat) : ∀ (k i : Nat) (a : Int), i + d = l.length → d < k →
    -1000000000000000 + (d : Int) * 4000000000000 ≤ a → a ≤ 1000000000000000 - (d : Int) * 4000000000000 → polygon_double.l0 k l a l (l.length : Int) (i : Int) = some (a + dblS l d i) := by
  induction d with
  | zero =>
    intro k i a hi hk _ _
    obtain ⟨k, rfl⟩ : ∃ m, k = m + 1 := ⟨k - 1, by omega⟩
    rw [polygon_double.l0, if_neg (by omega), dblS, Int.add_zero]
  | succ d ih =>
    intro k i a hi hk h1 h2
    obtain ⟨k, rfl⟩ : ∃ m, k = m + 1 := ⟨k - 1, by omega⟩
    have hlt : i < l.length := by omega
    have hn := nx_lt hlt
    obtain ⟨c1, c2, c3⟩ := crs_bd (hok i hlt) (hok _ hn)
    have e1 : rd_T25 l (i : Int) = Pt l i := rfl
    have e2 : rd_T25 l ((nx l.length i : Nat) : Int) = Pt l (nx l.length i) := rfl
    rw [polygon_double.l0, if_pos (by omega), if_pos (by omega), if_pos (by omega), if_neg (by omega), w64 (x := (i : Int) + 1) (by omega) (by omega), md_nx hlt, if_pos (by omega), if_pos (by omega), e1, e2, c3, Option.bind_some, w64 (x := a + crs (Pt l i) (Pt l (nx l.length i))) (by omega) (by omega),
      show ((i : Int) + 1) = ((i + 1 : Nat) : Int) by omega, ih k (i + 1) _ (by omega) (by omega) (by omega) (by omega), dblS, Int.add_assoc]
theorem common_p (k : Nat) {a b c d : S25} (ha : Okp a) (hb : Okp b) (hc : Okp c) (hd : Okp d) : polygon_Common.f (k + 1) a.f0 a.f1 b.f0 b.f1 c.f0 c.f1 d.f0 d.f1 = some (cmn a b c d) := common_f k ha hb hc hd
/-- Edge i has no point in common with the edges from m on, but for its neighbours. -/
def C2 (l : List S25) (i m : Nat) : Prop := ∀ j, m ≤ j → j < l.length → nx l.length j ≠ i → cmn (Pt l i) (Pt l (i + 1)) (Pt l j) (Pt l (nx l.length j)) = false
def C1 (l : List S25) (i : Nat) : Prop := ∀ i', i ≤ i' → i' < l.length → Xp (Pt l i') (Pt l (nx l.length i')) (Pt l (nx2 l.length i')) ≠ 0 ∧ C2 l i' (i' + 2)
theorem check_l2 (l : List S25) (hl : l.length ≤ 16) (hok : ∀ i, i < l.length → Okp (Pt l i)) (i : Nat) (hi : i < l.length) (R : Prop) (K : Nat)
    (hnext : ∀ k, K ≤ k → ∃ e, polygon_Check.l1 k l (l.length : Int) (l.length : Int) ((i + 1 : Nat) : Int) = some e ∧ (e = 0 ↔ R)) :
    ∀ (d k m : Nat), i + 2 ≤ m → m ≤ 20 → l.length - m = d → K + d + 2 ≤ k → ∃ e, polygon_Check.l2 k l (l.length : Int) (i : Int) (m : Int) (l.length : Int) (i : Int) = some e ∧ (e = 0 ↔ C2 l i m ∧ R)
  | 0, k, m, hm, hm2, hd, hk => by
    obtain ⟨k, rfl⟩ : ∃ q, k = q + 1 := ⟨k - 1, by omega⟩
    rw [polygon_Check.l2, if_neg (by omega), w64 (by omega) (by omega), show ((i : Int) + 1) = ((i + 1 : Nat) : Int) by omega]
    obtain ⟨e, he, hz⟩ := hnext k (by omega)
    exact ⟨e, he, hz.trans ⟨fun h => ⟨fun j h1 h2 => by omega, h⟩, fun h => h.2⟩⟩
  | d + 1, k, m, hm, hm2, hd, hk => by
    obtain ⟨k, rfl⟩ : ∃ q, k = q + 2 := ⟨k - 2, by omega⟩
    have hlt : m < l.length := by omega
    have hn := nx_lt hlt
    have e1 : ∀ j : Nat, rd_T25 l (j : Int) = Pt l j := fun _ => rfl
    obtain ⟨e, he, hz⟩ := check_l2 l hl hok i hi R K hnext d (k + 1) (m + 1) (by omega) (by omega) (by omega) (by omega)
    have hstep : C2 l i m ↔ (nx l.length m ≠ i → cmn (Pt l i) (Pt l (i + 1)) (Pt l m) (Pt l (nx l.length m)) = false) ∧ C2 l i (m + 1) := by
      refine ⟨fun h => ⟨fun g => h m (Nat.le_refl _) hlt g, fun j h1 h2 => h j (by omega) h2⟩, fun h j h1 h2 h3 => ?_⟩
      by_cases hj : j = m
      · subst hj; exact h.1 h3
      · exact h.2 j (by omega) h2 h3
    rw [polygon_Check.l2, if_pos (by omega), if_neg (by omega), w64 (x := (m : Int) + 1) (by omega) (by omega), md_nx hlt, show ((m : Int) + 1) = ((m + 1 : Nat) : Int) by omega, he]
    by_cases c : nx l.length m = i
    · rw [if_pos (by omega)]
      exact ⟨e, rfl, by rw [hz, hstep]; exact ⟨fun h => ⟨⟨fun g => absurd c g, h.1⟩, h.2⟩, fun h => ⟨h.1.2, h.2⟩⟩⟩
    · rw [if_neg (by omega), if_pos (by omega), if_pos (by omega), w64 (x := (i : Int) + 1) (by omega) (by omega), if_pos (by omega), if_pos (by omega), if_pos (by omega), if_pos (by omega), if_pos (by omega), if_pos (by omega), show ((i : Int) + 1) = ((i + 1 : Nat) : Int) by omega, e1, e1, e1, e1,
        common_p k (hok i hi) (hok (i + 1) (by omega)) (hok m hlt) (hok _ hn), Option.bind_some]
      by_cases cc : cmn (Pt l i) (Pt l (i + 1)) (Pt l m) (Pt l (nx l.length m)) = true
      · rw [if_pos cc]
        exact ⟨3, rfl, ⟨fun h => by omega, fun h => by rw [(hstep.1 h.1).1 c] at cc; cases cc⟩⟩
      · rw [if_neg cc]
        exact ⟨e, rfl, by rw [hz, hstep]; exact ⟨fun h => ⟨⟨fun _ => by simpa using cc, h.1⟩, h.2⟩, fun h => ⟨h.1.2, h.2⟩⟩⟩
theorem check_l1 (l : List S25) (hl : l.length ≤ 16) (hl3 : 3 ≤ l.length) (hok : ∀ i, i < l.length → Okp (Pt l i)) :
    ∀ (d k i : Nat), i + d = l.length → d * 22 + 20 ≤ k → ∃ e, polygon_Check.l1 k l (l.length : Int) (l.length : Int) (i : Int) = some e ∧ (e = 0 ↔ C1 l i ∧ 0 < dblS l l.length 0)
  | 0, k, i, hi, hk => by
    obtain ⟨k, rfl⟩ : ∃ q, k = q + 1 := ⟨k - 1, by omega⟩
    have hd : polygon_double.l0 k l 0 l (l.length : Int) 0 = some (0 + dblS l l.length 0) := double_l l hl hok l.length k 0 0 (by omega) (by omega) (by omega) (by omega)
    rw [polygon_Check.l1, if_neg (by omega), polygon_double.f, hd, Option.bind_some, Int.zero_add]
    by_cases c : dblS l l.length 0 ≤ 0
    · rw [if_pos c]; exact ⟨3, rfl, ⟨fun h => by omega, fun h => by omega⟩⟩
    · rw [if_neg c]; exact ⟨0, rfl, ⟨fun _ => ⟨fun j h1 h2 => by omega, by omega⟩, fun _ => rfl⟩⟩
  | d + 1, k, i, hi, hk => by
    obtain ⟨k, rfl⟩ : ∃ q, k = q + 1 := ⟨k - 1, by omega⟩
    have hlt : i < l.length := by omega
    have hn := nx_lt hlt
    have hn2 := nx2_lt hlt (by omega)
    have e1 : ∀ j : Nat, rd_T25 l (j : Int) = Pt l j := fun _ => rfl
    have ht : plane_Turn.f (Pt l i).f0 (Pt l i).f1 (Pt l (nx l.length i)).f0 (Pt l (nx l.length i)).f1 (Pt l (nx2 l.length i)).f0 (Pt l (nx2 l.length i)).f1 = some (sg (Xp (Pt l i) (Pt l (nx l.length i)) (Pt l (nx2 l.length i)))) := turn_ok (hok i hlt) (hok _ hn) (hok _ hn2)
    have hstep : C1 l i ↔ (Xp (Pt l i) (Pt l (nx l.length i)) (Pt l (nx2 l.length i)) ≠ 0 ∧ C2 l i (i + 2)) ∧ C1 l (i + 1) := by
      refine ⟨fun h => ⟨h i (Nat.le_refl _) hlt, fun j h1 h2 => h j (by omega) h2⟩, fun h j h1 h2 => ?_⟩
      by_cases hj : j = i
      · subst hj; exact h.1
      · exact h.2 j (by omega) h2
    rw [polygon_Check.l1, if_pos (by omega), if_pos (by omega), if_pos (by omega), if_neg (by omega), w64 (x := (i : Int) + 1) (by omega) (by omega), w64 (x := (i : Int) + 2) (by omega) (by omega), md_nx hlt, md_nx2 hlt (by omega), if_pos (by omega), if_pos (by omega), if_pos (by omega), if_pos (by omega), e1, e1, e1, ht, Option.bind_some, show ((i : Int) + 2) = ((i + 2 : Nat) : Int) by omega]
    by_cases c : Xp (Pt l i) (Pt l (nx l.length i)) (Pt l (nx2 l.length i)) = 0
    · rw [if_pos ((sg_zero _).2 c)]
      exact ⟨3, rfl, ⟨fun h => by omega, fun h => absurd c (hstep.1 h.1).1.1⟩⟩
    · rw [if_neg (fun h => c ((sg_zero _).1 h))]
      obtain ⟨e, he, hz⟩ := check_l2 l hl hok i hlt (C1 l (i + 1) ∧ 0 < dblS l l.length 0) (d * 22 + 20) (fun k hk => check_l1 l hl hl3 hok d k (i + 1) (by omega) hk) (l.length - (i + 2)) k (i + 2) (by omega) (by omega) rfl (by omega)
      exact ⟨e, he, by rw [hz, hstep]; exact ⟨fun h => ⟨⟨⟨c, h.1⟩, h.2.1⟩, h.2.2⟩, fun h => ⟨h.1.1.2, h.1.2, h.2⟩⟩⟩
theorem check_l0 (l : List S25) (hl : l.length ≤ 16) (hl3 : 3 ≤ l.length) :
    ∀ (d k i : Nat), i + d = l.length → d + 400 ≤ k → (∀ j, j < i → Okp (Pt l j)) → ∃ e, polygon_Check.l0 k l l (l.length : Int) (i : Int) = some e ∧ (e = 0 ↔ (∀ j, j < l.length → Okp (Pt l j)) ∧ C1 l 0 ∧ 0 < dblS l l.length 0)
  | 0, k, i, hi, hk, hj => by
    obtain ⟨k, rfl⟩ : ∃ q, k = q + 1 := ⟨k - 1, by omega⟩
    have hok : ∀ j, j < l.length → Okp (Pt l j) := fun j h => hj j (by omega)
    rw [polygon_Check.l0, if_neg (by omega)]
    obtain ⟨e, he, hz⟩ := check_l1 l hl hl3 hok l.length k 0 (by omega) (by omega)
    exact ⟨e, he, hz.trans ⟨fun h => ⟨hok, h⟩, fun h => h.2⟩⟩
  | d + 1, k, i, hi, hk, hj => by
    obtain ⟨k, rfl⟩ : ∃ q, k = q + 1 := ⟨k - 1, by omega⟩
    have hlt : i < l.length := by omega
    have e1 : ∀ j : Nat, rd_T25 l (j : Int) = Pt l j := fun _ => rfl
    rw [polygon_Check.l0, if_pos (by omega), if_pos (by omega), if_pos (by omega), e1, check_f, Option.bind_some]
    by_cases c : Ok (Pt l i).f0 (Pt l i).f1
    · rw [if_pos c, if_pos rfl, w64 (by omega) (by omega), show ((i : Int) + 1) = ((i + 1 : Nat) : Int) by omega]
      exact check_l0 l hl hl3 d k (i + 1) (by omega) (by omega) (fun j h => by
        by_cases g : j = i
        · subst g; exact c
        · exact hj j (by omega))
    · rw [if_neg c, if_neg (by decide)]
      exact ⟨4, rfl, ⟨fun h => by omega, fun h => absurd (h.1 i hlt) c⟩⟩
/-- A valid polygon. -/
def Valid (l : List S25) : Prop := (3 ≤ l.length ∧ l.length ≤ 16) ∧ (∀ j, j < l.length → Okp (Pt l j)) ∧ C1 l 0 ∧ 0 < dblS l l.length 0
theorem pcheck (l : List S25) : ∃ e, (∀ k, 420 ≤ k → polygon_Check.f k l = some e) ∧ (e = 0 ↔ Valid l) := by
  have main : ∃ e, polygon_Check.f 420 l = some e ∧ (e = 0 ↔ Valid l) := by
    unfold polygon_Check.f
    by_cases h1 : (l.length : Int) > 16
    · rw [if_pos h1]; exact ⟨2, rfl, ⟨fun h => by omega, fun h => by have := h.1.2; omega⟩⟩
    · rw [if_neg h1]
      by_cases h2 : (l.length : Int) < 3
      · rw [if_pos h2]; exact ⟨3, rfl, ⟨fun h => by omega, fun h => by have := h.1.1; omega⟩⟩
      · rw [if_neg h2]
        obtain ⟨e, he, hz⟩ := check_l0 l (by omega) (by omega) l.length 420 0 (by omega) (by omega) (fun j h => by omega)
        exact ⟨e, he, hz.trans ⟨fun h => ⟨⟨by omega, by omega⟩, h⟩, fun h => h.2⟩⟩
  obtain ⟨e, he, hz⟩ := main
  exact ⟨e, fun k hk => at_rounds (fun k => polygon_Check.mono l k) hk he, hz⟩
/-- A point on an edge. -/
def onE (l : List S25) (x y : Int) (i : Nat) : Bool := decide (X (Pt l (pv l.length i)).f0 (Pt l (pv l.length i)).f1 (Pt l i).f0 (Pt l i).f1 x y = 0) && decide (Dt (Pt l (pv l.length i)).f0 (Pt l (pv l.length i)).f1 (Pt l i).f0 (Pt l i).f1 x y ≤ 0)
/-- Whether the ray from a point crosses an edge. -/
def crossE (a b : S25) (x y : Int) : Bool := (decide (a.f1 ≤ y ∧ y < b.f1) && decide (X a.f0 a.f1 b.f0 b.f1 x y > 0)) || (decide (b.f1 ≤ y ∧ y < a.f1) && decide (X a.f0 a.f1 b.f0 b.f1 x y < 0))
def locS (l : List S25) (x y : Int) : Nat → Nat → Int → Int
  | 0, _, v => v
  | d + 1, i, v => if onE l x y i = true then 0 else locS l x y d (i + 1) (if crossE (Pt l (pv l.length i)) (Pt l i) x y = true then -v else v)
theorem sg_pos (x : Int) : sg x > 0 ↔ x > 0 := by unfold sg; (repeat' split) <;> omega
theorem sg_lt (x : Int) : sg x < 0 ↔ x < 0 := by unfold sg; (repeat' split) <;> omega
theorem loc_j1 (k : Nat) (l l' : List S25) (v t n i x y bx b_y ax ay : Int) (hv : wrap64 (-v) = -v) : polygon_locate.j1 (k + 1) l v t l' n i false x y bx b_y ax ay =
    if (decide (ay ≤ y ∧ y < b_y) && decide (t > 0)) || (decide (b_y ≤ y ∧ y < ay) && decide (t < 0)) then polygon_locate.l0 k l (-v) l' n (wrap64 (i + 1)) x y else polygon_locate.l0 k l v l' n (wrap64 (i + 1)) x y := by
  rw [polygon_locate.j1, if_neg (by decide), hv]
  by_cases c1 : ay ≤ y <;> by_cases c2 : y < b_y <;> by_cases c3 : t > 0 <;> by_cases c4 : b_y ≤ y <;> by_cases c5 : y < ay <;> by_cases c6 : t < 0 <;> simp [c1, c2, c3, c4, c5, c6] <;> omega
theorem locate_l (l : List S25) (hl : l.length ≤ 16) (hok : ∀ i, i < l.length → Okp (Pt l i)) {x y : Int} (hq : Ok x y) : ∀ (d k i : Nat) (v : Int), i + d = l.length → 2 * d < k → -1 ≤ v → v ≤ 1 →
    polygon_locate.l0 k l v l (l.length : Int) (i : Int) x y = some (locS l x y d i v)
  | 0, k, i, v, hi, hk, h1, h2 => by
    obtain ⟨k, rfl⟩ : ∃ m, k = m + 1 := ⟨k - 1, by omega⟩
    rw [polygon_locate.l0, if_neg (by omega), locS]
  | d + 1, k, i, v, hi, hk, h1, h2 => by
    obtain ⟨k, rfl⟩ : ∃ m, k = m + 2 := ⟨k - 2, by omega⟩
    have hlt : i < l.length := by omega
    have hn := pv_lt hlt
    have e1 : ∀ j : Nat, rd_T25 l (j : Int) = Pt l j := fun _ => rfl
    have ht := turn_ok (hok _ hn) (hok i hlt) hq
    have ho := on_f (hok _ hn) (hok i hlt) hq
    rw [polygon_locate.l0, if_pos (by omega), if_pos (by omega), if_pos (by omega), if_neg (by omega), w64 (x := (i : Int) + (l.length : Int)) (by omega) (by omega), w64 (x := (i : Int) + (l.length : Int) - 1) (by omega) (by omega), md_pv hlt, if_pos (by omega), if_pos (by omega), e1, e1, ht, Option.bind_some, locS]
    have step : ∀ b : Bool, (b = false) → polygon_locate.j1 (k + 1) l v (sg (X (Pt l (pv l.length i)).f0 (Pt l (pv l.length i)).f1 (Pt l i).f0 (Pt l i).f1 x y)) l (l.length : Int) (i : Int) b x y (Pt l i).f0 (Pt l i).f1 (Pt l (pv l.length i)).f0 (Pt l (pv l.length i)).f1 = some (locS l x y d (i + 1) (if crossE (Pt l (pv l.length i)) (Pt l i) x y = true then -v else v)) := by
      intro b hb
      subst hb
      have hc : ((decide ((Pt l (pv l.length i)).f1 ≤ y ∧ y < (Pt l i).f1) && decide (sg (X (Pt l (pv l.length i)).f0 (Pt l (pv l.length i)).f1 (Pt l i).f0 (Pt l i).f1 x y) > 0)) || (decide ((Pt l i).f1 ≤ y ∧ y < (Pt l (pv l.length i)).f1) && decide (sg (X (Pt l (pv l.length i)).f0 (Pt l (pv l.length i)).f1 (Pt l i).f0 (Pt l i).f1 x y) < 0))) = crossE (Pt l (pv l.length i)) (Pt l i) x y := by
        unfold crossE
        rw [decide_eq_decide.2 (sg_pos _), decide_eq_decide.2 (sg_lt _)]
      rw [loc_j1 _ _ _ _ _ _ _ _ _ _ _ _ _ (w64 (by omega) (by omega)), hc, w64 (x := (i : Int) + 1) (by omega) (by omega), show ((i : Int) + 1) = ((i + 1 : Nat) : Int) by omega]
      by_cases c : crossE (Pt l (pv l.length i)) (Pt l i) x y = true
      · rw [if_pos c, if_pos c, locate_l l hl hok hq d k (i + 1) (-v) (by omega) (by omega) (by omega) (by omega)]
      · rw [if_neg c, if_neg c, locate_l l hl hok hq d k (i + 1) v (by omega) (by omega) (by omega) (by omega)]
    by_cases c : X (Pt l (pv l.length i)).f0 (Pt l (pv l.length i)).f1 (Pt l i).f0 (Pt l i).f1 x y = 0
    · rw [if_pos ((sg_zero _).2 c), ho, Option.bind_some]
      by_cases c2 : Dt (Pt l (pv l.length i)).f0 (Pt l (pv l.length i)).f1 (Pt l i).f0 (Pt l i).f1 x y ≤ 0
      · have hE : onE l x y i = true := by unfold onE; rw [decide_eq_true c, decide_eq_true c2]; rfl
        rw [if_pos hE, decide_eq_true c2, polygon_locate.j1, if_pos rfl]
      · have hE : ¬ onE l x y i = true := by unfold onE; rw [decide_eq_false c2]; simp
        rw [if_neg hE]
        exact step _ (decide_eq_false c2)
    · have hE : ¬ onE l x y i = true := by unfold onE; rw [decide_eq_false c]; simp
      rw [if_neg hE, if_neg (fun h => c ((sg_zero _).1 h))]
      exact step _ rfl
def loc (l : List S25) (x y : Int) : Int := locS l x y l.length 0 (-1)
theorem locate_f (l : List S25) (hl : l.length ≤ 16) (hok : ∀ i, i < l.length → Okp (Pt l i)) {x y : Int} (hq : Ok x y) (k : Nat) (hk : 40 ≤ k) : polygon_locate.f k l x y = some (loc l x y) := by
  unfold polygon_locate.f loc
  exact locate_l l hl hok hq l.length k 0 (-1) (by omega) (by omega) (by omega) (by omega)
theorem locS_on (l : List S25) (x y : Int) : ∀ (d i j : Nat) (v : Int), i ≤ j → j < i + d → onE l x y j = true → locS l x y d i v = 0
  | 0, i, j, v, h1, h2, h => by omega
  | d + 1, i, j, v, h1, h2, h => by
    rw [locS]
    by_cases c : onE l x y i = true
    · rw [if_pos c]
    · rw [if_neg c]
      have : i ≠ j := fun e => c (e ▸ h)
      exact locS_on l x y d (i + 1) j _ (by omega) (by omega) h
theorem loc_on (l : List S25) {x y : Int} {j : Nat} (hj : j < l.length) (h : onE l x y j = true) : loc l x y = 0 := locS_on l x y l.length 0 j (-1) (by omega) (by omega) h
/-- Vertex j, counted around. -/
def cy (l : List S25) (j : Nat) : S25 := Pt l (j % l.length)
theorem cy_lt {l : List S25} {j : Nat} (h : j < l.length) : cy l j = Pt l j := by unfold cy; rw [Nat.mod_eq_of_lt h]
theorem cy_n (l : List S25) (j : Nat) : cy l (j + l.length) = cy l j := by unfold cy; rw [Nat.add_mod_right]
theorem nx_mod {n i : Nat} (h : i < n) : nx n i = (i + 1) % n := by
  unfold nx
  split
  · rw [Nat.mod_eq_of_lt (by omega)]
  · have : i + 1 = n := by omega
    rw [this, Nat.mod_self]; omega
theorem nx2_mod {n i : Nat} (h : i < n) (h2 : 2 ≤ n) : nx2 n i = (i + 2) % n := by
  unfold nx2
  split
  · rw [Nat.mod_eq_of_lt (by omega)]
  · have e : i + 2 = (i + 2 - n) + n := by omega
    rw [e, Nat.add_mod_right, Nat.mod_eq_of_lt (by omega)]; omega
theorem pv_mod {n i : Nat} (h : i < n) : pv n i = (i + n - 1) % n := by
  unfold pv
  split
  · rw [Nat.mod_eq_of_lt (by omega)]; omega
  · have e : i + n - 1 = (i - 1) + n := by omega
    rw [e, Nat.add_mod_right, Nat.mod_eq_of_lt (by omega)]
theorem cy_nx {l : List S25} {j : Nat} (h : j < l.length) : Pt l (nx l.length j) = cy l (j + 1) := by rw [nx_mod h]; rfl
theorem cy_nx2 {l : List S25} {j : Nat} (h : j < l.length) (h2 : 2 ≤ l.length) : Pt l (nx2 l.length j) = cy l (j + 2) := by rw [nx2_mod h h2]; rfl
theorem cy_pv {l : List S25} {j : Nat} (h : j < l.length) : Pt l (pv l.length j) = cy l (j + l.length - 1) := by rw [pv_mod h]; rfl
theorem cy_mod (l : List S25) (j m : Nat) : cy l (j % l.length + m) = cy l (j + m) := by unfold cy; rw [Nat.mod_add_mod]
/-- A sum. -/
def sumN (f : Nat → Int) : Nat → Nat → Int
  | 0, _ => 0
  | d + 1, i => f i + sumN f d (i + 1)
theorem sumN_last (f : Nat → Int) : ∀ d i, sumN f (d + 1) i = sumN f d i + f (i + d)
  | 0, i => by simp [sumN]
  | d + 1, i => by
    have h := sumN_last f d (i + 1)
    have e : i + 1 + d = i + (d + 1) := by omega
    rw [e] at h
    rw [sumN, h, sumN, Int.add_assoc]
theorem sumN_congr {f g : Nat → Int} : ∀ d i, (∀ j, i ≤ j → j < i + d → f j = g j) → sumN f d i = sumN g d i
  | 0, i, h => rfl
  | d + 1, i, h => by
    rw [sumN, sumN, h i (by omega) (by omega), sumN_congr d (i + 1) (fun j h1 h2 => h j (by omega) (by omega))]
theorem sumN_add (f g : Nat → Int) : ∀ d i, sumN (fun j => f j + g j) d i = sumN f d i + sumN g d i
  | 0, i => rfl
  | d + 1, i => by
    have h := sumN_add f g d (i + 1)
    simp only [sumN]
    omega
theorem sumN_shift (f : Nat → Int) (k : Nat) : ∀ d i, sumN (fun j => f (j + k)) d i = sumN f d (i + k)
  | 0, i => rfl
  | d + 1, i => by
    have h := sumN_shift f k d (i + 1)
    have e : i + 1 + k = i + k + 1 := by omega
    rw [e] at h
    simp only [sumN]
    rw [h]
theorem sumN_period (f : Nat → Int) (n : Nat) (h : ∀ j, f (j + n) = f j) : ∀ k, sumN f n k = sumN f n 0
  | 0 => rfl
  | k + 1 => by
    have a := sumN_last f n k
    have b : sumN f (n + 1) k = f k + sumN f n (k + 1) := rfl
    have c := h k
    have d := sumN_period f n h k
    omega
/-- Whether the ray from a point crosses an edge, as a number. -/
def crN (a b : S25) (x y : Int) : Int := if crossE a b x y = true then 1 else 0
def onP (a b : S25) (x y : Int) : Bool := decide (X a.f0 a.f1 b.f0 b.f1 x y = 0) && decide (Dt a.f0 a.f1 b.f0 b.f1 x y ≤ 0)
theorem locS_sum (l : List S25) (x y : Int) : ∀ (d i : Nat) (v : Int), (∀ j, i ≤ j → j < i + d → onE l x y j = false) →
    locS l x y d i v = if sumN (fun j => crN (Pt l (pv l.length j)) (Pt l j) x y) d i % 2 = 0 then v else -v
  | 0, i, v, h => by rw [locS, sumN, if_pos (by decide)]
  | d + 1, i, v, h => by
    rw [locS, if_neg (by rw [h i (by omega) (by omega)]; decide), locS_sum l x y d (i + 1) _ (fun j h1 h2 => h j (by omega) (by omega)), sumN]
    generalize sumN (fun j => crN (Pt l (pv l.length j)) (Pt l j) x y) d (i + 1) = s
    unfold crN
    by_cases c : crossE (Pt l (pv l.length i)) (Pt l i) x y = true
    · rw [if_pos c, if_pos c]
      by_cases p : s % 2 = 0
      · rw [if_pos p, if_neg (by omega)]
      · rw [if_neg p, if_pos (by omega), Int.neg_neg]
    · rw [if_neg c, if_neg c, Int.zero_add]
/-- The number of crossings around. -/
def cF (l : List S25) (x y : Int) (j : Nat) : Int := crN (cy l j) (cy l (j + 1)) x y
theorem cF_n (l : List S25) (x y : Int) (j : Nat) : cF l x y (j + l.length) = cF l x y j := by
  unfold cF
  rw [cy_n, show j + l.length + 1 = j + 1 + l.length by omega, cy_n]
def crossings (l : List S25) (x y : Int) : Int := sumN (cF l x y) l.length 0
def OnAny (l : List S25) (x y : Int) : Prop := ∃ j, onP (cy l j) (cy l (j + 1)) x y = true
theorem onE_cy {l : List S25} {x y : Int} {j : Nat} (h : j < l.length) : onE l x y j = onP (cy l (j + l.length - 1)) (cy l (j + l.length - 1 + 1)) x y := by
  have e : j + l.length - 1 + 1 = j + l.length := by omega
  rw [e, cy_n, cy_lt h, ← cy_pv h]; rfl
theorem onAny_iff {l : List S25} {x y : Int} (h3 : 0 < l.length) : OnAny l x y ↔ ∃ j, j < l.length ∧ onE l x y j = true := by
  constructor
  · rintro ⟨j, hj⟩
    have hlt : (j + 1) % l.length < l.length := Nat.mod_lt _ h3
    refine ⟨(j + 1) % l.length, hlt, ?_⟩
    rw [onE_cy hlt]
    have e1 : (j + 1) % l.length + l.length - 1 = (j + 1) % l.length + (l.length - 1) := by omega
    have e2 : (j + 1) % l.length + l.length - 1 + 1 = (j + 1) % l.length + l.length := by omega
    rw [e2, e1, cy_mod, cy_n, show j + 1 + (l.length - 1) = j + l.length by omega, cy_n]
    have e3 : cy l ((j + 1) % l.length) = cy l (j + 1) := cy_mod l (j + 1) 0
    rw [e3]; exact hj
  · rintro ⟨j, hj, h⟩
    exact ⟨_, by rw [onE_cy hj] at h; exact h⟩
theorem crossings_sum {l : List S25} (x y : Int) (h3 : 0 < l.length) : sumN (fun j => crN (Pt l (pv l.length j)) (Pt l j) x y) l.length 0 = crossings l x y := by
  have e1 : sumN (fun j => crN (Pt l (pv l.length j)) (Pt l j) x y) l.length 0 = sumN (fun j => cF l x y (j + (l.length - 1))) l.length 0 := by
    refine sumN_congr _ _ (fun j _ hj => ?_)
    have hj' : j < l.length := by omega
    unfold cF
    rw [cy_pv hj', show j + (l.length - 1) + 1 = j + l.length by omega, cy_n, cy_lt hj', show j + l.length - 1 = j + (l.length - 1) by omega]
  exact e1.trans ((sumN_shift (cF l x y) (l.length - 1) l.length 0).trans (sumN_period (cF l x y) l.length (cF_n l x y) _))
/-- Where a point lies. -/
theorem loc_cy {l : List S25} {x y : Int} (h3 : 0 < l.length) : (OnAny l x y → loc l x y = 0) ∧ (¬ OnAny l x y → loc l x y = if crossings l x y % 2 = 0 then -1 else 1) := by
  constructor
  · intro h
    obtain ⟨j, hj, h⟩ := (onAny_iff h3).1 h
    exact loc_on l hj h
  · intro h
    have hno : ∀ j, 0 ≤ j → j < 0 + l.length → onE l x y j = false := by
      intro j _ hj
      rw [Bool.eq_false_iff]
      intro g
      exact h ((onAny_iff h3).2 ⟨j, by omega, g⟩)
    unfold loc
    rw [locS_sum l x y l.length 0 (-1) hno, crossings_sum x y h3]
    rfl
/-- Two segments without a common point. -/
structure NC (a b u v : S25) : Prop where
  n0 : ¬ ((Xp a b u < 0 ∧ 0 < Xp a b v ∨ 0 < Xp a b u ∧ Xp a b v < 0) ∧ (Xp u v a < 0 ∧ 0 < Xp u v b ∨ 0 < Xp u v a ∧ Xp u v b < 0))
  nu : Xp a b u = 0 → 0 < Dt a.f0 a.f1 b.f0 b.f1 u.f0 u.f1
  nv : Xp a b v = 0 → 0 < Dt a.f0 a.f1 b.f0 b.f1 v.f0 v.f1
  na : Xp u v a = 0 → 0 < Dt u.f0 u.f1 v.f0 v.f1 a.f0 a.f1
  nb : Xp u v b = 0 → 0 < Dt u.f0 u.f1 v.f0 v.f1 b.f0 b.f1
theorem Xp_sw (a b u : S25) : Xp b a u = -Xp a b u := by unfold Xp X; grind
theorem Dt_sw (ax ay bx b_y ux uy : Int) : Dt bx b_y ax ay ux uy = Dt ax ay bx b_y ux uy := by unfold Dt; grind
theorem NC.sw {a b u v : S25} (h : NC a b u v) : NC b a u v := by
  obtain ⟨n0, nu, nv, na, nb⟩ := h
  refine ⟨?_, ?_, ?_, nb, na⟩
  · rw [Xp_sw a b u, Xp_sw a b v]; omega
  · rw [Xp_sw a b u, Dt_sw]; exact fun g => nu (by omega)
  · rw [Xp_sw a b v, Dt_sw]; exact fun g => nv (by omega)
theorem NC.sym {a b u v : S25} (h : NC a b u v) : NC u v a b := by
  obtain ⟨n0, nu, nv, na, nb⟩ := h
  exact ⟨fun g => n0 ⟨g.2, g.1⟩, na, nb, nu, nv⟩
theorem sg_mul (x y : Int) : sg x * sg y < 0 ↔ (x < 0 ∧ 0 < y ∨ 0 < x ∧ y < 0) := by
  unfold sg
  (repeat' split) <;> simp <;> omega
theorem or_pos {p : Prop} {d : Int} : (¬ p ∨ ¬ d ≤ 0) ↔ (p → 0 < d) := by
  constructor
  · rintro (h | h) g
    · exact absurd g h
    · omega
  · intro h
    by_cases c : p
    · have := h c
      right; omega
    · left; exact c
theorem nc_iff {a b u v : S25} : cmn a b u v = false ↔ NC a b u v := by
  unfold cmn comB
  simp only [Bool.or_eq_false_iff, Bool.and_eq_false_iff, decide_eq_false_iff_not, sg_mul, sg_zero]
  constructor
  · rintro ⟨⟨⟨⟨h0, h1⟩, h2⟩, h3⟩, h4⟩
    exact ⟨Classical.not_and_iff_not_or_not.2 h0, or_pos.1 h1, or_pos.1 h2, or_pos.1 h3, or_pos.1 h4⟩
  · rintro ⟨n0, nu, nv, na, nb⟩
    exact ⟨⟨⟨⟨Classical.not_and_iff_not_or_not.1 n0, or_pos.2 nu⟩, or_pos.2 nv⟩, or_pos.2 na⟩, or_pos.2 nb⟩
/-- r is l, begun with vertex k. -/
def Rot (l r : List S25) (k : Nat) : Prop := r.length = l.length ∧ ∀ j, cy r j = cy l (j + k)
theorem rot_of {l r : List S25} {k : Nat} (h0 : 0 < l.length) (hl : r.length = l.length) (h : ∀ j, j < l.length → Pt r j = cy l (j + k)) : Rot l r k := by
  refine ⟨hl, fun j => ?_⟩
  have e : cy r j = Pt r (j % l.length) := by unfold cy; rw [hl]
  rw [e, h _ (Nat.mod_lt _ h0), cy_mod]
theorem Rot.back {l r : List S25} {k : Nat} (h : Rot l r k) (hk : k ≤ l.length) : Rot r l (l.length - k) := by
  refine ⟨h.1.symm, fun j => ?_⟩
  rw [h.2, show j + (l.length - k) + k = j + l.length by omega, cy_n]
theorem dblS_cy (l : List S25) : ∀ d i, i + d ≤ l.length → dblS l d i = sumN (fun j => crs (cy l j) (cy l (j + 1))) d i
  | 0, i, h => rfl
  | d + 1, i, h => by
    have hi : i < l.length := by omega
    rw [dblS, sumN, dblS_cy l d (i + 1) (by omega), cy_nx hi, cy_lt hi]
def dF (l : List S25) (j : Nat) : Int := crs (cy l j) (cy l (j + 1))
theorem dF_n (l : List S25) (j : Nat) : dF l (j + l.length) = dF l j := by
  unfold dF
  rw [cy_n, show j + l.length + 1 = j + 1 + l.length by omega, cy_n]
theorem rot_dblS {l r : List S25} {k : Nat} (h : Rot l r k) : dblS r r.length 0 = dblS l l.length 0 := by
  rw [dblS_cy r r.length 0 (by omega), dblS_cy l l.length 0 (by omega), h.1]
  have e : sumN (fun j => crs (cy r j) (cy r (j + 1))) l.length 0 = sumN (fun j => dF l (j + k)) l.length 0 := by
    refine sumN_congr _ _ (fun j _ _ => ?_)
    unfold dF
    rw [h.2, h.2, show j + 1 + k = j + k + 1 by omega]
  exact e.trans ((sumN_shift (dF l) k l.length 0).trans (sumN_period (dF l) l.length (dF_n l) _))
theorem rot_crossings {l r : List S25} {k : Nat} (h : Rot l r k) (x y : Int) : crossings r x y = crossings l x y := by
  unfold crossings
  rw [h.1]
  have e : sumN (cF r x y) l.length 0 = sumN (fun j => cF l x y (j + k)) l.length 0 := by
    refine sumN_congr _ _ (fun j _ _ => ?_)
    unfold cF
    rw [h.2, h.2, show j + 1 + k = j + k + 1 by omega]
  exact e.trans ((sumN_shift (cF l x y) k l.length 0).trans (sumN_period (cF l x y) l.length (cF_n l x y) _))
theorem rot_on0 {l r : List S25} {k : Nat} (h : Rot l r k) {x y : Int} : OnAny r x y → OnAny l x y := by
  rintro ⟨j, hj⟩
  rw [h.2, h.2, show j + 1 + k = j + k + 1 by omega] at hj
  exact ⟨j + k, hj⟩
theorem rot_loc {l r : List S25} {k : Nat} (h : Rot l r k) (hk : k ≤ l.length) (h0 : 0 < l.length) (x y : Int) : loc r x y = loc l x y := by
  have h0' : 0 < r.length := by rw [h.1]; exact h0
  by_cases c : OnAny l x y
  · rw [(loc_cy h0).1 c, (loc_cy h0').1 (rot_on0 (h.back hk) c)]
  · rw [(loc_cy h0).2 c, (loc_cy h0').2 (fun g => c (rot_on0 h g)), rot_crossings h]
/-- No vertex lies on the line of its neighbours; edges that aren't neighbours have no common point. -/
def CV (l : List S25) : Prop := ∀ i, Xp (cy l i) (cy l (i + 1)) (cy l (i + 2)) ≠ 0 ∧ ∀ d, 2 ≤ d → d + 2 ≤ l.length → cmn (cy l i) (cy l (i + 1)) (cy l (i + d)) (cy l (i + d + 1)) = false
theorem cmn_sym {a b c d : S25} (h : cmn a b c d = false) : cmn c d a b = false := nc_iff.2 (nc_iff.1 h).sym
theorem cy_mod0 (l : List S25) (j : Nat) : cy l (j % l.length) = cy l j := cy_mod l j 0
theorem C1_cy {l : List S25} (h3 : 3 ≤ l.length) : C1 l 0 ↔ CV l := by
  constructor
  · intro h i
    have hi : i % l.length < l.length := Nat.mod_lt _ (by omega)
    have e0 : cy l i = cy l (i % l.length) := (cy_mod0 l i).symm
    have ed : ∀ d, cy l (i + d) = cy l (i % l.length + d) := fun d => (cy_mod l i d).symm
    refine ⟨?_, fun d h2 hd => ?_⟩
    · rw [e0, ed, ed, cy_lt hi, ← cy_nx hi, ← cy_nx2 hi (by omega)]
      exact (h _ (Nat.zero_le _) hi).1
    · rw [e0, ed, ed, show i + d + 1 = i + (d + 1) by omega, ed]
      generalize i % l.length = q at hi
      by_cases c : q + d < l.length
      · have g := (h q (Nat.zero_le _) hi).2 (q + d) (by omega) c (by unfold nx; split <;> omega)
        rw [cy_nx c, ← cy_lt hi, ← cy_lt c, ← cy_lt (show q + 1 < l.length by omega)] at g
        exact g
      · obtain ⟨p, hp⟩ : ∃ p, q + d = p + l.length := ⟨q + d - l.length, by omega⟩
        have hpl : p < l.length := by omega
        have g := (h p (Nat.zero_le _) hpl).2 q (by omega) hi (by unfold nx; split <;> omega)
        rw [hp, cy_n, show q + (d + 1) = p + 1 + l.length by omega, cy_n]
        rw [cy_nx hi, ← cy_lt hi, ← cy_lt hpl, ← cy_lt (show p + 1 < l.length by omega)] at g
        exact cmn_sym g
  · intro h i _ hi
    refine ⟨?_, fun j h1 h2 h4 => ?_⟩
    · rw [← cy_lt hi, cy_nx hi, cy_nx2 hi (by omega)]
      exact (h i).1
    · have hd : j - i + 2 ≤ l.length := by
        have : j - i ≠ l.length - 1 := fun e => h4 (by unfold nx; split <;> omega)
        omega
      have g := (h i).2 (j - i) (by omega) hd
      rw [show i + (j - i) = j by omega, ← cy_nx h2, cy_lt hi, cy_lt h2, cy_lt (show i + 1 < l.length by omega)] at g
      exact g
theorem rot_CV {l r : List S25} {k : Nat} (h : Rot l r k) (hc : CV l) : CV r := by
  intro i
  refine ⟨?_, fun d h2 hd => ?_⟩
  · rw [h.2, h.2, h.2, show i + 1 + k = i + k + 1 by omega, show i + 2 + k = i + k + 2 by omega]
    exact (hc _).1
  · rw [h.2, h.2, h.2, h.2, show i + 1 + k = i + k + 1 by omega, show i + d + k = i + k + d by omega, show i + d + 1 + k = i + k + d + 1 by omega]
    exact (hc _).2 d h2 (by rw [← h.1]; exact hd)
theorem rot_Valid0 {l r : List S25} {k : Nat} (h : Rot l r k) (hv : Valid l) : Valid r := by
  obtain ⟨⟨h1, h2⟩, h3, h4, h5⟩ := hv
  refine ⟨⟨by rw [h.1]; exact h1, by rw [h.1]; exact h2⟩, fun j hj => ?_, (C1_cy (by rw [h.1]; exact h1)).2 (rot_CV h ((C1_cy h1).1 h4)), ?_⟩
  · rw [← cy_lt hj, h.2]
    exact h3 _ (Nat.mod_lt _ (by omega))
  · rw [rot_dblS h]; exact h5
theorem rot_Valid {l r : List S25} {k : Nat} (h : Rot l r k) (hk : k ≤ l.length) : Valid r ↔ Valid l := ⟨rot_Valid0 (h.back hk), rot_Valid0 h⟩
theorem rot_list {l : List S25} {q : Nat} (h0 : 0 < l.length) (hq : q < l.length) : Rot l (([] ++ l.drop q) ++ l.take q) q := by
  refine rot_of h0 (by simp; omega) (fun j hj => ?_)
  unfold cy Pt rd_T25
  rw [List.getD_eq_getElem?_getD, List.getD_eq_getElem?_getD]
  congr 1
  rw [Int.toNat_natCast, Int.toNat_natCast, List.nil_append]
  by_cases c : j < l.length - q
  · rw [List.getElem?_append_left (by rw [List.length_drop]; exact c), List.getElem?_drop, Nat.mod_eq_of_lt (by omega), Nat.add_comm]
  · rw [List.getElem?_append_right (by rw [List.length_drop]; omega), List.length_drop, List.getElem?_take_of_lt (by omega)]
    have e : (j + q) % l.length = j - (l.length - q) := by
      rw [show j + q = (j - (l.length - q)) + l.length by omega, Nat.add_mod_right, Nat.mod_eq_of_lt (by omega)]
    rw [e]
theorem polyWorks (k : Nat) (hk : 60 ≤ k) : skywaykeep1_polygonWorks.f k = some true := by
  have h : skywaykeep1_polygonWorks.f 60 = some true := by decide +kernel
  exact at_rounds skywaykeep1_polygonWorks.mono hk h
theorem area_yes {l : List S25} (h : Valid l) : polygon_Area.f 500 l = some (dblS l l.length 0, 0) := by
  obtain ⟨e, he, hz⟩ := pcheck l
  have hd : polygon_double.l0 500 l 0 l (l.length : Int) 0 = some (0 + dblS l l.length 0) := double_l l h.1.2 h.2.1 l.length 500 0 0 (by omega) (by have := h.1.2; omega) (by have := h.1.2; omega) (by have := h.1.2; omega)
  unfold polygon_Area.f polygon_double.f
  rw [he 500 (by decide), hz.2 h, Option.bind_some, if_pos rfl, hd, Option.bind_some, Int.zero_add]
theorem area_no {l : List S25} (h : ¬ Valid l) : ∃ e, e ≠ 0 ∧ polygon_Area.f 500 l = some (0, e) := by
  obtain ⟨e, he, hz⟩ := pcheck l
  have h0 : e ≠ 0 := fun g => h (hz.1 g)
  refine ⟨e, h0, ?_⟩
  unfold polygon_Area.f
  rw [he 500 (by decide), Option.bind_some, if_neg h0]
theorem locate_yes {l : List S25} (h : Valid l) (x y : Int) : polygon_Locate.f 500 l x y = some (if Ok x y then (loc l x y, 0) else (0, 4)) := by
  obtain ⟨e, he, hz⟩ := pcheck l
  unfold polygon_Locate.f
  rw [he 500 (by decide), hz.2 h, Option.bind_some, if_pos rfl, check_f, Option.bind_some]
  by_cases hq : Ok x y
  · rw [if_pos hq, if_pos hq, if_pos rfl, locate_f l h.1.2 h.2.1 hq 500 (by decide), Option.bind_some]
  · rw [if_neg hq, if_neg hq, if_neg (by decide)]
theorem locate_no {l : List S25} (h : ¬ Valid l) (x y : Int) : ∃ e, polygon_Locate.f 500 l x y = some (0, e) := by
  obtain ⟨e, he, hz⟩ := pcheck l
  refine ⟨e, ?_⟩
  unfold polygon_Locate.f
  rw [he 500 (by decide), Option.bind_some, if_neg (fun g => h (hz.1 g))]
theorem PolygonTurned : skywaykeep1_PolygonTurned.Pure := by
  intro l x y a2 hl _ _ _
  refine ⟨500, ?_⟩
  unfold skywaykeep1_PolygonTurned.f
  rw [polyWorks 500 (by decide), Option.bind_some, if_pos rfl]
  have hlen := hl.1
  by_cases c0 : (l.length : Int) = 0
  · rw [if_pos c0]
  rw [if_neg c0, Option.bind_some]
  have h0 : 0 < l.length := by omega
  obtain ⟨q, hq, eq⟩ : ∃ q : Nat, q < l.length ∧ Int.tmod (wrap64 ((Int.tmod a2 (l.length : Int)) + (l.length : Int))) (l.length : Int) = (q : Int) := by
    have b1 := Int.tmod_lt_of_pos a2 (show (0 : Int) < (l.length : Int) by omega)
    have b2 : -(l.length : Int) < Int.tmod a2 (l.length : Int) := by
      have := Int.tmod_lt_of_pos (-a2) (show (0 : Int) < (l.length : Int) by omega)
      rw [Int.neg_tmod] at this
      omega
    rw [w64 (by omega) (by omega)]
    have b3 := Int.tmod_lt_of_pos (Int.tmod a2 (l.length : Int) + (l.length : Int)) (show (0 : Int) < (l.length : Int) by omega)
    have b4 := Int.tmod_nonneg (l.length : Int) (show 0 ≤ Int.tmod a2 (l.length : Int) + (l.length : Int) by omega)
    exact ⟨(Int.tmod (Int.tmod a2 (l.length : Int) + (l.length : Int)) (l.length : Int)).toNat, by omega, by omega⟩
  rw [eq, if_pos (by omega), if_pos (by omega), Option.bind_some, Int.toNat_natCast, if_pos (by simp; omega), Option.bind_some, Option.bind_some, if_pos (by simp; omega), Option.bind_some]
  have hr := rot_list h0 hq
  generalize ([] ++ l.drop q) ++ l.take q = r at hr
  by_cases hv : Valid l
  · have hv' : Valid r := (rot_Valid hr (by omega)).2 hv
    rw [area_yes hv, Option.bind_some, area_yes hv', Option.bind_some, locate_yes hv, Option.bind_some, locate_yes hv', Option.bind_some, if_pos rfl, if_pos rfl, rot_dblS hr, if_pos rfl, if_pos hv.2.2.2]
    by_cases hq : Ok x y
    · rw [if_pos hq, if_pos hq, if_pos rfl, rot_loc hr (by omega) h0]
      simp
    · rw [if_neg hq, if_neg hq, if_pos rfl]
      rfl
  · have hv' : ¬ Valid r := fun g => hv ((rot_Valid hr (by omega)).1 g)
    obtain ⟨e1, z1, a1⟩ := area_no hv
    obtain ⟨e2, z2, a2⟩ := area_no hv'
    obtain ⟨e3, a3⟩ := locate_no hv x y
    obtain ⟨e4, a4⟩ := locate_no hv' x y
    rw [a1, Option.bind_some, a2, Option.bind_some, a3, Option.bind_some, a4, Option.bind_some, if_neg z1, if_neg z2, if_pos rfl]
    rfl

end Go.Proofs.Yteaddpieonkboaa.Pure
