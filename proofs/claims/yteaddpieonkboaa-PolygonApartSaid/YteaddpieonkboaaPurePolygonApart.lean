/- PolygonApart: for all polygons, points and distances Apart's answer agrees with Locate, no vertex is near where it says apart, and half the distance is no harder. -/
import Derived.Test.YteaddpieonkboaaPPolygonApartx
import Derived.Test.YteaddpieonkboaaMath
import Derived.Laws.MathBits
namespace Go.Proofs.Yteaddpieonkboaa.Pure
open Go Go.RowKit Go.Proofs.Yteaddpieonkboaa.PPolygonApart Go.Proofs.YteaddpieonkboaaW.PrintWords Go.Proofs.YteaddpieonkboaaW.PrintLast Go.Proofs.YteaddpieonkboaaM

/-- A permitted coordinate. -/
def Ok (x y : Int) : Prop := -1000000 ≤ x ∧ x ≤ 1000000 ∧ -1000000 ≤ y ∧ y ≤ 1000000
instance (x y : Int) : Decidable (Ok x y) := inferInstanceAs (Decidable (_ ∧ _))
def S (x y : Int) : Int := x * x + y * y
theorem S_nonneg (x y : Int) : 0 ≤ S x y := by have := sq_nonneg x; have := sq_nonneg y; unfold S; omega
theorem square {ax ay bx b_y : Int} (h1 : -2000000000 ≤ ax - bx) (h2 : ax - bx ≤ 2000000000) (h3 : -2000000000 ≤ ay - b_y) (h4 : ay - b_y ≤ 2000000000) :
    plane_Square.f ax ay bx b_y = some (S (ax - bx) (ay - b_y)) ∧ S (ax - bx) (ay - b_y) ≤ 8000000000000000000 := by
  have q1 := sq_bd h1 h2
  have q2 := sq_bd h3 h4
  have p1 := sq_nonneg (ax - bx)
  have p2 := sq_nonneg (ay - b_y)
  refine ⟨?_, by unfold S; omega⟩
  unfold plane_Square.f plane_Sub.f plane_Dot.f S
  rw [w64 (by omega) (by omega), w64 (by omega) (by omega)]
  simp only [Option.bind_some]
  rw [w64 (x := (ax - bx) * (ax - bx)) (by omega) (by omega), w64 (x := (ay - b_y) * (ay - b_y)) (by omega) (by omega), w64 (by omega) (by omega)]
theorem within {ax ay bx b_y d : Int} (h1 : -2000000000 ≤ ax - bx) (h2 : ax - bx ≤ 2000000000) (h3 : -2000000000 ≤ ay - b_y) (h4 : ay - b_y ≤ 2000000000) :
    plane_Within.f ax ay bx b_y d = some (decide (0 ≤ d ∧ d ≤ 8000000 ∧ S (ax - bx) (ay - b_y) ≤ d * d)) := by
  obtain ⟨e, hb⟩ := square h1 h2 h3 h4
  unfold plane_Within.f
  by_cases c1 : d ≥ 0
  · rw [if_pos c1]
    by_cases c2 : d ≤ 8000000
    · have q := sq_bd (show -8000000 ≤ d by omega) c2
      have q2 := sq_nonneg d
      rw [if_pos c2, e, Option.bind_some, w64 (by omega) (by omega)]
      congr 1
      exact decide_eq_decide.2 ⟨fun h => ⟨c1, c2, h⟩, fun h => h.2.2⟩
    · rw [if_neg c2]
      congr 1
      exact (decide_eq_false (fun h => c2 h.2.1)).symm
  · rw [if_neg c1]
    congr 1
    exact (decide_eq_false (fun h => c1 h.1)).symm
theorem check_f (x y : Int) : plane_Check.f x y = some (if Ok x y then 0 else 4) := by
  unfold plane_Check.f
  by_cases c : Ok x y
  · rw [if_pos c]
    obtain ⟨c1, c2, c3, c4⟩ := c
    rw [if_neg (by omega), if_neg (by omega), if_neg (by omega), if_neg (by omega)]
  · rw [if_neg c]
    by_cases c1 : x < -1000000
    · rw [if_pos c1]
    · rw [if_neg c1]
      by_cases c2 : x > 1000000
      · rw [if_pos c2]
      · rw [if_neg c2]
        by_cases c3 : y < -1000000
        · rw [if_pos c3]
        · rw [if_neg c3, if_pos (by
            rcases Int.lt_or_le 1000000 y with h | h
            · exact h
            · exact absurd (show Ok x y from ⟨by omega, by omega, by omega, h⟩) c)]
/-- The cross product of b - a and c - a. -/
def X (ax ay bx b_y cx cy : Int) : Int := (bx - ax) * (cy - ay) - (b_y - ay) * (cx - ax)
def sg (x : Int) : Int := if x > 0 then 1 else if x < 0 then -1 else 0
theorem turn {ax ay bx b_y cx cy : Int} (h1 : -2000000000 ≤ bx - ax) (h2 : bx - ax ≤ 2000000000) (h3 : -2000000000 ≤ b_y - ay) (h4 : b_y - ay ≤ 2000000000)
    (h5 : -2000000000 ≤ cx - ax) (h6 : cx - ax ≤ 2000000000) (h7 : -2000000000 ≤ cy - ay) (h8 : cy - ay ≤ 2000000000) :
    plane_Turn.f ax ay bx b_y cx cy = some (sg (X ax ay bx b_y cx cy)) := by
  have m1 := mul_bd h1 h2 h7 h8
  have m2 := mul_bd h3 h4 h5 h6
  unfold plane_Turn.f plane_Sub.f plane_Cross.f X sg
  simp only [Option.bind_some]
  rw [w64 (x := bx - ax) (by omega) (by omega), w64 (x := b_y - ay) (by omega) (by omega), w64 (x := cx - ax) (by omega) (by omega), w64 (x := cy - ay) (by omega) (by omega),
    w64 (x := (bx - ax) * (cy - ay)) (by omega) (by omega), w64 (x := (b_y - ay) * (cx - ax)) (by omega) (by omega), w64 (by omega) (by omega)]
  split
  · rfl
  · split <;> rfl
theorem sg_neg (x : Int) : sg (-x) = -sg x := by unfold sg; (repeat' split) <;> omega
theorem sg_rng (x : Int) : -1 ≤ sg x ∧ sg x ≤ 1 := by unfold sg; (repeat' split) <;> omega
/-- The scalar product of the ways from a point to two others. -/
def Dt (ax ay bx b_y px py : Int) : Int := (ax - px) * (bx - px) + (ay - py) * (b_y - py)
theorem on_f {ax ay bx b_y px py : Int} (ha : Ok ax ay) (hb : Ok bx b_y) (hp : Ok px py) : polygon_on.f ax ay bx b_y px py = some (decide (Dt ax ay bx b_y px py ≤ 0)) := by
  obtain ⟨a1, a2, a3, a4⟩ := ha
  obtain ⟨b1, b2, b3, b4⟩ := hb
  obtain ⟨p1, p2, p3, p4⟩ := hp
  have m1 := mul_bd (show -2000000 ≤ ax - px by omega) (show ax - px ≤ 2000000 by omega) (show -2000000 ≤ bx - px by omega) (show bx - px ≤ 2000000 by omega)
  have m2 := mul_bd (show -2000000 ≤ ay - py by omega) (show ay - py ≤ 2000000 by omega) (show -2000000 ≤ b_y - py by omega) (show b_y - py ≤ 2000000 by omega)
  unfold polygon_on.f plane_Sub.f plane_Dot.f Dt
  simp only [Option.bind_some]
  rw [w64 (x := ax - px) (by omega) (by omega), w64 (x := ay - py) (by omega) (by omega), w64 (x := bx - px) (by omega) (by omega), w64 (x := b_y - py) (by omega) (by omega),
    w64 (x := (ax - px) * (bx - px)) (by omega) (by omega), w64 (x := (ay - py) * (b_y - py)) (by omega) (by omega), w64 (by omega) (by omega)]
theorem turn_ok {ax ay bx b_y cx cy : Int} (ha : Ok ax ay) (hb : Ok bx b_y) (hc : Ok cx cy) : plane_Turn.f ax ay bx b_y cx cy = some (sg (X ax ay bx b_y cx cy)) := by
  obtain ⟨a1, a2, a3, a4⟩ := ha
  obtain ⟨b1, b2, b3, b4⟩ := hb
  obtain ⟨c1, c2, c3, c4⟩ := hc
  exact turn (by omega) (by omega) (by omega) (by omega) (by omega) (by omega) (by omega) (by omega)
def comB (s t u v : Int) (o1 o2 o3 o4 : Bool) : Bool := (decide (s * t < 0) && decide (u * v < 0)) || (decide (s = 0) && o1) || (decide (t = 0) && o2) || (decide (u = 0) && o3) || (decide (v = 0) && o4)
theorem com_j0 (k : Nat) (s t u v : Int) (x : Bool) {ax ay bx b_y cx cy dx dy : Int} (o1 o2 o3 o4 : Bool)
    (h1 : polygon_on.f ax ay bx b_y cx cy = some o1) (h2 : polygon_on.f ax ay bx b_y dx dy = some o2) (h3 : polygon_on.f cx cy dx dy ax ay = some o3) (h4 : polygon_on.f cx cy dx dy bx b_y = some o4) :
    polygon_Common.j0 (k + 1) s t u v x ax ay bx b_y cx cy dx dy = some (x || (decide (s = 0) && o1) || (decide (t = 0) && o2) || (decide (u = 0) && o3) || (decide (v = 0) && o4)) := by
  rw [polygon_Common.j0, h1, h2, h3, h4]
  simp only [Option.bind_some]
  cases x
  · by_cases c1 : s = 0 <;> by_cases c2 : t = 0 <;> by_cases c3 : u = 0 <;> by_cases c4 : v = 0 <;> cases o1 <;> cases o2 <;> cases o3 <;> cases o4 <;> simp [c1, c2, c3, c4]
  · simp
theorem common_f (k : Nat) {ax ay bx b_y cx cy dx dy : Int} (ha : Ok ax ay) (hb : Ok bx b_y) (hc : Ok cx cy) (hd : Ok dx dy) :
    polygon_Common.f (k + 1) ax ay bx b_y cx cy dx dy = some (comB (sg (X ax ay bx b_y cx cy)) (sg (X ax ay bx b_y dx dy)) (sg (X cx cy dx dy ax ay)) (sg (X cx cy dx dy bx b_y))
      (decide (Dt ax ay bx b_y cx cy ≤ 0)) (decide (Dt ax ay bx b_y dx dy ≤ 0)) (decide (Dt cx cy dx dy ax ay ≤ 0)) (decide (Dt cx cy dx dy bx b_y ≤ 0))) := by
  have r1 := sg_rng (X ax ay bx b_y cx cy)
  have r2 := sg_rng (X ax ay bx b_y dx dy)
  have r3 := sg_rng (X cx cy dx dy ax ay)
  have r4 := sg_rng (X cx cy dx dy bx b_y)
  unfold polygon_Common.f
  rw [turn_ok ha hb hc, turn_ok ha hb hd, turn_ok hc hd ha, turn_ok hc hd hb]
  simp only [Option.bind_some]
  have m1 := mul_bd r1.1 r1.2 r2.1 r2.2
  have m2 := mul_bd r3.1 r3.2 r4.1 r4.2
  rw [w64 (by omega) (by omega), w64 (by omega) (by omega), com_j0 k _ _ _ _ _ _ _ _ _ (on_f ha hb hc) (on_f ha hb hd) (on_f hc hd ha) (on_f hc hd hb), com_j0 k _ _ _ _ _ _ _ _ _ (on_f ha hb hc) (on_f ha hb hd) (on_f hc hd ha) (on_f hc hd hb)]
  unfold comB
  by_cases c : sg (X ax ay bx b_y cx cy) * sg (X ax ay bx b_y dx dy) < 0
  · rw [if_pos c, decide_eq_true c, Bool.true_and]
  · rw [if_neg c, decide_eq_false c, Bool.false_and]
/-- Vertex i. -/
def Pt (l : List S25) (i : Nat) : S25 := rd_T25 l (i : Int)
def Okp (p : S25) : Prop := Ok p.f0 p.f1
def Xp (a b c : S25) : Int := X a.f0 a.f1 b.f0 b.f1 c.f0 c.f1
def crs (a b : S25) : Int := a.f0 * b.f1 - a.f1 * b.f0
def cmn (a b c d : S25) : Bool := comB (sg (Xp a b c)) (sg (Xp a b d)) (sg (Xp c d a)) (sg (Xp c d b)) (decide (Dt a.f0 a.f1 b.f0 b.f1 c.f0 c.f1 ≤ 0)) (decide (Dt a.f0 a.f1 b.f0 b.f1 d.f0 d.f1 ≤ 0)) (decide (Dt c.f0 c.f1 d.f0 d.f1 a.f0 a.f1 ≤ 0)) (decide (Dt c.f0 c.f1 d.f0 d.f1 b.f0 b.f1 ≤ 0))
theorem sg_zero (x : Int) : sg x = 0 ↔ x = 0 := by unfold sg; (repeat' split) <;> omega
def nx (n i : Nat) : Nat := if i + 1 < n then i + 1 else i + 1 - n
def nx2 (n i : Nat) : Nat := if i + 2 < n then i + 2 else i + 2 - n
def pv (n i : Nat) : Nat := if i = 0 then n - 1 else i - 1
theorem nx_lt {n i : Nat} (h : i < n) : nx n i < n := by unfold nx; split <;> omega
theorem nx2_lt {n i : Nat} (h : i < n) (h2 : 2 ≤ n) : nx2 n i < n := by unfold nx2; split <;> omega
theorem pv_lt {n i : Nat} (h : i < n) : pv n i < n := by unfold pv; split <;> omega
theorem md_lt {a n : Int} (h0 : 0 ≤ a) (h : a < n) : Int.tmod a n = a := by rw [Int.tmod_eq_emod_of_nonneg h0, Int.emod_eq_of_lt h0 h]
theorem md_add {a n : Int} (h0 : 0 ≤ a) (h : a < n) : Int.tmod (a + n) n = a := by
  rw [Int.tmod_eq_emod_of_nonneg (by omega)]
  have : (a + n) % n = a % n := by simp
  rw [this, Int.emod_eq_of_lt h0 h]
theorem md_nx {n i : Nat} (h : i < n) : Int.tmod ((i : Int) + 1) (n : Int) = ((nx n i : Nat) : Int) := by
  unfold nx
  split
  · rw [md_lt (by omega) (by omega)]; omega
  · have e : (i : Int) + 1 = ((i + 1 - n : Nat) : Int) + n := by omega
    rw [e, md_add (by omega) (by omega)]
theorem md_nx2 {n i : Nat} (h : i < n) (h2 : 2 ≤ n) : Int.tmod ((i : Int) + 2) (n : Int) = ((nx2 n i : Nat) : Int) := by
  unfold nx2
  split
  · rw [md_lt (by omega) (by omega)]; omega
  · have e : (i : Int) + 2 = ((i + 2 - n : Nat) : Int) + n := by omega
    rw [e, md_add (by omega) (by omega)]
theorem md_pv {n i : Nat} (h : i < n) : Int.tmod ((i : Int) + n - 1) (n : Int) = ((pv n i : Nat) : Int) := by
  unfold pv
  split
  · rw [md_lt (by omega) (by omega)]; omega
  · have e : (i : Int) + n - 1 = ((i - 1 : Nat) : Int) + n := by omega
    rw [e, md_add (by omega) (by omega)]
theorem crs_bd {a b : S25} (ha : Okp a) (hb : Okp b) : -4000000000000 ≤ crs a b ∧ crs a b ≤ 4000000000000 ∧ plane_Cross.f a.f0 a.f1 b.f0 b.f1 = some (crs a b) := by
  obtain ⟨a1, a2, a3, a4⟩ := ha
  obtain ⟨b1, b2, b3, b4⟩ := hb
  have m1 := mul_bd a1 a2 b3 b4
  have m2 := mul_bd a3 a4 b1 b2
  unfold plane_Cross.f crs
  refine ⟨by omega, by omega, ?_⟩
  rw [w64 (x := a.f0 * b.f1) (by omega) (by omega), w64 (x := a.f1 * b.f0) (by omega) (by omega), w64 (by omega) (by omega)]
/-- The cross products from vertex i on, d of them. -/
def dblS (l : List S25) : Nat → Nat → Int
  | 0, _ => 0
  | d + 1, i => crs (Pt l i) (Pt l (nx l.length i)) + dblS l d (i + 1)
theorem double_l (l : List S25) (hl : l.length ≤ 16) (hok : ∀ i, i < l.length → Okp (Pt l i)) (d : Nat) : ∀ (k i : Nat) (a : Int), i + d = l.length → d < k →
    -1000000000000000 + (d : Int) * 4000000000000 ≤ a → a ≤ 1000000000000000 - (d : Int) * 4000000000000 → polygon_double.l0 k l a l (l.length : Int) (i : Int) = some (a + dblS l d i) := by
  induction d with
  | zero =>
    intro k i a hi hk _ _
    obtain ⟨k, rfl⟩ : ∃ m, k = m + 1 := ⟨k - 1, by omega⟩
    rw [polygon_double.l0, if_neg (by omega), dblS, Int.add_zero]
  | succ d ih =>
    intro k i a hi hk h1 h2
    obtain ⟨k, rfl⟩ : ∃ m, k = m + 1 := ⟨k - 1, by omega⟩
    have hlt : i < l.length := by omega
    have hn := nx_lt hlt
    obtain ⟨c1, c2, c3⟩ := crs_bd (hok i hlt) (hok _ hn)
    have e1 : rd_T25 l (i : Int) = Pt l i := rfl
    have e2 : rd_T25 l ((nx l.length i : Nat) : Int) = Pt l (nx l.length i) := rfl
    rw [polygon_double.l0, if_pos (by omega), if_pos (by omega), if_pos (by omega), if_neg (by omega), w64 (x := (i : Int) + 1) (by omega) (by omega), md_nx hlt, if_pos (by omega), if_pos (by omega), e1, e2, c3, Option.bind_some, w64 (x := a + crs (Pt l i) (Pt l (nx l.length i))) (by omega) (by omega),
      show ((i : Int) + 1) = ((i + 1 : Nat) : Int) by omega, ih k (i + 1) _ (by omega) (by omega) (by omega) (by omega), dblS, Int.add_assoc]
theorem common_p (k : Nat) {a b c d : S25} (ha : Okp a) (hb : Okp b) (hc : Okp c) (hd : Okp d) : polygon_Common.f (k + 1) a.f0 a.f1 b.f0 b.f1 c.f0 c.f1 d.f0 d.f1 = some (cmn a b c d) := common_f k ha hb hc hd
/-- Edge i has no point in common with the edges from m on, but for its neighbours. -/
def C2 (l : List S25) (i m : Nat) : Prop := ∀ j, m ≤ j → j < l.length → nx l.length j ≠ i → cmn (Pt l i) (Pt l (i + 1)) (Pt l j) (Pt l (nx l.length j)) = false
def C1 (l : List S25) (i : Nat) : Prop := ∀ i', i ≤ i' → i' < l.length → Xp (Pt l i') (Pt l (nx l.length i')) (Pt l (nx2 l.length i')) ≠ 0 ∧ C2 l i' (i' + 2)
theorem check_l2 (l : List S25) (hl : l.length ≤ 16) (hok : ∀ i, i < l.length → Okp (Pt l i)) (i : Nat) (hi : i < l.length) (R : Prop) (K : Nat)
    (hnext : ∀ k, K ≤ k → ∃ e, polygon_Check.l1 k l (l.length : Int) (l.length : Int) ((i + 1 : Nat) : Int) = some e ∧ (e = 0 ↔ R)) :
    ∀ (d k m : Nat), i + 2 ≤ m → m ≤ 20 → l.length - m = d → K + d + 2 ≤ k → ∃ e, polygon_Check.l2 k l (l.length : Int) (i : Int) (m : Int) (l.length : Int) (i : Int) = some e ∧ (e = 0 ↔ C2 l i m ∧ R)
  | 0, k, m, hm, hm2, hd, hk => by
    obtain ⟨k, rfl⟩ : ∃ q, k = q + 1 := ⟨k - 1, by omega⟩
    rw [polygon_Check.l2, if_neg (by omega), w64 (by omega) (by omega), show ((i : Int) + 1) = ((i + 1 : Nat) : Int) by omega]
    obtain ⟨e, he, hz⟩ := hnext k (by omega)
    exact ⟨e, he, hz.trans ⟨fun h => ⟨fun j h1 h2 => by omega, h⟩, fun h => h.2⟩⟩
  | d + 1, k, m, hm, hm2, hd, hk => by
    obtain ⟨k, rfl⟩ : ∃ q, k = q + 2 := ⟨k - 2, by omega⟩
    have hlt : m < l.length := by omega
    have hn := nx_lt hlt
    have e1 : ∀ j : Nat, rd_T25 l (j : Int) = Pt l j := fun _ => rfl
    obtain ⟨e, he, hz⟩ := check_l2 l hl hok i hi R K hnext d (k + 1) (m + 1) (by omega) (by omega) (by omega) (by omega)
    have hstep : C2 l i m ↔ (nx l.length m ≠ i → cmn (Pt l i) (Pt l (i + 1)) (Pt l m) (Pt l (nx l.length m)) = false) ∧ C2 l i (m + 1) := by
      refine ⟨fun h => ⟨fun g => h m (Nat.le_refl _) hlt g, fun j h1 h2 => h j (by omega) h2⟩, fun h j h1 h2 h3 => ?_⟩
      by_cases hj : j = m
      · subst hj; exact h.1 h3
      · exact h.2 j (by omega) h2 h3
    rw [polygon_Check.l2, if_pos (by omega), if_neg (by omega), w64 (x := (m : Int) + 1) (by omega) (by omega), md_nx hlt, show ((m : Int) + 1) = ((m + 1 : Nat) : Int) by omega, he]
    by_cases c : nx l.length m = i
    · rw [if_pos (by omega)]
      exact ⟨e, rfl, by rw [hz, hstep]; exact ⟨fun h => ⟨⟨fun g => absurd c g, h.1⟩, h.2⟩, fun h => ⟨h.1.2, h.2⟩⟩⟩
    · rw [if_neg (by omega), if_pos (by omega), if_pos (by omega), w64 (x := (i : Int) + 1) (by omega) (by omega), if_pos (by omega), if_pos (by omega), if_pos (by omega), if_pos (by omega), if_pos (by omega), if_pos (by omega), show ((i : Int) + 1) = ((i + 1 : Nat) : Int) by omega, e1, e1, e1, e1,
        common_p k (hok i hi) (hok (i + 1) (by omega)) (hok m hlt) (hok _ hn), Option.bind_some]
      by_cases cc : cmn (Pt l i) (Pt l (i + 1)) (Pt l m) (Pt l (nx l.length m)) = true
      · rw [if_pos cc]
        exact ⟨3, rfl, ⟨fun h => by omega, fun h => by rw [(hstep.1 h.1).1 c] at cc; cases cc⟩⟩
      · rw [if_neg cc]
        exact ⟨e, rfl, by rw [hz, hstep]; exact ⟨fun h => ⟨⟨fun _ => by simpa using cc, h.1⟩, h.2⟩, fun h => ⟨h.1.2, h.2⟩⟩⟩
theorem check_l1 (l : List S25) (hl : l.length ≤ 16) (hl3 : 3 ≤ l.length) (hok : ∀ i, i < l.length → Okp (Pt l i)) :
    ∀ (d k i : Nat), i + d = l.length → d * 22 + 20 ≤ k → ∃ e, polygon_Check.l1 k l (l.length : Int) (l.length : Int) (i : Int) = some e ∧ (e = 0 ↔ C1 l i ∧ 0 < dblS l l.length 0)
  | 0, k, i, hi, hk => by
    obtain ⟨k, rfl⟩ : ∃ q, k = q + 1 := ⟨k - 1, by omega⟩
    have hd : polygon_double.l0 k l 0 l (l.length : Int) 0 = some (0 + dblS l l.length 0) := double_l l hl hok l.length k 0 0 (by omega) (by omega) (by omega) (by omega)
    rw [polygon_Check.l1, if_neg (by omega), polygon_double.f, hd, Option.bind_some, Int.zero_add]
    by_cases c : dblS l l.length 0 ≤ 0
    · rw [if_pos c]; exact ⟨3, rfl, ⟨fun h => by omega, fun h => by omega⟩⟩
    · rw [if_neg c]; exact ⟨0, rfl, ⟨fun _ => ⟨fun j h1 h2 => by omega, by omega⟩, fun _ => rfl⟩⟩
  | d + 1, k, i, hi, hk => by
    obtain ⟨k, rfl⟩ : ∃ q, k = q + 1 := ⟨k - 1, by omega⟩
    have hlt : i < l.length := by omega
    have hn := nx_lt hlt
    have hn2 := nx2_lt hlt (by omega)
    have e1 : ∀ j : Nat, rd_T25 l (j : Int) = Pt l j := fun _ => rfl
    have ht : plane_Turn.f (Pt l i).f0 (Pt l i).f1 (Pt l (nx l.length i)).f0 (Pt l (nx l.length i)).f1 (Pt l (nx2 l.length i)).f0 (Pt l (nx2 l.length i)).f1 = some (sg (Xp (Pt l i) (Pt l (nx l.length i)) (Pt l (nx2 l.length i)))) := turn_ok (hok i hlt) (hok _ hn) (hok _ hn2)
    have hstep : C1 l i ↔ (Xp (Pt l i) (Pt l (nx l.length i)) (Pt l (nx2 l.length i)) ≠ 0 ∧ C2 l i (i + 2)) ∧ C1 l (i + 1) := by
      refine ⟨fun h => ⟨h i (Nat.le_refl _) hlt, fun j h1 h2 => h j (by omega) h2⟩, fun h j h1 h2 => ?_⟩
      by_cases hj : j = i
      · subst hj; exact h.1
      · exact h.2 j (by omega) h2
    rw [polygon_Check.l1, if_pos (by omega), if_pos (by omega), if_pos (by omega), if_neg (by omega), w64 (x := (i : Int) + 1) (by omega) (by omega), w64 (x := (i : Int) + 2) (by omega) (by omega), md_nx hlt, md_nx2 hlt (by omega), if_pos (by omega), if_pos (by omega), if_pos (by omega), if_pos (by omega), e1, e1, e1, ht, Option.bind_some, show ((i : Int) + 2) = ((i + 2 : Nat) : Int) by omega]
    by_cases c : Xp (Pt l i) (Pt l (nx l.length i)) (Pt l (nx2 l.length i)) = 0
    · rw [if_pos ((sg_zero _).2 c)]
      exact ⟨3, rfl, ⟨fun h => by omega, fun h => absurd c (hstep.1 h.1).1.1⟩⟩
    · rw [if_neg (fun h => c ((sg_zero _).1 h))]
      obtain ⟨e, he, hz⟩ := check_l2 l hl hok i hlt (C1 l (i + 1) ∧ 0 < dblS l l.length 0) (d * 22 + 20) (fun k hk => check_l1 l hl hl3 hok d k (i + 1) (by omega) hk) (l.length - (i + 2)) k (i + 2) (by omega) (by omega) rfl (by omega)
      exact ⟨e, he, by rw [hz, hstep]; exact ⟨fun h => ⟨⟨⟨c, h.1⟩, h.2.1⟩, h.2.2⟩, fun h => ⟨h.1.1.2, h.1.2, h.2⟩⟩⟩
theorem check_l0 (l : List S25) (hl : l.length ≤ 16) (hl3 : 3 ≤ l.length) :
    ∀ (d k i : Nat), i + d = l.length → d + 400 ≤ k → (∀ j, j < i → Okp (Pt l j)) → ∃ e, polygon_Check.l0 k l l (l.length : Int) (i : Int) = some e ∧ (e = 0 ↔ (∀ j, j < l.length → Okp (Pt l j)) ∧ C1 l 0 ∧ 0 < dblS l l.length 0)
  | 0, k, i, hi, hk, hj => by
    obtain ⟨k, rfl⟩ : ∃ q, k = q + 1 := ⟨k - 1, by omega⟩
    have hok : ∀ j, j < l.length → Okp (Pt l j) := fun j h => hj j (by omega)
    rw [polygon_Check.l0, if_neg (by omega)]
    obtain ⟨e, he, hz⟩ := check_l1 l hl hl3 hok l.length k 0 (by omega) (by omega)
    exact ⟨e, he, hz.trans ⟨fun h => ⟨hok, h⟩, fun h => h.2⟩⟩
  | d + 1, k, i, hi, hk, hj => by
    obtain ⟨k, rfl⟩ : ∃ q, k = q + 1 := ⟨k - 1, by omega⟩
    have hlt : i < l.length := by omega
    have e1 : ∀ j : Nat, rd_T25 l (j : Int) = Pt l j := fun _ => rfl
    rw [polygon_Check.l0, if_pos (by omega), if_pos (by omega), if_pos (by omega), e1, check_f, Option.bind_some]
    by_cases c : Ok (Pt l i).f0 (Pt l i).f1
    · rw [if_pos c, if_pos rfl, w64 (by omega) (by omega), show ((i : Int) + 1) = ((i + 1 : Nat) : Int) by omega]
      exact check_l0 l hl hl3 d k (i + 1) (by omega) (by omega) (fun j h => by
        by_cases g : j = i
        · subst g; exact c
        · exact hj j (by omega))
    · rw [if_neg c, if_neg (by decide)]
      exact ⟨4, rfl, ⟨fun h => by omega, fun h => absurd (h.1 i hlt) c⟩⟩
/-- A valid polygon. -/
def Valid (l : List S25) : Prop := (3 ≤ l.length ∧ l.length ≤ 16) ∧ (∀ j, j < l.length → Okp (Pt l j)) ∧ C1 l 0 ∧ 0 < dblS l l.length 0
theorem pcheck (l : List S25) : ∃ e, (∀ k, 420 ≤ k → polygon_Check.f k l = some e) ∧ (e = 0 ↔ Valid l) := by
  have main : ∃ e, polygon_Check.f 420 l = some e ∧ (e = 0 ↔ Valid l) := by
    unfold polygon_Check.f
    by_cases h1 : (l.length : Int) > 16
    · rw [if_pos h1]; exact ⟨2, rfl, ⟨fun h => by omega, fun h => by have := h.1.2; omega⟩⟩
    · rw [if_neg h1]
      by_cases h2 : (l.length : Int) < 3
      · rw [if_pos h2]; exact ⟨3, rfl, ⟨fun h => by omega, fun h => by have := h.1.1; omega⟩⟩
      · rw [if_neg h2]
        obtain ⟨e, he, hz⟩ := check_l0 l (by omega) (by omega) l.length 420 0 (by omega) (by omega) (fun j h => by omega)
        exact ⟨e, he, hz.trans ⟨fun h => ⟨⟨by omega, by omega⟩, h⟩, fun h => h.2⟩⟩
  obtain ⟨e, he, hz⟩ := main
  exact ⟨e, fun k hk => at_rounds (fun k => polygon_Check.mono l k) hk he, hz⟩
/-- A point on an edge. -/
def onE (l : List S25) (x y : Int) (i : Nat) : Bool := decide (X (Pt l (pv l.length i)).f0 (Pt l (pv l.length i)).f1 (Pt l i).f0 (Pt l i).f1 x y = 0) && decide (Dt (Pt l (pv l.length i)).f0 (Pt l (pv l.length i)).f1 (Pt l i).f0 (Pt l i).f1 x y ≤ 0)
/-- Whether the ray from a point crosses an edge. -/
def crossE (a b : S25) (x y : Int) : Bool := (decide (a.f1 ≤ y ∧ y < b.f1) && decide (X a.f0 a.f1 b.f0 b.f1 x y > 0)) || (decide (b.f1 ≤ y ∧ y < a.f1) && decide (X a.f0 a.f1 b.f0 b.f1 x y < 0))
def locS (l : List S25) (x y : Int) : Nat → Nat → Int → Int
  | 0, _, v => v
  | d + 1, i, v => if onE l x y i = true then 0 else locS l x y d (i + 1) (if crossE (Pt l (pv l.length i)) (Pt l i) x y = true then -v else v)
theorem sg_pos (x : Int) : sg x > 0 ↔ x > 0 := by unfold sg; (repeat' split) <;> omega
theorem sg_lt (x : Int) : sg x < 0 ↔ x < 0 := by unfold sg; (repeat' split) <;> omega
theorem loc_j1 (k : Nat) (l l' : List S25) (v t n i x y bx b_y ax ay : Int) (hv : wrap64 (-v) = -v) : polygon_locate.j1 (k + 1) l v t l' n i false x y bx b_y ax ay =
    if (decide (ay ≤ y ∧ y < b_y) && decide (t > 0)) || (decide (b_y ≤ y ∧ y < ay) && decide (t < 0)) then polygon_locate.l0 k l (-v) l' n (wrap64 (i + 1)) x y else polygon_locate.l0 k l v l' n (wrap64 (i + 1)) x y := by
  rw [polygon_locate.j1, if_neg (by decide), hv]
  by_cases c1 : ay ≤ y <;> by_cases c2 : y < b_y <;> by_cases c3 : t > 0 <;> by_cases c4 : b_y ≤ y <;> by_cases c5 : y < ay <;> by_cases c6 : t < 0 <;> simp [c1, c2, c3, c4, c5, c6] <;> omega
theorem locate_l (l : List S25) (hl : l.length ≤ 16) (hok : ∀ i, i < l.length → Okp (Pt l i)) {x y : Int} (hq : Ok x y) : ∀ (d k i : Nat) (v : Int), i + d = l.length → 2 * d < k → -1 ≤ v → v ≤ 1 →
    polygon_locate.l0 k l v l (l.length : Int) (i : Int) x y = some (locS l x y d i v)
  | 0, k, i, v, hi, hk, h1, h2 => by
    obtain ⟨k, rfl⟩ : ∃ m, k = m + 1 := ⟨k - 1, by omega⟩
    rw [polygon_locate.l0, if_neg (by omega), locS]
  | d + 1, k, i, v, hi, hk, h1, h2 => by
    obtain ⟨k, rfl⟩ : ∃ m, k = m + 2 := ⟨k - 2, by omega⟩
    have hlt : i < l.length := by omega
    have hn := pv_lt hlt
    have e1 : ∀ j : Nat, rd_T25 l (j : Int) = Pt l j := fun _ => rfl
    have ht := turn_ok (hok _ hn) (hok i hlt) hq
    have ho := on_f (hok _ hn) (hok i hlt) hq
    rw [polygon_locate.l0, if_pos (by omega), if_pos (by omega), if_pos (by omega), if_neg (by omega), w64 (x := (i : Int) + (l.length : Int)) (by omega) (by omega), w64 (x := (i : Int) + (l.length : Int) - 1) (by omega) (by omega), md_pv hlt, if_pos (by omega), if_pos (by omega), e1, e1, ht, Option.bind_some, locS]
    have step : ∀ b : Bool, (b = false) → polygon_locate.j1 (k + 1) l v (sg (X (Pt l (pv l.length i)).f0 (Pt l (pv l.length i)).f1 (Pt l i).f0 (Pt l i).f1 x y)) l (l.length : Int) (i : Int) b x y (Pt l i).f0 (Pt l i).f1 (Pt l (pv l.length i)).f0 (Pt l (pv l.length i)).f1 = some (locS l x y d (i + 1) (if crossE (Pt l (pv l.length i)) (Pt l i) x y = true then -v else v)) := by
      intro b hb
      subst hb
      have hc : ((decide ((Pt l (pv l.length i)).f1 ≤ y ∧ y < (Pt l i).f1) && decide (sg (X (Pt l (pv l.length i)).f0 (Pt l (pv l.length i)).f1 (Pt l i).f0 (Pt l i).f1 x y) > 0)) || (decide ((Pt l i).f1 ≤ y ∧ y < (Pt l (pv l.length i)).f1) && decide (sg (X (Pt l (pv l.length i)).f0 (Pt l (pv l.length i)).f1 (Pt l i).f0 (Pt l i).f1 x y) < 0))) = crossE (Pt l (pv l.length i)) (Pt l i) x y := by
        unfold crossE
        rw [decide_eq_decide.2 (sg_pos _), decide_eq_decide.2 (sg_lt _)]
      rw [loc_j1 _ _ _ _ _ _ _ _ _ _ _ _ _ (w64 (by omega) (by omega)), hc, w64 (x := (i : Int) + 1) (by omega) (by omega), show ((i : Int) + 1) = ((i + 1 : Nat) : Int) by omega]
      by_cases c : crossE (Pt l (pv l.length i)) (Pt l i) x y = true
      · rw [if_pos c, if_pos c, locate_l l hl hok hq d k (i + 1) (-v) (by omega) (by omega) (by omega) (by omega)]
      · rw [if_neg c, if_neg c, locate_l l hl hok hq d k (i + 1) v (by omega) (by omega) (by omega) (by omega)]
    by_cases c : X (Pt l (pv l.length i)).f0 (Pt l (pv l.length i)).f1 (Pt l i).f0 (Pt l i).f1 x y = 0
    · rw [if_pos ((sg_zero _).2 c), ho, Option.bind_some]
      by_cases c2 : Dt (Pt l (pv l.length i)).f0 (Pt l (pv l.length i)).f1 (Pt l i).f0 (Pt l i).f1 x y ≤ 0
      · have hE : onE l x y i = true := by unfold onE; rw [decide_eq_true c, decide_eq_true c2]; rfl
        rw [if_pos hE, decide_eq_true c2, polygon_locate.j1, if_pos rfl]
      · have hE : ¬ onE l x y i = true := by unfold onE; rw [decide_eq_false c2]; simp
        rw [if_neg hE]
        exact step _ (decide_eq_false c2)
    · have hE : ¬ onE l x y i = true := by unfold onE; rw [decide_eq_false c]; simp
      rw [if_neg hE, if_neg (fun h => c ((sg_zero _).1 h))]
      exact step _ rfl
def loc (l : List S25) (x y : Int) : Int := locS l x y l.length 0 (-1)
theorem locate_f (l : List S25) (hl : l.length ≤ 16) (hok : ∀ i, i < l.length → Okp (Pt l i)) {x y : Int} (hq : Ok x y) (k : Nat) (hk : 40 ≤ k) : polygon_locate.f k l x y = some (loc l x y) := by
  unfold polygon_locate.f loc
  exact locate_l l hl hok hq l.length k 0 (-1) (by omega) (by omega) (by omega) (by omega)
theorem locS_on (l : List S25) (x y : Int) : ∀ (d i j : Nat) (v : Int), i ≤ j → j < i + d → onE l x y j = true → locS l x y d i v = 0
  | 0, i, j, v, h1, h2, h => by omega
  | d + 1, i, j, v, h1, h2, h => by
    rw [locS]
    by_cases c : onE l x y i = true
    · rw [if_pos c]
    · rw [if_neg c]
      have : i ≠ j := fun e => c (e ▸ h)
      exact locS_on l x y d (i + 1) j _ (by omega) (by omega) h
theorem loc_on (l : List S25) {x y : Int} {j : Nat} (hj : j < l.length) (h : onE l x y j = true) : loc l x y = 0 := locS_on l x y l.length 0 j (-1) (by omega) (by omega) h
theorem mul64_f (a b : Int) (a0 : 0 ≤ a) (a1 : a < 18446744073709551616) (b0 : 0 ≤ b) (b1 : b < 18446744073709551616) :
    bits_Mul64.f a b = some (a * b / 18446744073709551616, a * b % 18446744073709551616) := by
  unfold bits_Mul64.f
  rw [and_low32 a a0 a1, and_low32 b b0 b1]
  simp only [u64w]
  rw [and_low32 _ (by omega) (by omega), mul64_arith a b a0 a1 b0 b1]
theorem atmost_f {c d n : Int} (c1 : -8000000000000 ≤ c) (c2 : c ≤ 8000000000000) (d1 : 0 ≤ d) (d2 : d ≤ 1000000) (n1 : 0 ≤ n) (n2 : n ≤ 8000000000000) : polygon_atMost.f c d n = some (decide (c * c ≤ d * d * n)) := by
  have hd := sq_bd (show -1000000 ≤ d by omega) d2
  have hd0 := sq_nonneg d
  have e1 : IntKind.u64.wrap (wrap64 (d * d)) = d * d := by rw [u64w, w64 (by omega) (by omega)]; omega
  have e2 : IntKind.u64.wrap n = n := by rw [u64w]; omega
  have fin : ∀ P Q : Int, (if P / 18446744073709551616 < Q / 18446744073709551616 then some true else if P / 18446744073709551616 = Q / 18446744073709551616 then some (decide (P % 18446744073709551616 ≤ Q % 18446744073709551616)) else some false) = some (decide (P ≤ Q)) := by
    intro P Q
    by_cases h1 : P / 18446744073709551616 < Q / 18446744073709551616
    · rw [if_pos h1]; congr 1; exact (decide_eq_true (by omega)).symm
    · rw [if_neg h1]
      by_cases h2 : P / 18446744073709551616 = Q / 18446744073709551616
      · rw [if_pos h2]; congr 1; exact decide_eq_decide.2 (by omega)
      · rw [if_neg h2]; congr 1; exact (decide_eq_false (by omega)).symm
  unfold polygon_atMost.f polygon_product.f
  rw [e1, e2]
  by_cases h : c < 0
  · have e3 : IntKind.u64.wrap (wrap64 (-c)) = -c := by rw [u64w, w64 (by omega) (by omega)]; omega
    have e4 : -c * -c = c * c := by grind
    rw [if_pos h, e3, mul64_f _ _ (by omega) (by omega) (by omega) (by omega), mul64_f _ _ (by omega) (by omega) (by omega) (by omega), e4]
    exact fin _ _
  · have e3 : IntKind.u64.wrap c = c := by rw [u64w]; omega
    rw [if_neg h, e3, mul64_f _ _ (by omega) (by omega) (by omega) (by omega), mul64_f _ _ (by omega) (by omega) (by omega) (by omega)]
    exact fin _ _
def nearB (ax ay bx b_y x y d : Int) : Bool :=
  if (bx - ax) * (x - ax) + (b_y - ay) * (y - ay) ≤ 0 then decide (S (ax - x) (ay - y) ≤ d * d)
  else if (bx - ax) * (x - ax) + (b_y - ay) * (y - ay) ≥ (bx - ax) * (bx - ax) + (b_y - ay) * (b_y - ay) then decide (S (bx - x) (b_y - y) ≤ d * d)
  else decide (X ax ay bx b_y x y * X ax ay bx b_y x y ≤ d * d * ((bx - ax) * (bx - ax) + (b_y - ay) * (b_y - ay)))
theorem near_p {ax ay bx b_y x y d : Int} (ha : Ok ax ay) (hb : Ok bx b_y) (hq : Ok x y) (d1 : 0 ≤ d) (d2 : d ≤ 1000000) : polygon_near.f ax ay bx b_y x y d = some (nearB ax ay bx b_y x y d) := by
  obtain ⟨a1, a2, a3, a4⟩ := ha
  obtain ⟨b1, b2, b3, b4⟩ := hb
  obtain ⟨q1, q2, q3, q4⟩ := hq
  have v1 : -2000000 ≤ bx - ax := by omega
  have v2 : bx - ax ≤ 2000000 := by omega
  have v3 : -2000000 ≤ b_y - ay := by omega
  have v4 : b_y - ay ≤ 2000000 := by omega
  have u1 : -2000000 ≤ x - ax := by omega
  have u2 : x - ax ≤ 2000000 := by omega
  have u3 : -2000000 ≤ y - ay := by omega
  have u4 : y - ay ≤ 2000000 := by omega
  have m1 := mul_bd v1 v2 u1 u2
  have m2 := mul_bd v3 v4 u3 u4
  have m3 := mul_bd v1 v2 v1 v2
  have m4 := mul_bd v3 v4 v3 v4
  have m5 := mul_bd v1 v2 u3 u4
  have m6 := mul_bd v3 v4 u1 u2
  have s1 := sq_nonneg (bx - ax)
  have s2 := sq_nonneg (b_y - ay)
  unfold polygon_near.f plane_Sub.f plane_Dot.f plane_Cross.f nearB
  rw [w64 (x := bx - ax) (by omega) (by omega), w64 (x := b_y - ay) (by omega) (by omega), w64 (x := x - ax) (by omega) (by omega), w64 (x := y - ay) (by omega) (by omega), Option.bind_some, Option.bind_some, Option.bind_some, Option.bind_some]
  dsimp only
  rw [w64 (x := (bx - ax) * (x - ax)) (by omega) (by omega), w64 (x := (b_y - ay) * (y - ay)) (by omega) (by omega), w64 (x := (bx - ax) * (bx - ax)) (by omega) (by omega), w64 (x := (b_y - ay) * (b_y - ay)) (by omega) (by omega),
    w64 (x := (bx - ax) * (x - ax) + (b_y - ay) * (y - ay)) (by omega) (by omega), w64 (x := (bx - ax) * (bx - ax) + (b_y - ay) * (b_y - ay)) (by omega) (by omega),
    w64 (x := (bx - ax) * (y - ay)) (by omega) (by omega), w64 (x := (b_y - ay) * (x - ax)) (by omega) (by omega), w64 (x := (bx - ax) * (y - ay) - (b_y - ay) * (x - ax)) (by omega) (by omega)]
  have hw : ∀ p q : Int, -2000000 ≤ p - x → p - x ≤ 2000000 → -2000000 ≤ q - y → q - y ≤ 2000000 → plane_Within.f p q x y d = some (decide (S (p - x) (q - y) ≤ d * d)) := by
    intro p q g1 g2 g3 g4
    rw [within (by omega) (by omega) (by omega) (by omega)]
    congr 1
    exact decide_eq_decide.2 ⟨fun h => h.2.2, fun h => ⟨d1, by omega, h⟩⟩
  rw [hw ax ay (by omega) (by omega) (by omega) (by omega), hw bx b_y (by omega) (by omega) (by omega) (by omega), Option.bind_some, Option.bind_some, Option.bind_some, atmost_f (by omega) (by omega) d1 d2 (by omega) (by omega), Option.bind_some]
  split
  · rfl
  · split
    · rfl
    · rfl
theorem near_vertex {ax ay bx b_y x y d : Int} (h : S (bx - x) (b_y - y) ≤ d * d) : nearB ax ay bx b_y x y d = true := by
  obtain ⟨vx, hvx⟩ : ∃ v, v = bx - ax := ⟨_, rfl⟩
  obtain ⟨vy, hvy⟩ : ∃ v, v = b_y - ay := ⟨_, rfl⟩
  obtain ⟨wx, hwx⟩ : ∃ v, v = x - ax := ⟨_, rfl⟩
  obtain ⟨wy, hwy⟩ : ∃ v, v = y - ay := ⟨_, rfl⟩
  have e1 : bx - x = vx - wx := by omega
  have e2 : b_y - y = vy - wy := by omega
  have e3 : ax - x = -wx := by omega
  have e4 : ay - y = -wy := by omega
  unfold nearB X
  rw [e1, e2] at h ⊢
  rw [e3, e4, ← hvx, ← hvy, ← hwx, ← hwy]
  unfold S at h ⊢
  have i1 : (vx - wx) * (vx - wx) + (vy - wy) * (vy - wy) = (vx * vx + vy * vy) - 2 * (vx * wx + vy * wy) + (wx * wx + wy * wy) := by grind
  have i2 : -wx * -wx + -wy * -wy = wx * wx + wy * wy := by grind
  have i3 : ((vx * vx + vy * vy) - (vx * wx + vy * wy)) * ((vx * vx + vy * vy) - (vx * wx + vy * wy)) + (vx * wy - vy * wx) * (vx * wy - vy * wx) = ((vx - wx) * (vx - wx) + (vy - wy) * (vy - wy)) * (vx * vx + vy * vy) := by grind
  have s1 := sq_nonneg vx
  have s2 := sq_nonneg vy
  split
  · rw [i2]; exact decide_eq_true (by omega)
  · split
    · exact decide_eq_true h
    · refine decide_eq_true ?_
      have s3 := sq_nonneg ((vx * vx + vy * vy) - (vx * wx + vy * wy))
      have := Int.mul_le_mul_of_nonneg_right h (show 0 ≤ vx * vx + vy * vy by omega)
      omega
theorem near_mono {ax ay bx b_y x y d d' : Int} (h0 : 0 ≤ d') (h1 : d' ≤ d) (h : nearB ax ay bx b_y x y d' = true) : nearB ax ay bx b_y x y d = true := by
  have hd := sq_mono h0 h1
  unfold nearB at h ⊢
  split at h
  · rename_i c
    rw [if_pos c]
    have := of_decide_eq_true h
    exact decide_eq_true (by omega)
  · rename_i c
    rw [if_neg c]
    split at h
    · rename_i c2
      rw [if_pos c2]
      have := of_decide_eq_true h
      exact decide_eq_true (by omega)
    · rename_i c2
      rw [if_neg c2]
      have h2 := of_decide_eq_true h
      refine decide_eq_true ?_
      have s1 := sq_nonneg (bx - ax)
      have s2 := sq_nonneg (b_y - ay)
      have := Int.mul_le_mul_of_nonneg_right hd (show 0 ≤ (bx - ax) * (bx - ax) + (b_y - ay) * (b_y - ay) by omega)
      omega
theorem sq_eq0 {a : Int} (h : a * a = 0) : a = 0 := by rcases Int.mul_eq_zero.1 h with h | h <;> exact h
theorem sq_zero {a b : Int} (h : a * a + b * b ≤ 0) : a = 0 ∧ b = 0 := by
  have s1 := sq_nonneg a
  have s2 := sq_nonneg b
  exact ⟨sq_eq0 (by omega), sq_eq0 (by omega)⟩
theorem near_zero {ax ay bx b_y x y : Int} (h : nearB ax ay bx b_y x y 0 = true) : X ax ay bx b_y x y = 0 ∧ Dt ax ay bx b_y x y ≤ 0 := by
  obtain ⟨vx, hvx⟩ : ∃ v, v = bx - ax := ⟨_, rfl⟩
  obtain ⟨vy, hvy⟩ : ∃ v, v = b_y - ay := ⟨_, rfl⟩
  obtain ⟨wx, hwx⟩ : ∃ v, v = x - ax := ⟨_, rfl⟩
  obtain ⟨wy, hwy⟩ : ∃ v, v = y - ay := ⟨_, rfl⟩
  have e1 : bx - x = vx - wx := by omega
  have e2 : b_y - y = vy - wy := by omega
  have e3 : ax - x = -wx := by omega
  have e4 : ay - y = -wy := by omega
  unfold nearB at h
  unfold X at h ⊢
  unfold Dt
  rw [e1, e2] at h ⊢
  rw [e3, e4, ← hvx, ← hvy, ← hwx, ← hwy] at h
  rw [e3, e4, ← hvx, ← hvy, ← hwx, ← hwy]
  unfold S at h
  have i1 : -wx * (vx - wx) + -wy * (vy - wy) = (wx * wx + wy * wy) - (vx * wx + vy * wy) := by grind
  have i2 : -wx * -wx + -wy * -wy = wx * wx + wy * wy := by grind
  have i3 : (vx * wx + vy * wy) * (vx * wx + vy * wy) + (vx * wy - vy * wx) * (vx * wy - vy * wx) = (wx * wx + wy * wy) * (vx * vx + vy * vy) := by grind
  rw [i1]
  split at h
  · have h2 := of_decide_eq_true h
    rw [i2] at h2
    obtain ⟨z1, z2⟩ := sq_zero (a := wx) (b := wy) (by omega)
    rw [z1, z2]
    simp
  · split at h
    · have h2 := of_decide_eq_true h
      obtain ⟨z1, z2⟩ := sq_zero (show (vx - wx) * (vx - wx) + (vy - wy) * (vy - wy) ≤ 0 by omega)
      have z3 : vx = wx := by omega
      have z4 : vy = wy := by omega
      rw [z3, z4]
      constructor
      · grind
      · omega
    · rename_i c1 c2
      have h2 := of_decide_eq_true h
      rw [Int.mul_zero, Int.zero_mul] at h2
      have hz : vx * wy - vy * wx = 0 := sq_eq0 (by have := sq_nonneg (vx * wy - vy * wx); omega)
      refine ⟨hz, ?_⟩
      rw [hz, Int.mul_zero, Int.add_zero] at i3
      generalize vx * wx + vy * wy = A at *
      generalize wx * wx + wy * wy = W at *
      generalize vx * vx + vy * vy = L at *
      rcases Int.lt_or_le A W with g | g
      · have := Int.mul_lt_mul_of_pos_right g (show 0 < L by omega)
        have := Int.mul_lt_mul_of_pos_left (show A < L by omega) (show 0 < A by omega)
        omega
      · omega
theorem apart_l (l : List S25) (hl : l.length ≤ 16) (hok : ∀ i, i < l.length → Okp (Pt l i)) {x y d : Int} (hq : Ok x y) (d1 : 0 ≤ d) (d2 : d ≤ 1000000) : ∀ (m k i : Nat), i + m = l.length → m < k →
    ∃ b, polygon_Apart.l0 k l d l (l.length : Int) (i : Int) x y = some (b, 0) ∧ (b = true ↔ ∀ j, i ≤ j → j < l.length → nearB (Pt l (pv l.length j)).f0 (Pt l (pv l.length j)).f1 (Pt l j).f0 (Pt l j).f1 x y d = false)
  | 0, k, i, hi, hk => by
    obtain ⟨k, rfl⟩ : ∃ m, k = m + 1 := ⟨k - 1, by omega⟩
    rw [polygon_Apart.l0, if_neg (by omega)]
    exact ⟨true, rfl, ⟨fun _ j h1 h2 => by omega, fun _ => rfl⟩⟩
  | m + 1, k, i, hi, hk => by
    obtain ⟨k, rfl⟩ : ∃ m, k = m + 1 := ⟨k - 1, by omega⟩
    have hlt : i < l.length := by omega
    have hn := pv_lt hlt
    have e1 : ∀ j : Nat, rd_T25 l (j : Int) = Pt l j := fun _ => rfl
    have hp := near_p (hok _ hn) (hok i hlt) hq d1 d2
    rw [polygon_Apart.l0, if_pos (by omega), if_pos (by omega), if_pos (by omega), if_neg (by omega), w64 (x := (i : Int) + (l.length : Int)) (by omega) (by omega), w64 (x := (i : Int) + (l.length : Int) - 1) (by omega) (by omega), md_pv hlt, if_pos (by omega), if_pos (by omega), e1, e1, hp, Option.bind_some]
    by_cases c : nearB (Pt l (pv l.length i)).f0 (Pt l (pv l.length i)).f1 (Pt l i).f0 (Pt l i).f1 x y d = true
    · rw [if_pos c]
      exact ⟨false, rfl, ⟨fun h => (by cases h), fun h => by rw [h i (Nat.le_refl _) hlt] at c; cases c⟩⟩
    · rw [if_neg c, w64 (by omega) (by omega), show ((i : Int) + 1) = ((i + 1 : Nat) : Int) by omega]
      obtain ⟨b, hb, hz⟩ := apart_l l hl hok hq d1 d2 m k (i + 1) (by omega) (by omega)
      refine ⟨b, hb, hz.trans ⟨fun h j h1 h2 => ?_, fun h j h1 h2 => h j (by omega) h2⟩⟩
      by_cases g : j = i
      · rw [g]; simpa using c
      · exact h j (by omega) h2
theorem apart_f {l : List S25} (h : Valid l) {x y d : Int} (hq : Ok x y) (k : Nat) (hk : 420 ≤ k) :
    ((d < 0 ∨ d > 1000000) ∧ polygon_Apart.f k l x y d = some (false, 4)) ∨
    ((0 ≤ d ∧ d ≤ 1000000) ∧ ∃ b, polygon_Apart.f k l x y d = some (b, 0) ∧ (b = true ↔ loc l x y < 0 ∧ ∀ j, j < l.length → nearB (Pt l (pv l.length j)).f0 (Pt l (pv l.length j)).f1 (Pt l j).f0 (Pt l j).f1 x y d = false)) := by
  obtain ⟨e, he, hz⟩ := pcheck l
  have h0 := hz.2 h
  obtain ⟨k, rfl⟩ : ∃ m, k = m + 1 := ⟨k - 1, by omega⟩
  unfold polygon_Apart.f
  rw [he (k + 1) hk, h0, Option.bind_some, if_pos rfl, check_f, if_pos hq, Option.bind_some, if_pos rfl]
  by_cases c1 : d < 0
  · rw [if_pos c1, polygon_Apart.j0, if_pos rfl]; exact Or.inl ⟨Or.inl c1, rfl⟩
  · rw [if_neg c1]
    by_cases c2 : d > 1000000
    · rw [polygon_Apart.j0, if_pos (decide_eq_true c2)]; exact Or.inl ⟨Or.inr c2, rfl⟩
    · rw [polygon_Apart.j0, if_neg (by simpa using c2), locate_f l h.1.2 h.2.1 hq k (by omega), Option.bind_some]
      right
      refine ⟨⟨by omega, by omega⟩, ?_⟩
      by_cases c3 : loc l x y ≥ 0
      · rw [if_pos c3]; exact ⟨false, rfl, ⟨fun h => (by cases h), fun h => by omega⟩⟩
      · rw [if_neg c3]
        obtain ⟨b, hb, hz⟩ := apart_l l h.1.2 h.2.1 hq (show 0 ≤ d by omega) (show d ≤ 1000000 by omega) l.length k 0 (by omega) (by have := h.1.2; omega)
        exact ⟨b, hb, hz.trans ⟨fun h => ⟨by omega, fun j hj => h j (by omega) hj⟩, fun h j _ hj => h.2 j hj⟩⟩
theorem polyWorks (k : Nat) (hk : 60 ≤ k) : skywaykeep1_polygonWorks.f k = some true := by
  have h : skywaykeep1_polygonWorks.f 60 = some true := by decide +kernel
  exact at_rounds skywaykeep1_polygonWorks.mono hk h
/-- The law's loop over the vertices. -/
theorem law_l {l : List S25} (h : Valid l) {x y d n : Int} (hq : Ok x y) (d1 : 0 ≤ d) (d2 : d ≤ 1000000) (b : Bool) (hb : b = true → ∀ j, j < l.length → ¬ S ((Pt l j).f0 - x) ((Pt l j).f1 - y) ≤ d * d) (K : Nat)
    (hfin : ∀ k, K ≤ k → ((polygon_Apart.f k l x y (wrap64 (Int.tdiv d 2))).bind fun bt234 => (if bt234.2 = 0 then (if b = true then (if bt234.1 = true then (some true) else (some false)) else (if d > 0 then (some true) else (some (decide (n ≥ 0))))) else (some false))) = some true) :
    ∀ (m k i : Nat), i + m = l.length → m + K < k → skywaykeep1_PolygonApart.l0 k l d b n l (l.length : Int) (i : Int) x y = some true
  | 0, k, i, hi, hk => by
    obtain ⟨k, rfl⟩ : ∃ m, k = m + 1 := ⟨k - 1, by omega⟩
    rw [skywaykeep1_PolygonApart.l0, if_neg (by omega)]
    exact hfin k (by omega)
  | m + 1, k, i, hi, hk => by
    obtain ⟨k, rfl⟩ : ∃ m, k = m + 1 := ⟨k - 1, by omega⟩
    have hlt : i < l.length := by omega
    have hl := h.1.2
    have e1 : ∀ j : Nat, rd_T25 l (j : Int) = Pt l j := fun _ => rfl
    have ih := law_l h hq d1 d2 b hb K hfin m k (i + 1) (by omega) (by omega)
    rw [skywaykeep1_PolygonApart.l0, if_pos (by omega), if_pos (by omega), if_pos (by omega), e1, w64 (by omega) (by omega), show ((i : Int) + 1) = ((i + 1 : Nat) : Int) by omega, ih]
    by_cases c : b = true
    · obtain ⟨a1, a2, a3, a4⟩ := h.2.1 i hlt
      obtain ⟨q1, q2, q3, q4⟩ := hq
      rw [if_pos c, within (by omega) (by omega) (by omega) (by omega), Option.bind_some, if_neg]
      intro g
      exact hb c i hlt (of_decide_eq_true g).2.2
    · rw [if_neg c]
theorem PolygonApart : skywaykeep1_PolygonApart.Pure := by
  intro l x y d _ _ _ hd
  refine ⟨500, ?_⟩
  unfold skywaykeep1_PolygonApart.f
  rw [polyWorks 500 (by decide), Option.bind_some, if_pos rfl]
  obtain ⟨e, he, hz⟩ := pcheck l
  by_cases h0 : e = 0
  · have h := hz.1 h0
    by_cases hq : Ok x y
    · rcases apart_f h hq (d := d) 500 (by decide) with ⟨_, ea⟩ | ⟨⟨d1, d2⟩, b, ea, hb⟩
      · rw [ea, Option.bind_some, if_neg (by decide)]; rfl
      · have hloc : polygon_Locate.f 500 l x y = some (loc l x y, 0) := by
          unfold polygon_Locate.f
          rw [he 500 (by decide), h0, Option.bind_some, if_pos rfl, check_f, if_pos hq, Option.bind_some, if_pos rfl, locate_f l h.1.2 h.2.1 hq 500 (by decide), Option.bind_some]
        rw [ea, Option.bind_some, if_pos rfl, hloc, Option.bind_some, if_pos rfl]
        dsimp only
        have hv : b = true → ∀ j, j < l.length → ¬ S ((Pt l j).f0 - x) ((Pt l j).f1 - y) ≤ d * d := by
          intro g j hj hs
          have := (hb.1 g).2 j hj
          rw [near_vertex hs] at this
          cases this
        have main : skywaykeep1_PolygonApart.l0 499 l d b (loc l x y) l (l.length : Int) 0 x y = some true := by
          refine law_l h hq d1 d2 b hv 420 (fun k hk => ?_) l.length 499 0 (by omega) (by have := h.1.2; omega)
          rw [Int.tdiv_eq_ediv_of_nonneg d1, w64 (by omega) (by omega)]
          rcases apart_f h hq (d := d / 2) k hk with ⟨g, _⟩ | ⟨_, b', ea', hb'⟩
          · omega
          · rw [ea', Option.bind_some, if_pos rfl]
            dsimp only
            by_cases c : b = true
            · have : b' = true := hb'.2 ⟨(hb.1 c).1, fun j hj => by
                have := (hb.1 c).2 j hj
                rw [Bool.eq_false_iff]
                intro g
                rw [near_mono (show 0 ≤ d / 2 by omega) (show d / 2 ≤ d by omega) g] at this
                cases this⟩
              rw [if_pos c, if_pos this]
            · rw [if_neg c]
              by_cases c2 : d > 0
              · rw [if_pos c2]
              · rw [if_neg c2]
                congr 1
                refine decide_eq_true ?_
                have dz : d = 0 := by omega
                rcases Int.lt_or_le (loc l x y) 0 with g | g
                · exfalso
                  refine c (hb.2 ⟨g, fun j hj => ?_⟩)
                  rw [Bool.eq_false_iff]
                  intro hn
                  rw [dz] at hn
                  obtain ⟨z1, z2⟩ := near_zero hn
                  have := loc_on l hj (show onE l x y j = true by unfold onE; rw [decide_eq_true z1, decide_eq_true z2]; rfl)
                  omega
                · exact g
        have hj0 : ∀ t : Bool, t = false → skywaykeep1_PolygonApart.j0 500 l d b (loc l x y) t x y = some true := by
          intro t ht
          subst ht
          rw [show (500 : Nat) = 499 + 1 from rfl, skywaykeep1_PolygonApart.j0, if_neg (by decide)]
          exact main
        by_cases c : b = true
        · rw [if_pos c]
          exact hj0 _ (decide_eq_false (by have := (hb.1 c).1; omega))
        · rw [if_neg c]
          exact hj0 _ rfl
    · have e1 : polygon_Apart.f 500 l x y d = some (false, 4) := by
        unfold polygon_Apart.f
        rw [he 500 (by decide), h0, Option.bind_some, if_pos rfl, check_f, if_neg hq, Option.bind_some, if_neg (by decide)]
      rw [e1, Option.bind_some, if_neg (by decide)]; rfl
  · have e1 : polygon_Apart.f 500 l x y d = some (false, e) := by
      unfold polygon_Apart.f
      rw [he 500 (by decide), Option.bind_some, if_neg h0]
    rw [e1, Option.bind_some, if_neg h0]; rfl

end Go.Proofs.Yteaddpieonkboaa.Pure
