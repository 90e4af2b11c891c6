/- RouteCrossed: for all routes and volumes, the names of the crossed volumes do not depend on the direction of the route, and hold each volume whose area contains one of its fixes, if there are two. -/
import Derived.Test.YtbpbpojnfhhbjaaPRouteCrossedx
import Derived.Test.YtbpbpojnfhhbjaaTMath
import Derived.Laws.MathBits
namespace Go.Proofs.Ytbpbpojnfhhbjaa.Pure
open Go Go.RowKit Go.Proofs.Ytbpbpojnfhhbjaa Go.Proofs.Ytbpbpojnfhhbjaa.PRouteCrossed Go.Proofs.YtbpbpojnfhhbjaaW.PrintWords Go.Proofs.YtbpbpojnfhhbjaaW.PrintLast Go.Proofs.YtbpbpojnfhhbjaaW.PrintMore Go.Proofs.YtbpbpojnfhhbjaaM
/-- A permitted coordinate. -/
def Ok (x y : Int) : Prop := -1000000 ≤ x ∧ x ≤ 1000000 ∧ -1000000 ≤ y ∧ y ≤ 1000000
instance (x y : Int) : Decidable (Ok x y) := inferInstanceAs (Decidable (_ ∧ _))
theorem check_f (x y : Int) : plane_Check.f x y = some (if Ok x y then 0 else 4) := by
  unfold plane_Check.f
  by_cases c : Ok x y
  · rw [if_pos c]
    obtain ⟨c1, c2, c3, c4⟩ := c
    rw [if_neg (by omega), if_neg (by omega), if_neg (by omega), if_neg (by omega)]
  · rw [if_neg c]
    by_cases c1 : x < -1000000
    · rw [if_pos c1]
    · rw [if_neg c1]
      by_cases c2 : x > 1000000
      · rw [if_pos c2]
      · rw [if_neg c2]
        by_cases c3 : y < -1000000
        · rw [if_pos c3]
        · rw [if_neg c3, if_pos (by
            rcases Int.lt_or_le 1000000 y with h | h
            · exact h
            · exact absurd (show Ok x y from ⟨by omega, by omega, by omega, h⟩) c)]
/-- The cross product of b - a and c - a. -/
def X (ax ay bx b_y cx cy : Int) : Int := (bx - ax) * (cy - ay) - (b_y - ay) * (cx - ax)
def sg (x : Int) : Int := if x > 0 then 1 else if x < 0 then -1 else 0
theorem turn {ax ay bx b_y cx cy : Int} (h1 : -2000000000 ≤ bx - ax) (h2 : bx - ax ≤ 2000000000) (h3 : -2000000000 ≤ b_y - ay) (h4 : b_y - ay ≤ 2000000000)
    (h5 : -2000000000 ≤ cx - ax) (h6 : cx - ax ≤ 2000000000) (h7 : -2000000000 ≤ cy - ay) (h8 : cy - ay ≤ 2000000000) :
    plane_Turn.f ax ay bx b_y cx cy = some (sg (X ax ay bx b_y cx cy)) := by
  have m1 := mul_bd h1 h2 h7 h8
  have m2 := mul_bd h3 h4 h5 h6
  unfold plane_Turn.f plane_Sub.f plane_Cross.f X sg
  simp only [Option.bind_some]
  rw [w64 (x := bx - ax) (by omega) (by omega), w64 (x := b_y - ay) (by omega) (by omega), w64 (x := cx - ax) (by omega) (by omega), w64 (x := cy - ay) (by omega) (by omega),
    w64 (x := (bx - ax) * (cy - ay)) (by omega) (by omega), w64 (x := (b_y - ay) * (cx - ax)) (by omega) (by omega), w64 (by omega) (by omega)]
  split
  · rfl
  · split <;> rfl
theorem sg_rng (x : Int) : -1 ≤ sg x ∧ sg x ≤ 1 := by unfold sg; (repeat' split) <;> omega
/-- The scalar product of the ways from a point to two others. -/
def Dt (ax ay bx b_y px py : Int) : Int := (ax - px) * (bx - px) + (ay - py) * (b_y - py)
theorem on_f {ax ay bx b_y px py : Int} (ha : Ok ax ay) (hb : Ok bx b_y) (hp : Ok px py) : polygon_on.f ax ay bx b_y px py = some (decide (Dt ax ay bx b_y px py ≤ 0)) := by
  obtain ⟨a1, a2, a3, a4⟩ := ha
  obtain ⟨b1, b2, b3, b4⟩ := hb
  obtain ⟨p1, p2, p3, p4⟩ := hp
  have m1 := mul_bd (show -2000000 ≤ ax - px by omega) (show ax - px ≤ 2000000 by omega) (show -2000000 ≤ bx - px by omega) (show bx - px ≤ 2000000 by omega)
  have m2 := mul_bd (show -2000000 ≤ ay - py by omega) (show ay - py ≤ 2000000 by omega) (show -2000000 ≤ b_y - py by omega) (show b_y - py ≤ 2000000 by omega)
  unfold polygon_on.f plane_Sub.f plane_Dot.f Dt
  simp only [Option.bind_some]
  rw [w64 (x := ax - px) (by omega) (by omega), w64 (x := ay - py) (by omega) (by omega), w64 (x := bx - px) (by omega) (by omega), w64 (x := b_y - py) (by omega) (by omega),
    w64 (x := (ax - px) * (bx - px)) (by omega) (by omega), w64 (x := (ay - py) * (b_y - py)) (by omega) (by omega), w64 (by omega) (by omega)]
theorem turn_ok {ax ay bx b_y cx cy : Int} (ha : Ok ax ay) (hb : Ok bx b_y) (hc : Ok cx cy) : plane_Turn.f ax ay bx b_y cx cy = some (sg (X ax ay bx b_y cx cy)) := by
  obtain ⟨a1, a2, a3, a4⟩ := ha
  obtain ⟨b1, b2, b3, b4⟩ := hb
  obtain ⟨c1, c2, c3, c4⟩ := hc
  exact turn (by omega) (by omega) (by omega) (by omega) (by omega) (by omega) (by omega) (by omega)
def comB (s t u v : Int) (o1 o2 o3 o4 : Bool) : Bool := (decide (s * t < 0) && decide (u * v < 0)) || (decide (s = 0) && o1) || (decide (t = 0) && o2) || (decide (u = 0) && o3) || (decide (v = 0) && o4)
theorem com_j0 (k : Nat) (s t u v : Int) (x : Bool) {ax ay bx b_y cx cy dx dy : Int} (o1 o2 o3 o4 : Bool)
    (h1 : polygon_on.f ax ay bx b_y cx cy = some o1) (h2 : polygon_on.f ax ay bx b_y dx dy = some o2) (h3 : polygon_on.f cx cy dx dy ax ay = some o3) (h4 : polygon_on.f cx cy dx dy bx b_y = some o4) :
    polygon_Common.j0 (k + 1) s t u v x ax ay bx b_y cx cy dx dy = some (x || (decide (s = 0) && o1) || (decide (t = 0) && o2) || (decide (u = 0) && o3) || (decide (v = 0) && o4)) := by
  rw [polygon_Common.j0, h1, h2, h3, h4]
  simp only [Option.bind_some]
  cases x
  · by_cases c1 : s = 0 <;> by_cases c2 : t = 0 <;> by_cases c3 : u = 0 <;> by_cases c4 : v = 0 <;> cases o1 <;> cases o2 <;> cases o3 <;> cases o4 <;> simp [c1, c2, c3, c4]
  · simp
theorem common_f (k : Nat) {ax ay bx b_y cx cy dx dy : Int} (ha : Ok ax ay) (hb : Ok bx b_y) (hc : Ok cx cy) (hd : Ok dx dy) :
    polygon_Common.f (k + 1) ax ay bx b_y cx cy dx dy = some (comB (sg (X ax ay bx b_y cx cy)) (sg (X ax ay bx b_y dx dy)) (sg (X cx cy dx dy ax ay)) (sg (X cx cy dx dy bx b_y))
      (decide (Dt ax ay bx b_y cx cy ≤ 0)) (decide (Dt ax ay bx b_y dx dy ≤ 0)) (decide (Dt cx cy dx dy ax ay ≤ 0)) (decide (Dt cx cy dx dy bx b_y ≤ 0))) := by
  have r1 := sg_rng (X ax ay bx b_y cx cy)
  have r2 := sg_rng (X ax ay bx b_y dx dy)
  have r3 := sg_rng (X cx cy dx dy ax ay)
  have r4 := sg_rng (X cx cy dx dy bx b_y)
  unfold polygon_Common.f
  rw [turn_ok ha hb hc, turn_ok ha hb hd, turn_ok hc hd ha, turn_ok hc hd hb]
  simp only [Option.bind_some]
  have m1 := mul_bd r1.1 r1.2 r2.1 r2.2
  have m2 := mul_bd r3.1 r3.2 r4.1 r4.2
  rw [w64 (by omega) (by omega), w64 (by omega) (by omega), com_j0 k _ _ _ _ _ _ _ _ _ (on_f ha hb hc) (on_f ha hb hd) (on_f hc hd ha) (on_f hc hd hb), com_j0 k _ _ _ _ _ _ _ _ _ (on_f ha hb hc) (on_f ha hb hd) (on_f hc hd ha) (on_f hc hd hb)]
  unfold comB
  by_cases c : sg (X ax ay bx b_y cx cy) * sg (X ax ay bx b_y dx dy) < 0
  · rw [if_pos c, decide_eq_true c, Bool.true_and]
  · rw [if_neg c, decide_eq_false c, Bool.false_and]
/-- Vertex i. -/
def Pt (l : List S36) (i : Nat) : S36 := rd_T36 l (i : Int)
def Okp (p : S36) : Prop := Ok p.f0 p.f1
def Xp (a b c : S36) : Int := X a.f0 a.f1 b.f0 b.f1 c.f0 c.f1
def crs (a b : S36) : Int := a.f0 * b.f1 - a.f1 * b.f0
def cmn (a b c d : S36) : Bool := comB (sg (Xp a b c)) (sg (Xp a b d)) (sg (Xp c d a)) (sg (Xp c d b)) (decide (Dt a.f0 a.f1 b.f0 b.f1 c.f0 c.f1 ≤ 0)) (decide (Dt a.f0 a.f1 b.f0 b.f1 d.f0 d.f1 ≤ 0)) (decide (Dt c.f0 c.f1 d.f0 d.f1 a.f0 a.f1 ≤ 0)) (decide (Dt c.f0 c.f1 d.f0 d.f1 b.f0 b.f1 ≤ 0))
theorem sg_zero (x : Int) : sg x = 0 ↔ x = 0 := by unfold sg; (repeat' split) <;> omega
def nx (n i : Nat) : Nat := if i + 1 < n then i + 1 else i + 1 - n
def nx2 (n i : Nat) : Nat := if i + 2 < n then i + 2 else i + 2 - n
def pv (n i : Nat) : Nat := if i = 0 then n - 1 else i - 1
theorem nx_lt {n i : Nat} (h : i < n) : nx n i < n := by unfold nx; split <;> omega
theorem nx2_lt {n i : Nat} (h : i < n) (h2 : 2 ≤ n) : nx2 n i < n := by unfold nx2; split <;> omega
theorem pv_lt {n i : Nat} (h : i < n) : pv n i < n := by unfold pv; split <;> omega
theorem md_lt {a n : Int} (h0 : 0 ≤ a) (h : a < n) : Int.tmod a n = a := by rw [Int.tmod_eq_emod_of_nonneg h0, Int.emod_eq_of_lt h0 h]
theorem md_add {a n : Int} (h0 : 0 ≤ a) (h : a < n) : Int.tmod (a + n) n = a := by
  rw [Int.tmod_eq_emod_of_nonneg (by omega)]
  have : (a + n) % n = a % n := by simp
  rw [this, Int.emod_eq_of_lt h0 h]
theorem md_nx {n i : Nat} (h : i < n) : Int.tmod ((i : Int) + 1) (n : Int) = ((nx n i : Nat) : Int) := by
  unfold nx
  split
  · rw [md_lt (by omega) (by omega)]; omega
  · have e : (i : Int) + 1 = ((i + 1 - n : Nat) : Int) + n := by omega
    rw [e, md_add (by omega) (by omega)]
theorem md_nx2 {n i : Nat} (h : i < n) (h2 : 2 ≤ n) : Int.tmod ((i : Int) + 2) (n : Int) = ((nx2 n i : Nat) : Int) := by
  unfold nx2
  split
  · rw [md_lt (by omega) (by omega)]; omega
  · have e : (i : Int) + 2 = ((i + 2 - n : Nat) : Int) + n := by omega
    rw [e, md_add (by omega) (by omega)]
theorem md_pv {n i : Nat} (h : i < n) : Int.tmod ((i : Int) + n - 1) (n : Int) = ((pv n i : Nat) : Int) := by
  unfold pv
  split
  · rw [md_lt (by omega) (by omega)]; omega
  · have e : (i : Int) + n - 1 = ((i - 1 : Nat) : Int) + n := by omega
    rw [e, md_add (by omega) (by omega)]
theorem crs_bd {a b : S36} (ha : Okp a) (hb : Okp b) : -4000000000000 ≤ crs a b ∧ crs a b ≤ 4000000000000 ∧ plane_Cross.f a.f0 a.f1 b.f0 b.f1 = some (crs a b) := by
  obtain ⟨a1, a2, a3, a4⟩ := ha
  obtain ⟨b1, b2, b3, b4⟩ := hb
  have m1 := mul_bd a1 a2 b3 b4
  have m2 := mul_bd a3 a4 b1 b2
  unfold plane_Cross.f crs
  refine ⟨by omega, by omega, ?_⟩
  rw [w64 (x := a.f0 * b.f1) (by omega) (by omega), w64 (x := a.f1 * b.f0) (by omega) (by omega), w64 (by omega) (by omega)]
/-- The cross products from vertex i on, d of them. -/
def dblS (l : List S36) : Nat → Nat → Int
  | 0, _ => 0
  | d + 1, i => crs (Pt l i) (Pt l (nx l.length i)) + dblS l d (i + 1)
theorem double_l (l : List S36) (hl : l.length ≤ 16) (hok : ∀ i, i < l.length → Okp (Pt l i)) (d : Nat) : ∀ (k i : Nat) (a : Int), i + d = l.length → d < k →
    -1000000000000000 + (d : Int) * 4000000000000 ≤ a → a ≤ 1000000000000000 - (d : Int) * 4000000000000 → polygon_double.l0 k l a l (l.length : Int) (i : Int) = some (a + dblS l d i) := by
  induction d with
  | zero =>
    intro k i a hi hk _ _
    obtain ⟨k, rfl⟩ : ∃ m, k = m + 1 := ⟨k - 1, by omega⟩
    rw [polygon_double.l0, if_neg (by omega), dblS, Int.add_zero]
  | succ d ih =>
    intro k i a hi hk h1 h2
    obtain ⟨k, rfl⟩ : ∃ m, k = m + 1 := ⟨k - 1, by omega⟩
    have hlt : i < l.length := by omega
    have hn := nx_lt hlt
    obtain ⟨c1, c2, c3⟩ := crs_bd (hok i hlt) (hok _ hn)
    have e1 : rd_T36 l (i : Int) = Pt l i := rfl
    have e2 : rd_T36 l ((nx l.length i : Nat) : Int) = Pt l (nx l.length i) := rfl
    rw [polygon_double.l0, if_pos (by omega), if_pos (by omega), if_pos (by omega), if_neg (by omega), w64 (x := (i : Int) + 1) (by omega) (by omega), md_nx hlt, if_pos (by omega), if_pos (by omega), e1, e2, c3, Option.bind_some, w64 (x := a + crs (Pt l i) (Pt l (nx l.length i))) (by omega) (by omega),
      show ((i : Int) + 1) = ((i + 1 : Nat) : Int) by omega, ih k (i + 1) _ (by omega) (by omega) (by omega) (by omega), dblS, Int.add_assoc]
theorem common_p (k : Nat) {a b c d : S36} (ha : Okp a) (hb : Okp b) (hc : Okp c) (hd : Okp d) : polygon_Common.f (k + 1) a.f0 a.f1 b.f0 b.f1 c.f0 c.f1 d.f0 d.f1 = some (cmn a b c d) := common_f k ha hb hc hd
/-- Edge i has no point in common with the edges from m on, but for its neighbours. -/
def C2 (l : List S36) (i m : Nat) : Prop := ∀ j, m ≤ j → j < l.length → nx l.length j ≠ i → cmn (Pt l i) (Pt l (i + 1)) (Pt l j) (Pt l (nx l.length j)) = false
def C1 (l : List S36) (i : Nat) : Prop := ∀ i', i ≤ i' → i' < l.length → Xp (Pt l i') (Pt l (nx l.length i')) (Pt l (nx2 l.length i')) ≠ 0 ∧ C2 l i' (i' + 2)
theorem check_l2 (l : List S36) (hl : l.length ≤ 16) (hok : ∀ i, i < l.length → Okp (Pt l i)) (i : Nat) (hi : i < l.length) (R : Prop) (K : Nat)
    (hnext : ∀ k, K ≤ k → ∃ e, polygon_Check.l1 k l (l.length : Int) (l.length : Int) ((i + 1 : Nat) : Int) = some e ∧ (e = 0 ↔ R)) :
    ∀ (d k m : Nat), i + 2 ≤ m → m ≤ 20 → l.length - m = d → K + d + 2 ≤ k → ∃ e, polygon_Check.l2 k l (l.length : Int) (i : Int) (m : Int) (l.length : Int) (i : Int) = some e ∧ (e = 0 ↔ C2 l i m ∧ R)
  | 0, k, m, hm, hm2, hd, hk => by
    obtain ⟨k, rfl⟩ : ∃ q, k = q + 1 := ⟨k - 1, by omega⟩
    rw [polygon_Check.l2, if_neg (by omega), w64 (by omega) (by omega), show ((i : Int) + 1) = ((i + 1 : Nat) : Int) by omega]
    obtain ⟨e, he, hz⟩ := hnext k (by omega)
    exact ⟨e, he, hz.trans ⟨fun h => ⟨fun j h1 h2 => by omega, h⟩, fun h => h.2⟩⟩
  | d + 1, k, m, hm, hm2, hd, hk => by
    obtain ⟨k, rfl⟩ : ∃ q, k = q + 2 := ⟨k - 2, by omega⟩
    have hlt : m < l.length := by omega
    have hn := nx_lt hlt
    have e1 : ∀ j : Nat, rd_T36 l (j : Int) = Pt l j := fun _ => rfl
    obtain ⟨e, he, hz⟩ := check_l2 l hl hok i hi R K hnext d (k + 1) (m + 1) (by omega) (by omega) (by omega) (by omega)
    have hstep : C2 l i m ↔ (nx l.length m ≠ i → cmn (Pt l i) (Pt l (i + 1)) (Pt l m) (Pt l (nx l.length m)) = false) ∧ C2 l i (m + 1) := by
      refine ⟨fun h => ⟨fun g => h m (Nat.le_refl _) hlt g, fun j h1 h2 => h j (by omega) h2⟩, fun h j h1 h2 h3 => ?_⟩
      by_cases hj : j = m
      · subst hj; exact h.1 h3
      · exact h.2 j (by omega) h2 h3
    rw [polygon_Check.l2, if_pos (by omega), if_neg (by omega), w64 (x := (m : Int) + 1) (by omega) (by omega), md_nx hlt, show ((m : Int) + 1) = ((m + 1 : Nat) : Int) by omega, he]
    by_cases c : nx l.length m = i
    · rw [if_pos (by omega)]
      exact ⟨e, rfl, by rw [hz, hstep]; exact ⟨fun h => ⟨⟨fun g => absurd c g, h.1⟩, h.2⟩, fun h => ⟨h.1.2, h.2⟩⟩⟩
    · rw [if_neg (by omega), if_pos (by omega), if_pos (by omega), w64 (x := (i : Int) + 1) (by omega) (by omega), if_pos (by omega), if_pos (by omega), if_pos (by omega), if_pos (by omega), if_pos (by omega), if_pos (by omega), show ((i : Int) + 1) = ((i + 1 : Nat) : Int) by omega, e1, e1, e1, e1,
        common_p k (hok i hi) (hok (i + 1) (by omega)) (hok m hlt) (hok _ hn), Option.bind_some]
      by_cases cc : cmn (Pt l i) (Pt l (i + 1)) (Pt l m) (Pt l (nx l.length m)) = true
      · rw [if_pos cc]
        exact ⟨3, rfl, ⟨fun h => by omega, fun h => by rw [(hstep.1 h.1).1 c] at cc; cases cc⟩⟩
      · rw [if_neg cc]
        exact ⟨e, rfl, by rw [hz, hstep]; exact ⟨fun h => ⟨⟨fun _ => by simpa using cc, h.1⟩, h.2⟩, fun h => ⟨h.1.2, h.2⟩⟩⟩
theorem check_l1 (l : List S36) (hl : l.length ≤ 16) (hl3 : 3 ≤ l.length) (hok : ∀ i, i < l.length → Okp (Pt l i)) :
    ∀ (d k i : Nat), i + d = l.length → d * 22 + 20 ≤ k → ∃ e, polygon_Check.l1 k l (l.length : Int) (l.length : Int) (i : Int) = some e ∧ (e = 0 ↔ C1 l i ∧ 0 < dblS l l.length 0)
  | 0, k, i, hi, hk => by
    obtain ⟨k, rfl⟩ : ∃ q, k = q + 1 := ⟨k - 1, by omega⟩
    have hd : polygon_double.l0 k l 0 l (l.length : Int) 0 = some (0 + dblS l l.length 0) := double_l l hl hok l.length k 0 0 (by omega) (by omega) (by omega) (by omega)
    rw [polygon_Check.l1, if_neg (by omega), polygon_double.f, hd, Option.bind_some, Int.zero_add]
    by_cases c : dblS l l.length 0 ≤ 0
    · rw [if_pos c]; exact ⟨3, rfl, ⟨fun h => by omega, fun h => by omega⟩⟩
    · rw [if_neg c]; exact ⟨0, rfl, ⟨fun _ => ⟨fun j h1 h2 => by omega, by omega⟩, fun _ => rfl⟩⟩
  | d + 1, k, i, hi, hk => by
    obtain ⟨k, rfl⟩ : ∃ q, k = q + 1 := ⟨k - 1, by omega⟩
    have hlt : i < l.length := by omega
    have hn := nx_lt hlt
    have hn2 := nx2_lt hlt (by omega)
    have e1 : ∀ j : Nat, rd_T36 l (j : Int) = Pt l j := fun _ => rfl
    have ht : plane_Turn.f (Pt l i).f0 (Pt l i).f1 (Pt l (nx l.length i)).f0 (Pt l (nx l.length i)).f1 (Pt l (nx2 l.length i)).f0 (Pt l (nx2 l.length i)).f1 = some (sg (Xp (Pt l i) (Pt l (nx l.length i)) (Pt l (nx2 l.length i)))) := turn_ok (hok i hlt) (hok _ hn) (hok _ hn2)
    have hstep : C1 l i ↔ (Xp (Pt l i) (Pt l (nx l.length i)) (Pt l (nx2 l.length i)) ≠ 0 ∧ C2 l i (i + 2)) ∧ C1 l (i + 1) := by
      refine ⟨fun h => ⟨h i (Nat.le_refl _) hlt, fun j h1 h2 => h j (by omega) h2⟩, fun h j h1 h2 => ?_⟩
      by_cases hj : j = i
      · subst hj; exact h.1
      · exact h.2 j (by omega) h2
    rw [polygon_Check.l1, if_pos (by omega), if_pos (by omega), if_pos (by omega), if_neg (by omega), w64 (x := (i : Int) + 1) (by omega) (by omega), w64 (x := (i : Int) + 2) (by omega) (by omega), md_nx hlt, md_nx2 hlt (by omega), if_pos (by omega), if_pos (by omega), if_pos (by omega), if_pos (by omega), e1, e1, e1, ht, Option.bind_some, show ((i : Int) + 2) = ((i + 2 : Nat) : Int) by omega]
    by_cases c : Xp (Pt l i) (Pt l (nx l.length i)) (Pt l (nx2 l.length i)) = 0
    · rw [if_pos ((sg_zero _).2 c)]
      exact ⟨3, rfl, ⟨fun h => by omega, fun h => absurd c (hstep.1 h.1).1.1⟩⟩
    · rw [if_neg (fun h => c ((sg_zero _).1 h))]
      obtain ⟨e, he, hz⟩ := check_l2 l hl hok i hlt (C1 l (i + 1) ∧ 0 < dblS l l.length 0) (d * 22 + 20) (fun k hk => check_l1 l hl hl3 hok d k (i + 1) (by omega) hk) (l.length - (i + 2)) k (i + 2) (by omega) (by omega) rfl (by omega)
      exact ⟨e, he, by rw [hz, hstep]; exact ⟨fun h => ⟨⟨⟨c, h.1⟩, h.2.1⟩, h.2.2⟩, fun h => ⟨h.1.1.2, h.1.2, h.2⟩⟩⟩
theorem check_l0 (l : List S36) (hl : l.length ≤ 16) (hl3 : 3 ≤ l.length) :
    ∀ (d k i : Nat), i + d = l.length → d + 400 ≤ k → (∀ j, j < i → Okp (Pt l j)) → ∃ e, polygon_Check.l0 k l l (l.length : Int) (i : Int) = some e ∧ (e = 0 ↔ (∀ j, j < l.length → Okp (Pt l j)) ∧ C1 l 0 ∧ 0 < dblS l l.length 0)
  | 0, k, i, hi, hk, hj => by
    obtain ⟨k, rfl⟩ : ∃ q, k = q + 1 := ⟨k - 1, by omega⟩
    have hok : ∀ j, j < l.length → Okp (Pt l j) := fun j h => hj j (by omega)
    rw [polygon_Check.l0, if_neg (by omega)]
    obtain ⟨e, he, hz⟩ := check_l1 l hl hl3 hok l.length k 0 (by omega) (by omega)
    exact ⟨e, he, hz.trans ⟨fun h => ⟨hok, h⟩, fun h => h.2⟩⟩
  | d + 1, k, i, hi, hk, hj => by
    obtain ⟨k, rfl⟩ : ∃ q, k = q + 1 := ⟨k - 1, by omega⟩
    have hlt : i < l.length := by omega
    have e1 : ∀ j : Nat, rd_T36 l (j : Int) = Pt l j := fun _ => rfl
    rw [polygon_Check.l0, if_pos (by omega), if_pos (by omega), if_pos (by omega), e1, check_f, Option.bind_some]
    by_cases c : Ok (Pt l i).f0 (Pt l i).f1
    · rw [if_pos c, if_pos rfl, w64 (by omega) (by omega), show ((i : Int) + 1) = ((i + 1 : Nat) : Int) by omega]
      exact check_l0 l hl hl3 d k (i + 1) (by omega) (by omega) (fun j h => by
        by_cases g : j = i
        · subst g; exact c
        · exact hj j (by omega))
    · rw [if_neg c, if_neg (by decide)]
      exact ⟨4, rfl, ⟨fun h => by omega, fun h => absurd (h.1 i hlt) c⟩⟩
/-- A valid polygon. -/
def Valid (l : List S36) : Prop := (3 ≤ l.length ∧ l.length ≤ 16) ∧ (∀ j, j < l.length → Okp (Pt l j)) ∧ C1 l 0 ∧ 0 < dblS l l.length 0
theorem pcheck (l : List S36) : ∃ e, (∀ k, 420 ≤ k → polygon_Check.f k l = some e) ∧ (e = 0 ↔ Valid l) := by
  have main : ∃ e, polygon_Check.f 420 l = some e ∧ (e = 0 ↔ Valid l) := by
    unfold polygon_Check.f
    by_cases h1 : (l.length : Int) > 16
    · rw [if_pos h1]; exact ⟨2, rfl, ⟨fun h => by omega, fun h => by have := h.1.2; omega⟩⟩
    · rw [if_neg h1]
      by_cases h2 : (l.length : Int) < 3
      · rw [if_pos h2]; exact ⟨3, rfl, ⟨fun h => by omega, fun h => by have := h.1.1; omega⟩⟩
      · rw [if_neg h2]
        obtain ⟨e, he, hz⟩ := check_l0 l (by omega) (by omega) l.length 420 0 (by omega) (by omega) (fun j h => by omega)
        exact ⟨e, he, hz.trans ⟨fun h => ⟨⟨by omega, by omega⟩, h⟩, fun h => h.2⟩⟩
  obtain ⟨e, he, hz⟩ := main
  exact ⟨e, fun k hk => at_rounds (fun k => polygon_Check.mono l k) hk he, hz⟩
/-- A point on an edge. -/
def onE (l : List S36) (x y : Int) (i : Nat) : Bool := decide (X (Pt l (pv l.length i)).f0 (Pt l (pv l.length i)).f1 (Pt l i).f0 (Pt l i).f1 x y = 0) && decide (Dt (Pt l (pv l.length i)).f0 (Pt l (pv l.length i)).f1 (Pt l i).f0 (Pt l i).f1 x y ≤ 0)
/-- Whether the ray from a point crosses an edge. -/
def crossE (a b : S36) (x y : Int) : Bool := (decide (a.f1 ≤ y ∧ y < b.f1) && decide (X a.f0 a.f1 b.f0 b.f1 x y > 0)) || (decide (b.f1 ≤ y ∧ y < a.f1) && decide (X a.f0 a.f1 b.f0 b.f1 x y < 0))
def locS (l : List S36) (x y : Int) : Nat → Nat → Int → Int
  | 0, _, v => v
  | d + 1, i, v => if onE l x y i = true then 0 else locS l x y d (i + 1) (if crossE (Pt l (pv l.length i)) (Pt l i) x y = true then -v else v)
theorem sg_pos (x : Int) : sg x > 0 ↔ x > 0 := by unfold sg; (repeat' split) <;> omega
theorem sg_lt (x : Int) : sg x < 0 ↔ x < 0 := by unfold sg; (repeat' split) <;> omega
theorem loc_j1 (k : Nat) (l l' : List S36) (v t n i x y bx b_y ax ay : Int) (hv : wrap64 (-v) = -v) : polygon_locate.j1 (k + 1) l v t l' n i false x y bx b_y ax ay =
    if (decide (ay ≤ y ∧ y < b_y) && decide (t > 0)) || (decide (b_y ≤ y ∧ y < ay) && decide (t < 0)) then polygon_locate.l0 k l (-v) l' n (wrap64 (i + 1)) x y else polygon_locate.l0 k l v l' n (wrap64 (i + 1)) x y := by
  rw [polygon_locate.j1, if_neg (by decide), hv]
  by_cases c1 : ay ≤ y <;> by_cases c2 : y < b_y <;> by_cases c3 : t > 0 <;> by_cases c4 : b_y ≤ y <;> by_cases c5 : y < ay <;> by_cases c6 : t < 0 <;> simp [c1, c2, c3, c4, c5, c6] <;> omega
theorem locate_l (l : List S36) (hl : l.length ≤ 16) (hok : ∀ i, i < l.length → Okp (Pt l i)) {x y : Int} (hq : Ok x y) : ∀ (d k i : Nat) (v : Int), i + d = l.length → 2 * d < k → -1 ≤ v → v ≤ 1 →
    polygon_locate.l0 k l v l (l.length : Int) (i : Int) x y = some (locS l x y d i v)
  | 0, k, i, v, hi, hk, h1, h2 => by
    obtain ⟨k, rfl⟩ : ∃ m, k = m + 1 := ⟨k - 1, by omega⟩
    rw [polygon_locate.l0, if_neg (by omega), locS]
  | d + 1, k, i, v, hi, hk, h1, h2 => by
    obtain ⟨k, rfl⟩ : ∃ m, k = m + 2 := ⟨k - 2, by omega⟩
    have hlt : i < l.length := by omega
    have hn := pv_lt hlt
    have e1 : ∀ j : Nat, rd_T36 l (j : Int) = Pt l j := fun _ => rfl
    have ht := turn_ok (hok _ hn) (hok i hlt) hq
    have ho := on_f (hok _ hn) (hok i hlt) hq
    rw [polygon_locate.l0, if_pos (by omega), if_pos (by omega), if_pos (by omega), if_neg (by omega), w64 (x := (i : Int) + (l.length : Int)) (by omega) (by omega), w64 (x := (i : Int) + (l.length : Int) - 1) (by omega) (by omega), md_pv hlt, if_pos (by omega), if_pos (by omega), e1, e1, ht, Option.bind_some, locS]
    have step : ∀ b : Bool, (b = false) → polygon_locate.j1 (k + 1) l v (sg (X (Pt l (pv l.length i)).f0 (Pt l (pv l.length i)).f1 (Pt l i).f0 (Pt l i).f1 x y)) l (l.length : Int) (i : Int) b x y (Pt l i).f0 (Pt l i).f1 (Pt l (pv l.length i)).f0 (Pt l (pv l.length i)).f1 = some (locS l x y d (i + 1) (if crossE (Pt l (pv l.length i)) (Pt l i) x y = true then -v else v)) := by
      intro b hb
      subst hb
      have hc : ((decide ((Pt l (pv l.length i)).f1 ≤ y ∧ y < (Pt l i).f1) && decide (sg (X (Pt l (pv l.length i)).f0 (Pt l (pv l.length i)).f1 (Pt l i).f0 (Pt l i).f1 x y) > 0)) || (decide ((Pt l i).f1 ≤ y ∧ y < (Pt l (pv l.length i)).f1) && decide (sg (X (Pt l (pv l.length i)).f0 (Pt l (pv l.length i)).f1 (Pt l i).f0 (Pt l i).f1 x y) < 0))) = crossE (Pt l (pv l.length i)) (Pt l i) x y := by
        unfold crossE
        rw [decide_eq_decide.2 (sg_pos _), decide_eq_decide.2 (sg_lt _)]
      rw [loc_j1 _ _ _ _ _ _ _ _ _ _ _ _ _ (w64 (by omega) (by omega)), hc, w64 (x := (i : Int) + 1) (by omega) (by omega), show ((i : Int) + 1) = ((i + 1 : Nat) : Int) by omega]
      by_cases c : crossE (Pt l (pv l.length i)) (Pt l i) x y = true
      · rw [if_pos c, if_pos c, locate_l l hl hok hq d k (i + 1) (-v) (by omega) (by omega) (by omega) (by omega)]
      · rw [if_neg c, if_neg c, locate_l l hl hok hq d k (i + 1) v (by omega) (by omega) (by omega) (by omega)]
    by_cases c : X (Pt l (pv l.length i)).f0 (Pt l (pv l.length i)).f1 (Pt l i).f0 (Pt l i).f1 x y = 0
    · rw [if_pos ((sg_zero _).2 c), ho, Option.bind_some]
      by_cases c2 : Dt (Pt l (pv l.length i)).f0 (Pt l (pv l.length i)).f1 (Pt l i).f0 (Pt l i).f1 x y ≤ 0
      · have hE : onE l x y i = true := by unfold onE; rw [decide_eq_true c, decide_eq_true c2]; rfl
        rw [if_pos hE, decide_eq_true c2, polygon_locate.j1, if_pos rfl]
      · have hE : ¬ onE l x y i = true := by unfold onE; rw [decide_eq_false c2]; simp
        rw [if_neg hE]
        exact step _ (decide_eq_false c2)
    · have hE : ¬ onE l x y i = true := by unfold onE; rw [decide_eq_false c]; simp
      rw [if_neg hE, if_neg (fun h => c ((sg_zero _).1 h))]
      exact step _ rfl
def loc (l : List S36) (x y : Int) : Int := locS l x y l.length 0 (-1)
theorem locate_f (l : List S36) (hl : l.length ≤ 16) (hok : ∀ i, i < l.length → Okp (Pt l i)) {x y : Int} (hq : Ok x y) (k : Nat) (hk : 40 ≤ k) : polygon_locate.f k l x y = some (loc l x y) := by
  unfold polygon_locate.f loc
  exact locate_l l hl hok hq l.length k 0 (-1) (by omega) (by omega) (by omega) (by omega)
theorem locS_on (l : List S36) (x y : Int) : ∀ (d i j : Nat) (v : Int), i ≤ j → j < i + d → onE l x y j = true → locS l x y d i v = 0
  | 0, i, j, v, h1, h2, h => by omega
  | d + 1, i, j, v, h1, h2, h => by
    rw [locS]
    by_cases c : onE l x y i = true
    · rw [if_pos c]
    · rw [if_neg c]
      have : i ≠ j := fun e => c (e ▸ h)
      exact locS_on l x y d (i + 1) j _ (by omega) (by omega) h
theorem loc_on (l : List S36) {x y : Int} {j : Nat} (hj : j < l.length) (h : onE l x y j = true) : loc l x y = 0 := locS_on l x y l.length 0 j (-1) (by omega) (by omega) h
/-- Vertex j, counted around. -/
def cy (l : List S36) (j : Nat) : S36 := Pt l (j % l.length)
theorem cy_lt {l : List S36} {j : Nat} (h : j < l.length) : cy l j = Pt l j := by unfold cy; rw [Nat.mod_eq_of_lt h]
theorem cy_n (l : List S36) (j : Nat) : cy l (j + l.length) = cy l j := by unfold cy; rw [Nat.add_mod_right]
theorem pv_mod {n i : Nat} (h : i < n) : pv n i = (i + n - 1) % n := by
  unfold pv
  split
  · rw [Nat.mod_eq_of_lt (by omega)]; omega
  · have e : i + n - 1 = (i - 1) + n := by omega
    rw [e, Nat.add_mod_right, Nat.mod_eq_of_lt (by omega)]
theorem cy_pv {l : List S36} {j : Nat} (h : j < l.length) : Pt l (pv l.length j) = cy l (j + l.length - 1) := by rw [pv_mod h]; rfl
theorem cy_mod (l : List S36) (j m : Nat) : cy l (j % l.length + m) = cy l (j + m) := by unfold cy; rw [Nat.mod_add_mod]
/-- A sum. -/
def sumN (f : Nat → Int) : Nat → Nat → Int
  | 0, _ => 0
  | d + 1, i => f i + sumN f d (i + 1)
theorem sumN_last (f : Nat → Int) : ∀ d i, sumN f (d + 1) i = sumN f d i + f (i + d)
  | 0, i => by simp [sumN]
  | d + 1, i => by
    have h := sumN_last f d (i + 1)
    have e : i + 1 + d = i + (d + 1) := by omega
    rw [e] at h
    rw [sumN, h, sumN, Int.add_assoc]
theorem sumN_congr {f g : Nat → Int} : ∀ d i, (∀ j, i ≤ j → j < i + d → f j = g j) → sumN f d i = sumN g d i
  | 0, i, h => rfl
  | d + 1, i, h => by
    rw [sumN, sumN, h i (by omega) (by omega), sumN_congr d (i + 1) (fun j h1 h2 => h j (by omega) (by omega))]
theorem sumN_shift (f : Nat → Int) (k : Nat) : ∀ d i, sumN (fun j => f (j + k)) d i = sumN f d (i + k)
  | 0, i => rfl
  | d + 1, i => by
    have h := sumN_shift f k d (i + 1)
    have e : i + 1 + k = i + k + 1 := by omega
    rw [e] at h
    simp only [sumN]
    rw [h]
theorem sumN_period (f : Nat → Int) (n : Nat) (h : ∀ j, f (j + n) = f j) : ∀ k, sumN f n k = sumN f n 0
  | 0 => rfl
  | k + 1 => by
    have a := sumN_last f n k
    have b : sumN f (n + 1) k = f k + sumN f n (k + 1) := rfl
    have c := h k
    have d := sumN_period f n h k
    omega
/-- Whether the ray from a point crosses an edge, as a number. -/
def crN (a b : S36) (x y : Int) : Int := if crossE a b x y = true then 1 else 0
def onP (a b : S36) (x y : Int) : Bool := decide (X a.f0 a.f1 b.f0 b.f1 x y = 0) && decide (Dt a.f0 a.f1 b.f0 b.f1 x y ≤ 0)
theorem locS_sum (l : List S36) (x y : Int) : ∀ (d i : Nat) (v : Int), (∀ j, i ≤ j → j < i + d → onE l x y j = false) →
    locS l x y d i v = if sumN (fun j => crN (Pt l (pv l.length j)) (Pt l j) x y) d i % 2 = 0 then v else -v
  | 0, i, v, h => by rw [locS, sumN, if_pos (by decide)]
  | d + 1, i, v, h => by
    rw [locS, if_neg (by rw [h i (by omega) (by omega)]; decide), locS_sum l x y d (i + 1) _ (fun j h1 h2 => h j (by omega) (by omega)), sumN]
    generalize sumN (fun j => crN (Pt l (pv l.length j)) (Pt l j) x y) d (i + 1) = s
    unfold crN
    by_cases c : crossE (Pt l (pv l.length i)) (Pt l i) x y = true
    · rw [if_pos c, if_pos c]
      by_cases p : s % 2 = 0
      · rw [if_pos p, if_neg (by omega)]
      · rw [if_neg p, if_pos (by omega), Int.neg_neg]
    · rw [if_neg c, if_neg c, Int.zero_add]
/-- The number of crossings around. -/
def cF (l : List S36) (x y : Int) (j : Nat) : Int := crN (cy l j) (cy l (j + 1)) x y
theorem cF_n (l : List S36) (x y : Int) (j : Nat) : cF l x y (j + l.length) = cF l x y j := by
  unfold cF
  rw [cy_n, show j + l.length + 1 = j + 1 + l.length by omega, cy_n]
def crossings (l : List S36) (x y : Int) : Int := sumN (cF l x y) l.length 0
def OnAny (l : List S36) (x y : Int) : Prop := ∃ j, onP (cy l j) (cy l (j + 1)) x y = true
theorem onE_cy {l : List S36} {x y : Int} {j : Nat} (h : j < l.length) : onE l x y j = onP (cy l (j + l.length - 1)) (cy l (j + l.length - 1 + 1)) x y := by
  have e : j + l.length - 1 + 1 = j + l.length := by omega
  rw [e, cy_n, cy_lt h, ← cy_pv h]; rfl
theorem onAny_iff {l : List S36} {x y : Int} (h3 : 0 < l.length) : OnAny l x y ↔ ∃ j, j < l.length ∧ onE l x y j = true := by
  constructor
  · rintro ⟨j, hj⟩
    have hlt : (j + 1) % l.length < l.length := Nat.mod_lt _ h3
    refine ⟨(j + 1) % l.length, hlt, ?_⟩
    rw [onE_cy hlt]
    have e1 : (j + 1) % l.length + l.length - 1 = (j + 1) % l.length + (l.length - 1) := by omega
    have e2 : (j + 1) % l.length + l.length - 1 + 1 = (j + 1) % l.length + l.length := by omega
    rw [e2, e1, cy_mod, cy_n, show j + 1 + (l.length - 1) = j + l.length by omega, cy_n]
    have e3 : cy l ((j + 1) % l.length) = cy l (j + 1) := cy_mod l (j + 1) 0
    rw [e3]; exact hj
  · rintro ⟨j, hj, h⟩
    exact ⟨_, by rw [onE_cy hj] at h; exact h⟩
theorem crossings_sum {l : List S36} (x y : Int) (h3 : 0 < l.length) : sumN (fun j => crN (Pt l (pv l.length j)) (Pt l j) x y) l.length 0 = crossings l x y := by
  have e1 : sumN (fun j => crN (Pt l (pv l.length j)) (Pt l j) x y) l.length 0 = sumN (fun j => cF l x y (j + (l.length - 1))) l.length 0 := by
    refine sumN_congr _ _ (fun j _ hj => ?_)
    have hj' : j < l.length := by omega
    unfold cF
    rw [cy_pv hj', show j + (l.length - 1) + 1 = j + l.length by omega, cy_n, cy_lt hj', show j + l.length - 1 = j + (l.length - 1) by omega]
  exact e1.trans ((sumN_shift (cF l x y) (l.length - 1) l.length 0).trans (sumN_period (cF l x y) l.length (cF_n l x y) _))
/-- Where a point lies. -/
theorem loc_cy {l : List S36} {x y : Int} (h3 : 0 < l.length) : (OnAny l x y → loc l x y = 0) ∧ (¬ OnAny l x y → loc l x y = if crossings l x y % 2 = 0 then -1 else 1) := by
  constructor
  · intro h
    obtain ⟨j, hj, h⟩ := (onAny_iff h3).1 h
    exact loc_on l hj h
  · intro h
    have hno : ∀ j, 0 ≤ j → j < 0 + l.length → onE l x y j = false := by
      intro j _ hj
      rw [Bool.eq_false_iff]
      intro g
      exact h ((onAny_iff h3).2 ⟨j, by omega, g⟩)
    unfold loc
    rw [locS_sum l x y l.length 0 (-1) hno, crossings_sum x y h3]
    rfl
/-- Two segments without a common point. -/
structure NC (a b u v : S36) : Prop where
  n0 : ¬ ((Xp a b u < 0 ∧ 0 < Xp a b v ∨ 0 < Xp a b u ∧ Xp a b v < 0) ∧ (Xp u v a < 0 ∧ 0 < Xp u v b ∨ 0 < Xp u v a ∧ Xp u v b < 0))
  nu : Xp a b u = 0 → 0 < Dt a.f0 a.f1 b.f0 b.f1 u.f0 u.f1
  nv : Xp a b v = 0 → 0 < Dt a.f0 a.f1 b.f0 b.f1 v.f0 v.f1
  na : Xp u v a = 0 → 0 < Dt u.f0 u.f1 v.f0 v.f1 a.f0 a.f1
  nb : Xp u v b = 0 → 0 < Dt u.f0 u.f1 v.f0 v.f1 b.f0 b.f1
theorem Xp_sw (a b u : S36) : Xp b a u = -Xp a b u := by unfold Xp X; grind
theorem Dt_sw (ax ay bx b_y ux uy : Int) : Dt bx b_y ax ay ux uy = Dt ax ay bx b_y ux uy := by unfold Dt; grind
theorem NC.sw {a b u v : S36} (h : NC a b u v) : NC b a u v := by
  obtain ⟨n0, nu, nv, na, nb⟩ := h
  refine ⟨?_, ?_, ?_, nb, na⟩
  · rw [Xp_sw a b u, Xp_sw a b v]; omega
  · rw [Xp_sw a b u, Dt_sw]; exact fun g => nu (by omega)
  · rw [Xp_sw a b v, Dt_sw]; exact fun g => nv (by omega)
theorem NC.sym {a b u v : S36} (h : NC a b u v) : NC u v a b := by
  obtain ⟨n0, nu, nv, na, nb⟩ := h
  exact ⟨fun g => n0 ⟨g.2, g.1⟩, na, nb, nu, nv⟩
theorem sg_mul (x y : Int) : sg x * sg y < 0 ↔ (x < 0 ∧ 0 < y ∨ 0 < x ∧ y < 0) := by
  unfold sg
  (repeat' split) <;> simp <;> omega
theorem or_pos {p : Prop} {d : Int} : (¬ p ∨ ¬ d ≤ 0) ↔ (p → 0 < d) := by
  constructor
  · rintro (h | h) g
    · exact absurd g h
    · omega
  · intro h
    by_cases c : p
    · have := h c
      right; omega
    · left; exact c
theorem nc_iff {a b u v : S36} : cmn a b u v = false ↔ NC a b u v := by
  unfold cmn comB
  simp only [Bool.or_eq_false_iff, Bool.and_eq_false_iff, decide_eq_false_iff_not, sg_mul, sg_zero]
  constructor
  · rintro ⟨⟨⟨⟨h0, h1⟩, h2⟩, h3⟩, h4⟩
    exact ⟨Classical.not_and_iff_not_or_not.2 h0, or_pos.1 h1, or_pos.1 h2, or_pos.1 h3, or_pos.1 h4⟩
  · rintro ⟨n0, nu, nv, na, nb⟩
    exact ⟨⟨⟨⟨Classical.not_and_iff_not_or_not.1 n0, or_pos.2 nu⟩, or_pos.2 nv⟩, or_pos.2 na⟩, or_pos.2 nb⟩
theorem tri {p q r x y z : Int} (h : p * x + q * y + r * z = 0) (hp : 0 ≤ p) (hq : 0 ≤ q) (hr : 0 < r) (hx : 0 < x) (hz : 0 < z) : y < 0 := by
  have h1 := Int.mul_nonneg hp (Int.le_of_lt hx)
  have h2 := Int.mul_pos hr hz
  rcases Int.lt_or_le y 0 with g | g
  · exact g
  · have := Int.mul_nonneg hq g
    omega
/-- A point of the line at a height between those of the ends is between the ends. -/
theorem between_on {ax ay bx b_y ux uy : Int} (h : X ax ay bx b_y ux uy = 0) (h1 : ay ≤ uy) (h2 : uy ≤ b_y) (h3 : ay < b_y) : Dt ax ay bx b_y ux uy ≤ 0 := by
  unfold X at h
  unfold Dt
  have hd : 0 < (b_y - ay) * (b_y - ay) := Int.mul_pos (by omega) (by omega)
  have hpq : 0 ≤ (uy - ay) * (b_y - uy) := Int.mul_nonneg (by omega) (by omega)
  have hw : 0 ≤ (bx - ax) * (bx - ax) := sq_nonneg _
  have e : (ux - ax) * (bx - ux) * ((b_y - ay) * (b_y - ay)) = (bx - ax) * (bx - ax) * ((uy - ay) * (b_y - uy)) := by grind
  have h4 : 0 ≤ (ux - ax) * (bx - ux) * ((b_y - ay) * (b_y - ay)) := by rw [e]; exact Int.mul_nonneg hw hpq
  have h5 : 0 ≤ (ux - ax) * (bx - ux) := by
    rcases Int.lt_or_le ((ux - ax) * (bx - ux)) 0 with g | g
    · have := Int.mul_neg_of_neg_of_pos g hd
      omega
    · exact g
  have e2 : (ax - ux) * (bx - ux) + (ay - uy) * (b_y - uy) = -((ux - ax) * (bx - ux)) - (uy - ay) * (b_y - uy) := by grind
  omega
theorem opp {k x y : Int} (hk : 0 < k) (h : k * x < 0 ∧ 0 < k * y ∨ 0 < k * x ∧ k * y < 0) : x * y ≤ 0 := by
  rcases Int.lt_or_le (x * y) 1 with g | g
  · omega
  · exfalso
    have e : (k * x) * (k * y) = (k * k) * (x * y) := by grind
    have h1 : 0 < (k * k) * (x * y) := Int.mul_pos (Int.mul_pos hk hk) (by omega)
    rcases h with ⟨h2, h3⟩ | ⟨h2, h3⟩
    · have := Int.mul_neg_of_neg_of_pos h2 h3
      omega
    · have := Int.mul_neg_of_pos_of_neg h2 h3
      omega
theorem par0 {ax ay bx b_y ux uy vx vy A B U V : Int} (eA : A = X ux uy vx vy ax ay) (eB : B = X ux uy vx vy bx b_y) (eU : U = X ax ay bx b_y ux uy) (eV : V = X ax ay bx b_y vx vy)
    (h1 : ay ≤ b_y) (h2 : uy ≤ vy) (n0 : ¬ ((U < 0 ∧ 0 < V ∨ 0 < U ∧ V < 0) ∧ (A < 0 ∧ 0 < B ∨ 0 < A ∧ B < 0)))
    (nu : U = 0 → 0 < Dt ax ay bx b_y ux uy) (nv : V = 0 → 0 < Dt ax ay bx b_y vx vy) (na : A = 0 → 0 < Dt ux uy vx vy ax ay) (nb : B = 0 → 0 < Dt ux uy vx vy bx b_y) :
    ((if uy ≤ ay ∧ ay < vy ∧ 0 < A then (1 : Int) else 0) + (if uy ≤ b_y ∧ b_y < vy ∧ 0 < B then 1 else 0) + (if ay < uy ∧ uy ≤ b_y ∧ U < 0 then 1 else 0) + (if ay < vy ∧ vy ≤ b_y ∧ V < 0 then 1 else 0)) % 2 = 0 := by
  have ia : (vy - ay) * U + (ay - uy) * V + (b_y - ay) * A = 0 := by rw [eA, eU, eV]; unfold X; grind
  have ib : (vy - b_y) * U + (b_y - uy) * V + (b_y - ay) * B = 0 := by rw [eB, eU, eV]; unfold X; grind
  have iu : (b_y - uy) * A + (uy - ay) * B + (vy - uy) * U = 0 := by rw [eA, eB, eU]; unfold X; grind
  have iv : (b_y - vy) * A + (vy - ay) * B + (vy - uy) * V = 0 := by rw [eA, eB, eV]; unfold X; grind
  by_cases c1 : vy ≤ ay
  · rw [if_neg (by omega), if_neg (by omega), if_neg (by omega), if_neg (by omega)]; rfl
  by_cases c2 : b_y < uy
  · rw [if_neg (by omega), if_neg (by omega), if_neg (by omega), if_neg (by omega)]; rfl
  by_cases c3 : uy ≤ ay
  · have zA : A ≠ 0 := fun z => by have := na z; have := between_on (eA ▸ z) c3 (show ay ≤ vy by omega) (by omega); omega
    by_cases c4 : vy ≤ b_y
    · have zV : V ≠ 0 := fun z => by have := nv z; have := between_on (eV ▸ z) (show ay ≤ vy by omega) c4 (by omega); omega
      have f1 : ¬ (0 < A ∧ 0 < V) := by
        rintro ⟨g1, g2⟩
        have q1 : B < 0 := tri iv (by omega) (by omega) (by omega) g1 g2
        have q2 : U < 0 := tri (p := ay - uy) (q := vy - ay) (r := b_y - ay) (x := V) (z := A) (by omega) (by omega) (by omega) (by omega) g2 g1
        exact n0 ⟨Or.inl ⟨q2, g2⟩, Or.inr ⟨g1, q1⟩⟩
      have f2 : ¬ (A < 0 ∧ V < 0) := by
        rintro ⟨g1, g2⟩
        have q1 : -B < 0 := tri (p := b_y - vy) (q := vy - ay) (r := vy - uy) (x := -A) (z := -V) (by simp only [Int.mul_neg]; omega) (by omega) (by omega) (by omega) (by omega) (by omega)
        have q2 : -U < 0 := tri (p := ay - uy) (q := vy - ay) (r := b_y - ay) (x := -V) (z := -A) (by simp only [Int.mul_neg]; omega) (by omega) (by omega) (by omega) (by omega) (by omega)
        exact n0 ⟨Or.inr ⟨by omega, g2⟩, Or.inl ⟨g1, by omega⟩⟩
      clear ia ib iu iv
      (repeat' split) <;> omega
    · have zB : B ≠ 0 := fun z => by have := nb z; have := between_on (eB ▸ z) (show uy ≤ b_y by omega) (show b_y ≤ vy by omega) (by omega); omega
      have f1 : ¬ (0 < A ∧ B < 0) := by
        rintro ⟨g1, g2⟩
        have q1 : -V < 0 := tri (p := vy - b_y) (q := vy - uy) (r := vy - ay) (x := A) (z := -B) (by rw [show b_y - vy = -(vy - b_y) by omega, Int.neg_mul] at iv; simp only [Int.mul_neg]; omega) (by omega) (by omega) (by omega) g1 (by omega)
        by_cases c5 : b_y = uy
        · have : U = 0 := by
            have e1 : b_y - uy = 0 := by omega
            have e2 : uy - ay = 0 := by omega
            rw [e1, e2, Int.zero_mul, Int.zero_mul, Int.zero_add, Int.zero_add] at iu
            rcases Int.mul_eq_zero.1 iu with h | h
            · omega
            · exact h
          have hd := nu this
          have e3 : ay = uy := by omega
          have k1 : (vy - uy) * (ux - ax) = A := by rw [eA, e3]; unfold X; grind
          have k2 : (vy - uy) * (ux - bx) = B := by rw [eB, c5]; unfold X; grind
          have := opp (k := vy - uy) (x := ux - ax) (y := ux - bx) (by omega) (by rw [k1, k2]; exact Or.inr ⟨g1, g2⟩)
          have e4 : Dt ax ay bx b_y ux uy = (ux - ax) * (ux - bx) := by unfold Dt; rw [e3, c5]; grind
          omega
        · have q2 : U < 0 := tri (p := ay - uy) (q := vy - uy) (r := b_y - uy) (x := -B) (z := A) (by rw [show uy - ay = -(ay - uy) by omega, Int.neg_mul] at iu; simp only [Int.mul_neg]; omega) (by omega) (by omega) (by omega) (by omega) g1
          exact n0 ⟨Or.inl ⟨q2, by omega⟩, Or.inr ⟨g1, g2⟩⟩
      have f2 : ¬ (A < 0 ∧ 0 < B) := by
        rintro ⟨g1, g2⟩
        have q1 : V < 0 := tri (p := vy - b_y) (q := vy - uy) (r := vy - ay) (x := -A) (z := B) (by rw [show b_y - vy = -(vy - b_y) by omega, Int.neg_mul] at iv; simp only [Int.mul_neg]; omega) (by omega) (by omega) (by omega) (by omega) g2
        by_cases c5 : b_y = uy
        · have : U = 0 := by
            have e1 : b_y - uy = 0 := by omega
            have e2 : uy - ay = 0 := by omega
            rw [e1, e2, Int.zero_mul, Int.zero_mul, Int.zero_add, Int.zero_add] at iu
            rcases Int.mul_eq_zero.1 iu with h | h
            · omega
            · exact h
          have hd := nu this
          have e3 : ay = uy := by omega
          have k1 : (vy - uy) * (ux - ax) = A := by rw [eA, e3]; unfold X; grind
          have k2 : (vy - uy) * (ux - bx) = B := by rw [eB, c5]; unfold X; grind
          have := opp (k := vy - uy) (x := ux - ax) (y := ux - bx) (by omega) (by rw [k1, k2]; exact Or.inl ⟨g1, g2⟩)
          have e4 : Dt ax ay bx b_y ux uy = (ux - ax) * (ux - bx) := by unfold Dt; rw [e3, c5]; grind
          omega
        · have q2 : -U < 0 := tri (p := ay - uy) (q := vy - uy) (r := b_y - uy) (x := B) (z := -A) (by rw [show uy - ay = -(ay - uy) by omega, Int.neg_mul] at iu; simp only [Int.mul_neg]; omega) (by omega) (by omega) (by omega) g2 (by omega)
          exact n0 ⟨Or.inr ⟨by omega, q1⟩, Or.inl ⟨g1, g2⟩⟩
      clear ia ib iu iv
      (repeat' split) <;> omega
  · have zU : U ≠ 0 := fun z => by have := nu z; have := between_on (eU ▸ z) (show ay ≤ uy by omega) (show uy ≤ b_y by omega) (by omega); omega
    by_cases c4 : vy ≤ b_y
    · have zV : V ≠ 0 := fun z => by have := nv z; have := between_on (eV ▸ z) (show ay ≤ vy by omega) c4 (by omega); omega
      have f1 : ¬ (U < 0 ∧ 0 < V) := by
        rintro ⟨g1, g2⟩
        have q1 : -A < 0 := tri (p := vy - ay) (q := b_y - ay) (r := uy - ay) (x := -U) (z := V) (by rw [show ay - uy = -(uy - ay) by omega, Int.neg_mul] at ia; simp only [Int.mul_neg]; omega) (by omega) (by omega) (by omega) (by omega) g2
        by_cases c5 : uy = b_y
        · have e3 : vy = b_y := by omega
          have : B = 0 := by rw [eB, c5, e3]; unfold X; grind
          have hd := nb this
          have k1 : (b_y - ay) * (bx - ux) = U := by rw [eU, c5]; unfold X; grind
          have k2 : (b_y - ay) * (bx - vx) = V := by rw [eV, e3]; unfold X; grind
          have := opp (k := b_y - ay) (x := bx - ux) (y := bx - vx) (by omega) (by rw [k1, k2]; exact Or.inl ⟨g1, g2⟩)
          have e4 : Dt ux uy vx vy bx b_y = (bx - ux) * (bx - vx) := by unfold Dt; rw [c5, e3]; grind
          omega
        · have q2 : B < 0 := tri (p := b_y - vy) (q := b_y - ay) (r := b_y - uy) (x := -U) (z := V) (by rw [show vy - b_y = -(b_y - vy) by omega, Int.neg_mul] at ib; simp only [Int.mul_neg]; omega) (by omega) (by omega) (by omega) (by omega) g2
          exact n0 ⟨Or.inl ⟨g1, g2⟩, Or.inr ⟨by omega, q2⟩⟩
      have f2 : ¬ (0 < U ∧ V < 0) := by
        rintro ⟨g1, g2⟩
        have q1 : A < 0 := tri (p := vy - ay) (q := b_y - ay) (r := uy - ay) (x := U) (z := -V) (by rw [show ay - uy = -(uy - ay) by omega, Int.neg_mul] at ia; simp only [Int.mul_neg]; omega) (by omega) (by omega) (by omega) g1 (by omega)
        by_cases c5 : uy = b_y
        · have e3 : vy = b_y := by omega
          have : B = 0 := by rw [eB, c5, e3]; unfold X; grind
          have hd := nb this
          have k1 : (b_y - ay) * (bx - ux) = U := by rw [eU, c5]; unfold X; grind
          have k2 : (b_y - ay) * (bx - vx) = V := by rw [eV, e3]; unfold X; grind
          have := opp (k := b_y - ay) (x := bx - ux) (y := bx - vx) (by omega) (by rw [k1, k2]; exact Or.inr ⟨g1, g2⟩)
          have e4 : Dt ux uy vx vy bx b_y = (bx - ux) * (bx - vx) := by unfold Dt; rw [c5, e3]; grind
          omega
        · have q2 : -B < 0 := tri (p := b_y - vy) (q := b_y - ay) (r := b_y - uy) (x := U) (z := -V) (by rw [show vy - b_y = -(b_y - vy) by omega, Int.neg_mul] at ib; simp only [Int.mul_neg]; omega) (by omega) (by omega) (by omega) g1 (by omega)
          exact n0 ⟨Or.inr ⟨g1, g2⟩, Or.inl ⟨q1, by omega⟩⟩
      clear ia ib iu iv
      (repeat' split) <;> omega
    · have zB : B ≠ 0 := fun z => by have := nb z; have := between_on (eB ▸ z) (show uy ≤ b_y by omega) (show b_y ≤ vy by omega) (by omega); omega
      have f1 : ¬ (0 < B ∧ 0 < U) := by
        rintro ⟨g1, g2⟩
        have q1 : V < 0 := tri (p := vy - b_y) (q := b_y - uy) (r := b_y - ay) (x := U) (z := B) (by omega) (by omega) (by omega) (by omega) g2 g1
        have q2 : A < 0 := tri (p := uy - ay) (q := b_y - uy) (r := vy - uy) (x := B) (z := U) (by omega) (by omega) (by omega) (by omega) g1 g2
        exact n0 ⟨Or.inr ⟨g2, q1⟩, Or.inl ⟨q2, g1⟩⟩
      have f2 : ¬ (B < 0 ∧ U < 0) := by
        rintro ⟨g1, g2⟩
        have q1 : -V < 0 := tri (p := vy - b_y) (q := b_y - uy) (r := b_y - ay) (x := -U) (z := -B) (by simp only [Int.mul_neg]; omega) (by omega) (by omega) (by omega) (by omega) (by omega)
        have q2 : -A < 0 := tri (p := uy - ay) (q := b_y - uy) (r := vy - uy) (x := -B) (z := -U) (by simp only [Int.mul_neg]; omega) (by omega) (by omega) (by omega) (by omega) (by omega)
        exact n0 ⟨Or.inl ⟨g2, by omega⟩, Or.inr ⟨by omega, g1⟩⟩
      clear ia ib iu iv
      (repeat' split) <;> omega
/-- Which vertices are swept by the ray from the points of a way. -/
def gN (a b u : S36) : Int := if (a.f1 < u.f1 ∧ u.f1 ≤ b.f1 ∧ Xp a b u < 0) ∨ (b.f1 < u.f1 ∧ u.f1 ≤ a.f1 ∧ 0 < Xp a b u) then 1 else 0
theorem crN_eq (u v : S36) (x y : Int) : crN u v x y = if (u.f1 ≤ y ∧ y < v.f1 ∧ 0 < X u.f0 u.f1 v.f0 v.f1 x y) ∨ (v.f1 ≤ y ∧ y < u.f1 ∧ X u.f0 u.f1 v.f0 v.f1 x y < 0) then 1 else 0 := by
  unfold crN crossE
  simp only [Bool.or_eq_true, Bool.and_eq_true, decide_eq_true_eq, and_assoc, gt_iff_lt]
theorem crN_sw (u v : S36) (x y : Int) : crN v u x y = crN u v x y := by
  have e : X v.f0 v.f1 u.f0 u.f1 x y = -X u.f0 u.f1 v.f0 v.f1 x y := by unfold X; grind
  rw [crN_eq, crN_eq, e]
  (repeat' split) <;> omega
theorem gN_sw (a b u : S36) : gN b a u = gN a b u := by
  unfold gN
  rw [Xp_sw a b u]
  (repeat' split) <;> omega
theorem par1 {a b u v : S36} (h : NC a b u v) (h1 : a.f1 ≤ b.f1) (h2 : u.f1 ≤ v.f1) : (crN u v a.f0 a.f1 + crN u v b.f0 b.f1 + gN a b u + gN a b v) % 2 = 0 := by
  have m := par0 (ax := a.f0) (ay := a.f1) (bx := b.f0) (b_y := b.f1) (ux := u.f0) (uy := u.f1) (vx := v.f0) (vy := v.f1) rfl rfl rfl rfl h1 h2 h.n0 h.nu h.nv h.na h.nb
  rw [crN_eq, crN_eq]
  unfold gN
  unfold Xp
  revert m
  generalize X u.f0 u.f1 v.f0 v.f1 a.f0 a.f1 = A
  generalize X u.f0 u.f1 v.f0 v.f1 b.f0 b.f1 = B
  generalize X a.f0 a.f1 b.f0 b.f1 u.f0 u.f1 = U
  generalize X a.f0 a.f1 b.f0 b.f1 v.f0 v.f1 = V
  intro m
  have t : ∀ (P Q : Prop) [Decidable P] [Decidable Q], (P ↔ Q) → (if P then (1 : Int) else 0) = if Q then 1 else 0 := fun P Q _ _ hpq => by
    by_cases hP : P
    · rw [if_pos hP, if_pos (hpq.1 hP)]
    · rw [if_neg hP, if_neg (fun g => hP (hpq.2 g))]
  have q1 := t ((u.f1 ≤ a.f1 ∧ a.f1 < v.f1 ∧ 0 < A) ∨ (v.f1 ≤ a.f1 ∧ a.f1 < u.f1 ∧ A < 0)) (u.f1 ≤ a.f1 ∧ a.f1 < v.f1 ∧ 0 < A) (by omega)
  have q2 := t ((u.f1 ≤ b.f1 ∧ b.f1 < v.f1 ∧ 0 < B) ∨ (v.f1 ≤ b.f1 ∧ b.f1 < u.f1 ∧ B < 0)) (u.f1 ≤ b.f1 ∧ b.f1 < v.f1 ∧ 0 < B) (by omega)
  have q3 := t ((a.f1 < u.f1 ∧ u.f1 ≤ b.f1 ∧ U < 0) ∨ (b.f1 < u.f1 ∧ u.f1 ≤ a.f1 ∧ 0 < U)) (a.f1 < u.f1 ∧ u.f1 ≤ b.f1 ∧ U < 0) (by omega)
  have q4 := t ((a.f1 < v.f1 ∧ v.f1 ≤ b.f1 ∧ V < 0) ∨ (b.f1 < v.f1 ∧ v.f1 ≤ a.f1 ∧ 0 < V)) (a.f1 < v.f1 ∧ v.f1 ≤ b.f1 ∧ V < 0) (by omega)
  rw [q1, q2, q3, q4]
  exact m
/-- An edge without a common point with a way: the rays from the ends of the way cross it as often (but for even numbers) as it leaves what the ray sweeps. -/
theorem par {a b u v : S36} (h : NC a b u v) : (crN u v a.f0 a.f1 + crN u v b.f0 b.f1 + gN a b u + gN a b v) % 2 = 0 := by
  rcases Int.le_total a.f1 b.f1 with h1 | h1 <;> rcases Int.le_total u.f1 v.f1 with h2 | h2
  · exact par1 h h1 h2
  · have := par1 h.sym.sw.sym h1 h2
    rw [crN_sw u v, crN_sw u v] at this
    omega
  · have := par1 h.sw h1 h2
    rw [gN_sw a b, gN_sw a b] at this
    omega
  · have := par1 h.sw.sym.sw.sym h1 h2
    rw [crN_sw u v, crN_sw u v, gN_sw a b, gN_sw a b] at this
    omega
/-- Along a way that has no point in common with the edges, the position is the same. -/
theorem loc_same {l : List S36} (h3 : 0 < l.length) {a b : S36} (h : ∀ j, NC a b (cy l j) (cy l (j + 1))) (ha : ¬ OnAny l a.f0 a.f1) (hb : ¬ OnAny l b.f0 b.f1) : loc l a.f0 a.f1 = loc l b.f0 b.f1 := by
  rw [(loc_cy h3).2 ha, (loc_cy h3).2 hb]
  have e : ∀ d i, (sumN (cF l a.f0 a.f1) d i + sumN (cF l b.f0 b.f1) d i + sumN (fun j => gN a b (cy l j)) d i + sumN (fun j => gN a b (cy l (j + 1))) d i) % 2 = 0 := by
    intro d
    induction d with
    | zero => intro i; rfl
    | succ d ih =>
      intro i
      have h1 := ih (i + 1)
      have h2 := par (h i)
      simp only [sumN]
      unfold cF at h1 ⊢
      omega
  have e0 := e l.length 0
  have e1 : sumN (fun j => gN a b (cy l (j + 1))) l.length 0 = sumN (fun j => gN a b (cy l j)) l.length 0 :=
    (sumN_shift (fun j => gN a b (cy l j)) 1 l.length 0).trans (sumN_period (fun j => gN a b (cy l j)) l.length (fun j => by rw [cy_n]) _)
  unfold crossings
  rw [e1] at e0
  (repeat' split) <;> omega
/-- A segment meets a polygon. -/
def MeetP (l : List S36) (a b : S36) : Prop := 0 ≤ loc l a.f0 a.f1 ∨ ∃ j, ¬ NC a b (cy l j) (cy l (j + 1))
theorem nc_out {l : List S36} {a b : S36} (h : ∀ j, NC a b (cy l j) (cy l (j + 1))) : ¬ OnAny l a.f0 a.f1 ∧ ¬ OnAny l b.f0 b.f1 := by
  constructor
  · rintro ⟨j, hj⟩
    unfold onP at hj
    rw [Bool.and_eq_true, decide_eq_true_eq, decide_eq_true_eq] at hj
    have := (h j).na hj.1
    omega
  · rintro ⟨j, hj⟩
    unfold onP at hj
    rw [Bool.and_eq_true, decide_eq_true_eq, decide_eq_true_eq] at hj
    have := (h j).nb hj.1
    omega
theorem meet_sym {l : List S36} (h3 : 0 < l.length) {a b : S36} (h : MeetP l a b) : MeetP l b a := by
  by_cases c : ∀ j, NC a b (cy l j) (cy l (j + 1))
  · rcases h with h | ⟨j, hj⟩
    · obtain ⟨o1, o2⟩ := nc_out c
      left
      rw [← loc_same h3 c o1 o2]
      exact h
    · exact absurd (c j) hj
  · obtain ⟨j, hj⟩ := Classical.not_forall.1 c
    exact Or.inr ⟨j, fun g => hj g.sw⟩
theorem edge_iff {l : List S36} (h3 : 0 < l.length) (R : S36 → S36 → Prop) : (∃ j, R (cy l j) (cy l (j + 1))) ↔ ∃ j, j < l.length ∧ R (Pt l (pv l.length j)) (Pt l j) := by
  constructor
  · rintro ⟨j, hj⟩
    have hlt : (j + 1) % l.length < l.length := Nat.mod_lt _ h3
    refine ⟨(j + 1) % l.length, hlt, ?_⟩
    have e1 : (j + 1) % l.length + l.length - 1 = (j + 1) % l.length + (l.length - 1) := by omega
    have e3 : cy l ((j + 1) % l.length) = cy l (j + 1) := cy_mod l (j + 1) 0
    rw [cy_pv hlt, e1, cy_mod, show j + 1 + (l.length - 1) = j + l.length by omega, cy_n, ← cy_lt hlt, e3]
    exact hj
  · rintro ⟨j, hj, h⟩
    refine ⟨j + l.length - 1, ?_⟩
    rw [show j + l.length - 1 + 1 = j + l.length by omega, cy_n, cy_lt hj, ← cy_pv hj]
    exact h
abbrev Sp := S140
def spOk (x : Sp) : Prop := 0 ≤ x.f0 ∧ x.f1 ≤ 200000 ∧ x.f0 < x.f1
instance (x : Sp) : Decidable (spOk x) := inferInstanceAs (Decidable (_ ∧ _ ∧ _))
def LOk (l : List Sp) : Prop := l.length ≤ 256 ∧ ∀ x ∈ l, spOk x
theorem rdS {l : List Sp} {i : Nat} (h : i < l.length) : rd_T140 l (i : Int) = l[i] := by
  unfold rd_T140
  rw [Int.toNat_natCast, List.getD_eq_getElem?_getD, List.getElem?_eq_getElem h]
  rfl
theorem chk_l (l : List Sp) (hl : l.length ≤ 256) : ∀ (d k i : Nat), i + d = l.length → d < k →
    ∃ e, volume_CheckSpans.l0 k l (l.length : Int) (i : Int) = some e ∧ (e = 0 ↔ ∀ x ∈ l.drop i, spOk x)
  | 0, k, i, hi, hk => by
    obtain ⟨k, rfl⟩ : ∃ m, k = m + 1 := ⟨k - 1, by omega⟩
    refine ⟨0, by rw [volume_CheckSpans.l0, if_neg (by omega)], fun _ => ?_, fun _ => rfl⟩
    rw [List.drop_of_length_le (by omega)]
    intro x hx; cases hx
  | d + 1, k, i, hi, hk => by
    obtain ⟨k, rfl⟩ : ∃ m, k = m + 1 := ⟨k - 1, by omega⟩
    have hlt : i < l.length := by omega
    obtain ⟨e, he, hz⟩ := chk_l l hl d k (i + 1) (by omega) (by omega)
    rw [volume_CheckSpans.l0, if_pos (by omega), if_pos (by omega), if_pos (by omega), rdS hlt, List.drop_eq_getElem_cons hlt]
    have no : ¬ spOk l[i] → ((12 : Int) = 0 ↔ ∀ x ∈ l[i] :: l.drop (i + 1), spOk x) := fun h => ⟨fun h2 => by omega, fun h2 => absurd (h2 _ List.mem_cons_self) h⟩
    by_cases c1 : l[i].f0 < 0
    · rw [if_pos c1]
      exact ⟨12, rfl, no (fun h => by have := h.1; omega)⟩
    rw [if_neg c1]
    by_cases c2 : l[i].f1 > 200000
    · rw [if_pos c2]
      exact ⟨12, rfl, no (fun h => by have := h.2.1; omega)⟩
    rw [if_neg c2]
    by_cases c3 : l[i].f0 ≥ l[i].f1
    · rw [if_pos c3]
      exact ⟨12, rfl, no (fun h => by have := h.2.2; omega)⟩
    rw [if_neg c3, w64 (x := (i : Int) + 1) (by omega) (by omega), show ((i : Int) + 1) = ((i + 1 : Nat) : Int) by omega]
    refine ⟨e, he, hz.trans ⟨fun h x hx => ?_, fun h x hx => h x (List.mem_cons_of_mem _ hx)⟩⟩
    rcases List.mem_cons.1 hx with rfl | hx
    · exact ⟨by omega, by omega, by omega⟩
    · exact h x hx
theorem chk (l : List Sp) (k : Nat) (hk : 300 ≤ k) : ∃ e, volume_CheckSpans.f k l = some e ∧ (e = 0 ↔ LOk l) := by
  unfold volume_CheckSpans.f
  by_cases c : (l.length : Int) > 256
  · rw [if_pos c]
    exact ⟨2, rfl, fun h => by omega, fun h => by have := h.1; omega⟩
  · rw [if_neg c]
    obtain ⟨e, he, hz⟩ := chk_l l (by omega) l.length k 0 (by omega) (by omega)
    rw [List.drop_zero] at hz
    exact ⟨e, he, fun h => ⟨by omega, hz.1 h⟩, fun h => hz.2 h.2⟩
theorem name_l0 (s : ByteArray) : ∀ (d i : Nat), i + d = s.size → s.size ≤ 8 → ∃ b, chart_Name.l0 (d + 1) s (s.size : Int) (i : Int) = some b
  | 0, i, h, _ => ⟨true, by rw [chart_Name.l0, if_neg (by omega)]⟩
  | d + 1, i, h, h8 => by
    obtain ⟨b, hb⟩ := name_l0 s d (i + 1) (by omega) h8
    have hw : wrap64 ((i : Int) + 1) = ((i + 1 : Nat) : Int) := by rw [w64 (by omega) (by omega)]; omega
    rw [chart_Name.l0, if_pos (by omega), if_pos (by omega), if_pos (by omega), hw, hb]
    (repeat' split) <;> exact ⟨_, rfl⟩
theorem name_some (s : ByteArray) : ∃ b, ∀ k, 10 ≤ k → chart_Name.f k s = some b := by
  have key : ∃ b, chart_Name.f 10 s = some b := by
    unfold chart_Name.f
    by_cases h0 : (s.size : Int) = 0
    · rw [if_pos h0, chart_Name.j0, if_pos rfl]; exact ⟨_, rfl⟩
    · rw [if_neg h0]
      by_cases h8 : (s.size : Int) > 8
      · rw [if_pos h8, chart_Name.j0, if_pos rfl]; exact ⟨_, rfl⟩
      · rw [if_neg h8, if_pos (by omega)]
        obtain ⟨b, hb⟩ := name_l0 s s.size 0 (by omega) (by omega)
        have hb9 : chart_Name.l0 9 s (s.size : Int) 0 = some b := at_rounds (g := fun k => chart_Name.l0 k s (s.size : Int) 0) (fun k => (chart_Name.mono_l k).2 _ _ _) (show s.size + 1 ≤ 9 by omega) hb
        rw [chart_Name.j0, chart_Name.j0, hb9]
        (repeat' split) <;> exact ⟨_, rfl⟩
  obtain ⟨b, hb⟩ := key
  exact ⟨b, fun k hk => at_rounds (chart_Name.mono s) hk hb⟩
abbrev RV := S65
abbrev Fx := S40
def volOk (v : RV) : Prop := (Valid v.f1.f0 ∧ 0 ≤ v.f1.f1 ∧ v.f1.f2 ≤ 60001 ∧ v.f1.f1 < v.f1.f2) ∧ LOk v.f2
theorem vcheck (l : List S36) (lo hi : Int) (k : Nat) (hk : 420 ≤ k) : ∃ e, volume_Check.f k l lo hi = some e ∧ (e = 0 ↔ Valid l ∧ 0 ≤ lo ∧ hi ≤ 60001 ∧ lo < hi) := by
  obtain ⟨e, he, hz⟩ := pcheck l
  unfold volume_Check.f
  rw [he k hk, Option.bind_some]
  by_cases h0 : e = 0
  · rw [if_pos h0]
    by_cases c1 : lo < 0
    · rw [if_pos c1]; exact ⟨4, rfl, fun h => by omega, fun ⟨_, _, _, _⟩ => by omega⟩
    rw [if_neg c1]
    by_cases c2 : hi > 60001
    · rw [if_pos c2]; exact ⟨4, rfl, fun h => by omega, fun ⟨_, _, _, _⟩ => by omega⟩
    rw [if_neg c2]
    by_cases c3 : lo ≥ hi
    · rw [if_pos c3]; exact ⟨4, rfl, fun h => by omega, fun ⟨_, _, _, _⟩ => by omega⟩
    rw [if_neg c3]
    exact ⟨0, rfl, fun _ => ⟨hz.1 h0, by omega, by omega, by omega⟩, fun _ => rfl⟩
  · rw [if_neg h0]; exact ⟨e, rfl, fun h => absurd h h0, fun h => absurd (hz.2 h.1) h0⟩
theorem loc_yes {l : List S36} (h : Valid l) {x y : Int} (hq : Ok x y) (k : Nat) (hk : 420 ≤ k) : polygon_Locate.f k l x y = some (loc l x y, 0) := by
  obtain ⟨e, he, hz⟩ := pcheck l
  unfold polygon_Locate.f
  rw [he k hk, hz.2 h, Option.bind_some, if_pos rfl, check_f, Option.bind_some, if_pos hq, if_pos rfl, locate_f l h.1.2 h.2.1 hq k (by omega), Option.bind_some]
theorem rdV {v : List RV} {i : Nat} (h : i < v.length) : rd_T65 v (i : Int) = v[i] := by
  unfold rd_T65
  rw [Int.toNat_natCast, List.getD_eq_getElem?_getD, List.getElem?_eq_getElem h]
  rfl
theorem cv_l (v : List RV) (h16 : v.length ≤ 16) : ∀ (d k i : Nat), i + d = v.length → 500 + d ≤ k →
    ∃ e, route_CheckVolumes.l0 k v v (v.length : Int) (i : Int) = some e ∧ (e = 0 → ∀ j (h : j < v.length), i ≤ j → volOk v[j] ∧ ∀ j' (h' : j' < j), v[j'].f0 ≠ v[j].f0)
  | 0, k, i, hi, hk => by
    obtain ⟨k, rfl⟩ : ∃ m, k = m + 1 := ⟨k - 1, by omega⟩
    rw [route_CheckVolumes.l0, if_neg (by omega)]
    exact ⟨0, rfl, fun _ j h1 h2 => by omega⟩
  | d + 1, k, i, hi, hk => by
    obtain ⟨k, rfl⟩ : ∃ m, k = m + 1 := ⟨k - 1, by omega⟩
    have hlt : i < v.length := by omega
    obtain ⟨e', he', ih⟩ := cv_l v h16 d k (i + 1) (by omega) (by omega)
    obtain ⟨bn, hn⟩ := name_some v[i].f0
    obtain ⟨e1, g1, g2⟩ := vcheck v[i].f1.f0 v[i].f1.f1 v[i].f1.f2 k (by omega)
    obtain ⟨e2, g3, g4⟩ := chk v[i].f2 k (by omega)
    rw [route_CheckVolumes.l0, if_pos (by omega), if_pos (by omega), if_pos (by omega), rdV hlt, hn k (by omega), Option.bind_some]
    by_cases c1 : bn = true
    · rw [if_pos c1, if_pos (by omega)]
      unfold api_RouteVolume_103.f
      rw [Option.bind_some, Int.toNat_natCast]
      by_cases c2 : (v.take i).any (route_CheckVolumes_1.p v[i].f0 v[i].f1.f0 v[i].f1.f1 v[i].f1.f2 v[i].f2) = true
      · rw [if_pos c2]; exact ⟨7, rfl, fun h => by omega⟩
      rw [if_neg c2, g1, Option.bind_some]
      by_cases c3 : e1 = 0
      · rw [if_pos c3, g3, Option.bind_some]
        by_cases c4 : e2 = 0
        · rw [if_pos c4, w64 (x := (i : Int) + 1) (by omega) (by omega), show ((i : Int) + 1) = ((i + 1 : Nat) : Int) by omega, he']
          refine ⟨e', rfl, fun h0 j hj hij => ?_⟩
          by_cases cj : j = i
          · subst cj
            refine ⟨⟨g2.1 c3, g4.1 c4⟩, fun j' h' he => c2 (List.any_eq_true.2 ⟨v[j'], ?_, ?_⟩)⟩
            · rw [List.mem_take_iff_getElem]
              exact ⟨j', by omega, rfl⟩
            · unfold route_CheckVolumes_1.p
              exact decide_eq_true he
          · exact ih h0 j hj (by omega)
        · rw [if_neg c4]; exact ⟨e2, rfl, fun h => absurd h c4⟩
      · rw [if_neg c3]; exact ⟨e1, rfl, fun h => absurd h c3⟩
    · rw [if_neg c1]; exact ⟨5, rfl, fun h => by omega⟩
theorem cv_f (v : List RV) (k : Nat) (hk : 600 ≤ k) : ∃ e, route_CheckVolumes.f k v = some e ∧ (e = 0 → v.length ≤ 16 ∧ ∀ j (h : j < v.length), volOk v[j] ∧ ∀ j' (h' : j' < j), v[j'].f0 ≠ v[j].f0) := by
  unfold route_CheckVolumes.f
  by_cases c : (v.length : Int) > 16
  · rw [if_pos c]; exact ⟨2, rfl, fun h => by omega⟩
  · rw [if_neg c]
    obtain ⟨e, h1, h3⟩ := cv_l v (by omega) v.length k 0 (by omega) (by omega)
    exact ⟨e, h1, fun h0 => ⟨by omega, fun j hj => h3 h0 j hj (Nat.zero_le _)⟩⟩
theorem meets_l (l : List S36) (hl : l.length ≤ 16) (hok : ∀ i, i < l.length → Okp (Pt l i)) {a b : S36} (ha : Okp a) (hb : Okp b) : ∀ (m k i : Nat), i + m = l.length → m + 1 < k →
    ∃ r, polygon_Meets.l1 k l l (l.length : Int) (i : Int) a.f0 a.f1 b.f0 b.f1 = some (r, 0) ∧ (r = true ↔ ∃ j, i ≤ j ∧ j < l.length ∧ cmn a b (Pt l (pv l.length j)) (Pt l j) = true)
  | 0, k, i, hi, hk => by
    obtain ⟨k, rfl⟩ : ∃ m, k = m + 1 := ⟨k - 1, by omega⟩
    rw [polygon_Meets.l1, if_neg (by omega)]
    exact ⟨false, rfl, ⟨fun h => (by cases h), fun ⟨j, h1, h2, _⟩ => by omega⟩⟩
  | m + 1, k, i, hi, hk => by
    obtain ⟨k, rfl⟩ : ∃ m, k = m + 2 := ⟨k - 2, by omega⟩
    have hlt : i < l.length := by omega
    have hn := pv_lt hlt
    have e1 : ∀ j : Nat, rd_T36 l (j : Int) = Pt l j := fun _ => rfl
    rw [polygon_Meets.l1, if_pos (by omega), if_pos (by omega), if_pos (by omega), if_neg (by omega), w64 (x := (i : Int) + (l.length : Int)) (by omega) (by omega), w64 (x := (i : Int) + (l.length : Int) - 1) (by omega) (by omega), md_pv hlt, if_pos (by omega), if_pos (by omega), e1, e1,
      common_p k ha hb (hok _ hn) (hok i hlt), Option.bind_some]
    by_cases c : cmn a b (Pt l (pv l.length i)) (Pt l i) = true
    · rw [if_pos c]
      exact ⟨true, rfl, ⟨fun _ => ⟨i, Nat.le_refl _, hlt, c⟩, fun _ => rfl⟩⟩
    · rw [if_neg c, w64 (by omega) (by omega), show ((i : Int) + 1) = ((i + 1 : Nat) : Int) by omega]
      obtain ⟨r, hr, hz⟩ := meets_l l hl hok ha hb m (k + 1) (i + 1) (by omega) (by omega)
      refine ⟨r, hr, hz.trans ⟨fun ⟨j, h1, h2, h3⟩ => ⟨j, by omega, h2, h3⟩, fun ⟨j, h1, h2, h3⟩ => ⟨j, ?_, h2, h3⟩⟩⟩
      rcases Nat.lt_or_ge i j with g | g
      · omega
      · obtain rfl : j = i := by omega
        exact absurd h3 c
theorem meets_f {l : List S36} (h : Valid l) (k : Nat) (hk : 500 ≤ k) (a b : S36) :
    (¬ (Okp a ∧ Okp b) ∧ polygon_Meets.f k l a.f0 a.f1 b.f0 b.f1 = some (false, 4)) ∨
    ((Okp a ∧ Okp b) ∧ ∃ r, polygon_Meets.f k l a.f0 a.f1 b.f0 b.f1 = some (r, 0) ∧ (r = true ↔ MeetP l a b)) := by
  obtain ⟨e, he, hz⟩ := pcheck l
  have h0 := hz.2 h
  obtain ⟨k, rfl⟩ : ∃ m, k = m + 3 := ⟨k - 3, by omega⟩
  have g1 : rd_T36 [(⟨a.f0, a.f1⟩ : S36), ⟨b.f0, b.f1⟩] 0 = a := rfl
  have g2 : rd_T36 [(⟨a.f0, a.f1⟩ : S36), ⟨b.f0, b.f1⟩] 1 = b := rfl
  have len : (([(⟨a.f0, a.f1⟩ : S36), ⟨b.f0, b.f1⟩] : List S36).length : Int) = 2 := rfl
  have w1 : wrap64 (0 + 1) = 1 := w64 (by decide) (by decide)
  have w2 : wrap64 (1 + 1) = 2 := w64 (by decide) (by decide)
  unfold polygon_Meets.f
  rw [he _ (by omega), h0, Option.bind_some, if_pos rfl, Option.bind_some, len, polygon_Meets.l0, len, if_pos (by decide), if_pos (by decide), if_pos (by decide), g1, check_f, Option.bind_some]
  by_cases ha : Ok a.f0 a.f1
  · rw [if_pos ha, if_pos rfl, w1, polygon_Meets.l0, len, if_pos (by decide), if_pos (by decide), if_pos (by decide), g2, check_f, Option.bind_some]
    by_cases hb : Ok b.f0 b.f1
    · right
      refine ⟨⟨ha, hb⟩, ?_⟩
      have h3 : 0 < l.length := by have := h.1.1; omega
      rw [if_pos hb, if_pos rfl, w2, polygon_Meets.l0, if_neg (by decide), locate_f l h.1.2 h.2.1 ha k (by omega), Option.bind_some]
      by_cases c : loc l a.f0 a.f1 ≥ 0
      · rw [if_pos c]; exact ⟨true, rfl, ⟨fun _ => Or.inl c, fun _ => rfl⟩⟩
      · rw [if_neg c]
        obtain ⟨r, hr, hrz⟩ := meets_l l h.1.2 h.2.1 (a := a) (b := b) ha hb l.length k 0 (by omega) (by have := h.1.2; omega)
        refine ⟨r, hr, hrz.trans ⟨fun ⟨j, _, h1, h2⟩ => Or.inr ?_, fun g => ?_⟩⟩
        · refine (edge_iff h3 (fun u v => ¬ NC a b u v)).2 ⟨j, h1, fun g => ?_⟩
          rw [nc_iff.2 g] at h2; cases h2
        · rcases g with g | g
          · exact absurd g c
          · obtain ⟨j, h1, h2⟩ := (edge_iff h3 (fun u v => ¬ NC a b u v)).1 g
            refine ⟨j, Nat.zero_le _, h1, ?_⟩
            cases q : cmn a b (Pt l (pv l.length j)) (Pt l j) with
            | true => rfl
            | false => exact absurd (nc_iff.1 q) h2
    · left
      rw [if_neg hb, if_neg (by decide)]
      exact ⟨fun g => hb g.2, rfl⟩
  · left
    rw [if_neg ha, if_neg (by decide)]
    exact ⟨fun g => ha g.1, rfl⟩
theorem rdX {l : List Fx} {i : Nat} (h : i < l.length) : rd_T40 l (i : Int) = l[i] := by
  unfold rd_T40
  rw [Int.toNat_natCast, List.getD_eq_getElem?_getD, List.getElem?_eq_getElem h]
  rfl
theorem rdB {l : List ByteArray} {i : Nat} (h : i < l.length) : rdOf ByteArray.empty l (i : Int) = l[i] := by
  unfold rdOf
  rw [Int.toNat_natCast, List.getD_eq_getElem?_getD, List.getElem?_eq_getElem h]
  rfl
def OkL (l : List Fx) : Prop := ∀ j (h : j < l.length), Okp l[j].f1
theorem cf_l (l : List Fx) (hl : l.length ≤ 64) : ∀ (d k i : Nat), i + d = l.length → d < k → ∃ e, route_checkFixes.l0 k l (l.length : Int) (i : Int) = some e ∧ (e = 0 ↔ ∀ j (h : j < l.length), i ≤ j → Okp l[j].f1)
  | 0, k, i, hi, hk => by
    obtain ⟨k, rfl⟩ : ∃ m, k = m + 1 := ⟨k - 1, by omega⟩
    exact ⟨0, by rw [route_checkFixes.l0, if_neg (by omega)], fun _ j h1 h2 => by omega, fun _ => rfl⟩
  | d + 1, k, i, hi, hk => by
    obtain ⟨k, rfl⟩ : ∃ m, k = m + 1 := ⟨k - 1, by omega⟩
    have hlt : i < l.length := by omega
    obtain ⟨e, he, hz⟩ := cf_l l hl d k (i + 1) (by omega) (by omega)
    rw [route_checkFixes.l0, if_pos (by omega), if_pos (by omega), if_pos (by omega), rdX hlt, check_f, Option.bind_some, w64 (x := (i : Int) + 1) (by omega) (by omega), show ((i : Int) + 1) = ((i + 1 : Nat) : Int) by omega]
    by_cases c : Ok l[i].f1.f0 l[i].f1.f1
    · rw [if_pos c, if_pos rfl]
      refine ⟨e, he, fun h0 j hj hij => ?_, fun h => hz.2 (fun j hj hij => h j hj (by omega))⟩
      by_cases cj : j = i
      · subst cj; exact c
      · exact hz.1 h0 j hj (by omega)
    · rw [if_neg c, if_neg (by decide)]
      exact ⟨4, rfl, fun h => by omega, fun h => absurd (h i hlt (Nat.le_refl _)) c⟩
theorem cf_f (l : List Fx) (hl : l.length ≤ 64) (k : Nat) (hk : 70 ≤ k) : ∃ e, route_checkFixes.f k l = some e ∧ (e = 0 ↔ OkL l) := by
  unfold route_checkFixes.f
  rw [if_neg (by omega)]
  obtain ⟨e, he, hz⟩ := cf_l l hl l.length k 0 (by omega) (by omega)
  exact ⟨e, he, fun h j hj => hz.1 h j hj (Nat.zero_le _), fun h => hz.2 (fun j hj _ => h j hj)⟩
/-- A route meets an area. -/
def CrP (l : List Fx) (A : List S36) : Prop := ∃ j, ∃ h : j + 1 < l.length, MeetP A (l[j]'(by omega)).f1 l[j + 1].f1
noncomputable def crB (l : List Fx) (x : RV) : Bool := @decide (CrP l x.f1.f0) (Classical.propDecidable _)
theorem crB_iff (l : List Fx) (x : RV) : crB l x = true ↔ CrP l x.f1.f0 := by unfold crB; exact @decide_eq_true_iff _ (Classical.propDecidable _)
theorem cr_l1 (l : List Fx) (hl : l.length ≤ 8) (hok : OkL l) (v : List RV) (x : RV) (hx : volOk x) (acc : List ByteArray) (ha : acc.length ≤ 100) (m : Int) (r : Option (List ByteArray × Int)) :
    ∀ (d k i : Nat), i + d = l.length → 1 ≤ i → 520 + d ≤ k → (∀ j (h : j + 1 < l.length), j + 1 < i → ¬ MeetP x.f1.f0 (l[j]'(by omega)).f1 l[j + 1].f1) → (∀ q, k ≤ q + d + 1 → route_Crossed.l0 q l (if crB l x = true then acc ++ [x.f0] else acc) v (v.length : Int) (wrap64 (m + 1)) = r) →
      route_Crossed.l1 k l acc (i : Int) v (v.length : Int) m x.f0 x.f1.f0 x.f1.f1 x.f1.f2 x.f2 = r
  | 0, k, i, hi, h1, hk, hb, hq => by
    obtain ⟨k, rfl⟩ : ∃ m, k = m + 1 := ⟨k - 1, by omega⟩
    have c : ¬ crB l x = true := fun h => by
      obtain ⟨j, hj, hm⟩ := (crB_iff l x).1 h
      exact hb j hj (by omega) hm
    have := hq k (by omega)
    rw [if_neg c] at this
    rw [route_Crossed.l1, if_neg (by omega), this]
  | d + 1, k, i, hi, h1, hk, hb, hq => by
    obtain ⟨k, rfl⟩ : ∃ m, k = m + 1 := ⟨k - 1, by omega⟩
    have hlt : i < l.length := by omega
    rw [route_Crossed.l1, if_pos (by omega), w64 (x := (i : Int) - 1) (by omega) (by omega), if_pos (by omega), if_pos (by omega), if_pos (by omega), show ((i : Int) - 1) = ((i - 1 : Nat) : Int) by omega, rdX (show i - 1 < l.length by omega), rdX hlt]
    rcases meets_f hx.1.1 k (by omega) l[i - 1].f1 l[i].f1 with ⟨g, _⟩ | ⟨_, r', e1, e2⟩
    · exact absurd ⟨hok _ _, hok _ _⟩ g
    rw [e1, Option.bind_some]
    dsimp only
    by_cases c : r' = true
    · have hc : crB l x = true := (crB_iff l x).2 ⟨i - 1, by omega, by
        have := e2.1 c
        simpa only [show i - 1 + 1 = i by omega] using this⟩
      have := hq k (by omega)
      rw [if_pos hc] at this
      rw [if_pos c, if_pos (by omega), this]
    · rw [if_neg c, w64 (x := (i : Int) + 1) (by omega) (by omega), show ((i : Int) + 1) = ((i + 1 : Nat) : Int) by omega]
      refine cr_l1 l hl hok v x hx acc ha m r d k (i + 1) (by omega) (by omega) (by omega) (fun j hj hji hm => ?_) (fun q h => hq q (by omega))
      by_cases cj : j + 1 = i
      · subst cj
        exact c (e2.2 hm)
      · exact hb j hj (by omega) hm
theorem cr_l0 (l : List Fx) (hl : l.length ≤ 8) (hok : OkL l) (v : List RV) (h16 : v.length ≤ 16) (hv : ∀ j (h : j < v.length), volOk v[j]) : ∀ (d k i : Nat) (acc : List ByteArray), i + d = v.length → 550 + 12 * d ≤ k → acc.length ≤ i →
    route_Crossed.l0 k l acc v (v.length : Int) (i : Int) = some (acc ++ ((v.drop i).filter (crB l)).map (·.f0), 0)
  | 0, k, i, acc, hi, hk, ha => by
    obtain ⟨k, rfl⟩ : ∃ m, k = m + 1 := ⟨k - 1, by omega⟩
    rw [route_Crossed.l0, if_neg (by omega), List.drop_of_length_le (by omega)]
    simp
  | d + 1, k, i, acc, hi, hk, ha => by
    obtain ⟨k, rfl⟩ : ∃ m, k = m + 1 := ⟨k - 1, by omega⟩
    have hlt : i < v.length := by omega
    rw [route_Crossed.l0, if_pos (by omega), if_pos (by omega), if_pos (by omega), rdV hlt, List.drop_eq_getElem_cons hlt]
    rcases Nat.eq_zero_or_pos l.length with hz | hz
    · have c : ¬ crB l v[i] = true := fun h => by
        obtain ⟨j, hj, hm⟩ := (crB_iff l v[i]).1 h
        omega
      obtain ⟨k, rfl⟩ : ∃ m, k = m + 1 := ⟨k - 1, by omega⟩
      rw [route_Crossed.l1, if_neg (by omega), List.filter_cons_of_neg c, w64 (x := (i : Int) + 1) (by omega) (by omega), show ((i : Int) + 1) = ((i + 1 : Nat) : Int) by omega]
      exact cr_l0 l hl hok v h16 hv d k (i + 1) acc (by omega) (by omega) (by omega)
    · refine cr_l1 l hl hok v v[i] (hv i hlt) acc (by omega) (i : Int) _ (l.length - 1) k 1 (by omega) (Nat.le_refl _) (by omega) (fun j h1 h2 => by omega) (fun q hq => ?_)
      rw [w64 (x := (i : Int) + 1) (by omega) (by omega), show ((i : Int) + 1) = ((i + 1 : Nat) : Int) by omega]
      by_cases c : crB l v[i] = true
      · rw [if_pos c, List.filter_cons_of_pos c, cr_l0 l hl hok v h16 hv d q (i + 1) (acc ++ [v[i].f0]) (by omega) (by omega) (by simp; omega)]
        simp
      · rw [if_neg c, List.filter_cons_of_neg c]
        exact cr_l0 l hl hok v h16 hv d q (i + 1) acc (by omega) (by omega) (by omega)
theorem back_l (l : List Fx) (v : List RV) (nm : List ByteArray) (hl : l.length ≤ 8) (R : Option Bool) : ∀ (d k i : Nat), i + d = l.length → d < k → (∀ q, k ≤ q + d + 1 → skywaykeep1_RouteCrossed.l0 (q + 1) l v nm l.reverse (l.length : Int) (l.length : Int) = R) → skywaykeep1_RouteCrossed.l0 k l v nm (l.reverse.take i) (l.length : Int) (i : Int) = R
  | 0, k, i, hi, hk, hq => by
    obtain ⟨k, rfl⟩ : ∃ m, k = m + 1 := ⟨k - 1, by omega⟩
    obtain rfl : i = l.length := by omega
    rw [List.take_of_length_le (by rw [List.length_reverse]; omega)]
    exact hq k (by omega)
  | d + 1, k, i, hi, hk, hq => by
    obtain ⟨k, rfl⟩ : ∃ m, k = m + 1 := ⟨k - 1, by omega⟩
    have hlt : i < l.length := by omega
    have hr : i < l.reverse.length := by rw [List.length_reverse]; omega
    have e : l.reverse.take i ++ [(⟨(rd_T40 l ((l.length : Int) - 1 - (i : Int))).f0, (⟨(rd_T40 l ((l.length : Int) - 1 - (i : Int))).f1.f0, (rd_T40 l ((l.length : Int) - 1 - (i : Int))).f1.f1⟩ : S36)⟩ : Fx)] = l.reverse.take (i + 1) := by
      rw [show ((l.length : Int) - 1 - (i : Int)) = ((l.length - 1 - i : Nat) : Int) by omega, rdX (by omega), List.take_succ_eq_append_getElem hr, List.getElem_reverse]
    rw [skywaykeep1_RouteCrossed.l0, if_pos (by omega), w64 (x := (l.length : Int) - 1) (by omega) (by omega), w64 (x := (l.length : Int) - 1 - (i : Int)) (by omega) (by omega), if_pos (by omega), if_pos (by omega), if_pos (by rw [List.length_take]; omega), e, w64 (x := (i : Int) + 1) (by omega) (by omega), show ((i : Int) + 1) = ((i + 1 : Nat) : Int) by omega]
    exact back_l l v nm hl R d k (i + 1) (by omega) (by omega) (fun q h => hq q (by omega))
theorem same_l (a : List ByteArray) (hl : a.length ≤ 100) : ∀ (d k i : Nat), i + d = a.length → d < k → skywayref1_SameTexts.l0 k a a (a.length : Int) (i : Int) = some true
  | 0, k, i, hi, hk => by
    obtain ⟨k, rfl⟩ : ∃ m, k = m + 1 := ⟨k - 1, by omega⟩
    rw [skywayref1_SameTexts.l0, if_neg (by omega)]
  | d + 1, k, i, hi, hk => by
    obtain ⟨k, rfl⟩ : ∃ m, k = m + 1 := ⟨k - 1, by omega⟩
    rw [skywayref1_SameTexts.l0, if_pos (by omega), if_pos (by omega), if_pos (by omega), if_pos (by omega), if_pos rfl, w64 (x := (i : Int) + 1) (by omega) (by omega), show ((i : Int) + 1) = ((i + 1 : Nat) : Int) by omega]
    exact same_l a hl d k (i + 1) (by omega) (by omega)
theorem has_l (s : ByteArray) (a : List ByteArray) (hl : a.length ≤ 100) (hs : s ∈ a) : ∀ (d k i : Nat), i + d = a.length → d < k → (∀ j (h : j < a.length), j < i → a[j] ≠ s) → skywayref1_HasText.l0 k s a (a.length : Int) (i : Int) = some true
  | 0, k, i, hi, hk, hb => by
    obtain ⟨j, hj, e⟩ := List.getElem_of_mem hs
    exact absurd e (hb j hj (by omega))
  | d + 1, k, i, hi, hk, hb => by
    obtain ⟨k, rfl⟩ : ∃ m, k = m + 1 := ⟨k - 1, by omega⟩
    have hlt : i < a.length := by omega
    rw [skywayref1_HasText.l0, if_pos (by omega), if_pos (by omega), if_pos (by omega), rdB hlt]
    split
    · rfl
    · rename_i hne
      rw [w64 (x := (i : Int) + 1) (by omega) (by omega), show ((i : Int) + 1) = ((i + 1 : Nat) : Int) by omega]
      refine has_l s a hl hs d k (i + 1) (by omega) (by omega) (fun j hj hji => ?_)
      by_cases c : j = i
      · subst c; intro e; exact hne (by rw [e])
      · exact hb j hj (by omega)
theorem cr_rev {l : List Fx} {A : List S36} (hA : Valid A) : CrP l.reverse A ↔ CrP l A := by
  have key : ∀ l : List Fx, CrP l A → CrP l.reverse A := by
    rintro l ⟨j, hj, hm⟩
    refine ⟨l.length - 2 - j, by rw [List.length_reverse]; omega, ?_⟩
    have h3 : 0 < A.length := by have := hA.1.1; omega
    rw [List.getElem_reverse, List.getElem_reverse]
    have e1 : l.length - 1 - (l.length - 2 - j) = j + 1 := by omega
    have e2 : l.length - 1 - (l.length - 2 - j + 1) = j := by omega
    simp only [e1, e2]
    exact meet_sym h3 hm
  refine ⟨fun h => ?_, key l⟩
  have := key _ h
  rwa [List.reverse_reverse] at this
theorem law_l2 (l : List Fx) (hl : l.length ≤ 8) (hok : OkL l) (v : List RV) (h16 : v.length ≤ 16) (nm : List ByteArray) (hnm : nm.length ≤ 16) (x : RV) (hx : volOk x) (hin : CrP l x.f1.f0 → x.f0 ∈ nm) (m : Int) (R : Option Bool) :
    ∀ (d k i : Nat), i + d = l.length → 520 + d ≤ k → (∀ q, k ≤ q + d + 1 → skywaykeep1_RouteCrossed.l1 q l nm v (v.length : Int) (wrap64 (m + 1)) = R) → skywaykeep1_RouteCrossed.l2 k l nm v (v.length : Int) m l (l.length : Int) (i : Int) x.f0 x.f1.f0 x.f1.f1 x.f1.f2 x.f2 = R
  | 0, k, i, hi, hk, hq => by
    obtain ⟨k, rfl⟩ : ∃ m, k = m + 1 := ⟨k - 1, by omega⟩
    rw [skywaykeep1_RouteCrossed.l2, if_neg (by omega)]
    exact hq k (by omega)
  | d + 1, k, i, hi, hk, hq => by
    obtain ⟨k, rfl⟩ : ∃ m, k = m + 1 := ⟨k - 1, by omega⟩
    have hlt : i < l.length := by omega
    have ih := law_l2 l hl hok v h16 nm hnm x hx hin m R d k (i + 1) (by omega) (by omega) (fun q h => hq q (by omega))
    rw [skywaykeep1_RouteCrossed.l2, if_pos (by omega), if_pos (by omega), if_pos (by omega), rdX hlt, loc_yes hx.1.1 (hok i hlt) k (by omega), Option.bind_some, w64 (x := (i : Int) + 1) (by omega) (by omega), show ((i : Int) + 1) = ((i + 1 : Nat) : Int) by omega]
    dsimp only
    rw [if_pos rfl]
    by_cases c : loc x.f1.f0 l[i].f1.f0 l[i].f1.f1 ≥ 0
    · rw [if_pos c]
      by_cases c2 : (l.length : Int) > 1
      · have h3 : 0 < x.f1.f0.length := by have := hx.1.1.1.1; omega
        have hcr : CrP l x.f1.f0 := by
          rcases Nat.eq_zero_or_pos i with rfl | h0
          · exact ⟨0, by omega, .inl c⟩
          · refine ⟨i - 1, by omega, ?_⟩
            have hm : MeetP x.f1.f0 l[i].f1 l[i - 1].f1 := .inl c
            have := meet_sym h3 hm
            simpa only [show i - 1 + 1 = i by omega] using this
        have hh : skywayref1_HasText.f k nm x.f0 = some true := by
          unfold skywayref1_HasText.f
          exact has_l x.f0 nm (by omega) (hin hcr) nm.length k 0 (by omega) (by omega) (fun j _ h => absurd h (Nat.not_lt_zero _))
        rw [if_pos c2, hh, Option.bind_some, if_pos rfl]
        exact ih
      · rw [if_neg c2]; exact ih
    · rw [if_neg c]; exact ih
theorem law_l1 (l : List Fx) (hl : l.length ≤ 8) (hok : OkL l) (v : List RV) (h16 : v.length ≤ 16) (hv : ∀ j (h : j < v.length), volOk v[j]) (nm : List ByteArray) (hnm : nm.length ≤ 16) (hin : ∀ j (h : j < v.length), CrP l v[j].f1.f0 → v[j].f0 ∈ nm) :
    ∀ (d k i : Nat), i + d = v.length → 550 + 12 * d ≤ k → skywaykeep1_RouteCrossed.l1 k l nm v (v.length : Int) (i : Int) = some true
  | 0, k, i, hi, hk => by
    obtain ⟨k, rfl⟩ : ∃ m, k = m + 1 := ⟨k - 1, by omega⟩
    rw [skywaykeep1_RouteCrossed.l1, if_neg (by omega)]
  | d + 1, k, i, hi, hk => by
    obtain ⟨k, rfl⟩ : ∃ m, k = m + 1 := ⟨k - 1, by omega⟩
    have hlt : i < v.length := by omega
    rw [skywaykeep1_RouteCrossed.l1, if_pos (by omega), if_pos (by omega), if_pos (by omega), rdV hlt]
    refine law_l2 l hl hok v h16 nm hnm v[i] (hv i hlt) (hin i hlt) (i : Int) _ l.length k 0 (by omega) (by omega) (fun q hq => ?_)
    rw [w64 (x := (i : Int) + 1) (by omega) (by omega), show ((i : Int) + 1) = ((i + 1 : Nat) : Int) by omega]
    exact law_l1 l hl hok v h16 hv nm hnm hin d q (i + 1) (by omega) (by omega)
theorem routeWorks (k : Nat) (hk : 100 ≤ k) : skywaykeep1_routeWorks.f k = some true := by
  have h : skywaykeep1_routeWorks.f 100 = some true := by decide +kernel
  exact at_rounds skywaykeep1_routeWorks.mono hk h
theorem crossed_yes (l : List Fx) (hl : l.length ≤ 8) (hok : OkL l) (v : List RV) (k : Nat) (hk : 1000 ≤ k) (hcv : route_CheckVolumes.f k v = some 0) (h16 : v.length ≤ 16) (hv : ∀ j (h : j < v.length), volOk v[j]) : route_Crossed.f k l v = some ((v.filter (crB l)).map (·.f0), 0) := by
  obtain ⟨e, he, hz⟩ := cf_f l (by omega) k (by omega)
  unfold route_Crossed.f
  rw [he, Option.bind_some, if_pos (hz.2 hok), hcv, Option.bind_some, if_pos rfl]
  exact cr_l0 l hl hok v h16 hv v.length k 0 [] (by omega) (by omega) (Nat.le_refl _)
theorem RouteCrossed : skywaykeep1_RouteCrossed.Pure := by
  intro l v _ _
  refine ⟨3000, ?_⟩
  have hm : mn (l.length : Int) 8 = ((min l.length 8 : Nat) : Int) := by unfold mn; split <;> omega
  unfold skywaykeep1_RouteCrossed.f
  rw [hm, if_pos (by omega), if_pos (by omega), Option.bind_some, routeWorks _ (by omega), Option.bind_some, if_pos rfl, Int.toNat_natCast]
  generalize hL : l.take (min l.length 8) = L
  have hl : L.length ≤ 8 := by rw [← hL, List.length_take]; omega
  clear hL hm
  obtain ⟨e1, a1, a2⟩ := cf_f L (by omega) 3000 (by omega)
  obtain ⟨e2, b1, b2⟩ := cv_f v 3000 (by omega)
  by_cases c1 : e1 = 0
  · have hok := a2.1 c1
    by_cases c2 : e2 = 0
    · subst c2
      obtain ⟨h16, hv'⟩ := b2 rfl
      have hv := fun j (h : j < v.length) => (hv' j h).1
      have hf : ∀ x ∈ v, crB L.reverse x = crB L x := fun x hx => by
        obtain ⟨j, hj, rfl⟩ := List.getElem_of_mem hx
        rw [Bool.eq_iff_iff, crB_iff, crB_iff]
        exact cr_rev (hv j hj).1.1
      have hokr : OkL L.reverse := fun j hj => by
        rw [List.getElem_reverse]
        exact hok _ _
      have hn : ((v.filter (crB L)).map (·.f0)).length ≤ 16 := by
        rw [List.length_map]
        exact Nat.le_trans (List.length_filter_le _ _) h16
      rw [crossed_yes L hl hok v 3000 (by omega) b1 h16 hv, Option.bind_some]
      dsimp only
      rw [if_pos rfl]
      refine back_l L v _ hl _ L.length 3000 0 (by omega) (by omega) (fun q hq => ?_)
      obtain ⟨e3, g1, g2⟩ := cv_f v q (by omega)
      have e30 : route_CheckVolumes.f q v = some 0 := by
        have h1 := at_rounds (fun k => route_CheckVolumes.mono _ k) (show q ≤ q + 3000 by omega) g1
        have h2 := at_rounds (fun k => route_CheckVolumes.mono _ k) (show 3000 ≤ q + 3000 by omega) b1
        rw [h1] at h2
        rw [g1, h2]
      obtain ⟨q, rfl⟩ : ∃ m, q = m + 1 := ⟨q - 1, by omega⟩
      rw [skywaykeep1_RouteCrossed.l0, if_neg (by omega), crossed_yes L.reverse (by rw [List.length_reverse]; omega) hokr v (q + 1) (by omega) e30 h16 hv, Option.bind_some]
      dsimp only
      rw [if_pos rfl, List.filter_congr hf]
      have hs : skywayref1_SameTexts.f (q + 1) ((v.filter (crB L)).map (·.f0)) ((v.filter (crB L)).map (·.f0)) = some true := by
        unfold skywayref1_SameTexts.f
        rw [if_pos rfl]
        exact same_l _ (by omega) _ (q + 1) 0 (Nat.zero_add _) (by omega)
      rw [hs, Option.bind_some, Bool.not_true, skywaykeep1_RouteCrossed.j1, if_neg (by decide)]
      refine law_l1 L hl hok v h16 hv _ hn (fun j hj hc => ?_) v.length q 0 (by omega) (by omega)
      exact List.mem_map.2 ⟨v[j], List.mem_filter.2 ⟨List.getElem_mem hj, (crB_iff _ _).2 hc⟩, rfl⟩
    · have hr : route_Crossed.f 3000 L v = some ([], e2) := by
        unfold route_Crossed.f
        rw [a1, Option.bind_some, if_pos c1, b1, Option.bind_some, if_neg c2]
      rw [hr, Option.bind_some]
      dsimp only
      rw [if_neg c2]
      rfl
  · have hr : route_Crossed.f 3000 L v = some ([], e1) := by
      unfold route_Crossed.f
      rw [a1, Option.bind_some, if_neg c1]
    rw [hr, Option.bind_some]
    dsimp only
    rw [if_neg c1]
    rfl
end Go.Proofs.Ytbpbpojnfhhbjaa.Pure
