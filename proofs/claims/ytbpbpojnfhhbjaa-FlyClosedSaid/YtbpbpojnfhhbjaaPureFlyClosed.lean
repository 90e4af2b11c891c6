/- FlyClosed: the first closed volume of a path, and when it is met. -/
import Derived.Test.YtbpbpojnfhhbjaaPFlyClosedx
import Derived.Test.YtbpbpojnfhhbjaaMath
import Derived.Laws.MathBits
namespace Go.Proofs.Ytbpbpojnfhhbjaa.Pure
open Go Go.RowKit Go.Proofs.Ytbpbpojnfhhbjaa Go.Proofs.Ytbpbpojnfhhbjaa.PFlyClosed Go.Proofs.YtbpbpojnfhhbjaaW.PrintWords Go.Proofs.YtbpbpojnfhhbjaaW.PrintLast Go.Proofs.YtbpbpojnfhhbjaaW.PrintMore Go.Proofs.YtbpbpojnfhhbjaaM
/-- A permitted coordinate. -/
def Ok (x y : Int) : Prop := -1000000 ≤ x ∧ x ≤ 1000000 ∧ -1000000 ≤ y ∧ y ≤ 1000000
instance (x y : Int) : Decidable (Ok x y) := inferInstanceAs (Decidable (_ ∧ _))
theorem down (k : Nat) (a b : Int) (a1 : -9223372036854775808 ≤ a) (a2 : a ≤ 9223372036854775807) (hb : b ≠ 0) (hno : ¬ (a = -9223372036854775808 ∧ b = -1)) : num_DivDown.f (k + 1) a b = some (Int.fdiv a b, 0) := by
  obtain ⟨r1, r2⟩ := fdiv_range a1 a2 hb hno
  have hf := tdiv_floor a b hb
  have main : num_DivDown.j0 (k + 1) a b false = some (Int.fdiv a b, 0) := by
    rw [num_DivDown.j0, if_neg (by decide), if_neg hb]
    by_cases h0 : Int.tmod a b = 0
    · rw [if_pos h0] at hf ⊢
      rw [hf, w64 r1 r2]
    · rw [if_neg h0] at hf ⊢
      by_cases hs : ((decide (a < 0)) != (decide (b < 0))) = true
      · rw [if_pos hs] at hf ⊢
        have ht : -9223372036854775808 ≤ Int.tdiv a b ∧ Int.tdiv a b ≤ 9223372036854775807 := by
          refine ⟨by omega, ?_⟩
          have h1 := Int.tdiv_nonpos_of_nonneg_of_nonpos (a := a) (b := b)
          by_cases ha : a < 0
          · have hb' : 0 < b := by
              simp [ha] at hs
              omega
            have h2 : Int.tdiv a b ≤ 0 := by
              have := Int.tdiv_nonneg (a := -a) (b := b) (by omega) (by omega)
              rw [Int.neg_tdiv] at this
              omega
            omega
          · have hb' : b < 0 := by
              simp [ha] at hs
              exact hs
            have := h1 (by omega) (by omega)
            omega
        rw [w64 ht.1 ht.2, hf, w64 r1 r2]
      · rw [if_neg hs] at hf ⊢
        rw [hf, w64 r1 r2]
  rw [num_DivDown.f, if_neg hb]
  by_cases ha : a = -9223372036854775808
  · rw [if_pos ha]
    have : (b == -1) = false := beq_eq_false_iff_ne.mpr (fun h => hno ⟨ha, h⟩)
    rw [this]
    exact main
  · rw [if_neg ha]
    exact main
theorem down_pos (k : Nat) (a b : Int) (a1 : -9223372036854775808 ≤ a) (a2 : a ≤ 9223372036854775807) (hb : 0 < b) : num_DivDown.f (k + 1) a b = some (a / b, 0) := by
  rw [down k a b a1 a2 (by omega) (by omega), fdiv_pos hb]
theorem check_f (x y : Int) : plane_Check.f x y = some (if Ok x y then 0 else 4) := by
  unfold plane_Check.f
  by_cases c : Ok x y
  · rw [if_pos c]
    obtain ⟨c1, c2, c3, c4⟩ := c
    rw [if_neg (by omega), if_neg (by omega), if_neg (by omega), if_neg (by omega)]
  · rw [if_neg c]
    by_cases c1 : x < -1000000
    · rw [if_pos c1]
    · rw [if_neg c1]
      by_cases c2 : x > 1000000
      · rw [if_pos c2]
      · rw [if_neg c2]
        by_cases c3 : y < -1000000
        · rw [if_pos c3]
        · rw [if_neg c3, if_pos (by
            rcases Int.lt_or_le 1000000 y with h | h
            · exact h
            · exact absurd (show Ok x y from ⟨by omega, by omega, by omega, h⟩) c)]
theorem toward_bad (k : Nat) {ax ay bx b_y n d : Int} (h0 : 0 < d) (h1 : d ≤ 200000) (h2 : 0 ≤ n) (h3 : n ≤ d) (h : ¬ (Ok ax ay ∧ Ok bx b_y)) : plane_Toward.f (k + 2) ax ay bx b_y n d = some (0, 0, 4) := by
  unfold plane_Toward.f
  rw [if_neg (by omega), if_neg (by omega), if_neg (by omega), if_neg (by omega), check_f, check_f, Option.bind_some, Option.bind_some]
  by_cases ha : Ok ax ay
  · have hb : ¬ Ok bx b_y := fun hb => h ⟨ha, hb⟩
    rw [if_pos ha, if_neg hb, if_pos rfl, plane_Toward.j0, if_pos (by decide)]
  · rw [if_neg ha, if_neg (by decide), plane_Toward.j0, if_pos rfl]
theorem lin_bd {D n d : Int} (h0 : 0 < d) (h1 : d ≤ 200000) (h2 : 0 ≤ n) (h3 : n ≤ d) (h4 : -2000000 ≤ D) (h5 : D ≤ 2000000) :
    -400000000000 ≤ D * n ∧ D * n ≤ 400000000000 ∧ -2000000 ≤ D * n / d ∧ D * n / d ≤ 2000000 := by
  have m := mul_bd h4 h5 (show -200000 ≤ n by omega) (show n ≤ 200000 by omega)
  refine ⟨by omega, by omega, (Int.le_ediv_iff_mul_le h0).2 ?_, ?_⟩
  · have h6 := Int.mul_le_mul_of_nonneg_left h3 (show (0 : Int) ≤ 2000000 by decide)
    have h7 := Int.mul_nonneg (show 0 ≤ D + 2000000 by omega) h2
    rw [Int.add_mul] at h7
    omega
  · have : D * n / d < 2000001 := by
      refine (Int.ediv_lt_iff_lt_mul h0).2 ?_
      have h6 := Int.mul_le_mul_of_nonneg_left h3 (show (0 : Int) ≤ 2000000 by decide)
      have h7 := Int.mul_nonneg (show 0 ≤ 2000000 - D by omega) h2
      rw [Int.sub_mul] at h7
      omega
    omega
theorem toward (k : Nat) {ax ay bx b_y n d : Int} (h0 : 0 < d) (h1 : d ≤ 200000) (h2 : 0 ≤ n) (h3 : n ≤ d) (ha : Ok ax ay) (hb : Ok bx b_y) :
    plane_Toward.f (k + 2) ax ay bx b_y n d = some (ax + (bx - ax) * n / d, ay + (b_y - ay) * n / d, 0) := by
  obtain ⟨a1, a2, a3, a4⟩ := id ha
  obtain ⟨b1, b2, b3, b4⟩ := id hb
  obtain ⟨m1, m2, m3, m4⟩ := lin_bd h0 h1 h2 h3 (show -2000000 ≤ bx - ax by omega) (show bx - ax ≤ 2000000 by omega)
  obtain ⟨n1, n2, n3, n4⟩ := lin_bd h0 h1 h2 h3 (show -2000000 ≤ b_y - ay by omega) (show b_y - ay ≤ 2000000 by omega)
  unfold plane_Toward.f
  rw [if_neg (by omega), if_neg (by omega), if_neg (by omega), if_neg (by omega), check_f, check_f, Option.bind_some, Option.bind_some, if_pos ha, if_pos hb, if_pos rfl, plane_Toward.j0, if_neg (by decide)]
  rw [w64 (x := bx - ax) (by omega) (by omega), w64 (x := b_y - ay) (by omega) (by omega), w64 (x := (bx - ax) * n) (by omega) (by omega), w64 (x := (b_y - ay) * n) (by omega) (by omega)]
  rw [down_pos k _ d (by omega) (by omega) h0, down_pos k _ d (by omega) (by omega) h0, Option.bind_some, Option.bind_some, w64 (by omega) (by omega), w64 (by omega) (by omega)]
/-- The cross product of b - a and c - a. -/
def X (ax ay bx b_y cx cy : Int) : Int := (bx - ax) * (cy - ay) - (b_y - ay) * (cx - ax)
def sg (x : Int) : Int := if x > 0 then 1 else if x < 0 then -1 else 0
theorem turn {ax ay bx b_y cx cy : Int} (h1 : -2000000000 ≤ bx - ax) (h2 : bx - ax ≤ 2000000000) (h3 : -2000000000 ≤ b_y - ay) (h4 : b_y - ay ≤ 2000000000)
    (h5 : -2000000000 ≤ cx - ax) (h6 : cx - ax ≤ 2000000000) (h7 : -2000000000 ≤ cy - ay) (h8 : cy - ay ≤ 2000000000) :
    plane_Turn.f ax ay bx b_y cx cy = some (sg (X ax ay bx b_y cx cy)) := by
  have m1 := mul_bd h1 h2 h7 h8
  have m2 := mul_bd h3 h4 h5 h6
  unfold plane_Turn.f plane_Sub.f plane_Cross.f X sg
  simp only [Option.bind_some]
  rw [w64 (x := bx - ax) (by omega) (by omega), w64 (x := b_y - ay) (by omega) (by omega), w64 (x := cx - ax) (by omega) (by omega), w64 (x := cy - ay) (by omega) (by omega),
    w64 (x := (bx - ax) * (cy - ay)) (by omega) (by omega), w64 (x := (b_y - ay) * (cx - ax)) (by omega) (by omega), w64 (by omega) (by omega)]
  split
  · rfl
  · split <;> rfl
theorem sg_neg (x : Int) : sg (-x) = -sg x := by unfold sg; (repeat' split) <;> omega
theorem sg_rng (x : Int) : -1 ≤ sg x ∧ sg x ≤ 1 := by unfold sg; (repeat' split) <;> omega
/-- The scalar product of the ways from a point to two others. -/
def Dt (ax ay bx b_y px py : Int) : Int := (ax - px) * (bx - px) + (ay - py) * (b_y - py)
theorem on_f {ax ay bx b_y px py : Int} (ha : Ok ax ay) (hb : Ok bx b_y) (hp : Ok px py) : polygon_on.f ax ay bx b_y px py = some (decide (Dt ax ay bx b_y px py ≤ 0)) := by
  obtain ⟨a1, a2, a3, a4⟩ := ha
  obtain ⟨b1, b2, b3, b4⟩ := hb
  obtain ⟨p1, p2, p3, p4⟩ := hp
  have m1 := mul_bd (show -2000000 ≤ ax - px by omega) (show ax - px ≤ 2000000 by omega) (show -2000000 ≤ bx - px by omega) (show bx - px ≤ 2000000 by omega)
  have m2 := mul_bd (show -2000000 ≤ ay - py by omega) (show ay - py ≤ 2000000 by omega) (show -2000000 ≤ b_y - py by omega) (show b_y - py ≤ 2000000 by omega)
  unfold polygon_on.f plane_Sub.f plane_Dot.f Dt
  simp only [Option.bind_some]
  rw [w64 (x := ax - px) (by omega) (by omega), w64 (x := ay - py) (by omega) (by omega), w64 (x := bx - px) (by omega) (by omega), w64 (x := b_y - py) (by omega) (by omega),
    w64 (x := (ax - px) * (bx - px)) (by omega) (by omega), w64 (x := (ay - py) * (b_y - py)) (by omega) (by omega), w64 (by omega) (by omega)]
theorem turn_ok {ax ay bx b_y cx cy : Int} (ha : Ok ax ay) (hb : Ok bx b_y) (hc : Ok cx cy) : plane_Turn.f ax ay bx b_y cx cy = some (sg (X ax ay bx b_y cx cy)) := by
  obtain ⟨a1, a2, a3, a4⟩ := ha
  obtain ⟨b1, b2, b3, b4⟩ := hb
  obtain ⟨c1, c2, c3, c4⟩ := hc
  exact turn (by omega) (by omega) (by omega) (by omega) (by omega) (by omega) (by omega) (by omega)
def comB (s t u v : Int) (o1 o2 o3 o4 : Bool) : Bool := (decide (s * t < 0) && decide (u * v < 0)) || (decide (s = 0) && o1) || (decide (t = 0) && o2) || (decide (u = 0) && o3) || (decide (v = 0) && o4)
theorem com_j0 (k : Nat) (s t u v : Int) (x : Bool) {ax ay bx b_y cx cy dx dy : Int} (o1 o2 o3 o4 : Bool)
    (h1 : polygon_on.f ax ay bx b_y cx cy = some o1) (h2 : polygon_on.f ax ay bx b_y dx dy = some o2) (h3 : polygon_on.f cx cy dx dy ax ay = some o3) (h4 : polygon_on.f cx cy dx dy bx b_y = some o4) :
    polygon_Common.j0 (k + 1) s t u v x ax ay bx b_y cx cy dx dy = some (x || (decide (s = 0) && o1) || (decide (t = 0) && o2) || (decide (u = 0) && o3) || (decide (v = 0) && o4)) := by
  rw [polygon_Common.j0, h1, h2, h3, h4]
  simp only [Option.bind_some]
  cases x
  · by_cases c1 : s = 0 <;> by_cases c2 : t = 0 <;> by_cases c3 : u = 0 <;> by_cases c4 : v = 0 <;> cases o1 <;> cases o2 <;> cases o3 <;> cases o4 <;> simp [c1, c2, c3, c4]
  · simp
theorem common_f (k : Nat) {ax ay bx b_y cx cy dx dy : Int} (ha : Ok ax ay) (hb : Ok bx b_y) (hc : Ok cx cy) (hd : Ok dx dy) :
    polygon_Common.f (k + 1) ax ay bx b_y cx cy dx dy = some (comB (sg (X ax ay bx b_y cx cy)) (sg (X ax ay bx b_y dx dy)) (sg (X cx cy dx dy ax ay)) (sg (X cx cy dx dy bx b_y))
      (decide (Dt ax ay bx b_y cx cy ≤ 0)) (decide (Dt ax ay bx b_y dx dy ≤ 0)) (decide (Dt cx cy dx dy ax ay ≤ 0)) (decide (Dt cx cy dx dy bx b_y ≤ 0))) := by
  have r1 := sg_rng (X ax ay bx b_y cx cy)
  have r2 := sg_rng (X ax ay bx b_y dx dy)
  have r3 := sg_rng (X cx cy dx dy ax ay)
  have r4 := sg_rng (X cx cy dx dy bx b_y)
  unfold polygon_Common.f
  rw [turn_ok ha hb hc, turn_ok ha hb hd, turn_ok hc hd ha, turn_ok hc hd hb]
  simp only [Option.bind_some]
  have m1 := mul_bd r1.1 r1.2 r2.1 r2.2
  have m2 := mul_bd r3.1 r3.2 r4.1 r4.2
  rw [w64 (by omega) (by omega), w64 (by omega) (by omega), com_j0 k _ _ _ _ _ _ _ _ _ (on_f ha hb hc) (on_f ha hb hd) (on_f hc hd ha) (on_f hc hd hb), com_j0 k _ _ _ _ _ _ _ _ _ (on_f ha hb hc) (on_f ha hb hd) (on_f hc hd ha) (on_f hc hd hb)]
  unfold comB
  by_cases c : sg (X ax ay bx b_y cx cy) * sg (X ax ay bx b_y dx dy) < 0
  · rw [if_pos c, decide_eq_true c, Bool.true_and]
  · rw [if_neg c, decide_eq_false c, Bool.false_and]
/-- Vertex i. -/
def Pt (l : List S36) (i : Nat) : S36 := rd_T36 l (i : Int)
def Okp (p : S36) : Prop := Ok p.f0 p.f1
def Xp (a b c : S36) : Int := X a.f0 a.f1 b.f0 b.f1 c.f0 c.f1
def crs (a b : S36) : Int := a.f0 * b.f1 - a.f1 * b.f0
def cmn (a b c d : S36) : Bool := comB (sg (Xp a b c)) (sg (Xp a b d)) (sg (Xp c d a)) (sg (Xp c d b)) (decide (Dt a.f0 a.f1 b.f0 b.f1 c.f0 c.f1 ≤ 0)) (decide (Dt a.f0 a.f1 b.f0 b.f1 d.f0 d.f1 ≤ 0)) (decide (Dt c.f0 c.f1 d.f0 d.f1 a.f0 a.f1 ≤ 0)) (decide (Dt c.f0 c.f1 d.f0 d.f1 b.f0 b.f1 ≤ 0))
theorem sg_zero (x : Int) : sg x = 0 ↔ x = 0 := by unfold sg; (repeat' split) <;> omega
def nx (n i : Nat) : Nat := if i + 1 < n then i + 1 else i + 1 - n
def nx2 (n i : Nat) : Nat := if i + 2 < n then i + 2 else i + 2 - n
def pv (n i : Nat) : Nat := if i = 0 then n - 1 else i - 1
theorem nx_lt {n i : Nat} (h : i < n) : nx n i < n := by unfold nx; split <;> omega
theorem nx2_lt {n i : Nat} (h : i < n) (h2 : 2 ≤ n) : nx2 n i < n := by unfold nx2; split <;> omega
theorem pv_lt {n i : Nat} (h : i < n) : pv n i < n := by unfold pv; split <;> omega
theorem md_lt {a n : Int} (h0 : 0 ≤ a) (h : a < n) : Int.tmod a n = a := by rw [Int.tmod_eq_emod_of_nonneg h0, Int.emod_eq_of_lt h0 h]
theorem md_add {a n : Int} (h0 : 0 ≤ a) (h : a < n) : Int.tmod (a + n) n = a := by
  rw [Int.tmod_eq_emod_of_nonneg (by omega)]
  have : (a + n) % n = a % n := by simp
  rw [this, Int.emod_eq_of_lt h0 h]
theorem md_nx {n i : Nat} (h : i < n) : Int.tmod ((i : Int) + 1) (n : Int) = ((nx n i : Nat) : Int) := by
  unfold nx
  split
  · rw [md_lt (by omega) (by omega)]; omega
  · have e : (i : Int) + 1 = ((i + 1 - n : Nat) : Int) + n := by omega
    rw [e, md_add (by omega) (by omega)]
theorem md_nx2 {n i : Nat} (h : i < n) (h2 : 2 ≤ n) : Int.tmod ((i : Int) + 2) (n : Int) = ((nx2 n i : Nat) : Int) := by
  unfold nx2
  split
  · rw [md_lt (by omega) (by omega)]; omega
  · have e : (i : Int) + 2 = ((i + 2 - n : Nat) : Int) + n := by omega
    rw [e, md_add (by omega) (by omega)]
theorem md_pv {n i : Nat} (h : i < n) : Int.tmod ((i : Int) + n - 1) (n : Int) = ((pv n i : Nat) : Int) := by
  unfold pv
  split
  · rw [md_lt (by omega) (by omega)]; omega
  · have e : (i : Int) + n - 1 = ((i - 1 : Nat) : Int) + n := by omega
    rw [e, md_add (by omega) (by omega)]
theorem crs_bd {a b : S36} (ha : Okp a) (hb : Okp b) : -4000000000000 ≤ crs a b ∧ crs a b ≤ 4000000000000 ∧ plane_Cross.f a.f0 a.f1 b.f0 b.f1 = some (crs a b) := by
  obtain ⟨a1, a2, a3, a4⟩ := ha
  obtain ⟨b1, b2, b3, b4⟩ := hb
  have m1 := mul_bd a1 a2 b3 b4
  have m2 := mul_bd a3 a4 b1 b2
  unfold plane_Cross.f crs
  refine ⟨by omega, by omega, ?_⟩
  rw [w64 (x := a.f0 * b.f1) (by omega) (by omega), w64 (x := a.f1 * b.f0) (by omega) (by omega), w64 (by omega) (by omega)]
/-- The cross products from vertex i on, d of them. -/
def dblS (l : List S36) : Nat → Nat → Int
  | 0, _ => 0
  | d + 1, i => crs (Pt l i) (Pt l (nx l.length i)) + dblS l d (i + 1)
theorem double_l (l : List S36) (hl : l.length ≤ 16) (hok : ∀ i, i < l.length → Okp (Pt l i)) (d : Nat) : ∀ (k i : Nat) (a : Int), i + d = l.length → d < k →
    -1000000000000000 + (d : Int) * 4000000000000 ≤ a → a ≤ 1000000000000000 - (d : Int) * 4000000000000 → polygon_double.l0 k l a l (l.length : Int) (i : Int) = some (a + dblS l d i) := by
  induction d with
  | zero =>
    intro k i a hi hk _ _
    obtain ⟨k, rfl⟩ : ∃ m, k = m + 1 := ⟨k - 1, by omega⟩
    rw [polygon_double.l0, if_neg (by omega), dblS, Int.add_zero]
  | succ d ih =>
    intro k i a hi hk h1 h2
    obtain ⟨k, rfl⟩ : ∃ m, k = m + 1 := ⟨k - 1, by omega⟩
    have hlt : i < l.length := by omega
    have hn := nx_lt hlt
    obtain ⟨c1, c2, c3⟩ := crs_bd (hok i hlt) (hok _ hn)
    have e1 : rd_T36 l (i : Int) = Pt l i := rfl
    have e2 : rd_T36 l ((nx l.length i : Nat) : Int) = Pt l (nx l.length i) := rfl
    rw [polygon_double.l0, if_pos (by omega), if_pos (by omega), if_pos (by omega), if_neg (by omega), w64 (x := (i : Int) + 1) (by omega) (by omega), md_nx hlt, if_pos (by omega), if_pos (by omega), e1, e2, c3, Option.bind_some, w64 (x := a + crs (Pt l i) (Pt l (nx l.length i))) (by omega) (by omega),
      show ((i : Int) + 1) = ((i + 1 : Nat) : Int) by omega, ih k (i + 1) _ (by omega) (by omega) (by omega) (by omega), dblS, Int.add_assoc]
theorem common_p (k : Nat) {a b c d : S36} (ha : Okp a) (hb : Okp b) (hc : Okp c) (hd : Okp d) : polygon_Common.f (k + 1) a.f0 a.f1 b.f0 b.f1 c.f0 c.f1 d.f0 d.f1 = some (cmn a b c d) := common_f k ha hb hc hd
/-- Edge i has no point in common with the edges from m on, but for its neighbours. -/
def C2 (l : List S36) (i m : Nat) : Prop := ∀ j, m ≤ j → j < l.length → nx l.length j ≠ i → cmn (Pt l i) (Pt l (i + 1)) (Pt l j) (Pt l (nx l.length j)) = false
def C1 (l : List S36) (i : Nat) : Prop := ∀ i', i ≤ i' → i' < l.length → Xp (Pt l i') (Pt l (nx l.length i')) (Pt l (nx2 l.length i')) ≠ 0 ∧ C2 l i' (i' + 2)
theorem check_l2 (l : List S36) (hl : l.length ≤ 16) (hok : ∀ i, i < l.length → Okp (Pt l i)) (i : Nat) (hi : i < l.length) (R : Prop) (K : Nat)
    (hnext : ∀ k, K ≤ k → ∃ e, polygon_Check.l1 k l (l.length : Int) (l.length : Int) ((i + 1 : Nat) : Int) = some e ∧ (e = 0 ↔ R)) :
    ∀ (d k m : Nat), i + 2 ≤ m → m ≤ 20 → l.length - m = d → K + d + 2 ≤ k → ∃ e, polygon_Check.l2 k l (l.length : Int) (i : Int) (m : Int) (l.length : Int) (i : Int) = some e ∧ (e = 0 ↔ C2 l i m ∧ R)
  | 0, k, m, hm, hm2, hd, hk => by
    obtain ⟨k, rfl⟩ : ∃ q, k = q + 1 := ⟨k - 1, by omega⟩
    rw [polygon_Check.l2, if_neg (by omega), w64 (by omega) (by omega), show ((i : Int) + 1) = ((i + 1 : Nat) : Int) by omega]
    obtain ⟨e, he, hz⟩ := hnext k (by omega)
    exact ⟨e, he, hz.trans ⟨fun h => ⟨fun j h1 h2 => by omega, h⟩, fun h => h.2⟩⟩
  | d + 1, k, m, hm, hm2, hd, hk => by
    obtain ⟨k, rfl⟩ : ∃ q, k = q + 2 := ⟨k - 2, by omega⟩
    have hlt : m < l.length := by omega
    have hn := nx_lt hlt
    have e1 : ∀ j : Nat, rd_T36 l (j : Int) = Pt l j := fun _ => rfl
    obtain ⟨e, he, hz⟩ := check_l2 l hl hok i hi R K hnext d (k + 1) (m + 1) (by omega) (by omega) (by omega) (by omega)
    have hstep : C2 l i m ↔ (nx l.length m ≠ i → cmn (Pt l i) (Pt l (i + 1)) (Pt l m) (Pt l (nx l.length m)) = false) ∧ C2 l i (m + 1) := by
      refine ⟨fun h => ⟨fun g => h m (Nat.le_refl _) hlt g, fun j h1 h2 => h j (by omega) h2⟩, fun h j h1 h2 h3 => ?_⟩
      by_cases hj : j = m
      · subst hj; exact h.1 h3
      · exact h.2 j (by omega) h2 h3
    rw [polygon_Check.l2, if_pos (by omega), if_neg (by omega), w64 (x := (m : Int) + 1) (by omega) (by omega), md_nx hlt, show ((m : Int) + 1) = ((m + 1 : Nat) : Int) by omega, he]
    by_cases c : nx l.length m = i
    · rw [if_pos (by omega)]
      exact ⟨e, rfl, by rw [hz, hstep]; exact ⟨fun h => ⟨⟨fun g => absurd c g, h.1⟩, h.2⟩, fun h => ⟨h.1.2, h.2⟩⟩⟩
    · rw [if_neg (by omega), if_pos (by omega), if_pos (by omega), w64 (x := (i : Int) + 1) (by omega) (by omega), if_pos (by omega), if_pos (by omega), if_pos (by omega), if_pos (by omega), if_pos (by omega), if_pos (by omega), show ((i : Int) + 1) = ((i + 1 : Nat) : Int) by omega, e1, e1, e1, e1,
        common_p k (hok i hi) (hok (i + 1) (by omega)) (hok m hlt) (hok _ hn), Option.bind_some]
      by_cases cc : cmn (Pt l i) (Pt l (i + 1)) (Pt l m) (Pt l (nx l.length m)) = true
      · rw [if_pos cc]
        exact ⟨3, rfl, ⟨fun h => by omega, fun h => by rw [(hstep.1 h.1).1 c] at cc; cases cc⟩⟩
      · rw [if_neg cc]
        exact ⟨e, rfl, by rw [hz, hstep]; exact ⟨fun h => ⟨⟨fun _ => by simpa using cc, h.1⟩, h.2⟩, fun h => ⟨h.1.2, h.2⟩⟩⟩
theorem check_l1 (l : List S36) (hl : l.length ≤ 16) (hl3 : 3 ≤ l.length) (hok : ∀ i, i < l.length → Okp (Pt l i)) :
    ∀ (d k i : Nat), i + d = l.length → d * 22 + 20 ≤ k → ∃ e, polygon_Check.l1 k l (l.length : Int) (l.length : Int) (i : Int) = some e ∧ (e = 0 ↔ C1 l i ∧ 0 < dblS l l.length 0)
  | 0, k, i, hi, hk => by
    obtain ⟨k, rfl⟩ : ∃ q, k = q + 1 := ⟨k - 1, by omega⟩
    have hd : polygon_double.l0 k l 0 l (l.length : Int) 0 = some (0 + dblS l l.length 0) := double_l l hl hok l.length k 0 0 (by omega) (by omega) (by omega) (by omega)
    rw [polygon_Check.l1, if_neg (by omega), polygon_double.f, hd, Option.bind_some, Int.zero_add]
    by_cases c : dblS l l.length 0 ≤ 0
    · rw [if_pos c]; exact ⟨3, rfl, ⟨fun h => by omega, fun h => by omega⟩⟩
    · rw [if_neg c]; exact ⟨0, rfl, ⟨fun _ => ⟨fun j h1 h2 => by omega, by omega⟩, fun _ => rfl⟩⟩
  | d + 1, k, i, hi, hk => by
    obtain ⟨k, rfl⟩ : ∃ q, k = q + 1 := ⟨k - 1, by omega⟩
    have hlt : i < l.length := by omega
    have hn := nx_lt hlt
    have hn2 := nx2_lt hlt (by omega)
    have e1 : ∀ j : Nat, rd_T36 l (j : Int) = Pt l j := fun _ => rfl
    have ht : plane_Turn.f (Pt l i).f0 (Pt l i).f1 (Pt l (nx l.length i)).f0 (Pt l (nx l.length i)).f1 (Pt l (nx2 l.length i)).f0 (Pt l (nx2 l.length i)).f1 = some (sg (Xp (Pt l i) (Pt l (nx l.length i)) (Pt l (nx2 l.length i)))) := turn_ok (hok i hlt) (hok _ hn) (hok _ hn2)
    have hstep : C1 l i ↔ (Xp (Pt l i) (Pt l (nx l.length i)) (Pt l (nx2 l.length i)) ≠ 0 ∧ C2 l i (i + 2)) ∧ C1 l (i + 1) := by
      refine ⟨fun h => ⟨h i (Nat.le_refl _) hlt, fun j h1 h2 => h j (by omega) h2⟩, fun h j h1 h2 => ?_⟩
      by_cases hj : j = i
      · subst hj; exact h.1
      · exact h.2 j (by omega) h2
    rw [polygon_Check.l1, if_pos (by omega), if_pos (by omega), if_pos (by omega), if_neg (by omega), w64 (x := (i : Int) + 1) (by omega) (by omega), w64 (x := (i : Int) + 2) (by omega) (by omega), md_nx hlt, md_nx2 hlt (by omega), if_pos (by omega), if_pos (by omega), if_pos (by omega), if_pos (by omega), e1, e1, e1, ht, Option.bind_some, show ((i : Int) + 2) = ((i + 2 : Nat) : Int) by omega]
    by_cases c : Xp (Pt l i) (Pt l (nx l.length i)) (Pt l (nx2 l.length i)) = 0
    · rw [if_pos ((sg_zero _).2 c)]
      exact ⟨3, rfl, ⟨fun h => by omega, fun h => absurd c (hstep.1 h.1).1.1⟩⟩
    · rw [if_neg (fun h => c ((sg_zero _).1 h))]
      obtain ⟨e, he, hz⟩ := check_l2 l hl hok i hlt (C1 l (i + 1) ∧ 0 < dblS l l.length 0) (d * 22 + 20) (fun k hk => check_l1 l hl hl3 hok d k (i + 1) (by omega) hk) (l.length - (i + 2)) k (i + 2) (by omega) (by omega) rfl (by omega)
      exact ⟨e, he, by rw [hz, hstep]; exact ⟨fun h => ⟨⟨⟨c, h.1⟩, h.2.1⟩, h.2.2⟩, fun h => ⟨h.1.1.2, h.1.2, h.2⟩⟩⟩
theorem check_l0 (l : List S36) (hl : l.length ≤ 16) (hl3 : 3 ≤ l.length) :
    ∀ (d k i : Nat), i + d = l.length → d + 400 ≤ k → (∀ j, j < i → Okp (Pt l j)) → ∃ e, polygon_Check.l0 k l l (l.length : Int) (i : Int) = some e ∧ (e = 0 ↔ (∀ j, j < l.length → Okp (Pt l j)) ∧ C1 l 0 ∧ 0 < dblS l l.length 0)
  | 0, k, i, hi, hk, hj => by
    obtain ⟨k, rfl⟩ : ∃ q, k = q + 1 := ⟨k - 1, by omega⟩
    have hok : ∀ j, j < l.length → Okp (Pt l j) := fun j h => hj j (by omega)
    rw [polygon_Check.l0, if_neg (by omega)]
    obtain ⟨e, he, hz⟩ := check_l1 l hl hl3 hok l.length k 0 (by omega) (by omega)
    exact ⟨e, he, hz.trans ⟨fun h => ⟨hok, h⟩, fun h => h.2⟩⟩
  | d + 1, k, i, hi, hk, hj => by
    obtain ⟨k, rfl⟩ : ∃ q, k = q + 1 := ⟨k - 1, by omega⟩
    have hlt : i < l.length := by omega
    have e1 : ∀ j : Nat, rd_T36 l (j : Int) = Pt l j := fun _ => rfl
    rw [polygon_Check.l0, if_pos (by omega), if_pos (by omega), if_pos (by omega), e1, check_f, Option.bind_some]
    by_cases c : Ok (Pt l i).f0 (Pt l i).f1
    · rw [if_pos c, if_pos rfl, w64 (by omega) (by omega), show ((i : Int) + 1) = ((i + 1 : Nat) : Int) by omega]
      exact check_l0 l hl hl3 d k (i + 1) (by omega) (by omega) (fun j h => by
        by_cases g : j = i
        · subst g; exact c
        · exact hj j (by omega))
    · rw [if_neg c, if_neg (by decide)]
      exact ⟨4, rfl, ⟨fun h => by omega, fun h => absurd (h.1 i hlt) c⟩⟩
/-- A valid polygon. -/
def Valid (l : List S36) : Prop := (3 ≤ l.length ∧ l.length ≤ 16) ∧ (∀ j, j < l.length → Okp (Pt l j)) ∧ C1 l 0 ∧ 0 < dblS l l.length 0
theorem pcheck (l : List S36) : ∃ e, (∀ k, 420 ≤ k → polygon_Check.f k l = some e) ∧ (e = 0 ↔ Valid l) := by
  have main : ∃ e, polygon_Check.f 420 l = some e ∧ (e = 0 ↔ Valid l) := by
    unfold polygon_Check.f
    by_cases h1 : (l.length : Int) > 16
    · rw [if_pos h1]; exact ⟨2, rfl, ⟨fun h => by omega, fun h => by have := h.1.2; omega⟩⟩
    · rw [if_neg h1]
      by_cases h2 : (l.length : Int) < 3
      · rw [if_pos h2]; exact ⟨3, rfl, ⟨fun h => by omega, fun h => by have := h.1.1; omega⟩⟩
      · rw [if_neg h2]
        obtain ⟨e, he, hz⟩ := check_l0 l (by omega) (by omega) l.length 420 0 (by omega) (by omega) (fun j h => by omega)
        exact ⟨e, he, hz.trans ⟨fun h => ⟨⟨by omega, by omega⟩, h⟩, fun h => h.2⟩⟩
  obtain ⟨e, he, hz⟩ := main
  exact ⟨e, fun k hk => at_rounds (fun k => polygon_Check.mono l k) hk he, hz⟩
/-- A point on an edge. -/
def onE (l : List S36) (x y : Int) (i : Nat) : Bool := decide (X (Pt l (pv l.length i)).f0 (Pt l (pv l.length i)).f1 (Pt l i).f0 (Pt l i).f1 x y = 0) && decide (Dt (Pt l (pv l.length i)).f0 (Pt l (pv l.length i)).f1 (Pt l i).f0 (Pt l i).f1 x y ≤ 0)
/-- Whether the ray from a point crosses an edge. -/
def crossE (a b : S36) (x y : Int) : Bool := (decide (a.f1 ≤ y ∧ y < b.f1) && decide (X a.f0 a.f1 b.f0 b.f1 x y > 0)) || (decide (b.f1 ≤ y ∧ y < a.f1) && decide (X a.f0 a.f1 b.f0 b.f1 x y < 0))
def locS (l : List S36) (x y : Int) : Nat → Nat → Int → Int
  | 0, _, v => v
  | d + 1, i, v => if onE l x y i = true then 0 else locS l x y d (i + 1) (if crossE (Pt l (pv l.length i)) (Pt l i) x y = true then -v else v)
theorem sg_pos (x : Int) : sg x > 0 ↔ x > 0 := by unfold sg; (repeat' split) <;> omega
theorem sg_lt (x : Int) : sg x < 0 ↔ x < 0 := by unfold sg; (repeat' split) <;> omega
theorem loc_j1 (k : Nat) (l l' : List S36) (v t n i x y bx b_y ax ay : Int) (hv : wrap64 (-v) = -v) : polygon_locate.j1 (k + 1) l v t l' n i false x y bx b_y ax ay =
    if (decide (ay ≤ y ∧ y < b_y) && decide (t > 0)) || (decide (b_y ≤ y ∧ y < ay) && decide (t < 0)) then polygon_locate.l0 k l (-v) l' n (wrap64 (i + 1)) x y else polygon_locate.l0 k l v l' n (wrap64 (i + 1)) x y := by
  rw [polygon_locate.j1, if_neg (by decide), hv]
  by_cases c1 : ay ≤ y <;> by_cases c2 : y < b_y <;> by_cases c3 : t > 0 <;> by_cases c4 : b_y ≤ y <;> by_cases c5 : y < ay <;> by_cases c6 : t < 0 <;> simp [c1, c2, c3, c4, c5, c6] <;> omega
theorem locate_l (l : List S36) (hl : l.length ≤ 16) (hok : ∀ i, i < l.length → Okp (Pt l i)) {x y : Int} (hq : Ok x y) : ∀ (d k i : Nat) (v : Int), i + d = l.length → 2 * d < k → -1 ≤ v → v ≤ 1 →
    polygon_locate.l0 k l v l (l.length : Int) (i : Int) x y = some (locS l x y d i v)
  | 0, k, i, v, hi, hk, h1, h2 => by
    obtain ⟨k, rfl⟩ : ∃ m, k = m + 1 := ⟨k - 1, by omega⟩
    rw [polygon_locate.l0, if_neg (by omega), locS]
  | d + 1, k, i, v, hi, hk, h1, h2 => by
    obtain ⟨k, rfl⟩ : ∃ m, k = m + 2 := ⟨k - 2, by omega⟩
    have hlt : i < l.length := by omega
    have hn := pv_lt hlt
    have e1 : ∀ j : Nat, rd_T36 l (j : Int) = Pt l j := fun _ => rfl
    have ht := turn_ok (hok _ hn) (hok i hlt) hq
    have ho := on_f (hok _ hn) (hok i hlt) hq
    rw [polygon_locate.l0, if_pos (by omega), if_pos (by omega), if_pos (by omega), if_neg (by omega), w64 (x := (i : Int) + (l.length : Int)) (by omega) (by omega), w64 (x := (i : Int) + (l.length : Int) - 1) (by omega) (by omega), md_pv hlt, if_pos (by omega), if_pos (by omega), e1, e1, ht, Option.bind_some, locS]
    have step : ∀ b : Bool, (b = false) → polygon_locate.j1 (k + 1) l v (sg (X (Pt l (pv l.length i)).f0 (Pt l (pv l.length i)).f1 (Pt l i).f0 (Pt l i).f1 x y)) l (l.length : Int) (i : Int) b x y (Pt l i).f0 (Pt l i).f1 (Pt l (pv l.length i)).f0 (Pt l (pv l.length i)).f1 = some (locS l x y d (i + 1) (if crossE (Pt l (pv l.length i)) (Pt l i) x y = true then -v else v)) := by
      intro b hb
      subst hb
      have hc : ((decide ((Pt l (pv l.length i)).f1 ≤ y ∧ y < (Pt l i).f1) && decide (sg (X (Pt l (pv l.length i)).f0 (Pt l (pv l.length i)).f1 (Pt l i).f0 (Pt l i).f1 x y) > 0)) || (decide ((Pt l i).f1 ≤ y ∧ y < (Pt l (pv l.length i)).f1) && decide (sg (X (Pt l (pv l.length i)).f0 (Pt l (pv l.length i)).f1 (Pt l i).f0 (Pt l i).f1 x y) < 0))) = crossE (Pt l (pv l.length i)) (Pt l i) x y := by
        unfold crossE
        rw [decide_eq_decide.2 (sg_pos _), decide_eq_decide.2 (sg_lt _)]
      rw [loc_j1 _ _ _ _ _ _ _ _ _ _ _ _ _ (w64 (by omega) (by omega)), hc, w64 (x := (i : Int) + 1) (by omega) (by omega), show ((i : Int) + 1) = ((i + 1 : Nat) : Int) by omega]
      by_cases c : crossE (Pt l (pv l.length i)) (Pt l i) x y = true
      · rw [if_pos c, if_pos c, locate_l l hl hok hq d k (i + 1) (-v) (by omega) (by omega) (by omega) (by omega)]
      · rw [if_neg c, if_neg c, locate_l l hl hok hq d k (i + 1) v (by omega) (by omega) (by omega) (by omega)]
    by_cases c : X (Pt l (pv l.length i)).f0 (Pt l (pv l.length i)).f1 (Pt l i).f0 (Pt l i).f1 x y = 0
    · rw [if_pos ((sg_zero _).2 c), ho, Option.bind_some]
      by_cases c2 : Dt (Pt l (pv l.length i)).f0 (Pt l (pv l.length i)).f1 (Pt l i).f0 (Pt l i).f1 x y ≤ 0
      · have hE : onE l x y i = true := by unfold onE; rw [decide_eq_true c, decide_eq_true c2]; rfl
        rw [if_pos hE, decide_eq_true c2, polygon_locate.j1, if_pos rfl]
      · have hE : ¬ onE l x y i = true := by unfold onE; rw [decide_eq_false c2]; simp
        rw [if_neg hE]
        exact step _ (decide_eq_false c2)
    · have hE : ¬ onE l x y i = true := by unfold onE; rw [decide_eq_false c]; simp
      rw [if_neg hE, if_neg (fun h => c ((sg_zero _).1 h))]
      exact step _ rfl
def loc (l : List S36) (x y : Int) : Int := locS l x y l.length 0 (-1)
theorem locate_f (l : List S36) (hl : l.length ≤ 16) (hok : ∀ i, i < l.length → Okp (Pt l i)) {x y : Int} (hq : Ok x y) (k : Nat) (hk : 40 ≤ k) : polygon_locate.f k l x y = some (loc l x y) := by
  unfold polygon_locate.f loc
  exact locate_l l hl hok hq l.length k 0 (-1) (by omega) (by omega) (by omega) (by omega)
theorem locS_on (l : List S36) (x y : Int) : ∀ (d i j : Nat) (v : Int), i ≤ j → j < i + d → onE l x y j = true → locS l x y d i v = 0
  | 0, i, j, v, h1, h2, h => by omega
  | d + 1, i, j, v, h1, h2, h => by
    rw [locS]
    by_cases c : onE l x y i = true
    · rw [if_pos c]
    · rw [if_neg c]
      have : i ≠ j := fun e => c (e ▸ h)
      exact locS_on l x y d (i + 1) j _ (by omega) (by omega) h
theorem loc_on (l : List S36) {x y : Int} {j : Nat} (hj : j < l.length) (h : onE l x y j = true) : loc l x y = 0 := locS_on l x y l.length 0 j (-1) (by omega) (by omega) h
abbrev Sp := S140
def spOk (x : Sp) : Prop := 0 ≤ x.f0 ∧ x.f1 ≤ 200000 ∧ x.f0 < x.f1
instance (x : Sp) : Decidable (spOk x) := inferInstanceAs (Decidable (_ ∧ _ ∧ _))
def LOk (l : List Sp) : Prop := l.length ≤ 256 ∧ ∀ x ∈ l, spOk x
theorem rdS {l : List Sp} {i : Nat} (h : i < l.length) : rd_T140 l (i : Int) = l[i] := by
  unfold rd_T140
  rw [Int.toNat_natCast, List.getD_eq_getElem?_getD, List.getElem?_eq_getElem h]
  rfl
theorem chk_l (l : List Sp) (hl : l.length ≤ 256) : ∀ (d k i : Nat), i + d = l.length → d < k →
    ∃ e, volume_CheckSpans.l0 k l (l.length : Int) (i : Int) = some e ∧ (e = 0 ↔ ∀ x ∈ l.drop i, spOk x)
  | 0, k, i, hi, hk => by
    obtain ⟨k, rfl⟩ : ∃ m, k = m + 1 := ⟨k - 1, by omega⟩
    refine ⟨0, by rw [volume_CheckSpans.l0, if_neg (by omega)], fun _ => ?_, fun _ => rfl⟩
    rw [List.drop_of_length_le (by omega)]
    intro x hx; cases hx
  | d + 1, k, i, hi, hk => by
    obtain ⟨k, rfl⟩ : ∃ m, k = m + 1 := ⟨k - 1, by omega⟩
    have hlt : i < l.length := by omega
    obtain ⟨e, he, hz⟩ := chk_l l hl d k (i + 1) (by omega) (by omega)
    rw [volume_CheckSpans.l0, if_pos (by omega), if_pos (by omega), if_pos (by omega), rdS hlt, List.drop_eq_getElem_cons hlt]
    have no : ¬ spOk l[i] → ((12 : Int) = 0 ↔ ∀ x ∈ l[i] :: l.drop (i + 1), spOk x) := fun h => ⟨fun h2 => by omega, fun h2 => absurd (h2 _ List.mem_cons_self) h⟩
    by_cases c1 : l[i].f0 < 0
    · rw [if_pos c1]
      exact ⟨12, rfl, no (fun h => by have := h.1; omega)⟩
    rw [if_neg c1]
    by_cases c2 : l[i].f1 > 200000
    · rw [if_pos c2]
      exact ⟨12, rfl, no (fun h => by have := h.2.1; omega)⟩
    rw [if_neg c2]
    by_cases c3 : l[i].f0 ≥ l[i].f1
    · rw [if_pos c3]
      exact ⟨12, rfl, no (fun h => by have := h.2.2; omega)⟩
    rw [if_neg c3, w64 (x := (i : Int) + 1) (by omega) (by omega), show ((i : Int) + 1) = ((i + 1 : Nat) : Int) by omega]
    refine ⟨e, he, hz.trans ⟨fun h x hx => ?_, fun h x hx => h x (List.mem_cons_of_mem _ hx)⟩⟩
    rcases List.mem_cons.1 hx with rfl | hx
    · exact ⟨by omega, by omega, by omega⟩
    · exact h x hx
theorem chk (l : List Sp) (k : Nat) (hk : 300 ≤ k) : ∃ e, volume_CheckSpans.f k l = some e ∧ (e = 0 ↔ LOk l) := by
  unfold volume_CheckSpans.f
  by_cases c : (l.length : Int) > 256
  · rw [if_pos c]
    exact ⟨2, rfl, fun h => by omega, fun h => by have := h.1; omega⟩
  · rw [if_neg c]
    obtain ⟨e, he, hz⟩ := chk_l l (by omega) l.length k 0 (by omega) (by omega)
    rw [List.drop_zero] at hz
    exact ⟨e, he, fun h => ⟨by omega, hz.1 h⟩, fun h => hz.2 h.2⟩
/-- Node i of a path. -/
def Nd (l : List S71) (i : Nat) : S71 := rd_T71 l (i : Int)
def NodeOk (l : List S71) (j : Nat) : Prop :=
  0 ≤ (Nd l j).f0 ∧ (Nd l j).f0 ≤ 200000 ∧ (0 < j → (Nd l (j - 1)).f0 < (Nd l j).f0) ∧ Ok (Nd l j).f1.f0 (Nd l j).f1.f1 ∧ 0 ≤ (Nd l j).f2 ∧ (Nd l j).f2 ≤ 60000
theorem fcheck_l (l : List S71) (hl : l.length ≤ 64) : ∀ (d k i : Nat), i + d = l.length → 2 * d + 1 ≤ k →
    ∃ e, fly_Check.l0 k l l (l.length : Int) (i : Int) = some e ∧ (e = 0 ↔ ∀ j, i ≤ j → j < l.length → NodeOk l j)
  | 0, k, i, hi, hk => by
    obtain ⟨k, rfl⟩ : ∃ m, k = m + 1 := ⟨k - 1, by omega⟩
    rw [fly_Check.l0, if_neg (by omega)]
    exact ⟨0, rfl, ⟨fun _ j h1 h2 => by omega, fun _ => rfl⟩⟩
  | d + 1, k, i, hi, hk => by
    obtain ⟨k, rfl⟩ : ∃ m, k = m + 2 := ⟨k - 2, by omega⟩
    have hlt : i < l.length := by omega
    have hN : rd_T71 l (i : Int) = Nd l i := rfl
    obtain ⟨e', ih, ihz⟩ := fcheck_l l hl d k (i + 1) (by omega) (by omega)
    have bad : ∀ c : Int, c ≠ 0 → ¬ NodeOk l i → (c = 0 ↔ ∀ j, i ≤ j → j < l.length → NodeOk l j) := fun c hc hn => ⟨fun h => absurd h hc, fun h => absurd (h i (Nat.le_refl _) hlt) hn⟩
    have j1 : ∀ b : Bool, (b = false ↔ 0 ≤ (Nd l i).f0 ∧ (Nd l i).f0 ≤ 200000 ∧ (0 < i → (Nd l (i - 1)).f0 < (Nd l i).f0)) → ∃ e, fly_Check.j1 (k + 1) l l (l.length : Int) (i : Int) b (Nd l i).f0 (Nd l i).f1.f0 (Nd l i).f1.f1 (Nd l i).f2 = some e ∧ (e = 0 ↔ ∀ j, i ≤ j → j < l.length → NodeOk l j) := by
      intro b hb
      rw [fly_Check.j1]
      cases b with
      | true => rw [if_pos rfl]; exact ⟨12, rfl, bad _ (by decide) (fun h => absurd (hb.2 ⟨h.1, h.2.1, h.2.2.1⟩) (by decide))⟩
      | false =>
        obtain ⟨b1, b2, b3⟩ := hb.1 rfl
        rw [if_neg (by decide), check_f, Option.bind_some]
        by_cases hp : Ok (Nd l i).f1.f0 (Nd l i).f1.f1
        · rw [if_pos hp, if_pos rfl]
          by_cases h1 : (Nd l i).f2 < 0
          · rw [if_pos h1]; exact ⟨4, rfl, bad _ (by decide) (fun h => by have := h.2.2.2.2.1; omega)⟩
          · rw [if_neg h1]
            by_cases h2 : (Nd l i).f2 > 60000
            · rw [if_pos h2]; exact ⟨4, rfl, bad _ (by decide) (fun h => by have := h.2.2.2.2.2; omega)⟩
            · rw [if_neg h2, w64 (by omega) (by omega), show ((i : Int) + 1) = ((i + 1 : Nat) : Int) by omega, ih]
              refine ⟨e', rfl, ihz.trans ⟨fun h j g1 g2 => ?_, fun h j g1 g2 => h j (by omega) g2⟩⟩
              by_cases hij : j = i
              · rw [hij]; exact ⟨b1, b2, b3, hp, by omega, by omega⟩
              · exact h j (by omega) g2
        · rw [if_neg hp, if_neg (by decide)]; exact ⟨4, rfl, bad _ (by decide) (fun h => hp h.2.2.2.1)⟩
    rw [fly_Check.l0, if_pos (by omega), if_pos (by omega), if_pos (by omega), hN]
    by_cases h1 : (Nd l i).f0 < 0
    · rw [if_pos h1]; exact j1 true ⟨fun h => (by cases h), fun h => by omega⟩
    · rw [if_neg h1]
      by_cases h2 : (Nd l i).f0 > 200000
      · rw [if_pos h2]; exact j1 true ⟨fun h => (by cases h), fun h => by omega⟩
      · rw [if_neg h2]
        by_cases h3 : (i : Int) > 0
        · rw [if_pos h3, w64 (by omega) (by omega), if_pos (by omega), if_pos (by omega), show ((i : Int) - 1) = ((i - 1 : Nat) : Int) by omega]
          have hN' : rd_T71 l ((i - 1 : Nat) : Int) = Nd l (i - 1) := rfl
          rw [hN']
          refine j1 _ ⟨fun h => ⟨by omega, by omega, fun _ => ?_⟩, fun h => decide_eq_false ?_⟩
          · have := of_decide_eq_false h
            omega
          · have := h.2.2 (by omega)
            omega
        · rw [if_neg h3]
          exact j1 false ⟨fun _ => ⟨by omega, by omega, fun h => by omega⟩, fun _ => rfl⟩
/-- A valid path. -/
def PathOk (l : List S71) : Prop := 0 < l.length ∧ l.length ≤ 64 ∧ ∀ j, j < l.length → NodeOk l j
theorem fcheck_iff (l : List S71) (k : Nat) (hk : 130 ≤ k) : ∃ e, fly_Check.f k l = some e ∧ (e = 0 ↔ PathOk l) := by
  unfold fly_Check.f
  by_cases h1 : (l.length : Int) > 64
  · rw [if_pos h1]; exact ⟨2, rfl, ⟨fun h => by omega, fun h => by have := h.2.1; omega⟩⟩
  · rw [if_neg h1]
    by_cases h2 : (l.length : Int) = 0
    · rw [if_pos h2]; exact ⟨3, rfl, ⟨fun h => by omega, fun h => by have := h.1; omega⟩⟩
    · rw [if_neg h2]
      obtain ⟨e, he, hz⟩ := fcheck_l l (by omega) l.length k 0 (by omega) (by omega)
      exact ⟨e, he, hz.trans ⟨fun h => ⟨by omega, by omega, fun j hj => h j (by omega) hj⟩, fun h j _ hj => h.2.2 j hj⟩⟩
theorem fcheck (l : List S71) (k : Nat) (hk : 130 ≤ k) : ∃ e, fly_Check.f k l = some e ∧ (e = 0 → PathOk l) := by
  obtain ⟨e, he, hz⟩ := fcheck_iff l k hk
  exact ⟨e, he, hz.1⟩
theorem times_lt {l : List S71} (h : PathOk l) : ∀ (d i : Nat), i + d + 1 < l.length → (Nd l i).f0 < (Nd l (i + d + 1)).f0
  | 0, i, hd => by have := (h.2.2 (i + 1) hd).2.2.1 (by omega); exact this
  | d + 1, i, hd => by
    have h1 := times_lt h d i (by omega)
    have h2 := (h.2.2 (i + d + 2) (by omega)).2.2.1 (by omega)
    have e : i + d + 2 - 1 = i + d + 1 := by omega
    rw [e] at h2
    have e2 : i + (d + 1) + 1 = i + d + 2 := by omega
    rw [e2]
    omega
theorem times_lt' {l : List S71} (h : PathOk l) {i j : Nat} (hij : i < j) (hj : j < l.length) : (Nd l i).f0 < (Nd l j).f0 := by
  have := times_lt h (j - i - 1) i (by omega)
  have e : i + (j - i - 1) + 1 = j := by omega
  rw [e] at this
  exact this
/-- The loop of Point. -/
theorem point_l {l : List S71} (h : PathOk l) (t : Int) : ∀ (d k i : Nat), i + d + 1 = l.length → d + 1 ≤ k → (Nd l i).f0 ≤ t →
    ∃ j m, i ≤ j ∧ j < l.length ∧ (Nd l j).f0 ≤ t ∧ (j + 1 < l.length → t < (Nd l (j + 1)).f0) ∧ k ≤ m + d + 1 ∧ fly_Point.l0 k l t (i : Int) = fly_Point.j1 m l t (j : Int)
  | 0, k, i, hi, hk, ht => by
    obtain ⟨k, rfl⟩ : ∃ m, k = m + 1 := ⟨k - 1, by omega⟩
    have hl := h.2.1
    rw [fly_Point.l0, w64 (by omega) (by omega), if_neg (by omega)]
    exact ⟨i, k, by omega, by omega, ht, fun _ => by omega, by omega, rfl⟩
  | d + 1, k, i, hi, hk, ht => by
    obtain ⟨k, rfl⟩ : ∃ m, k = m + 1 := ⟨k - 1, by omega⟩
    have hl := h.2.1
    rw [fly_Point.l0, w64 (by omega) (by omega), if_pos (by omega), if_pos (by omega), show ((i : Int) + 1) = ((i + 1 : Nat) : Int) by omega]
    have hN : rd_T71 l ((i + 1 : Nat) : Int) = Nd l (i + 1) := rfl
    rw [hN]
    by_cases c : (Nd l (i + 1)).f0 ≤ t
    · rw [if_pos c]
      obtain ⟨j, m, h1, h2, h3, h4, h5, h6⟩ := point_l h t d k (i + 1) (by omega) (by omega) c
      exact ⟨j, m, by omega, h2, h3, h4, by omega, h6⟩
    · rw [if_neg c]
      exact ⟨i, k, by omega, by omega, ht, fun _ => by omega, by omega, rfl⟩
/-- What At answers for a valid path at one of its times. -/
theorem fly_at {l : List S71} (h : PathOk l) {t : Int} (k : Nat) (hk : 200 ≤ k) (h0 : (Nd l 0).f0 ≤ t) (h1 : t ≤ (Nd l (l.length - 1)).f0) :
    (∃ j, j < l.length ∧ (Nd l j).f0 = t ∧ fly_Point.f k l t = some ((Nd l j).f0, (Nd l j).f1.f0, (Nd l j).f1.f1, (Nd l j).f2)) ∨
    ∃ j, j + 1 < l.length ∧ (Nd l j).f0 < t ∧ t < (Nd l (j + 1)).f0 ∧ fly_Point.f k l t = some (t,
      (Nd l j).f1.f0 + ((Nd l (j + 1)).f1.f0 - (Nd l j).f1.f0) * (t - (Nd l j).f0) / ((Nd l (j + 1)).f0 - (Nd l j).f0),
      (Nd l j).f1.f1 + ((Nd l (j + 1)).f1.f1 - (Nd l j).f1.f1) * (t - (Nd l j).f0) / ((Nd l (j + 1)).f0 - (Nd l j).f0),
      (Nd l j).f2 + ((Nd l (j + 1)).f2 - (Nd l j).f2) * (t - (Nd l j).f0) / ((Nd l (j + 1)).f0 - (Nd l j).f0)) := by
  obtain ⟨hl0, hl, hn⟩ := id h
  obtain ⟨j, m, _, hj, g1, g2, hm, e⟩ := point_l h t (l.length - 1) k 0 (by omega) (by omega) h0
  obtain ⟨m, rfl⟩ : ∃ q, m = q + 4 := ⟨m - 4, by omega⟩
  have hN : rd_T71 l (j : Int) = Nd l j := rfl
  have e0 : fly_Point.f k l t = fly_Point.j1 (m + 4) l t (j : Int) := e
  rw [e0, fly_Point.j1, if_pos (by omega), if_pos (by omega), hN]
  by_cases c : (Nd l j).f0 = t
  · left
    rw [if_pos c, fly_Point.j2, if_pos rfl]
    exact ⟨j, hj, c, rfl⟩
  · right
    have hj1 : j + 1 < l.length := by
      rcases Nat.lt_or_ge (j + 1) l.length with g | g
      · exact g
      · have : l.length - 1 = j := by omega
        rw [this] at h1
        omega
    have hb : (wrap64 ((j : Int) + 1) == (l.length : Int)) = false := by
      rw [w64 (by omega) (by omega)]
      exact beq_eq_false_iff_ne.mpr (by omega)
    obtain ⟨a1, a2, a3, a4, a5, a6⟩ := hn j hj
    obtain ⟨b1, b2, b3, b4, b5, b6⟩ := hn (j + 1) hj1
    have g3 := g2 hj1
    have hN' : rd_T71 l ((j + 1 : Nat) : Int) = Nd l (j + 1) := rfl
    rw [if_neg c, hb, fly_Point.j2, if_neg (by decide), w64 (x := (j : Int) + 1) (by omega) (by omega), if_pos (by omega), if_pos (by omega), show ((j : Int) + 1) = ((j + 1 : Nat) : Int) by omega, hN',
      w64 (x := t - (Nd l j).f0) (by omega) (by omega), w64 (x := (Nd l (j + 1)).f0 - (Nd l j).f0) (by omega) (by omega), toward m (by omega) (by omega) (by omega) (by omega) a4 b4, Option.bind_some]
    obtain ⟨m1, m2, m3, m4⟩ := lin_bd (D := (Nd l (j + 1)).f2 - (Nd l j).f2) (n := t - (Nd l j).f0) (d := (Nd l (j + 1)).f0 - (Nd l j).f0) (by omega) (by omega) (by omega) (by omega) (by omega) (by omega)
    rw [w64 (x := (Nd l (j + 1)).f2 - (Nd l j).f2) (by omega) (by omega), w64 (x := ((Nd l (j + 1)).f2 - (Nd l j).f2) * (t - (Nd l j).f0)) (by omega) (by omega), down_pos (m + 1) _ _ (by omega) (by omega) (by omega), Option.bind_some, w64 (by omega) (by omega)]
    exact ⟨j, hj1, by omega, g3, rfl⟩
theorem name_l0 (s : ByteArray) : ∀ (d i : Nat), i + d = s.size → s.size ≤ 8 → ∃ b, chart_Name.l0 (d + 1) s (s.size : Int) (i : Int) = some b
  | 0, i, h, _ => ⟨true, by rw [chart_Name.l0, if_neg (by omega)]⟩
  | d + 1, i, h, h8 => by
    obtain ⟨b, hb⟩ := name_l0 s d (i + 1) (by omega) h8
    have hw : wrap64 ((i : Int) + 1) = ((i + 1 : Nat) : Int) := by rw [w64 (by omega) (by omega)]; omega
    rw [chart_Name.l0, if_pos (by omega), if_pos (by omega), if_pos (by omega), hw, hb]
    (repeat' split) <;> exact ⟨_, rfl⟩
theorem name_some (s : ByteArray) : ∃ b, ∀ k, 10 ≤ k → chart_Name.f k s = some b := by
  have key : ∃ b, chart_Name.f 10 s = some b := by
    unfold chart_Name.f
    by_cases h0 : (s.size : Int) = 0
    · rw [if_pos h0, chart_Name.j0, if_pos rfl]; exact ⟨_, rfl⟩
    · rw [if_neg h0]
      by_cases h8 : (s.size : Int) > 8
      · rw [if_pos h8, chart_Name.j0, if_pos rfl]; exact ⟨_, rfl⟩
      · rw [if_neg h8, if_pos (by omega)]
        obtain ⟨b, hb⟩ := name_l0 s s.size 0 (by omega) (by omega)
        have hb9 : chart_Name.l0 9 s (s.size : Int) 0 = some b := at_rounds (g := fun k => chart_Name.l0 k s (s.size : Int) 0) (fun k => (chart_Name.mono_l k).2 _ _ _) (show s.size + 1 ≤ 9 by omega) hb
        rw [chart_Name.j0, chart_Name.j0, hb9]
        (repeat' split) <;> exact ⟨_, rfl⟩
  obtain ⟨b, hb⟩ := key
  exact ⟨b, fun k hk => at_rounds (chart_Name.mono s) hk hb⟩
theorem flyWorks (k : Nat) (hk : 60 ≤ k) : skywaykeep1_flyWorks.f k = some true := by
  have h : skywaykeep1_flyWorks.f 60 = some true := by decide +kernel
  exact at_rounds skywaykeep1_flyWorks.mono hk h
theorem lin_mid {D n d : Int} (h0 : 0 < d) (h2 : 0 ≤ n) (h3 : n ≤ d) : (0 ≤ D → 0 ≤ D * n / d ∧ D * n / d ≤ D) ∧ (D ≤ 0 → D ≤ D * n / d ∧ D * n / d ≤ 0) := by
  refine ⟨fun h => ⟨Int.ediv_nonneg (Int.mul_nonneg h h2) (by omega), ?_⟩, fun h => ⟨?_, ?_⟩⟩
  · have : D * n / d < D + 1 := by
      refine (Int.ediv_lt_iff_lt_mul h0).2 ?_
      have := Int.mul_le_mul_of_nonneg_left h3 h
      rw [Int.add_mul]
      omega
    omega
  · refine (Int.le_ediv_iff_mul_le h0).2 ?_
    have := Int.mul_le_mul_of_nonneg_left h3 (show 0 ≤ -D by omega)
    simp only [Int.neg_mul] at this
    omega
  · have : D * n / d < 1 := by
      refine (Int.ediv_lt_iff_lt_mul h0).2 ?_
      have := Int.mul_nonneg (show 0 ≤ -D by omega) h2
      simp only [Int.neg_mul] at this
      omega
    omega
abbrev RV := S65
abbrev Nn := S71
theorem pt_at {l : List Nn} (h : PathOk l) {s : Int} (h0 : (Nd l 0).f0 ≤ s) (h1 : s ≤ (Nd l (l.length - 1)).f0) :
    ∃ v, fly_Point.f 200 l s = some v ∧ Ok v.2.1 v.2.2.1 ∧ 0 ≤ v.2.2.2 ∧ v.2.2.2 ≤ 60000 := by
  rcases fly_at h 200 (Nat.le_refl _) h0 h1 with ⟨j, hj, _, e⟩ | ⟨j, hj, g1, g2, e⟩
  · obtain ⟨_, _, _, a4, a5, a6⟩ := h.2.2 j hj
    exact ⟨_, e, a4, a5, a6⟩
  · obtain ⟨_, _, _, ⟨a1, a2, a3, a4⟩, a5, a6⟩ := h.2.2 j (by omega)
    obtain ⟨_, _, _, ⟨b1, b2, b3, b4⟩, b5, b6⟩ := h.2.2 (j + 1) hj
    have m1 := lin_mid (D := (Nd l (j + 1)).f1.f0 - (Nd l j).f1.f0) (n := s - (Nd l j).f0) (d := (Nd l (j + 1)).f0 - (Nd l j).f0) (by omega) (by omega) (by omega)
    have m2 := lin_mid (D := (Nd l (j + 1)).f1.f1 - (Nd l j).f1.f1) (n := s - (Nd l j).f0) (d := (Nd l (j + 1)).f0 - (Nd l j).f0) (by omega) (by omega) (by omega)
    have m3 := lin_mid (D := (Nd l (j + 1)).f2 - (Nd l j).f2) (n := s - (Nd l j).f0) (d := (Nd l (j + 1)).f0 - (Nd l j).f0) (by omega) (by omega) (by omega)
    refine ⟨_, e, ⟨?_, ?_, ?_, ?_⟩, ?_, ?_⟩ <;> dsimp only <;> omega
def pt (l : List Nn) (s : Int) : Int × Int × Int × Int := (fly_Point.f 200 l s).getD (0, 0, 0, 0)
def InR (l : List Nn) (s : Int) : Prop := (Nd l 0).f0 ≤ s ∧ s ≤ (Nd l (l.length - 1)).f0
instance (l : List Nn) (s : Int) : Decidable (InR l s) := inferInstanceAs (Decidable (_ ∧ _))
theorem pt_f {l : List Nn} (h : PathOk l) {s : Int} (hs : InR l s) (k : Nat) (hk : 200 ≤ k) : fly_Point.f k l s = some (pt l s) ∧ Ok (pt l s).2.1 (pt l s).2.2.1 ∧ 0 ≤ (pt l s).2.2.2 ∧ (pt l s).2.2.2 ≤ 60000 := by
  obtain ⟨v, e, h1⟩ := pt_at h hs.1 hs.2
  have : pt l s = v := by unfold pt; rw [e]; rfl
  rw [this]
  exact ⟨at_rounds (g := fun k => fly_Point.f k l s) (fun k => fly_Point.mono l s k) hk e, h1⟩
theorem at_f {l : List Nn} (h : PathOk l) (s : Int) (k : Nat) (hk : 200 ≤ k) : fly_At.f k l s = some (if InR l s then ((pt l s).1, (pt l s).2.1, (pt l s).2.2.1, (pt l s).2.2.2, 0) else (0, 0, 0, 0, 12)) := by
  obtain ⟨e, he, hz⟩ := fcheck_iff l k (by omega)
  obtain rfl := hz.2 h
  have h0 := h.1
  have h64 := h.2.1
  have e0 : rd_T71 l 0 = Nd l 0 := rfl
  have e1 : rd_T71 l ((l.length : Int) - 1) = Nd l (l.length - 1) := by rw [show ((l.length : Int) - 1) = ((l.length - 1 : Nat) : Int) by omega]; rfl
  unfold fly_At.f
  rw [he, Option.bind_some, if_pos rfl, if_pos (by omega), w64 (x := (l.length : Int) - 1) (by omega) (by omega), e0, e1]
  by_cases c1 : s < (Nd l 0).f0
  · rw [if_pos c1, if_neg (fun g => by have := g.1; omega)]
  rw [if_neg c1, if_pos (by omega), if_pos (by omega)]
  by_cases c2 : s > (Nd l (l.length - 1)).f0
  · rw [if_pos c2, if_neg (fun g => by have := g.2; omega)]
  · have hi : InR l s := ⟨by omega, by omega⟩
    rw [if_neg c2, if_pos hi, (pt_f h hi k hk).1]
    rfl
def volOk (v : RV) : Prop := (Valid v.f1.f0 ∧ 0 ≤ v.f1.f1 ∧ v.f1.f2 ≤ 60001 ∧ v.f1.f1 < v.f1.f2) ∧ LOk v.f2
theorem vcheck (l : List S36) (lo hi : Int) (k : Nat) (hk : 420 ≤ k) : ∃ e, volume_Check.f k l lo hi = some e ∧ (e = 0 ↔ Valid l ∧ 0 ≤ lo ∧ hi ≤ 60001 ∧ lo < hi) := by
  obtain ⟨e, he, hz⟩ := pcheck l
  unfold volume_Check.f
  rw [he k hk, Option.bind_some]
  by_cases h0 : e = 0
  · rw [if_pos h0]
    by_cases c1 : lo < 0
    · rw [if_pos c1]; exact ⟨4, rfl, fun h => by omega, fun ⟨_, _, _, _⟩ => by omega⟩
    rw [if_neg c1]
    by_cases c2 : hi > 60001
    · rw [if_pos c2]; exact ⟨4, rfl, fun h => by omega, fun ⟨_, _, _, _⟩ => by omega⟩
    rw [if_neg c2]
    by_cases c3 : lo ≥ hi
    · rw [if_pos c3]; exact ⟨4, rfl, fun h => by omega, fun ⟨_, _, _, _⟩ => by omega⟩
    rw [if_neg c3]
    exact ⟨0, rfl, fun _ => ⟨hz.1 h0, by omega, by omega, by omega⟩, fun _ => rfl⟩
  · rw [if_neg h0]; exact ⟨e, rfl, fun h => absurd h h0, fun h => absurd (hz.2 h.1) h0⟩
theorem loc_yes {l : List S36} (h : Valid l) {x y : Int} (hq : Ok x y) (k : Nat) (hk : 420 ≤ k) : polygon_Locate.f k l x y = some (loc l x y, 0) := by
  obtain ⟨e, he, hz⟩ := pcheck l
  unfold polygon_Locate.f
  rw [he k hk, hz.2 h, Option.bind_some, if_pos rfl, check_f, Option.bind_some, if_pos hq, if_pos rfl, locate_f l h.1.2 h.2.1 hq k (by omega), Option.bind_some]
/-- Whether a point is in a volume, at a second when it is closed. -/
def hitB (v : RV) (x y h s : Int) : Bool := (decide (v.f1.f1 ≤ h) && decide (h < v.f1.f2)) && (v.f2.any (volume_During_1.p s) && decide (0 ≤ loc v.f1.f0 x y))
theorem has_in {v : RV} (hv : volOk v) {x y h : Int} (hq : Ok x y) (h0 : 0 ≤ h) (h1 : h ≤ 60000) (k : Nat) (hk : 420 ≤ k) :
    volume_Has.f k v.f1.f0 v.f1.f1 v.f1.f2 x y h = some ((decide (v.f1.f1 ≤ h) && decide (h < v.f1.f2)) && decide (0 ≤ loc v.f1.f0 x y), 0) := by
  obtain ⟨e, he, hz⟩ := vcheck v.f1.f0 v.f1.f1 v.f1.f2 k hk
  obtain rfl := hz.2 hv.1
  unfold volume_Has.f
  rw [he, Option.bind_some, if_pos rfl, check_f, Option.bind_some, if_pos hq, if_pos rfl, if_neg (by omega), if_neg (by omega), loc_yes hv.1.1 hq k hk, Option.bind_some]
  dsimp only
  by_cases c1 : 0 ≤ loc v.f1.f0 x y
  · rw [if_pos c1, decide_eq_true c1, Bool.and_true]
    by_cases c2 : h ≥ v.f1.f1
    · rw [if_pos c2, decide_eq_true (show v.f1.f1 ≤ h from c2), Bool.true_and]
    · rw [if_neg c2, decide_eq_false (show ¬ v.f1.f1 ≤ h from c2), Bool.false_and]
  · rw [if_neg c1, decide_eq_false c1, Bool.and_false]
theorem in_f {l : List Nn} (h : PathOk l) {v : RV} (hv : volOk v) (t : Int) (k : Nat) (hk : 500 ≤ k) :
    skywaykeep1_FlyClosed_1.f k l v t = some (decide (InR l t) && hitB v (pt l t).2.1 (pt l t).2.2.1 (pt l t).2.2.2 t) := by
  obtain ⟨e, he, hz⟩ := chk v.f2 k (by omega)
  obtain rfl := hz.2 hv.2
  have hd : volume_During.f k v.f2 t = some (v.f2.any (volume_During_1.p t), 0) := by
    unfold volume_During.f api_Span_81.f
    rw [he, Option.bind_some, if_pos rfl, Option.bind_some]
  unfold skywaykeep1_FlyClosed_1.f
  rw [at_f h t k (by omega), Option.bind_some]
  by_cases c : InR l t
  · obtain ⟨_, p1, p2, p3⟩ := pt_f h c 200 (Nat.le_refl _)
    rw [if_pos c]
    dsimp only
    rw [has_in hv p1 p2 p3 k (by omega), Option.bind_some, hd, Option.bind_some, decide_eq_true c]
    unfold hitB
    generalize decide (v.f1.f1 ≤ (pt l t).2.2.2) = a
    generalize decide ((pt l t).2.2.2 < v.f1.f2) = b
    generalize v.f2.any _ = q
    generalize decide (0 ≤ loc _ _ _) = z
    revert a b q z
    decide
  · rw [if_neg c]
    dsimp only
    rw [has_in hv (x := 0) (y := 0) (h := 0) (by decide) (by decide) (by decide) k (by omega), Option.bind_some, hd, Option.bind_some, decide_eq_false c]
    rfl
theorem closed_l (s : Int) (sp : List Sp) (hl : sp.length ≤ 256) : ∀ (d k i : Nat), i + d = sp.length → d < k → fly_closed.l0 k s sp (sp.length : Int) (i : Int) = some ((sp.drop i).any (volume_During_1.p s))
  | 0, k, i, hi, hk => by
    obtain ⟨k, rfl⟩ : ∃ m, k = m + 1 := ⟨k - 1, by omega⟩
    rw [fly_closed.l0, if_neg (by omega), List.drop_of_length_le (by omega)]
    rfl
  | d + 1, k, i, hi, hk => by
    obtain ⟨k, rfl⟩ : ∃ m, k = m + 1 := ⟨k - 1, by omega⟩
    have hlt : i < sp.length := by omega
    rw [fly_closed.l0, if_pos (by omega), if_pos (by omega), if_pos (by omega), rdS hlt, List.drop_eq_getElem_cons hlt, List.any_cons, w64 (x := (i : Int) + 1) (by omega) (by omega), show ((i : Int) + 1) = ((i + 1 : Nat) : Int) by omega, closed_l s sp hl d k (i + 1) (by omega) (by omega)]
    generalize (sp.drop (i + 1)).any (volume_During_1.p s) = z
    unfold volume_During_1.p
    by_cases c1 : s ≥ sp[i].f0
    · rw [if_pos c1, decide_eq_true c1, Bool.true_and]
      by_cases c2 : s < sp[i].f1
      · rw [if_pos c2, decide_eq_true c2, Bool.true_or]
      · rw [if_neg c2, decide_eq_false c2, Bool.false_or]
    · rw [if_neg c1, decide_eq_false c1, Bool.false_and, Bool.false_or]
theorem rdV {v : List RV} {i : Nat} (h : i < v.length) : rd_T65 v (i : Int) = v[i] := by
  unfold rd_T65
  rw [Int.toNat_natCast, List.getD_eq_getElem?_getD, List.getElem?_eq_getElem h]
  rfl
def hitP (l : List Nn) (s : Int) (x : RV) : Bool := hitB x (pt l s).2.1 (pt l s).2.2.1 (pt l s).2.2.2 s
theorem l1_f {l : List Nn} {v : List RV} (hv : ∀ x ∈ v, volOk x) (h16 : v.length ≤ 16) {s : Int} (h200 : 0 ≤ s ∧ s ≤ 200000) (hq : Ok (pt l s).2.1 (pt l s).2.2.1) (K : Nat) (hK : 500 ≤ K) : ∀ (d i : Nat), i + d = v.length →
    fly_Closed.l1 (K + 2 * d + 1) l v s v (v.length : Int) (i : Int) (pt l s).1 (pt l s).2.1 (pt l s).2.2.1 (pt l s).2.2.2 =
      ((v.drop i).find? (hitP l s)).elim (fly_Closed.l0 K l v (s + 1)) (fun x => some (x.f0, s, 0))
  | 0, i, hi => by
    rw [fly_Closed.l1, if_neg (by omega), List.drop_of_length_le (by omega), w64 (by omega) (by omega)]
    rfl
  | d + 1, i, hi => by
    have hlt : i < v.length := by omega
    have ih := l1_f hv h16 h200 hq K hK d (i + 1) (by omega)
    have ok := hv _ (List.getElem_mem hlt)
    have hc : fly_closed.f (K + 2 * d + 2) v[i].f0 v[i].f1.f0 v[i].f1.f1 v[i].f1.f2 v[i].f2 s = some (v[i].f2.any (volume_During_1.p s)) :=
      closed_l s v[i].f2 ok.2.1 v[i].f2.length (K + 2 * d + 2) 0 (by omega) (by have := ok.2.1; omega)
    have hw : wrap64 ((i : Int) + 1) = ((i + 1 : Nat) : Int) := by rw [w64 (by omega) (by omega)]; omega
    rw [show K + 2 * (d + 1) + 1 = (K + 2 * d + 2) + 1 by omega, fly_Closed.l1, if_pos (by omega), if_pos (by omega), if_pos (by omega), rdV hlt, List.drop_eq_getElem_cons hlt, hc]
    have no : ∀ b : Bool, b = true → hitP l s v[i] = false → fly_Closed.j2 (K + 2 * d + 2) l v s v (v.length : Int) (i : Int) b (pt l s).1 (pt l s).2.1 (pt l s).2.2.1 (pt l s).2.2.2 v[i].f0 v[i].f1.f0 v[i].f1.f1 v[i].f1.f2 v[i].f2 =
        ((v[i] :: v.drop (i + 1)).find? (hitP l s)).elim (fly_Closed.l0 K l v (s + 1)) (fun x => some (x.f0, s, 0)) := by
      rintro b rfl hf
      rw [fly_Closed.j2, if_pos rfl, hw, ih, List.find?_cons_of_neg (by rw [hf]; decide)]
    by_cases c1 : (pt l s).2.2.2 < v[i].f1.f1
    · rw [if_pos c1]
      exact no _ rfl (by unfold hitP hitB; rw [decide_eq_false (by omega)]; rfl)
    rw [if_neg c1]
    by_cases c2 : (pt l s).2.2.2 ≥ v[i].f1.f2
    · rw [if_pos c2]
      exact no _ rfl (by unfold hitP hitB; rw [decide_eq_false (show ¬ (pt l s).2.2.2 < v[i].f1.f2 by omega), Bool.and_false, Bool.false_and])
    rw [if_neg c2, Option.bind_some]
    cases c3 : v[i].f2.any (volume_During_1.p s) with
    | false => exact no _ rfl (by unfold hitP hitB; rw [c3, Bool.false_and, Bool.and_false])
    | true =>
      have hh : hitP l s v[i] = decide (0 ≤ loc v[i].f1.f0 (pt l s).2.1 (pt l s).2.2.1) := by
        unfold hitP hitB
        rw [c3, decide_eq_true (show v[i].f1.f1 ≤ (pt l s).2.2.2 by omega), decide_eq_true (show (pt l s).2.2.2 < v[i].f1.f2 by omega)]
        rfl
      rw [fly_Closed.j2, if_neg (by decide), loc_yes ok.1.1 hq _ (by omega), Option.bind_some]
      dsimp only
      by_cases c4 : loc v[i].f1.f0 (pt l s).2.1 (pt l s).2.2.1 ≥ 0
      · rw [if_pos c4, List.find?_cons_of_pos (by rw [hh]; exact decide_eq_true c4)]
        rfl
      · rw [if_neg c4, hw, ih, List.find?_cons_of_neg (by rw [hh, decide_eq_false c4]; decide)]
theorem l0_f {l : List Nn} {v : List RV} (hP : PathOk l) (hv : ∀ x ∈ v, volOk x) (h16 : v.length ≤ 16) : ∀ (D : Nat) (s : Int), (Nd l 0).f0 ≤ s → s + D = (Nd l (l.length - 1)).f0 + 1 → ∀ K, 500 ≤ K →
    ∃ r, fly_Closed.l0 (K + D * (2 * v.length + 2) + 1) l v s = some r ∧ (((∀ u, s ≤ u → u ≤ (Nd l (l.length - 1)).f0 → ∀ x ∈ v, hitP l u x = false) ∧ r = ((⟨#[]⟩ : ByteArray), 0, 8)) ∨
      ∃ u x a b, s ≤ u ∧ u ≤ (Nd l (l.length - 1)).f0 ∧ (∀ u', s ≤ u' → u' < u → ∀ y ∈ v, hitP l u' y = false) ∧ v = a ++ x :: b ∧ (∀ y ∈ a, hitP l u y = false) ∧ hitP l u x = true ∧ r = (x.f0, u, 0))
  | 0, s, h1, h2, K, hK => by
    have h0 := hP.1
    have h64 := hP.2.1
    have e1 : rd_T71 l ((l.length : Int) - 1) = Nd l (l.length - 1) := by rw [show ((l.length : Int) - 1) = ((l.length - 1 : Nat) : Int) by omega]; rfl
    rw [fly_Closed.l0, w64 (x := (l.length : Int) - 1) (by omega) (by omega), if_pos (by omega), if_pos (by omega), e1, if_neg (by omega)]
    exact ⟨_, rfl, .inl ⟨fun u g1 g2 => by omega, rfl⟩⟩
  | D + 1, s, h1, h2, K, hK => by
    have h0 := hP.1
    have h64 := hP.2.1
    have e1 : rd_T71 l ((l.length : Int) - 1) = Nd l (l.length - 1) := by rw [show ((l.length : Int) - 1) = ((l.length - 1 : Nat) : Int) by omega]; rfl
    obtain ⟨b1, b2, _⟩ := hP.2.2 0 h0
    obtain ⟨b3, b4, _⟩ := hP.2.2 (l.length - 1) (by omega)
    have hi : InR l s := ⟨h1, by omega⟩
    obtain ⟨r, hr, ih⟩ := l0_f hP hv h16 D (s + 1) (by omega) (by omega) K hK
    have eK : K + (D + 1) * (2 * v.length + 2) + 1 = ((K + D * (2 * v.length + 2) + 1) + 2 * v.length + 1) + 1 := by rw [Nat.succ_mul]; omega
    obtain ⟨p1, p2, _⟩ := pt_f hP hi ((K + D * (2 * v.length + 2) + 1) + 2 * v.length + 1) (by omega)
    have hl := l1_f hv h16 ⟨by omega, by omega⟩ p2 (K + D * (2 * v.length + 2) + 1) (by omega) v.length 0 (by omega)
    rw [List.drop_zero] at hl
    rw [eK, fly_Closed.l0, w64 (x := (l.length : Int) - 1) (by omega) (by omega), if_pos (by omega), if_pos (by omega), e1, if_pos (by omega), p1, Option.bind_some]
    cases hf : v.find? (hitP l s) with
    | none =>
      rw [hf] at hl
      have no := List.find?_eq_none.1 hf
      refine ⟨r, hl.trans hr, ?_⟩
      rcases ih with ⟨g1, g2⟩ | ⟨u, x, a, b, g1, g2, g3, g4⟩
      · refine .inl ⟨fun u q1 q2 x hx => ?_, g2⟩
        by_cases c : u = s
        · rw [c]; simpa using no x hx
        · exact g1 u (by omega) q2 x hx
      · refine .inr ⟨u, x, a, b, by omega, g2, fun u' q1 q2 y hy => ?_, g4⟩
        by_cases c : u' = s
        · rw [c]; simpa using no y hy
        · exact g3 u' (by omega) q2 y hy
    | some x =>
      rw [hf] at hl
      obtain ⟨q1, a, b, q2, q3⟩ := List.find?_eq_some_iff_append.1 hf
      exact ⟨_, hl, .inr ⟨s, x, a, b, by omega, by omega, fun u' g1 g2 => by omega, q2, fun y hy => by simpa using q3 y hy, q1, rfl⟩⟩
theorem ite_none {α : Type} {q : Prop} [Decidable q] {x : Option α} {e : α} (h : (if q then x else none) = some e) : x = some e := by
  by_cases c : q
  · rwa [if_pos c] at h
  · rw [if_neg c] at h; cases h
theorem pc8 : ∀ k, (∀ a b c d e, polygon_Check.l0 k a b c d = some e → e ≠ 8) ∧ (∀ a b c d e, polygon_Check.l1 k a b c d = some e → e ≠ 8) ∧ (∀ a b c d f g e, polygon_Check.l2 k a b c d f g = some e → e ≠ 8)
  | 0 => ⟨fun _ _ _ _ e h => (by rw [polygon_Check.l0] at h; cases h), fun _ _ _ _ e h => (by rw [polygon_Check.l1] at h; cases h), fun _ _ _ _ _ _ e h => (by rw [polygon_Check.l2] at h; cases h)⟩
  | k + 1 => by
    obtain ⟨i1, i2, i3⟩ := pc8 k
    refine ⟨fun a b c d e h => ?_, fun a b c d e h => ?_, fun a b c d f g e h => ?_⟩
    · rw [polygon_Check.l0, check_f, Option.bind_some] at h
      repeat' split at h
      all_goals first
        | exact i1 _ _ _ _ _ h
        | exact i2 _ _ _ _ _ h
        | (cases h; done)
        | (obtain rfl := Option.some.inj h; first | decide | (split <;> decide))
    · rw [polygon_Check.l1] at h
      repeat' split at h
      all_goals first
        | (cases h; done)
        | (obtain ⟨z, _, h⟩ := Option.bind_eq_some_iff.1 h; split at h <;> first | exact i3 _ _ _ _ _ _ _ h | (obtain rfl := Option.some.inj h; decide))
    · rw [polygon_Check.l2] at h
      by_cases c1 : d < b
      · rw [if_pos c1] at h
        by_cases c2 : b = 0
        · rw [if_pos c2] at h; cases h
        rw [if_neg c2] at h
        by_cases c3 : Int.tmod (wrap64 (d + 1)) b = c
        · rw [if_pos c3] at h; exact i3 _ _ _ _ _ _ _ h
        rw [if_neg c3] at h
        obtain ⟨z, _, h⟩ := Option.bind_eq_some_iff.1 (ite_none (ite_none (ite_none (ite_none (ite_none (ite_none (ite_none (ite_none h))))))))
        split at h
        · obtain rfl := Option.some.inj h; decide
        · exact i3 _ _ _ _ _ _ _ h
      · rw [if_neg c1] at h; exact i2 _ _ _ _ _ h
theorem vc8 {k : Nat} {l : List S36} {lo hi e : Int} (h : volume_Check.f k l lo hi = some e) : e ≠ 8 := by
  unfold volume_Check.f at h
  obtain ⟨z, hz, h⟩ := Option.bind_eq_some_iff.1 h
  repeat' split at h
  all_goals first
    | (obtain rfl := Option.some.inj h; decide)
    | skip
  obtain rfl := Option.some.inj h
  unfold polygon_Check.f at hz
  repeat' split at hz
  all_goals first
    | exact (pc8 k).1 _ _ _ _ _ hz
    | (obtain rfl := Option.some.inj hz; decide)
theorem sp8 : ∀ (k : Nat) (a : List Sp) (b c e : Int), volume_CheckSpans.l0 k a b c = some e → e ≠ 8
  | 0, _, _, _, e, h => by rw [volume_CheckSpans.l0] at h; cases h
  | k + 1, a, b, c, e, h => by
    rw [volume_CheckSpans.l0] at h
    repeat' split at h
    all_goals first
      | exact sp8 k _ _ _ _ h
      | (cases h; done)
      | (obtain rfl := Option.some.inj h; decide)
theorem fc8 : ∀ k, (∀ a b c d e, fly_Check.l0 k a b c d = some e → e ≠ 8) ∧ (∀ a b c d f g i j m e, fly_Check.j1 k a b c d f g i j m = some e → e ≠ 8)
  | 0 => ⟨fun _ _ _ _ e h => (by rw [fly_Check.l0] at h; cases h), fun _ _ _ _ _ _ _ _ _ e h => (by rw [fly_Check.j1] at h; cases h)⟩
  | k + 1 => by
    obtain ⟨i1, i2⟩ := fc8 k
    refine ⟨fun a b c d e h => ?_, fun a b c d f g i j m e h => ?_⟩
    · rw [fly_Check.l0] at h
      repeat' split at h
      all_goals first
        | exact i2 _ _ _ _ _ _ _ _ _ _ h
        | (cases h; done)
        | (obtain rfl := Option.some.inj h; decide)
    · rw [fly_Check.j1, check_f, Option.bind_some] at h
      repeat' split at h
      all_goals first
        | exact i1 _ _ _ _ _ h
        | (cases h; done)
        | (obtain rfl := Option.some.inj h; first | decide | (split <;> decide))
theorem fcf8 {k : Nat} {l : List Nn} {e : Int} (h : fly_Check.f k l = some e) : e ≠ 8 := by
  unfold fly_Check.f at h
  repeat' split at h
  all_goals first
    | exact (fc8 k).1 _ _ _ _ _ h
    | (obtain rfl := Option.some.inj h; decide)
theorem cv_l (v : List RV) (h16 : v.length ≤ 16) : ∀ (d k i : Nat), i + d = v.length → 500 + d ≤ k →
    ∃ e, route_CheckVolumes.l0 k v v (v.length : Int) (i : Int) = some e ∧ e ≠ 8 ∧ (e = 0 → ∀ j (h : j < v.length), i ≤ j → volOk v[j] ∧ ∀ j' (h' : j' < j), v[j'].f0 ≠ v[j].f0)
  | 0, k, i, hi, hk => by
    obtain ⟨k, rfl⟩ : ∃ m, k = m + 1 := ⟨k - 1, by omega⟩
    rw [route_CheckVolumes.l0, if_neg (by omega)]
    exact ⟨0, rfl, by decide, fun _ j h1 h2 => by omega⟩
  | d + 1, k, i, hi, hk => by
    obtain ⟨k, rfl⟩ : ∃ m, k = m + 1 := ⟨k - 1, by omega⟩
    have hlt : i < v.length := by omega
    obtain ⟨e', he', h8, ih⟩ := cv_l v h16 d k (i + 1) (by omega) (by omega)
    obtain ⟨bn, hn⟩ := name_some v[i].f0
    obtain ⟨e1, g1, g2⟩ := vcheck v[i].f1.f0 v[i].f1.f1 v[i].f1.f2 k (by omega)
    obtain ⟨e2, g3, g4⟩ := chk v[i].f2 k (by omega)
    have g5 : e2 ≠ 8 := by
      unfold volume_CheckSpans.f at g3
      split at g3
      · obtain rfl := Option.some.inj g3; decide
      · exact sp8 _ _ _ _ _ g3
    rw [route_CheckVolumes.l0, if_pos (by omega), if_pos (by omega), if_pos (by omega), rdV hlt, hn k (by omega), Option.bind_some]
    by_cases c1 : bn = true
    · rw [if_pos c1, if_pos (by omega)]
      unfold api_RouteVolume_103.f
      rw [Option.bind_some, Int.toNat_natCast]
      by_cases c2 : (v.take i).any (route_CheckVolumes_1.p v[i].f0 v[i].f1.f0 v[i].f1.f1 v[i].f1.f2 v[i].f2) = true
      · rw [if_pos c2]; exact ⟨7, rfl, by decide, fun h => by omega⟩
      rw [if_neg c2, g1, Option.bind_some]
      by_cases c3 : e1 = 0
      · rw [if_pos c3, g3, Option.bind_some]
        by_cases c4 : e2 = 0
        · rw [if_pos c4, w64 (x := (i : Int) + 1) (by omega) (by omega), show ((i : Int) + 1) = ((i + 1 : Nat) : Int) by omega, he']
          refine ⟨e', rfl, h8, fun h0 j hj hij => ?_⟩
          by_cases cj : j = i
          · subst cj
            refine ⟨⟨g2.1 c3, g4.1 c4⟩, fun j' h' he => c2 (List.any_eq_true.2 ⟨v[j'], ?_, ?_⟩)⟩
            · rw [List.mem_take_iff_getElem]
              exact ⟨j', by omega, rfl⟩
            · unfold route_CheckVolumes_1.p
              exact decide_eq_true he
          · exact ih h0 j hj (by omega)
        · rw [if_neg c4]; exact ⟨e2, rfl, g5, fun h => absurd h c4⟩
      · rw [if_neg c3]; exact ⟨e1, rfl, vc8 g1, fun h => absurd h c3⟩
    · rw [if_neg c1]; exact ⟨5, rfl, by decide, fun h => by omega⟩
theorem cv_f (v : List RV) (k : Nat) (hk : 600 ≤ k) : ∃ e, route_CheckVolumes.f k v = some e ∧ e ≠ 8 ∧ (e = 0 → v.length ≤ 16 ∧ ∀ j (h : j < v.length), volOk v[j] ∧ ∀ j' (h' : j' < j), v[j'].f0 ≠ v[j].f0) := by
  unfold route_CheckVolumes.f
  by_cases c : (v.length : Int) > 16
  · rw [if_pos c]; exact ⟨2, rfl, by decide, fun h => by omega⟩
  · rw [if_neg c]
    obtain ⟨e, h1, h2, h3⟩ := cv_l v (by omega) v.length k 0 (by omega) (by omega)
    exact ⟨e, h1, h2, fun h0 => ⟨by omega, fun j hj => h3 h0 j hj (Nat.zero_le _)⟩⟩
theorem go_app {k : Nat} {l : List Nn} {nm : ByteArray} {when e t : Int} : ∀ (a rest : List RV), (∀ y ∈ a, ∃ B, skywaykeep1_FlyClosed_1.f k l y t = some B ∧ (B && ((e == 8) || decide (t < when))) = false ∧ ¬ (e = 0 ∧ y.f0 = nm)) →
    skywaykeep1_FlyClosed.go k l nm when e t (a ++ rest) = skywaykeep1_FlyClosed.go k l nm when e t rest
  | [], rest, _ => rfl
  | y :: a, rest, h => by
    obtain ⟨B, h1, h2, h3⟩ := h y List.mem_cons_self
    rw [List.cons_append, skywaykeep1_FlyClosed.go, h1, Option.bind_some, if_neg (by rw [h2]; decide), if_neg h3]
    exact go_app a rest (fun z hz => h z (List.mem_cons_of_mem _ hz))
theorem FlyClosed_f (l : List Nn) (v : List RV) (t : Int) : skywaykeep1_FlyClosed.f 100000 l v t = some true := by
  unfold skywaykeep1_FlyClosed.f
  rw [flyWorks _ (by omega), Option.bind_some, if_pos rfl]
  by_cases c : 0 < (l.length : Int) ∧ wrap64 ((rd_T71 l ((l.length : Int) - 1)).f0 - (rd_T71 l 0).f0) > 2000
  · rw [if_pos c]
  rw [if_neg c]
  obtain ⟨e, he, hz⟩ := fcheck_iff l 100000 (by omega)
  obtain ⟨e2, he2, h28, hv⟩ := cv_f v 100000 (by omega)
  by_cases c1 : e = 0
  · have hP := hz.1 c1
    have h0 := hP.1
    by_cases c2 : e2 = 0
    · obtain ⟨h16, hvv⟩ := hv c2
      have hok : ∀ x ∈ v, volOk x := fun x hx => by
        obtain ⟨j, hj, rfl⟩ := List.getElem_of_mem hx
        exact (hvv j hj).1
      have e0 : rd_T71 l 0 = Nd l 0 := rfl
      have e1 : rd_T71 l ((l.length : Int) - 1) = Nd l (l.length - 1) := by rw [show ((l.length : Int) - 1) = ((l.length - 1 : Nat) : Int) by omega]; rfl
      obtain ⟨b1, b2, _⟩ := hP.2.2 0 h0
      obtain ⟨b3, b4, _⟩ := hP.2.2 (l.length - 1) (by omega)
      have hfl : (Nd l 0).f0 ≤ (Nd l (l.length - 1)).f0 := by
        by_cases q : l.length - 1 = 0
        · rw [q]; exact Int.le_refl _
        · exact Int.le_of_lt (times_lt' hP (by omega) (by omega))
      have h2000 : (Nd l (l.length - 1)).f0 - (Nd l 0).f0 ≤ 2000 := by
        rw [e0, e1, w64 (by omega) (by omega)] at c
        omega
      obtain ⟨D, hD⟩ : ∃ D : Nat, (Nd l 0).f0 + D = (Nd l (l.length - 1)).f0 + 1 := ⟨((Nd l (l.length - 1)).f0 + 1 - (Nd l 0).f0).toNat, by omega⟩
      have hm : D * (2 * v.length + 2) ≤ 2001 * 34 := Nat.mul_le_mul (by omega) (by omega)
      obtain ⟨r, hr, hcase⟩ := l0_f hP hok h16 D (Nd l 0).f0 (Int.le_refl _) hD (100000 - D * (2 * v.length + 2) - 1) (by omega)
      rw [show 100000 - D * (2 * v.length + 2) - 1 + D * (2 * v.length + 2) + 1 = 100000 by omega] at hr
      have hF : fly_Closed.f 100000 l v = some r := by
        unfold fly_Closed.f
        rw [he, Option.bind_some, if_pos c1, he2, Option.bind_some, if_pos c2, if_pos (by omega), e0, hr]
      rw [hF, Option.bind_some]
      generalize wrap64 ((rd_T71 l 0).f0 + Int.tmod (wrap64 (Int.tmod t 2000 + 2000)) 2000) = t1
      have fin : ∀ x ∈ v, skywaykeep1_FlyClosed_1.f 100000 l x t1 = some (decide (InR l t1) && hitP l t1 x) := fun x hx => in_f hP (hok x hx) t1 100000 (by omega)
      rcases hcase with ⟨g1, rfl⟩ | ⟨u, x, a, b, g1, g2, g3, g4, g5, g6, rfl⟩
      · dsimp only
        rw [if_neg (by simp), if_pos (by omega)]
        have := go_app (k := 100000) (l := l) (nm := ⟨#[]⟩) (when := 0) (e := 8) (t := t1) v [] (fun y hy => ⟨_, fin y hy, by
          by_cases q : InR l t1
          · rw [g1 t1 q.1 q.2 y hy]; simp
          · rw [decide_eq_false q]; rfl, fun g => absurd g.1 (by decide)⟩)
        rw [List.append_nil] at this
        rw [this, skywaykeep1_FlyClosed.go]
        rfl
      · dsimp only
        rw [if_neg (by simp), if_pos (by omega)]
        have hxm : x ∈ v := by rw [g4]; simp
        have early : ∀ y ∈ v, t1 < u → (decide (InR l t1) && hitP l t1 y) = false := fun y hy ht => by
          by_cases q : InR l t1
          · rw [g3 t1 q.1 ht y hy, Bool.and_false]
          · rw [decide_eq_false q]; rfl
        have bad : ∀ y ∈ v, ((decide (InR l t1) && hitP l t1 y) && (((0 : Int) == 8) || decide (t1 < u))) = false := fun y hy => by
          by_cases q : t1 < u
          · rw [early y hy q]; rfl
          · rw [decide_eq_false q]; simp
        have names : ∀ y ∈ a, y.f0 ≠ x.f0 := fun y hy => by
          obtain ⟨j, hj, rfl⟩ := List.getElem_of_mem hy
          have hx : a.length < v.length := by rw [g4]; simp
          have q := (hvv a.length hx).2 j hj
          simp only [g4] at q
          rw [List.getElem_append_left hj, List.getElem_append_right (Nat.le_refl _)] at q
          simpa using q
        have hgo := go_app (k := 100000) (l := l) (nm := x.f0) (when := u) (e := 0) (t := t1) a (x :: b) (fun y hy => ⟨_, fin y (by rw [g4]; exact List.mem_append_left _ hy), bad y (by rw [g4]; exact List.mem_append_left _ hy), fun g => names y hy g.2⟩)
        rw [← g4] at hgo
        rw [hgo, skywaykeep1_FlyClosed.go, fin x hxm, Option.bind_some, if_neg (by rw [bad x hxm]; decide), if_pos ⟨rfl, rfl⟩, in_f hP (hok x hxm) u 100000 (by omega), Option.bind_some]
        have : (decide (InR l u) && hitB x (pt l u).2.1 (pt l u).2.2.1 (pt l u).2.2.2 u) = true := by
          rw [decide_eq_true (show InR l u from ⟨g1, g2⟩)]
          exact g6
        rw [if_pos this]
    · have hF : fly_Closed.f 100000 l v = some ((⟨#[]⟩ : ByteArray), 0, e2) := by
        unfold fly_Closed.f
        rw [he, Option.bind_some, if_pos c1, he2, Option.bind_some, if_neg c2]
      rw [hF, Option.bind_some, if_pos ⟨c2, h28⟩]
      rfl
  · have hF : fly_Closed.f 100000 l v = some ((⟨#[]⟩ : ByteArray), 0, e) := by
      unfold fly_Closed.f
      rw [he, Option.bind_some, if_neg c1]
    rw [hF, Option.bind_some, if_pos ⟨c1, fcf8 he⟩]
    rfl
theorem FlyClosed : skywaykeep1_FlyClosed.Pure := by
  intro l v t _ _ _
  exact ⟨100000, FlyClosed_f l v t⟩
end Go.Proofs.Ytbpbpojnfhhbjaa.Pure
