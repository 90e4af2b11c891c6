/- PolygonCommon: for all points the common points of two segments depend neither on the order of the segments nor on that of their ends, and segments with a common end have a common point. -/
import Derived.Test.YtaahnfajcbkknaaPPolygonCommonx
import Derived.Test.YtaahnfajcbkknaaMath
namespace Go.Proofs.Ytaahnfajcbkknaa.Pure
open Go Go.RowKit Go.Proofs.Ytaahnfajcbkknaa.PPolygonCommon Go.Proofs.YtaahnfajcbkknaaW.PrintWords Go.Proofs.YtaahnfajcbkknaaW.PrintLast Go.Proofs.YtaahnfajcbkknaaM

/-- A permitted coordinate. -/
def Ok (x y : Int) : Prop := -1000000 ≤ x ∧ x ≤ 1000000 ∧ -1000000 ≤ y ∧ y ≤ 1000000
instance (x y : Int) : Decidable (Ok x y) := inferInstanceAs (Decidable (_ ∧ _))
theorem good_f (x y : Int) : skywayref1_Good.f x y = some (decide (Ok x y)) := by
  unfold skywayref1_Good.f
  by_cases c1 : x ≥ -1000000
  · rw [if_pos c1]
    by_cases c2 : x ≤ 1000000
    · rw [if_pos c2]
      by_cases c3 : y ≥ -1000000
      · rw [if_pos c3]; congr 1; exact decide_eq_decide.2 ⟨fun h => ⟨c1, c2, c3, h⟩, fun h => h.2.2.2⟩
      · rw [if_neg c3]; congr 1; exact (decide_eq_false (fun h : Ok x y => c3 h.2.2.1)).symm
    · rw [if_neg c2]; congr 1; exact (decide_eq_false (fun h : Ok x y => c2 h.2.1)).symm
  · rw [if_neg c1]; congr 1; exact (decide_eq_false (fun h : Ok x y => c1 h.1)).symm
def okB (p : S37) : Bool := decide (Ok p.f0 p.f1)
theorem near_l0 (l : List S37) (hl : l.length ≤ 9000000000000000000) : ∀ (d k i : Nat), i + d = l.length → d < k → skywaykeep1_near.l0 k l (l.length : Int) (i : Int) = some ((l.drop i).all okB)
  | 0, k, i, hi, hk => by
    obtain ⟨k, rfl⟩ : ∃ m, k = m + 1 := ⟨k - 1, by omega⟩
    rw [skywaykeep1_near.l0, if_neg (by omega), List.drop_of_length_le (by omega)]
    rfl
  | d + 1, k, i, hi, hk => by
    obtain ⟨k, rfl⟩ : ∃ m, k = m + 1 := ⟨k - 1, by omega⟩
    have hlt : i < l.length := by omega
    rw [skywaykeep1_near.l0, if_pos (by omega), if_pos (by omega), if_pos (by omega), good_f, Option.bind_some]
    have e : rd_T37 l (i : Int) = l[i] := by unfold rd_T37; rw [Int.toNat_natCast, List.getD_eq_getElem?_getD, List.getElem?_eq_getElem hlt]; rfl
    rw [e, List.drop_eq_getElem_cons hlt, List.all_cons]
    have ih := near_l0 l hl d k (i + 1) (by omega) (by omega)
    by_cases c : Ok l[i].f0 l[i].f1
    · have c' : okB l[i] = true := decide_eq_true c
      rw [decide_eq_true c, if_pos rfl, w64 (by omega) (by omega), show ((i : Int) + 1) = ((i + 1 : Nat) : Int) by omega, ih, c', Bool.true_and]
    · have c' : okB l[i] = false := decide_eq_false c
      rw [decide_eq_false c, if_neg (by decide), c', Bool.false_and]
theorem near_f (l : List S37) (k : Nat) (hk : l.length < k) (hl : l.length ≤ 9000000000000000000) : skywaykeep1_near.f k l = some (l.all okB) := by
  unfold skywaykeep1_near.f
  rw [show (0 : Int) = ((0 : Nat) : Int) from rfl, near_l0 l hl l.length k 0 (by omega) hk, List.drop_zero]
/-- The cross product of b - a and c - a. -/
def X (ax ay bx b_y cx cy : Int) : Int := (bx - ax) * (cy - ay) - (b_y - ay) * (cx - ax)
def sg (x : Int) : Int := if x > 0 then 1 else if x < 0 then -1 else 0
theorem turn {ax ay bx b_y cx cy : Int} (h1 : -2000000000 ≤ bx - ax) (h2 : bx - ax ≤ 2000000000) (h3 : -2000000000 ≤ b_y - ay) (h4 : b_y - ay ≤ 2000000000)
    (h5 : -2000000000 ≤ cx - ax) (h6 : cx - ax ≤ 2000000000) (h7 : -2000000000 ≤ cy - ay) (h8 : cy - ay ≤ 2000000000) :
    plane_Turn.f ax ay bx b_y cx cy = some (sg (X ax ay bx b_y cx cy)) := by
  have m1 := mul_bd h1 h2 h7 h8
  have m2 := mul_bd h3 h4 h5 h6
  unfold plane_Turn.f plane_Sub.f plane_Cross.f X sg
  simp only [Option.bind_some]
  rw [w64 (x := bx - ax) (by omega) (by omega), w64 (x := b_y - ay) (by omega) (by omega), w64 (x := cx - ax) (by omega) (by omega), w64 (x := cy - ay) (by omega) (by omega),
    w64 (x := (bx - ax) * (cy - ay)) (by omega) (by omega), w64 (x := (b_y - ay) * (cx - ax)) (by omega) (by omega), w64 (by omega) (by omega)]
  split
  · rfl
  · split <;> rfl
theorem sg_neg (x : Int) : sg (-x) = -sg x := by unfold sg; (repeat' split) <;> omega
theorem sg_rng (x : Int) : -1 ≤ sg x ∧ sg x ≤ 1 := by unfold sg; (repeat' split) <;> omega
/-- The scalar product of the ways from a point to two others. -/
def Dt (ax ay bx b_y px py : Int) : Int := (ax - px) * (bx - px) + (ay - py) * (b_y - py)
theorem on_f {ax ay bx b_y px py : Int} (ha : Ok ax ay) (hb : Ok bx b_y) (hp : Ok px py) : polygon_on.f ax ay bx b_y px py = some (decide (Dt ax ay bx b_y px py ≤ 0)) := by
  obtain ⟨a1, a2, a3, a4⟩ := ha
  obtain ⟨b1, b2, b3, b4⟩ := hb
  obtain ⟨p1, p2, p3, p4⟩ := hp
  have m1 := mul_bd (show -2000000 ≤ ax - px by omega) (show ax - px ≤ 2000000 by omega) (show -2000000 ≤ bx - px by omega) (show bx - px ≤ 2000000 by omega)
  have m2 := mul_bd (show -2000000 ≤ ay - py by omega) (show ay - py ≤ 2000000 by omega) (show -2000000 ≤ b_y - py by omega) (show b_y - py ≤ 2000000 by omega)
  unfold polygon_on.f plane_Sub.f plane_Dot.f Dt
  simp only [Option.bind_some]
  rw [w64 (x := ax - px) (by omega) (by omega), w64 (x := ay - py) (by omega) (by omega), w64 (x := bx - px) (by omega) (by omega), w64 (x := b_y - py) (by omega) (by omega),
    w64 (x := (ax - px) * (bx - px)) (by omega) (by omega), w64 (x := (ay - py) * (b_y - py)) (by omega) (by omega), w64 (by omega) (by omega)]
theorem turn_ok {ax ay bx b_y cx cy : Int} (ha : Ok ax ay) (hb : Ok bx b_y) (hc : Ok cx cy) : plane_Turn.f ax ay bx b_y cx cy = some (sg (X ax ay bx b_y cx cy)) := by
  obtain ⟨a1, a2, a3, a4⟩ := ha
  obtain ⟨b1, b2, b3, b4⟩ := hb
  obtain ⟨c1, c2, c3, c4⟩ := hc
  exact turn (by omega) (by omega) (by omega) (by omega) (by omega) (by omega) (by omega) (by omega)
def comB (s t u v : Int) (o1 o2 o3 o4 : Bool) : Bool := (decide (s * t < 0) && decide (u * v < 0)) || (decide (s = 0) && o1) || (decide (t = 0) && o2) || (decide (u = 0) && o3) || (decide (v = 0) && o4)
theorem com_j0 (k : Nat) (s t u v : Int) (x : Bool) {ax ay bx b_y cx cy dx dy : Int} (o1 o2 o3 o4 : Bool)
    (h1 : polygon_on.f ax ay bx b_y cx cy = some o1) (h2 : polygon_on.f ax ay bx b_y dx dy = some o2) (h3 : polygon_on.f cx cy dx dy ax ay = some o3) (h4 : polygon_on.f cx cy dx dy bx b_y = some o4) :
    polygon_Common.j0 (k + 1) s t u v x ax ay bx b_y cx cy dx dy = some (x || (decide (s = 0) && o1) || (decide (t = 0) && o2) || (decide (u = 0) && o3) || (decide (v = 0) && o4)) := by
  rw [polygon_Common.j0, h1, h2, h3, h4]
  simp only [Option.bind_some]
  cases x
  · by_cases c1 : s = 0 <;> by_cases c2 : t = 0 <;> by_cases c3 : u = 0 <;> by_cases c4 : v = 0 <;> cases o1 <;> cases o2 <;> cases o3 <;> cases o4 <;> simp [c1, c2, c3, c4]
  · simp
theorem common_f (k : Nat) {ax ay bx b_y cx cy dx dy : Int} (ha : Ok ax ay) (hb : Ok bx b_y) (hc : Ok cx cy) (hd : Ok dx dy) :
    polygon_Common.f (k + 1) ax ay bx b_y cx cy dx dy = some (comB (sg (X ax ay bx b_y cx cy)) (sg (X ax ay bx b_y dx dy)) (sg (X cx cy dx dy ax ay)) (sg (X cx cy dx dy bx b_y))
      (decide (Dt ax ay bx b_y cx cy ≤ 0)) (decide (Dt ax ay bx b_y dx dy ≤ 0)) (decide (Dt cx cy dx dy ax ay ≤ 0)) (decide (Dt cx cy dx dy bx b_y ≤ 0))) := by
  have r1 := sg_rng (X ax ay bx b_y cx cy)
  have r2 := sg_rng (X ax ay bx b_y dx dy)
  have r3 := sg_rng (X cx cy dx dy ax ay)
  have r4 := sg_rng (X cx cy dx dy bx b_y)
  unfold polygon_Common.f
  rw [turn_ok ha hb hc, turn_ok ha hb hd, turn_ok hc hd ha, turn_ok hc hd hb]
  simp only [Option.bind_some]
  have m1 := mul_bd r1.1 r1.2 r2.1 r2.2
  have m2 := mul_bd r3.1 r3.2 r4.1 r4.2
  rw [w64 (by omega) (by omega), w64 (by omega) (by omega), com_j0 k _ _ _ _ _ _ _ _ _ (on_f ha hb hc) (on_f ha hb hd) (on_f hc hd ha) (on_f hc hd hb), com_j0 k _ _ _ _ _ _ _ _ _ (on_f ha hb hc) (on_f ha hb hd) (on_f hc hd ha) (on_f hc hd hb)]
  unfold comB
  by_cases c : sg (X ax ay bx b_y cx cy) * sg (X ax ay bx b_y dx dy) < 0
  · rw [if_pos c, decide_eq_true c, Bool.true_and]
  · rw [if_neg c, decide_eq_false c, Bool.false_and]
theorem polyWorks (k : Nat) : skywaykeep1_polygonWorks.f (k + 60) = some true := by
  have h : skywaykeep1_polygonWorks.f 60 = some true := by decide +kernel
  have step : ∀ n, skywaykeep1_polygonWorks.f (n + 60) = some true := by
    intro n
    induction n with
    | zero => exact h
    | succ n ih => rw [show n + 1 + 60 = (n + 60) + 1 by omega]; exact skywaykeep1_polygonWorks.mono _ _ ih
  exact step k
theorem PolygonCommon : skywaykeep1_PolygonCommon.Pure := by
  intro ax ay bx b_y cx cy dx dy _ _ _ _ _ _ _ _
  refine ⟨60, ?_⟩
  unfold skywaykeep1_PolygonCommon.f
  rw [polyWorks 0, Option.bind_some, if_pos rfl, near_f _ 60 (by simp) (by simp), Option.bind_some]
  by_cases hok : Ok ax ay ∧ Ok bx b_y ∧ Ok cx cy ∧ Ok dx dy
  · have e0 : [(⟨ax, ay⟩ : S37), ⟨bx, b_y⟩, ⟨cx, cy⟩, ⟨dx, dy⟩].all okB = true := by simp [okB, hok]
    rw [e0, if_pos rfl]
    obtain ⟨ha, hb, hc, hd⟩ := hok
    rw [common_f 59 ha hb hc hd, common_f 59 hc hd ha hb, common_f 59 hb ha hd hc, common_f 59 ha hb ha hc, Option.bind_some, Option.bind_some]
    have x1 : X bx b_y ax ay dx dy = -X ax ay bx b_y dx dy := by unfold X; grind
    have x2 : X bx b_y ax ay cx cy = -X ax ay bx b_y cx cy := by unfold X; grind
    have x3 : X dx dy cx cy bx b_y = -X cx cy dx dy bx b_y := by unfold X; grind
    have x4 : X dx dy cx cy ax ay = -X cx cy dx dy ax ay := by unfold X; grind
    have x5 : X ax ay bx b_y ax ay = 0 := by unfold X; grind
    have o1 : Dt bx b_y ax ay dx dy = Dt ax ay bx b_y dx dy := by unfold Dt; grind
    have o2 : Dt bx b_y ax ay cx cy = Dt ax ay bx b_y cx cy := by unfold Dt; grind
    have o3 : Dt dx dy cx cy bx b_y = Dt cx cy dx dy bx b_y := by unfold Dt; grind
    have o4 : Dt dx dy cx cy ax ay = Dt cx cy dx dy ax ay := by unfold Dt; grind
    have o5 : Dt ax ay bx b_y ax ay = 0 := by unfold Dt; grind
    rw [x1, x2, x3, x4, x5, o1, o2, o3, o4, o5, sg_neg, sg_neg, sg_neg, sg_neg]
    generalize sg (X ax ay bx b_y cx cy) = s
    generalize sg (X ax ay bx b_y dx dy) = t
    generalize sg (X cx cy dx dy ax ay) = u
    generalize sg (X cx cy dx dy bx b_y) = v
    generalize decide (Dt ax ay bx b_y cx cy ≤ 0) = p1
    generalize decide (Dt ax ay bx b_y dx dy ≤ 0) = p2
    generalize decide (Dt cx cy dx dy ax ay ≤ 0) = p3
    generalize decide (Dt cx cy dx dy bx b_y ≤ 0) = p4
    have c1 : comB u v s t p3 p4 p1 p2 = comB s t u v p1 p2 p3 p4 := by
      unfold comB
      generalize decide (s * t < 0) = b1
      generalize decide (u * v < 0) = b2
      generalize decide (s = 0) = b3
      generalize decide (t = 0) = b4
      generalize decide (u = 0) = b5
      generalize decide (v = 0) = b6
      revert b1 b2 b3 b4 b5 b6 p1 p2 p3 p4
      decide
    have c2 : comB (-t) (-s) (-v) (-u) p2 p1 p4 p3 = comB s t u v p1 p2 p3 p4 := by
      clear c1
      unfold comB
      have e1 : -t * -s = s * t := by grind
      have e2 : -v * -u = u * v := by grind
      have z : ∀ x : Int, (-x = 0) = (x = 0) := fun x => propext ⟨fun h => by omega, fun h => by omega⟩
      rw [e1, e2]
      simp only [z]
      generalize decide (s * t < 0) = b1
      generalize decide (u * v < 0) = b2
      generalize decide (s = 0) = b3
      generalize decide (t = 0) = b4
      generalize decide (u = 0) = b5
      generalize decide (v = 0) = b6
      revert b1 b2 b3 b4 b5 b6 p1 p2 p3 p4
      decide
    rw [c1, c2, if_pos (by simp), Option.bind_some, if_pos (by simp), Option.bind_some]
    unfold comB
    simp [sg]
  · have e0 : [(⟨ax, ay⟩ : S37), ⟨bx, b_y⟩, ⟨cx, cy⟩, ⟨dx, dy⟩].all okB = false := by
      rw [Bool.eq_false_iff]
      intro h
      apply hok
      simpa [okB] using h
    rw [e0, if_neg (by decide)]
end Go.Proofs.Ytaahnfajcbkknaa.Pure
