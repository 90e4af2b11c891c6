/- MotionSpeed: for all motions, positions of consecutive seconds are no farther apart than the speed, rounded up, and 2. -/
import Derived.Test.YteaddpieonkboaaPMotionSpeedx
import Derived.Test.YteaddpieonkboaaMath
namespace Go.Proofs.Yteaddpieonkboaa.Pure
open Go Go.RowKit Go.Proofs.Yteaddpieonkboaa.PMotionSpeed Go.Proofs.YteaddpieonkboaaW.PrintWords Go.Proofs.YteaddpieonkboaaW.PrintLast Go.Proofs.YteaddpieonkboaaM

/-- A permitted coordinate. -/
def Ok (x y : Int) : Prop := -1000000 ≤ x ∧ x ≤ 1000000 ∧ -1000000 ≤ y ∧ y ≤ 1000000
instance (x y : Int) : Decidable (Ok x y) := inferInstanceAs (Decidable (_ ∧ _))
open RootF
/-- The distance, rounded up. -/
def up (s : Int) : Int := if rootI s * rootI s < s then rootI s + 1 else rootI s
theorem up_spec {s : Int} (h : 0 ≤ s) : s ≤ up s * up s ∧ rootI s ≤ up s ∧ up s ≤ rootI s + 1 := by
  obtain ⟨h1, h2⟩ := rootI_spec h
  unfold up
  split
  · exact ⟨by omega, by omega, by omega⟩
  · exact ⟨by omega, by omega, by omega⟩
def S (x y : Int) : Int := x * x + y * y
theorem S_nonneg (x y : Int) : 0 ≤ S x y := by have := sq_nonneg x; have := sq_nonneg y; unfold S; omega
theorem square {ax ay bx b_y : Int} (h1 : -2000000000 ≤ ax - bx) (h2 : ax - bx ≤ 2000000000) (h3 : -2000000000 ≤ ay - b_y) (h4 : ay - b_y ≤ 2000000000) :
    plane_Square.f ax ay bx b_y = some (S (ax - bx) (ay - b_y)) ∧ S (ax - bx) (ay - b_y) ≤ 8000000000000000000 := by
  have q1 := sq_bd h1 h2
  have q2 := sq_bd h3 h4
  have p1 := sq_nonneg (ax - bx)
  have p2 := sq_nonneg (ay - b_y)
  refine ⟨?_, by unfold S; omega⟩
  unfold plane_Square.f plane_Sub.f plane_Dot.f S
  rw [w64 (by omega) (by omega), w64 (by omega) (by omega)]
  simp only [Option.bind_some]
  rw [w64 (x := (ax - bx) * (ax - bx)) (by omega) (by omega), w64 (x := (ay - b_y) * (ay - b_y)) (by omega) (by omega), w64 (by omega) (by omega)]
theorem root_f {s : Int} (h : s ≤ 9223372036854775807) : num_Root.f s = some (rootI s) := by unfold num_Root.f; rw [if_pos h]
theorem root_lt {s : Int} (h0 : 0 ≤ s) (h : s ≤ 8000000000000000000) : rootI s ≤ 3000000000 := by
  obtain ⟨h1, _⟩ := rootI_spec h0
  exact sq_le (by decide) (by omega)
theorem within {ax ay bx b_y d : Int} (h1 : -2000000000 ≤ ax - bx) (h2 : ax - bx ≤ 2000000000) (h3 : -2000000000 ≤ ay - b_y) (h4 : ay - b_y ≤ 2000000000) :
    plane_Within.f ax ay bx b_y d = some (decide (0 ≤ d ∧ d ≤ 8000000 ∧ S (ax - bx) (ay - b_y) ≤ d * d)) := by
  obtain ⟨e, hb⟩ := square h1 h2 h3 h4
  unfold plane_Within.f
  by_cases c1 : d ≥ 0
  · rw [if_pos c1]
    by_cases c2 : d ≤ 8000000
    · have q := sq_bd (show -8000000 ≤ d by omega) c2
      have q2 := sq_nonneg d
      rw [if_pos c2, e, Option.bind_some, w64 (by omega) (by omega)]
      congr 1
      exact decide_eq_decide.2 ⟨fun h => ⟨c1, c2, h⟩, fun h => h.2.2⟩
    · rw [if_neg c2]
      congr 1
      exact (decide_eq_false (fun h => c2 h.2.1)).symm
  · rw [if_neg c1]
    congr 1
    exact (decide_eq_false (fun h => c1 h.1)).symm
theorem down (k : Nat) (a b : Int) (a1 : -9223372036854775808 ≤ a) (a2 : a ≤ 9223372036854775807) (hb : b ≠ 0) (hno : ¬ (a = -9223372036854775808 ∧ b = -1)) : num_DivDown.f (k + 1) a b = some (Int.fdiv a b, 0) := by
  obtain ⟨r1, r2⟩ := fdiv_range a1 a2 hb hno
  have hf := tdiv_floor a b hb
  have main : num_DivDown.j0 (k + 1) a b false = some (Int.fdiv a b, 0) := by
    rw [num_DivDown.j0, if_neg (by decide), if_neg hb]
    by_cases h0 : Int.tmod a b = 0
    · rw [if_pos h0] at hf ⊢
      rw [hf, w64 r1 r2]
    · rw [if_neg h0] at hf ⊢
      by_cases hs : ((decide (a < 0)) != (decide (b < 0))) = true
      · rw [if_pos hs] at hf ⊢
        have ht : -9223372036854775808 ≤ Int.tdiv a b ∧ Int.tdiv a b ≤ 9223372036854775807 := by
          refine ⟨by omega, ?_⟩
          have h1 := Int.tdiv_nonpos_of_nonneg_of_nonpos (a := a) (b := b)
          by_cases ha : a < 0
          · have hb' : 0 < b := by
              simp [ha] at hs
              omega
            have h2 : Int.tdiv a b ≤ 0 := by
              have := Int.tdiv_nonneg (a := -a) (b := b) (by omega) (by omega)
              rw [Int.neg_tdiv] at this
              omega
            omega
          · have hb' : b < 0 := by
              simp [ha] at hs
              exact hs
            have := h1 (by omega) (by omega)
            omega
        rw [w64 ht.1 ht.2, hf, w64 r1 r2]
      · rw [if_neg hs] at hf ⊢
        rw [hf, w64 r1 r2]
  rw [num_DivDown.f, if_neg hb]
  by_cases ha : a = -9223372036854775808
  · rw [if_pos ha]
    have : (b == -1) = false := beq_eq_false_iff_ne.mpr (fun h => hno ⟨ha, h⟩)
    rw [this]
    exact main
  · rw [if_neg ha]
    exact main
theorem down_pos (k : Nat) (a b : Int) (a1 : -9223372036854775808 ≤ a) (a2 : a ≤ 9223372036854775807) (hb : 0 < b) : num_DivDown.f (k + 1) a b = some (a / b, 0) := by
  rw [down k a b a1 a2 (by omega) (by omega), fdiv_pos hb]
theorem check_f (x y : Int) : plane_Check.f x y = some (if Ok x y then 0 else 4) := by
  unfold plane_Check.f
  by_cases c : Ok x y
  · rw [if_pos c]
    obtain ⟨c1, c2, c3, c4⟩ := c
    rw [if_neg (by omega), if_neg (by omega), if_neg (by omega), if_neg (by omega)]
  · rw [if_neg c]
    by_cases c1 : x < -1000000
    · rw [if_pos c1]
    · rw [if_neg c1]
      by_cases c2 : x > 1000000
      · rw [if_pos c2]
      · rw [if_neg c2]
        by_cases c3 : y < -1000000
        · rw [if_pos c3]
        · rw [if_neg c3, if_pos (by
            rcases Int.lt_or_le 1000000 y with h | h
            · exact h
            · exact absurd (show Ok x y from ⟨by omega, by omega, by omega, h⟩) c)]
theorem toward_bad (k : Nat) {ax ay bx b_y n d : Int} (h0 : 0 < d) (h1 : d ≤ 200000) (h2 : 0 ≤ n) (h3 : n ≤ d) (h : ¬ (Ok ax ay ∧ Ok bx b_y)) : plane_Toward.f (k + 2) ax ay bx b_y n d = some (0, 0, 4) := by
  unfold plane_Toward.f
  rw [if_neg (by omega), if_neg (by omega), if_neg (by omega), if_neg (by omega), check_f, check_f, Option.bind_some, Option.bind_some]
  by_cases ha : Ok ax ay
  · have hb : ¬ Ok bx b_y := fun hb => h ⟨ha, hb⟩
    rw [if_pos ha, if_neg hb, if_pos rfl, plane_Toward.j0, if_pos (by decide)]
  · rw [if_neg ha, if_neg (by decide), plane_Toward.j0, if_pos rfl]
theorem lin_bd {D n d : Int} (h0 : 0 < d) (h1 : d ≤ 200000) (h2 : 0 ≤ n) (h3 : n ≤ d) (h4 : -2000000 ≤ D) (h5 : D ≤ 2000000) :
    -400000000000 ≤ D * n ∧ D * n ≤ 400000000000 ∧ -2000000 ≤ D * n / d ∧ D * n / d ≤ 2000000 := by
  have m := mul_bd h4 h5 (show -200000 ≤ n by omega) (show n ≤ 200000 by omega)
  refine ⟨by omega, by omega, (Int.le_ediv_iff_mul_le h0).2 ?_, ?_⟩
  · have h6 := Int.mul_le_mul_of_nonneg_left h3 (show (0 : Int) ≤ 2000000 by decide)
    have h7 := Int.mul_nonneg (show 0 ≤ D + 2000000 by omega) h2
    rw [Int.add_mul] at h7
    omega
  · have : D * n / d < 2000001 := by
      refine (Int.ediv_lt_iff_lt_mul h0).2 ?_
      have h6 := Int.mul_le_mul_of_nonneg_left h3 (show (0 : Int) ≤ 2000000 by decide)
      have h7 := Int.mul_nonneg (show 0 ≤ 2000000 - D by omega) h2
      rw [Int.sub_mul] at h7
      omega
    omega
theorem toward (k : Nat) {ax ay bx b_y n d : Int} (h0 : 0 < d) (h1 : d ≤ 200000) (h2 : 0 ≤ n) (h3 : n ≤ d) (ha : Ok ax ay) (hb : Ok bx b_y) :
    plane_Toward.f (k + 2) ax ay bx b_y n d = some (ax + (bx - ax) * n / d, ay + (b_y - ay) * n / d, 0) := by
  obtain ⟨a1, a2, a3, a4⟩ := id ha
  obtain ⟨b1, b2, b3, b4⟩ := id hb
  obtain ⟨m1, m2, m3, m4⟩ := lin_bd h0 h1 h2 h3 (show -2000000 ≤ bx - ax by omega) (show bx - ax ≤ 2000000 by omega)
  obtain ⟨n1, n2, n3, n4⟩ := lin_bd h0 h1 h2 h3 (show -2000000 ≤ b_y - ay by omega) (show b_y - ay ≤ 2000000 by omega)
  unfold plane_Toward.f
  rw [if_neg (by omega), if_neg (by omega), if_neg (by omega), if_neg (by omega), check_f, check_f, Option.bind_some, Option.bind_some, if_pos ha, if_pos hb, if_pos rfl, plane_Toward.j0, if_neg (by decide)]
  rw [w64 (x := bx - ax) (by omega) (by omega), w64 (x := b_y - ay) (by omega) (by omega), w64 (x := (bx - ax) * n) (by omega) (by omega), w64 (x := (b_y - ay) * n) (by omega) (by omega)]
  rw [down_pos k _ d (by omega) (by omega) h0, down_pos k _ d (by omega) (by omega) h0, Option.bind_some, Option.bind_some, w64 (by omega) (by omega), w64 (by omega) (by omega)]
/-- A permitted motion. -/
def MOk (t0 t1 ax ay bx b_y : Int) : Prop := (0 ≤ t0 ∧ t1 ≤ 200000 ∧ t0 < t1) ∧ Ok ax ay ∧ Ok bx b_y
instance (t0 t1 ax ay bx b_y : Int) : Decidable (MOk t0 t1 ax ay bx b_y) := inferInstanceAs (Decidable (_ ∧ _))
def mChk (t0 t1 ax ay bx b_y : Int) : Int := if 0 ≤ t0 ∧ t1 ≤ 200000 ∧ t0 < t1 then (if Ok ax ay then (if Ok bx b_y then 0 else 4) else 4) else 12
theorem mChk_iff (t0 t1 ax ay bx b_y : Int) : mChk t0 t1 ax ay bx b_y = 0 ↔ MOk t0 t1 ax ay bx b_y := by
  unfold mChk MOk
  by_cases h : 0 ≤ t0 ∧ t1 ≤ 200000 ∧ t0 < t1
  · rw [if_pos h]
    by_cases ha : Ok ax ay
    · rw [if_pos ha]
      by_cases hb : Ok bx b_y
      · rw [if_pos hb]; exact ⟨fun _ => ⟨h, ha, hb⟩, fun _ => rfl⟩
      · rw [if_neg hb]; exact ⟨fun h => by omega, fun h => absurd h.2.2 hb⟩
    · rw [if_neg ha]; exact ⟨fun h => by omega, fun h => absurd h.2.1 ha⟩
  · rw [if_neg h]; exact ⟨fun h => by omega, fun h' => absurd h'.1 h⟩
theorem mcheck (k : Nat) (t0 t1 ax ay bx b_y : Int) : motion_Check.f (k + 1) t0 t1 ax ay bx b_y = some (mChk t0 t1 ax ay bx b_y) := by
  unfold motion_Check.f mChk
  by_cases h1 : t0 < 0
  · rw [if_pos h1, motion_Check.j0, if_pos rfl, if_neg (by omega)]
  · rw [if_neg h1]
    by_cases h2 : t1 > 200000
    · rw [if_pos h2, motion_Check.j0, if_pos rfl, if_neg (by omega)]
    · rw [if_neg h2]
      by_cases h3 : t0 ≥ t1
      · rw [motion_Check.j0, if_pos (decide_eq_true h3), if_neg (by omega)]
      · rw [motion_Check.j0, if_neg (by simpa using h3), if_pos (by omega), check_f, check_f, Option.bind_some]
        by_cases ha : Ok ax ay
        · rw [if_pos ha, if_pos rfl, Option.bind_some, if_pos ha]
        · rw [if_neg ha, if_neg (by decide), if_neg ha]
/-- A coordinate at a time. -/
def pos (t0 t1 a b t : Int) : Int := a + (b - a) * (t - t0) / (t1 - t0)
theorem pos_bd {t0 t1 a b t : Int} (h : 0 ≤ t0 ∧ t1 ≤ 200000 ∧ t0 < t1) (h1 : t0 ≤ t) (h2 : t ≤ t1) (a1 : -1000000 ≤ a) (a2 : a ≤ 1000000) (b1 : -1000000 ≤ b) (b2 : b ≤ 1000000) :
    -3000000 ≤ pos t0 t1 a b t ∧ pos t0 t1 a b t ≤ 3000000 := by
  obtain ⟨_, _, m3, m4⟩ := lin_bd (D := b - a) (n := t - t0) (d := t1 - t0) (by omega) (by omega) (by omega) (by omega) (by omega) (by omega)
  unfold pos
  omega
theorem mat (k : Nat) {t0 t1 ax ay bx b_y t : Int} (h : MOk t0 t1 ax ay bx b_y) (h1 : t0 ≤ t) (h2 : t ≤ t1) :
    motion_at.f (k + 2) t0 t1 ax ay bx b_y t = some (pos t0 t1 ax bx t, pos t0 t1 ay b_y t) := by
  obtain ⟨⟨c1, c2, c3⟩, ha, hb⟩ := h
  unfold motion_at.f
  rw [w64 (x := t - t0) (by omega) (by omega), w64 (x := t1 - t0) (by omega) (by omega), toward k (by omega) (by omega) (by omega) (by omega) ha hb, Option.bind_some]
  rfl
theorem mAt_ok (k : Nat) {t0 t1 ax ay bx b_y t : Int} (h : MOk t0 t1 ax ay bx b_y) (h1 : t0 ≤ t) (h2 : t ≤ t1) :
    motion_At.f (k + 2) t0 t1 ax ay bx b_y t = some (pos t0 t1 ax bx t, pos t0 t1 ay b_y t, 0) := by
  unfold motion_At.f
  rw [mcheck, Option.bind_some, if_pos ((mChk_iff _ _ _ _ _ _).2 h), if_neg (by omega), if_neg (by omega), mat k h h1 h2, Option.bind_some]
theorem mAt_out (k : Nat) {t0 t1 ax ay bx b_y t : Int} (h : MOk t0 t1 ax ay bx b_y) (h1 : ¬ (t0 ≤ t ∧ t ≤ t1)) :
    motion_At.f (k + 2) t0 t1 ax ay bx b_y t = some (0, 0, 12) := by
  unfold motion_At.f
  rw [mcheck, Option.bind_some, if_pos ((mChk_iff _ _ _ _ _ _).2 h)]
  by_cases c : t < t0
  · rw [if_pos c]
  · rw [if_neg c, if_pos (by omega)]
theorem sq_pos {t0 t1 ax ay bx b_y u0 u1 cx cy dx dy t : Int} (h : MOk t0 t1 ax ay bx b_y) (g : MOk u0 u1 cx cy dx dy) (h1 : t0 ≤ t) (h2 : t ≤ t1) (g1 : u0 ≤ t) (g2 : t ≤ u1) :
    plane_Square.f (pos t0 t1 ax bx t) (pos t0 t1 ay b_y t) (pos u0 u1 cx dx t) (pos u0 u1 cy dy t) = some (S (pos t0 t1 ax bx t - pos u0 u1 cx dx t) (pos t0 t1 ay b_y t - pos u0 u1 cy dy t)) := by
  obtain ⟨c, ⟨a1, a2, a3, a4⟩, b1, b2, b3, b4⟩ := h
  obtain ⟨d, ⟨e1, e2, e3, e4⟩, f1, f2, f3, f4⟩ := g
  have p1 := pos_bd c h1 h2 a1 a2 b1 b2
  have p2 := pos_bd c h1 h2 a3 a4 b3 b4
  have p3 := pos_bd d g1 g2 e1 e2 f1 f2
  have p4 := pos_bd d g1 g2 e3 e4 f3 f4
  exact (square (by omega) (by omega) (by omega) (by omega)).1
theorem mspeed (k : Nat) {t0 t1 ax ay bx b_y s d r low : Int} (h : MOk t0 t1 ax ay bx b_y) (hs : s = S (ax - bx) (ay - b_y)) (hd : d = t1 - t0) (hr : r = rootI s) (hl : low = r / d) :
    motion_Speed.f (k + 1) t0 t1 ax ay bx b_y = some (low, (if low * d * (low * d) < s then low + 1 else low), 0) ∧ 0 ≤ low ∧ low ≤ 3000000 ∧ r < (low + 1) * d ∧ r * r ≤ s ∧ s < (r + 1) * (r + 1) ∧ 0 ≤ r := by
  obtain ⟨⟨c1, c2, c3⟩, ⟨a1, a2, a3, a4⟩, b1, b2, b3, b4⟩ := id h
  have hs0 := S_nonneg (ax - bx) (ay - b_y)
  have hsb : S (ax - bx) (ay - b_y) ≤ 8000000000000 := by
    have := sq_bd (show -2000000 ≤ ax - bx by omega) (show ax - bx ≤ 2000000 by omega)
    have := sq_bd (show -2000000 ≤ ay - b_y by omega) (show ay - b_y ≤ 2000000 by omega)
    unfold S; omega
  have e := (square (ax := ax) (ay := ay) (bx := bx) (b_y := b_y) (by omega) (by omega) (by omega) (by omega)).1
  rw [← hs] at hs0 hsb e
  obtain ⟨r1, r2⟩ := rootI_spec hs0
  have r0 := rootI_nonneg s
  rw [← hr] at r0 r1 r2
  have r3 : r ≤ 3000000 := sq_le (by decide) (by omega)
  have d0 : 0 < d := by omega
  have l0 : 0 ≤ low := by rw [hl]; exact Int.ediv_nonneg r0 (by omega)
  have l1 : low ≤ r := by rw [hl]; exact Int.ediv_le_self _ r0
  have l2 := floor_le (a := r) d0
  have l3 := lt_floor (a := r) d0
  rw [← hl] at l2 l3
  refine ⟨?_, l0, by omega, l3, r1, r2, r0⟩
  have m0 := Int.mul_nonneg l0 (Int.le_of_lt d0)
  have m1 := mul_bd (show -3000000 ≤ low * d by omega) (show low * d ≤ 3000000 by omega) (show -3000000 ≤ low by omega) (show low ≤ 3000000 by omega)
  have m2 := mul_bd (show -9000000000000 ≤ low * d * low by omega) (show low * d * low ≤ 9000000000000 by omega) (show -200000 ≤ d by omega) (show d ≤ 200000 by omega)
  have e3 : low * d * low * d = low * d * (low * d) := by grind
  unfold motion_Speed.f
  rw [mcheck, Option.bind_some, if_pos ((mChk_iff _ _ _ _ _ _).2 h), e, Option.bind_some, root_f (by omega), Option.bind_some, ← hr, w64 (x := t1 - t0) (by omega) (by omega), ← hd, if_neg (by omega),
    Int.tdiv_eq_ediv_of_nonneg r0, ← hl, w64 (x := low) (by omega) (by omega), w64 (x := low * d) (by omega) (by omega), w64 (x := low * d * low) (by omega) (by omega), w64 (x := low * d * low * d) (by omega) (by omega), e3, w64 (x := low + 1) (by omega) (by omega)]
  split <;> rfl
theorem mworks (k : Nat) : skywaykeep1_motionWorks.f (k + 2) = some true := by
  have h : MOk 0 4 0 0 10 0 := by decide
  have e : rootI 100 = 10 := rootI_eq (by decide) (by decide) (by decide)
  have hs := (mspeed (k + 1) (s := 100) (d := 4) (r := 10) (low := 2) h (by decide) (by decide) e.symm (by decide)).1
  unfold skywaykeep1_motionWorks.f
  rw [mAt_ok k h (by decide) (by decide), hs, Option.bind_some, Option.bind_some]
  decide
/-- One coordinate's step in a second. -/
theorem step {x n d : Int} (hd : 0 < d) : ∃ e, ((x * (n + 1) / d) - (x * n / d)) * d = x + e ∧ -d ≤ e ∧ e ≤ d := by
  have a1 := floor_le (a := x * n) hd
  have a2 := lt_floor (a := x * n) hd
  have a3 := floor_le (a := x * (n + 1)) hd
  have a4 := lt_floor (a := x * (n + 1)) hd
  refine ⟨((x * (n + 1) / d) - (x * n / d)) * d - x, by omega, ?_⟩
  rw [Int.mul_add, Int.mul_one] at *
  generalize (x * n + x) / d = u at *
  generalize x * n / d = v at *
  rw [Int.add_mul] at *
  rw [Int.sub_mul]
  omega
theorem apart {x y d fx fy H s : Int} (hd : 0 < d) (hx : ∃ e, fx * d = x + e ∧ -d ≤ e ∧ e ≤ d) (hy : ∃ e, fy * d = y + e ∧ -d ≤ e ∧ e ≤ d) (hH : 0 ≤ H) (hs : S x y = s) (h : s ≤ H * d * (H * d)) :
    S fx fy ≤ (H + 2) * (H + 2) := by
  obtain ⟨ex, hx, hx1, hx2⟩ := hx
  obtain ⟨ey, hy, hy1, hy2⟩ := hy
  have he : ex * ex + ey * ey ≤ (2 * d) * (2 * d) := by
    have h1 := sq_bd hx1 hx2
    have h2 := sq_bd hy1 hy2
    have h3 := sq_nonneg d
    have e : (2 * d) * (2 * d) = 4 * (d * d) := by grind
    omega
  have t := tri (p1 := x) (p2 := y) (q1 := ex) (q2 := ey) (A := H * d) (B := 2 * d) (Int.mul_nonneg hH (by omega)) (by omega) (by unfold S at hs; omega) he
  rw [← hx, ← hy] at t
  have e1 : fx * d * (fx * d) + fy * d * (fy * d) = S fx fy * (d * d) := by unfold S; grind
  have e2 : (H * d + 2 * d) * (H * d + 2 * d) = (H + 2) * (H + 2) * (d * d) := by grind
  rw [e1, e2] at t
  exact Int.le_of_mul_le_mul_right t (Int.mul_pos hd hd)
theorem MotionSpeed : skywaykeep1_MotionSpeed.Pure := by
  intro t0 t1 ax ay bx b_y t _ _ _ _ _ _ ht
  rw [wf64] at ht
  refine ⟨4, ?_⟩
  unfold skywaykeep1_MotionSpeed.f
  rw [mworks 2, Option.bind_some, if_pos rfl]
  by_cases h : MOk t0 t1 ax ay bx b_y
  · obtain ⟨d, hd⟩ : ∃ d, d = t1 - t0 := ⟨_, rfl⟩
    obtain ⟨s, hs⟩ : ∃ s, s = S (ax - bx) (ay - b_y) := ⟨_, rfl⟩
    obtain ⟨low, hl⟩ : ∃ low, low = rootI s / d := ⟨_, rfl⟩
    obtain ⟨e, l0, l1, l2, r1, r2, r0⟩ := mspeed 3 h hs hd rfl hl
    have hH : ∃ H, H = (if low * d * (low * d) < s then low + 1 else low) ∧ s ≤ H * d * (H * d) ∧ low ≤ H ∧ H ≤ low + 1 := by
      refine ⟨_, rfl, ?_⟩
      split
      · refine ⟨?_, by omega, by omega⟩
        have := Int.mul_le_mul (show rootI s + 1 ≤ (low + 1) * d by omega) (show rootI s + 1 ≤ (low + 1) * d by omega) (by omega) (by omega)
        omega
      · exact ⟨by omega, by omega, by omega⟩
    obtain ⟨H, hHe, hH1, hH2, hH3⟩ := hH
    rw [e, ← hHe, Option.bind_some, if_pos rfl]
    obtain ⟨⟨c1, c2, c3⟩, ha, hb⟩ := id h
    have k2 := tmod_bd t (show (0 : Int) < d by omega)
    rw [w64 (x := t1 - t0) (by omega) (by omega), ← hd, if_neg (by omega), w64 (x := Int.tmod t d + t1) (by omega) (by omega), w64 (x := Int.tmod t d + t1 - t0) (by omega) (by omega), Int.tmod_eq_emod_of_nonneg (show 0 ≤ Int.tmod t d + t1 - t0 by omega)]
    have k3 := Int.emod_nonneg (Int.tmod t d + t1 - t0) (show d ≠ 0 by omega)
    have k4 := Int.emod_lt_of_pos (Int.tmod t d + t1 - t0) (show 0 < d by omega)
    generalize (Int.tmod t d + t1 - t0) % d = n at *
    rw [w64 (x := t0 + n) (by omega) (by omega), w64 (x := t0 + n + 1) (by omega) (by omega), mAt_ok 2 h (by omega) (by omega), mAt_ok 2 h (by omega) (by omega), Option.bind_some, Option.bind_some, if_pos rfl, if_pos rfl, w64 (x := H - low) (by omega) (by omega), if_pos (by omega), w64 (x := H + 2) (by omega) (by omega)]
    obtain ⟨a1, a2, a3, a4⟩ := ha
    obtain ⟨b1, b2, b3, b4⟩ := hb
    have p1 := pos_bd (t := t0 + n) ⟨c1, c2, c3⟩ (by omega) (by omega) a1 a2 b1 b2
    have p2 := pos_bd (t := t0 + n) ⟨c1, c2, c3⟩ (by omega) (by omega) a3 a4 b3 b4
    have p3 := pos_bd (t := t0 + n + 1) ⟨c1, c2, c3⟩ (by omega) (by omega) a1 a2 b1 b2
    have p4 := pos_bd (t := t0 + n + 1) ⟨c1, c2, c3⟩ (by omega) (by omega) a3 a4 b3 b4
    dsimp only
    rw [within (by omega) (by omega) (by omega) (by omega), Option.bind_some]
    congr 1
    refine decide_eq_true ⟨by omega, by omega, ?_⟩
    have q : ∀ a b : Int, pos t0 t1 a b (t0 + n) - pos t0 t1 a b (t0 + n + 1) = -(((b - a) * (n + 1) / d) - ((b - a) * n / d)) := by
      intro a b
      unfold pos
      rw [← hd, show t0 + n - t0 = n by omega, show t0 + n + 1 - t0 = n + 1 by omega]
      omega
    have sn : ∀ x y : Int, S (-x) (-y) = S x y := fun x y => by unfold S; grind
    rw [q, q, sn]
    refine apart (x := bx - ax) (y := b_y - ay) (s := s) (by omega) (step (by omega)) (step (by omega)) (by omega) ?_ hH1
    rw [hs, ← sn, show -(bx - ax) = ax - bx by omega, show -(b_y - ay) = ay - b_y by omega]
  · have hc : mChk t0 t1 ax ay bx b_y ≠ 0 := fun c => h ((mChk_iff _ _ _ _ _ _).1 c)
    have e : motion_Speed.f 4 t0 t1 ax ay bx b_y = some (0, 0, mChk t0 t1 ax ay bx b_y) := by
      unfold motion_Speed.f
      rw [mcheck 3, Option.bind_some, if_neg hc]
    rw [e, Option.bind_some, if_neg hc, if_pos rfl, if_pos rfl, mcheck 3, Option.bind_some]
    simp

end Go.Proofs.Yteaddpieonkboaa.Pure
