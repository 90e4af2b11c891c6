/- AngleBack: the direction of a long vector is that with which it was made. -/
import Derived.Test.YthpbpdobghceeaaDoorPAngleBackx
import Derived.Test.YthpbpdobghceeaaDoorMath
namespace Go.Proofs.YthpbpdobghceeaaDoor.Pure
open Go Go.RowKit Go.Proofs.YthpbpdobghceeaaDoor Go.Proofs.YthpbpdobghceeaaDoor.PAngleBack Go.Proofs.YthpbpdobghceeaaDoorW.PrintWords Go.Proofs.YthpbpdobghceeaaDoorW.PrintLast Go.Proofs.YthpbpdobghceeaaDoorM
open RootF
/-- The distance, rounded up. -/
def up (s : Int) : Int := if rootI s * rootI s < s then rootI s + 1 else rootI s
theorem up_spec {s : Int} (h : 0 ≤ s) : s ≤ up s * up s ∧ rootI s ≤ up s ∧ up s ≤ rootI s + 1 := by
  obtain ⟨h1, h2⟩ := rootI_spec h
  unfold up
  split
  · exact ⟨by omega, by omega, by omega⟩
  · exact ⟨by omega, by omega, by omega⟩
def S (x y : Int) : Int := x * x + y * y
theorem S_nonneg (x y : Int) : 0 ≤ S x y := by have := sq_nonneg x; have := sq_nonneg y; unfold S; omega
theorem square {ax ay bx b_y : Int} (h1 : -2000000000 ≤ ax - bx) (h2 : ax - bx ≤ 2000000000) (h3 : -2000000000 ≤ ay - b_y) (h4 : ay - b_y ≤ 2000000000) :
    plane_Square.f ax ay bx b_y = some (S (ax - bx) (ay - b_y)) ∧ S (ax - bx) (ay - b_y) ≤ 8000000000000000000 := by
  have q1 := sq_bd h1 h2
  have q2 := sq_bd h3 h4
  have p1 := sq_nonneg (ax - bx)
  have p2 := sq_nonneg (ay - b_y)
  refine ⟨?_, by unfold S; omega⟩
  unfold plane_Square.f plane_Sub.f plane_Dot.f S
  rw [w64 (by omega) (by omega), w64 (by omega) (by omega)]
  simp only [Option.bind_some]
  rw [w64 (x := (ax - bx) * (ax - bx)) (by omega) (by omega), w64 (x := (ay - b_y) * (ay - b_y)) (by omega) (by omega), w64 (by omega) (by omega)]
theorem root_f {s : Int} (h : s ≤ 9223372036854775807) : num_Root.f s = some (rootI s) := by unfold num_Root.f; rw [if_pos h]
theorem root_lt {s : Int} (h0 : 0 ≤ s) (h : s ≤ 8000000000000000000) : rootI s ≤ 3000000000 := by
  obtain ⟨h1, _⟩ := rootI_spec h0
  exact sq_le (by decide) (by omega)
theorem distance {ax ay bx b_y : Int} (h1 : -2000000000 ≤ ax - bx) (h2 : ax - bx ≤ 2000000000) (h3 : -2000000000 ≤ ay - b_y) (h4 : ay - b_y ≤ 2000000000) :
    plane_Distance.f ax ay bx b_y = some (rootI (S (ax - bx) (ay - b_y)), up (S (ax - bx) (ay - b_y))) := by
  obtain ⟨e, hb⟩ := square h1 h2 h3 h4
  have h0 := S_nonneg (ax - bx) (ay - b_y)
  unfold plane_Distance.f
  rw [e]
  generalize S (ax - bx) (ay - b_y) = s at *
  have r0 := rootI_nonneg s
  have r1 := root_lt h0 hb
  have r2 := (rootI_spec h0).1
  have r3 := sq_nonneg (rootI s)
  rw [Option.bind_some, root_f (by omega), Option.bind_some, w64 (by omega) (by omega)]
  unfold up
  split
  · rw [w64 (by omega) (by omega)]
  · rfl
theorem of_bad {x y : Int} (h : x < -2000000 ∨ 2000000 < x ∨ y < -2000000 ∨ 2000000 < y) : angle_Of.f x y = some (0, 4) := by
  unfold angle_Of.f
  by_cases c1 : x < -2000000
  · rw [if_pos c1]
  by_cases c2 : 2000000 < x
  · rw [if_neg c1, if_pos c2]
  by_cases c3 : y < -2000000
  · rw [if_neg c1, if_neg c2, if_pos c3]
  by_cases c4 : 2000000 < y
  · rw [if_neg c1, if_neg c2, if_neg c3, if_pos c4]
  omega
theorem of_zero : angle_Of.f 0 0 = some (0, 10) := by decide
theorem of_good {x y : Int} (x1 : -2000000 ≤ x) (x2 : x ≤ 2000000) (y1 : -2000000 ≤ y) (y2 : y ≤ 2000000) (h : x ≠ 0 ∨ y ≠ 0) : angle_Of.f x y = some (Ang.ofI x y, 0) := by
  unfold angle_Of.f
  rw [if_neg (by omega), if_neg (by omega), if_neg (by omega), if_neg (by omega), if_neg (by omega)]
theorem aworks : skywaykeep1_angleWorks.f = some true := by decide +kernel
theorem scaled_f {L s : Int} (l0 : 0 ≤ L) (l1 : L ≤ 2000000) (s1 : -16384 ≤ s) (s2 : s ≤ 16384) : ∃ r e, angle_scaled.f L s = some r ∧ 16384 * r = L * s + e ∧ -8192 ≤ e ∧ e ≤ 8192 := by
  obtain ⟨p1, p2⟩ := Ang.prod_bd (show -2000000 ≤ L by omega) l1 s1 s2
  unfold angle_scaled.f
  generalize L * s = n at *
  rw [show wrap64 n = n by unfold wrap64; omega]
  by_cases c : n < 0
  · rw [if_pos c, show wrap64 (-n) = -n by unfold wrap64; omega, show wrap64 (-n + 8192) = -n + 8192 by unfold wrap64; omega, Int.tdiv_eq_ediv_of_nonneg (by omega),
      show wrap64 ((-n + 8192) / 16384) = (-n + 8192) / 16384 by unfold wrap64; omega, show wrap64 (-((-n + 8192) / 16384)) = -((-n + 8192) / 16384) by unfold wrap64; omega]
    exact ⟨_, 16384 * -((-n + 8192) / 16384) - n, rfl, by omega, by omega, by omega⟩
  · rw [if_neg c, show wrap64 (n + 8192) = n + 8192 by unfold wrap64; omega, Int.tdiv_eq_ediv_of_nonneg (by omega), show wrap64 ((n + 8192) / 16384) = (n + 8192) / 16384 by unfold wrap64; omega]
    exact ⟨_, 16384 * ((n + 8192) / 16384) - n, rfl, by omega, by omega, by omega⟩
theorem sum_abs {s c : Int} (h : s * s + c * c ≤ 268468224) (u v : Int) (hu : u * u = s * s) (hv : v * v = c * c) : u + v ≤ 23200 := by
  by_cases h2 : u + v ≤ 23200
  · exact h2
  · have h3 : 23201 * 23201 ≤ (u + v) * (u + v) := Int.mul_le_mul (by omega) (by omega) (by omega) (by omega)
    have h4 : 0 ≤ (u - v) * (u - v) := sq_nonneg _
    have h5 : (u + v) * (u + v) + (u - v) * (u - v) = 2 * (u * u + v * v) := by grind
    omega
theorem term_bd {s a u : Int} (hu : u = s ∨ u = -s) (u0 : 0 ≤ u) (a1 : -8192 ≤ a) (a2 : a ≤ 8192) : -(u * 8192) ≤ s * a ∧ s * a ≤ u * 8192 := Ang.prod_bd (by omega) (by omega) a1 a2
theorem dots {s c a b : Int} (h : s * s + c * c ≤ 268468224) (a1 : -8192 ≤ a) (a2 : a ≤ 8192) (b1 : -8192 ≤ b) (b2 : b ≤ 8192) : -190054400 ≤ s * a + c * b ∧ s * a + c * b ≤ 190054400 := by
  obtain ⟨u, hu, u0⟩ : ∃ u, (u = s ∨ u = -s) ∧ 0 ≤ u := ⟨if 0 ≤ s then s else -s, by split <;> omega, by split <;> omega⟩
  obtain ⟨v, hv, v0⟩ : ∃ v, (v = c ∨ v = -c) ∧ 0 ≤ v := ⟨if 0 ≤ c then c else -c, by split <;> omega, by split <;> omega⟩
  have e1 : u * u = s * s := by rcases hu with rfl | rfl <;> grind
  have e2 : v * v = c * c := by rcases hv with rfl | rfl <;> grind
  have h1 := sum_abs h u v e1 e2
  obtain ⟨t1, t2⟩ := term_bd hu u0 a1 a2
  obtain ⟨t3, t4⟩ := term_bd hv v0 b1 b2
  omega
/-- How long a vector is that was made. -/
theorem long_bd {L s c x y a b : Int} (l1 : 10000 ≤ L) (l2 : L ≤ 1009999) (n1 : 268402688 ≤ s * s + c * c) (n2 : s * s + c * c ≤ 268468224) (hx : 16384 * x = L * s + a) (hy : 16384 * y = L * c + b) (a1 : -8192 ≤ a) (a2 : a ≤ 8192) (b1 : -8192 ≤ b) (b2 : b ≤ 8192) :
    (L - 2 - L / 16384) * (L - 2 - L / 16384) ≤ x * x + y * y ∧ x * x + y * y ≤ (L + 2 + L / 16384) * (L + 2 + L / 16384) := by
  have key : 268435456 * (x * x + y * y) = (L * L) * (s * s + c * c) + 2 * (L * (s * a + c * b)) + (a * a + b * b) := by
    have e : 268435456 * (x * x + y * y) = (16384 * x) * (16384 * x) + (16384 * y) * (16384 * y) := by grind
    rw [e, hx, hy]
    grind
  obtain ⟨d1, d2⟩ := dots n2 a1 a2 b1 b2
  have q1 : 0 ≤ a * a := sq_nonneg a
  have q2 : 0 ≤ b * b := sq_nonneg b
  have q3 : a * a ≤ 8192 * 8192 := (Ang.prod_bd a1 a2 a1 a2).2
  have q4 : b * b ≤ 8192 * 8192 := (Ang.prod_bd b1 b2 b1 b2).2
  have p0 : 0 ≤ L * L := sq_nonneg L
  have m1 : (L * L) * 268402688 ≤ (L * L) * (s * s + c * c) := Int.mul_le_mul_of_nonneg_left n1 p0
  have m2 : (L * L) * (s * s + c * c) ≤ (L * L) * 268468224 := Int.mul_le_mul_of_nonneg_left n2 p0
  have m3 : L * -190054400 ≤ L * (s * a + c * b) := Int.mul_le_mul_of_nonneg_left d1 (by omega)
  have m4 : L * (s * a + c * b) ≤ L * 190054400 := Int.mul_le_mul_of_nonneg_left d2 (by omega)
  obtain ⟨q, r, hq, hr, hL⟩ : ∃ q r, L / 16384 = q ∧ (0 ≤ r ∧ r < 16384) ∧ L = 16384 * q + r := ⟨L / 16384, L % 16384, rfl, by omega, by omega⟩
  rw [hq]
  have f0 : L * L = 16384 * (L * q) + L * r := by
    have : L * L = L * (16384 * q + r) := by rw [← hL]
    rw [this]; grind
  have f1 : 0 ≤ L * r := Int.mul_nonneg (by omega) hr.1
  have f2 : L * r ≤ L * 16384 := Int.mul_le_mul_of_nonneg_left (by omega) (by omega)
  have f3 : (2 + q) * (2 + q) ≤ 3969 := by
    have : (2 + q) * (2 + q) ≤ 63 * 63 := Int.mul_le_mul (by omega) (by omega) (by omega) (by omega)
    omega
  have f4 : 0 ≤ (2 + q) * (2 + q) := sq_nonneg _
  have g1 : (L - 2 - q) * (L - 2 - q) = L * L - 4 * L - 2 * (L * q) + (2 + q) * (2 + q) := by grind
  have g2 : (L + 2 + q) * (L + 2 + q) = L * L + 4 * L + 2 * (L * q) + (2 + q) * (2 + q) := by grind
  rw [g1, g2]
  generalize (2 + q) * (2 + q) = Z at *
  generalize L * q = Lq at *
  generalize L * r = Lr at *
  generalize (L * L) * (s * s + c * c) = LN at *
  generalize L * (s * a + c * b) = LD at *
  generalize L * L = LL at *
  generalize x * x + y * y = W at *
  generalize a * a = A at *
  generalize b * b = B at *
  omega
theorem le_root {K s : Int} (h0 : 0 ≤ s) (k0 : 0 ≤ K) (h : K * K ≤ s) : K ≤ rootI s := by
  obtain ⟨_, r2⟩ := rootI_spec h0
  by_cases c : K ≤ rootI s
  · exact c
  · have := rootI_nonneg s
    have : (rootI s + 1) * (rootI s + 1) ≤ K * K := Int.mul_le_mul (by omega) (by omega) (by omega) (by omega)
    omega
theorem up_le {H s : Int} (h0 : 0 ≤ s) (k0 : 0 ≤ H) (h : s ≤ H * H) : up s ≤ H := by
  obtain ⟨r1, _⟩ := rootI_spec h0
  have r3 := rootI_nonneg s
  unfold up
  split
  · by_cases c : rootI s + 1 ≤ H
    · exact c
    · have : H * H ≤ rootI s * rootI s := Int.mul_le_mul (by omega) (by omega) (by omega) (by omega)
      omega
  · by_cases c : rootI s ≤ H
    · exact c
    · have : (H + 1) * (H + 1) ≤ rootI s * rootI s := Int.mul_le_mul (by omega) (by omega) (by omega) (by omega)
      have e : (H + 1) * (H + 1) = H * H + 2 * H + 1 := by grind
      omega
theorem AngleBack : skywaykeep1_AngleBack.Pure := by
  intro h l hh hl
  refine ⟨3, ?_⟩
  unfold skywaykeep1_AngleBack.f
  rw [aworks, Option.bind_some, if_pos rfl]
  obtain ⟨L, hL, l1, l2⟩ : ∃ L, wrap64 (10000 + Int.tmod (wrap64 (Int.tmod l 1000000 + 1000000)) 1000000) = L ∧ 10000 ≤ L ∧ L ≤ 1009999 := by
    have t1 : -1000000 < Int.tmod l 1000000 := Int.lt_tmod_of_pos _ (by omega)
    have t2 : Int.tmod l 1000000 < 1000000 := Int.tmod_lt_of_pos _ (by omega)
    have e1 : wrap64 (Int.tmod l 1000000 + 1000000) = Int.tmod l 1000000 + 1000000 := by unfold wrap64; omega
    rw [e1]
    have t3 : 0 ≤ Int.tmod (Int.tmod l 1000000 + 1000000) 1000000 := Int.tmod_nonneg _ (by omega)
    have t4 : Int.tmod (Int.tmod l 1000000 + 1000000) 1000000 < 1000000 := Int.tmod_lt_of_pos _ (by omega)
    exact ⟨_, rfl, by unfold wrap64; omega, by unfold wrap64; omega⟩
  rw [hL]
  clear hL
  obtain ⟨n1, n2, _, _, s1, s2⟩ := Ang.circ_at h
  obtain ⟨c1, c2⟩ := Ang.cos_bd h
  obtain ⟨x, a, ex, hx, a1, a2⟩ := scaled_f (L := L) (s := Ang.sinI h) (by omega) (by omega) s1 s2
  obtain ⟨y, b, ey, hy, b1, b2⟩ := scaled_f (L := L) (s := Ang.cosI h) (by omega) (by omega) c1 c2
  have hv : angle_Vector.f 3 h L = some (x, y, 0) := by
    unfold angle_Vector.f
    have hc : angle_Cos.f h = some (Ang.cosI h) := by
      unfold angle_Cos.f angle_Sin.f
      rw [Ang.sinI_wrap]
      rfl
    rw [if_neg (by omega), decide_eq_false (by omega), angle_Vector.j0, if_neg (by decide), hc]
    unfold angle_Sin.f
    rw [Option.bind_some, ex, Option.bind_some, Option.bind_some, ey, Option.bind_some]
  obtain ⟨p1, p2⟩ := Ang.prod_bd (show -1009999 ≤ L by omega) l2 s1 s2
  obtain ⟨p3, p4⟩ := Ang.prod_bd (show -1009999 ≤ L by omega) l2 c1 c2
  have hback := Ang.ofI_back hx hy a1 a2 b1 b2 l1
  obtain ⟨w1, w2⟩ := long_bd l1 l2 (by omega) (by omega) hx hy a1 a2 b1 b2
  have hne : x ≠ 0 ∨ y ≠ 0 := by
    by_cases cx : x = 0
    · right
      intro cy
      rw [cx, cy] at w1
      have : 9000 * 9000 ≤ (L - 2 - L / 16384) * (L - 2 - L / 16384) := Int.mul_le_mul (by omega) (by omega) (by omega) (by omega)
      omega
    · left; exact cx
  rw [hv, Option.bind_some]
  dsimp only
  rw [of_good (by omega) (by omega) (by omega) (by omega) hne, Option.bind_some, distance (by omega) (by omega) (by omega) (by omega), Option.bind_some]
  dsimp only
  have hn : angle_Norm.f h = some (h % 4096) := by unfold angle_Norm.f; rw [Ang.i64_and4095]
  rw [if_pos rfl, if_pos rfl]
  simp only [hn, Option.bind_some]
  rw [if_pos hback]
  have eS : S (0 - x) (0 - y) = x * x + y * y := by unfold S; grind
  have hS := S_nonneg (0 - x) (0 - y)
  rw [eS] at hS ⊢
  rw [Int.tdiv_eq_ediv_of_nonneg (by omega), show wrap64 (L - 2) = L - 2 by unfold wrap64; omega, show wrap64 (L / 16384) = L / 16384 by unfold wrap64; omega, show wrap64 (L + 2) = L + 2 by unfold wrap64; omega, show wrap64 (L - 2 - L / 16384) = L - 2 - L / 16384 by unfold wrap64; omega, show wrap64 (L + 2 + L / 16384) = L + 2 + L / 16384 by unfold wrap64; omega]
  have h1 := le_root hS (by omega) w1
  have h2 := up_le hS (by omega) w2
  rw [if_pos (by omega), decide_eq_true h2]
end Go.Proofs.YthpbpdobghceeaaDoor.Pure
