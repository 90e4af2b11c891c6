import Derived.Test.YthpbpdobghceeaaGreatDoorTAngFB
import Derived.Laws.FloatArith
import Derived.Laws.Cover2
import GoSem.Extern.MathFloor
namespace Go.Proofs.YthpbpdobghceeaaGreatDoor.FB
open Ieee
def chkL (b : Nat) (s : Bool) (l h : Int) : Bool :=
  match D.read b with
  | .number t m i => t == s && m != 0 && decide (l ≤ i + m.log2) && decide (i ≤ h) && decide (m ≤ 2 ^ (h - i).toNat)
  | _ => false
theorem chkL_ok {b : Nat} {s : Bool} {l h : Int} (a : chkL b s l h = true) : L b s l h := by
  unfold chkL at a
  unfold L dL
  split at a
  · rename_i t m i hr
    simp only [Bool.and_eq_true, beq_iff_eq, bne_iff_ne, decide_eq_true_eq] at a
    obtain ⟨⟨⟨⟨rfl, h1⟩, h2⟩, h3⟩, h4⟩ := a
    exact ⟨m, i, hr, .inr ⟨(h - i).toNat, by omega, h4⟩, h1, h2⟩
  · cases a
theorem read_neg (b : Nat) : D.read (b ^^^ 2 ^ 63) = (D.read b).opposite := by
  have hs : D.signWeight = 2 ^ 63 := by decide
  have h1 : (b ^^^ 2 ^ 63) % 2 ^ 63 = b % 2 ^ 63 := by
    rw [Nat.xor_mod_two_pow, Nat.mod_self, Nat.xor_zero]
  have h2 : (b ^^^ 2 ^ 63) / 2 ^ 63 % 2 = 1 - b / 2 ^ 63 % 2 := by
    rw [Nat.xor_div_two_pow, Nat.div_self (by decide), show 2 = 2 ^ 1 from rfl, Nat.xor_mod_two_pow]
    have : b / (2 ^ 1) ^ 63 % 2 ^ 1 < 2 := Nat.mod_lt _ (by decide)
    rcases (show b / (2 ^ 1) ^ 63 % 2 ^ 1 = 0 ∨ b / (2 ^ 1) ^ 63 % 2 ^ 1 = 1 by omega) with e | e <;> rw [e] <;> rfl
  have h3 : b / 2 ^ 63 % 2 < 2 := Nat.mod_lt _ (by decide)
  unfold Format.read
  rw [hs, h1, h2]
  have hn : (1 - b / 2 ^ 63 % 2 == 1) = !(b / 2 ^ 63 % 2 == 1) := by
    rcases (show b / 2 ^ 63 % 2 = 0 ∨ b / 2 ^ 63 % 2 = 1 by omega) with e | e <;> rw [e] <;> rfl
  simp only [hn]
  split
  · rfl
  · split
    · rfl
    · split <;> rfl
theorem neg_eq (b : Nat) : Op.negFloat .f64 b = b ^^^ 2 ^ 63 := rfl
theorem neg_S {b : Nat} {s : Bool} {h : Int} (a : S b s h) : S (Op.negFloat .f64 b) (!s) h := by
  rw [neg_eq]; unfold S; rw [read_neg]; exact a.opposite
theorem neg_L {b : Nat} {s : Bool} {l h : Int} (a : L b s l h) : L (Op.negFloat .f64 b) (!s) l h := by
  rw [neg_eq]; unfold L; rw [read_neg]; exact a.opposite
theorem neg_U {b : Nat} {h : Int} (a : U b h) : U (Op.negFloat .f64 b) h := by
  obtain ⟨s, a⟩ := a
  exact ⟨!s, neg_S a⟩
theorem int_L {n : Int} (h0 : n ≠ 0) (h1 : -2000000 ≤ n) (h2 : n ≤ 2000000) : L (floatOfInt .f64 n) (decide (n < 0)) 0 21 := by
  refine write_L (d := .number (decide (n < 0)) n.natAbs 0) ⟨_, _, rfl, .inr ⟨21, by decide, by omega⟩, by omega, by omega⟩ (by decide) (by decide)
theorem read_abs {x : Nat} {s : Bool} {m : Nat} {i : Int} (h : D.read x = .number s m i) : D.read (x % 2 ^ 63) = .number false m i := by
  have hs : D.signWeight = 2 ^ 63 := by decide
  unfold Format.read at h ⊢
  rw [hs] at h ⊢
  have h1 : x % 2 ^ 63 % 2 ^ 63 = x % 2 ^ 63 := Nat.mod_mod _ _
  have h2 : x % 2 ^ 63 / 2 ^ 63 = 0 := Nat.div_eq_of_lt (Nat.mod_lt _ (Nat.two_pow_pos _))
  rw [h1, h2]
  have h3 : ((0 : Nat) % 2 == 1) = false := rfl
  simp only [h3] at h ⊢
  split at h
  · rename_i c
    rw [if_pos c]
    injection h with e1 e2 e3
    rw [e2, e3]
  · rename_i c
    rw [if_neg c]
    split at h
    · rename_i c2
      rw [if_pos c2]
      injection h with e1 e2 e3
      rw [e2, e3]
    · split at h <;> cases h
theorem abs_U {x : Nat} {h : Int} (a : U x h) : U (x % 9223372036854775808) h := by
  obtain ⟨s, m, i, hx, hu⟩ := a
  exact ⟨false, m, i, read_abs hx, hu⟩
theorem order_num {x y : Nat} {s t : Bool} {m n : Nat} {i j : Int} (hx : D.read x = .number s m i) (hy : D.read y = .number t n j) :
    D.order x y = some (compare (signed s m (i - min i j).toNat) (signed t n (j - min i j).toNat)) := by
  unfold Format.order
  rw [hx, hy]
  rfl
theorem cmp_lt {a b : Int} (h : compare a b = .lt) : a < b := by
  have h' : compareOfLessAndEq a b = .lt := h
  unfold compareOfLessAndEq at h'
  by_cases c : a < b
  · exact c
  · rw [if_neg c] at h'
    split at h' <;> cases h'
theorem cmp_self (a : Int) : compare a a = .eq := by
  show compareOfLessAndEq a a = .eq
  unfold compareOfLessAndEq
  rw [if_neg (by omega), if_pos rfl]
theorem order_self {x : Nat} {h : Int} (a : U x h) : D.order x x = some .eq := by
  obtain ⟨s, m, i, hx, _⟩ := a
  rw [order_num hx hx, cmp_self]
theorem read_zero : D.read 0 = .number false 0 (-1074) := by decide +kernel
theorem cmp_of_lt {a b : Int} (h : a < b) : compare a b = .lt := by
  show compareOfLessAndEq a b = .lt
  unfold compareOfLessAndEq
  rw [if_pos h]
theorem cmp_of_gt {a b : Int} (h : b < a) : compare a b = .gt := by
  show compareOfLessAndEq a b = .gt
  unfold compareOfLessAndEq
  rw [if_neg (by omega), if_neg (by omega)]
theorem order_zero {x : Nat} {s : Bool} {l h : Int} (a : L x s l h) : D.order x 0 = some (if s then .lt else .gt) := by
  obtain ⟨m, i, hx, _, hm⟩ := a
  rw [order_num hx read_zero, signed_eq, signed_eq]
  have h1 : 0 < m * 2 ^ (i - min i (-1074)).toNat := Nat.mul_pos (Nat.pos_of_ne_zero hm.1) (Nat.two_pow_pos _)
  cases s
  · simp only [Bool.false_eq_true, if_false, Nat.zero_mul]
    rw [cmp_of_gt (by omega)]
  · simp only [if_true, Bool.false_eq_true, if_false, Nat.zero_mul]
    rw [cmp_of_lt (by omega)]
theorem read_big : D.read 9218868437227405311 = .number false 9007199254740991 971 := by decide +kernel
theorem read_nbig : D.read 18442240474082181119 = .number true 9007199254740991 971 := by decide +kernel
theorem big_le {m : Nat} {i h : Int} (a : Up m i h) (h2 : h ≤ 1000) : m * 2 ^ (i - min i 971).toNat ≤ 9007199254740991 * 2 ^ (971 - min i 971).toNat := by
  rcases a.shl (Int.min_le_left i 971) with e | ⟨k, hk, hm⟩
  · rw [e]; exact Nat.zero_le _
  · refine Nat.le_trans hm ?_
    have h3 : 2 ^ k ≤ 2 ^ 29 * 2 ^ (971 - min i 971).toNat := by rw [← Nat.pow_add]; exact Nat.pow_le_pow_right (by decide) (by omega)
    exact Nat.le_trans h3 (Nat.mul_le_mul_right _ (by decide))
theorem order_big {x : Nat} {h : Int} (a : U x h) (h2 : h ≤ 1000) : (D.order x 9218868437227405311 == some .gt) = false ∧ (D.order x 18442240474082181119 == some .lt) = false := by
  obtain ⟨s, m, i, hx, hu⟩ := a
  have hb := big_le hu h2
  rw [order_num hx read_big, order_num hx read_nbig, signed_eq, signed_eq, signed_eq]
  generalize m * 2 ^ (i - min i 971).toNat = A at *
  generalize 9007199254740991 * 2 ^ (971 - min i 971).toNat = B at *
  refine ⟨?_, ?_⟩
  · by_cases c : compare (if s then -(A : Int) else (A : Int)) (if false then -(B : Int) else (B : Int)) = .gt
    · have := cmp_gt c
      exfalso
      cases s <;> simp at this <;> omega
    · simpa using c
  · by_cases c : compare (if s then -(A : Int) else (A : Int)) (if true then -(B : Int) else (B : Int)) = .lt
    · have := cmp_lt c
      exfalso
      cases s <;> simp at this <;> omega
    · simpa using c
theorem cut_bd (way : Toward) (neg : Bool) (n d : Nat) : way.cut neg n d ≤ n / 2 ^ (min d (n.log2 + 2)) + 1 := by
  unfold Toward.cut
  simp only [Nat.shiftLeft_eq, Nat.one_mul]
  exact Nat.add_le_add_left (Bool.toNat_le _) _
theorem cut_whole {way : Toward} {neg : Bool} {m : Nat} {i h : Int} (a : Up m i h) (h0 : 0 ≤ h) : way.cut neg (m <<< i.toNat) (-i).toNat ≤ 2 ^ (h.toNat + 1) := by
  refine Nat.le_trans (cut_bd way neg _ _) ?_
  have hp := Nat.two_pow_pos h.toNat
  have key : m <<< i.toNat / 2 ^ (min (-i).toNat ((m <<< i.toNat).log2 + 2)) ≤ 2 ^ h.toNat := by
    rcases a with rfl | ⟨k, rfl, hk⟩
    · simp
    · rcases Int.lt_or_le i 0 with c | c
      · rw [show i.toNat = 0 by omega, Nat.shiftLeft_zero]
        by_cases hd : (-i).toNat ≤ m.log2 + 2
        · rw [Nat.min_eq_left hd]
          refine Nat.div_le_of_le_mul ?_
          rw [← Nat.pow_add]
          exact Nat.le_trans hk (Nat.pow_le_pow_right (by decide) (by omega))
        · rw [Nat.min_eq_right (by omega)]
          have : m < 2 ^ (m.log2 + 2) := Nat.lt_of_lt_of_le (lt_pow m) (Nat.pow_le_pow_right (by decide) (by omega))
          rw [Nat.div_eq_of_lt this]
          exact Nat.zero_le _
      · rw [show (-i).toNat = 0 by omega, Nat.zero_min, Nat.pow_zero, Nat.div_one, Nat.shiftLeft_eq]
        rw [show (i + (k : Int)).toNat = k + i.toNat by omega, Nat.pow_add]
        exact Nat.mul_le_mul_right _ hk
  rw [Nat.pow_succ]
  omega
theorem floor_ok {x : Nat} {h : Int} (a : U x h) (h0 : 0 ≤ h) (h2 : h ≤ 900) : ∃ r, Extern.MathFloor.toIntegral "math.archFloor" .down #[.float .f64 x] = (pure (.float .f64 r) : Sem Value) ∧ U r (h + 1) := by
  obtain ⟨s, m, i, hx, hu⟩ := a
  have hx' : FloatKind.f64.decode x = .number s m i := hx
  refine ⟨FloatKind.f64.encode (.number s (Toward.down.cut s (m <<< i.toNat) (-i).toNat) 0), ?_, s, ?_⟩
  · delta Extern.MathFloor.toIntegral
    show (match FloatKind.f64.decode x with | .nan _ _ => _ | d => _) = _
    rw [hx']
    rfl
  · exact write_S (d := .number s (Toward.down.cut s (m <<< i.toNat) (-i).toNat) 0) ⟨_, _, rfl, .inr ⟨h.toNat + 1, by omega, cut_whole hu h0⟩⟩ (by omega) (by omega)
theorem int_ok {x : Nat} {h : Int} (a : U x h) (h0 : 0 ≤ h) (h2 : h ≤ 60) : ∃ n, floatToIntVal .f64 x .i64 = some n := by
  obtain ⟨s, m, i, hx, hu⟩ := a
  have hx' : FloatKind.f64.decode x = .number s m i := hx
  have hc := cut_whole (way := .zero) (neg := s) hu h0
  have hp : 2 ^ (h.toNat + 1) ≤ 2 ^ 61 := Nat.pow_le_pow_right (by decide) (by omega)
  refine ⟨signed s (Toward.zero.cut s (m <<< i.toNat) (-i).toNat) 0, ?_⟩
  unfold floatToIntVal
  rw [hx']
  have ht : Datum.toInt .zero (.number s m i) = some (signed s (Toward.zero.cut s (m <<< i.toNat) (-i).toNat) 0) := rfl
  rw [ht]
  simp only []
  rw [if_pos]
  rw [signed_eq]
  have h1 : IntKind.i64.min = -9223372036854775808 := by decide
  have h3 : IntKind.i64.max = 9223372036854775807 := by decide
  rw [h1, h3, Nat.pow_zero, Nat.mul_one]
  have h4 : (2 : Nat) ^ 61 = 2305843009213693952 := by decide
  generalize Toward.zero.cut s (m <<< i.toNat) (-i).toNat = C at *
  cases s <;> simp <;> omega
end Go.Proofs.YthpbpdobghceeaaGreatDoor.FB
