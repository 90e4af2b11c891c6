import Derived.Laws.FloatArith
namespace Go.Proofs.YthpbpdobghceeaaGreatDoor.Ang
open Go Ieee
def fo {α : Type} (n : Nat) (f : Nat → α) : α := Nat.rec (f 0) (fun k _ => f (Nat.succ k)) n
theorem fo_eq {α : Type} (n : Nat) (f : Nat → α) : fo n f = f n := by cases n <;> rfl
theorem bleT {a b : Nat} (h : a ≤ b) : Nat.ble a b = true := Nat.ble_eq_true_of_le h
theorem bleF {a b : Nat} (h : ¬ a ≤ b) : Nat.ble a b = false := by rw [← Bool.not_eq_true, Nat.ble_eq]; exact h
theorem beqT {a b : Nat} (h : a = b) : Nat.beq a b = true := by rw [Nat.beq_eq]; exact h
theorem beqF {a b : Nat} (h : ¬ a = b) : Nat.beq a b = false := by rw [← Bool.not_eq_true, Nat.beq_eq]; exact h
def lg (m : Nat) : Nat → Nat
  | 0 => 0
  | i + 1 => fo (2 ^ i) fun h => fo (2 ^ h) fun g => cond (Nat.ble g m) (h + fo (m / g) fun q => lg q i) (lg m i)
theorem lg_eq : ∀ (i m : Nat), 0 < m → m < 2 ^ 2 ^ i → lg m i = m.log2
  | 0, m, h0, h => by
    obtain rfl : m = 1 := by omega
    rfl
  | i + 1, m, h0, h => by
    rw [lg, fo_eq, fo_eq, fo_eq]
    by_cases c : 2 ^ 2 ^ i ≤ m
    · rw [bleT c, cond_true]
      have hp : 0 < 2 ^ 2 ^ i := Nat.two_pow_pos _
      have hq : 0 < m / 2 ^ 2 ^ i := Nat.div_pos c hp
      have hl : m / 2 ^ 2 ^ i < 2 ^ 2 ^ i := by
        rw [Nat.div_lt_iff_lt_mul hp, ← Nat.pow_add, ← Nat.two_mul, ← Nat.pow_succ']
        exact h
      rw [lg_eq i _ hq hl]
      have h1 : 2 ^ (m / 2 ^ 2 ^ i).log2 ≤ m / 2 ^ 2 ^ i := Nat.log2_self_le (by omega)
      have h2 : m / 2 ^ 2 ^ i < 2 ^ ((m / 2 ^ 2 ^ i).log2 + 1) := Nat.lt_log2_self
      symm
      rw [Nat.log2_eq_iff (by omega)]
      constructor
      · rw [Nat.pow_add, Nat.mul_comm]
        exact (Nat.le_div_iff_mul_le hp).1 h1
      · rw [Nat.add_assoc, Nat.pow_add, Nat.mul_comm]
        exact (Nat.div_lt_iff_lt_mul hp).1 h2
    · rw [bleF c, cond_false]
      exact lg_eq i m h0 (Nat.lt_of_not_le c)
def lgB (i m : Nat) : Nat := cond (Nat.ble (m + 1) (2 ^ 2 ^ i)) (cond (Nat.beq m 0) (Nat.log2 0) (lg m i)) (Nat.log2 m)
theorem lgB_eq (i m : Nat) : lgB i m = m.log2 := by
  unfold lgB
  by_cases c : m + 1 ≤ 2 ^ 2 ^ i
  · rw [bleT c, cond_true]
    by_cases c0 : m = 0
    · subst c0; rfl
    · rw [beqF c0, cond_false]
      exact lg_eq i m (Nat.pos_of_ne_zero c0) (Nat.lt_of_succ_le c)
  · rw [bleF c, cond_false]
def lgK (m : Nat) : Nat := lgB 11 m
theorem lgK_eq (m : Nat) : lgK m = m.log2 := lgB_eq 11 m
def cutK (m d : Nat) : Nat := fo (2 ^ d) fun gap => fo (m / gap) fun low => fo (2 * (m % gap)) fun rest => low + cond (Nat.ble (gap + 1) rest) 1 (cond (Nat.beq gap rest) (low % 2) 0)
def nearK (neg : Bool) (mag P B : Nat) : Nat :=
  fo mag fun mag => cond (Nat.beq mag 0) (cond neg 9223372036854775808 0) (fo (lgK mag) fun L => fo (P + L) fun Q =>
  cond (Nat.ble B (Q + 1022))
    (fo ((Q + 1022 - B) * 4503599627370496 + cond (Nat.ble L 52) (mag * 2 ^ (52 - L)) (cutK mag (L - 52))) fun r =>
      cond (Nat.ble r 9218868437227405312) (cond neg (9223372036854775808 + r) r) (double.nearest neg mag ((P : Int) - B)))
    (double.nearest neg mag ((P : Int) - B)))
theorem dbl : double.leastPlace = -1074 ∧ double.binade = 4503599627370496 ∧ double.infRung = 9218868437227405312 ∧ double.signWeight = 9223372036854775808 ∧ double.fractionBits = 52 := by decide
theorem cond_ite (b : Bool) (x y : Nat) : cond b x y = if b = true then x else y := by cases b <;> rfl
theorem near_rung {neg : Bool} {mag P B : Nat} (h0 : mag ≠ 0) (hQ : B ≤ P + mag.log2 + 1022) (k : Nat) (hk : k = Toward.even.cut neg (mag <<< (52 - mag.log2)) (mag.log2 - 52)) (hr : (P + mag.log2 + 1022 - B) * 4503599627370496 + k ≤ 9218868437227405312) :
    double.nearest neg mag ((P : Int) - B) = if neg = true then 9223372036854775808 + ((P + mag.log2 + 1022 - B) * 4503599627370496 + k) else (P + mag.log2 + 1022 - B) * 4503599627370496 + k := by
  obtain ⟨d1, d2, d3, d4, d5⟩ := dbl
  unfold Format.nearest
  rw [if_neg h0, d1, d2, d3, d5]
  have e1 : max ((P : Int) - B + mag.log2 - (52 : Nat)) (-1074) = (P : Int) - B + mag.log2 - 52 := by omega
  simp only [e1]
  have e2 : ((P : Int) - B - ((P : Int) - B + mag.log2 - 52)).toNat = 52 - mag.log2 := by omega
  have e3 : ((P : Int) - B + mag.log2 - 52 - ((P : Int) - B)).toNat = mag.log2 - 52 := by omega
  have e4 : ((P : Int) - B + mag.log2 - 52 - -1074).toNat = P + mag.log2 + 1022 - B := by omega
  rw [e2, e3, e4, ← hk, Nat.min_eq_left hr]
  unfold Format.word
  rw [d4]
theorem cut_small (neg : Bool) (n : Nat) : Toward.even.cut neg n 0 = n := by
  unfold Toward.cut
  simp [Nat.mod_one]
theorem cut_great (neg : Bool) (m : Nat) (h : 52 < m.log2) : Toward.even.cut neg (m <<< (52 - m.log2)) (m.log2 - 52) = cutK m (m.log2 - 52) := by
  unfold Toward.cut cutK
  simp only [fo_eq]
  rw [show 52 - m.log2 = 0 by omega, Nat.shiftLeft_zero, Nat.min_eq_left (by omega), Nat.shiftLeft_eq, Nat.one_mul]
  generalize 2 ^ (m.log2 - 52) = g
  generalize m / g = low
  generalize 2 * (m % g) = rest
  congr 1
  by_cases c : g < rest
  · rw [decide_eq_true c, Bool.true_or, bleT (show g + 1 ≤ rest from c)]; rfl
  · rw [decide_eq_false c, Bool.false_or, bleF (show ¬ g + 1 ≤ rest from c), cond_false]
    by_cases c2 : g = rest
    · rw [beqT c2, cond_true, show (g == rest) = true from beq_iff_eq.2 c2, Bool.true_and]
      rcases Nat.mod_two_eq_zero_or_one low with h | h <;> rw [h] <;> rfl
    · rw [beqF c2, cond_false, show (g == rest) = false from beq_eq_false_iff_ne.2 c2, Bool.false_and]; rfl
theorem nearK_eq (neg : Bool) (mag P B : Nat) : nearK neg mag P B = double.nearest neg mag ((P : Int) - B) := by
  unfold nearK
  simp only [fo_eq, lgK_eq]
  by_cases c0 : mag = 0
  · rw [beqT c0, cond_true]
    unfold Format.nearest Format.word
    rw [if_pos c0, dbl.2.2.2.1, cond_ite]
  rw [beqF c0, cond_false]
  by_cases c1 : B ≤ P + mag.log2 + 1022
  · rw [bleT c1, cond_true]
    have hk : cond (Nat.ble mag.log2 52) (mag * 2 ^ (52 - mag.log2)) (cutK mag (mag.log2 - 52)) = Toward.even.cut neg (mag <<< (52 - mag.log2)) (mag.log2 - 52) := by
      by_cases c2 : mag.log2 ≤ 52
      · rw [bleT c2, cond_true, show mag.log2 - 52 = 0 by omega, cut_small, Nat.shiftLeft_eq]
      · rw [bleF c2, cond_false, cut_great neg mag (by omega)]
    generalize cond (Nat.ble mag.log2 52) (mag * 2 ^ (52 - mag.log2)) (cutK mag (mag.log2 - 52)) = k at hk ⊢
    by_cases c3 : (P + mag.log2 + 1022 - B) * 4503599627370496 + k ≤ 9218868437227405312
    · rw [bleT c3, cond_true, near_rung c0 c1 k hk c3, cond_ite]
    · rw [bleF c3, cond_false]
  · rw [bleF c1, cond_false]
def mK (r : Nat) : Nat := cond (Nat.ble 4503599627370496 r) (4503599627370496 + r % 4503599627370496) r
def aK (r : Nat) : Nat := r / 4503599627370496 - 1
def sK (x : Nat) : Bool := Nat.beq (x / 9223372036854775808 % 2) 1
theorem read_fin {x : Nat} (h : x % 9223372036854775808 < 9218868437227405312) : double.read x = .number (sK x) (mK (x % 9223372036854775808)) ((aK (x % 9223372036854775808) : Int) - 1074) := by
  obtain ⟨d1, d2, d3, d4, d5⟩ := dbl
  unfold Format.read
  rw [d1, d2, d3, d4]
  dsimp only
  have es : (x / 9223372036854775808 % 2 == 1) = sK x := by
    unfold sK
    rw [Bool.eq_iff_iff, beq_iff_eq, Nat.beq_eq]
  rw [es]
  unfold mK aK
  by_cases c : x % 9223372036854775808 < 4503599627370496
  · rw [if_pos c, bleF (by omega), cond_false, show x % 9223372036854775808 / 4503599627370496 - 1 = 0 by omega]
    rfl
  · rw [if_neg c, if_pos h, bleT (by omega), cond_true]
    congr 1
def mulK (x y : Nat) : Option Nat := fo x fun x => fo (x % 9223372036854775808) fun rx => fo (y % 9223372036854775808) fun ry =>
  cond (Nat.ble rx 9218868437227405311) (cond (Nat.ble ry 9218868437227405311) (some (nearK (sK x ^^ sK y) (mK rx * mK ry) (aK rx + aK ry) 2148)) (floatBits .mul .f64 x y)) (floatBits .mul .f64 x y)
theorem mulK_eq (x y : Nat) : mulK x y = floatBits .mul .f64 x y := by
  unfold mulK
  simp only [fo_eq]
  by_cases c1 : x % 9223372036854775808 ≤ 9218868437227405311
  · rw [bleT c1, cond_true]
    by_cases c2 : y % 9223372036854775808 ≤ 9218868437227405311
    · rw [bleT c2, cond_true, nearK_eq]
      show _ = ((double.read x).product (double.read y)).map double.write
      rw [read_fin (by omega), read_fin (by omega)]
      show _ = some (double.nearest _ _ _)
      congr 2
      omega
    · rw [bleF c2, cond_false]
  · rw [bleF c1, cond_false]
def plusK (s : Bool) (m a : Nat) (t : Bool) (n b : Nat) : Nat := fo (m * 2 ^ (a - b)) fun m => fo (n * 2 ^ (b - a)) fun n => fo (a - (a - b)) fun p =>
  cond (s == t) (nearK s (m + n) p 1074) (cond (Nat.beq m n) 0 (cond (Nat.ble n m) (nearK s (m - n) p 1074) (nearK t (n - m) p 1074)))
theorem plusK_eq (s : Bool) (m a : Nat) (t : Bool) (n b : Nat) : some (plusK s m a t n b) = ((Datum.number s m ((a : Int) - 1074)).sum (Datum.number t n ((b : Int) - 1074))).map double.write := by
  unfold plusK
  simp only [fo_eq]
  unfold Datum.sum
  simp only [Option.map_some]
  have e0 : min ((a : Int) - 1074) ((b : Int) - 1074) = ((a - (a - b) : Nat) : Int) - (1074 : Nat) := by omega
  rw [e0]
  have e1 : ((a : Int) - 1074 - (((a - (a - b) : Nat) : Int) - (1074 : Nat))).toNat = a - b := by omega
  have e2 : ((b : Int) - 1074 - (((a - (a - b) : Nat) : Int) - (1074 : Nat))).toNat = b - a := by omega
  rw [e1, e2]
  generalize a - (a - b) = p
  have s1 : signed s m (a - b) = if s = true then -((m * 2 ^ (a - b) : Nat) : Int) else ((m * 2 ^ (a - b) : Nat) : Int) := by unfold signed; rw [Nat.shiftLeft_eq]
  have s2 : signed t n (b - a) = if t = true then -((n * 2 ^ (b - a) : Nat) : Int) else ((n * 2 ^ (b - a) : Nat) : Int) := by unfold signed; rw [Nat.shiftLeft_eq]
  rw [s1, s2]
  generalize m * 2 ^ (a - b) = M
  generalize n * 2 ^ (b - a) = N
  show _ = some (double.nearest _ _ _)
  have zero : ∀ q : Bool, double.nearest q 0 ((p : Int) - (1074 : Nat)) = if q = true then 9223372036854775808 else 0 := fun q => by
    unfold Format.nearest Format.word
    rw [if_pos rfl, dbl.2.2.2.1]
  cases s <;> cases t
  · rw [show (false == false) = true from rfl, cond_true, nearK_eq]
    congr 2
    · simp; omega
  · rw [show (false == true) = false from rfl, cond_false]
    by_cases c1 : M = N
    · subst c1
      rw [beqT rfl, cond_true]
      simp [Int.add_right_neg]
      exact (zero false).symm
    · rw [beqF c1, cond_false]
      by_cases c2 : N ≤ M
      · rw [bleT c2, cond_true, nearK_eq]
        congr 2
        · simp; omega
        · simp; omega
      · rw [bleF c2, cond_false, nearK_eq]
        congr 2
        · simp; omega
        · simp; omega
  · rw [show (true == false) = false from rfl, cond_false]
    by_cases c1 : M = N
    · subst c1
      rw [beqT rfl, cond_true]
      simp [Int.add_left_neg]
      exact (zero false).symm
    · rw [beqF c1, cond_false]
      by_cases c2 : N ≤ M
      · rw [bleT c2, cond_true, nearK_eq]
        congr 2
        · simp; omega
        · simp; omega
      · rw [bleF c2, cond_false, nearK_eq]
        congr 2
        · simp; omega
        · simp; omega
  · rw [show (true == true) = true from rfl, cond_true, nearK_eq]
    congr 2
    · simp; omega
    · simp; omega
def addK (x y : Nat) : Option Nat := fo x fun x => fo (x % 9223372036854775808) fun rx => fo (y % 9223372036854775808) fun ry =>
  cond (Nat.ble rx 9218868437227405311) (cond (Nat.ble ry 9218868437227405311) (some (plusK (sK x) (mK rx) (aK rx) (sK y) (mK ry) (aK ry))) (floatBits .add .f64 x y)) (floatBits .add .f64 x y)
theorem addK_eq (x y : Nat) : addK x y = floatBits .add .f64 x y := by
  unfold addK
  simp only [fo_eq]
  by_cases c1 : x % 9223372036854775808 ≤ 9218868437227405311
  · rw [bleT c1, cond_true]
    by_cases c2 : y % 9223372036854775808 ≤ 9218868437227405311
    · rw [bleT c2, cond_true, plusK_eq, ← read_fin (by omega), ← read_fin (by omega)]
      rfl
    · rw [bleF c2, cond_false]
  · rw [bleF c1, cond_false]
def subK (x y : Nat) : Option Nat := fo x fun x => fo (x % 9223372036854775808) fun rx => fo (y % 9223372036854775808) fun ry =>
  cond (Nat.ble rx 9218868437227405311) (cond (Nat.ble ry 9218868437227405311) (some (plusK (sK x) (mK rx) (aK rx) (!sK y) (mK ry) (aK ry))) (floatBits .sub .f64 x y)) (floatBits .sub .f64 x y)
theorem subK_eq (x y : Nat) : subK x y = floatBits .sub .f64 x y := by
  unfold subK
  simp only [fo_eq]
  by_cases c1 : x % 9223372036854775808 ≤ 9218868437227405311
  · rw [bleT c1, cond_true]
    by_cases c2 : y % 9223372036854775808 ≤ 9218868437227405311
    · rw [bleT c2, cond_true, plusK_eq, ← read_fin (by omega)]
      show _ = ((double.read x).sum (double.read y).opposite).map double.write
      rw [read_fin (x := y) (by omega)]
      rfl
    · rw [bleF c2, cond_false]
  · rw [bleF c1, cond_false]
def quoK (x y : Nat) : Option Nat := fo x fun x => fo (x % 9223372036854775808) fun rx => fo (y % 9223372036854775808) fun ry => fo (mK ry) fun n => fo (mK rx) fun m =>
  fo (54 + lgK n - lgK m) fun more => fo (m * 2 ^ more) fun d =>
  cond (Nat.ble rx 9218868437227405311 && Nat.ble ry 9218868437227405311 && Nat.ble 1 n && Nat.ble (aK ry + more + 1) (aK rx + 3000))
    (some (nearK (sK x ^^ sK y) (2 * (d / n) + cond (Nat.beq (d % n) 0) 0 1) (aK rx + 3000 - (aK ry + more + 1)) 3000)) (floatBits .quo .f64 x y)
theorem quoK_eq (x y : Nat) : quoK x y = floatBits .quo .f64 x y := by
  unfold quoK
  simp only [fo_eq, lgK_eq]
  generalize hn : mK (y % 9223372036854775808) = n
  generalize hm : mK (x % 9223372036854775808) = m
  generalize hmore : 54 + n.log2 - m.log2 = more
  cases hc : (Nat.ble (x % 9223372036854775808) 9218868437227405311 && Nat.ble (y % 9223372036854775808) 9218868437227405311 && Nat.ble 1 n && Nat.ble (aK (y % 9223372036854775808) + more + 1) (aK (x % 9223372036854775808) + 3000)) with
  | false => rfl
  | true =>
    rw [Bool.and_eq_true, Bool.and_eq_true, Bool.and_eq_true, Nat.ble_eq, Nat.ble_eq, Nat.ble_eq, Nat.ble_eq] at hc
    obtain ⟨⟨⟨h1, h2⟩, h3⟩, h4⟩ := hc
    rw [cond_true, nearK_eq]
    show _ = ((double.read x).quotient (double.fractionBits + 2) (double.read y)).map double.write
    rw [read_fin (by omega), read_fin (by omega), hn, hm, dbl.2.2.2.2]
    unfold Datum.quotient
    simp only
    rw [if_neg (by omega), hmore, Nat.shiftLeft_eq]
    show _ = some (double.nearest _ _ _)
    congr 2
    · congr 1
      by_cases c : m * 2 ^ more % n = 0
      · rw [c]; rfl
      · rw [beqF c, cond_false, show (m * 2 ^ more % n != 0) = true from by simpa using c]; rfl
    · omega
def intK (x : Nat) (k : IntKind) : Option Int := fo x fun x => fo (x % 9223372036854775808) fun r =>
  cond (Nat.ble r 9218868437227405311) (fo (cond (Nat.ble 1074 (aK r)) (mK r * 2 ^ (aK r - 1074)) (mK r / 2 ^ (1074 - aK r))) fun n => (fun z : Int => if k.min ≤ z ∧ z ≤ k.max then some z else none) (cond (sK x) (-(n : Int)) (n : Int))) (floatToIntVal .f64 x k)
theorem cut_zero (neg : Bool) (n d : Nat) : Toward.zero.cut neg n d = n / 2 ^ d := by
  unfold Toward.cut
  rw [Nat.shiftLeft_eq, Nat.one_mul]
  dsimp only
  rw [Bool.toNat_false, Nat.add_zero]
  by_cases c : d ≤ n.log2 + 2
  · rw [Nat.min_eq_left c]
  · rw [Nat.min_eq_right (by omega)]
    have h : n < 2 ^ (n.log2 + 1) := Nat.lt_log2_self
    have h1 : n < 2 ^ (n.log2 + 2) := Nat.lt_trans h (Nat.pow_lt_pow_right (by decide) (by omega))
    have h2 : n < 2 ^ d := Nat.lt_trans h1 (Nat.pow_lt_pow_right (by decide) (by omega))
    rw [Nat.div_eq_of_lt h1, Nat.div_eq_of_lt h2]
theorem intK_eq (x : Nat) (k : IntKind) : intK x k = floatToIntVal .f64 x k := by
  unfold intK
  simp only [fo_eq]
  by_cases c : x % 9223372036854775808 ≤ 9218868437227405311
  · rw [bleT c, cond_true]
    have h : (FloatKind.f64.decode x).toInt .zero = some (cond (sK x) (-((cond (Nat.ble 1074 (aK (x % 9223372036854775808))) (mK (x % 9223372036854775808) * 2 ^ (aK (x % 9223372036854775808) - 1074)) (mK (x % 9223372036854775808) / 2 ^ (1074 - aK (x % 9223372036854775808))) : Nat) : Int)) ((cond (Nat.ble 1074 (aK (x % 9223372036854775808))) (mK (x % 9223372036854775808) * 2 ^ (aK (x % 9223372036854775808) - 1074)) (mK (x % 9223372036854775808) / 2 ^ (1074 - aK (x % 9223372036854775808))) : Nat) : Int)) := by
      show (double.read x).toInt .zero = _
      rw [read_fin (by omega)]
      generalize aK (x % 9223372036854775808) = a
      generalize mK (x % 9223372036854775808) = m
      unfold Datum.toInt Datum.integral
      simp only
      rw [cut_zero, Nat.shiftLeft_eq]
      have e : m * 2 ^ ((a : Int) - 1074).toNat / 2 ^ (-((a : Int) - 1074)).toNat = cond (Nat.ble 1074 a) (m * 2 ^ (a - 1074)) (m / 2 ^ (1074 - a)) := by
        by_cases c : 1074 ≤ a
        · rw [bleT c, cond_true, show (-((a : Int) - 1074)).toNat = 0 by omega, show ((a : Int) - 1074).toNat = a - 1074 by omega, Nat.pow_zero, Nat.div_one]
        · rw [bleF c, cond_false, show ((a : Int) - 1074).toNat = 0 by omega, show (-((a : Int) - 1074)).toNat = 1074 - a by omega, Nat.pow_zero, Nat.mul_one]
      rw [e]
      unfold signed
      rw [Nat.shiftLeft_zero]
      cases sK x <;> rfl
    unfold floatToIntVal
    rw [h]
  · rw [bleF c, cond_false]
end Go.Proofs.YthpbpdobghceeaaGreatDoor.Ang
