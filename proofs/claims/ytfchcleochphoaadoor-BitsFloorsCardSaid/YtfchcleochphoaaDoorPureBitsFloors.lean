/- BitsFloors: a finer scale doubles the fixed number, or yields one more. -/
import Derived.Test.YtfchcleochphoaaDoorPBitsFloorsx
import Derived.Lib.BitFns
import Derived.Lib.ItoaNum
import Derived.Laws.BitsAllLaws
import Derived.IntWalk
namespace Go.Proofs.YtfchcleochphoaaDoor.Bt
/-- The greatest whole number at most ±M (and a rest, if any), if it fits. -/
def fin (neg rest : Bool) (M : Nat) : Int × Bool × Int :=
  if neg then (if (if rest then M + 1 else M) > 9223372036854775808 then (0, false, 2) else (-((if rest then M + 1 else M : Nat) : Int), !rest, 0))
  else if 9223372036854775808 ≤ M then (0, false, 2) else ((M : Int), !rest, 0)
def expo (b : Nat) : Nat := b / 4503599627370496 % 2048
def mant (b : Nat) : Nat := if expo b = 0 then b % 4503599627370496 else b % 4503599627370496 + 4503599627370496
def plac (b : Nat) : Int := (if expo b = 0 then 1 else (expo b : Int)) - 1075
def sgn (b : Nat) : Bool := b / 9223372036854775808 == 1
def toFixed (b : Nat) (sc : Int) : Int × Bool × Int :=
  if sc < 0 ∨ 60 < sc then (0, false, 4) else if expo b = 2047 then (0, false, 3) else if mant b = 0 then (0, true, 0)
  else if 0 < plac b + sc then (if 64 < (Lib.bitLen (mant b) : Int) + (plac b + sc) then (0, false, 2) else fin (sgn b) false (mant b * 2 ^ (plac b + sc).toNat))
  else if plac b + sc < -63 then fin (sgn b) true 0
  else fin (sgn b) (mant b % 2 ^ (-(plac b + sc)).toNat != 0) (mant b / 2 ^ (-(plac b + sc)).toNat)
theorem fin_ok {neg rest : Bool} {M : Nat} {n : Int} {ex : Bool} (h : fin neg rest M = (n, ex, 0)) : ex = (!rest) ∧ n = if neg then -((if rest then M + 1 else M : Nat) : Int) else (M : Int) := by
  unfold fin at h
  cases neg
  · rw [if_neg (by decide)] at h
    by_cases c : 9223372036854775808 ≤ M
    · rw [if_pos c] at h; simp at h
    · rw [if_neg c] at h
      simp only [Prod.mk.injEq] at h
      exact ⟨h.2.1.symm, by rw [if_neg (by decide)]; exact h.1.symm⟩
  · rw [if_pos rfl] at h
    rw [if_pos rfl]
    generalize (if rest = true then M + 1 else M) = K at h ⊢
    by_cases c : K > 9223372036854775808
    · rw [if_pos c] at h; simp at h
    · rw [if_neg c] at h
      simp only [Prod.mk.injEq] at h
      exact ⟨h.2.1.symm, h.1.symm⟩
theorem mant_lt (b : Nat) : mant b < 9007199254740992 := by unfold mant; split <;> omega
/-- One half more or less. -/
theorem halves (m P : Nat) (hP : 0 < P) : m / P = 2 * (m / (2 * P)) + m % (2 * P) / P ∧ m % P = m % (2 * P) % P ∧ m % (2 * P) / P < 2 := by
  have h1 : m = 2 * P * (m / (2 * P)) + m % (2 * P) := (Nat.div_add_mod _ _).symm
  have h2 : m % (2 * P) < 2 * P := Nat.mod_lt _ (by omega)
  refine ⟨?_, ?_, ?_⟩
  · conv => lhs; rw [h1]
    rw [show 2 * P * (m / (2 * P)) = P * (2 * (m / (2 * P))) by rw [Nat.mul_comm 2 P, Nat.mul_assoc], Nat.mul_add_div hP]
  · rw [Nat.mod_mul_left_mod]
  · exact (Nat.div_lt_iff_lt_mul hP).2 h2
theorem floors (b : Nat) (sc : Int) (n m : Int) (ex fi : Bool) (h1 : toFixed b sc = (n, ex, 0)) (h2 : toFixed b (sc + 1) = (m, fi, 0)) :
    (m = 2 * n ∨ m = 2 * n + 1) ∧ (ex = true → fi = true ∧ m = 2 * n) ∧ (ex = false → fi = true → m = 2 * n + 1) := by
  unfold toFixed at h1 h2
  by_cases c0 : sc < 0 ∨ 60 < sc
  · rw [if_pos c0] at h1; simp at h1
  by_cases c0' : sc + 1 < 0 ∨ 60 < sc + 1
  · rw [if_pos c0'] at h2; simp at h2
  rw [if_neg c0] at h1
  rw [if_neg c0'] at h2
  by_cases c1 : expo b = 2047
  · rw [if_pos c1] at h1; simp at h1
  rw [if_neg c1] at h1 h2
  by_cases c2 : mant b = 0
  · rw [if_pos c2] at h1 h2
    simp only [Prod.mk.injEq] at h1 h2
    obtain ⟨rfl, rfl, _⟩ := h1
    obtain ⟨rfl, rfl, _⟩ := h2
    exact ⟨.inl rfl, fun _ => ⟨rfl, rfl⟩, (fun h => by cases h)⟩
  rw [if_neg c2] at h1 h2
  have hm := mant_lt b
  generalize mant b = M at *
  generalize hs : sgn b = s at *
  rw [show plac b + (sc + 1) = plac b + sc + 1 by omega] at h2
  generalize plac b + sc = e at *
  by_cases c3 : 0 < e
  · rw [if_pos c3] at h1
    rw [if_pos (by omega)] at h2
    split at h1
    · simp at h1
    split at h2
    · simp at h2
    obtain ⟨rfl, rfl⟩ := fin_ok h1
    obtain ⟨rfl, rfl⟩ := fin_ok h2
    have hp : M * 2 ^ (e + 1).toNat = 2 * (M * 2 ^ e.toNat) := by rw [show (e + 1).toNat = e.toNat + 1 by omega, Nat.pow_succ, ← Nat.mul_assoc, Nat.mul_comm]
    rw [hp]
    generalize M * 2 ^ e.toNat = Q at *
    refine ⟨.inl ?_, fun _ => ⟨rfl, ?_⟩, (fun h => by cases h)⟩ <;> (cases s <;> simp <;> omega)
  rw [if_neg c3] at h1
  by_cases c4 : e = 0
  · subst c4
    rw [if_neg (by omega)] at h1
    have z1 : (M % 2 ^ (-(0 : Int)).toNat != 0) = false := by simp [Nat.mod_one]
    have z2 : M / 2 ^ (-(0 : Int)).toNat = M := by simp
    rw [z1, z2] at h1
    rw [if_pos (by omega)] at h2
    split at h2
    · simp at h2
    obtain ⟨rfl, rfl⟩ := fin_ok h1
    obtain ⟨rfl, rfl⟩ := fin_ok h2
    refine ⟨.inl ?_, fun _ => ⟨rfl, ?_⟩, fun h => ?_⟩
    · cases s <;> simp <;> omega
    · cases s <;> simp <;> omega
    · simp at h
  rw [if_neg (by omega)] at h2
  by_cases c5 : e < -63
  · rw [if_pos c5] at h1
    obtain ⟨rfl, rfl⟩ := fin_ok h1
    have h2' : fin s true 0 = (m, fi, 0) := by
      by_cases c6 : e + 1 < -63
      · rw [if_pos c6] at h2; exact h2
      · rw [if_neg c6] at h2
        have e63 : (-(e + 1)).toNat = 63 := by omega
        rw [e63, Nat.div_eq_of_lt (by omega), Nat.mod_eq_of_lt (by omega)] at h2
        rwa [show (M != 0) = true from bne_iff_ne.2 c2] at h2
    obtain ⟨rfl, rfl⟩ := fin_ok h2'
    refine ⟨?_, (fun h => by cases h), (fun _ h => by cases h)⟩
    cases s <;> simp
  rw [if_neg c5] at h1
  rw [if_neg (by omega)] at h2
  obtain ⟨rfl, rfl⟩ := fin_ok h1
  obtain ⟨rfl, rfl⟩ := fin_ok h2
  have hk : 2 ^ (-e).toNat = 2 * 2 ^ (-(e + 1)).toNat := by rw [show (-e).toNat = (-(e + 1)).toNat + 1 by omega, Nat.pow_succ]; omega
  obtain ⟨a1, a2, a3⟩ := halves M (2 ^ (-(e + 1)).toNat) (Nat.two_pow_pos _)
  rw [← hk] at a1 a2 a3
  rw [a1, a2]
  have hP := Nat.two_pow_pos (-(e + 1)).toNat
  have hr : M % 2 ^ (-e).toNat < 2 ^ (-e).toNat := Nat.mod_lt _ (Nat.two_pow_pos _)
  rw [hk] at hr
  have hdm : M % 2 ^ (-e).toNat = 2 ^ (-(e + 1)).toNat * (M % 2 ^ (-e).toNat / 2 ^ (-(e + 1)).toNat) + M % 2 ^ (-e).toNat % 2 ^ (-(e + 1)).toNat := (Nat.div_add_mod _ _).symm
  generalize M / 2 ^ (-e).toNat = q at *
  generalize M % 2 ^ (-e).toNat = r at *
  generalize hP2 : 2 ^ (-(e + 1)).toNat = P at *
  generalize hu : r / P = u at *
  generalize hv : r % P = v at *
  have hu2 : u = 0 ∨ u = 1 := by omega
  by_cases r0 : r = 0
  · have hv0 : v = 0 := by rw [← hv, r0, Nat.zero_mod]
    have hu0 : u = 0 := by rw [← hu, r0, Nat.zero_div]
    subst r0; subst hv0; subst hu0
    refine ⟨.inl ?_, fun _ => ⟨rfl, ?_⟩, (fun h => by cases h)⟩ <;> (cases s <;> simp <;> omega)
  · have b1 : (r != 0) = true := bne_iff_ne.2 r0
    by_cases v0 : v = 0
    · have hu1 : u = 1 := by
        rcases hu2 with h | h
        · rw [h, v0, Nat.mul_zero] at hdm; omega
        · exact h
      subst v0; subst hu1
      refine ⟨.inr ?_, (fun h => by rw [b1] at h; cases h), fun _ _ => ?_⟩ <;> (cases s <;> simp [b1] <;> omega)
    · have b2 : (v != 0) = true := bne_iff_ne.2 v0
      refine ⟨?_, (fun h => by rw [b1] at h; cases h), (fun _ h => by rw [b2] at h; cases h)⟩
      rcases hu2 with h | h <;> subst h
      · cases s
        · left; simp
        · right; simp [b1, b2]; omega
      · cases s
        · right; simp
        · left; simp [b1, b2]; omega
end Go.Proofs.YtfchcleochphoaaDoor.Bt
namespace Go.Proofs.YtfchcleochphoaaDoor.Pure
open Go Go.RowKit Go.Proofs.YtfchcleochphoaaDoor Go.Proofs.YtfchcleochphoaaDoor.PBitsFloors Go.Proofs.YtfchcleochphoaaDoorW.PrintWords Go.Proofs.YtfchcleochphoaaDoorW.PrintLast Go.Proofs.YtfchcleochphoaaDoorW.PrintMore
/-! What the printed ToFixed computes. -/
theorem and2047 (x : Nat) (hx : x < 18446744073709551616) : Go.bits .and .u64 (x : Int) 2047 = ((x % 2048 : Nat) : Int) := by
  have h := u64_and_nat x 2047 hx (by decide)
  rw [show (2047 : Nat) = 2 ^ 11 - 1 by decide, Nat.and_two_pow_sub_one_eq_mod] at h
  exact h
theorem and52 (x : Nat) (hx : x < 18446744073709551616) : Go.bits .and .u64 (x : Int) 4503599627370495 = ((x % 4503599627370496 : Nat) : Int) := by
  have h := u64_and_nat x 4503599627370495 hx (by decide)
  rw [show (4503599627370495 : Nat) = 2 ^ 52 - 1 by decide, Nat.and_two_pow_sub_one_eq_mod] at h
  exact h
theorem or52 (x : Nat) (hx : x < 4503599627370496) : Go.bits .or .u64 (x : Int) 4503599627370496 = ((x + 4503599627370496 : Nat) : Int) := by
  have h := u64_or_nat x 4503599627370496 (by omega) (by decide)
  have h2 : x ||| 4503599627370496 = x + 4503599627370496 := by
    have h3 := Nat.two_pow_add_eq_or_of_lt (i := 52) (b := x) (by omega) 1
    rw [Nat.mul_one, Nat.or_comm, show (2 : Nat) ^ 52 = 4503599627370496 by decide] at h3
    omega
  rw [h2] at h
  exact h
theorem maskN (m a : Nat) (hm : m < 18446744073709551616) (ha : a < 64) : Go.bits .and .u64 (m : Int) (IntKind.u64.wrap (shl .u64 1 (a : Int) - 1)) = ((m % 2 ^ a : Nat) : Int) := by
  have h : 2 ^ a < 18446744073709551616 := (Nat.pow_lt_pow_iff_right (by decide : 1 < 2)).2 ha
  have h1 : 1 ≤ 2 ^ a := Nat.two_pow_pos a
  have e : shl .u64 1 (a : Int) = ((2 ^ a : Nat) : Int) := by
    unfold shl
    rw [Int.toNat_natCast, show min a IntKind.u64.bits = a from Nat.min_eq_left (by show a ≤ 64; omega), Int.one_mul]
    have h3 : (2 : Int) ^ a = ((2 ^ a : Nat) : Int) := by rw [Int.natCast_pow]; rfl
    rw [h3]
    generalize 2 ^ a = Q at *
    exact IntWalk.u64_in _ (by omega)
  rw [e, IntWalk.u64_in (((2 ^ a : Nat) : Int) - 1) (by generalize 2 ^ a = Q at *; omega), show (((2 ^ a : Nat) : Int) - 1) = ((2 ^ a - 1 : Nat) : Int) by omega, u64_and_nat _ _ hm (by omega), Nat.and_two_pow_sub_one_eq_mod]
theorem shrN (m a : Nat) (ha : a ≤ 64) : shr .u64 (m : Int) (a : Int) = ((m / 2 ^ a : Nat) : Int) := by
  unfold shr
  rw [Int.toNat_natCast, show min a IntKind.u64.bits = a from Nat.min_eq_left ha, Int.natCast_ediv, Int.natCast_pow]
  rfl
theorem shlN (m a : Nat) (h : m * 2 ^ a < 18446744073709551616) (ha : a ≤ 64) : shl .u64 (m : Int) (a : Int) = ((m * 2 ^ a : Nat) : Int) := by
  unfold shl
  rw [Int.toNat_natCast, show min a IntKind.u64.bits = a from Nat.min_eq_left ha]
  have h3 : (m : Int) * (2 : Int) ^ a = ((m * 2 ^ a : Nat) : Int) := by rw [Int.natCast_mul, Int.natCast_pow]; rfl
  rw [h3]
  generalize m * 2 ^ a = Q at *
  exact IntWalk.u64_in _ (by omega)
theorem negW (x : Nat) (hx : x ≤ 9223372036854775808) : wrap64 (IntKind.u64.wrap (-(x : Int))) = -(x : Int) := by
  have h : IntKind.u64.wrap (-(x : Int)) = (-(x : Int)) % 18446744073709551616 := by
    simp [IntKind.wrap, IntKind.bits, IntKind.signed]
  rw [h]
  unfold wrap64
  omega
theorem finite_f (b : Nat) (hb : b < 18446744073709551616) : bits_finite.f (b : Int) = some (decide (Bt.expo b ≠ 2047)) := by
  unfold bits_finite.f Bt.expo
  rw [show ((b : Int) / 4503599627370496) = ((b / 4503599627370496 : Nat) : Int) by omega, and2047 _ (by omega)]
  congr 1
  by_cases h : b / 4503599627370496 % 2048 = 2047
  · rw [h, decide_eq_false (by omega)]; rfl
  · rw [decide_eq_true h]
    exact bne_iff_ne.2 (by omega)
theorem parts_f (b : Nat) (hb : b < 18446744073709551616) : bits_parts.f (b : Int) = some (Bt.sgn b, Bt.plac b, (Bt.mant b : Int)) := by
  have hE : Bt.expo b < 2048 := by unfold Bt.expo; omega
  have hF : b % 4503599627370496 < 4503599627370496 := by omega
  have hs : (((b : Int) / 9223372036854775808) == 1) = Bt.sgn b := by
    unfold Bt.sgn
    rw [Bool.eq_iff_iff, beq_iff_eq, beq_iff_eq]
    omega
  have hx : Go.bits .and .u64 ((b : Int) / 4503599627370496) 2047 = (Bt.expo b : Int) := by
    rw [show ((b : Int) / 4503599627370496) = ((b / 4503599627370496 : Nat) : Int) by omega, and2047 _ (by omega)]
    rfl
  have hw : wrap64 (Bt.expo b : Int) = (Bt.expo b : Int) := by unfold wrap64; omega
  unfold bits_parts.f
  rw [hx, hw, and52 b hb, hs]
  unfold Bt.plac Bt.mant
  by_cases h : Bt.expo b = 0
  · rw [if_neg (by omega), if_pos h, if_pos h]
    rfl
  · rw [if_pos (by omega), if_neg h, if_neg h, or52 _ hF]
    refine congrArg some (Prod.ext rfl (Prod.ext ?_ rfl))
    show wrap64 (wrap64 ((Bt.expo b : Int) - 1023) - 52) = (Bt.expo b : Int) - 1075
    have hE2 : 0 ≤ (Bt.expo b : Int) ∧ (Bt.expo b : Int) < 2048 := by omega
    clear hw hx
    generalize (Bt.expo b : Int) = x at *
    unfold wrap64
    omega
theorem j2_f (k : Nat) (neg rest : Bool) (M : Nat) (hM : M < 18446744073709551615) (x : Bool) (hx : x = (neg && rest)) : bits_ToFixed.j2 (k + 1) neg (M : Int) rest x = some (Bt.fin neg rest M) := by
  subst hx
  rw [bits_ToFixed.j2]
  unfold Bt.fin
  cases neg
  · rw [show (false && rest) = false from rfl, if_neg Bool.false_ne_true, if_neg Bool.false_ne_true, if_neg Bool.false_ne_true]
    by_cases h : 9223372036854775808 ≤ M
    · rw [if_pos h, if_pos (by omega)]
    · rw [if_neg h, if_neg (by omega), show wrap64 (M : Int) = M by unfold wrap64; omega]
  · cases rest
    · rw [show (true && false) = false from rfl, if_neg Bool.false_ne_true, if_pos rfl, if_pos rfl, if_neg Bool.false_ne_true]
      by_cases h : M > 9223372036854775808
      · rw [if_pos h, if_pos (by omega)]
      · rw [if_neg h, if_neg (by omega), negW M (by omega)]
    · rw [show (true && true) = true from rfl, if_pos rfl, if_pos rfl, if_pos rfl, IntWalk.u64_in ((M : Int) + 1) (by omega), show ((M : Int) + 1) = ((M + 1 : Nat) : Int) by omega]
      by_cases h : M + 1 > 9223372036854775808
      · rw [if_pos h, if_pos (by omega)]
      · rw [if_neg h, if_neg (by omega), negW (M + 1) (by omega)]
theorem j1_f (k : Nat) (neg rest : Bool) (M : Nat) (hM : M < 18446744073709551615) : bits_ToFixed.j1 (k + 2) neg (M : Int) rest = some (Bt.fin neg rest M) := by
  rw [bits_ToFixed.j1]
  cases neg
  · rw [if_neg (by decide), j2_f k false rest M hM false rfl]
  · rw [if_pos rfl, j2_f k true rest M hM rest (by simp)]
theorem mant_pos {b : Nat} (h : Bt.mant b ≠ 0) : 1 ≤ Bt.mant b := by omega
theorem plac_in (b : Nat) : -1074 ≤ Bt.plac b ∧ Bt.plac b ≤ 973 := by
  have hE : Bt.expo b < 2048 := by unfold Bt.expo; omega
  unfold Bt.plac
  split <;> omega
theorem tf (b : Nat) (hb : b < 18446744073709551616) (sc : Int) (k : Nat) : bits_ToFixed.f (k + 3) (b : Int) sc = some (Bt.toFixed b sc) := by
  unfold bits_ToFixed.f Bt.toFixed
  by_cases c0 : sc < 0
  · rw [if_pos c0, bits_ToFixed.j0, if_pos rfl, if_pos (.inl c0)]
  rw [if_neg c0]
  by_cases c1 : 60 < sc
  · rw [decide_eq_true c1, bits_ToFixed.j0, if_pos rfl, if_pos (.inr c1)]
  rw [decide_eq_false c1, bits_ToFixed.j0, if_neg (by decide), if_neg (by omega), finite_f b hb, Option.bind_some]
  by_cases c2 : Bt.expo b = 2047
  · rw [if_pos c2, decide_eq_false (by omega), if_neg (by decide)]
  rw [if_neg c2, decide_eq_true c2, if_pos rfl, parts_f b hb, Option.bind_some]
  dsimp only
  by_cases c3 : Bt.mant b = 0
  · rw [if_pos c3, if_pos (by omega)]
  rw [if_neg c3, if_neg (by omega)]
  have hm := Bt.mant_lt b
  have hp := plac_in b
  rw [show wrap64 (Bt.plac b + sc) = Bt.plac b + sc by unfold wrap64; omega]
  have hE : -1074 ≤ Bt.plac b + sc ∧ Bt.plac b + sc ≤ 1033 := by omega
  generalize Bt.mant b = m at *
  generalize hs : Bt.sgn b = s at *
  generalize Bt.plac b + sc = e at *
  by_cases c4 : 0 < e
  · have hL : bits_Len64.f (m : Int) = some (Lib.bitLen m : Int) := by
      unfold bits_Len64.f
      rw [if_pos (by omega), if_pos (by omega), Int.toNat_natCast]
    obtain ⟨l1, l2, l3⟩ := Lib.bitLenAux_bounds 64 m (by omega) c3
    change 1 ≤ Lib.bitLen m at l1
    change m < 2 ^ Lib.bitLen m at l3
    have l4 : Lib.bitLen m ≤ 64 := by
      rcases Nat.lt_or_ge 64 (Lib.bitLen m) with h | h
      · exfalso
        have h2 : 2 ^ 64 ≤ 2 ^ (Lib.bitLen m - 1) := Nat.pow_le_pow_right (by decide) (by omega)
        change 2 ^ (Lib.bitLen m - 1) ≤ m at l2
        omega
      · exact h
    rw [if_pos (by omega), if_pos c4, hL, Option.bind_some, show wrap64 ((Lib.bitLen m : Int) + e) = (Lib.bitLen m : Int) + e by unfold wrap64; omega]
    by_cases c5 : 64 < (Lib.bitLen m : Int) + e
    · rw [if_pos (by omega), if_pos c5]
    · rw [if_neg (by omega), if_neg c5, if_pos (by omega)]
      obtain ⟨n, rfl⟩ : ∃ n : Nat, e = n := ⟨e.toNat, by omega⟩
      have hlt : m * 2 ^ n < 18446744073709551616 := by
        have h1 : m * 2 ^ n < 2 ^ Lib.bitLen m * 2 ^ n := (Nat.mul_lt_mul_right (Nat.two_pow_pos n)).2 l3
        have h2 : 2 ^ Lib.bitLen m * 2 ^ n ≤ 2 ^ 64 := by rw [← Nat.pow_add]; exact Nat.pow_le_pow_right (by decide) (by omega)
        exact Nat.lt_of_lt_of_le h1 h2
      have hne : m * 2 ^ n ≠ 18446744073709551615 := by
        intro h
        obtain ⟨q, rfl⟩ : ∃ q, n = q + 1 := ⟨n - 1, by omega⟩
        rw [Nat.pow_succ, ← Nat.mul_assoc] at h
        omega
      rw [shlN m n hlt (by omega), j1_f k s false _ (by omega), Int.toNat_natCast]
  · rw [if_neg (by omega), if_neg c4]
    by_cases c5 : e < -63
    · rw [if_pos c5, if_pos c5]
      exact j1_f k s true 0 (by decide)
    · rw [if_neg c5, if_neg c5, show wrap64 (-e) = -e by unfold wrap64; omega, if_pos (by omega)]
      obtain ⟨n, hn⟩ : ∃ n : Nat, -e = n := ⟨(-e).toNat, by omega⟩
      rw [hn, shrN m n (by omega), maskN m n (by omega) (by omega), Int.toNat_natCast]
      have hd : m / 2 ^ n ≤ m := Nat.div_le_self _ _
      rw [show ((((m % 2 ^ n : Nat) : Int)) != 0) = (m % 2 ^ n != 0) by rw [Bool.eq_iff_iff, bne_iff_ne, bne_iff_ne]; omega]
      exact j1_f k s _ _ (by omega)
theorem bitsWorks (k : Nat) (hk : 10 ≤ k) : skywaykeep1_bitsWorks.f k = some true := by
  have h : skywaykeep1_bitsWorks.f 10 = some true := by decide +kernel
  exact at_rounds skywaykeep1_bitsWorks.mono hk h
theorem wf_u64 {a : Int} (h : (Lit.int .u64 a).wf = true) : ∃ x : Nat, a = x ∧ x < 18446744073709551616 := by
  have h1 : IntKind.u64.min ≤ a ∧ a ≤ IntKind.u64.max := by simpa [Lit.wf] using h
  have h2 : IntKind.u64.min = 0 := by decide
  have h3 : IntKind.u64.max = 18446744073709551615 := by decide
  exact ⟨a.toNat, by omega, by omega⟩
theorem wf_i64 {a : Int} (h : (Lit.int .i64 a).wf = true) : -9223372036854775808 ≤ a ∧ a ≤ 9223372036854775807 := by
  have h1 : IntKind.i64.min ≤ a ∧ a ≤ IntKind.i64.max := by simpa [Lit.wf] using h
  have h2 : IntKind.i64.min = -9223372036854775808 := by decide
  have h3 : IntKind.i64.max = 9223372036854775807 := by decide
  omega
theorem fin_in {neg rest : Bool} {M : Nat} {n : Int} {ex : Bool} (h : Bt.fin neg rest M = (n, ex, 0)) : -9223372036854775808 ≤ n ∧ n ≤ 9223372036854775807 := by
  unfold Bt.fin at h
  cases neg
  · rw [if_neg (by decide)] at h
    by_cases c : 9223372036854775808 ≤ M
    · rw [if_pos c] at h; simp at h
    · rw [if_neg c] at h
      simp only [Prod.mk.injEq] at h
      omega
  · rw [if_pos rfl] at h
    generalize (if rest = true then M + 1 else M) = K at h
    by_cases c : K > 9223372036854775808
    · rw [if_pos c] at h; simp at h
    · rw [if_neg c] at h
      simp only [Prod.mk.injEq] at h
      omega
theorem to_in {b : Nat} {sc n : Int} {ex : Bool} (h : Bt.toFixed b sc = (n, ex, 0)) : 0 ≤ sc ∧ sc ≤ 60 ∧ -9223372036854775808 ≤ n ∧ n ≤ 9223372036854775807 := by
  unfold Bt.toFixed at h
  by_cases c0 : sc < 0 ∨ 60 < sc
  · rw [if_pos c0] at h; simp at h
  rw [if_neg c0] at h
  refine ⟨by omega, by omega, ?_⟩
  by_cases c1 : Bt.expo b = 2047
  · rw [if_pos c1] at h; simp at h
  rw [if_neg c1] at h
  by_cases c2 : Bt.mant b = 0
  · rw [if_pos c2] at h
    simp only [Prod.mk.injEq] at h
    omega
  rw [if_neg c2] at h
  by_cases c3 : 0 < Bt.plac b + sc
  · rw [if_pos c3] at h
    split at h
    · simp at h
    · exact fin_in h
  · rw [if_neg c3] at h
    split at h
    · exact fin_in h
    · exact fin_in h
theorem BitsFloors : skywaykeep1_BitsFloors.Pure := by
  intro a b ha hb
  obtain ⟨x, rfl, hx⟩ := wf_u64 ha
  have hb := wf_i64 hb
  refine ⟨13, ?_⟩
  have t1 : bits_ToFixed.f 13 (x : Int) b = some (Bt.toFixed x b) := tf x hx b 10
  have t2 : bits_ToFixed.f 13 (x : Int) (wrap64 (b + 1)) = some (Bt.toFixed x (wrap64 (b + 1))) := tf x hx _ 10
  unfold skywaykeep1_BitsFloors.f
  rw [bitsWorks 13 (by omega), Option.bind_some, if_pos rfl, t1, Option.bind_some, t2, Option.bind_some]
  rcases h1 : Bt.toFixed x b with ⟨n, ex, e1⟩
  rcases h2 : Bt.toFixed x (wrap64 (b + 1)) with ⟨m, fi, e2⟩
  dsimp only
  by_cases c1 : e1 = 0
  · subst c1
    rw [if_pos rfl]
    by_cases c2 : e2 = 0
    · subst c2
      rw [if_pos rfl]
      obtain ⟨b0, b1, n0, n1⟩ := to_in h1
      obtain ⟨_, _, m0, m1⟩ := to_in h2
      rw [show wrap64 (b + 1) = b + 1 by unfold wrap64; omega] at h2
      obtain ⟨f1, f2, f3⟩ := Bt.floors x b n m ex fi h1 h2
      have w1 : wrap64 (2 * n) = 2 * n := by unfold wrap64; omega
      have w2 : wrap64 (2 * n + 1) = 2 * n + 1 := by unfold wrap64; omega
      rw [w1, w2]
      by_cases c3 : m = 2 * n
      · rw [if_pos c3]
        cases ex
        · rw [if_neg Bool.false_ne_true]
          cases fi
          · rw [if_neg Bool.false_ne_true]
          · have := f3 rfl rfl; omega
        · rw [if_pos rfl, if_pos (f2 rfl).1]
      · have c4 : m = 2 * n + 1 := by omega
        rw [if_neg c3, if_pos c4]
        cases ex
        · rw [if_neg Bool.false_ne_true]
          cases fi
          · rw [if_neg Bool.false_ne_true]
          · rw [if_pos rfl]
            exact congrArg some (beq_iff_eq.2 c4)
        · have := (f2 rfl).2; omega
    · rw [if_neg c2]
  · rw [if_neg c1]
end Go.Proofs.YtfchcleochphoaaDoor.Pure
