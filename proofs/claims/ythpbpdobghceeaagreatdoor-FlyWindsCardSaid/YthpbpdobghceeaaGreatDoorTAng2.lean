import Derived.Test.YthpbpdobghceeaaGreatDoorTAng1
namespace Go.Proofs.YthpbpdobghceeaaGreatDoor.Ang
open Go Go.RowKit
abbrev fq (x y : Nat) : Option Nat := floatBits .quo .f64 x y
def sinV (x : Nat) : Option Nat := (fm x 4608412980311869571).bind fun m => (floatToIntVal .f64 m .u64).bind fun j =>
  if j = 0 then (redZ x 0).bind sinP else if j = 1 then (redZ x 4611686018427387904).bind cosP else if j = 2 then (redZ x 4611686018427387904).bind cosP
  else if j = 3 then (redZ x 4616189618054758400).bind fun z => (sinP z).map (Op.negFloat .f64) else if j = 4 then (redZ x 4616189618054758400).bind fun z => (sinP z).map (Op.negFloat .f64)
  else if j = 5 then (redZ x 4618441417868443648).bind fun z => (cosP z).map (Op.negFloat .f64) else if j = 6 then (redZ x 4618441417868443648).bind fun z => (cosP z).map (Op.negFloat .f64)
  else if j = 7 then (redZ x 4620693217682128896).bind sinP else none
theorem sin_calls (x r : Nat) (hA : Arg x) (w : World) (hT : Tab w) (h : sinV x = some r) : Calls Tryz.prog 164 #[.float .f64 x] w fun e w' => e = .returned (.float .f64 r) ∧ w' = w := by
  obtain ⟨m, hm, h⟩ := Option.bind_eq_some_iff.1 h
  obtain ⟨j, hj, h⟩ := Option.bind_eq_some_iff.1 h
  split at h
  · subst j; obtain ⟨z, hz, h⟩ := Option.bind_eq_some_iff.1 h; exact sin_0 x m z r hA w hT hm hj hz h
  split at h
  · subst j; obtain ⟨z, hz, h⟩ := Option.bind_eq_some_iff.1 h; exact sin_1 x m z r hA w hT hm hj hz h
  split at h
  · subst j; obtain ⟨z, hz, h⟩ := Option.bind_eq_some_iff.1 h; exact sin_2 x m z r hA w hT hm hj hz h
  split at h
  · subst j; obtain ⟨z, hz, h⟩ := Option.bind_eq_some_iff.1 h; obtain ⟨r, hr, rfl⟩ := Option.map_eq_some_iff.1 h; exact sin_3 x m z r hA w hT hm hj hz hr
  split at h
  · subst j; obtain ⟨z, hz, h⟩ := Option.bind_eq_some_iff.1 h; obtain ⟨r, hr, rfl⟩ := Option.map_eq_some_iff.1 h; exact sin_4 x m z r hA w hT hm hj hz hr
  split at h
  · subst j; obtain ⟨z, hz, h⟩ := Option.bind_eq_some_iff.1 h; obtain ⟨r, hr, rfl⟩ := Option.map_eq_some_iff.1 h; exact sin_5 x m z r hA w hT hm hj hz hr
  split at h
  · subst j; obtain ⟨z, hz, h⟩ := Option.bind_eq_some_iff.1 h; obtain ⟨r, hr, rfl⟩ := Option.map_eq_some_iff.1 h; exact sin_6 x m z r hA w hT hm hj hz hr
  split at h
  · subst j; obtain ⟨z, hz, h⟩ := Option.bind_eq_some_iff.1 h; exact sin_7 x m z r hA w hT hm hj hz h
  · cases h
set_option maxRecDepth 100000 in
theorem sin_zero (w : World) : Calls Tryz.prog 164 #[.float .f64 0] w fun e w' => e = .returned (.float .f64 0) ∧ w' = w := by
  have h : (FloatKind.f64.format.order 0 0 == some .eq) = true := by decide +kernel
  go_enter Tryz.func164, Tryz.ntmps164
  go_wp2_with fail
  go_ret
  exact ⟨rfl, rfl⟩
def sinW (x : Nat) : Option Nat := if x = 0 then some 0 else sinV x
theorem Sin_calls (x r : Nat) (hA : x = 0 ∨ Arg x) (w : World) (hT : Tab w) (h : sinW x = some r) : Calls Tryz.prog 143 #[.float .f64 x] w fun e w' => e = .returned (.float .f64 r) ∧ w' = w := by
  have hc : Calls Tryz.prog 164 #[.float .f64 x] w fun e w' => e = .returned (.float .f64 r) ∧ w' = w := by
    unfold sinW at h
    by_cases c : x = 0
    · subst c
      rw [if_pos rfl] at h
      obtain rfl := Option.some.inj h
      exact sin_zero w
    · rw [if_neg c] at h
      exact sin_calls x r (hA.elim (fun h => absurd h c) id) w hT h
  clear h hA hT
  go_enter Tryz.func143, Tryz.ntmps143
  go_wp2_with (go_at_call 164; refine hc.mono ?_; rintro e w' ⟨rfl, rfl⟩)
  go_ret
  exact ⟨rfl, rfl⟩
def roundN (x : Nat) : Nat := if x / 4503599627370496 % 2048 < 1023 then (if x / 4503599627370496 % 2048 = 1022 then (x &&& 9223372036854775808) ||| 4607182418800017408 else x &&& 9223372036854775808)
  else if x / 4503599627370496 % 2048 < 1075 then (x + 2251799813685248 / 2 ^ (x / 4503599627370496 % 2048 - 1023)) % 18446744073709551616 &&& (18446744073709551615 - 4503599627370495 / 2 ^ (x / 4503599627370496 % 2048 - 1023)) else x
set_option maxRecDepth 100000 in
theorem round_calls (x : Nat) (hx : x < 18446744073709551616) (w : World) : Calls Tryz.prog 142 #[.float .f64 x] w fun e w' => e = .returned (.float .f64 (roundN x)) ∧ w' = w := by
  have c1 := bits_run x
  have c2 : ∀ (y : Int) (w : World), (callFunc 162 #[.int .u64 y]).run Tryz.prog w = .ok (.value (.float .f64 y.toNat)) w := fun y w => by
    have h1 := run_callFunc_extern (P := Tryz.prog) (e := Extern.MathFloatBits.float64frombits) Tryz.func162 (by kernel_rfl) (by kernel_rfl) (by kernel_rfl) (by rfl) #[.int .u64 y] w
    rw [h1]
    rfl
  have he : bits .and .u64 ((x : Int) / 4503599627370496) 2047 = ((x / 4503599627370496 % 2048 : Nat) : Int) := by
    have h := bits_and_u64_nat (x / 4503599627370496) 2047 (by omega) (by decide)
    rw [show ((x : Int) / 4503599627370496) = ((x / 4503599627370496 : Nat) : Int) by omega, show (2047 : Int) = ((2047 : Nat) : Int) from rfl, h]
    congr 1
    rw [show 2047 = 2 ^ 11 - 1 by decide, Nat.and_two_pow_sub_one_eq_mod]
  have hs : bits .and .u64 (x : Int) 9223372036854775808 = ((x &&& 9223372036854775808 : Nat) : Int) := bits_and_u64_nat x 9223372036854775808 hx (by decide)
  have hs2 : x &&& 9223372036854775808 ≤ x := Nat.and_le_left
  have ho : bits .or .u64 ((x &&& 9223372036854775808 : Nat) : Int) 4607182418800017408 = (((x &&& 9223372036854775808) ||| 4607182418800017408 : Nat) : Int) := bits_or_u64_nat _ 4607182418800017408 (by omega) (by decide)
  go_enter Tryz.func142, Tryz.ntmps142
  go_wp2
  · rename_i g1 g2
    go_ret
    refine ⟨?_, rfl⟩
    unfold roundN
    rw [if_pos (by omega), if_pos (by have := beq_iff_eq.1 g2; omega)]
    rfl
  · rename_i g1 g2
    go_ret
    refine ⟨?_, rfl⟩
    unfold roundN
    rw [if_pos (by omega), if_neg (by intro h; have := beq_eq_false_iff_ne.1 g2; omega)]
    rfl
  · rename_i g1 g2
    go_ret
    refine ⟨?_, rfl⟩
    unfold roundN
    rw [if_neg (by omega), if_pos (by omega)]
    generalize x / 4503599627370496 % 2048 - 1023 = k
    have d1 : (2251799813685248 : Int) / 2 ^ k = ((2251799813685248 / 2 ^ k : Nat) : Int) := by rw [Int.natCast_ediv, Int.natCast_pow]; rfl
    have d2 : (4503599627370495 : Int) / 2 ^ k = ((4503599627370495 / 2 ^ k : Nat) : Int) := by rw [Int.natCast_ediv, Int.natCast_pow]; rfl
    have b2 : 4503599627370495 / 2 ^ k ≤ 4503599627370495 := Nat.div_le_self _ _
    rw [d1, d2, IntKind.wrap_u64, show ((x : Int) + ((2251799813685248 / 2 ^ k : Nat) : Int)) % 18446744073709551616 = (((x + 2251799813685248 / 2 ^ k) % 18446744073709551616 : Nat) : Int) by omega, u64_andNot_nat _ _ (Nat.mod_lt _ (by decide)) (by omega), Int.toNat_natCast]
    rfl
  · rename_i g1 g2
    go_ret
    refine ⟨?_, rfl⟩
    unfold roundN
    rw [if_neg (by omega), if_neg (by omega)]
    rfl
def argF (n : Int) : Option Nat := (fm (floatOfInt .f64 n) 4611686018427387904).bind fun a => (fm a 4614256656552045848).bind fun b => fq b 4661225614328463360
def argB (x : Nat) : Bool := x == 0 || (decide (x < 9223372036854775808) && !(FloatKind.f64.format.order x 0 == some .eq) && (FloatKind.f64.format.order x x == some .eq) && !(FloatKind.f64.format.order x big == some .gt) && !(FloatKind.f64.format.order x 0 == some .lt) && !(FloatKind.f64.format.order x 4737786807993761792 == some .gt || FloatKind.f64.format.order x 4737786807993761792 == some .eq))
def sinT (n : Int) : Option Int := (argF n).bind fun x => if argB x = true then (sinW x).bind fun r => (fm r 4670232813583204352).bind fun s => if s < 18446744073709551616 then floatToIntVal .f64 (roundN s) .i64 else none else none
theorem arg_of {x : Nat} (h : argB x = true) : x = 0 ∨ Arg x := by
  unfold argB at h
  rw [Bool.or_eq_true] at h
  refine h.imp (fun h => by simpa using h) (fun h => ?_)
  simp only [Bool.and_eq_true, Bool.not_eq_true', decide_eq_true_eq, beq_iff_eq] at h
  obtain ⟨⟨⟨⟨⟨a, b⟩, c⟩, d⟩, e⟩, f⟩ := h
  exact ⟨a, b, c, d, e, f⟩
theorem conv_f (n : Int) (w : World) : (convert 3 167 (.int .i64 n)).run Tryz.prog w = .ok (.float .f64 (floatOfInt .f64 n)) w := by kernel_rfl
theorem conv_i (m : Nat) (j : Int) (h : floatToIntVal .f64 m .i64 = some j) (w : World) : (convert 167 3 (.float .f64 m)).run Tryz.prog w = .ok (.int .i64 j) w :=
  run_convert_float_int w 167 3 .f64 .i64 m j (by kernel_rfl) (by kernel_rfl) h
theorem norm_calls (h : Int) (w : World) : Calls Tryz.prog 98 #[.int .i64 h] w fun e w' => e = .returned (.int .i64 (bits .and .i64 h 4095)) ∧ w' = w := by
  go_enter Tryz.func98, Tryz.ntmps98
  go_wp2_with fail
  go_ret
  exact ⟨rfl, rfl⟩
theorem angSin_calls (h n v : Int) (hn : bits .and .i64 h 4095 = n) (hv : sinT n = some v) (w : World) (hT : Tab w) : Calls Tryz.prog 99 #[.int .i64 h] w fun e w' => e = .returned (.int .i64 v) ∧ w' = w := by
  obtain ⟨x, hx, hv⟩ := Option.bind_eq_some_iff.1 hv
  split at hv
  · rename_i hA
    obtain ⟨r, hr, hv⟩ := Option.bind_eq_some_iff.1 hv
    obtain ⟨s, hs, hv⟩ := Option.bind_eq_some_iff.1 hv
    split at hv
    · rename_i hs64
      obtain ⟨a, h1, hx⟩ := Option.bind_eq_some_iff.1 hx
      obtain ⟨b, h2, h3⟩ := Option.bind_eq_some_iff.1 hx
      have g0 := conv_f n
      have g1 := op2 h1
      have g2 := op2 h2
      have g3 := op2 h3
      have g4 := op2 hs
      have g5 := conv_i _ _ hv
      have hA' := Lib.hid (arg_of hA)
      have hr' := Lib.hid hr
      have hT' := Lib.hid hT
      have hs' := Lib.hid hs64
      clear hx h1 h2 h3 hs hv hA hr hT hs64
      go_enter Tryz.func99, Tryz.ntmps99
      go_wp2_with (first | (go_at_call 98; refine (norm_calls h _).mono ?_; rintro e w' ⟨rfl, rfl⟩; rw [hn]) | (go_at_call 143; refine (Sin_calls x r hA'.out _ hT'.out hr'.out).mono ?_; rintro e w' ⟨rfl, rfl⟩) | (go_at_call 142; refine (round_calls s hs'.out _).mono ?_; rintro e w' ⟨rfl, rfl⟩))
      go_ret
      exact ⟨rfl, rfl⟩
    · cases hv
  · cases hv
end Go.Proofs.YthpbpdobghceeaaGreatDoor.Ang
