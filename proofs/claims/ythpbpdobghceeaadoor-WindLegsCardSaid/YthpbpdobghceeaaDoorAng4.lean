/- Package angle's functions, by their table: what they answer, where start-up code laid the tables of math.Sin. -/
import Derived.Test.YthpbpdobghceeaaDoorAngT0
import Derived.Test.YthpbpdobghceeaaDoorAngT1
import Derived.Test.YthpbpdobghceeaaDoorAngT2
import Derived.Test.YthpbpdobghceeaaDoorAngT3
namespace Go.Proofs.YthpbpdobghceeaaDoor.Ang
open Go Go.RowKit
theorem i64_and4095 (n : Int) : bits .and .i64 n 4095 = n % 4096 := by
  have h127 : (BitVec.ofInt 64 4095).toNat = 2 ^ 12 - 1 := by decide
  have key : (BitVec.ofInt 64 n &&& BitVec.ofInt 64 4095).toNat = (n % ((2 ^ 64 : Nat) : Int)).toNat % 2 ^ 12 := by
    rw [BitVec.toNat_and, BitVec.toNat_ofInt, h127, Nat.and_two_pow_sub_one_eq_mod]
  show IntKind.i64.wrap ((BitVec.ofInt 64 n &&& BitVec.ofInt 64 4095).toNat : Nat) = n % 4096
  rw [key, IntKind.wrap_i64]
  omega
theorem sin_tab (n : Nat) (hn : n < 4096) : sinT (n : Int) = some (sinL n) := by
  obtain ⟨q, r, hr, rfl⟩ : ∃ q r, r < 128 ∧ n = 128 * q + r := ⟨n / 128, n % 128, Nat.mod_lt _ (by decide), by omega⟩
  have hq : q < 32 := by omega
  have all : ∀ q, q < 32 → chkT (128 * q) 128 = true := by
    intro q hq
    match q, hq with
    | 0, _ => exact tab_0
    | 1, _ => exact tab_1
    | 2, _ => exact tab_2
    | 3, _ => exact tab_3
    | 4, _ => exact tab_4
    | 5, _ => exact tab_5
    | 6, _ => exact tab_6
    | 7, _ => exact tab_7
    | 8, _ => exact tab_8
    | 9, _ => exact tab_9
    | 10, _ => exact tab_10
    | 11, _ => exact tab_11
    | 12, _ => exact tab_12
    | 13, _ => exact tab_13
    | 14, _ => exact tab_14
    | 15, _ => exact tab_15
    | 16, _ => exact tab_16
    | 17, _ => exact tab_17
    | 18, _ => exact tab_18
    | 19, _ => exact tab_19
    | 20, _ => exact tab_20
    | 21, _ => exact tab_21
    | 22, _ => exact tab_22
    | 23, _ => exact tab_23
    | 24, _ => exact tab_24
    | 25, _ => exact tab_25
    | 26, _ => exact tab_26
    | 27, _ => exact tab_27
    | 28, _ => exact tab_28
    | 29, _ => exact tab_29
    | 30, _ => exact tab_30
    | 31, _ => exact tab_31
    | k + 32, h => omega
  exact chkT_at (all q hq) r hr
/-- The sine of an angle. -/
def sinI (h : Int) : Int := sinL (h % 4096).toNat
def cosI (h : Int) : Int := sinI (h + 1024)
theorem sinI_mod {a b : Int} (h : a % 4096 = b % 4096) : sinI a = sinI b := by unfold sinI; rw [h]
theorem sinI_wrap (a : Int) : sinI (wrap64 a) = sinI a := sinI_mod (by unfold wrap64; omega)
theorem cosI_wrap (a : Int) : cosI (wrap64 a) = cosI a := sinI_mod (by unfold wrap64; omega)
theorem norm_calls' (h : Int) (w : World) : Calls Tryd.prog 14 #[.int .i64 h] w fun e w' => e = .returned (.int .i64 (h % 4096)) ∧ w' = w := by
  have := norm_calls h w
  rwa [i64_and4095] at this
theorem sinI_calls (h : Int) (w : World) (hT : Tab w) : Calls Tryd.prog 12 #[.int .i64 h] w fun e w' => e = .returned (.int .i64 (sinI h)) ∧ w' = w := by
  refine angSin_calls h (h % 4096) (sinI h) (i64_and4095 h) ?_ w hT
  have h2 := sin_tab (h % 4096).toNat (by omega)
  rw [show (((h % 4096).toNat : Nat) : Int) = h % 4096 by omega] at h2
  exact h2
theorem cosI_calls (h : Int) (w : World) (hT : Tab w) : Calls Tryd.prog 13 #[.int .i64 h] w fun e w' => e = .returned (.int .i64 (cosI h)) ∧ w' = w := by
  have hc := fun w hT => sinI_calls (wrap64 (h + 1024)) w hT
  have hs : sinI (wrap64 (h + 1024)) = cosI h := sinI_wrap (h + 1024)
  simp only [hs] at hc
  generalize cosI h = v at *
  have hT' := Lib.hid hT
  clear hs hT
  go_enter Tryd.func13, Tryd.ntmps13
  go_wp2_with (go_at_call 12; refine (hc _ hT'.out).mono ?_; rintro e w' ⟨rfl, rfl⟩)
  go_ret
  exact ⟨rfl, rfl⟩
/-- The least turn. -/
def diffI (a b : Int) : Int := if (b - a) % 4096 > 2048 then (b - a) % 4096 - 4096 else (b - a) % 4096
theorem diff_calls (a b : Int) (w : World) : Calls Tryd.prog 15 #[.int .i64 a, .int .i64 b] w fun e w' => e = .returned (.int .i64 (diffI a b)) ∧ w' = w := by
  have hn := norm_calls' (wrap64 (b - a))
  have hm : wrap64 (b - a) % 4096 = (b - a) % 4096 := by unfold wrap64; omega
  simp only [hm] at hn
  obtain ⟨d, hd⟩ : ∃ d, (b - a) % 4096 = d := ⟨_, rfl⟩
  have hd' := Lib.hid hd
  have r1 : 0 ≤ d := by omega
  have r2 : d < 4096 := by omega
  have hw : wrap64 (d - 4096) = d - 4096 := by unfold wrap64; omega
  simp only [hd] at hn
  clear hm hd r1 r2
  go_enter Tryd.func15, Tryd.ntmps15
  go_wp2_with (go_at_call 14; refine (hn _).mono ?_; rintro e w' ⟨rfl, rfl⟩)
  · rename_i g
    go_ret
    refine ⟨?_, rfl⟩
    unfold diffI
    rw [hd'.out, if_pos (by omega)]
    show Ending.returned (.int .i64 (wrap64 (d - 4096))) = _
    rw [hw]
  · rename_i g
    go_ret
    refine ⟨?_, rfl⟩
    unfold diffI
    rw [hd'.out, if_neg (by omega)]
    rfl
theorem works_calls (w : World) (hT : Tab w) : Calls Tryd.prog 11 #[] w fun e w' => e = .returned (.bool true) ∧ w' = w := by
  have h1 : diffI 4090 10 = 16 := by decide
  have h2 : (-1 : Int) % 4096 = 4095 := by decide
  have h3 : sinI 1024 = 16384 := by decide +kernel
  have h4 : cosI 2048 = -16384 := by decide +kernel
  have c1 := diff_calls 4090 10
  have c2 := norm_calls' (-1)
  have c3 := fun w hT => sinI_calls 1024 w hT
  have c4 := fun w hT => cosI_calls 2048 w hT
  simp only [h1] at c1
  simp only [h2] at c2
  simp only [h3] at c3
  simp only [h4] at c4
  have hT' := Lib.hid hT
  clear h1 h2 h3 h4 hT
  go_enter Tryd.func11, Tryd.ntmps11
  go_wp2_with (first | (go_at_call 15; refine (c1 _).mono ?_; rintro e w' ⟨rfl, rfl⟩) | (go_at_call 14; refine (c2 _).mono ?_; rintro e w' ⟨rfl, rfl⟩) | (go_at_call 12; refine (c3 _ hT'.out).mono ?_; rintro e w' ⟨rfl, rfl⟩) | (go_at_call 13; refine (c4 _ hT'.out).mono ?_; rintro e w' ⟨rfl, rfl⟩))
  go_ret
  exact ⟨rfl, rfl⟩
end Go.Proofs.YthpbpdobghceeaaDoor.Ang
