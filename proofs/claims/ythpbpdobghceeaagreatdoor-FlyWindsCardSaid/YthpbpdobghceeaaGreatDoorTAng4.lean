import Derived.Test.YthpbpdobghceeaaGreatDoorTAngT0
import Derived.Test.YthpbpdobghceeaaGreatDoorTAngT1
import Derived.Test.YthpbpdobghceeaaGreatDoorTAngT2
import Derived.Test.YthpbpdobghceeaaGreatDoorTAngT3
namespace Go.Proofs.YthpbpdobghceeaaGreatDoor.Ang
open Go Go.RowKit
theorem i64_and4095 (n : Int) : bits .and .i64 n 4095 = n % 4096 := by
  have h127 : (BitVec.ofInt 64 4095).toNat = 2 ^ 12 - 1 := by decide
  have key : (BitVec.ofInt 64 n &&& BitVec.ofInt 64 4095).toNat = (n % ((2 ^ 64 : Nat) : Int)).toNat % 2 ^ 12 := by
    rw [BitVec.toNat_and, BitVec.toNat_ofInt, h127, Nat.and_two_pow_sub_one_eq_mod]
  show IntKind.i64.wrap ((BitVec.ofInt 64 n &&& BitVec.ofInt 64 4095).toNat : Nat) = n % 4096
  rw [key, IntKind.wrap_i64]
  omega
theorem sin_tab (n : Nat) (hn : n < 4096) : sinT (n : Int) = some (sinL n) := by
  obtain ⟨q, r, hr, rfl⟩ : ∃ q r, r < 128 ∧ n = 128 * q + r := ⟨n / 128, n % 128, Nat.mod_lt _ (by decide), by omega⟩
  have hq : q < 32 := by omega
  have all : ∀ q, q < 32 → chkT (128 * q) 128 = true := by
    intro q hq
    match q, hq with
    | 0, _ => exact tab_0
    | 1, _ => exact tab_1
    | 2, _ => exact tab_2
    | 3, _ => exact tab_3
    | 4, _ => exact tab_4
    | 5, _ => exact tab_5
    | 6, _ => exact tab_6
    | 7, _ => exact tab_7
    | 8, _ => exact tab_8
    | 9, _ => exact tab_9
    | 10, _ => exact tab_10
    | 11, _ => exact tab_11
    | 12, _ => exact tab_12
    | 13, _ => exact tab_13
    | 14, _ => exact tab_14
    | 15, _ => exact tab_15
    | 16, _ => exact tab_16
    | 17, _ => exact tab_17
    | 18, _ => exact tab_18
    | 19, _ => exact tab_19
    | 20, _ => exact tab_20
    | 21, _ => exact tab_21
    | 22, _ => exact tab_22
    | 23, _ => exact tab_23
    | 24, _ => exact tab_24
    | 25, _ => exact tab_25
    | 26, _ => exact tab_26
    | 27, _ => exact tab_27
    | 28, _ => exact tab_28
    | 29, _ => exact tab_29
    | 30, _ => exact tab_30
    | 31, _ => exact tab_31
    | k + 32, h => omega
  exact chkT_at (all q hq) r hr
def sinI (h : Int) : Int := sinL (h % 4096).toNat
def cosI (h : Int) : Int := sinI (h + 1024)
theorem sinI_mod {a b : Int} (h : a % 4096 = b % 4096) : sinI a = sinI b := by unfold sinI; rw [h]
theorem sinI_wrap (a : Int) : sinI (wrap64 a) = sinI a := sinI_mod (by unfold wrap64; omega)
theorem sinI_calls (h : Int) (w : World) (hT : Tab w) : Calls Tryz.prog 99 #[.int .i64 h] w fun e w' => e = .returned (.int .i64 (sinI h)) ∧ w' = w := by
  refine angSin_calls h (h % 4096) (sinI h) (i64_and4095 h) ?_ w hT
  have h2 := sin_tab (h % 4096).toNat (by omega)
  rw [show (((h % 4096).toNat : Nat) : Int) = h % 4096 by omega] at h2
  exact h2
end Go.Proofs.YthpbpdobghceeaaGreatDoor.Ang
