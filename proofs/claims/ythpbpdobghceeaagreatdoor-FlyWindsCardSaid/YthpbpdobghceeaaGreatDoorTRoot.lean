import GoSem.Core.Float
import Derived.Test.YthpbpdobghceeaaGreatDoorProg
import Derived.Test.YthpbpdobghceeaaGreatDoorTWords
import Derived.Tactics
import Derived.WalkKit
import Derived.KernelRfl
import Derived.RowKit3
import Derived.Deep.LoopGhost
import Derived.Laws.Externs
import Derived.Lib.Hide
import Derived.RowKit
namespace Go.Proofs.YthpbpdobghceeaaGreatDoor.RootF
open Ieee
theorem rootFrom_spec (n : Nat) : ∀ (todo root : Nat), root * root ≤ n → n < (root + 2 ^ todo) * (root + 2 ^ todo) →
    Datum.rootFrom n todo root * Datum.rootFrom n todo root ≤ n ∧ n < (Datum.rootFrom n todo root + 1) * (Datum.rootFrom n todo root + 1)
  | 0, root, h1, h2 => by simpa [Datum.rootFrom] using ⟨h1, h2⟩
  | todo + 1, root, h1, h2 => by
    simp only [Datum.rootFrom, Nat.shiftLeft_eq, Nat.one_mul]
    by_cases h : (root + 2 ^ todo) * (root + 2 ^ todo) ≤ n
    · rw [if_pos h]
      refine rootFrom_spec n todo _ h ?_
      have : root + 2 ^ todo + 2 ^ todo = root + 2 ^ (todo + 1) := by rw [Nat.pow_succ]; omega
      rw [this]; exact h2
    · rw [if_neg h]
      exact rootFrom_spec n todo _ h1 (by omega)
theorem root_whole (n : Nat) : Datum.rootFrom n (n.log2 / 2 + 1) 0 * Datum.rootFrom n (n.log2 / 2 + 1) 0 ≤ n ∧ n < (Datum.rootFrom n (n.log2 / 2 + 1) 0 + 1) * (Datum.rootFrom n (n.log2 / 2 + 1) 0 + 1) := by
  refine rootFrom_spec n _ 0 (by omega) ?_
  rw [Nat.zero_add, ← Nat.pow_add]
  exact Nat.lt_of_lt_of_le Nat.lt_log2_self (Nat.pow_le_pow_right (by omega) (by omega))
theorem sq_lt {a b : Nat} (h : a * a < b * b) : a < b := by
  rcases Nat.lt_or_ge a b with h' | h'
  · exact h'
  · have := Nat.mul_le_mul h' h'; omega
theorem dbl : double.leastPlace = -1074 ∧ double.binade = 2 ^ 52 ∧ double.infRung = 2047 * 2 ^ 52 ∧ double.signWeight = 2 ^ 63 ∧ double.fractionBits = 52 := by decide
theorem kept_bd (mag : Nat) (hm : 0 < mag) : 2 ^ 52 ≤ Toward.even.cut false (mag <<< (52 - mag.log2)) (mag.log2 - 52) ∧ Toward.even.cut false (mag <<< (52 - mag.log2)) (mag.log2 - 52) ≤ 2 ^ 53 := by
  have h1 := Nat.log2_self_le (n := mag) (by omega)
  have h2 := Nat.lt_log2_self (n := mag)
  rcases Nat.lt_or_ge 52 mag.log2 with h | h
  · have e0 : 52 - mag.log2 = 0 := by omega
    rw [e0]
    simp only [Toward.cut, Nat.shiftLeft_zero]
    have e1 : min (mag.log2 - 52) (mag.log2 + 2) = mag.log2 - 52 := by omega
    simp only [e1, Nat.shiftLeft_eq, Nat.one_mul]
    have e2 : 2 ^ mag.log2 = 2 ^ 52 * 2 ^ (mag.log2 - 52) := by rw [← Nat.pow_add]; congr 1; omega
    have e3 : 2 ^ (mag.log2 + 1) = 2 ^ 53 * 2 ^ (mag.log2 - 52) := by rw [← Nat.pow_add]; congr 1; omega
    rw [e2] at h1; rw [e3] at h2
    have hp : 0 < 2 ^ (mag.log2 - 52) := Nat.pow_pos (by omega)
    have l1 : 2 ^ 52 ≤ mag / 2 ^ (mag.log2 - 52) := (Nat.le_div_iff_mul_le hp).2 h1
    have l2 : mag / 2 ^ (mag.log2 - 52) < 2 ^ 53 := (Nat.div_lt_iff_lt_mul hp).2 h2
    generalize mag / 2 ^ (mag.log2 - 52) = low at *
    have hb : ∀ b : Bool, b.toNat ≤ 1 := by decide
    refine ⟨Nat.le_trans l1 (Nat.le_add_right _ _), ?_⟩
    exact Nat.le_trans (Nat.add_le_add_left (hb _) low) l2
  · have e0 : mag.log2 - 52 = 0 := by omega
    rw [e0]
    simp only [Toward.cut, Nat.zero_min, Nat.shiftLeft_zero, Nat.div_one, Nat.mod_one, Nat.mul_zero]
    have e2 : 2 ^ 52 = 2 ^ mag.log2 * 2 ^ (52 - mag.log2) := by rw [← Nat.pow_add]; congr 1; omega
    have e3 : 2 ^ 53 = 2 ^ (mag.log2 + 1) * 2 ^ (52 - mag.log2) := by rw [← Nat.pow_add]; congr 1; omega
    have l1 := Nat.mul_le_mul_right (2 ^ (52 - mag.log2)) h1
    have l2 := Nat.mul_le_mul_right (2 ^ (52 - mag.log2)) (Nat.le_of_lt h2)
    rw [← e2] at l1; rw [← e3] at l2
    rw [Nat.shiftLeft_eq]
    generalize mag * 2 ^ (52 - mag.log2) = z at *
    simp
    omega
theorem nearest_bd (mag : Nat) (place : Int) (hm : 0 < mag) (h1 : 0 ≤ place + mag.log2) (h2 : place + mag.log2 ≤ 1000) :
    (place + mag.log2 + 1023) * 2 ^ 52 ≤ (double.nearest false mag place : Int) ∧ (double.nearest false mag place : Int) ≤ (place + mag.log2 + 1024) * 2 ^ 52 := by
  obtain ⟨d1, d2, d3, _, d5⟩ := dbl
  obtain ⟨k1, k2⟩ := kept_bd mag hm
  have hm0 : ¬ mag = 0 := by omega
  have e1 : max (place + (mag.log2 : Int) - ((52 : Nat) : Int)) (-1074) = place + mag.log2 - 52 := by omega
  have e2 : (place - (place + (mag.log2 : Int) - 52)).toNat = 52 - mag.log2 := by omega
  have e3 : (place + (mag.log2 : Int) - 52 - place).toNat = mag.log2 - 52 := by omega
  obtain ⟨E, hE⟩ : ∃ E : Nat, place + (mag.log2 : Int) = E := ⟨(place + mag.log2).toNat, by omega⟩
  have e4 : (place + (mag.log2 : Int) - 52 - -1074).toNat = E + 1022 := by omega
  have hn : double.nearest false mag place = min ((E + 1022) * 2 ^ 52 + Toward.even.cut false (mag <<< (52 - mag.log2)) (mag.log2 - 52)) (2047 * 2 ^ 52) := by
    unfold Format.nearest
    rw [if_neg hm0, d1, d2, d3, d5]
    dsimp only
    rw [e1, e2, e3, e4]
    unfold Format.word
    exact if_neg (by decide)
  rw [hn, hE]
  clear hn e1 e2 e3 e4 d1 d2 d3 d5
  generalize Toward.even.cut false (mag <<< (52 - mag.log2)) (mag.log2 - 52) = kept at *
  have k1' : (4503599627370496 : Int) ≤ kept := by have := k1; omega
  have k2' : (kept : Int) ≤ 9007199254740992 := by have := k2; omega
  have : ((min ((E + 1022) * 2 ^ 52 + kept) (2047 * 2 ^ 52) : Nat) : Int) = (E + 1022) * 4503599627370496 + kept := by
    have : (E + 1022) * 2 ^ 52 + kept ≤ 2047 * 2 ^ 52 := by omega
    rw [Nat.min_eq_left this]; omega
  rw [this]
  omega
theorem read_mid (x : Nat) (h1 : 2 ^ 52 ≤ x) (h2 : x < 2047 * 2 ^ 52) :
    double.read x = .number false (2 ^ 52 + x % 2 ^ 52) ((x / 2 ^ 52 : Nat) - 1075) := by
  obtain ⟨d1, d2, d3, d4, _⟩ := dbl
  unfold Format.read
  rw [d1, d2, d3, d4]
  have e1 : x / 2 ^ 63 = 0 := by omega
  have e2 : x % 2 ^ 63 = x := by omega
  rw [e1, e2]
  simp only [show ((0 : Nat) % 2 == 1) = false from rfl]
  rw [if_neg (by omega), if_pos (by omega)]
  congr 1
  omega
theorem log2_mid (f : Nat) (h : f < 2 ^ 52) : (2 ^ 52 + f).log2 = 52 := by
  have h0 : 2 ^ 52 + f ≠ 0 := by omega
  have h1 := (Nat.le_log2 h0 (k := 52)).2 (by omega)
  have h2 := (Nat.log2_lt h0 (k := 53)).2 (by omega)
  omega
theorem root_bd (m : Nat) (i : Int) (h1 : 2 ^ 52 ≤ m) (h2 : m < 2 ^ 53) (hi1 : -52 ≤ i) (hi2 : i ≤ 11) :
    ∃ mag place, (Datum.number false m i).root 54 = some (.number false mag place) ∧ 0 < mag ∧ 0 ≤ place + (mag.log2 : Int) ∧ place + (mag.log2 : Int) ≤ 31 := by
  have hl : m.log2 = 52 := by
    obtain ⟨f, rfl⟩ : ∃ f, m = 2 ^ 52 + f := ⟨m - 2 ^ 52, by omega⟩
    exact log2_mid f (by omega)
  have hm0 : ¬ m = 0 := by omega
  simp only [Datum.root, hm0, hl, Bool.false_eq_true, if_false]
  obtain ⟨more, hmore⟩ : ∃ more : Nat, 2 * 54 - 52 + ((i - ((2 * 54 - 52 : Nat) : Int)) % 2).toNat = more := ⟨_, rfl⟩
  rw [hmore]
  obtain ⟨h, hh⟩ : ∃ h : Nat, (i - more) = -2 * (h : Int) := ⟨((more - i) / 2).toNat, by omega⟩
  have hd : (i - (more : Int)) / 2 = -(h : Int) := by omega
  rw [hd]
  obtain ⟨r1, r2⟩ := root_whole (m <<< more)
  generalize Datum.rootFrom (m <<< more) ((m <<< more).log2 / 2 + 1) 0 = whole at *
  rw [Nat.shiftLeft_eq] at *
  refine ⟨_, _, rfl, ?_⟩
  have hb : ∀ b : Bool, b.toNat ≤ 1 := by decide
  have hb1 := hb (whole * whole != m * 2 ^ more)
  generalize (whole * whole != m * 2 ^ more).toNat = b at *
  have p1 : 2 ^ h * 2 ^ h ≤ m * 2 ^ more := by
    rw [← Nat.pow_add]
    calc 2 ^ (h + h) ≤ 2 ^ (52 + more) := Nat.pow_le_pow_right (by omega) (by omega)
      _ = 2 ^ 52 * 2 ^ more := Nat.pow_add ..
      _ ≤ m * 2 ^ more := Nat.mul_le_mul_right _ h1
  have p2 : 2 ^ h < whole + 1 := sq_lt (Nat.lt_of_le_of_lt p1 r2)
  have p3 : m * 2 ^ more < 2 ^ (32 + h) * 2 ^ (32 + h) := by
    rw [← Nat.pow_add]
    calc m * 2 ^ more < 2 ^ 53 * 2 ^ more := Nat.mul_lt_mul_of_pos_right h2 (Nat.pow_pos (by omega))
      _ = 2 ^ (53 + more) := (Nat.pow_add ..).symm
      _ ≤ 2 ^ (32 + h + (32 + h)) := Nat.pow_le_pow_right (by omega) (by omega)
  have p4 : whole < 2 ^ (32 + h) := sq_lt (Nat.lt_of_le_of_lt r1 p3)
  have q1 : 2 ^ (h + 1) ≤ 2 * whole + b := by rw [Nat.pow_succ]; omega
  have q2 : 2 * whole + b < 2 ^ (33 + h) := by
    have : 2 ^ (33 + h) = 2 * 2 ^ (32 + h) := by rw [show 33 + h = (32 + h) + 1 by omega, Nat.pow_succ]; omega
    omega
  have hpos : 0 < 2 ^ (h + 1) := Nat.pow_pos (by omega)
  have h0 : 2 * whole + b ≠ 0 := by omega
  have g1 := (Nat.le_log2 h0 (k := h + 1)).2 q1
  have g2 := (Nat.log2_lt h0 (k := 33 + h)).2 q2
  refine ⟨by omega, ?_, ?_⟩ <;> omega
theorem toInt_mid (y : Nat) (h1 : 1023 * 2 ^ 52 ≤ y) (h2 : y ≤ 1055 * 2 ^ 52) :
    ∃ r : Nat, (double.read y).toInt .zero = some (r : Int) ∧ 1 ≤ r ∧ r ≤ 2 ^ 33 := by
  rw [read_mid y (by omega) (by omega)]
  have e1 : 1023 ≤ y / 2 ^ 52 := by omega
  have e2 : y / 2 ^ 52 ≤ 1055 := by omega
  have hf : y % 2 ^ 52 < 2 ^ 52 := by omega
  generalize y / 2 ^ 52 = e at *
  generalize y % 2 ^ 52 = f at *
  simp only [Datum.toInt, Datum.integral, Toward.cut]
  have t1 : ((e : Int) - 1075).toNat = 0 := by omega
  have t2 : (-((e : Int) - 1075)).toNat = 1075 - e := by omega
  rw [t1, t2, Nat.shiftLeft_zero, log2_mid f hf]
  have t3 : min (1075 - e) (52 + 2) = 1075 - e := by omega
  rw [t3, Nat.shiftLeft_eq, Nat.one_mul]
  refine ⟨(2 ^ 52 + f) / 2 ^ (1075 - e), ?_, ?_, ?_⟩
  · simp [signed]
  · refine (Nat.le_div_iff_mul_le (Nat.pow_pos (by omega))).2 ?_
    have := Nat.pow_le_pow_right (n := 2) (by omega) (show 1075 - e ≤ 52 by omega)
    omega
  · have hp := Nat.pow_le_pow_right (n := 2) (by omega) (show 20 ≤ 1075 - e by omega)
    have : (2 ^ 52 + f) / 2 ^ (1075 - e) ≤ (2 ^ 52 + f) / 2 ^ 20 := Nat.div_le_div_left hp (by omega)
    omega
theorem sqrt_int (n : Int) (h1 : 1 ≤ n) (h2 : n ≤ 9223372036854775807) :
    ∃ s, Go.FloatKind.f64.format.sqrt (Go.FloatKind.f64.nearest n) = some s ∧ ∃ r : Nat, (Go.FloatKind.f64.decode s).toInt .zero = some (r : Int) ∧ 1 ≤ r ∧ r ≤ 2 ^ 33 := by
  obtain ⟨m, rfl⟩ : ∃ m : Nat, n = m := ⟨n.toNat, by omega⟩
  have hm : 0 < m := by omega
  have hl : m.log2 < 63 := (Nat.log2_lt (by omega)).2 (by omega)
  have e0 : Go.FloatKind.f64.nearest (m : Int) = double.nearest false m 0 := by
    have hd : decide ((m : Int) < 0) = false := decide_eq_false (by omega)
    show double.nearest (decide ((m : Int) < 0)) (m : Int).natAbs 0 = _
    rw [hd, Int.natAbs_natCast]
  obtain ⟨b1, b2⟩ := nearest_bd m 0 hm (by omega) (by omega)
  rw [e0]
  generalize double.nearest false m 0 = x at *
  have hx1 : 1023 * 2 ^ 52 ≤ x := by omega
  have hx2 : x ≤ 1086 * 2 ^ 52 := by omega
  show ∃ s, double.sqrt x = some s ∧ _
  unfold Format.sqrt
  rw [read_mid x (by omega) (by omega)]
  obtain ⟨mag, place, hr, hp, g1, g2⟩ := root_bd (2 ^ 52 + x % 2 ^ 52) ((x / 2 ^ 52 : Nat) - 1075) (by omega) (by omega) (by omega) (by omega)
  rw [show double.fractionBits + 2 = 54 from rfl, hr]
  refine ⟨_, rfl, ?_⟩
  obtain ⟨c1, c2⟩ := nearest_bd mag place hp g1 (by omega)
  show ∃ r : Nat, (double.read (double.nearest false mag place)).toInt .zero = some (r : Int) ∧ _
  exact toInt_mid _ (by omega) (by omega)
def rootN (n : Nat) : Nat := Datum.rootFrom n (n.log2 / 2 + 1) 0
def rootI (n : Int) : Int := (rootN n.toNat : Int)
theorem rootN_spec (n : Nat) : rootN n * rootN n ≤ n ∧ n < (rootN n + 1) * (rootN n + 1) := root_whole n
theorem rootN_eq {n r : Nat} (h1 : r * r ≤ n) (h2 : n < (r + 1) * (r + 1)) : rootN n = r := by
  obtain ⟨g1, g2⟩ := rootN_spec n
  have a := sq_lt (Nat.lt_of_le_of_lt g1 h2)
  have b := sq_lt (Nat.lt_of_le_of_lt h1 g2)
  omega
theorem rootI_nonneg (n : Int) : 0 ≤ rootI n := Int.natCast_nonneg _
theorem rootI_spec {n : Int} (h : 0 ≤ n) : rootI n * rootI n ≤ n ∧ n < (rootI n + 1) * (rootI n + 1) := by
  obtain ⟨m, rfl⟩ : ∃ m : Nat, n = m := ⟨n.toNat, by omega⟩
  obtain ⟨g1, g2⟩ := rootN_spec m
  have e : rootI (m : Int) = (rootN m : Int) := rfl
  rw [e]
  generalize rootN m = r at *
  exact ⟨by exact_mod_cast g1, by exact_mod_cast g2⟩
theorem rootI_neg {n : Int} (h : n ≤ 0) : rootI n = 0 := by
  have e : n.toNat = 0 := by omega
  unfold rootI
  rw [e]
  rfl
theorem rootI_eq {n r : Int} (h0 : 0 ≤ r) (h1 : r * r ≤ n) (h2 : n < (r + 1) * (r + 1)) : rootI n = r := by
  obtain ⟨s, rfl⟩ : ∃ s : Nat, r = s := ⟨r.toNat, by omega⟩
  have hn : 0 ≤ n := Int.le_trans (Int.mul_nonneg h0 h0) h1
  obtain ⟨m, rfl⟩ : ∃ m : Nat, n = m := ⟨n.toNat, by omega⟩
  have e : rootI (m : Int) = (rootN m : Int) := rfl
  rw [e, rootN_eq (r := s) (by exact_mod_cast h1) (by exact_mod_cast h2)]
open Go.RowKit Go.Proofs.YthpbpdobghceeaaGreatDoorW.PrintWords Go.Proofs.YthpbpdobghceeaaGreatDoorW.PrintLast
theorem sqrt_run (x s : Nat) (h : Go.FloatKind.f64.format.sqrt x = some s) (w : World) : (callFunc 144 #[.float .f64 x]).run Tryz.prog w = .ok (.value (.float .f64 s)) w := by
  have h1 := run_callFunc_extern (P := Tryz.prog) (e := Extern.MathSqrt.sqrt) Tryz.func144 (by kernel_rfl) (by kernel_rfl) (by kernel_rfl) (by rfl) #[.float .f64 x] w
  have h2 : Extern.MathSqrt.sqrt #[.float .f64 x] = (pure (.float .f64 s) : Sem Value) := by
    show (match Go.FloatKind.f64.format.sqrt x with | some r => (pure (.float .f64 r) : Sem Value) | none => _) = _
    rw [h]
  rw [h1, h2]
  rfl
theorem sqrt_calls (x s : Nat) (h : Go.FloatKind.f64.format.sqrt x = some s) (w : World) :
    Calls Tryz.prog 101 #[.float .f64 x] w fun e w' => e = .returned (.float .f64 s) ∧ w' = w := by
  have hrun := sqrt_run x s h
  clear h
  go_enter Tryz.func101, Tryz.ntmps101
  go_wp2_with fail
  go_ret
  exact ⟨rfl, rfl⟩
theorem conv_if (n : Int) (w : World) : (convert 3 167 (.int .i64 n)).run Tryz.prog w = .ok (.float .f64 (Go.FloatKind.f64.nearest n)) w := by
  kernel_rfl
theorem conv_fi (s r : Nat) (h : (Go.FloatKind.f64.decode s).toInt .zero = some (r : Int)) (hr : r ≤ 2 ^ 33) (w : World) : (convert 167 3 (.float .f64 s)).run Tryz.prog w = .ok (.int .i64 r) w := by
  have h1 : (convert 167 3 (.float .f64 s)).run Tryz.prog w = (Conv.floatToInt .f64 s .i64).run Tryz.prog w := by kernel_rfl
  rw [h1]
  unfold Conv.floatToInt
  rw [h]
  have e1 : IntKind.i64.min ≤ (r : Int) ∧ (r : Int) ≤ IntKind.i64.max := ⟨by have : IntKind.i64.min = -9223372036854775808 := rfl; omega, by have : IntKind.i64.max = 9223372036854775807 := rfl; omega⟩
  simp only [e1, and_self, if_true]
  rfl
theorem small (q : Nat) (n : Int) (h : (q : Int) * q ≤ n) (hn : n ≤ 9223372036854775807) : q ≤ 3037000499 := by
  rcases Nat.lt_or_ge 3037000499 q with h1 | h1
  · have h2 := Nat.mul_le_mul h1 h1
    have h3 : ((q * q : Nat) : Int) ≤ n := by exact_mod_cast h
    omega
  · exact h1
theorem above (q : Nat) (n : Int) (h : ((q : Int) + 1) * ((q : Int) + 1) ≤ n) : (q : Int) + 1 ≤ n := by
  have h1 := Int.mul_le_mul_of_nonneg_left (show (1 : Int) ≤ (q : Int) + 1 by omega) (show (0 : Int) ≤ (q : Int) + 1 by omega)
  omega
set_option maxRecDepth 100000 in
theorem root_calls (n : Int) (w : World) (hn : n ≤ 9223372036854775807) :
    Calls Tryz.prog 70 #[.int .i64 n] w fun e w' => e = .returned (.int .i64 (rootI n)) ∧ Drawn0 w w' := by
  by_cases hp : n ≤ 0
  · have e0 := Lib.hid (rootI_neg hp)
    have d0 : decide (n ≤ 0) = true := decide_eq_true hp
    clear hp
    go_enter Tryz.func70, Tryz.ntmps70
    go_wp2_with fail
    go_ret
    exact ⟨by rw [e0.out]; rfl, Drawn0.refl _⟩
  · obtain ⟨s, hs, r0, hr, h1, h2⟩ := sqrt_int n (by omega) hn
    have d0 : decide (n ≤ 0) = false := decide_eq_false hp
    have hp1 := Lib.hid hp
    have c1 := conv_if n
    have c2 := conv_fi s r0 hr h2
    have hs1 := Lib.hid hs
    clear hp hs hr
    go_enter Tryz.func70, Tryz.ntmps70
    go_wp2_with (go_at_call 101; refine (sqrt_calls _ s hs1.out _).mono ?_; rintro e w' ⟨rfl, rfl⟩)
    have hn0 : 0 < n := hp1.out
    have h3 : r0 ≤ 8589934592 := h2
    clear c1 c2 hs1 h2
    go_loop [3] (fun t => ∃ r : Nat, 1 ≤ r ∧ r ≤ 8589934592 ∧ t = .int .i64 r) (fun t => (intOf t).toNat)
    case atStart => exact ⟨r0, h1, h3, rfl⟩
    case round =>
      obtain ⟨r, hr1, hr2, rfl⟩ := hrel
      have z1 : ((r : Int) == 0) = false := beq_eq_false_iff_ne.mpr (by omega)
      by_cases hlt : n / (r : Int) < r
      · have b1 : decide (n / (r : Int) < r) = true := decide_eq_true hlt
        have hr3 : 2 ≤ r := by
          rcases Nat.lt_or_ge r 2 with h | h
          · obtain rfl : r = 1 := by omega
            simp at hlt
            omega
          · exact h
        clear hlt
        go_wp2
        go_round
        case rel => exact ⟨r - 1, by omega, by omega, by congr 1; omega⟩
        case measure => simp [intOf]; omega
      · have b1 : decide (n / (r : Int) < r) = false := decide_eq_false hlt
        have hsq : (r : Int) * r ≤ n := by
          have h := Int.mul_le_of_le_ediv (by omega) (show (r : Int) ≤ n / (r : Int) by omega)
          exact h
        have hsq1 := Lib.hid hsq
        clear hlt hsq
        go_wp2
        go_loop [3] (fun t => ∃ r : Nat, 1 ≤ r ∧ Hid ((r : Int) * r ≤ n) ∧ t = .int .i64 r) (fun t => (n - intOf t).toNat)
        case atStart => exact ⟨r, hr1, hsq1, rfl⟩
        case round =>
          obtain ⟨q, hq1, hq2, rfl⟩ := hrel
          have hq3 : q ≤ 3037000499 := small q n hq2.out hn
          have z2 : (((q : Int) + 1) == 0) = false := beq_eq_false_iff_ne.mpr (by omega)
          by_cases hlt : (q : Int) + 1 ≤ n / ((q : Int) + 1)
          · have b2 : decide ((q : Int) + 1 ≤ n / ((q : Int) + 1)) = true := decide_eq_true hlt
            have hs2 : ((q : Int) + 1) * ((q : Int) + 1) ≤ n := Int.mul_le_of_le_ediv (by omega) hlt
            have hs3 := Lib.hid hs2
            have hqn : (q : Int) + 1 ≤ n := above q n hs2
            clear hlt hs2
            go_wp2
            go_round
            case rel => exact ⟨q + 1, by omega, by have h := hs3.out; show ((q + 1 : Nat) : Int) * ((q + 1 : Nat) : Int) ≤ n; rw [show ((q + 1 : Nat) : Int) = (q : Int) + 1 from by omega]; exact h, by go_num⟩
            case measure => simp [intOf]; omega
          · have b2 : decide ((q : Int) + 1 ≤ n / ((q : Int) + 1)) = false := decide_eq_false hlt
            have he : rootI n = q := rootI_eq (by omega) hq2.out (Int.lt_mul_of_ediv_lt (by omega) (by omega))
            have he1 := Lib.hid he
            clear hlt he
            go_wp2
            go_ret
            exact ⟨by rw [he1.out]; rfl, Drawn0.refl _⟩
end Go.Proofs.YthpbpdobghceeaaGreatDoor.RootF
