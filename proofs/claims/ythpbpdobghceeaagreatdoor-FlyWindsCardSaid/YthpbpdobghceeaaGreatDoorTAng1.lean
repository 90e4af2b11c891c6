/- The sine of Go's package math, at the arguments that package angle hands it. -/
import Derived.Test.YthpbpdobghceeaaGreatDoorProg
import Derived.Tactics
import Derived.WalkKit
import Derived.KernelRfl
import Derived.Laws.Externs
import Derived.Laws.FloatArith
import Derived.Lib.Hide
import Derived.RowKit
import Derived.Laws.BitsAllLaws
namespace Go.Proofs.YthpbpdobghceeaaGreatDoor.Ang
open Go Go.RowKit
abbrev Op2 (op : BinOp) (x y r : Nat) : Prop := ∀ w : World, (binOp op 167 (.float .f64 x) (.float .f64 y)).run Tryz.prog w = .ok (.float .f64 r) w
theorem op2 {op : BinOp} {x y r : Nat} (h : floatBits op .f64 x y = some r) : Op2 op x y r := fun w => run_float_arith w op 167 .f64 x y r h
structure Tab (w : World) : Prop where
  s0 : w.cell? ⟨2, 0, none⟩ = some (.float .f64 4460209587652500685)
  s1 : w.cell? ⟨2, 1, none⟩ = some (.float .f64 13716528389658582877)
  s2 : w.cell? ⟨2, 2, none⟩ = some (.float .f64 4523617212962785441)
  s3 : w.cell? ⟨2, 3, none⟩ = some (.float .f64 13774824197404483331)
  s4 : w.cell? ⟨2, 4, none⟩ = some (.float .f64 4575957461383575504)
  s5 : w.cell? ⟨2, 5, none⟩ = some (.float .f64 13818544856648471880)
  c0 : w.cell? ⟨1, 0, none⟩ = some (.float .f64 13666448263388469915)
  c1 : w.cell? ⟨1, 1, none⟩ = some (.float .f64 4477121864728985349)
  c2 : w.cell? ⟨1, 2, none⟩ = some (.float .f64 13732177093698800582)
  c3 : w.cell? ⟨1, 3, none⟩ = some (.float .f64 4537941361668146421)
  c4 : w.cell? ⟨1, 4, none⟩ = some (.float .f64 13787419979223748497)
  c5 : w.cell? ⟨1, 5, none⟩ = some (.float .f64 4586165620538955083)
theorem isNaN_calls (x : Nat) (h : FloatKind.f64.format.order x x = some .eq) (w : World) : Calls Tryz.prog 154 #[.float .f64 x] w fun e w' => e = .returned (.bool false) ∧ w' = w := by
  go_enter Tryz.func154, Tryz.ntmps154
  go_wp2_with fail
  go_ret
  exact ⟨rfl, rfl⟩
theorem bits_run (x : Nat) (w : World) : (callFunc 161 #[.float .f64 x]).run Tryz.prog w = .ok (.value (.int .u64 x)) w := by
  have h1 := run_callFunc_extern (P := Tryz.prog) (e := Extern.MathFloatBits.float64bits) Tryz.func161 (by kernel_rfl) (by kernel_rfl) (by kernel_rfl) (by rfl) #[.float .f64 x] w
  rw [h1]
  rfl
theorem frombits_run (x : Nat) (w : World) : (callFunc 162 #[.int .u64 x]).run Tryz.prog w = .ok (.value (.float .f64 x)) w := by
  have h1 := run_callFunc_extern (P := Tryz.prog) (e := Extern.MathFloatBits.float64frombits) Tryz.func162 (by kernel_rfl) (by kernel_rfl) (by kernel_rfl) (by rfl) #[.int .u64 x] w
  rw [h1]
  rfl
theorem abs_calls (x : Nat) (hx : x < 9223372036854775808) (w : World) : Calls Tryz.prog 167 #[.float .f64 x] w fun e w' => e = .returned (.float .f64 x) ∧ w' = w := by
  have c1 := bits_run x
  have c2 := frombits_run x
  have hb : bits .andNot .u64 (x : Int) 9223372036854775808 = (x : Int) := by
    have h := u64_andNot_nat x 9223372036854775808 (by omega) (by decide)
    rw [show ((9223372036854775808 : Nat) : Int) = 9223372036854775808 from rfl] at h
    rw [h]
    congr 1
    rw [show 18446744073709551615 - 9223372036854775808 = 2 ^ 63 - 1 by decide, Nat.and_two_pow_sub_one_eq_mod]
    omega
  have c2' : ∀ w : World, (callFunc 162 #[.int .u64 (bits .andNot .u64 (x : Int) 9223372036854775808)]).run Tryz.prog w = .ok (.value (.float .f64 x)) w := fun w => by rw [hb]; exact c2 w
  clear hb c2
  go_enter Tryz.func167, Tryz.ntmps167
  go_wp2
  go_ret
  exact ⟨rfl, rfl⟩
abbrev big : Nat := 9218868437227405311
theorem isInf_calls (x : Nat) (hx : x < 9223372036854775808) (h : (FloatKind.f64.format.order x big == some .gt) = false) (w : World) : Calls Tryz.prog 155 #[.float .f64 x, .int .i64 0] w fun e w' => e = .returned (.bool false) ∧ w' = w := by
  go_enter Tryz.func155, Tryz.ntmps155
  go_wp2_with (go_at_call 167; refine (abs_calls x hx _).mono ?_; rintro e w' ⟨rfl, rfl⟩)
  go_ret
  exact ⟨rfl, rfl⟩
abbrev fa (x y : Nat) : Option Nat := floatBits .add .f64 x y
abbrev fs (x y : Nat) : Option Nat := floatBits .sub .f64 x y
abbrev fm (x y : Nat) : Option Nat := floatBits .mul .f64 x y
def redZ (x y : Nat) : Option Nat := (fm y 4605249456957292544).bind fun a => (fs x a).bind fun b => (fm y 4495793288086814720).bind fun c => (fs b c).bind fun d => (fm y 4388835458085048688).bind fun e => fs d e
def sinP (z : Nat) : Option Nat := (fm z z).bind fun q => (fm z q).bind fun m => (fm 4460209587652500685 q).bind fun p0 => (fa p0 13716528389658582877).bind fun p1 => (fm p1 q).bind fun p2 => (fa p2 4523617212962785441).bind fun p3 => (fm p3 q).bind fun p4 => (fa p4 13774824197404483331).bind fun p5 =>
  (fm p5 q).bind fun p6 => (fa p6 4575957461383575504).bind fun p7 => (fm p7 q).bind fun p8 => (fa p8 13818544856648471880).bind fun p9 => (fm m p9).bind fun r => fa z r
def cosP (z : Nat) : Option Nat := (fm z z).bind fun q => (fm 4602678819172646912 q).bind fun g => (fs 4607182418800017408 g).bind fun h => (fm q q).bind fun m => (fm 13666448263388469915 q).bind fun p0 => (fa p0 4477121864728985349).bind fun p1 => (fm p1 q).bind fun p2 => (fa p2 13732177093698800582).bind fun p3 => (fm p3 q).bind fun p4 => (fa p4 4537941361668146421).bind fun p5 =>
  (fm p5 q).bind fun p6 => (fa p6 13787419979223748497).bind fun p7 => (fm p7 q).bind fun p8 => (fa p8 4586165620538955083).bind fun p9 => (fm m p9).bind fun r => fa h r
structure Arg (x : Nat) : Prop where
  small : x < 9223372036854775808
  zero : (FloatKind.f64.format.order x 0 == some .eq) = false
  self : FloatKind.f64.format.order x x = some .eq
  fin : (FloatKind.f64.format.order x big == some .gt) = false
  pos : (FloatKind.f64.format.order x 0 == some .lt) = false
  great : (FloatKind.f64.format.order x 4737786807993761792 == some .gt || FloatKind.f64.format.order x 4737786807993761792 == some .eq) = false
theorem conv_u (m : Nat) (j : Int) (h : floatToIntVal .f64 m .u64 = some j) (w : World) : (convert 167 192 (.float .f64 m)).run Tryz.prog w = .ok (.int .u64 j) w :=
  run_convert_float_int w 167 192 .f64 .u64 m j (by kernel_rfl) (by kernel_rfl) h
theorem and1_0 : bits .and .u64 0 1 = 0 := by decide
theorem and7_0 : bits .and .u64 0 7 = 0 := by decide
theorem and1_1 : bits .and .u64 1 1 = 1 := by decide
theorem and7_1 : bits .and .u64 1 7 = 1 := by decide
theorem and1_2 : bits .and .u64 2 1 = 0 := by decide
theorem and7_2 : bits .and .u64 2 7 = 2 := by decide
theorem and1_3 : bits .and .u64 3 1 = 1 := by decide
theorem and7_3 : bits .and .u64 3 7 = 3 := by decide
theorem and1_4 : bits .and .u64 4 1 = 0 := by decide
theorem and7_4 : bits .and .u64 4 7 = 4 := by decide
theorem and1_5 : bits .and .u64 5 1 = 1 := by decide
theorem and7_5 : bits .and .u64 5 7 = 5 := by decide
theorem and1_6 : bits .and .u64 6 1 = 0 := by decide
theorem and7_6 : bits .and .u64 6 7 = 6 := by decide
theorem and1_7 : bits .and .u64 7 1 = 1 := by decide
theorem and7_7 : bits .and .u64 7 7 = 7 := by decide
theorem and1_8 : bits .and .u64 8 1 = 0 := by decide
theorem and7_8 : bits .and .u64 8 7 = 0 := by decide
theorem flt_0 : floatOfInt .f64 0 = 0 := by decide +kernel
theorem flt_1 : floatOfInt .f64 1 = 4607182418800017408 := by decide +kernel
theorem flt_2 : floatOfInt .f64 2 = 4611686018427387904 := by decide +kernel
theorem flt_3 : floatOfInt .f64 3 = 4613937818241073152 := by decide +kernel
theorem flt_4 : floatOfInt .f64 4 = 4616189618054758400 := by decide +kernel
theorem flt_5 : floatOfInt .f64 5 = 4617315517961601024 := by decide +kernel
theorem flt_6 : floatOfInt .f64 6 = 4618441417868443648 := by decide +kernel
theorem flt_7 : floatOfInt .f64 7 = 4619567317775286272 := by decide +kernel
theorem flt_8 : floatOfInt .f64 8 = 4620693217682128896 := by decide +kernel
attribute [local go_sem] and1_0 and7_0 flt_0 and1_1 and7_1 flt_1 and1_2 and7_2 flt_2 and1_3 and7_3 flt_3 and1_4 and7_4 flt_4 and1_5 and7_5 flt_5 and1_6 and7_6 flt_6 and1_7 and7_7 flt_7 and1_8 and7_8 flt_8
set_option maxRecDepth 100000 in
theorem sin_0 (x m z r : Nat) (hA : Arg x) (w : World) (hT : Tab w) (hm : fm x 4608412980311869571 = some m) (hj : floatToIntVal .f64 m .u64 = some 0) (hz : redZ x 0 = some z) (hr : sinP z = some r) :
    Calls Tryz.prog 164 #[.float .f64 x] w fun e w' => e = .returned (.float .f64 r) ∧ w' = w := by
  obtain ⟨a1, h1, hz⟩ := Option.bind_eq_some_iff.1 hz
  obtain ⟨a2, h2, hz⟩ := Option.bind_eq_some_iff.1 hz
  obtain ⟨a3, h3, hz⟩ := Option.bind_eq_some_iff.1 hz
  obtain ⟨a4, h4, hz⟩ := Option.bind_eq_some_iff.1 hz
  obtain ⟨a5, h5, h6⟩ := Option.bind_eq_some_iff.1 hz
  obtain ⟨q, k0, hr⟩ := Option.bind_eq_some_iff.1 hr
  obtain ⟨b1, k1, hr⟩ := Option.bind_eq_some_iff.1 hr
  obtain ⟨b2, k2, hr⟩ := Option.bind_eq_some_iff.1 hr
  obtain ⟨b3, k3, hr⟩ := Option.bind_eq_some_iff.1 hr
  obtain ⟨b4, k4, hr⟩ := Option.bind_eq_some_iff.1 hr
  obtain ⟨b5, k5, hr⟩ := Option.bind_eq_some_iff.1 hr
  obtain ⟨b6, k6, hr⟩ := Option.bind_eq_some_iff.1 hr
  obtain ⟨b7, k7, hr⟩ := Option.bind_eq_some_iff.1 hr
  obtain ⟨b8, k8, hr⟩ := Option.bind_eq_some_iff.1 hr
  obtain ⟨b9, k9, hr⟩ := Option.bind_eq_some_iff.1 hr
  obtain ⟨b10, k10, hr⟩ := Option.bind_eq_some_iff.1 hr
  obtain ⟨b11, k11, hr⟩ := Option.bind_eq_some_iff.1 hr
  obtain ⟨b12, k12, k13⟩ := Option.bind_eq_some_iff.1 hr
  obtain ⟨s0, s1, s2, s3, s4, s5, t0, t1, t2, t3, t4, t5⟩ := hT
  obtain ⟨A0, A1, A2, A3, A4, A5⟩ := hA
  have g0 := op2 hm
  have gj := conv_u m 0 hj
  have g1 := op2 h1
  have g2 := op2 h2
  have g3 := op2 h3
  have g4 := op2 h4
  have g5 := op2 h5
  have g6 := op2 h6
  have e0 := op2 k0
  have e1 := op2 k1
  have e2 := op2 k2
  have e3 := op2 k3
  have e4 := op2 k4
  have e5 := op2 k5
  have e6 := op2 k6
  have e7 := op2 k7
  have e8 := op2 k8
  have e9 := op2 k9
  have e10 := op2 k10
  have e11 := op2 k11
  have e12 := op2 k12
  have e13 := op2 k13
  clear h1 h2 h3 h4 h5 h6 k0 k1 k2 k3 k4 k5 k6 k7 k8 k9 k10 k11 k12 k13 hm hj hz hr
  go_enter Tryz.func164, Tryz.ntmps164
  go_wp2_with (first | (go_at_call 154; refine (isNaN_calls x A2 _).mono ?_; rintro e w' ⟨rfl, rfl⟩) | (go_at_call 155; refine (isInf_calls x A0 A3 _).mono ?_; rintro e w' ⟨rfl, rfl⟩))
  go_ret
  exact ⟨rfl, rfl⟩
set_option maxRecDepth 100000 in
theorem sin_1 (x m z r : Nat) (hA : Arg x) (w : World) (hT : Tab w) (hm : fm x 4608412980311869571 = some m) (hj : floatToIntVal .f64 m .u64 = some 1) (hz : redZ x 4611686018427387904 = some z) (hr : cosP z = some r) :
    Calls Tryz.prog 164 #[.float .f64 x] w fun e w' => e = .returned (.float .f64 r) ∧ w' = w := by
  obtain ⟨a1, h1, hz⟩ := Option.bind_eq_some_iff.1 hz
  obtain ⟨a2, h2, hz⟩ := Option.bind_eq_some_iff.1 hz
  obtain ⟨a3, h3, hz⟩ := Option.bind_eq_some_iff.1 hz
  obtain ⟨a4, h4, hz⟩ := Option.bind_eq_some_iff.1 hz
  obtain ⟨a5, h5, h6⟩ := Option.bind_eq_some_iff.1 hz
  obtain ⟨q, k0, hr⟩ := Option.bind_eq_some_iff.1 hr
  obtain ⟨b1, k1, hr⟩ := Option.bind_eq_some_iff.1 hr
  obtain ⟨b2, k2, hr⟩ := Option.bind_eq_some_iff.1 hr
  obtain ⟨b3, k3, hr⟩ := Option.bind_eq_some_iff.1 hr
  obtain ⟨b4, k4, hr⟩ := Option.bind_eq_some_iff.1 hr
  obtain ⟨b5, k5, hr⟩ := Option.bind_eq_some_iff.1 hr
  obtain ⟨b6, k6, hr⟩ := Option.bind_eq_some_iff.1 hr
  obtain ⟨b7, k7, hr⟩ := Option.bind_eq_some_iff.1 hr
  obtain ⟨b8, k8, hr⟩ := Option.bind_eq_some_iff.1 hr
  obtain ⟨b9, k9, hr⟩ := Option.bind_eq_some_iff.1 hr
  obtain ⟨b10, k10, hr⟩ := Option.bind_eq_some_iff.1 hr
  obtain ⟨b11, k11, hr⟩ := Option.bind_eq_some_iff.1 hr
  obtain ⟨b12, k12, hr⟩ := Option.bind_eq_some_iff.1 hr
  obtain ⟨b13, k13, hr⟩ := Option.bind_eq_some_iff.1 hr
  obtain ⟨b14, k14, k15⟩ := Option.bind_eq_some_iff.1 hr
  obtain ⟨s0, s1, s2, s3, s4, s5, t0, t1, t2, t3, t4, t5⟩ := hT
  obtain ⟨A0, A1, A2, A3, A4, A5⟩ := hA
  have g0 := op2 hm
  have gj := conv_u m 1 hj
  have ga : Op2 .add 4607182418800017408 4607182418800017408 4611686018427387904 := op2 (by decide +kernel)
  have g1 := op2 h1
  have g2 := op2 h2
  have g3 := op2 h3
  have g4 := op2 h4
  have g5 := op2 h5
  have g6 := op2 h6
  have e0 := op2 k0
  have e1 := op2 k1
  have e2 := op2 k2
  have e3 := op2 k3
  have e4 := op2 k4
  have e5 := op2 k5
  have e6 := op2 k6
  have e7 := op2 k7
  have e8 := op2 k8
  have e9 := op2 k9
  have e10 := op2 k10
  have e11 := op2 k11
  have e12 := op2 k12
  have e13 := op2 k13
  have e14 := op2 k14
  have e15 := op2 k15
  clear h1 h2 h3 h4 h5 h6 k0 k1 k2 k3 k4 k5 k6 k7 k8 k9 k10 k11 k12 k13 k14 k15 hm hj hz hr
  go_enter Tryz.func164, Tryz.ntmps164
  go_wp2_with (first | (go_at_call 154; refine (isNaN_calls x A2 _).mono ?_; rintro e w' ⟨rfl, rfl⟩) | (go_at_call 155; refine (isInf_calls x A0 A3 _).mono ?_; rintro e w' ⟨rfl, rfl⟩))
  go_ret
  exact ⟨rfl, rfl⟩
set_option maxRecDepth 100000 in
theorem sin_2 (x m z r : Nat) (hA : Arg x) (w : World) (hT : Tab w) (hm : fm x 4608412980311869571 = some m) (hj : floatToIntVal .f64 m .u64 = some 2) (hz : redZ x 4611686018427387904 = some z) (hr : cosP z = some r) :
    Calls Tryz.prog 164 #[.float .f64 x] w fun e w' => e = .returned (.float .f64 r) ∧ w' = w := by
  obtain ⟨a1, h1, hz⟩ := Option.bind_eq_some_iff.1 hz
  obtain ⟨a2, h2, hz⟩ := Option.bind_eq_some_iff.1 hz
  obtain ⟨a3, h3, hz⟩ := Option.bind_eq_some_iff.1 hz
  obtain ⟨a4, h4, hz⟩ := Option.bind_eq_some_iff.1 hz
  obtain ⟨a5, h5, h6⟩ := Option.bind_eq_some_iff.1 hz
  obtain ⟨q, k0, hr⟩ := Option.bind_eq_some_iff.1 hr
  obtain ⟨b1, k1, hr⟩ := Option.bind_eq_some_iff.1 hr
  obtain ⟨b2, k2, hr⟩ := Option.bind_eq_some_iff.1 hr
  obtain ⟨b3, k3, hr⟩ := Option.bind_eq_some_iff.1 hr
  obtain ⟨b4, k4, hr⟩ := Option.bind_eq_some_iff.1 hr
  obtain ⟨b5, k5, hr⟩ := Option.bind_eq_some_iff.1 hr
  obtain ⟨b6, k6, hr⟩ := Option.bind_eq_some_iff.1 hr
  obtain ⟨b7, k7, hr⟩ := Option.bind_eq_some_iff.1 hr
  obtain ⟨b8, k8, hr⟩ := Option.bind_eq_some_iff.1 hr
  obtain ⟨b9, k9, hr⟩ := Option.bind_eq_some_iff.1 hr
  obtain ⟨b10, k10, hr⟩ := Option.bind_eq_some_iff.1 hr
  obtain ⟨b11, k11, hr⟩ := Option.bind_eq_some_iff.1 hr
  obtain ⟨b12, k12, hr⟩ := Option.bind_eq_some_iff.1 hr
  obtain ⟨b13, k13, hr⟩ := Option.bind_eq_some_iff.1 hr
  obtain ⟨b14, k14, k15⟩ := Option.bind_eq_some_iff.1 hr
  obtain ⟨s0, s1, s2, s3, s4, s5, t0, t1, t2, t3, t4, t5⟩ := hT
  obtain ⟨A0, A1, A2, A3, A4, A5⟩ := hA
  have g0 := op2 hm
  have gj := conv_u m 2 hj
  have g1 := op2 h1
  have g2 := op2 h2
  have g3 := op2 h3
  have g4 := op2 h4
  have g5 := op2 h5
  have g6 := op2 h6
  have e0 := op2 k0
  have e1 := op2 k1
  have e2 := op2 k2
  have e3 := op2 k3
  have e4 := op2 k4
  have e5 := op2 k5
  have e6 := op2 k6
  have e7 := op2 k7
  have e8 := op2 k8
  have e9 := op2 k9
  have e10 := op2 k10
  have e11 := op2 k11
  have e12 := op2 k12
  have e13 := op2 k13
  have e14 := op2 k14
  have e15 := op2 k15
  clear h1 h2 h3 h4 h5 h6 k0 k1 k2 k3 k4 k5 k6 k7 k8 k9 k10 k11 k12 k13 k14 k15 hm hj hz hr
  go_enter Tryz.func164, Tryz.ntmps164
  go_wp2_with (first | (go_at_call 154; refine (isNaN_calls x A2 _).mono ?_; rintro e w' ⟨rfl, rfl⟩) | (go_at_call 155; refine (isInf_calls x A0 A3 _).mono ?_; rintro e w' ⟨rfl, rfl⟩))
  go_ret
  exact ⟨rfl, rfl⟩
set_option maxRecDepth 100000 in
theorem sin_3 (x m z r : Nat) (hA : Arg x) (w : World) (hT : Tab w) (hm : fm x 4608412980311869571 = some m) (hj : floatToIntVal .f64 m .u64 = some 3) (hz : redZ x 4616189618054758400 = some z) (hr : sinP z = some r) :
    Calls Tryz.prog 164 #[.float .f64 x] w fun e w' => e = .returned (.float .f64 (Op.negFloat .f64 r)) ∧ w' = w := by
  obtain ⟨a1, h1, hz⟩ := Option.bind_eq_some_iff.1 hz
  obtain ⟨a2, h2, hz⟩ := Option.bind_eq_some_iff.1 hz
  obtain ⟨a3, h3, hz⟩ := Option.bind_eq_some_iff.1 hz
  obtain ⟨a4, h4, hz⟩ := Option.bind_eq_some_iff.1 hz
  obtain ⟨a5, h5, h6⟩ := Option.bind_eq_some_iff.1 hz
  obtain ⟨q, k0, hr⟩ := Option.bind_eq_some_iff.1 hr
  obtain ⟨b1, k1, hr⟩ := Option.bind_eq_some_iff.1 hr
  obtain ⟨b2, k2, hr⟩ := Option.bind_eq_some_iff.1 hr
  obtain ⟨b3, k3, hr⟩ := Option.bind_eq_some_iff.1 hr
  obtain ⟨b4, k4, hr⟩ := Option.bind_eq_some_iff.1 hr
  obtain ⟨b5, k5, hr⟩ := Option.bind_eq_some_iff.1 hr
  obtain ⟨b6, k6, hr⟩ := Option.bind_eq_some_iff.1 hr
  obtain ⟨b7, k7, hr⟩ := Option.bind_eq_some_iff.1 hr
  obtain ⟨b8, k8, hr⟩ := Option.bind_eq_some_iff.1 hr
  obtain ⟨b9, k9, hr⟩ := Option.bind_eq_some_iff.1 hr
  obtain ⟨b10, k10, hr⟩ := Option.bind_eq_some_iff.1 hr
  obtain ⟨b11, k11, hr⟩ := Option.bind_eq_some_iff.1 hr
  obtain ⟨b12, k12, k13⟩ := Option.bind_eq_some_iff.1 hr
  obtain ⟨s0, s1, s2, s3, s4, s5, t0, t1, t2, t3, t4, t5⟩ := hT
  obtain ⟨A0, A1, A2, A3, A4, A5⟩ := hA
  have g0 := op2 hm
  have gj := conv_u m 3 hj
  have ga : Op2 .add 4613937818241073152 4607182418800017408 4616189618054758400 := op2 (by decide +kernel)
  have g1 := op2 h1
  have g2 := op2 h2
  have g3 := op2 h3
  have g4 := op2 h4
  have g5 := op2 h5
  have g6 := op2 h6
  have e0 := op2 k0
  have e1 := op2 k1
  have e2 := op2 k2
  have e3 := op2 k3
  have e4 := op2 k4
  have e5 := op2 k5
  have e6 := op2 k6
  have e7 := op2 k7
  have e8 := op2 k8
  have e9 := op2 k9
  have e10 := op2 k10
  have e11 := op2 k11
  have e12 := op2 k12
  have e13 := op2 k13
  have hn : ∀ w : World, (Op.unary .neg (.float .f64 r)).run Tryz.prog w = .ok (.float .f64 (Op.negFloat .f64 r)) w := fun _ => rfl
  clear h1 h2 h3 h4 h5 h6 k0 k1 k2 k3 k4 k5 k6 k7 k8 k9 k10 k11 k12 k13 hm hj hz hr
  go_enter Tryz.func164, Tryz.ntmps164
  go_wp2_with (first | (go_at_call 154; refine (isNaN_calls x A2 _).mono ?_; rintro e w' ⟨rfl, rfl⟩) | (go_at_call 155; refine (isInf_calls x A0 A3 _).mono ?_; rintro e w' ⟨rfl, rfl⟩))
  go_ret
  exact ⟨rfl, rfl⟩
set_option maxRecDepth 100000 in
theorem sin_4 (x m z r : Nat) (hA : Arg x) (w : World) (hT : Tab w) (hm : fm x 4608412980311869571 = some m) (hj : floatToIntVal .f64 m .u64 = some 4) (hz : redZ x 4616189618054758400 = some z) (hr : sinP z = some r) :
    Calls Tryz.prog 164 #[.float .f64 x] w fun e w' => e = .returned (.float .f64 (Op.negFloat .f64 r)) ∧ w' = w := by
  obtain ⟨a1, h1, hz⟩ := Option.bind_eq_some_iff.1 hz
  obtain ⟨a2, h2, hz⟩ := Option.bind_eq_some_iff.1 hz
  obtain ⟨a3, h3, hz⟩ := Option.bind_eq_some_iff.1 hz
  obtain ⟨a4, h4, hz⟩ := Option.bind_eq_some_iff.1 hz
  obtain ⟨a5, h5, h6⟩ := Option.bind_eq_some_iff.1 hz
  obtain ⟨q, k0, hr⟩ := Option.bind_eq_some_iff.1 hr
  obtain ⟨b1, k1, hr⟩ := Option.bind_eq_some_iff.1 hr
  obtain ⟨b2, k2, hr⟩ := Option.bind_eq_some_iff.1 hr
  obtain ⟨b3, k3, hr⟩ := Option.bind_eq_some_iff.1 hr
  obtain ⟨b4, k4, hr⟩ := Option.bind_eq_some_iff.1 hr
  obtain ⟨b5, k5, hr⟩ := Option.bind_eq_some_iff.1 hr
  obtain ⟨b6, k6, hr⟩ := Option.bind_eq_some_iff.1 hr
  obtain ⟨b7, k7, hr⟩ := Option.bind_eq_some_iff.1 hr
  obtain ⟨b8, k8, hr⟩ := Option.bind_eq_some_iff.1 hr
  obtain ⟨b9, k9, hr⟩ := Option.bind_eq_some_iff.1 hr
  obtain ⟨b10, k10, hr⟩ := Option.bind_eq_some_iff.1 hr
  obtain ⟨b11, k11, hr⟩ := Option.bind_eq_some_iff.1 hr
  obtain ⟨b12, k12, k13⟩ := Option.bind_eq_some_iff.1 hr
  obtain ⟨s0, s1, s2, s3, s4, s5, t0, t1, t2, t3, t4, t5⟩ := hT
  obtain ⟨A0, A1, A2, A3, A4, A5⟩ := hA
  have g0 := op2 hm
  have gj := conv_u m 4 hj
  have g1 := op2 h1
  have g2 := op2 h2
  have g3 := op2 h3
  have g4 := op2 h4
  have g5 := op2 h5
  have g6 := op2 h6
  have e0 := op2 k0
  have e1 := op2 k1
  have e2 := op2 k2
  have e3 := op2 k3
  have e4 := op2 k4
  have e5 := op2 k5
  have e6 := op2 k6
  have e7 := op2 k7
  have e8 := op2 k8
  have e9 := op2 k9
  have e10 := op2 k10
  have e11 := op2 k11
  have e12 := op2 k12
  have e13 := op2 k13
  have hn : ∀ w : World, (Op.unary .neg (.float .f64 r)).run Tryz.prog w = .ok (.float .f64 (Op.negFloat .f64 r)) w := fun _ => rfl
  clear h1 h2 h3 h4 h5 h6 k0 k1 k2 k3 k4 k5 k6 k7 k8 k9 k10 k11 k12 k13 hm hj hz hr
  go_enter Tryz.func164, Tryz.ntmps164
  go_wp2_with (first | (go_at_call 154; refine (isNaN_calls x A2 _).mono ?_; rintro e w' ⟨rfl, rfl⟩) | (go_at_call 155; refine (isInf_calls x A0 A3 _).mono ?_; rintro e w' ⟨rfl, rfl⟩))
  go_ret
  exact ⟨rfl, rfl⟩
set_option maxRecDepth 100000 in
theorem sin_5 (x m z r : Nat) (hA : Arg x) (w : World) (hT : Tab w) (hm : fm x 4608412980311869571 = some m) (hj : floatToIntVal .f64 m .u64 = some 5) (hz : redZ x 4618441417868443648 = some z) (hr : cosP z = some r) :
    Calls Tryz.prog 164 #[.float .f64 x] w fun e w' => e = .returned (.float .f64 (Op.negFloat .f64 r)) ∧ w' = w := by
  obtain ⟨a1, h1, hz⟩ := Option.bind_eq_some_iff.1 hz
  obtain ⟨a2, h2, hz⟩ := Option.bind_eq_some_iff.1 hz
  obtain ⟨a3, h3, hz⟩ := Option.bind_eq_some_iff.1 hz
  obtain ⟨a4, h4, hz⟩ := Option.bind_eq_some_iff.1 hz
  obtain ⟨a5, h5, h6⟩ := Option.bind_eq_some_iff.1 hz
  obtain ⟨q, k0, hr⟩ := Option.bind_eq_some_iff.1 hr
  obtain ⟨b1, k1, hr⟩ := Option.bind_eq_some_iff.1 hr
  obtain ⟨b2, k2, hr⟩ := Option.bind_eq_some_iff.1 hr
  obtain ⟨b3, k3, hr⟩ := Option.bind_eq_some_iff.1 hr
  obtain ⟨b4, k4, hr⟩ := Option.bind_eq_some_iff.1 hr
  obtain ⟨b5, k5, hr⟩ := Option.bind_eq_some_iff.1 hr
  obtain ⟨b6, k6, hr⟩ := Option.bind_eq_some_iff.1 hr
  obtain ⟨b7, k7, hr⟩ := Option.bind_eq_some_iff.1 hr
  obtain ⟨b8, k8, hr⟩ := Option.bind_eq_some_iff.1 hr
  obtain ⟨b9, k9, hr⟩ := Option.bind_eq_some_iff.1 hr
  obtain ⟨b10, k10, hr⟩ := Option.bind_eq_some_iff.1 hr
  obtain ⟨b11, k11, hr⟩ := Option.bind_eq_some_iff.1 hr
  obtain ⟨b12, k12, hr⟩ := Option.bind_eq_some_iff.1 hr
  obtain ⟨b13, k13, hr⟩ := Option.bind_eq_some_iff.1 hr
  obtain ⟨b14, k14, k15⟩ := Option.bind_eq_some_iff.1 hr
  obtain ⟨s0, s1, s2, s3, s4, s5, t0, t1, t2, t3, t4, t5⟩ := hT
  obtain ⟨A0, A1, A2, A3, A4, A5⟩ := hA
  have g0 := op2 hm
  have gj := conv_u m 5 hj
  have ga : Op2 .add 4617315517961601024 4607182418800017408 4618441417868443648 := op2 (by decide +kernel)
  have g1 := op2 h1
  have g2 := op2 h2
  have g3 := op2 h3
  have g4 := op2 h4
  have g5 := op2 h5
  have g6 := op2 h6
  have e0 := op2 k0
  have e1 := op2 k1
  have e2 := op2 k2
  have e3 := op2 k3
  have e4 := op2 k4
  have e5 := op2 k5
  have e6 := op2 k6
  have e7 := op2 k7
  have e8 := op2 k8
  have e9 := op2 k9
  have e10 := op2 k10
  have e11 := op2 k11
  have e12 := op2 k12
  have e13 := op2 k13
  have e14 := op2 k14
  have e15 := op2 k15
  have hn : ∀ w : World, (Op.unary .neg (.float .f64 r)).run Tryz.prog w = .ok (.float .f64 (Op.negFloat .f64 r)) w := fun _ => rfl
  clear h1 h2 h3 h4 h5 h6 k0 k1 k2 k3 k4 k5 k6 k7 k8 k9 k10 k11 k12 k13 k14 k15 hm hj hz hr
  go_enter Tryz.func164, Tryz.ntmps164
  go_wp2_with (first | (go_at_call 154; refine (isNaN_calls x A2 _).mono ?_; rintro e w' ⟨rfl, rfl⟩) | (go_at_call 155; refine (isInf_calls x A0 A3 _).mono ?_; rintro e w' ⟨rfl, rfl⟩))
  go_ret
  exact ⟨rfl, rfl⟩
set_option maxRecDepth 100000 in
theorem sin_6 (x m z r : Nat) (hA : Arg x) (w : World) (hT : Tab w) (hm : fm x 4608412980311869571 = some m) (hj : floatToIntVal .f64 m .u64 = some 6) (hz : redZ x 4618441417868443648 = some z) (hr : cosP z = some r) :
    Calls Tryz.prog 164 #[.float .f64 x] w fun e w' => e = .returned (.float .f64 (Op.negFloat .f64 r)) ∧ w' = w := by
  obtain ⟨a1, h1, hz⟩ := Option.bind_eq_some_iff.1 hz
  obtain ⟨a2, h2, hz⟩ := Option.bind_eq_some_iff.1 hz
  obtain ⟨a3, h3, hz⟩ := Option.bind_eq_some_iff.1 hz
  obtain ⟨a4, h4, hz⟩ := Option.bind_eq_some_iff.1 hz
  obtain ⟨a5, h5, h6⟩ := Option.bind_eq_some_iff.1 hz
  obtain ⟨q, k0, hr⟩ := Option.bind_eq_some_iff.1 hr
  obtain ⟨b1, k1, hr⟩ := Option.bind_eq_some_iff.1 hr
  obtain ⟨b2, k2, hr⟩ := Option.bind_eq_some_iff.1 hr
  obtain ⟨b3, k3, hr⟩ := Option.bind_eq_some_iff.1 hr
  obtain ⟨b4, k4, hr⟩ := Option.bind_eq_some_iff.1 hr
  obtain ⟨b5, k5, hr⟩ := Option.bind_eq_some_iff.1 hr
  obtain ⟨b6, k6, hr⟩ := Option.bind_eq_some_iff.1 hr
  obtain ⟨b7, k7, hr⟩ := Option.bind_eq_some_iff.1 hr
  obtain ⟨b8, k8, hr⟩ := Option.bind_eq_some_iff.1 hr
  obtain ⟨b9, k9, hr⟩ := Option.bind_eq_some_iff.1 hr
  obtain ⟨b10, k10, hr⟩ := Option.bind_eq_some_iff.1 hr
  obtain ⟨b11, k11, hr⟩ := Option.bind_eq_some_iff.1 hr
  obtain ⟨b12, k12, hr⟩ := Option.bind_eq_some_iff.1 hr
  obtain ⟨b13, k13, hr⟩ := Option.bind_eq_some_iff.1 hr
  obtain ⟨b14, k14, k15⟩ := Option.bind_eq_some_iff.1 hr
  obtain ⟨s0, s1, s2, s3, s4, s5, t0, t1, t2, t3, t4, t5⟩ := hT
  obtain ⟨A0, A1, A2, A3, A4, A5⟩ := hA
  have g0 := op2 hm
  have gj := conv_u m 6 hj
  have g1 := op2 h1
  have g2 := op2 h2
  have g3 := op2 h3
  have g4 := op2 h4
  have g5 := op2 h5
  have g6 := op2 h6
  have e0 := op2 k0
  have e1 := op2 k1
  have e2 := op2 k2
  have e3 := op2 k3
  have e4 := op2 k4
  have e5 := op2 k5
  have e6 := op2 k6
  have e7 := op2 k7
  have e8 := op2 k8
  have e9 := op2 k9
  have e10 := op2 k10
  have e11 := op2 k11
  have e12 := op2 k12
  have e13 := op2 k13
  have e14 := op2 k14
  have e15 := op2 k15
  have hn : ∀ w : World, (Op.unary .neg (.float .f64 r)).run Tryz.prog w = .ok (.float .f64 (Op.negFloat .f64 r)) w := fun _ => rfl
  clear h1 h2 h3 h4 h5 h6 k0 k1 k2 k3 k4 k5 k6 k7 k8 k9 k10 k11 k12 k13 k14 k15 hm hj hz hr
  go_enter Tryz.func164, Tryz.ntmps164
  go_wp2_with (first | (go_at_call 154; refine (isNaN_calls x A2 _).mono ?_; rintro e w' ⟨rfl, rfl⟩) | (go_at_call 155; refine (isInf_calls x A0 A3 _).mono ?_; rintro e w' ⟨rfl, rfl⟩))
  go_ret
  exact ⟨rfl, rfl⟩
set_option maxRecDepth 100000 in
theorem sin_7 (x m z r : Nat) (hA : Arg x) (w : World) (hT : Tab w) (hm : fm x 4608412980311869571 = some m) (hj : floatToIntVal .f64 m .u64 = some 7) (hz : redZ x 4620693217682128896 = some z) (hr : sinP z = some r) :
    Calls Tryz.prog 164 #[.float .f64 x] w fun e w' => e = .returned (.float .f64 r) ∧ w' = w := by
  obtain ⟨a1, h1, hz⟩ := Option.bind_eq_some_iff.1 hz
  obtain ⟨a2, h2, hz⟩ := Option.bind_eq_some_iff.1 hz
  obtain ⟨a3, h3, hz⟩ := Option.bind_eq_some_iff.1 hz
  obtain ⟨a4, h4, hz⟩ := Option.bind_eq_some_iff.1 hz
  obtain ⟨a5, h5, h6⟩ := Option.bind_eq_some_iff.1 hz
  obtain ⟨q, k0, hr⟩ := Option.bind_eq_some_iff.1 hr
  obtain ⟨b1, k1, hr⟩ := Option.bind_eq_some_iff.1 hr
  obtain ⟨b2, k2, hr⟩ := Option.bind_eq_some_iff.1 hr
  obtain ⟨b3, k3, hr⟩ := Option.bind_eq_some_iff.1 hr
  obtain ⟨b4, k4, hr⟩ := Option.bind_eq_some_iff.1 hr
  obtain ⟨b5, k5, hr⟩ := Option.bind_eq_some_iff.1 hr
  obtain ⟨b6, k6, hr⟩ := Option.bind_eq_some_iff.1 hr
  obtain ⟨b7, k7, hr⟩ := Option.bind_eq_some_iff.1 hr
  obtain ⟨b8, k8, hr⟩ := Option.bind_eq_some_iff.1 hr
  obtain ⟨b9, k9, hr⟩ := Option.bind_eq_some_iff.1 hr
  obtain ⟨b10, k10, hr⟩ := Option.bind_eq_some_iff.1 hr
  obtain ⟨b11, k11, hr⟩ := Option.bind_eq_some_iff.1 hr
  obtain ⟨b12, k12, k13⟩ := Option.bind_eq_some_iff.1 hr
  obtain ⟨s0, s1, s2, s3, s4, s5, t0, t1, t2, t3, t4, t5⟩ := hT
  obtain ⟨A0, A1, A2, A3, A4, A5⟩ := hA
  have g0 := op2 hm
  have gj := conv_u m 7 hj
  have ga : Op2 .add 4619567317775286272 4607182418800017408 4620693217682128896 := op2 (by decide +kernel)
  have g1 := op2 h1
  have g2 := op2 h2
  have g3 := op2 h3
  have g4 := op2 h4
  have g5 := op2 h5
  have g6 := op2 h6
  have e0 := op2 k0
  have e1 := op2 k1
  have e2 := op2 k2
  have e3 := op2 k3
  have e4 := op2 k4
  have e5 := op2 k5
  have e6 := op2 k6
  have e7 := op2 k7
  have e8 := op2 k8
  have e9 := op2 k9
  have e10 := op2 k10
  have e11 := op2 k11
  have e12 := op2 k12
  have e13 := op2 k13
  clear h1 h2 h3 h4 h5 h6 k0 k1 k2 k3 k4 k5 k6 k7 k8 k9 k10 k11 k12 k13 hm hj hz hr
  go_enter Tryz.func164, Tryz.ntmps164
  go_wp2_with (first | (go_at_call 154; refine (isNaN_calls x A2 _).mono ?_; rintro e w' ⟨rfl, rfl⟩) | (go_at_call 155; refine (isInf_calls x A0 A3 _).mono ?_; rintro e w' ⟨rfl, rfl⟩))
  go_ret
  exact ⟨rfl, rfl⟩
end Go.Proofs.YthpbpdobghceeaaGreatDoor.Ang
