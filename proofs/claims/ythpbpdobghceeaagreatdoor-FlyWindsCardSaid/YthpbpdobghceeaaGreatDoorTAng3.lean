import Derived.Test.YthpbpdobghceeaaGreatDoorTAng2
import Derived.Test.YthpbpdobghceeaaGreatDoorTAngK
import Derived.Test.YthpbpdobghceeaaGreatDoorTAngT
namespace Go.Proofs.YthpbpdobghceeaaGreatDoor.Ang
open Go Go.RowKit
def redZK (x y : Nat) : Option Nat := (mulK y 4605249456957292544).bind fun a => (subK x a).bind fun b => (mulK y 4495793288086814720).bind fun c => (subK b c).bind fun d => (mulK y 4388835458085048688).bind fun e => subK d e
theorem redZK_eq (x y : Nat) : redZK x y = redZ x y := by
  unfold redZK redZ
  simp only [mulK_eq, subK_eq]
def sinPK (z : Nat) : Option Nat := (mulK z z).bind fun q => (mulK z q).bind fun m => (mulK 4460209587652500685 q).bind fun p0 => (addK p0 13716528389658582877).bind fun p1 => (mulK p1 q).bind fun p2 => (addK p2 4523617212962785441).bind fun p3 => (mulK p3 q).bind fun p4 => (addK p4 13774824197404483331).bind fun p5 =>
  (mulK p5 q).bind fun p6 => (addK p6 4575957461383575504).bind fun p7 => (mulK p7 q).bind fun p8 => (addK p8 13818544856648471880).bind fun p9 => (mulK m p9).bind fun r => addK z r
theorem sinPK_eq (z : Nat) : sinPK z = sinP z := by
  unfold sinPK sinP
  simp only [mulK_eq, addK_eq]
def cosPK (z : Nat) : Option Nat := (mulK z z).bind fun q => (mulK 4602678819172646912 q).bind fun g => (subK 4607182418800017408 g).bind fun h => (mulK q q).bind fun m => (mulK 13666448263388469915 q).bind fun p0 => (addK p0 4477121864728985349).bind fun p1 => (mulK p1 q).bind fun p2 => (addK p2 13732177093698800582).bind fun p3 => (mulK p3 q).bind fun p4 => (addK p4 4537941361668146421).bind fun p5 =>
  (mulK p5 q).bind fun p6 => (addK p6 13787419979223748497).bind fun p7 => (mulK p7 q).bind fun p8 => (addK p8 4586165620538955083).bind fun p9 => (mulK m p9).bind fun r => addK h r
theorem cosPK_eq (z : Nat) : cosPK z = cosP z := by
  unfold cosPK cosP
  simp only [mulK_eq, addK_eq, subK_eq]
def sinVK (x : Nat) : Option Nat := (mulK x 4608412980311869571).bind fun m => (intK m .u64).bind fun j =>
  if j = 0 then (redZK x 0).bind sinPK else if j = 1 then (redZK x 4611686018427387904).bind cosPK else if j = 2 then (redZK x 4611686018427387904).bind cosPK
  else if j = 3 then (redZK x 4616189618054758400).bind fun z => (sinPK z).map (Op.negFloat .f64) else if j = 4 then (redZK x 4616189618054758400).bind fun z => (sinPK z).map (Op.negFloat .f64)
  else if j = 5 then (redZK x 4618441417868443648).bind fun z => (cosPK z).map (Op.negFloat .f64) else if j = 6 then (redZK x 4618441417868443648).bind fun z => (cosPK z).map (Op.negFloat .f64)
  else if j = 7 then (redZK x 4620693217682128896).bind sinPK else none
theorem sinVK_eq (x : Nat) : sinVK x = sinV x := by
  unfold sinVK sinV
  have e1 : sinPK = sinP := funext sinPK_eq
  have e2 : cosPK = cosP := funext cosPK_eq
  simp only [mulK_eq, intK_eq, redZK_eq, e1, e2]
def sinWK (x : Nat) : Option Nat := if x = 0 then some 0 else sinVK x
theorem sinWK_eq (x : Nat) : sinWK x = sinW x := by
  unfold sinWK sinW
  simp only [sinVK_eq]
def argFK (n : Int) : Option Nat := (mulK (floatOfInt .f64 n) 4611686018427387904).bind fun a => (mulK a 4614256656552045848).bind fun b => quoK b 4661225614328463360
theorem argFK_eq (n : Int) : argFK n = argF n := by
  unfold argFK argF
  simp only [mulK_eq, quoK_eq]
def sinTK (n : Int) : Option Int := (argFK n).bind fun x => if argB x = true then (sinWK x).bind fun r => (mulK r 4670232813583204352).bind fun s => if s < 18446744073709551616 then intK (roundN s) .i64 else none else none
theorem sinTK_eq (n : Int) : sinTK n = sinT n := by
  unfold sinTK sinT
  simp only [mulK_eq, intK_eq, argFK_eq, sinWK_eq]
def chkT (a : Nat) : Nat → Bool
  | 0 => true
  | d + 1 => cond (match sinTK ((a + d : Nat) : Int) with | some v => decide (v = sinL (a + d)) | none => false) (chkT a d) false
theorem chkT_at {a : Nat} : ∀ {d : Nat}, chkT a d = true → ∀ i, i < d → sinT ((a + i : Nat) : Int) = some (sinL (a + i))
  | 0, _, i, hi => absurd hi (Nat.not_lt_zero _)
  | d + 1, h, i, hi => by
    rw [chkT] at h
    cases hc : (match sinTK ((a + d : Nat) : Int) with | some v => decide (v = sinL (a + d)) | none => false) with
    | false => rw [hc] at h; cases h
    | true =>
      rw [hc, cond_true] at h
      by_cases c : i = d
      · subst c
        rw [← sinTK_eq]
        split at hc
        · rename_i v hv
          rw [hv, of_decide_eq_true hc]
        · cases hc
      · exact chkT_at h i (by omega)
end Go.Proofs.YthpbpdobghceeaaGreatDoor.Ang
