import Derived.Test.YtbpbpojnfhhbjaaTWWords
import Derived.IntWalk
namespace Go.Proofs.YtbpbpojnfhhbjaaM
open Go Go.RowKit
abbrev lo : Int := -9223372036854775808
abbrev hi : Int := 9223372036854775807
theorem w64 {x : Int} (h1 : -9223372036854775808 ≤ x) (h2 : x ≤ 9223372036854775807) : wrap64 x = x := by unfold wrap64; omega
theorem sq_lt {x y : Int} (hy : 0 ≤ y) (h : x * x < y * y) : x < y := by
  rcases Int.lt_or_le x y with h1 | h1
  · exact h1
  · have h2 := Int.mul_le_mul h1 h1 hy (by omega)
    omega
end Go.Proofs.YtbpbpojnfhhbjaaM
