/- What a row of this seat lists, read back: the table that strconv.Itoa reads. -/
import Derived.Test.YtfchcleochphoaaDoorRows
import Derived.Test.YtfchcleochphoaaDoorStrTab
import Derived.ProofKit
import Derived.LaidMore
import Derived.OpenShut
import Derived.Lib.LaidTab
import Derived.Stop.Joined
namespace Go.Proofs.YtfchcleochphoaaDoor.Ang
open Go.ChangeShapes Go.WideShapes Go.ChangeAt Go.WideMaps Go.WideElems Go.RowKit
theorem gPow : Tryd.prog.globalNamed "internal/strconv.uint64pow10" = some 1 := by kernel_rfl
theorem tPow : (Tryd.prog.globals[1]?).map (·.type) = some 131 := by kernel_rfl
theorem tab_of_laid {a b : DataW Unit} {rest : List (String × DataW Unit)} {n0 n1 : String} {W : World} (h : laidMet Tryd.prog ((n0, a) :: (n1, b) :: ("internal/strconv.uint64pow10", Lib.tabData .u64 Lib.pow10Tab) :: rest) W) : Tab W := by
  obtain ⟨ps, ⟨g0, t0, cs0, f0, p0, q0, hg0, ht0, hv0, hd0, ⟨g1, t1, cs1, f1, p1, q1, hg1, ht1, hv1, hd1, ⟨g2, t2, cs2, f2, p2, q2, hg2, ht2, hv2, hd2, _, _⟩, _⟩, _⟩, _⟩ := h
  obtain rfl := Option.some.inj (gPow.symm.trans hg2)
  obtain rfl := Option.some.inj (tPow.symm.trans ht2)
  unfold Tab Lib.TabIs
  rw [hv2, ← Lib.cells_of_tab Tryd.underlying131 Tryd.underlying37 (by kernel_rfl) (by kernel_rfl) hd2]
end Go.Proofs.YtfchcleochphoaaDoor.Ang
