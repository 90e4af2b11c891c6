/- The table that strconv.Itoa reads; what a row of strings is, for strings.Join. -/
import Derived.Test.YtfchcleochphoaaDoorJoin
import Derived.Lib.AppendIntMem
import Derived.Test.YtfchcleochphoaaDoorWWords
import Derived.Test.YtfchcleochphoaaDoorWLast
namespace Go.Proofs.YtfchcleochphoaaDoor.Ang
open Go Go.RowKit
def Tab (w : World) : Prop := Lib.TabIs Tryd.prog w "internal/strconv.uint64pow10" .u64 Lib.pow10Tab
theorem Tab.below {w w' : World} (h : Tab w) (hb : Below w.heap.size w w') : Tab w' := Lib.tabBelow_of_tabIs h w' hb
end Go.Proofs.YtfchcleochphoaaDoor.Ang
namespace Go.Proofs.YtfchcleochphoaaDoor.Bl
open Go Go.RowKit Go.Proofs.YtfchcleochphoaaDoorW.PrintWords Go.Proofs.YtfchcleochphoaaDoorW.PrintLast
theorem below_grow (w : World) (k : Nat) (os : Array Obj) : Below w.heap.size w (Go.Sort.grow (w.drewN k) os) :=
  ⟨rfl, rfl, rfl, by simp [Go.Sort.grow], fun i hi => Go.Sort.heap_grow_old _ _ (by simpa using hi)⟩
/-- The decimal text of a number. -/
def itoaB (n : Int) : ByteArray := ⟨(Lib.itoa n).toArray⟩
theorem itoa_calls (n : Int) (h0 : -9223372036854775808 ≤ n) (h1 : n ≤ 9223372036854775807) (w : World) (hT : Ang.Tab w) :
    Calls Tryd.prog 24 #[.int .i64 n] w fun e w' => e = .returned (.string (itoaB n)) ∧ Below w.heap.size w w' := by
  refine (Tryd.strconv_Itoa n h0 h1 w hT).mono ?_
  rintro e w' ⟨rfl, k, os, rfl⟩
  exact ⟨rfl, below_grow w k os⟩
/-- The strings of a list, with a separator between them. -/
def joinB (xs : List ByteArray) (sep : ByteArray) : ByteArray := ⟨(Lib.join (xs.map (·.data.toList)) sep.data.toList).toArray⟩
def lits (xs : List ByteArray) : Array Value := (encs Value.string xs).toArray
theorem join_R {w : World} {base : Nat} {ok : Nat → Prop} {v : Value} {xs : List ByteArray} (sep : ByteArray) (h : Kd.R Kd.string 9 w base ok v xs) (hl : (Lib.join (xs.map (·.data.toList)) sep.data.toList).length ≤ 140737488355328) (hn : xs.length ≤ 1000000) :
    Calls Tryd.prog 25 #[v, .string sep] w fun e w' => e = .returned (.string (joinB xs sep)) ∧ Below w.heap.size w w' := by
  obtain ⟨hil, hown⟩ := Kd.own_of_R h
  rcases hown with ⟨rfl, hz⟩ | ⟨g, cap, cur, rfl, hbg, hb, hcap, hmax, hsz, htake⟩
  · obtain rfl : xs = [] := List.eq_nil_of_length_eq_zero hz
    refine (join_none none 0 sep w).mono ?_
    rintro e w' ⟨rfl, rfl⟩
    exact ⟨rfl, Below.refl _ _⟩
  · refine join_any g 0 cap xs sep w ?_ (blk_lt hb) (by omega) hcap hl
    intro j x hx
    have hj : j < xs.length := (List.getElem?_eq_some_iff.1 hx).1
    rw [Nat.zero_add, blk_cell hb]
    have h1 : (cur.toList.take (xs.length * 1))[j]? = (encs Value.string xs)[j]? := by rw [htake]
    rw [List.getElem?_take_of_lt (by omega), Array.getElem?_toList] at h1
    rw [h1]
    unfold encs
    rw [List.getElem?_map, hx]
    rfl
/-- A row that has just been written. -/
theorem row_new {w : World} {base g : Nat} (xs : List ByteArray) {cs : Array Value} (hc : cs.toList = encs Value.string xs) (h0 : 0 < xs.length) (hl : xs.length ≤ 1000) (hb : base ≤ g) (hg : w.heap[g]? = some (.cells cs 9 (0, 0))) :
    Kd.R Kd.string 9 w base (fun _ => True) (.slice (some ⟨g, 0, none⟩) xs.length xs.length) xs := by
  have hs : cs.size = xs.length := by rw [← Array.length_toList, hc]; simp [encs]
  refine Kd.R_of_own ⟨by simp [encs], .inr ⟨g, xs.length, cs, rfl, hb, hg, Nat.le_refl _, by unfold maxLen; omega, by omega, ?_⟩⟩ (fun _ _ => trivial)
  rw [hc, Nat.mul_one, List.take_of_length_le (by simp [encs])]
end Go.Proofs.YtfchcleochphoaaDoor.Bl
