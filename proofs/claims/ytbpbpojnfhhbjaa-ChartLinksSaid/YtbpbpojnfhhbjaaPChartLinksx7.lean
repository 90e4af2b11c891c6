/- Made by a program of this session (wip/tools/myprint.py, over the kit's printer): that the Go functions answer as the Lean functions printed beside them. -/
import Derived.Test.YtbpbpojnfhhbjaaPChartLinksx0
import Derived.Shelf.Slices.CompactS
import Derived.Shelf.Slices.In.SortNone
import Derived.Shelf.Sort.Plain
import Derived.Test.YtbpbpojnfhhbjaaSortC
namespace Go.Proofs.Ytbpbpojnfhhbjaa.PChartLinks
open Go.RowKit Go.Proofs.YtbpbpojnfhhbjaaW.PrintWords Go.Proofs.YtbpbpojnfhhbjaaW.PrintLast Go.Proofs.YtbpbpojnfhhbjaaW.PrintMore
attribute [local go_sem] max2_int min2_int max_two min_two max_three min_three max_four min_four   -- for this text's walks alone
set_option linter.unusedVariables false
set_option linter.unusedSimpArgs false

/-! ### slices_Sort_string_string: function 60 -/
-- IMPORT Test.YtbpbpojnfhhbjaaSortC Shelf.Sort.Plain Shelf.Slices.In.SortNone Shelf.Slices.CompactS
section
open Go.Shelf Go.Lib Go.Sort
theorem slices_Sort_string_string.enc_conv (x : ByteArray) : encStr ((fun b : ByteArray => b.data.toList) x) = Value.string x := rfl
theorem slices_Sort_string_string.encs_eq (l : List ByteArray) : encs Value.string l = (l.map (fun b : ByteArray => b.data.toList)).map encStr := by
  unfold encs
  rw [List.map_map]
  rfl
theorem slices_Sort_string_string.encs_back (z : List (List UInt8)) : encs Value.string (z.map (fun u : List UInt8 => (⟨u.toArray⟩ : ByteArray))) = z.map encStr := by
  unfold encs
  rw [List.map_map]
  rfl
theorem slices_Sort_string_string.put {β : Type} [Inhabited β] {enc : β → Value} {w : World} {g n : Nat} {cur : Array Value} {e : TypeId} {fr : Nat × Nat} (d : Array β) (hb : w.heap[g]? = some (.cells cur e fr)) :
    (putRow enc (Sort.ahead w n) g 0 d).heap[g]? = some (.cells (putCells enc 0 d cur) e fr) := by
  simp [putRow, mapBlock, Sort.ahead, Array.getElem?_modify, hb, onCells]
theorem slices_Sort_string_string.grown0 {β : Type} [Inhabited β] {enc : β → Value} {w : World} {g n : Nat} (d : Array β) : w.grownBy (putRow enc (Sort.ahead w n) g 0 d) (some g) := by
  refine ⟨rfl, rfl, rfl, by simp [putRow, mapBlock, Sort.ahead], fun k hk hne => ?_⟩
  have : g ≠ k := fun e => hne (by rw [e])
  simp [putRow, mapBlock, Sort.ahead, Array.getElem?_modify, this]
theorem slices_Sort_string_string.take_put {β : Type} [Inhabited β] {enc : β → Value} (cur : Array Value) (d : Array β) (m : Nat) (hm : m ≤ d.size) (h : d.size ≤ cur.size) : (putCells enc 0 d cur).toList.take m = (d.toList.take m).map enc := by
  apply List.ext_getElem?
  intro j
  by_cases hj : j < m
  · rw [List.getElem?_take_of_lt hj, Array.getElem?_toList, List.getElem?_map, List.getElem?_take_of_lt hj, Array.getElem?_toList, Array.getElem?_eq_getElem (show j < d.size by omega)]
    simp [putCells, show j < d.size by omega, show j < cur.size by omega]
  · rw [List.getElem?_take_eq_none (by omega), List.getElem?_eq_none (by simp; omega)]
theorem slices_Sort_string_string.holds {w : World} {g : Nat} {cur : Array Value} {e : TypeId} (l : List ByteArray) (hb : w.heap[g]? = some (.cells cur e (0, 0))) (ht : cur.toList.take (l.length * 1) = encs Value.string l) : Holds encStr w g 0 (l.map (fun b : ByteArray => b.data.toList)).toArray := by
  intro j hj
  refine ⟨?_, by simp [World.frozen?, hb]⟩
  rw [List.size_toArray, List.length_map] at hj
  rw [Nat.zero_add, blk_cell hb]
  have h1 : (cur.toList.take (l.length * 1))[j]? = ((l.map (fun b : ByteArray => b.data.toList)).map encStr)[j]? := by rw [ht, slices_Sort_string_string.encs_eq]
  rw [List.getElem?_take_of_lt (by omega), Array.getElem?_toList, List.getElem?_map, List.getElem?_map, List.getElem?_eq_getElem hj] at h1
  rw [h1, getElem!_pos _ j (by simpa using hj)]
  simp
theorem slices_Sort_string_string.putg {β : Type} [Inhabited β] {enc : β → Value} {w : World} {g n : Nat} {os : Array Obj} {cur : Array Value} {e : TypeId} {fr : Nat × Nat} (d : Array β) (hb : w.heap[g]? = some (.cells cur e fr)) :
    (grow (putRow enc (Sort.ahead w n) g 0 d) os).heap[g]? = some (.cells (putCells enc 0 d cur) e fr) := by
  have hg : g < w.heap.size := (Array.getElem?_eq_some_iff.1 hb).1
  rw [heap_grow_old _ _ (by simpa [putRow, mapBlock, Sort.ahead] using hg)]
  exact slices_Sort_string_string.put d hb
theorem slices_Sort_string_string.grown {β : Type} [Inhabited β] {enc : β → Value} {w : World} {g n : Nat} {os : Array Obj} (d : Array β) : w.grownBy (grow (putRow enc (Sort.ahead w n) g 0 d) os) (some g) := by
  refine ⟨rfl, rfl, rfl, by simp [putRow, mapBlock, Sort.ahead, grow], fun k hk hne => ?_⟩
  rw [heap_grow_old _ _ (by simpa [putRow, mapBlock, Sort.ahead] using hk)]
  have : g ≠ k := fun e => hne (by rw [e])
  simp [putRow, mapBlock, Sort.ahead, Array.getElem?_modify, this]
/-- The list that the sort leaves. -/
def slices_Sort_string_string.sorted (l : List ByteArray) : List ByteArray := ((l.map (fun b : ByteArray => b.data.toList)).mergeSort fun x y => decide (x ≤ y)).map (fun u : List UInt8 => (⟨u.toArray⟩ : ByteArray))
theorem slices_Sort_string_string.length (l : List ByteArray) : (slices_Sort_string_string.sorted l).length = l.length := by
  unfold slices_Sort_string_string.sorted
  rw [List.length_map, List.length_mergeSort, List.length_map]
theorem slices_Sort_string_string.kd {w : World} {base : Nat} {ok : Nat → Prop} {v : Value} {l : List ByteArray} (h : l.length ≤ 1000000) (ho : Kd.R Kd.string 9 w base ok v l) :
    Calls Try.prog 60 #[v] w fun e w' => e = .returned (.tuple #[]) ∧ w.grownBy w' v.ownBlock ∧ Kd.R Kd.string 9 w' base ok v (slices_Sort_string_string.sorted l) := by
  have hok := ho.1
  obtain ⟨hil, hown⟩ := Kd.own_of_R ho
  have hsl := slices_Sort_string_string.length l
  rcases hown with ⟨rfl, hn⟩ | ⟨g, cap, cur, rfl, hbg, hb, hcap, hmax, hsz, htake⟩
  · obtain rfl : l = [] := List.eq_nil_of_length_eq_zero hn
    refine (Any.slices_Sort_string_none Try.sortStr none 0 w).mono ?_
    rintro e w' ⟨rfl, rfl⟩
    have hs : slices_Sort_string_string.sorted [] = [] := List.eq_nil_of_length_eq_zero hsl
    rw [hs]
    exact ⟨rfl, World.grownBy.refl _ _, Kd.R_nil _ _ _ _ _⟩
  · have hc := Any.slices_Sort_string Try.sortStr g 0 cap (l.map (fun b : ByteArray => b.data.toList)) w (slices_Sort_string_string.holds l hb htake) (blk_lt hb) (by rw [List.length_map]; omega)
    rw [List.length_map] at hc
    refine hc.mono ?_
    rintro e w' ⟨rfl, n, os, rfl⟩
    have hlen : ((l.map (fun b : ByteArray => b.data.toList)).mergeSort fun x y => decide (x ≤ y)).length = l.length := by rw [List.length_mergeSort, List.length_map]
    have e1 : encs Value.string (slices_Sort_string_string.sorted l) = ((l.map (fun b : ByteArray => b.data.toList)).mergeSort fun x y => decide (x ≤ y)).map encStr := slices_Sort_string_string.encs_back _
    generalize ((l.map (fun b : ByteArray => b.data.toList)).mergeSort fun x y => decide (x ≤ y)) = S at hlen e1
    refine ⟨rfl, slices_Sort_string_string.grown _, Kd.R_of_own ⟨?_, .inr ⟨g, cap, _, by rw [hsl], hbg, slices_Sort_string_string.putg _ hb, by rw [hsl]; exact hcap, hmax, ?_, ?_⟩⟩ hok⟩
    · rw [e1, List.length_map, hlen, hsl, Nat.mul_one]
    · rw [← hsz]; simp [putCells]
    · rw [e1, hsl, Nat.mul_one, slices_Sort_string_string.take_put _ _ _ (by rw [List.size_toArray, hlen]; exact Nat.le_refl _) (by rw [List.size_toArray, hlen, hsz]; omega), List.toList_toArray, List.take_of_length_le (by omega)]
def slices_Sort_string_string.f (l0 : List ByteArray) : Option (List ByteArray) := if l0.length ≤ 1000000 then some (slices_Sort_string_string.sorted l0) else none
theorem slices_Sort_string_string.calls (P0_ : Nat → Prop) (u9000_ : Value) (l0 : List ByteArray) (r : List ByteArray) (w0 w : World) (hB : Below w0.heap.size w0 w) (ho0 : Kd.R Kd.string 9 w w0.heap.size P0_ u9000_ l0) (h : slices_Sort_string_string.f l0 = some r) :
    Calls Try.prog 60 #[u9000_] w fun e w' => e = .returned (.tuple #[]) ∧ Kd.R Kd.string 9 w' w0.heap.size (fun k_ => (P0_ k_ ∨ w.heap.size ≤ k_)) u9000_ r ∧ Below w0.heap.size w0 w' ∧ Kept w w' (fun k_ => P0_ k_) := by
  unfold slices_Sort_string_string.f at h
  by_cases hk : l0.length ≤ 1000000
  · rw [if_pos hk] at h
    obtain rfl := Option.some.inj h
    refine (slices_Sort_string_string.kd hk ho0).mono ?_
    rintro e w' ⟨rfl, hg, hr⟩
    exact ⟨rfl, Kd.R_mono hr (fun _ h => .inl h), hB.grown hg hB.size (fun k hk => Kd.R_base ho0 k hk), Kept.of_grown hg (Kept.refl _ _) (fun k hk => .inl (ho0.1 k hk))⟩
  · rw [if_neg hk] at h; cases h
end

end Go.Proofs.Ytbpbpojnfhhbjaa.PChartLinks
