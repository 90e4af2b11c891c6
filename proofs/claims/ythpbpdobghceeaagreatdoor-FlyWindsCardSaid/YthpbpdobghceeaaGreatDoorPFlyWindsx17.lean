/- Made by wip/tools/myprint.py (over the kit's printer). -/
import Derived.Test.YthpbpdobghceeaaGreatDoorTSq3
import Derived.Test.YthpbpdobghceeaaGreatDoorPFlyWindsx0
import Derived.Shelf.Slices.In.SortNone
import Derived.Shelf.Sort.Plain
import Derived.Test.YthpbpdobghceeaaGreatDoorTSortC
namespace Go.Proofs.YthpbpdobghceeaaGreatDoor.PFlyWinds
open Go.RowKit Go.Proofs.YthpbpdobghceeaaGreatDoorW.PrintWords Go.Proofs.YthpbpdobghceeaaGreatDoorW.PrintLast Go.Proofs.YthpbpdobghceeaaGreatDoorW.PrintMore
attribute [local go_sem] max2_int min2_int max_two min_two max_three min_three max_four min_four
set_option linter.unusedVariables false
set_option linter.unusedSimpArgs false
section
open Go.Shelf Go.Lib Go.Sort
theorem slices_Sort_int_int.enc_conv (x : Int) : (Value.int .i64) ((fun b : Int => b) x) = (Value.int .i64) x := rfl
theorem slices_Sort_int_int.encs_eq (l : List Int) : encs (Value.int .i64) l = (l.map (fun b : Int => b)).map (Value.int .i64) := by
  unfold encs; rw [List.map_map]; rfl
theorem slices_Sort_int_int.encs_back (z : List (Int)) : encs (Value.int .i64) (z.map (fun u : Int => u)) = z.map (Value.int .i64) := by
  unfold encs; rw [List.map_map]; rfl
theorem slices_Sort_int_int.put {β : Type} [Inhabited β] {enc : β → Value} {w : World} {g n : Nat} {cur : Array Value} {e : TypeId} {fr : Nat × Nat} (d : Array β) (hb : w.heap[g]? = some (.cells cur e fr)) :
    (putRow enc (Sort.ahead w n) g 0 d).heap[g]? = some (.cells (putCells enc 0 d cur) e fr) := by
  simp [putRow, mapBlock, Sort.ahead, Array.getElem?_modify, hb, onCells]
theorem slices_Sort_int_int.grown0 {β : Type} [Inhabited β] {enc : β → Value} {w : World} {g n : Nat} (d : Array β) : w.grownBy (putRow enc (Sort.ahead w n) g 0 d) (some g) := by
  refine ⟨rfl, rfl, rfl, by simp [putRow, mapBlock, Sort.ahead], fun k hk hne => ?_⟩
  have : g ≠ k := fun e => hne (by rw [e])
  simp [putRow, mapBlock, Sort.ahead, Array.getElem?_modify, this]
theorem slices_Sort_int_int.take_put {β : Type} [Inhabited β] {enc : β → Value} (cur : Array Value) (d : Array β) (m : Nat) (hm : m ≤ d.size) (h : d.size ≤ cur.size) : (putCells enc 0 d cur).toList.take m = (d.toList.take m).map enc := by
  apply List.ext_getElem?; intro j
  by_cases hj : j < m
  · rw [List.getElem?_take_of_lt hj, Array.getElem?_toList, List.getElem?_map, List.getElem?_take_of_lt hj, Array.getElem?_toList, Array.getElem?_eq_getElem (show j < d.size by omega)]; simp [putCells, show j < d.size by omega, show j < cur.size by omega]
  · rw [List.getElem?_take_eq_none (by omega), List.getElem?_eq_none (by simp; omega)]
theorem slices_Sort_int_int.holds {w : World} {g : Nat} {cur : Array Value} {e : TypeId} (l : List Int) (hb : w.heap[g]? = some (.cells cur e (0, 0))) (ht : cur.toList.take (l.length * 1) = encs (Value.int .i64) l) : Holds (Value.int .i64) w g 0 (l.map (fun b : Int => b)).toArray := by
  intro j hj; refine ⟨?_, by simp [World.frozen?, hb]⟩; rw [List.size_toArray, List.length_map] at hj; rw [Nat.zero_add, blk_cell hb]
  have h1 : (cur.toList.take (l.length * 1))[j]? = ((l.map (fun b : Int => b)).map (Value.int .i64))[j]? := by rw [ht, slices_Sort_int_int.encs_eq]
  rw [List.getElem?_take_of_lt (by omega), Array.getElem?_toList, List.getElem?_map, List.getElem?_map, List.getElem?_eq_getElem hj] at h1; rw [h1, getElem!_pos _ j (by simpa using hj)]; simp
theorem slices_Sort_int_int.putg {β : Type} [Inhabited β] {enc : β → Value} {w : World} {g n : Nat} {os : Array Obj} {cur : Array Value} {e : TypeId} {fr : Nat × Nat} (d : Array β) (hb : w.heap[g]? = some (.cells cur e fr)) :
    (grow (putRow enc (Sort.ahead w n) g 0 d) os).heap[g]? = some (.cells (putCells enc 0 d cur) e fr) := by
  have hg : g < w.heap.size := (Array.getElem?_eq_some_iff.1 hb).1; rw [heap_grow_old _ _ (by simpa [putRow, mapBlock, Sort.ahead] using hg)]; exact slices_Sort_int_int.put d hb
theorem slices_Sort_int_int.grown {β : Type} [Inhabited β] {enc : β → Value} {w : World} {g n : Nat} {os : Array Obj} (d : Array β) : w.grownBy (grow (putRow enc (Sort.ahead w n) g 0 d) os) (some g) := by
  refine ⟨rfl, rfl, rfl, by simp [putRow, mapBlock, Sort.ahead, grow], fun k hk hne => ?_⟩; rw [heap_grow_old _ _ (by simpa [putRow, mapBlock, Sort.ahead] using hk)]
  have : g ≠ k := fun e => hne (by rw [e])
  simp [putRow, mapBlock, Sort.ahead, Array.getElem?_modify, this]
def slices_Sort_int_int.sorted (l : List Int) : List Int := ((l.map (fun b : Int => b)).mergeSort fun x y => decide (x ≤ y)).map (fun u : Int => u)
theorem slices_Sort_int_int.length (l : List Int) : (slices_Sort_int_int.sorted l).length = l.length := by
  unfold slices_Sort_int_int.sorted; rw [List.length_map, List.length_mergeSort, List.length_map]
theorem slices_Sort_int_int.kd {w : World} {base : Nat} {ok : Nat → Prop} {v : Value} {l : List Int} (h : l.length ≤ 1000000) (ho : Kd.R (Kd.int .i64) 3 w base ok v l) :
    Calls Tryz.prog 41 #[v] w fun e w' => e = .returned (.tuple #[]) ∧ w.grownBy w' v.ownBlock ∧ Kd.R (Kd.int .i64) 3 w' base ok v (slices_Sort_int_int.sorted l) := by
  have hok := ho.1; obtain ⟨hil, hown⟩ := Kd.own_of_R ho; have hsl := slices_Sort_int_int.length l
  rcases hown with ⟨rfl, hn⟩ | ⟨g, cap, cur, rfl, hbg, hb, hcap, hmax, hsz, htake⟩
  · obtain rfl : l = [] := List.eq_nil_of_length_eq_zero hn; refine (Any.slices_Sort_int_none Tryz.sortInt none 0 w).mono ?_; rintro e w' ⟨rfl, rfl⟩; have hs : slices_Sort_int_int.sorted [] = [] := List.eq_nil_of_length_eq_zero hsl; rw [hs]; exact ⟨rfl, World.grownBy.refl _ _, Kd.R_nil _ _ _ _ _⟩
  · have hc := Any.slices_Sort_int Tryz.sortInt g 0 cap (l.map (fun b : Int => b)) w (slices_Sort_int_int.holds l hb htake) (blk_lt hb) (by rw [List.length_map]; omega); rw [List.length_map] at hc; refine hc.mono ?_; rintro e w' ⟨rfl, n, os, rfl⟩
    have hlen : ((l.map (fun b : Int => b)).mergeSort fun x y => decide (x ≤ y)).length = l.length := by rw [List.length_mergeSort, List.length_map]
    have e1 : encs (Value.int .i64) (slices_Sort_int_int.sorted l) = ((l.map (fun b : Int => b)).mergeSort fun x y => decide (x ≤ y)).map (Value.int .i64) := slices_Sort_int_int.encs_back _; generalize ((l.map (fun b : Int => b)).mergeSort fun x y => decide (x ≤ y)) = S at hlen e1; refine ⟨rfl, slices_Sort_int_int.grown _, Kd.R_of_own ⟨?_, .inr ⟨g, cap, _, by rw [hsl], hbg, slices_Sort_int_int.putg _ hb, by rw [hsl]; exact hcap, hmax, ?_, ?_⟩⟩ hok⟩
    · rw [e1, List.length_map, hlen, hsl, Nat.mul_one]
    · rw [← hsz]; simp [putCells]
    · rw [e1, hsl, Nat.mul_one, slices_Sort_int_int.take_put _ _ _ (by rw [List.size_toArray, hlen]; exact Nat.le_refl _) (by rw [List.size_toArray, hlen, hsz]; omega), List.toList_toArray, List.take_of_length_le (by omega)]
def slices_Sort_int_int.f (l0 : List Int) : Option (List Int) := if l0.length ≤ 1000000 then some (slices_Sort_int_int.sorted l0) else none
theorem slices_Sort_int_int.calls (P0_ : Nat → Prop) (u9000_ : Value) (l0 : List Int) (r : List Int) (w0 w : World) (hB : Below w0.heap.size w0 w) (ho0 : Kd.R (Kd.int .i64) 3 w w0.heap.size P0_ u9000_ l0) (h : slices_Sort_int_int.f l0 = some r) :
    Calls Tryz.prog 41 #[u9000_] w fun e w' => e = .returned (.tuple #[]) ∧ Kd.R (Kd.int .i64) 3 w' w0.heap.size (fun k_ => (P0_ k_ ∨ w.heap.size ≤ k_)) u9000_ r ∧ Below w0.heap.size w0 w' ∧ Kept w w' (fun k_ => P0_ k_) := by
  unfold slices_Sort_int_int.f at h
  by_cases hk : l0.length ≤ 1000000
  · rw [if_pos hk] at h; obtain rfl := Option.some.inj h; refine (slices_Sort_int_int.kd hk ho0).mono ?_; rintro e w' ⟨rfl, hg, hr⟩; exact ⟨rfl, Kd.R_mono hr (fun _ h => .inl h), hB.grown hg hB.size (fun k hk => Kd.R_base ho0 k hk), Kept.of_grown hg (Kept.refl _ _) (fun k hk => .inl (ho0.1 k hk))⟩
  · rw [if_neg hk] at h; cases h
end
end Go.Proofs.YthpbpdobghceeaaGreatDoor.PFlyWinds
