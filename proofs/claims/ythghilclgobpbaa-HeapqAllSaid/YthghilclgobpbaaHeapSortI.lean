/- Items are compared exactly, copied and sorted: int. -/
import Derived.Test.YthghilclgobpbaaHeapFnsI
import Derived.Test.YthghilclgobpbaaHeapQI
import Derived.Test.YthghilclgobpbaaItemSort
import Derived.Shelf.SlSortCmp.NoneTotal
namespace Go.Proofs.YthghilclgobpbaaH.I
open Go Go.RowKit Go.Shelf Go.Lib Go.Sort Go.Proofs.YthghilclgobpbaaH Go.Proofs.YthghilclgobpbaaW.PrintWords Go.Proofs.YthghilclgobpbaaW.PrintLast
set_option linter.unusedVariables false
set_option linter.unusedSimpArgs false
attribute [local go_sem ↓] Go.wp_at_zero Go.wp_at_succ
/-- Draws and new blocks alone. -/
def Gr (w w' : World) : Prop := ∃ (q : Nat) (os : Array Obj), w' = grow (w.drewN q) os
theorem Gr.refl (w : World) : Gr w w := ⟨0, #[], by rw [grow_empty]; rfl⟩
theorem Gr.alloc {w w' : World} (h : Gr w w') (o : Obj) : Gr w (w'.alloc o) := by
  obtain ⟨q, os, rfl⟩ := h
  exact ⟨q, os ++ #[o], by rw [alloc_eq_grow, grow_grow]⟩
theorem Gr.drewN {w w' : World} (h : Gr w w') (n : Nat) : Gr w (w'.drewN n) := by
  obtain ⟨q, os, rfl⟩ := h
  exact ⟨q + n, os, by rw [← World.drewN_drewN]; rfl⟩
theorem Gr.drew {w w' : World} (h : Gr w w') : Gr w w'.drew := h.drewN 1
instance : Inhabited (It V) := ⟨⟨0, 0, 0⟩⟩
def cfI (x y : It V) : Int := orI (cmpI x.p y.p) (cmpI x.o y.o)
theorem ltI (x y : It V) : ltOf cfI x y = ltB x y := or_lt x y
theorem swoI : SWO (ltOf cfI) where
  irrefl x := by rw [ltI]; unfold ltB; simp [le_refl]
  trans x y z h1 h2 := by simp only [ltI, ltB, decide_eq_true_eq] at *; unfold le at *; omega
  ntrans x y z h1 h2 := by simp only [ltI, ltB, decide_eq_false_iff_not, Decidable.not_not] at *; unfold le at *; omega
set_option maxHeartbeats 4000000 in
set_option maxRecDepth 100000 in
theorem compare_exact (x y : It V) (w : World) : Calls Try.prog 28 #[.agg #[.int .i64 x.p, .int .i64 x.o, ev x.v], .agg #[.int .i64 y.p, .int .i64 y.o, ev y.v]] w fun e w' => e = .returned (.int .i64 (cfI x y)) ∧ Gr w w' := by
  obtain ⟨p1, o1, v1⟩ := x
  obtain ⟨p2, o2, v2⟩ := y
  have hr : cfI ⟨p1, o1, v1⟩ ⟨p2, o2, v2⟩ = orI (cmpI p1 p2) (cmpI o1 o2) := rfl
  rw [hr]
  dsimp only
  clear hr
  go_enter Try.func28, Try.ntmps28
  go_wp2
  go_region_held3 (fun w' => w'.cell? ⟨w.heap.size, 0, none⟩ = some (.int .i64 p1) ∧ w'.cell? ⟨w.heap.size, 1, none⟩ = some (.int .i64 o1) ∧ w'.cell? ⟨w.heap.size + 1, 0, none⟩ = some (.int .i64 p2) ∧ w'.cell? ⟨w.heap.size + 1, 1, none⟩ = some (.int .i64 o2)) (go_keep)
    (first | (go_at_call 50; refine (Compare_any _ _ _).mono ?_; rintro e w' ⟨rfl, rfl⟩) | (go_at_call 49; refine (Or_any (w.heap.size + 2) (cmpI p1 p2) (cmpI o1 o2) _ (by simp [go_sem]) (by simp [go_sem])).mono ?_; rintro e w' ⟨rfl, rfl⟩))
  all_goals
    go_wp2
    go_ret
    exact ⟨rfl, by repeat (first | exact Gr.refl _ | apply Gr.alloc | apply Gr.drewN | apply Gr.drew)⟩
theorem laysI (blk off size : Nat) (w : World) : CmpLays Try.prog 28 #[] cells 3 cfI blk off size w := fun _ _ _ _ x y => compare_exact x y _
theorem sort_calls (blk cap : Nat) (d : Array (It V)) (w : World) (hH : HoldsK cells 3 w blk 0 d) (hblk : blk < w.heap.size) (hsz : d.size < 4611686018427387904) :
    Calls Try.prog 31 #[.slice (some ⟨blk, 0, none⟩) d.size cap, .func (.func 28) #[] #[]] w fun e w' => e = .returned (.tuple #[]) ∧ ∃ n os, w' = sortWorldK cells 3 w blk 0 n (pdq (ltOf cfI) d 0 d.size (Lib.bitLen d.size) true true) os := by
  have eg : ∀ args w, (callFunc 28 args).run Try.prog w = .ok (.enter 28 args) w := enters_of Try.func28 (by kernel_rfl) rfl
  have hcon := AnyQ.slices_SortFunc_eq Try.itemSort 3 Try.isAgg75 Try.sizeOf75 cells (fun _ => rfl) (fun x v hv => by simp [cells] at hv; rcases hv with rfl | rfl | rfl <;> rfl) cfI swoI 28 #[] blk 0 cap d w eg (laysI blk 0 d.size w) hH hblk hsz
  exact hcon
/-- The items, sorted. -/
def sorted (l : List (It V)) : List (It V) := (pdq (ltOf cfI) l.toArray 0 l.length (Lib.bitLen l.length) true true).toList
theorem sorted_spec (l : List (It V)) : PermIn 0 l.length l.toArray (pdq (ltOf cfI) l.toArray 0 l.length (Lib.bitLen l.length) true true) ∧ SortedIn (ltOf cfI) 0 l.length (pdq (ltOf cfI) l.toArray 0 l.length (Lib.bitLen l.length) true true) :=
  pdq_sorts (ltOf cfI) swoI l.toArray 0 l.length (Lib.bitLen l.length) true true (Nat.zero_le _) (Nat.le_refl _) (Or.inl rfl)
theorem sorted_perm (l : List (It V)) : (sorted l).Perm l := by
  have hp := (sorted_spec l).1
  have hs := hp.1
  have h3 := hp.2.2
  have e1 : (pdq (ltOf cfI) l.toArray 0 l.length (Lib.bitLen l.length) true true).size = l.length := by rw [hs, List.size_toArray]
  have e2 : ∀ a : Array (It V), a.size = l.length → (a.extract 0 l.length).toList = a.toList := fun a ha => by rw [← ha, Array.extract_size]
  rw [e2 _ e1, e2 _ List.size_toArray] at h3
  exact h3
theorem sorted_length (l : List (It V)) : (sorted l).length = l.length := (sorted_perm l).length_eq
theorem sorted_sorted (l : List (It V)) : (sorted l).Pairwise le := by
  have hs := (sorted_spec l).2
  have hz : (pdq (ltOf cfI) l.toArray 0 l.length (Lib.bitLen l.length) true true).size = l.length := by rw [(sorted_spec l).1.1, List.size_toArray]
  rw [List.pairwise_iff_getElem]
  intro i j hi hj hij
  unfold sorted at hi hj
  rw [Array.length_toList] at hi hj
  have := hs i j (Nat.zero_le _) hij (by omega)
  rw [ltI, getElem!_pos _ i hi, getElem!_pos _ j hj] at this
  unfold sorted
  rw [Array.getElem_toList, Array.getElem_toList]
  have := of_decide_eq_false this
  exact Decidable.not_not.1 this
theorem list_trips {a b : List Value} {n : Nat} (ha : a.length = n * 3) (hb : b.length = n * 3) (h : ∀ q, q < n → ∀ r, r < 3 → a[q * 3 + r]? = b[q * 3 + r]?) : a = b := by
  apply List.ext_getElem?
  intro t
  by_cases ht : t < n * 3
  · have := h (t / 3) (by omega) (t % 3) (by omega)
    rwa [show t / 3 * 3 + t % 3 = t by omega] at this
  · rw [List.getElem?_eq_none (by omega), List.getElem?_eq_none (by omega)]
theorem flatK_list (d : Array (It V)) : (flatK cells 3 d).toList = flat d.toList := by
  refine list_trips (n := d.size) (by simp) (by rw [flat_length, Array.length_toList]) fun q hq r hr => ?_
  have hsz : (flatK cells 3 d).size = d.size * 3 := size_flatK _ _ _
  obtain ⟨g0, g1, g2⟩ := flat_get d.toList q (by simpa using hq)
  rw [Array.getElem?_toList, Array.getElem?_eq_getElem (by omega), ← getElem!_pos _ (q * 3 + r) (by omega), get_flatK _ _ _ _ (by omega), show (q * 3 + r) / 3 = q by omega, show (q * 3 + r) % 3 = r by omega, getElem!_pos d q hq]
  rcases r with _ | _ | _ | r
  · rw [Nat.add_zero, g0]; rfl
  · rw [g1]; rfl
  · rw [g2]; rfl
  · omega
theorem heap_sortedK {w : World} {g n : Nat} {os : Array Obj} {cur : Array Value} {e : TypeId} {fr : Nat × Nat} (d : Array (It V)) (hb : w.heap[g]? = some (.cells cur e fr)) :
    (sortWorldK cells 3 w g 0 n d os).heap[g]? = some (.cells (putCells id 0 (flatK cells 3 d) cur) e fr) := by
  have hg : g < w.heap.size := (Array.getElem?_eq_some_iff.1 hb).1
  unfold sortWorldK putRowK
  rw [heap_grow_old _ _ (by simpa using hg)]
  simp [putRow, mapBlock, Sort.ahead, Array.getElem?_modify, hb, onCells]
theorem grownBy_sortedK {w : World} {g n : Nat} {os : Array Obj} (d : Array (It V)) : w.grownBy (sortWorldK cells 3 w g 0 n d os) (some g) := by
  refine ⟨rfl, rfl, rfl, by simp [sortWorldK, putRowK], fun k hk hne => ?_⟩
  unfold sortWorldK putRowK
  rw [heap_grow_old _ _ (by simpa using hk)]
  have : g ≠ k := fun e => hne (by rw [e])
  simp [putRow, mapBlock, Sort.ahead, Array.getElem?_modify, this]
theorem take_putCellsK (cur F : Array Value) (h : F.size ≤ cur.size) : (putCells id 0 F cur).toList.take F.size = F.toList := by
  apply List.ext_getElem?
  intro j
  by_cases hj : j < F.size
  · rw [List.getElem?_take_of_lt hj, Array.getElem?_toList]
    simp [putCells, hj, show j < cur.size by omega]
  · rw [List.getElem?_take_eq_none (by omega), List.getElem?_eq_none (by simp; omega)]
theorem sort_row {w : World} {g cap : Nat} {l : List (It V)} (h : Row w g cap l) (hn : l.length ≤ 1000) :
    Calls Try.prog 31 #[.slice (some ⟨g, 0, none⟩) l.length cap, .func (.func 28) #[] #[]] w fun e w' => e = .returned (.tuple #[]) ∧ w.grownBy w' (some g) ∧ Row w' g cap (sorted l) := by
  obtain ⟨cur, hb, hcap, hmax, hsz, hc⟩ := h
  have hfl : (flatK cells 3 l.toArray).toList = flat l := by rw [flatK_list]
  have hkey : ∀ t, t < l.length * 3 → cur[t]? = (flat l)[t]? := fun t ht => by
    obtain ⟨i, r, hi, hr, rfl⟩ : ∃ i r, i < l.length ∧ r < 3 ∧ t = i * 3 + r := ⟨t / 3, t % 3, by omega, by omega, by omega⟩
    obtain ⟨a1, a2, a3⟩ := hc i hi
    obtain ⟨b1, b2, b3⟩ := flat_get l i hi
    rcases r with _ | _ | _ | r
    · exact a1.trans b1.symm
    · exact a2.trans b2.symm
    · exact a3.trans b3.symm
    · omega
  have hH : HoldsK cells 3 w g 0 l.toArray := by
    intro j hj
    refine ⟨?_, by simp [World.frozen?, hb]⟩
    rw [Nat.zero_add, blk_cell hb]
    have hj' : j < l.length * 3 := by rw [size_flatK, List.size_toArray] at hj; exact hj
    have h1 := hkey j hj'
    rw [← hfl, Array.getElem?_toList, Array.getElem?_eq_getElem hj] at h1
    rw [h1, getElem!_pos _ j hj]
    rfl
  have hcl := sort_calls g cap l.toArray w hH (blk_lt hb) (by rw [List.size_toArray]; omega)
  rw [List.size_toArray] at hcl
  refine hcl.mono ?_
  rintro e w' ⟨rfl, n, os, rfl⟩
  have hsl := sorted_length l
  have hf2 : (flatK cells 3 (pdq (ltOf cfI) l.toArray 0 l.length (Lib.bitLen l.length) true true)).toList = flat (sorted l) := flatK_list _
  have hf3 : (flatK cells 3 (pdq (ltOf cfI) l.toArray 0 l.length (Lib.bitLen l.length) true true)).size = l.length * 3 := by rw [← Array.length_toList, hf2, flat_length, hsl]
  have htk := take_putCellsK cur (flatK cells 3 (pdq (ltOf cfI) l.toArray 0 l.length (Lib.bitLen l.length) true true)) (by rw [hf3, hsz]; omega)
  refine ⟨rfl, grownBy_sortedK _, _, heap_sortedK _ hb, by omega, hmax, by simp [putCells, hsz], fun i hi => ?_⟩
  rw [hf3, hf2] at htk
  have hk : ∀ t, t < l.length * 3 → (putCells id 0 (flatK cells 3 (pdq (ltOf cfI) l.toArray 0 l.length (Lib.bitLen l.length) true true)) cur)[t]? = (flat (sorted l))[t]? := fun t ht => by rw [← htk, List.getElem?_take_of_lt ht, Array.getElem?_toList]
  obtain ⟨b1, b2, b3⟩ := flat_get (sorted l) i hi
  exact ⟨(hk _ (by omega)).trans b1, (hk _ (by omega)).trans b2, (hk _ (by omega)).trans b3⟩
end Go.Proofs.YthghilclgobpbaaH.I
