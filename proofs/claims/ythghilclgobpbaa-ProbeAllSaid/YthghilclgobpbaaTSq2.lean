/- Phrases of printed texts as lemmas: what a default argument finds. -/
import Derived.Test.YthghilclgobpbaaTWLast
import Derived.Test.YthghilclgobpbaaTWTab
namespace Go.Proofs.YthghilclgobpbaaW.PrintWords
open Go.RowKit Go.Proofs.YthghilclgobpbaaW.PrintLast
theorem blk_s {w : World} {g : Nat} {o : Obj} (s : w.heap[g]? = some o := by (with_reducible repeat (first | refine blk_drewN ?_ _ | refine blk_drew ?_ | refine blk_alloc ?_ _ | refine blk_far ?_ (Aside0.out ‹_›) _)); exact Aside0.out ‹_›) : w.heap[g]? = some o := s
theorem bel_s {n : Nat} {w W : World} (s : Below n w W := by repeat (first | (with_reducible first | exact Aside0.out ‹_› | apply below_alloc | apply pw_below_drewN | apply below_drew1 | refine below_set ?_ (Aside0.out ‹_›)) | exact Aside0.out ‹_›)) : Below n w W := s
theorem any_s {p : Prop} (h : p := by (try simp only [List.map_toArray, List.map_cons, List.map_nil]); first | done | rfl | (simp only [List.length_drop, List.length_take]; rfl)) : p := h
/-- A block that was there is there behind a call. -/
theorem kp {w W w1 : World} {g : Nat} {o : Obj} (_ : Aside0 (w.heap[g]? = some o)) (hb : Below W.heap.size W w1) (s : W.heap[g]? = some o := by (with_reducible repeat (first | refine blk_drewN ?_ _ | refine blk_drew ?_ | refine blk_alloc ?_ _ | refine blk_far ?_ (Aside0.out ‹_›) _)); exact Aside0.out ‹_›) : Aside0 (w1.heap[g]? = some o) := ⟨blk_below s hb⟩
theorem st {w W W2 w2 : World} (_ : Aside0 (Below w.heap.size w W)) (k : Below W2.heap.size W2 w2) (s : Below w.heap.size w W2 := by repeat (first | (with_reducible first | exact Aside0.out ‹_› | apply below_alloc | apply pw_below_drewN | apply below_drew1 | refine below_set ?_ (Aside0.out ‹_›)) | exact Aside0.out ‹_›)) : Aside0 (Below w.heap.size w w2) := ⟨below_step s k⟩
theorem ge {w W W2 : World} {g : Nat} (_ : Aside0 (Below w.heap.size w W)) (hg : g = W2.heap.size) (s : Below w.heap.size w W2 := by repeat (first | (with_reducible first | exact Aside0.out ‹_› | apply below_alloc | apply pw_below_drewN | apply below_drew1 | refine below_set ?_ (Aside0.out ‹_›)) | exact Aside0.out ‹_›)) : Aside0 (w.heap.size ≤ g) := ⟨by rw [hg]; exact below_size s⟩
theorem nl {w W : World} {g g' : Nat} {o : Obj} (_ : Aside0 (w.heap[g]? = some o)) (hg : g' = W.heap.size) (s : W.heap[g]? = some o := by (with_reducible repeat (first | refine blk_drewN ?_ _ | refine blk_drew ?_ | refine blk_alloc ?_ _ | refine blk_far ?_ (Aside0.out ‹_›) _)); exact Aside0.out ‹_›) : Aside0 (g ≠ g') := ⟨by rw [hg]; exact Nat.ne_of_lt (blk_lt s)⟩
theorem nr {w W : World} {g g' : Nat} {o : Obj} (_ : Aside0 (w.heap[g]? = some o)) (hg : g' = W.heap.size) (s : W.heap[g]? = some o := by (with_reducible repeat (first | refine blk_drewN ?_ _ | refine blk_drew ?_ | refine blk_alloc ?_ _ | refine blk_far ?_ (Aside0.out ‹_›) _)); exact Aside0.out ‹_›) : Aside0 (g' ≠ g) := ⟨by rw [hg]; exact Nat.ne_of_gt (blk_lt s)⟩
theorem bz_s {w W : World} (s : Below w.heap.size w W := by repeat (first | (with_reducible first | exact Aside0.out ‹_› | apply below_alloc | apply pw_below_drewN | apply below_drew1 | refine below_set ?_ (Aside0.out ‹_›)) | exact Aside0.out ‹_›)) : w.heap.size ≤ W.heap.size := below_size s
/-- A cell of what came in, now. -/
theorem cl {w W : World} {a : Addr} {v : Value} (HB : Aside0 (Below w.heap.size w W)) (h : w.cell? a = some v) : W.cell? a = some v := (HB.out.cell (World.block_lt_of_cell? w _ h)).trans h
theorem bc {w : World} {g : Nat} {t : TypeId} {cs : Array Value} (h : Aside0 (w.heap[g]? = some (.cells cs t (0, 0)))) (i : Nat) {v : Value} (e : cs[i]? = some v := by rfl) : w.cell? ⟨g, i, none⟩ = some v := (blk_cell h.out i).trans e
theorem cb_s {α : Type} {d : Kd α} {W0 W : World} {A : Option Addr} {n : Nat} {xs : List α} (h0 : d.C W0 A n xs) (k : d.C W0 A n xs → d.C W A n xs := by intro h_; repeat (first | exact h_ | (with_reducible refine Kd.C_alloc ?_ _) | (with_reducible refine Kd.C_drewN ?_ _) | (with_reducible refine Kd.C_drew ?_))) : d.C W A n xs := k h0
section
variable {P : Program} {ops : Array Oper} {rest : List Oper} {o : Oper} {a : Act} {Q : Exit → Act → World → Prop}
theorem box_s {W : World} (cs : Array Value) (t : TypeId) {N : Tmp}
    (h : ∀ g, g = W.heap.size → ∀ w1, w1.heap[g]? = some (.cells cs t (0, 0)) → Below W.heap.size W w1 → wpList P ops Q rest (a.put o.dst (.pointer (some ⟨g, 0, none⟩))) w1)
    (hd : o.dst = some N := by rfl) (hg : o.guard = none := by rfl)
    (hr : (execOp a.eval o).run P W = .ok (.value (.pointer (some ⟨W.heap.size, 0, none⟩))) (W.alloc (.cells cs t (0, 0))) := by first | (go_simp; done) | (go_simp; rfl)) : wpList P ops Q (o :: rest) a W :=
  box_event hg hd hr h
end
section
variable {P : Program} {ops : Array Oper} {Q : Exit → Act → World → Prop} {md : Region.Mode} {S : World → Prop} {ds : List Nat} {T : Bool × List (List Nat × List Nat)}
theorem pu_ (i : Nat) (N : Tmp) {oi : Oper} {v : Value} {fuel : Nat} {l : Array Bool} {a : Act} {w : World} (hT : Aside0 (rtab md ops = T)) (hi : ops[i]? = some oi := by rfl) (hN : oi.dst = some N := by rfl) (hc : anyT T l.toList (l.setIfInBounds i true).toList i = true := by kernel_rfl)
    (hQ : ∀ c a w, Q (.panic c) (a.put oi.dst v) w → Q (.panic c) a w := by exact fun _ _ _ h => h) (hy : Yields P ops oi v a := by exact Or.inl ⟨by rfl, by intro w'; go_simp; with_reducible rfl⟩) {a' : Act} (ha : a.put (some N) v = a' := by simp only [Act.put, List.setIfInBounds_toArray, List.set_cons_zero, List.set_cons_succ, i64_w, i32_w]; rfl)
    (h : wpAnyLast P md ops Q S ds fuel (l.setIfInBounds i true) a' w) : wpAnyLast P md ops Q S ds (fuel + 1) l a w :=
  pure_ _ hi hN (any_of hT.out hc) hQ hy ha h
theorem pv_ (i : Nat) (N : Tmp) {oi : Oper} {fuel : Nat} {l : Array Bool} {a : Act} {w : World} (hT : Aside0 (rtab md ops = T)) (hi : ops[i]? = some oi := by rfl) (hN : oi.dst = some N := by rfl) (hc : anyT T l.toList (l.setIfInBounds i true).toList i = true := by kernel_rfl)
    (hQ : ∀ c a w, Q (.panic c) (a.put oi.dst undef) w → Q (.panic c) a w := by exact fun _ _ _ h => h) (hy : Yields P ops oi undef a := by exact Or.inr ⟨by rfl, rfl⟩) {a' : Act} (ha : a.put (some N) undef = a' := by simp only [Act.put, List.setIfInBounds_toArray, List.set_cons_zero, List.set_cons_succ, i64_w, i32_w]; rfl)
    (h : wpAnyLast P md ops Q S ds fuel (l.setIfInBounds i true) a' w) : wpAnyLast P md ops Q S ds (fuel + 1) l a w :=
  pure_ _ hi hN (any_of hT.out hc) hQ hy ha h
theorem tk_ (i : Nat) (N : Tmp) {oi : Oper} {v : Value} {fuel : Nat} {l : Array Bool} {a : Act} {w : World} {B : List Nat} (hT : Aside0 (rtab md ops = T)) (hB : Aside0 (waitsOk T.2 B = true)) (hS : S w) (hi : ops[i]? = some oi := by rfl) (hN : oi.dst = some N := by rfl) (hc : takeW T B ds l.toList (l.setIfInBounds i true).toList i = true := by kernel_rfl)
    (hQ : ∀ c a w, Q (.panic c) (a.put oi.dst v) w → Q (.panic c) a w := by exact fun _ _ _ h => h) (hy : YieldsIf P ops S oi v a := by exact Or.inl ⟨by rfl, by intro w' hs_; go_simp; with_reducible rfl⟩) {a' : Act} (ha : a.put (some N) v = a' := by simp only [Act.put, List.setIfInBounds_toArray, List.set_cons_zero, List.set_cons_succ, i64_w, i32_w]; rfl)
    (h : wpAnyLast P md ops Q S ds fuel (l.setIfInBounds i true) a' w) : wpAnyLast P md ops Q S ds (fuel + 1) l a w :=
  take_ _ hi hN (take_ofW hT.out hB.out hc) hQ hy hS ha h
end
end Go.Proofs.YthghilclgobpbaaW.PrintWords
