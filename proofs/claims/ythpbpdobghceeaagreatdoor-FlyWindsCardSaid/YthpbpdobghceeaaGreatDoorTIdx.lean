import Derived.Test.YthpbpdobghceeaaGreatDoorProg
import Derived.Test.YthpbpdobghceeaaGreatDoorTWords
import Derived.Shelf.Abstract
import Derived.Laws.Strings
namespace Go.Proofs.YthpbpdobghceeaaGreatDoor.IdxF
open Go Go.RowKit Go.Proofs.YthpbpdobghceeaaGreatDoorW.PrintWords Go.Proofs.YthpbpdobghceeaaGreatDoorW.PrintLast
theorem len1 {α : Type} {l : List α} (h : l.length = 1) : ∃ a0, l = [a0] := by
  match l, h with
  | [a0], _ => exact ⟨a0, rfl⟩
theorem len2 {α : Type} {l : List α} (h : l.length = 2) : ∃ a0 a1, l = [a0, a1] := by
  match l, h with
  | [a0, a1], _ => exact ⟨a0, a1, rfl⟩
theorem len3 {α : Type} {l : List α} (h : l.length = 3) : ∃ a0 a1 a2, l = [a0, a1, a2] := by
  match l, h with
  | [a0, a1, a2], _ => exact ⟨a0, a1, a2, rfl⟩
theorem bytes_eq {a b : ByteArray} : a.toList = b.toList ↔ a = b := by
  constructor
  · intro h
    rw [ByteArray.toList_eq, ByteArray.toList_eq] at h
    exact ByteArray.ext (Array.toList_inj.mp h)
  · rintro rfl; rfl
theorem str_eq (a b : ByteArray) : (a.toList == b.toList) = decide (a = b) := by
  rw [Bool.eq_iff_iff, beq_iff_eq, decide_eq_true_iff, bytes_eq]
def handed (st : Bool) (cs : List Value) : Value := if st then .agg cs.toArray else cs.getD 0 (.int .i64 0)
def Pred {α : Type} (P : Program) (d : Kd α) (st : Bool) (F : Value) (p : α → Bool) (w : World) : Prop :=
  ∃ (g : Nat) (lb : Array Value), F = .func (.func g) #[] lb ∧ (∀ (args : Array Value) (W : World), (callFunc g args).run P W = .ok (.enter g args) W) ∧
    ∀ (W : World) (x : α) (cs : List Value), Below w.heap.size w W → d.K W x cs → Calls P g (#[handed st cs] ++ lb) W fun e w' => e = .returned (.bool (p x)) ∧ Below W.heap.size W w'
def idx {α : Type} (p : α → Bool) (l : List α) : Int := if l.any p then (l.findIdx p : Nat) else -1
theorem any_split {α : Type} (p : α → Bool) (l : List α) {i : Nat} (hi : i < l.length) (hp : p l[i] = true) : l.any p = true := List.any_eq_true.2 ⟨l[i], List.getElem_mem hi, hp⟩
theorem idx_hit {α : Type} (p : α → Bool) (l : List α) {i : Nat} (hi : i < l.length) (hp : p l[i] = true) (hb : ∀ j (h : j < i), p (l[j]'(Nat.lt_trans h hi)) = false) : idx p l = (i : Int) := by
  unfold idx
  rw [if_pos (any_split p l hi hp), (List.findIdx_eq hi).2 ⟨hp, fun j hj => hb j hj⟩]
theorem idx_miss {α : Type} (p : α → Bool) (l : List α) (hb : ∀ j (h : j < l.length), p l[j] = false) : idx p l = -1 := by
  unfold idx
  rw [if_neg]
  intro h
  obtain ⟨x, hx, hp⟩ := List.any_eq_true.1 h
  obtain ⟨i, hi, rfl⟩ := List.getElem_of_mem hx
  rw [hb i hi] at hp
  cases hp
theorem idx_range {α : Type} (p : α → Bool) (l : List α) : idx p l = -1 ∨ (0 ≤ idx p l ∧ idx p l < (l.length : Int)) := by
  unfold idx
  by_cases h : l.any p = true
  · rw [if_pos h]
    have := List.findIdx_lt_length.2 (List.any_eq_true.1 h)
    right; omega
  · rw [if_neg h]; exact .inl rfl
theorem idx_any {α : Type} (p : α → Bool) (l : List α) : decide (idx p l ≥ 0) = l.any p := by
  unfold idx
  by_cases h : l.any p = true
  · rw [if_pos h, h]; exact decide_eq_true (by omega)
  · rw [if_neg h]; simp at h; rw [List.any_eq_false.2 (fun x hx => by simp [h x hx])]; rfl
end Go.Proofs.YthpbpdobghceeaaGreatDoor.IdxF
