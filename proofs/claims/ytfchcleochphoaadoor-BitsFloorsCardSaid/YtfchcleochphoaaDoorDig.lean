import Derived.Test.YtfchcleochphoaaDoorBld
import Derived.Test.YtfchcleochphoaaDoorWMore
import Derived.Test.YtfchcleochphoaaDoorBtLay
import Derived.StillTailTactics
import Derived.IntWalk
import Derived.Laws.BitsAllLaws
namespace Go.Proofs.YtfchcleochphoaaDoor.Bl
open Go Go.RowKit Go.Lib Go.Proofs.YtfchcleochphoaaDoorW.PrintWords Go.Proofs.YtfchcleochphoaaDoorW.PrintLast Go.Proofs.YtfchcleochphoaaDoorW.PrintMore
set_option linter.unusedVariables false
set_option linter.unusedSimpArgs false
set_option maxHeartbeats 1000000
set_option maxRecDepth 100000
/-- Only block b has turned. -/
structure Turn (b : Nat) (w w' : World) : Prop where
  below : Below b w w'
  size : w'.heap.size = w.heap.size
  same : ∀ k, k ≠ b → w'.heap[k]? = w.heap[k]?
theorem Turn.refl (b : Nat) (w : World) : Turn b w w := ⟨Below.refl _ _, rfl, fun _ _ => rfl⟩
theorem Turn.set {b : Nat} {w w' : World} (h : Turn b w w') (i : Nat) (v : Value) : Turn b w (w'.setCell ⟨b, i, none⟩ v) :=
  ⟨h.below.setCell (Nat.le_refl _) _, by rw [← h.size]; simp [World.setCell], fun k hk => (Below.heap_setCell _ _ _ _ (fun e => hk (by first | exact e | exact e.symm))).trans (h.same k hk)⟩
theorem Turn.drew {b : Nat} {w w' : World} (h : Turn b w w') : Turn b w w'.drew := ⟨h.below.drew, h.size, h.same⟩
theorem digit_zero (b : Nat) (h l at' : Int) (w : World) (hb : w.heap[b]? = some (.cells #[.int .u64 h, .int .u64 l, .int .i64 at'] 73 (0, 0))) (hat : at' ≤ 0 ∨ 110 < at') :
    Calls Tryd.prog 38 #[.pointer (some ⟨b, 0, none⟩)] w fun e w' => e = .returned (.int .i64 0) ∧ Turn b w w' ∧ w'.heap[b]? = some (.cells #[.int .u64 0, .int .u64 0, .int .i64 at'] 73 (0, 0)) := by
  have HB := Aside0.mk hb
  have c2 : w.cell? ⟨b, 2, none⟩ = some (.int .i64 at') := (blk_cell hb 2).trans rfl
  have c0 : w.cell? ⟨b, 0, none⟩ = some (.int .u64 h) := (blk_cell hb 0).trans rfl
  have f0 : w.frozen? ⟨b, 0, none⟩ = false := blk_frozen hb 0
  have hb1 := (blk_set hb 0 (.int .u64 0)).trans rfl
  have HB1 := Aside0.mk hb1
  have e1 : (w.setCell ⟨b, 0, none⟩ (.int .u64 0)).cell? ⟨b, 1, none⟩ = some (.int .u64 l) := (blk_cell hb1 1).trans rfl
  have f1 : (w.setCell ⟨b, 0, none⟩ (.int .u64 0)).frozen? ⟨b, 1, none⟩ = false := blk_frozen hb1 1
  clear hb1
  have HT := Aside0.mk hat
  clear hb hat
  rcases HT.out with h | h
  · have d0 : decide (at' ≤ 0) = true := decide_eq_true h
    clear h
    go_enter Tryd.func38, Tryd.ntmps38
    go_wp2
    go_ret
    exact ⟨rfl, (Turn.set (Turn.refl b w) 0 _).set 1 _, (blk_set HB1.out 1 (.int .u64 0)).trans rfl⟩
  · have d0 : decide (at' ≤ 0) = false := decide_eq_false (by omega)
    have d1 : decide (110 < at') = true := decide_eq_true h
    clear h
    go_enter Tryd.func38, Tryd.ntmps38
    go_wp2
    go_ret
    exact ⟨rfl, (Turn.set (Turn.refl b w) 0 _).set 1 _, (blk_set HB1.out 1 (.int .u64 0)).trans rfl⟩
theorem run_shr (m a : Nat) (ha : a ≤ 64) (w : World) : (Op.shift .shr .u64 (m : Int) .i64 (a : Int)).run Tryd.prog w = .ok (.int .u64 ((m / 2 ^ a : Nat) : Int)) w := by
  unfold Op.shift
  rw [if_neg (by omega)]
  dsimp only
  rw [Int.toNat_natCast, show min a IntKind.u64.bits = a from Nat.min_eq_left ha, Int.fdiv_eq_ediv_of_nonneg _ (Int.le_of_lt (Int.pow_pos (by decide)))]
  rw [Int.natCast_ediv, Int.natCast_pow]
  rfl
theorem run_shl1 (a : Nat) (ha : a < 64) (w : World) : (Op.shift .shl .u64 1 .i64 (a : Int)).run Tryd.prog w = .ok (.int .u64 ((2 ^ a : Nat) : Int)) w := by
  unfold Op.shift
  rw [if_neg (by omega)]
  dsimp only
  rw [Int.toNat_natCast, show min a IntKind.u64.bits = a from Nat.min_eq_left (by show a ≤ 64; omega), Int.one_mul]
  have h : 2 ^ a < 18446744073709551616 := (Nat.pow_lt_pow_iff_right (by decide : 1 < 2)).2 ha
  have h2 : IntKind.u64.wrap ((2 : Int) ^ a) = ((2 ^ a : Nat) : Int) := by
    have h3 : (2 : Int) ^ a = ((2 ^ a : Nat) : Int) := by rw [Int.natCast_pow]; rfl
    rw [h3]
    generalize 2 ^ a = Q at *
    exact IntWalk.u64_in _ (by omega)
  rw [h2]
  rfl
theorem run_shl0 (y : Int) (hy : 0 ≤ y) (w : World) : (Op.shift .shl .u64 0 .i64 y).run Tryd.prog w = .ok (.int .u64 0) w := by
  unfold Op.shift
  rw [if_neg (by omega)]
  dsimp only
  rw [Int.zero_mul]
  rfl
theorem mask (m a : Nat) (hm : m < 18446744073709551616) (ha : a < 64) : Go.bits .and .u64 (m : Int) (IntKind.u64.wrap (((2 ^ a : Nat) : Int) - 1)) = ((m % 2 ^ a : Nat) : Int) := by
  have h : 2 ^ a < 18446744073709551616 := (Nat.pow_lt_pow_iff_right (by decide : 1 < 2)).2 ha
  have h1 : 1 ≤ 2 ^ a := Nat.two_pow_pos a
  rw [IntWalk.u64_in (((2 ^ a : Nat) : Int) - 1) (by generalize 2 ^ a = Q at *; omega), show (((2 ^ a : Nat) : Int) - 1) = ((2 ^ a - 1 : Nat) : Int) by omega, u64_and_nat _ _ hm (by omega), Nat.and_two_pow_sub_one_eq_mod]
theorem or0 (m : Nat) (hm : m < 18446744073709551616) : Go.bits .or .u64 (m : Int) 0 = (m : Int) := by
  have := u64_or_nat m 0 hm (by decide)
  rw [Nat.or_zero] at this
  exact this
theorem digit (b : Nat) (l a : Nat) (w : World) (hb : w.heap[b]? = some (.cells #[.int .u64 0, .int .u64 l, .int .i64 a] 73 (0, 0))) (hl : l < 18446744073709551616) (h0 : 0 < a) (h1 : a < 64) :
    Calls Tryd.prog 38 #[.pointer (some ⟨b, 0, none⟩)] w fun e w' => e = .returned (.int .i64 ((l / 2 ^ a % 10 : Nat) : Int)) ∧ Turn b w w' ∧ w'.heap[b]? = some (.cells #[.int .u64 0, .int .u64 ((l % 2 ^ a : Nat) : Int), .int .i64 a] 73 (0, 0)) := by
  have hs1 := run_shr l a (by omega)
  have hs2 := run_shl1 a h1
  have hs3 := run_shl0 (wrap64 (64 - (a : Int))) (by unfold wrap64; omega)
  obtain ⟨D, hD⟩ : ∃ D, l / 2 ^ a = D := ⟨_, rfl⟩
  obtain ⟨P, hP⟩ : ∃ P, 2 ^ a = P := ⟨_, rfl⟩
  have hm := mask l a hl h1
  have ho := or0 D (by rw [← hD]; exact Nat.lt_of_le_of_lt (Nat.div_le_self _ _) hl)
  rw [hD] at hs1
  rw [hP] at hs2 hm
  obtain ⟨M, hM⟩ : ∃ M, l % P = M := ⟨_, rfl⟩
  rw [hM] at hm
  rw [hD, hP, hM]
  obtain ⟨A, hA⟩ : ∃ A : Int, (a : Int) = A := ⟨_, rfl⟩
  have hA0 : 0 < A := by omega
  have hA1 : A < 64 := by omega
  rw [hA] at hs1 hs2 hs3 hb
  rw [hA]
  clear hl hD hM hP hA h0 h1
  have HB := Aside0.mk hb
  have c0 : w.cell? ⟨b, 0, none⟩ = some (.int .u64 0) := (blk_cell hb 0).trans rfl
  have c1 : w.cell? ⟨b, 1, none⟩ = some (.int .u64 l) := (blk_cell hb 1).trans rfl
  have c2 : w.cell? ⟨b, 2, none⟩ = some (.int .i64 A) := (blk_cell hb 2).trans rfl
  have d0 : decide (A ≤ 0) = false := decide_eq_false (by omega)
  have d1 : decide (110 < A) = false := decide_eq_false (by omega)
  have d2 : decide (64 ≤ A) = false := decide_eq_false (by omega)
  have f0 : w.frozen? ⟨b, 0, none⟩ = false := blk_frozen hb 0
  have hb1 := (blk_set hb 0 (.int .u64 0)).trans rfl
  have HB1 := Aside0.mk hb1
  have e1 : (w.setCell ⟨b, 0, none⟩ (.int .u64 0)).cell? ⟨b, 1, none⟩ = some (.int .u64 l) := (blk_cell hb1 1).trans rfl
  have f1 : (w.setCell ⟨b, 0, none⟩ (.int .u64 0)).frozen? ⟨b, 1, none⟩ = false := blk_frozen hb1 1
  clear hb hb1 hA0 hA1
  go_enter Tryd.func38, Tryd.ntmps38
  go_wp2
  go_region
  go_wp2
  go_region
  go_wp2
  go_ret
  refine ⟨by rw [Int.natCast_emod]; rfl, ((Turn.set (Turn.refl b w) 0 _).set 1 _).drew.drew, ?_⟩
  exact (blk_set HB1.out 1 (.int .u64 (M : Int))).trans rfl
/-- Ten times as much: five times, one place less. -/
theorem times (b : Nat) (l : Nat) (at' : Int) (w : World) (hb : w.heap[b]? = some (.cells #[.int .u64 0, .int .u64 l, .int .i64 at'] 73 (0, 0))) (hl : l * 5 < 18446744073709551616) (h1 : -1000 < at') (h2 : at' < 1000000) :
    Calls Tryd.prog 41 #[.pointer (some ⟨b, 0, none⟩)] w fun e w' => e = .returned (.tuple #[]) ∧ Turn b w w' ∧ w'.heap[b]? = some (.cells #[.int .u64 0, .int .u64 ((l * 5 : Nat) : Int), .int .i64 (at' - 1)] 73 (0, 0)) := by
  have HB := Aside0.mk hb
  have c0 : w.cell? ⟨b, 0, none⟩ = some (.int .u64 0) := (blk_cell hb 0).trans rfl
  have c1 : w.cell? ⟨b, 1, none⟩ = some (.int .u64 l) := (blk_cell hb 1).trans rfl
  have c2 : w.cell? ⟨b, 2, none⟩ = some (.int .i64 at') := (blk_cell hb 2).trans rfl
  have hm := Tryd.bits_Mul64 l 5 (by omega) (by decide)
  rw [Nat.div_eq_of_lt hl, Nat.mod_eq_of_lt hl] at hm
  obtain ⟨M, hM⟩ : ∃ M, l * 5 = M := ⟨_, rfl⟩
  have hw : wrap64 (at' - 1) = at' - 1 := by unfold wrap64; omega
  obtain ⟨A, hA⟩ : ∃ A, at' - 1 = A := ⟨_, rfl⟩
  rw [hM] at hm ⊢
  rw [hA] at hw ⊢
  have f0 : w.frozen? ⟨b, 0, none⟩ = false := blk_frozen hb 0
  have hb1 := (blk_set hb 0 (.int .u64 0)).trans rfl
  have HB1 := Aside0.mk hb1
  have e1 : (w.setCell ⟨b, 0, none⟩ (.int .u64 0)).cell? ⟨b, 1, none⟩ = some (.int .u64 l) := (blk_cell hb1 1).trans rfl
  have f1 : (w.setCell ⟨b, 0, none⟩ (.int .u64 0)).frozen? ⟨b, 1, none⟩ = false := blk_frozen hb1 1
  have hb2 := (blk_set hb1 1 (.int .u64 (M : Int))).trans rfl
  have HB2 := Aside0.mk hb2
  have e2 : ((w.setCell ⟨b, 0, none⟩ (.int .u64 0)).setCell ⟨b, 1, none⟩ (.int .u64 (M : Int))).cell? ⟨b, 2, none⟩ = some (.int .i64 at') := (blk_cell hb2 2).trans rfl
  have f2 : ((w.setCell ⟨b, 0, none⟩ (.int .u64 0)).setCell ⟨b, 1, none⟩ (.int .u64 (M : Int))).frozen? ⟨b, 2, none⟩ = false := blk_frozen hb2 2
  clear hb hb1 hb2 hl h1 h2 hM
  go_enter Tryd.func41, Tryd.ntmps41
  go_wp2_with (go_at_call 54; refine (hm _).mono ?_; rintro e w1 ⟨rfl, rfl⟩)
  go_region
  go_wp2
  go_end0
  exact ⟨rfl, (((Turn.set (Turn.refl b _) 0 _).set 1 _).set 2 _).drew, (blk_set HB2.out 2 (.int .i64 A)).trans rfl⟩
end Go.Proofs.YtfchcleochphoaaDoor.Bl
