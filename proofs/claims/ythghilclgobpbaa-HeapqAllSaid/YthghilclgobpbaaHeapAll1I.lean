/- The queue's iterator: what All's function yields: int. -/
import Derived.Test.YthghilclgobpbaaHeapSortI
import Derived.Test.YthghilclgobpbaaHeapCloneI
import Derived.RangeFuncNested
import Derived.RangeFuncBound
import Derived.RangeFuncCalls
import Derived.RangeFuncLeaves
import Derived.RangeFuncBox
import Derived.Shelf.Abstract
import Derived.Shelf.RegionOpen
import Derived.OwnWalkIn
import Derived.TacticsInMore
import Derived.LoopNIn
import Derived.LoopIn
namespace Go.Proofs.YthghilclgobpbaaH.I
open Go Go.RowKit Go.Shelf Go.Proofs.YthghilclgobpbaaH Go.Proofs.YthghilclgobpbaaW.PrintWords Go.Proofs.YthghilclgobpbaaW.PrintLast
set_option linter.unusedVariables false
set_option linter.unusedSimpArgs false
attribute [local go_sem ↓] Go.wp_at_zero Go.wp_at_succ
attribute [local go_sem] Oper.semAt_some
set_option maxHeartbeats 1000000 in
theorem all_made (q : Nat) (w : World) :
    Calls Try.prog 13 #[.pointer (some ⟨q, 0, none⟩)] w fun e w' => e = .returned (.func (.func 29) #[] #[.pointer (some ⟨w.heap.size, 0, none⟩)]) ∧ w' = w.alloc (.cells #[.pointer (some ⟨q, 0, none⟩)] 24) := by
  go_enter Try.func13, Try.ntmps13
  go_wp2
  go_ret
  exact ⟨rfl, rfl⟩
/-- What the loop's body owns: its box, and the row that lies in it. -/
def Own8 (B8 : Nat) (W : World) (k : Nat) : Prop := k = B8 ∨ ∃ g n c, W.heap[B8]? = some (.cells #[.slice (some ⟨g, 0, none⟩) n c] 22 (0, 0)) ∧ k = g
/-- A round leaves what is not the body's. -/
def KpS (B8 : Nat) (W W' : World) : Prop := W.heap.size ≤ W'.heap.size ∧ ∀ k o, k < W.heap.size → ¬ Own8 B8 W k → W.heap[k]? = some o → o.isCells = true → W'.heap[k]? = some o ∧ ¬ Own8 B8 W' k
theorem KpS.trans {B8 : Nat} {A B C : World} (h : KpS B8 A B) (k : KpS B8 B C) : KpS B8 A C :=
  ⟨Nat.le_trans h.1 k.1, fun b o hb ho hc hz => by
    obtain ⟨h1, h2⟩ := h.2 b o hb ho hc hz
    exact k.2 b o (Nat.lt_of_lt_of_le hb h.1) h2 h1 hz⟩
theorem KpS.refl (B8 : Nat) (A : World) : KpS B8 A A := ⟨Nat.le_refl _, fun _ _ _ ho hc _ => ⟨hc, ho⟩⟩
theorem grown_of_below {X Y : World} (h : Below X.heap.size X Y) : X.grownBy Y none := ⟨h.os, h.tape, h.output, h.size, fun k hk _ => h.block k hk⟩
theorem Own8.below {B8 : Nat} {W W' : World} {k : Nat} (h : Below W.heap.size W W') (hB : B8 < W.heap.size) (hk : Own8 B8 W' k) : Own8 B8 W k := by
  rcases hk with rfl | ⟨g, n, c, h1, rfl⟩
  · exact .inl rfl
  · exact .inr ⟨k, n, c, (h.block B8 hB).symm.trans h1, rfl⟩
set_option maxRecDepth 100000 in
set_option maxHeartbeats 8000000 in
theorem all_stops (n : Nat) (hn : 1 ≤ n) (B q base B8 : Nat) (items : List (It V)) (ord : Int) (w0 : World) (hQ : Q w0 q base items ord) (hlen : items.length ≤ 1000)
    (hB : Boxed w0 B 24 (.pointer (some ⟨q, 0, none⟩))) (h8 : w0.heap[B8]? = some (.cells #[.slice none 0 0] 22 (0, 0))) :
    SeqStopsK Fence.wide n Try.prog 29 #[.pointer (some ⟨B, 0, none⟩)] (fun x : { x : It V // x ∈ items } => #[.int .i64 x.1.p, ev x.1.v]) (KpS B8) (fun xs => xs.map (·.1) = sorted items) (fun _ => True) items.length w0 := by
  intro l J Jx W hW hJ hJx hY h0
  have hQW := hQ.below hW
  have hBW : Boxed W B 24 (.pointer (some ⟨q, 0, none⟩)) := blk_below hB hW
  have h8W : W.heap[B8]? = some (.cells #[.slice none 0 0] 22 (0, 0)) := blk_below h8 hW
  have hcB := hBW.cell
  obtain ⟨A, c, hq, hown, hne, hbq⟩ := hQW.own
  have hw0 : W.cell? ⟨q, 0, none⟩ = some (.slice A items.length c) := (blk_cell hq 0).trans rfl
  have H8 := Aside0.mk h8W
  have HY := Aside0.mk hY
  have HJ := Aside0.mk hJ
  have H0 := Aside0.mk h0
  have HL := Aside0.mk hlen
  by_cases hi : items = []
  · subst hi
    have hcl : ∀ w', W = w' → Calls Try.prog 30 #[.slice A 0 c] w' fun e w'' => ∃ A' c', e = .returned (.slice A' 0 c') ∧ Below W.heap.size W w'' := by
      rintro w' rfl
      obtain ⟨hb, ⟨_, h⟩ | ⟨g, cap, hg, h, hrow⟩⟩ := hQW
      · obtain ⟨rfl, rfl⟩ : A = none ∧ c = 0 := by rw [hq] at h; simpa using h
        refine (clone_nil W).mono ?_
        rintro e w' ⟨rfl, rfl⟩
        exact ⟨_, _, rfl, Below.refl _ _⟩
      · obtain ⟨rfl, rfl⟩ : A = some ⟨g, 0, none⟩ ∧ c = cap := by rw [hq] at h; simpa using h
        refine (clone_some hrow (by simp)).mono ?_
        rintro e w' ⟨A', c', rfl, _, hb⟩
        exact ⟨_, _, rfl, hb⟩
    have HCL := Aside0.mk hcl
    have hs0 : sorted ([] : List (It V)) = [] := List.eq_nil_of_length_eq_zero (sorted_length [])
    clear hY hJ h0 hlen hQ hB h8 hQW hBW h8W hq hown hne hbq hJx hW hcl
    rw [show (([] : List (It V)).length) = 0 from rfl] at hw0
    refine callsIn_of_wp Try.func29 rfl trivial ?_ rfl
    simp only [Try.ntmps29, List.size_toArray, List.length_cons, List.length_nil, Nat.reduceAdd, Nat.reduceSub, Array.replicate_succ, Array.replicate_zero, List.push_toArray, List.append_toArray, List.nil_append, List.cons_append]
    gi_wp2_with (first
      | (refine ⟨trivial, ?_⟩; gi_at_call 30; refine (callsIn_wide.2 (HCL.out _ rfl)).mono ?_; rintro e w1 ⟨A1, c1, rfl, hb1⟩; have HB1 := Aside0.mk hb1; clear hb1)
      | (refine ⟨trivial, ?_⟩; gi_at_call 31; refine (callsIn_wide.2 (AnyF.slices_SortFunc_none Try.itemSort A1 c1 _ w1)).mono ?_; rintro e w2 ⟨rfl, rfl⟩))
    gi_loopw [15] (fun tv wr => tv = .int .i64 0 ∧ J [] wr) (fun _ _ => 0)
    case atStart => exact ⟨rfl, HJ.out [] W w2 none H0.out (grown_of_below HB1.out) (fun r e => by cases e)⟩
    case round =>
      obtain ⟨rfl, hJs⟩ := hrel
      gi_wp2
      go_end0
      exact ⟨⟨_, rfl⟩, .inl ⟨[], hs0.symm, hJs⟩⟩
  · have hp : 0 < items.length := List.length_pos_iff.2 hi
    obtain ⟨g, cap, hbg, hq2, hrow⟩ := hQW.row hp
    obtain ⟨rfl, rfl⟩ : A = some ⟨g, 0, none⟩ ∧ c = cap := by rw [hq] at hq2; simpa using hq2
    have HP := Aside0.mk hp
    have HR := Aside0.mk hrow
    clear hY hJ h0 hlen hQ hB h8 hQW hBW h8W hq hown hne hbq hi hp hbg hq2 hrow hJx hW
    refine callsIn_of_wp Try.func29 rfl trivial ?_ rfl
    simp only [Try.ntmps29, List.size_toArray, List.length_cons, List.length_nil, Nat.reduceAdd, Nat.reduceSub, Array.replicate_succ, Array.replicate_zero, List.push_toArray, List.append_toArray, List.nil_append, List.cons_append]
    gi_wp2_with (first
      | (refine ⟨trivial, ?_⟩; gi_at_call 30; refine (callsIn_wide.2 (clone_some HR.out HL.out)).mono ?_; rintro e w1 ⟨A1, cap1, rfl, hz, hb1⟩; obtain ⟨g1, rfl, hr1, hg1⟩ := hz.resolve_left (fun e => by have := HP.out; rw [e] at this; simp at this); have HR1 := Aside0.mk hr1; have HB1 := Aside0.mk hb1; have HG1 := Aside0.mk hg1; clear hr1 hb1 hg1 hz)
      | (refine ⟨trivial, ?_⟩; gi_at_call 31; refine (callsIn_wide.2 (sort_row HR1.out HL.out)).mono ?_; rintro e w2 ⟨rfl, hg2, hr2⟩; have HR2 := Aside0.mk hr2; have HG2 := Aside0.mk hg2; clear hr2 hg2))
    have hB8 : B8 < W.heap.size := blk_lt H8.out
    have hJ2 : J [] w2 := HJ.out [] W w2 none H0.out ⟨HG2.out.os.trans HB1.out.os, HG2.out.tape.trans HB1.out.tape, HG2.out.output.trans HB1.out.output, Nat.le_trans HB1.out.size HG2.out.size, fun k hk _ => (HG2.out.block k (Nat.lt_of_lt_of_le hk HB1.out.size) (fun e => by have := HG1.out; injection e; omega)).trans (HB1.out.block k hk)⟩ (fun r e => by cases e)
    have hN2 : ¬ Own8 B8 w2 g1 := by
      rintro (h | ⟨g', n', c', h1, h2⟩)
      · have := HG1.out; omega
      · rw [(HG2.out.block B8 (Nat.lt_of_lt_of_le hB8 HB1.out.size) (fun e => by have := HG1.out; injection e; omega)).trans ((HB1.out.block B8 hB8).trans H8.out)] at h1
        simp at h1
    have HS2 := Aside0.mk (Nat.le_trans HB1.out.size HG2.out.size)
    have HLN := Aside0.mk (sorted_length items)
    have HB8 := Aside0.mk hB8
    clear hB8 HG2 HB1 HR1 HG1 H0
    gi_loopw [15] (fun tv wr => ∃ (i : Nat) (pre : List { x : It V // x ∈ items }), tv = .int .i64 i ∧ Aside0 (i ≤ items.length ∧ pre.map (·.1) = (sorted items).take i) ∧ J pre wr ∧ Aside0 (Row wr g1 cap1 (sorted items)) ∧ Aside0 (¬ Own8 B8 wr g1) ∧ Aside0 (W.heap.size ≤ wr.heap.size))
      (fun tv _ => ((items.length : Int) - intOf tv).toNat)
    case atStart => exact ⟨0, [], rfl, ⟨Nat.zero_le _, rfl⟩, hJ2, HR2, ⟨hN2⟩, HS2⟩
    case round =>
      obtain ⟨i, pre, rfl, HI, hJs, HRw, HNw, HSw⟩ := hrel
      clear hJ2 HR2 hN2 HS2
      by_cases hlt : i < items.length
      · have hlt' : i < (sorted items).length := by rw [HLN.out]; exact hlt
        obtain ⟨y, hy0⟩ : ∃ y, (sorted items)[i] = y := ⟨_, rfl⟩
        obtain ⟨k0, k1, k2⟩ := HRw.out.cell i hlt'
        rw [hy0] at k0 k1 k2
        have hmem : y ∈ items := (sorted_perm items).mem_iff.1 (by rw [← hy0]; exact List.getElem_mem _)
        have HY0 := Aside0.mk hy0
        obtain ⟨p, o, v⟩ := y
        dsimp only at k0 k1 k2
        have hi0 : (0 : Int) ≤ (i : Int) := by omega
        have hi1 : (i : Int) < (items.length : Int) := by omega
        have hd : decide (i < items.length) = true := decide_eq_true hlt
        have hd2 : decide ((i : Int) < (items.length : Int)) = true := decide_eq_true hi1
        have HM := Aside0.mk hmem
        have HLT := Aside0.mk hlt
        clear hy0 hmem hlt
        have hpl : pre.length = i := by
          have := congrArg List.length HI.out.2
          rw [List.length_map, List.length_take, HLN.out, Nat.min_eq_left HI.out.1] at this
          exact this
        obtain ⟨fn, tmps, assign, body, hy, hR⟩ := HY.out pre ⟨⟨p, o, v⟩, HM.out⟩ (wr.alloc (.cells #[.int .i64 p, .int .i64 o, ev v] 75)) (HJ.out pre wr _ none hJs (World.grownBy_alloc wr _ none) (fun r e => by cases e)) (by rw [hpl]; exact HLT.out)
        dsimp only at hy
        have HPL := Aside0.mk hpl
        clear hpl hJs
        gi_wp2
        refine hR.mono ?_
        have hNa : ¬ Own8 B8 (wr.alloc (.cells #[.int .i64 p, .int .i64 o, ev v] 75)) g1 := fun h => HNw.out (h.below (below_alloc (Below.refl _ _) _) (Nat.lt_of_lt_of_le HB8.out HSw.out))
        have hRa := Row.below HRw.out (below_alloc (Below.refl wr.heap.size wr) (.cells #[.int .i64 p, .int .i64 o, ev v] 75))
        rintro e W3 (⟨rfl, hJ3, hk3⟩ | ⟨rfl, hJx3⟩)
        · obtain ⟨cur, hc1, hc2⟩ := hRa
          obtain ⟨h31, h32⟩ := hk3.2 g1 _ (blk_lt hc1) hNa hc1 rfl
          have HR3 : Aside0 (Row W3 g1 cap1 (sorted items)) := ⟨cur, h31, hc2⟩
          have HS3 : Aside0 (W.heap.size ≤ W3.heap.size) := ⟨Nat.le_trans HSw.out (by have := hk3.1; simp at this; omega)⟩
          have HN3 := Aside0.mk h32
          have hw3 : IntKind.i64.wrap ((i : Int) + 1) = (i : Int) + 1 := IntWalk.i64_in _ (by have := HL.out; have := HLT.out; omega)
          clear hk3 hNa hc1 hc2 h31 h32 hy hR k0 k1 k2
          gi_wp2
          go_roundw
          case rel => exact ⟨i + 1, pre ++ [⟨⟨p, o, v⟩, HM.out⟩], by simp, ⟨HLT.out, by rw [List.map_append, HI.out.2, List.take_succ_eq_append_getElem (by rw [HLN.out]; exact HLT.out), HY0.out]; rfl⟩, hJ3, HR3, HN3, HS3⟩
          case measure => have := HLT.out; simp [intOf]; omega
        · clear hy hR k0 k1 k2
          gi_wp2
          refine bodyPost_ret (results_none rfl _ _ _) rfl ?_
          exact ⟨⟨_, rfl⟩, .inr ⟨_, trivial, hJx3⟩⟩
      · have hle := HI.out.1
        obtain rfl : i = items.length := by omega
        have hd : decide (items.length < items.length) = false := decide_eq_false (by omega)
        have hd2 : decide ((items.length : Int) < (items.length : Int)) = false := decide_eq_false (by omega)
        clear hlt hle
        gi_wp2
        go_end0
        exact ⟨⟨_, rfl⟩, .inl ⟨pre, by rw [HI.out.2, List.take_of_length_le (by rw [HLN.out]; exact Nat.le_refl _)], hJs⟩⟩
end Go.Proofs.YthghilclgobpbaaH.I
