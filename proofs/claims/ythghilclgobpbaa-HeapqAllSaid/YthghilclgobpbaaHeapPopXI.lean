/- What Pop leaves as it lay: int (made by wip/heap/genpopx.py). -/
import Derived.Test.YthghilclgobpbaaHeapPopI
namespace Go.Proofs.YthghilclgobpbaaH.I
open Go Go.RowKit Go.Proofs.YthghilclgobpbaaH Go.Proofs.YthghilclgobpbaaR Go.Proofs.YthghilclgobpbaaW.PrintWords Go.Proofs.YthghilclgobpbaaW.PrintLast
set_option linter.unusedVariables false
set_option linter.unusedSimpArgs false
attribute [local go_sem ↓] Go.wp_at_zero Go.wp_at_succ
/-- All blocks but those of a set are as they were. -/
structure BlS (S : Nat → Prop) (w w' : World) : Prop where
  os : w'.os = w.os
  tape : w'.tape = w.tape
  output : w'.output = w.output
  size : w.heap.size ≤ w'.heap.size
  block : ∀ k, k < w.heap.size → ¬ S k → w'.heap[k]? = w.heap[k]?
theorem BlS.refl (S : Nat → Prop) (w : World) : BlS S w w := ⟨rfl, rfl, rfl, Nat.le_refl _, fun _ _ _ => rfl⟩
theorem BlS.of {S : Nat → Prop} {w w' : World} (h : Below w.heap.size w w') : BlS S w w' := ⟨h.os, h.tape, h.output, h.size, fun k hk _ => h.block k hk⟩
theorem BlS.trans {S : Nat → Prop} {a b c : World} (h : BlS S a b) (k : BlS S b c) : BlS S a c :=
  ⟨k.os.trans h.os, k.tape.trans h.tape, k.output.trans h.output, Nat.le_trans h.size k.size, fun i hi hn => (k.block i (Nat.lt_of_lt_of_le hi h.size) hn).trans (h.block i hi hn)⟩
theorem BlS.drew {S : Nat → Prop} {a b : World} (h : BlS S a b) : BlS S a b.drew := ⟨h.os, h.tape, h.output, h.size, h.block⟩
theorem BlS.setCell {S : Nat → Prop} {a b : World} (h : BlS S a b) {p : Addr} (hp : S p.block) (v : Value) : BlS S a (b.setCell p v) :=
  h.trans ⟨rfl, rfl, rfl, (by simp), fun k hk hn => Below.heap_setCell _ _ _ _ (fun e => hn (by rw [e]; exact hp))⟩
theorem BlS.below {S : Nat → Prop} {a b : World} {n : Nat} (h : BlS S a b) (hn : n ≤ a.heap.size) (hs : ∀ k, S k → n ≤ k) : Below n a b :=
  ⟨h.os, h.tape, h.output, h.size, fun k hk => h.block k (Nat.lt_of_lt_of_le hk hn) (fun e => by have := hs k e; omega)⟩
/-- A queue whose blocks lie in a set. -/
def Qs (w : World) (q : Nat) (S : Nat → Prop) (l : List (It V)) (ord : Int) : Prop :=
  S q ∧ ((l = [] ∧ w.heap[q]? = some (.cells #[.slice none 0 0, .int .i64 ord] 73 (0, 0))) ∨
    ∃ g cap, S g ∧ w.heap[q]? = some (.cells #[.slice (some ⟨g, 0, none⟩) l.length cap, .int .i64 ord] 73 (0, 0)) ∧ Row w g cap l)
theorem Qs.toQ {w : World} {q : Nat} {S : Nat → Prop} {l : List (It V)} {ord : Int} (h : Qs w q S l ord) : Q w q 0 l ord := by
  obtain ⟨h0, h | ⟨g, cap, h1, h2⟩⟩ := h
  · exact ⟨Nat.zero_le _, .inl h⟩
  · exact ⟨Nat.zero_le _, .inr ⟨g, cap, Nat.zero_le _, h2⟩⟩
/-- A queue's blocks are two, at most. -/
theorem Q.blocks {w : World} {q base : Nat} {l : List (It V)} {ord : Int} (h : Q w q base l ord) : ∃ S : Nat → Prop, Qs w q S l ord ∧ ∀ k, S k → base ≤ k ∧ k < w.heap.size := by
  obtain ⟨h0, h | ⟨g, cap, h1, h2, h3⟩⟩ := h
  · exact ⟨fun k => k = q, ⟨rfl, .inl h⟩, fun k e => by subst e; exact ⟨h0, blk_lt h.2⟩⟩
  · exact ⟨fun k => k = q ∨ k = g, ⟨.inl rfl, .inr ⟨g, cap, .inr rfl, h2, h3⟩⟩, fun k e => by rcases e with rfl | rfl; exact ⟨h0, blk_lt h2⟩; exact ⟨h1, h3.lt⟩⟩
theorem Qs.below {w w' : World} {q : Nat} {S : Nat → Prop} {l : List (It V)} {ord : Int} (h : Qs w q S l ord) (hb : Below w.heap.size w w') : Qs w' q S l ord := by
  obtain ⟨h0, h | ⟨g, cap, h1, h2, h3⟩⟩ := h
  · exact ⟨h0, .inl ⟨h.1, blk_below h.2 hb⟩⟩
  · exact ⟨h0, .inr ⟨g, cap, h1, blk_below h2 hb, h3.below hb⟩⟩
theorem Qs.keep {w w' : World} {q : Nat} {S : Nat → Prop} {l : List (It V)} {ord : Int} (h : Qs w q S l ord) (hb : ∀ k, k < w.heap.size → S k → w'.heap[k]? = w.heap[k]?) : Qs w' q S l ord := by
  obtain ⟨h0, h | ⟨g, cap, h1, h2, h3⟩⟩ := h
  · exact ⟨h0, .inl ⟨h.1, (hb q (blk_lt h.2) h0).trans h.2⟩⟩
  · exact ⟨h0, .inr ⟨g, cap, h1, (hb q (blk_lt h2) h0).trans h2, h3.heap (hb g h3.lt h1)⟩⟩
theorem Qs.row {w : World} {q : Nat} {S : Nat → Prop} {l : List (It V)} {ord : Int} (h : Qs w q S l ord) (hl : 0 < l.length) :
    ∃ g cap, S g ∧ w.heap[q]? = some (.cells #[.slice (some ⟨g, 0, none⟩) l.length cap, .int .i64 ord] 73 (0, 0)) ∧ Row w g cap l := by
  obtain ⟨h0, ⟨rfl, h⟩ | h⟩ := h
  · simp at hl
  · exact h
theorem Qs.lt {w : World} {q : Nat} {S : Nat → Prop} {l : List (It V)} {ord : Int} (h : Qs w q S l ord) : q < w.heap.size := by
  obtain ⟨h0, h | ⟨g, cap, h1, h2, h3⟩⟩ := h
  · exact blk_lt h.2
  · exact blk_lt h2
def PopPostS (q : Nat) (S : Nat → Prop) (x : It V) (t : List (It V)) (ord : Int) (w : World) (e : Ending) (w' : World) : Prop :=
  e = .returned (.tuple #[.int .i64 x.p, ev x.v, .bool true]) ∧ ∃ l', Qs w' q S l' ord ∧ Heap l' ∧ (x :: t).Perm (x :: l') ∧ BlS S w w'
set_option maxHeartbeats 16000000 in
set_option maxRecDepth 100000 in
theorem pop_someS (q : Nat) (S : Nat → Prop) (x : It V) (t : List (It V)) (ord : Int) (w : World) (hQ : Qs w q S (x :: t) ord) (hh : Heap (x :: t)) (hn : t.length ≤ 1000) :
    Calls Try.prog 12 #[.pointer (some ⟨q, 0, none⟩)] w (PopPostS q S x t ord w) := by
  have HQ := Aside0.mk hQ
  have HH := Aside0.mk hh
  have hbq := hQ.1
  clear hQ hh
  go_enter Try.func12, Try.ntmps12
  go_wp2_with (go_at_call 14; refine (peek_some q 0 x t ord _ HQ.out.toQ).mono ?_; rintro e w1 ⟨rfl, hb⟩; have HQ1 := Aside0.mk (HQ.out.below hb); have HB1 : Aside0 (BlS S w w1) := ⟨BlS.of hb⟩; clear hb; obtain ⟨g, cap, hbg, hq, hrow⟩ := HQ1.out.row (by simp); have HQQ := Aside0.mk hq; have HROW := Aside0.mk hrow; have hw0 : w1.cell? ⟨q, 0, none⟩ = some (.slice (some ⟨g, 0, none⟩) (t.length + 1) cap) := (blk_cell hq 0).trans rfl; clear hq hrow)
  have ne := Aside0.mk (HROW.out.ne HQQ.out)
  have hl1 : (t.length : Int) < ((t.length + 1 : Nat) : Int) := by omega
  have hl2 : (t.length : Int) < (t.length : Int) + 1 := by omega
  have hz2 : (0 : Int) < (t.length : Int) + 1 := by omega
  have hl0 : (0 : Int) ≤ (t.length : Int) := by omega
  have hz1 : (0 : Int) < ((t.length + 1 : Nat) : Int) := by omega
  obtain ⟨y, hy⟩ : ∃ y : It V, (x :: t)[t.length]'(by simp) = y := ⟨_, rfl⟩
  obtain ⟨c0, c1, c2⟩ := HROW.out.cell t.length (by simp)
  rw [hy] at c0 c1 c2
  have HY := Aside0.mk hy
  clear hy
  refine sw_ (fun w' => w'.cell? ⟨q, 0, none⟩ = some (.slice (some ⟨g, 0, none⟩) (t.length + 1) cap) ∧ w'.cell? ⟨g, t.length * 3, none⟩ = some (.int .i64 y.p) ∧ w'.cell? ⟨g, t.length * 3 + 1, none⟩ = some (.int .i64 y.o) ∧ w'.cell? ⟨g, t.length * 3 + 2, none⟩ = some (ev y.v)) [12] ⟨hw0, c0, c1, c2⟩ (fun hHeld => ?_)
  have HROW0 : Aside0 (Row w1.drew g cap (x :: t)) := ⟨HROW.out⟩
  have HQQ0 : Aside0 (w1.drew.heap[q]? = some (.cells #[.slice (some ⟨g, 0, none⟩) (t.length + 1) cap, .int .i64 ord] 73 (0, 0))) := ⟨HQQ.out⟩
  have HB0 : Aside0 (BlS S w w1.drew) := ⟨HB1.out.drew⟩
  clear HROW HQQ HB1 HQ1 HQ c0 c1 c2 hw0
  generalize w1.drew = W at HROW0 HQQ0 HB0 hHeld ⊢
  refine pw_ 0 29 (h := ?_)
  refine pw_ 1 30 (h := ?_)
  refine pw_ 2 31 (h := ?_)
  refine pw_ 4 33 (h := ?_)
  refine pw_ 5 34 (h := ?_)
  refine pw_ 6 35 (h := ?_)
  refine pw_ 8 37 (h := ?_)
  refine tw_ 3 32 hHeld (h := ?_)
  refine tw_ 7 36 hHeld (h := ?_)
  refine pw_ 9 38 (h := ?_)
  refine tw_ 10 39 hHeld (h := ?_)
  refine pw_ 11 40 (h := ?_)
  have hf0 : W.frozen? ⟨g, 0, none⟩ = false := HROW0.out.froz _
  have hf1 : W.frozen? ⟨g, 1, none⟩ = false := HROW0.out.froz _
  have hf2 : W.frozen? ⟨g, 2, none⟩ = false := HROW0.out.froz _
  obtain ⟨x0, x1, x2⟩ := HROW0.out.cell 0 (by simp)
  simp only [Nat.zero_mul, Nat.zero_add] at x0 x1 x2
  refine lw_ 12 none (fun K hK => ?_)
  refine kw_ (h := ?_)
  refine hK.out _ _ ?_
  clear hK K
  have hr2 := HROW0.out.put 0 (by simp) y
  simp only [Nat.zero_mul, Nat.zero_add, List.set_cons_zero] at hr2
  have HROW2 := Aside0.mk hr2
  have HQQ2 := Aside0.mk (blk_far (blk_far (blk_far HQQ0.out (Ne.symm ne.out) (p := ⟨g, 0, none⟩) (.int .i64 y.p)) (Ne.symm ne.out) (p := ⟨g, 1, none⟩) (.int .i64 y.o)) (Ne.symm ne.out) (p := ⟨g, 2, none⟩) (ev y.v))
  have HB2 := Aside0.mk (((HB0.out.setCell hbg (p := ⟨g, 0, none⟩) (.int .i64 y.p)).setCell hbg (p := ⟨g, 1, none⟩) (.int .i64 y.o)).setCell hbg (p := ⟨g, 2, none⟩) (ev y.v))
  clear x0 x1 x2 hf0 hf1 hf2 HROW0 HQQ0 HB0 hHeld hr2
  generalize ((W.setCell ⟨g, 0, none⟩ (.int .i64 y.p)).setCell ⟨g, 1, none⟩ (.int .i64 y.o)).setCell ⟨g, 2, none⟩ (ev y.v) = W2 at HROW2 HQQ2 HB2 ⊢
  refine dw_ ?_
  have hf0 : W2.frozen? ⟨g, t.length * 3, none⟩ = false := HROW2.out.froz _
  have hf1 : W2.frozen? ⟨g, t.length * 3 + 1, none⟩ = false := HROW2.out.froz _
  have hf2 : W2.frozen? ⟨g, t.length * 3 + 2, none⟩ = false := HROW2.out.froz _
  obtain ⟨x0, x1, x2⟩ := HROW2.out.cell t.length (by simp)
  have hw0 : W2.cell? ⟨q, 0, none⟩ = some (.slice (some ⟨g, 0, none⟩) (t.length + 1) cap) := (blk_cell HQQ2.out 0).trans rfl
  have hfq : W2.frozen? ⟨q, 0, none⟩ = false := blk_frozen HQQ2.out 0
  have hcap : (t.length : Int) ≤ (cap : Int) := by
    obtain ⟨cur, _, h2, _⟩ := HROW2.out
    simp at h2
    omega
  go_upto_region 7 with (fail)
  have hr3 := HROW2.out.put t.length (by simp) ⟨0, 0, 0⟩
  have hcut : ((y :: t).set t.length (⟨0, 0, 0⟩ : It V)).take t.length = cutl (x :: t) (by simp) := by
    rw [List.take_set_of_le (Nat.le_refl _)]
    unfold cutl
    simp only [List.length_cons, Nat.add_sub_cancel, List.set_cons_zero, HY.out]
  have hr4 := hr3.take t.length
  rw [hcut] at hr4
  have HROW3 := Aside0.mk hr4
  have HQQ3 := Aside0.mk (blk_far (blk_far (blk_far HQQ2.out (Ne.symm ne.out) (p := ⟨g, t.length * 3, none⟩) (.int .i64 0)) (Ne.symm ne.out) (p := ⟨g, t.length * 3 + 1, none⟩) (.int .i64 0)) (Ne.symm ne.out) (p := ⟨g, t.length * 3 + 2, none⟩) (ev 0))
  have HB3 := Aside0.mk (((HB2.out.setCell hbg (p := ⟨g, t.length * 3, none⟩) (.int .i64 0)).setCell hbg (p := ⟨g, t.length * 3 + 1, none⟩) (.int .i64 0)).setCell hbg (p := ⟨g, t.length * 3 + 2, none⟩) (ev 0))
  clear x0 x1 x2 hf0 hf1 hf2 hfq hw0 HROW2 HQQ2 HB2 hr3 hr4 hcut
  generalize ((W2.setCell ⟨g, t.length * 3, none⟩ (.int .i64 0)).setCell ⟨g, t.length * 3 + 1, none⟩ (.int .i64 0)).setCell ⟨g, t.length * 3 + 2, none⟩ (ev 0) = W3 at HROW3 HQQ3 HB3 ⊢
  have hw0 : W3.cell? ⟨q, 0, none⟩ = some (.slice (some ⟨g, 0, none⟩) (t.length + 1) cap) := (blk_cell HQQ3.out 0).trans rfl
  have hfq : W3.frozen? ⟨q, 0, none⟩ = false := blk_frozen HQQ3.out 0
  have HM0 : Aside0 (∃ m : List (It V), m.length = t.length ∧ Down m 0 ∧ (x :: t).Perm (x :: m) ∧ Qs (W3.setCell ⟨q, 0, none⟩ (.slice (some ⟨g, 0, none⟩) t.length cap)) q S m ord) := by
    have e : (cutl (x :: t) (by simp)).length = t.length := by rw [cutl_length]; simp
    refine ⟨_, e, Down.start HH.out (by simp), cutl_perm (x :: t) (by simp), hbq, .inr ⟨g, cap, hbg, ?_, HROW3.out.heap (Below.heap_setCell _ _ _ _ ne.out)⟩⟩
    rw [e]
    exact blk_set HQQ3.out 0 _
  have HB4 : Aside0 (BlS S w (W3.setCell ⟨q, 0, none⟩ (.slice (some ⟨g, 0, none⟩) t.length cap))) := ⟨HB3.out.setCell hbq _⟩
  clear HROW3 HQQ3 HB3 HH HY ne hbg
  obtain ⟨m0, hm0, hd0, hp0, hq0⟩ := HM0.out
  have HD0 := Aside0.mk hd0
  have HP0 := Aside0.mk hp0
  have HQ0 := Aside0.mk hq0
  clear hd0 hp0 hq0 HM0
  have i0 : ∀ (a b : Value) (w : World), (Instr.index 77 (.agg #[a, b]) (.int .i64 0)).run Try.prog w = .ok a w := fun _ _ _ => by kernel_rfl
  have i1 : ∀ (a b : Value) (w : World), (Instr.index 77 (.agg #[a, b]) (.int .i64 1)).run Try.prog w = .ok b w := fun _ _ _ => by kernel_rfl
  go_wp2
  go_loopg [9] t.length (fun gas s9 wr => ∃ (k : Nat) (m : List (It V)), k ≤ t.length ∧ m.length = t.length ∧ t.length - k ≤ gas ∧ s9 = .int .i64 k ∧ Aside0 (k < m.length ∨ k = 0) ∧ Aside0 (Down m k) ∧ Aside0 ((x :: t).Perm (x :: m)) ∧ Aside0 (Qs wr q S m ord) ∧ Aside0 (BlS S w wr))
  case atStart => exact ⟨0, m0, Nat.zero_le _, hm0, Nat.le_refl _, rfl, ⟨.inr rfl⟩, HD0, HP0, HQ0, HB4⟩
  case round =>
    clear HD0 HP0 HQ0 HB4 hm0 m0
    obtain ⟨k, m, hkt, hm, hgas, rfl, HK, HD, HP, HQ, HB⟩ := hrel
    have HM := Aside0.mk hm
    clear hm
    have hk0 : (0 : Int) ≤ (k : Int) := by omega
    have hk1 : (k : Int) ≤ 1000 := by omega
    go_wp2
    go_loopg [10, 65] 2 (fun gas2 s10 s65 wr => ∃ (j b : Nat), 2 - j ≤ gas2 ∧ s10 = .int .i64 b ∧ ((j = 0 ∧ s65 = .int .i64 0) ∨ (j = 1 ∧ s65 = .int .i64 1) ∨ (j = 2 ∧ s65 = .int .i64 2)) ∧ Aside0 (Best m k j b) ∧ Aside0 (Qs wr q S m ord) ∧ Aside0 (BlS S w wr))
    case atStart => exact ⟨0, k, by omega, rfl, .inl ⟨rfl, rfl⟩, ⟨Best.start m k⟩, HQ, HB⟩
    case round =>
      clear HQ HB
      obtain ⟨j, b, hgas2, rfl, hj3, HBEST, HQ, HB⟩ := hrel
      rcases hj3 with ⟨rfl, rfl⟩ | ⟨rfl, rfl⟩ | ⟨rfl, rfl⟩
      · obtain ⟨c, hcc⟩ : ∃ c, c = 2 * k + 1 + 0 := ⟨_, rfl⟩
        have hcz : 2 * (k : Int) + 1 = (c : Int) := by omega
        have hc0 : (0 : Int) ≤ (c : Int) := by omega
        by_cases hc : c < t.length
        · have hbl : b < m.length := by
            rcases HBEST.out.1 with e | e
            · rw [e, HM.out]; omega
            · exact e.2.2
          have hcl : c < m.length := by rw [HM.out]; exact hc
          have HBL := Aside0.mk hbl
          have HCL := Aside0.mk hcl
          obtain ⟨g2, cp2, hbg2, hq2, hrow2⟩ := HQ.out.row (by omega)
          have HQQ := Aside0.mk hq2
          have HROW := Aside0.mk hrow2
          obtain ⟨cc0, cc1, cc2⟩ := hrow2.cell c HCL.out
          obtain ⟨cb0, cb1, cb2⟩ := hrow2.cell b HBL.out
          have hw0 : wr.cell? ⟨q, 0, none⟩ = some (.slice (some ⟨g2, 0, none⟩) m.length cp2) := (blk_cell hq2 0).trans rfl
          have hci : (c : Int) < (m.length : Int) := by omega
          have hbi : (b : Int) < (m.length : Int) := by omega
          have hb0 : (0 : Int) ≤ (b : Int) := by omega
          have hcd : decide (c < t.length) = true := decide_eq_true hc
          have hcd2 : decide ((c : Int) < (t.length : Int)) = true := decide_eq_true (by omega)
          have HCC := Aside0.mk hcc
          clear hq2 hrow2 hbl hcl hcc
          go_wp2_with fail
          refine sw_ (fun w' => w'.cell? ⟨q, 0, none⟩ = some (.slice (some ⟨g2, 0, none⟩) m.length cp2) ∧ w'.cell? ⟨g2, c * 3, none⟩ = some (.int .i64 (m[c]'HCL.out).p) ∧ w'.cell? ⟨g2, c * 3 + 1, none⟩ = some (.int .i64 (m[c]'HCL.out).o) ∧ w'.cell? ⟨g2, c * 3 + 2, none⟩ = some (ev (m[c]'HCL.out).v) ∧
            w'.cell? ⟨g2, b * 3, none⟩ = some (.int .i64 (m[b]'HBL.out).p) ∧ w'.cell? ⟨g2, b * 3 + 1, none⟩ = some (.int .i64 (m[b]'HBL.out).o) ∧ w'.cell? ⟨g2, b * 3 + 2, none⟩ = some (ev (m[b]'HBL.out).v)) [] ⟨hw0, cc0, cc1, cc2, cb0, cb1, cb2⟩ (fun hHeld => ?_)
          have HROW0 : Aside0 (Row wr.drew g2 cp2 m) := ⟨HROW.out⟩
          have HQQ0 : Aside0 (wr.drew.heap[q]? = some (.cells #[.slice (some ⟨g2, 0, none⟩) m.length cp2, .int .i64 ord] 73 (0, 0))) := ⟨HQQ.out⟩
          have HB0 : Aside0 (BlS S w wr.drew) := ⟨HB.out.drew⟩
          clear HROW HQQ HB HQ cc0 cc1 cc2 cb0 cb1 cb2 hw0
          generalize wr.drew = W1 at HROW0 HQQ0 HB0 hHeld ⊢
          refine pw_ 0 68 (h := ?_)
          refine pw_ 1 69 (h := ?_)
          refine pw_ 2 70 (h := ?_)
          refine pw_ 3 71 (h := ?_)
          refine pw_ 4 72 (h := ?_)   -- guarded
          refine pw_ 5 73 (h := ?_)   -- guarded
          refine pw_ 6 74 (h := ?_)   -- guarded
          refine pw_ 8 76 (h := ?_)   -- guarded
          refine pw_ 11 79 (h := ?_)   -- guarded
          refine pw_ 12 80 (h := ?_)   -- guarded
          refine pw_ 13 81 (h := ?_)   -- guarded
          refine pw_ 15 83 (h := ?_)   -- guarded
          refine tw_ 7 75 hHeld (h := ?_)   -- guarded
          refine pw_ 9 77 (h := ?_)   -- guarded
          refine tw_ 10 78 hHeld (h := ?_)   -- guarded
          refine tw_ 14 82 hHeld (h := ?_)   -- guarded
          refine pw_ 16 84 (h := ?_)   -- guarded
          refine tw_ 17 85 hHeld (h := ?_)   -- guarded
          refine ow_ 18 (some 86) (fun K hK => ?_)
          refine goes_ Try.func28 (by kernel_rfl) rfl #[.agg #[.int .i64 (m[c]'HCL.out).p, .int .i64 (m[c]'HCL.out).o, ev (m[c]'HCL.out).v], .agg #[.int .i64 (m[b]'HBL.out).p, .int .i64 (m[b]'HBL.out).o, ev (m[b]'HBL.out).v]] (by rfl) rfl rfl (by simp only [List.map_toArray, List.map_cons, List.map_nil]; rfl) ?_
          refine (compare_any (m[c]'HCL.out) (m[b]'HBL.out) _).mono ?_
          rintro e w2 ⟨r, rfl, hr, hb⟩
          refine ⟨_, rfl, ?_⟩
          have HQ2 : Aside0 (Qs w2 q S m ord) := ⟨hbq, .inr ⟨g2, cp2, hbg2, blk_below HQQ0.out hb, HROW0.out.below hb⟩⟩
          have HB2 : Aside0 (BlS S w w2) := ⟨HB0.out.trans (BlS.of hb)⟩
          obtain ⟨cc0, cc1, cc2⟩ := (HROW0.out.below hb).cell c HCL.out
          obtain ⟨cb0, cb1, cb2⟩ := (HROW0.out.below hb).cell b HBL.out
          have hw0 := (blk_cell (blk_below HQQ0.out hb) 0)
          refine hK.out _ _ ⟨hw0.trans rfl, cc0, cc1, cc2, cb0, cb1, cb2⟩ (fun hHeld => ?_)
          clear hK K cc0 cc1 cc2 cb0 cb1 cb2 hw0 HROW0 HQQ0 HB0 hb hHeld
          refine nw_ 86 (h := ?_)
          refine pw_ 19 87 (h := ?_)   -- guarded
          refine pw_ 20 88 (h := ?_)
          cases hlt : ltB (m[c]'HCL.out) (m[b]'HBL.out) with
          | true =>
            rw [hlt] at hr
            have HL : Aside0 (le (m[c]'HCL.out) (m[b]'HBL.out)) := ⟨le_of_not (of_decide_eq_true hlt)⟩
            clear hlt
            refine dw_ ?_
            go_wp2
            go_roundg 1
            case measure => omega
            case rel => exact ⟨1, c, by omega, rfl, .inr (.inl ⟨rfl, rfl⟩), ⟨HBEST.out.hit HCC.out HCL.out HBL.out HL.out⟩, HQ2, HB2⟩
          | false =>
            rw [hlt] at hr
            have HL : Aside0 (le (m[b]'HBL.out) (m[c]'HCL.out)) := ⟨Classical.byContradiction fun h => absurd hlt (by unfold ltB; rw [decide_eq_true h]; decide)⟩
            clear hlt
            refine dw_ ?_
            go_wp2
            go_roundg 1
            case measure => omega
            case rel => exact ⟨1, b, by omega, rfl, .inr (.inl ⟨rfl, rfl⟩), ⟨HBEST.out.miss HCC.out HCL.out HBL.out HL.out⟩, HQ2, HB2⟩
        · have hcl : ¬ c < m.length := by rw [HM.out]; exact hc
          have HCL := Aside0.mk hcl
          have HCC := Aside0.mk hcc
          have hcd : decide (c < t.length) = false := decide_eq_false hc
          have hcd2 : decide ((c : Int) < (t.length : Int)) = false := decide_eq_false (by omega)
          clear hcl hcc
          go_wp2_with fail
          refine sw_ (fun w' => True) [] trivial (fun hHeld => ?_)
          refine pw_ 0 68 (h := ?_)
          refine pw_ 1 69 (h := ?_)
          refine pw_ 2 70 (h := ?_)
          refine pw_ 3 71 (h := ?_)
          refine pg_ 4 72 (h := ?_)
          refine pg_ 5 73 (h := ?_)
          refine pg_ 6 74 (h := ?_)
          refine pg_ 7 75 (h := ?_)
          refine pg_ 8 76 (h := ?_)
          refine pg_ 9 77 (h := ?_)
          refine pg_ 10 78 (h := ?_)
          refine pg_ 11 79 (h := ?_)
          refine pg_ 12 80 (h := ?_)
          refine pg_ 13 81 (h := ?_)
          refine pg_ 14 82 (h := ?_)
          refine pg_ 15 83 (h := ?_)
          refine pg_ 16 84 (h := ?_)
          refine pg_ 17 85 (h := ?_)
          refine pg_ 18 86 (h := ?_)
          refine pg_ 19 87 (h := ?_)
          refine pw_ 20 88 (h := ?_)
          refine dw_ ?_
          go_wp2
          go_roundg 1
          case measure => omega
          case rel => exact ⟨1, b, by omega, rfl, .inr (.inl ⟨rfl, rfl⟩), ⟨HBEST.out.past HCC.out HCL.out⟩, ⟨HQ.out.below (Below.refl _ _).drew⟩, ⟨HB.out.drew⟩⟩
      · obtain ⟨c, hcc⟩ : ∃ c, c = 2 * k + 1 + 1 := ⟨_, rfl⟩
        have hcz : 2 * (k : Int) + 2 = (c : Int) := by omega
        have hc0 : (0 : Int) ≤ (c : Int) := by omega
        by_cases hc : c < t.length
        · have hbl : b < m.length := by
            rcases HBEST.out.1 with e | e
            · rw [e, HM.out]; omega
            · exact e.2.2
          have hcl : c < m.length := by rw [HM.out]; exact hc
          have HBL := Aside0.mk hbl
          have HCL := Aside0.mk hcl
          obtain ⟨g2, cp2, hbg2, hq2, hrow2⟩ := HQ.out.row (by omega)
          have HQQ := Aside0.mk hq2
          have HROW := Aside0.mk hrow2
          obtain ⟨cc0, cc1, cc2⟩ := hrow2.cell c HCL.out
          obtain ⟨cb0, cb1, cb2⟩ := hrow2.cell b HBL.out
          have hw0 : wr.cell? ⟨q, 0, none⟩ = some (.slice (some ⟨g2, 0, none⟩) m.length cp2) := (blk_cell hq2 0).trans rfl
          have hci : (c : Int) < (m.length : Int) := by omega
          have hbi : (b : Int) < (m.length : Int) := by omega
          have hb0 : (0 : Int) ≤ (b : Int) := by omega
          have hcd : decide (c < t.length) = true := decide_eq_true hc
          have hcd2 : decide ((c : Int) < (t.length : Int)) = true := decide_eq_true (by omega)
          have HCC := Aside0.mk hcc
          clear hq2 hrow2 hbl hcl hcc
          go_wp2_with fail
          refine sw_ (fun w' => w'.cell? ⟨q, 0, none⟩ = some (.slice (some ⟨g2, 0, none⟩) m.length cp2) ∧ w'.cell? ⟨g2, c * 3, none⟩ = some (.int .i64 (m[c]'HCL.out).p) ∧ w'.cell? ⟨g2, c * 3 + 1, none⟩ = some (.int .i64 (m[c]'HCL.out).o) ∧ w'.cell? ⟨g2, c * 3 + 2, none⟩ = some (ev (m[c]'HCL.out).v) ∧
            w'.cell? ⟨g2, b * 3, none⟩ = some (.int .i64 (m[b]'HBL.out).p) ∧ w'.cell? ⟨g2, b * 3 + 1, none⟩ = some (.int .i64 (m[b]'HBL.out).o) ∧ w'.cell? ⟨g2, b * 3 + 2, none⟩ = some (ev (m[b]'HBL.out).v)) [] ⟨hw0, cc0, cc1, cc2, cb0, cb1, cb2⟩ (fun hHeld => ?_)
          have HROW0 : Aside0 (Row wr.drew g2 cp2 m) := ⟨HROW.out⟩
          have HQQ0 : Aside0 (wr.drew.heap[q]? = some (.cells #[.slice (some ⟨g2, 0, none⟩) m.length cp2, .int .i64 ord] 73 (0, 0))) := ⟨HQQ.out⟩
          have HB0 : Aside0 (BlS S w wr.drew) := ⟨HB.out.drew⟩
          clear HROW HQQ HB HQ cc0 cc1 cc2 cb0 cb1 cb2 hw0
          generalize wr.drew = W1 at HROW0 HQQ0 HB0 hHeld ⊢
          refine pw_ 0 68 (h := ?_)
          refine pw_ 1 69 (h := ?_)
          refine pw_ 2 70 (h := ?_)
          refine pw_ 3 71 (h := ?_)
          refine pw_ 4 72 (h := ?_)   -- guarded
          refine pw_ 5 73 (h := ?_)   -- guarded
          refine pw_ 6 74 (h := ?_)   -- guarded
          refine pw_ 8 76 (h := ?_)   -- guarded
          refine pw_ 11 79 (h := ?_)   -- guarded
          refine pw_ 12 80 (h := ?_)   -- guarded
          refine pw_ 13 81 (h := ?_)   -- guarded
          refine pw_ 15 83 (h := ?_)   -- guarded
          refine tw_ 7 75 hHeld (h := ?_)   -- guarded
          refine pw_ 9 77 (h := ?_)   -- guarded
          refine tw_ 10 78 hHeld (h := ?_)   -- guarded
          refine tw_ 14 82 hHeld (h := ?_)   -- guarded
          refine pw_ 16 84 (h := ?_)   -- guarded
          refine tw_ 17 85 hHeld (h := ?_)   -- guarded
          refine ow_ 18 (some 86) (fun K hK => ?_)
          refine goes_ Try.func28 (by kernel_rfl) rfl #[.agg #[.int .i64 (m[c]'HCL.out).p, .int .i64 (m[c]'HCL.out).o, ev (m[c]'HCL.out).v], .agg #[.int .i64 (m[b]'HBL.out).p, .int .i64 (m[b]'HBL.out).o, ev (m[b]'HBL.out).v]] (by rfl) rfl rfl (by simp only [List.map_toArray, List.map_cons, List.map_nil]; rfl) ?_
          refine (compare_any (m[c]'HCL.out) (m[b]'HBL.out) _).mono ?_
          rintro e w2 ⟨r, rfl, hr, hb⟩
          refine ⟨_, rfl, ?_⟩
          have HQ2 : Aside0 (Qs w2 q S m ord) := ⟨hbq, .inr ⟨g2, cp2, hbg2, blk_below HQQ0.out hb, HROW0.out.below hb⟩⟩
          have HB2 : Aside0 (BlS S w w2) := ⟨HB0.out.trans (BlS.of hb)⟩
          obtain ⟨cc0, cc1, cc2⟩ := (HROW0.out.below hb).cell c HCL.out
          obtain ⟨cb0, cb1, cb2⟩ := (HROW0.out.below hb).cell b HBL.out
          have hw0 := (blk_cell (blk_below HQQ0.out hb) 0)
          refine hK.out _ _ ⟨hw0.trans rfl, cc0, cc1, cc2, cb0, cb1, cb2⟩ (fun hHeld => ?_)
          clear hK K cc0 cc1 cc2 cb0 cb1 cb2 hw0 HROW0 HQQ0 HB0 hb hHeld
          refine nw_ 86 (h := ?_)
          refine pw_ 19 87 (h := ?_)   -- guarded
          refine pw_ 20 88 (h := ?_)
          cases hlt : ltB (m[c]'HCL.out) (m[b]'HBL.out) with
          | true =>
            rw [hlt] at hr
            have HL : Aside0 (le (m[c]'HCL.out) (m[b]'HBL.out)) := ⟨le_of_not (of_decide_eq_true hlt)⟩
            clear hlt
            refine dw_ ?_
            go_wp2
            go_roundg 0
            case measure => omega
            case rel => exact ⟨2, c, by omega, rfl, .inr (.inr ⟨rfl, rfl⟩), ⟨HBEST.out.hit HCC.out HCL.out HBL.out HL.out⟩, HQ2, HB2⟩
          | false =>
            rw [hlt] at hr
            have HL : Aside0 (le (m[b]'HBL.out) (m[c]'HCL.out)) := ⟨Classical.byContradiction fun h => absurd hlt (by unfold ltB; rw [decide_eq_true h]; decide)⟩
            clear hlt
            refine dw_ ?_
            go_wp2
            go_roundg 0
            case measure => omega
            case rel => exact ⟨2, b, by omega, rfl, .inr (.inr ⟨rfl, rfl⟩), ⟨HBEST.out.miss HCC.out HCL.out HBL.out HL.out⟩, HQ2, HB2⟩
        · have hcl : ¬ c < m.length := by rw [HM.out]; exact hc
          have HCL := Aside0.mk hcl
          have HCC := Aside0.mk hcc
          have hcd : decide (c < t.length) = false := decide_eq_false hc
          have hcd2 : decide ((c : Int) < (t.length : Int)) = false := decide_eq_false (by omega)
          clear hcl hcc
          go_wp2_with fail
          refine sw_ (fun w' => True) [] trivial (fun hHeld => ?_)
          refine pw_ 0 68 (h := ?_)
          refine pw_ 1 69 (h := ?_)
          refine pw_ 2 70 (h := ?_)
          refine pw_ 3 71 (h := ?_)
          refine pg_ 4 72 (h := ?_)
          refine pg_ 5 73 (h := ?_)
          refine pg_ 6 74 (h := ?_)
          refine pg_ 7 75 (h := ?_)
          refine pg_ 8 76 (h := ?_)
          refine pg_ 9 77 (h := ?_)
          refine pg_ 10 78 (h := ?_)
          refine pg_ 11 79 (h := ?_)
          refine pg_ 12 80 (h := ?_)
          refine pg_ 13 81 (h := ?_)
          refine pg_ 14 82 (h := ?_)
          refine pg_ 15 83 (h := ?_)
          refine pg_ 16 84 (h := ?_)
          refine pg_ 17 85 (h := ?_)
          refine pg_ 18 86 (h := ?_)
          refine pg_ 19 87 (h := ?_)
          refine pw_ 20 88 (h := ?_)
          refine dw_ ?_
          go_wp2
          go_roundg 0
          case measure => omega
          case rel => exact ⟨2, b, by omega, rfl, .inr (.inr ⟨rfl, rfl⟩), ⟨HBEST.out.past HCC.out HCL.out⟩, ⟨HQ.out.below (Below.refl _ _).drew⟩, ⟨HB.out.drew⟩⟩
      · by_cases hbk : b = k
        · subst hbk
          have HEAP : Aside0 (Heap m) := ⟨Down.done HD.out (fun i hi h0 hp hk' => (HBEST.out.2 hk' hk').2 i hi (by omega) (by omega))⟩
          go_wp2
          exact bodyPost_ret (results_tmp3 rfl _ _ _) rfl ⟨rfl, m, HQ.out, HEAP.out, HP.out, HB.out⟩
        · have hb3 : 2 * k < b ∧ b ≤ 2 * k + 2 ∧ b < m.length := by
            rcases HBEST.out.1 with e | e
            · exact absurd e hbk
            · exact e
          have hbe : ((b : Int) == (k : Int)) = false := by rw [beq_eq_false_iff_ne]; omega
          have hbe2 : decide ((b : Int) = (k : Int)) = false := decide_eq_false (by omega)
          have hbl := hb3.2.2
          have hkl : k < m.length := by omega
          have HBL := Aside0.mk hbl
          have HKL := Aside0.mk hkl
          have HB3 := Aside0.mk hb3
          obtain ⟨g2, cp2, hbg2, hq2, hrow2⟩ := HQ.out.row (by omega)
          have HQQ := Aside0.mk hq2
          have HROW := Aside0.mk hrow2
          have ne := Aside0.mk (hrow2.ne hq2)
          obtain ⟨cc0, cc1, cc2⟩ := hrow2.cell k HKL.out
          obtain ⟨cb0, cb1, cb2⟩ := hrow2.cell b HBL.out
          have hw0 : wr.cell? ⟨q, 0, none⟩ = some (.slice (some ⟨g2, 0, none⟩) m.length cp2) := (blk_cell hq2 0).trans rfl
          have hki : (k : Int) < (m.length : Int) := by omega
          have hbi : (b : Int) < (m.length : Int) := by omega
          have hb0 : (0 : Int) ≤ (b : Int) := by omega
          clear hq2 hrow2 hbl hkl hb3
          go_wp2_with fail
          refine sw_ (fun w' => w'.cell? ⟨q, 0, none⟩ = some (.slice (some ⟨g2, 0, none⟩) m.length cp2) ∧ w'.cell? ⟨g2, k * 3, none⟩ = some (.int .i64 (m[k]'HKL.out).p) ∧ w'.cell? ⟨g2, k * 3 + 1, none⟩ = some (.int .i64 (m[k]'HKL.out).o) ∧ w'.cell? ⟨g2, k * 3 + 2, none⟩ = some (ev (m[k]'HKL.out).v) ∧
            w'.cell? ⟨g2, b * 3, none⟩ = some (.int .i64 (m[b]'HBL.out).p) ∧ w'.cell? ⟨g2, b * 3 + 1, none⟩ = some (.int .i64 (m[b]'HBL.out).o) ∧ w'.cell? ⟨g2, b * 3 + 2, none⟩ = some (ev (m[b]'HBL.out).v)) [25, 27] ⟨hw0, cc0, cc1, cc2, cb0, cb1, cb2⟩ (fun hHeld => ?_)
          have HROW3 : Aside0 (Row wr.drew g2 cp2 m) := ⟨HROW.out⟩
          have HQQ3 : Aside0 (wr.drew.heap[q]? = some (.cells #[.slice (some ⟨g2, 0, none⟩) m.length cp2, .int .i64 ord] 73 (0, 0))) := ⟨HQQ.out⟩
          have HB4 : Aside0 (BlS S w wr.drew) := ⟨HB.out.drew⟩
          clear HROW HQQ HB HQ cc0 cc1 cc2 cb0 cb1 cb2 hw0
          generalize wr.drew = W3 at HROW3 HQQ3 HB4 hHeld ⊢
          refine pw_ 0 96 (h := ?_)
          refine pw_ 1 97 (h := ?_)
          refine pw_ 2 98 (h := ?_)
          refine pw_ 4 100 (h := ?_)
          refine pw_ 5 101 (h := ?_)
          refine pw_ 6 102 (h := ?_)
          refine pw_ 7 103 (h := ?_)
          refine pw_ 9 105 (h := ?_)
          refine pw_ 10 106 (h := ?_)
          refine pw_ 11 107 (h := ?_)
          refine pw_ 12 108 (h := ?_)
          refine pw_ 14 110 (h := ?_)
          refine pw_ 17 113 (h := ?_)
          refine pw_ 18 114 (h := ?_)
          refine pw_ 19 115 (h := ?_)
          refine pw_ 21 117 (h := ?_)
          refine tw_ 3 99 hHeld (h := ?_)
          refine tw_ 8 104 hHeld (h := ?_)
          refine tw_ 13 109 hHeld (h := ?_)
          refine pw_ 15 111 (h := ?_)
          refine tw_ 16 112 hHeld (h := ?_)
          refine tw_ 20 116 hHeld (h := ?_)
          refine pw_ 22 118 (h := ?_)
          refine tw_ 23 119 hHeld (h := ?_)
          refine pw_ 24 120 (h := ?_)
          have hf0 : W3.frozen? ⟨g2, b * 3, none⟩ = false := HROW3.out.froz _
          have hf1 : W3.frozen? ⟨g2, b * 3 + 1, none⟩ = false := HROW3.out.froz _
          have hf2 : W3.frozen? ⟨g2, b * 3 + 2, none⟩ = false := HROW3.out.froz _
          obtain ⟨xu0, xu1, xu2⟩ := HROW3.out.cell b HBL.out
          refine lw_ 25 none (fun K hK => ?_)
          refine kw_ (h := ?_)
          refine hK.out _ _ ?_
          clear hK K
          have HROW4 := Aside0.mk (HROW3.out.put b HBL.out (m[k]'HKL.out))
          have HQQ4 := Aside0.mk (blk_far (blk_far (blk_far HQQ3.out (Ne.symm ne.out) (p := ⟨g2, b * 3, none⟩) (.int .i64 (m[k]'HKL.out).p)) (Ne.symm ne.out) (p := ⟨g2, b * 3 + 1, none⟩) (.int .i64 (m[k]'HKL.out).o)) (Ne.symm ne.out) (p := ⟨g2, b * 3 + 2, none⟩) (ev (m[k]'HKL.out).v))
          have HB5 := Aside0.mk (((HB4.out.setCell hbg2 (p := ⟨g2, b * 3, none⟩) (.int .i64 (m[k]'HKL.out).p)).setCell hbg2 (p := ⟨g2, b * 3 + 1, none⟩) (.int .i64 (m[k]'HKL.out).o)).setCell hbg2 (p := ⟨g2, b * 3 + 2, none⟩) (ev (m[k]'HKL.out).v))
          clear xu0 xu1 xu2 hf0 hf1 hf2 HROW3 HQQ3 HB4 hHeld
          generalize ((W3.setCell ⟨g2, b * 3, none⟩ (.int .i64 (m[k]'HKL.out).p)).setCell ⟨g2, b * 3 + 1, none⟩ (.int .i64 (m[k]'HKL.out).o)).setCell ⟨g2, b * 3 + 2, none⟩ (ev (m[k]'HKL.out).v) = W4 at HROW4 HQQ4 HB5 ⊢
          refine pw_ 26 121 (h := ?_)
          have hk4 : k < (m.set b (m[k]'HKL.out)).length := by rw [List.length_set]; exact HKL.out
          obtain ⟨xk0, xk1, xk2⟩ := HROW4.out.cell k hk4
          have hf0 : W4.frozen? ⟨g2, k * 3, none⟩ = false := HROW4.out.froz _
          have hf1 : W4.frozen? ⟨g2, k * 3 + 1, none⟩ = false := HROW4.out.froz _
          have hf2 : W4.frozen? ⟨g2, k * 3 + 2, none⟩ = false := HROW4.out.froz _
          refine lw_ 27 none (fun K hK => ?_)
          refine kw_ (h := ?_)
          refine hK.out _ _ ?_
          clear hK K
          refine dw_ ?_
          go_wp2
          go_roundg (t.length - b)
          case measure => have := HB3.out; have := HM.out; omega
          case rel =>
            have hset : (m.set b (m[k]'HKL.out)).set k (m[b]'HBL.out) = swp m b k HBL.out HKL.out := rfl
            have hr5 := HROW4.out.put k hk4 (m[b]'HBL.out)
            rw [hset] at hr5
            have hq5 := blk_far (blk_far (blk_far HQQ4.out (Ne.symm ne.out) (p := ⟨g2, k * 3, none⟩) (.int .i64 (m[b]'HBL.out).p)) (Ne.symm ne.out) (p := ⟨g2, k * 3 + 1, none⟩) (.int .i64 (m[b]'HBL.out).o)) (Ne.symm ne.out) (p := ⟨g2, k * 3 + 2, none⟩) (ev (m[b]'HBL.out).v)
            have hb5 := ((HB5.out.setCell hbg2 (p := ⟨g2, k * 3, none⟩) (.int .i64 (m[b]'HBL.out).p)).setCell hbg2 (p := ⟨g2, k * 3 + 1, none⟩) (.int .i64 (m[b]'HBL.out).o)).setCell hbg2 (p := ⟨g2, k * 3 + 2, none⟩) (ev (m[b]'HBL.out).v)
            have hbb := HB3.out
            have hmm := HM.out
            have hbest := HBEST.out.2 HBL.out HKL.out
            have hdn : Down (swp m b k HBL.out HKL.out) b := Down.step HD.out HKL.out HBL.out (by omega) (by omega) hbest.1 (fun i hi h0 hp => hbest.2 i hi (by omega) (by omega))
            have hlen : (swp m b k HBL.out HKL.out).length = m.length := swp_length _ _ _ _ _
            refine ⟨b, swp m b k HBL.out HKL.out, by omega, by omega, Nat.le_refl _, rfl, ⟨.inl (by omega)⟩, ⟨hdn⟩, ⟨HP.out.trans ((swp_perm _ _ _ _ _).symm.cons x)⟩, ⟨⟨hbq, .inr ⟨g2, cp2, hbg2, ?_, hr5⟩⟩⟩, ⟨hb5⟩⟩
            rw [hlen]
            exact hq5
end Go.Proofs.YthghilclgobpbaaH.I
