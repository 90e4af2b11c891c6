/- Made by a program of this session (wip/tools/myprint.py, over the kit's printer): that the Go functions answer as the Lean functions printed beside them. -/
import Derived.Test.YthghilclgobpbaaTSq2
import Derived.Test.YthghilclgobpbaaPVolumeOverlapx0
import Derived.Test.YthghilclgobpbaaPVolumeOverlapx3
import Derived.Test.YthghilclgobpbaaPVolumeOverlapx7
import Derived.Test.YthghilclgobpbaaPVolumeOverlapx8
import Derived.Deep.AppendLies
import Derived.Test.YthghilclgobpbaaTReg
namespace Go.Proofs.Ythghilclgobpbaa.PVolumeOverlap
open Go.RowKit Go.Proofs.YthghilclgobpbaaW.PrintWords Go.Proofs.YthghilclgobpbaaW.PrintLast Go.Proofs.YthghilclgobpbaaW.PrintMore
attribute [local go_sem] max2_int min2_int max_two min_two max_three min_three max_four min_four   -- for this text's walks alone
set_option linter.unusedVariables false
set_option linter.unusedSimpArgs false

/-! ### polygon_pieceInside: function 35 -/
-- IMPORT Test.YthghilclgobpbaaReg Test.YthghilclgobpbaaSq2 Deep.AppendLies
section
open Go
/-- The points at which an edge is cut. -/
def polygon_pieceInside.cuts (a0 a1 b0 b1 : Int) : List S41 → List S41 → Option (List S41)
  | [], acc => some acc
  | v :: vs, acc => (plane_Turn.f a0 a1 b0 b1 v.f0 v.f1).bind fun t => if t = 0 then (polygon_on.f a0 a1 b0 b1 v.f0 v.f1).bind fun o => if o = true then polygon_pieceInside.cuts a0 a1 b0 b1 vs (acc ++ [v]) else polygon_pieceInside.cuts a0 a1 b0 b1 vs acc else polygon_pieceInside.cuts a0 a1 b0 b1 vs acc
/-- Whether the middle between u and one of these lies inside. -/
def polygon_pieceInside.inner (k : Nat) (tw : List S41) (u : S41) : List S41 → Option Bool
  | [] => some false
  | v :: vs => if (u.f0 == v.f0 && (u.f1 == v.f1)) = true then polygon_pieceInside.inner k tw u vs else (plane_Add.f u.f0 u.f1 v.f0 v.f1).bind fun s => (polygon_locate.f k tw s.1 s.2).bind fun n => if n > 0 then some true else polygon_pieceInside.inner k tw u vs
def polygon_pieceInside.outer (k : Nat) (tw : List S41) : List S41 → List S41 → Option Bool
  | _, [] => some false
  | pre, u :: us => (polygon_pieceInside.inner k tw u pre).bind fun r => if r = true then some true else polygon_pieceInside.outer k tw (pre ++ [u]) us
def polygon_pieceInside.f (k : Nat) (a0 a1 b0 b1 : Int) (l : List S41) : Option Bool :=
  (polygon_locate.f k l a0 a1).bind fun x => if x > 0 then some true else (polygon_locate.f k l b0 b1).bind fun y => if y > 0 then some true else
    if l.length ≤ 1000 then (polygon_pieceInside.cuts a0 a1 b0 b1 l [⟨a0, a1⟩, ⟨b0, b1⟩]).bind fun cs => (polygon_scaled.f k l 2).bind fun tw => polygon_pieceInside.outer k tw [] cs else none
theorem polygon_pieceInside.mono_inner (k : Nat) (tw : List S41) (u : S41) : ∀ l, LeO (polygon_pieceInside.inner k tw u l) (polygon_pieceInside.inner (k + 1) tw u l)
  | [] => LeO.refl _
  | v :: vs => by
    unfold polygon_pieceInside.inner; exact LeO.ite (polygon_pieceInside.mono_inner k tw u vs) (LeO.bind (LeO.refl _) fun _ => LeO.bind (polygon_locate.mono _ _ _ _) fun _ => LeO.ite (LeO.refl _) (polygon_pieceInside.mono_inner k tw u vs))
theorem polygon_pieceInside.mono_outer (k : Nat) (tw : List S41) : ∀ l pre, LeO (polygon_pieceInside.outer k tw pre l) (polygon_pieceInside.outer (k + 1) tw pre l)
  | [], _ => LeO.refl _
  | u :: us, pre => by
    unfold polygon_pieceInside.outer
    exact LeO.bind (polygon_pieceInside.mono_inner k tw u pre) fun _ => LeO.ite (LeO.refl _) (polygon_pieceInside.mono_outer k tw us _)
theorem polygon_pieceInside.mono : ∀ a0 a1 b0 b1 l k, LeO (polygon_pieceInside.f k a0 a1 b0 b1 l) (polygon_pieceInside.f (k + 1) a0 a1 b0 b1 l) := by
  intro a0 a1 b0 b1 l k; unfold polygon_pieceInside.f
  refine LeO.bind (polygon_locate.mono _ _ _ _) fun _ => LeO.ite (LeO.refl _) (LeO.bind (polygon_locate.mono _ _ _ _) fun _ => LeO.ite (LeO.refl _) (LeO.ite (LeO.bind (LeO.refl _) fun _ => LeO.bind (polygon_scaled.mono _ _ _) fun tw => ?_) (LeO.refl _)))
  have hstep : ∀ (t1 : List S41) (cs : List S41), LeO (polygon_pieceInside.outer k t1 [] cs) (polygon_pieceInside.outer (k + 1) t1 [] cs) := fun t1 cs => polygon_pieceInside.mono_outer k t1 cs []
  exact hstep _ _
/-! Rows of points that a function makes -/
def flatP (l : List S41) : List Value := l.flatMap fun x => [.int .i64 x.f0, .int .i64 x.f1]
theorem flatP_length (l : List S41) : (flatP l).length = l.length * 2 := by
  unfold flatP
  induction l with
  | nil => rfl
  | cons x l ih => rw [List.flatMap_cons, List.length_append, ih]; simp; omega
theorem flatP_append (l m : List S41) : flatP (l ++ m) = flatP l ++ flatP m := by unfold flatP; exact List.flatMap_append
theorem flatP_get (l : List S41) : ∀ i (h : i < l.length), (flatP l)[i * 2]? = some (.int .i64 l[i].f0) ∧ (flatP l)[i * 2 + 1]? = some (.int .i64 l[i].f1) := by
  unfold flatP
  induction l with
  | nil => intro i h; simp at h
  | cons y l ih =>
    intro i h; rw [List.flatMap_cons]
    cases i with
    | zero => exact ⟨rfl, rfl⟩
    | succ i =>
      obtain ⟨h1, h2⟩ := ih i (by simpa using h); refine ⟨?_, ?_⟩
      · rw [List.getElem?_append_right (by simp; omega), show (i + 1) * 2 - [Value.int .i64 y.f0, Value.int .i64 y.f1].length = i * 2 by simp; omega]; exact h1
      · rw [List.getElem?_append_right (by simp; omega), show (i + 1) * 2 + 1 - [Value.int .i64 y.f0, Value.int .i64 y.f1].length = i * 2 + 1 by simp; omega]; exact h2
/-- A row of points: a block whose first cells are theirs. -/
def PRow (w : World) (g cap : Nat) (l : List S41) : Prop :=
  ∃ cur, w.heap[g]? = some (.cells cur 41 (0, 0)) ∧ l.length ≤ cap ∧ cap ≤ maxLen ∧ cur.size = cap * 2 ∧ ∀ i (h : i < l.length), cur[i * 2]? = some (.int .i64 l[i].f0) ∧ cur[i * 2 + 1]? = some (.int .i64 l[i].f1)
theorem PRow.own {w : World} {g cap base : Nat} {l : List S41} (h : PRow w g cap l) (hb : base ≤ g) : w.ownsRow base 41 2 (.slice (some ⟨g, 0, none⟩) l.length cap) l.length (flatP l) := by
  obtain ⟨cur, h1, h2, h3, h4, h5⟩ := h; refine ⟨flatP_length l, .inr ⟨g, cap, cur, rfl, hb, h1, h2, h3, h4, ?_⟩⟩; apply List.ext_getElem?; intro t
  by_cases ht : t < l.length * 2
  · rw [List.getElem?_take_of_lt ht, Array.getElem?_toList]; obtain ⟨i, r, hi, hr, rfl⟩ : ∃ i r, i < l.length ∧ r < 2 ∧ t = i * 2 + r := ⟨t / 2, t % 2, by omega, by omega, by omega⟩; obtain ⟨a1, a2⟩ := h5 i hi; obtain ⟨b1, b2⟩ := flatP_get l i hi
    rcases r with _ | _ | r
    · exact a1.trans b1.symm
    · exact a2.trans b2.symm
    · omega
  · rw [List.getElem?_eq_none (by simp; omega), List.getElem?_eq_none (by rw [flatP_length]; omega)]
theorem PRow.of_own {w : World} {g cap base n : Nat} {l : List S41} (h : w.ownsRow base 41 2 (.slice (some ⟨g, 0, none⟩) n cap) l.length (flatP l)) (h0 : 0 < l.length) : PRow w g cap l := by
  obtain ⟨_, h | ⟨g', cap', cur, hv, _, h1, h2, h3, h4, h5⟩⟩ := h
  · omega
  · have e := hv; simp only [Value.slice.injEq, Option.some.injEq, Addr.mk.injEq] at e; obtain ⟨⟨rfl, _⟩, _, rfl⟩ := e
    have key : ∀ t, t < l.length * 2 → cur[t]? = (flatP l)[t]? := fun t ht => by rw [← h5, List.getElem?_take_of_lt ht, Array.getElem?_toList]
    refine ⟨cur, h1, h2, h3, h4, fun i hi => ?_⟩; obtain ⟨b1, b2⟩ := flatP_get l i hi; exact ⟨(key _ (by omega)).trans b1, (key _ (by omega)).trans b2⟩
theorem PRow.cell {w : World} {g cap : Nat} {l : List S41} (h : PRow w g cap l) (i : Nat) (hi : i < l.length) :
    w.cell? ⟨g, i * 2, none⟩ = some (.int .i64 l[i].f0) ∧ w.cell? ⟨g, i * 2 + 1, none⟩ = some (.int .i64 l[i].f1) := by
  obtain ⟨cur, h1, _, _, _, h5⟩ := h; obtain ⟨a1, a2⟩ := h5 i hi; rw [cell_of_row w g _ cur _ _ h1, cell_of_row w g _ cur _ _ h1]; exact ⟨a1, a2⟩
theorem PRow.below {w w' : World} {g cap : Nat} {l : List S41} (h : PRow w g cap l) (hb : Below w.heap.size w w') : PRow w' g cap l := by
  obtain ⟨cur, h1, h2⟩ := h; exact ⟨cur, (hb.block g (blk_lt h1)).trans h1, h2⟩
theorem PRow.lt {w : World} {g cap : Nat} {l : List S41} (h : PRow w g cap l) : g < w.heap.size := by
  obtain ⟨cur, h1, _⟩ := h; exact blk_lt h1
theorem PRow.heap {w w' : World} {g cap : Nat} {l : List S41} (h : PRow w g cap l) (hb : w'.heap[g]? = w.heap[g]?) : PRow w' g cap l := by
  obtain ⟨cur, h1, h2⟩ := h; exact ⟨cur, hb.trans h1, h2⟩
/-- The value of such a row, its block a letter. -/
def RowV (base : Nat) (w : World) (v : Value) (l : List S41) : Prop := ∃ g cp, v = .slice (some ⟨g, 0, none⟩) l.length cp ∧ PRow w g cp l ∧ base ≤ g
theorem RowV.below {base : Nat} {w w' : World} {v : Value} {l : List S41} (h : RowV base w v l) (hb : Below w.heap.size w w') : RowV base w' v l := by
  obtain ⟨g, cp, h1, h2, h3⟩ := h; exact ⟨g, cp, h1, h2.below hb, h3⟩
theorem RowV.own {base : Nat} {w : World} {v : Value} {l : List S41} (h : RowV base w v l) : w.ownsRow base 41 2 v l.length (flatP l) := by
  obtain ⟨g, cp, rfl, h2, h3⟩ := h; exact h2.own h3
theorem RowV.base_ {base : Nat} {w : World} {v : Value} {l : List S41} (h : RowV base w v l) (k : Nat) (hk : v.ownBlock = some k) : base ≤ k := by
  obtain ⟨g, cp, rfl, h2, h3⟩ := h
  have h_ : g = k := by simpa [Value.ownBlock] using hk
  omega
theorem RowV.ne_ {base : Nat} {w : World} {v : Value} {l : List S41} (h : RowV base w v l) (k : Nat) (hk : k < base) : some k ≠ v.ownBlock := fun e => by
  have := h.base_ k e.symm
  omega
theorem eqP (d : Nat) (w : World) (x0 y0 x1 y1 : Int) :
    (Op.equalIn (d + 2) 41 (.agg #[.int .i64 x0, .int .i64 x1]) (.agg #[.int .i64 y0, .int .i64 y1])).run Try.prog w = .ok (x0 == y0 && (x1 == y1)) w := by
  refine eqA_of Try.underlying41 (by kernel_rfl) ?_; refine eqf_cons (by rfl) (by go_simp; rfl) (by go_simp; rfl) (by go_simp) ?_; exact eqf_last (by rfl) (by go_simp; rfl) (by go_simp; rfl) (by go_simp)

theorem c2a {w : World} {g t : Nat} {x y : Value} (h : Aside0 (w.heap[g]? = some (.cells #[x, y] t (0, 0)))) : w.cell? ⟨g, 0, none⟩ = some x := bc h 0
theorem c2b {w : World} {g t : Nat} {x y : Value} (h : Aside0 (w.heap[g]? = some (.cells #[x, y] t (0, 0)))) : w.cell? ⟨g, 1, none⟩ = some y := bc h 1
theorem drop_cons {α : Type} (l : List α) (i : Nat) (h : i < l.length) : l.drop i = l[i] :: l.drop (i + 1) := List.drop_eq_getElem_cons h
theorem take_drop_cons {α : Type} (l : List α) (i j : Nat) (hi : i ≤ l.length) (h : j < i) : (l.take i).drop j = l[j] :: (l.take i).drop (j + 1) := by
  rw [List.drop_eq_getElem_cons (by rw [List.length_take]; omega), List.getElem_take]
theorem info_P : (Try.prog.info? 41).map (fun i => (i.zero, i.size, i.bytes)) = some (some (.agg #[.int .i64 0, .int .i64 0]), 2, 16) := by kernel_rfl
attribute [local go_sem high] eqP
set_option maxHeartbeats 16000000 in
set_option maxRecDepth 100000 in
theorem polygon_pieceInside.calls (k : Nat) (a0_0 a0_1 a1_0 a1_1 : Int) (A2 : Option Addr) (c2 : Nat) (l2 : List S41) (r : Bool) (w : World) (hr2 : Kd.C k41 w A2 l2.length l2) (hc2 : l2.length ≤ c2) (h : polygon_pieceInside.f k a0_0 a0_1 a1_0 a1_1 l2 = some r) :
    Calls Try.prog 35 #[.agg #[.int .i64 a0_0, .int .i64 a0_1], .agg #[.int .i64 a1_0, .int .i64 a1_1], .slice A2 l2.length c2] w fun e w' => e = .returned (.bool r) ∧ Below w.heap.size w w' := by
  have hu41 := Try.underlying41; obtain ⟨i0, hi0, hz0, hz1, hz2⟩ := info_parts info_P; unfold polygon_pieceInside.f at h; replace h := Option.bind_eq_some_iff.1 h; obtain ⟨x, hx, h⟩ := h; have HR := Aside0.mk hr2; have HC := Aside0.mk hc2; have HX := Aside0.mk hx; have HH := Aside0.mk h; clear hr2 hc2 hx h; go_enter Try.func35, Try.ntmps35
  go_upto_region 1 with (fail)
  have BK3 : Aside0 (((w.alloc (.cells #[.int .i64 a0_0, .int .i64 a0_1] 41)).alloc (.cells #[.int .i64 a1_0, .int .i64 a1_1] 41)).heap[w.heap.size]? = some (.cells #[.int .i64 a0_0, .int .i64 a0_1] 41 (0, 0))) := ⟨blk_alloc (blk_new w _) _⟩; have BK4 : Aside0 (((w.alloc (.cells #[.int .i64 a0_0, .int .i64 a0_1] 41)).alloc (.cells #[.int .i64 a1_0, .int .i64 a1_1] 41)).heap[w.heap.size + 1]? = some (.cells #[.int .i64 a1_0, .int .i64 a1_1] 41 (0, 0))) := ⟨by have h_ := blk_new (w.alloc (.cells #[.int .i64 a0_0, .int .i64 a0_1] 41)) (.cells #[.int .i64 a1_0, .int .i64 a1_1] 41); simpa using h_⟩; have HB : Aside0 (Below w.heap.size w ((w.alloc (.cells #[.int .i64 a0_0, .int .i64 a0_1] 41)).alloc (.cells #[.int .i64 a1_0, .int .i64 a1_1] 41))) := ⟨below_alloc (below_alloc (Below.refl _ _) _) _⟩; generalize (w.alloc (.cells #[.int .i64 a0_0, .int .i64 a0_1] 41)).alloc (.cells #[.int .i64 a1_0, .int .i64 a1_1] 41) = W0 at BK3 BK4 HB ⊢; have c30 := c2a BK3; have c31 := c2b BK3; have c40 := c2a BK4; have c41 := c2b BK4
  by_cases cx : x > 0
  · have h := HH.out; rw [if_pos cx] at h; obtain rfl := Option.some.inj h; clear HH h; have cxd : decide (0 < x) = true := decide_eq_true cx; clear cx; go_wp2_with (go_at_call 38; refine (polygon_locate.calls k A2 c2 l2 a0_0 a0_1 x _ (Kd.C_below HR.out HB.out) HC.out HX.out).mono ?_; rintro e w1 ⟨rfl, hb⟩; have HB1 := st HB hb; clear hb); go_ret; exact ⟨rfl, HB1.out⟩
  · have h := HH.out; rw [if_neg cx] at h; clear HH; have cxd : decide (0 < x) = false := decide_eq_false cx; clear cx; replace h := Option.bind_eq_some_iff.1 h; obtain ⟨y, hy, h⟩ := h; have HY := Aside0.mk hy; have HH := Aside0.mk h; clear hy h
    by_cases cy : y > 0
    · have h := HH.out; rw [if_pos cy] at h; obtain rfl := Option.some.inj h; clear HH h; have cyd : decide (0 < y) = true := decide_eq_true cy; clear cy
      go_wp2_with (first | (go_at_call 38; (with_reducible refine (polygon_locate.calls k A2 c2 l2 a0_0 a0_1 x _ ?hC HC.out HX.out).mono ?_); (case hC => exact Kd.C_below HR.out HB.out); rintro e w1 ⟨rfl, hb⟩; have HB1 := st HB hb; have BK31 := kp BK3 hb; have BK41 := kp BK4 hb; clear hb; have c30 := c2a BK31; have c31 := c2b BK31; have c40 := c2a BK41; have c41 := c2b BK41) | (go_at_call 38; (with_reducible refine (polygon_locate.calls k A2 c2 l2 a1_0 a1_1 y _ ?hC HC.out HY.out).mono ?_); (case hC => exact Kd.C_below HR.out HB1.out); rintro e w2 ⟨rfl, hb⟩; have HB2 := st HB1 hb; have BK32 := kp BK31 hb; have BK42 := kp BK41 hb; clear hb; have c30 := c2a BK32; have c31 := c2b BK32; have c40 := c2a BK42; have c41 := c2b BK42))
      go_ret; exact ⟨rfl, HB2.out⟩
    · have h := HH.out; rw [if_neg cy] at h; clear HH; have cyd : decide (0 < y) = false := decide_eq_false cy; clear cy
      by_cases clen : l2.length ≤ 1000
      · rw [if_pos clen] at h; replace h := Option.bind_eq_some_iff.1 h; obtain ⟨cs, hcs, h⟩ := h; replace h := Option.bind_eq_some_iff.1 h; obtain ⟨tw, htw, h⟩ := h; have HCS := Aside0.mk hcs; have HTW := Aside0.mk htw; have HH := Aside0.mk h; clear hcs htw h
        go_upto_region 3 with (first | (go_at_call 38; (with_reducible refine (polygon_locate.calls k A2 c2 l2 a0_0 a0_1 x _ ?hC HC.out HX.out).mono ?_); (case hC => exact Kd.C_below HR.out HB.out); rintro e w1 ⟨rfl, hb⟩; have HB1 := st HB hb; have BK31 := kp BK3 hb; have BK41 := kp BK4 hb; clear hb; have c30 := c2a BK31; have c31 := c2b BK31; have c40 := c2a BK41; have c41 := c2b BK41) | (go_at_call 38; (with_reducible refine (polygon_locate.calls k A2 c2 l2 a1_0 a1_1 y _ ?hC HC.out HY.out).mono ?_); (case hC => exact Kd.C_below HR.out HB1.out); rintro e w2 ⟨rfl, hb⟩; have HB2 := st HB1 hb; have BK32 := kp BK31 hb; have BK42 := kp BK41 hb; clear hb; have c30 := c2a BK32; have c31 := c2b BK32; have c40 := c2a BK42; have c41 := c2b BK42))
        have HC1 : Aside0 (polygon_pieceInside.cuts a0_0 a0_1 a1_0 a1_1 (l2.drop 0) [⟨a0_0, a0_1⟩, ⟨a1_0, a1_1⟩] = some cs) := HCS
        go_upto_region 4 with (fail)
        have HROW : Aside0 (PRow (w2.alloc (.cells #[.int .i64 a0_0, .int .i64 a0_1, .int .i64 a1_0, .int .i64 a1_1] 41)) w2.heap.size 2 [⟨a0_0, a0_1⟩, ⟨a1_0, a1_1⟩]) := ⟨⟨_, blk_new w2 _, by simp, by unfold maxLen; omega, rfl, fun i hi => by
          have h2 : i = 0 ∨ i = 1 := by simp at hi; omega
          rcases h2 with rfl | rfl
          · exact ⟨rfl, rfl⟩
          · exact ⟨rfl, rfl⟩⟩⟩
        have HB3 : Aside0 (Below w.heap.size w (w2.alloc (.cells #[.int .i64 a0_0, .int .i64 a0_1, .int .i64 a1_0, .int .i64 a1_1] 41))) := ⟨below_alloc HB2.out _⟩; have BK33 := Aside0.mk (blk_alloc BK32.out (.cells #[.int .i64 a0_0, .int .i64 a0_1, .int .i64 a1_0, .int .i64 a1_1] 41)); have BK43 := Aside0.mk (blk_alloc BK42.out (.cells #[.int .i64 a0_0, .int .i64 a0_1, .int .i64 a1_0, .int .i64 a1_1] 41)); have HGE : Aside0 (w.heap.size + 2 ≤ w2.heap.size) := ⟨by have := blk_lt BK42.out; omega⟩; generalize w2.alloc (.cells #[.int .i64 a0_0, .int .i64 a0_1, .int .i64 a1_0, .int .i64 a1_1] 41) = W3 at HROW HB3 BK33 BK43 ⊢; generalize w2.heap.size = g at HROW HGE ⊢; clear BK3 BK4 HB BK31 BK41 HB1 BK32 BK42 HB2 HCS HX HY; have HEX : Aside0 (∃ gg cc, g = gg ∧ cc = 2) := ⟨⟨_, _, rfl, rfl⟩⟩; clear HEX; go_wp2_with fail
        go_loopg [7, 30] l2.length (fun gas s7 s30 wr => ∃ (i : Nat) (acc : List S41), i ≤ l2.length ∧ l2.length - i ≤ gas ∧ s30 = .int .i64 i ∧ acc.length ≤ i + 2 ∧ 0 < acc.length ∧ Aside0 (RowV (w.heap.size + 2) wr s7 acc) ∧ Aside0 (polygon_pieceInside.cuts a0_0 a0_1 a1_0 a1_1 (l2.drop i) acc = some cs) ∧
          Aside0 (wr.heap[w.heap.size]? = some (.cells #[.int .i64 a0_0, .int .i64 a0_1] 41 (0, 0))) ∧ Aside0 (wr.heap[w.heap.size + 1]? = some (.cells #[.int .i64 a1_0, .int .i64 a1_1] 41 (0, 0))) ∧ Aside0 (Below w.heap.size w wr))
        case atStart => exact ⟨0, [⟨a0_0, a0_1⟩, ⟨a1_0, a1_1⟩], Nat.zero_le _, by omega, rfl, by simp, by simp, ⟨⟨g, 2, rfl, HROW.out, HGE.out⟩⟩, HC1, BK33, BK43, HB3⟩
        case round =>
          clear HROW HGE HC1 BK33 BK43 HB3; obtain ⟨i, acc, hi, hgas, rfl, hal, ha0, HROW, HC1, BK3, BK4, HB⟩ := hrel
          by_cases hlt : i < l2.length
          · have hlti : (i : Int) < (l2.length : Int) := by omega
            have hin0 : (0 : Int) ≤ (i : Int) := by omega
            have hd := HC1.out; rw [drop_cons l2 i hlt, polygon_pieceInside.cuts] at hd; replace hd := Option.bind_eq_some_iff.1 hd; obtain ⟨t, ht, hd⟩ := hd; have HT := Aside0.mk ht; have HD := Aside0.mk hd; clear ht hd HC1; obtain ⟨ad, rfl, x0, x1⟩ := at_T41 HR.out (i : Int) hin0 hlti
            have erd : rd_T41 l2 (i : Int) = l2[i] := by unfold rd_T41; rw [Int.toNat_natCast, List.getD_eq_getElem?_getD, List.getElem?_eq_getElem hlt]; rfl
            rw [erd, Int.toNat_natCast] at x0 x1; replace x0 := cl HB x0; replace x1 := cl HB x1; clear erd
            go_upto_region 7 with (fail)
            have BK9 : Aside0 ((wr.alloc (.cells #[.int .i64 l2[i].f0, .int .i64 l2[i].f1] 41)).heap[wr.heap.size]? = _) := ⟨blk_new wr _⟩; have NB : Aside0 (Below wr.heap.size wr (wr.alloc (.cells #[.int .i64 l2[i].f0, .int .i64 l2[i].f1] 41))) := ⟨below_alloc (Below.refl _ _) _⟩; generalize wr.alloc (.cells #[.int .i64 l2[i].f0, .int .i64 l2[i].f1] 41) = W4 at BK9 NB ⊢; have BK33 := Aside0.mk (blk_below BK3.out NB.out); have BK43 := Aside0.mk (blk_below BK4.out NB.out); have HB3 : Aside0 (Below w.heap.size w W4) := ⟨below_step HB.out NB.out⟩; have HROW3 := Aside0.mk (HROW.out.below NB.out); clear BK3 BK4 HB HROW NB x0 x1; generalize wr.heap.size = g9 at BK9 ⊢; have c30 := c2a BK33; have c31 := c2b BK33; have c40 := c2a BK43; have c41 := c2b BK43; have c90 := c2a BK9; have c91 := c2b BK9
            by_cases ct : t = 0
            · have hd := HD.out; rw [if_pos ct] at hd; replace hd := Option.bind_eq_some_iff.1 hd; obtain ⟨o, ho, hd⟩ := hd; have HO := Aside0.mk ho; have HE := Aside0.mk hd; clear hd ho HD
              have ct1 : (t == 0) = true := by rw [beq_iff_eq]; exact ct
              have ct2 : decide (t = 0) = true := decide_eq_true ct; clear ct
              cases o with
              | true =>
                go_upto_region 8 with (first | (go_at_call 56; (with_reducible refine (plane_Turn.calls a0_0 a0_1 a1_0 a1_1 l2[i].f0 l2[i].f1 t _ HT.out).mono ?_); rintro e w5 ⟨rfl, hb⟩; have HB5 := st HB3 hb; have BK35 := kp BK33 hb; have BK45 := kp BK43 hb; have BK95 := kp BK9 hb; have HROW5 := Aside0.mk (HROW3.out.below hb); clear hb; have c30 := c2a BK35; have c31 := c2b BK35; have c40 := c2a BK45; have c41 := c2b BK45; have c90 := c2a BK95; have c91 := c2b BK95) | (go_at_call 59; (with_reducible refine (polygon_on.calls a0_0 a0_1 a1_0 a1_1 l2[i].f0 l2[i].f1 _ _ HO.out).mono ?_); rintro e w6 ⟨rfl, hb⟩; have HB6 := st HB5 hb; have BK36 := kp BK35 hb; have BK46 := kp BK45 hb; have BK96 := kp BK95 hb; have HROW6 := Aside0.mk (HROW5.out.below hb); clear hb; have c90 := c2a BK96; have c91 := c2b BK96))
                have hd := HE.out; simp only [↓reduceIte] at hd; have HE2 := Aside0.mk hd; clear hd HE
                go_upto_region 9 with ((with_reducible refine gate_builtin (b := .append) (xs := #[.tmp 45, .tmp 47]) rfl ?_); at_builtin; refine wpList_append_lies _ rfl _ _ _ rfl (w.heap.size + 2) 41 i0 _ 2 16 Try.underlying35 hi0 hz0 hz1 hz2 rfl (by omega) _ acc.length (flatP acc) rfl (HROW6.out.own.alloc _) ⟨w6.heap.size, 0, none⟩ 1 1 [.int .i64 l2[i].f0, .int .i64 l2[i].f1] rfl rfl (World.news_of_block (cs := #[.int .i64 l2[i].f0, .int .i64 l2[i].f1]) (t := 41) (fr := (0, 0)) (heap_alloc_new w6 _)) (by simp [Value.oneCell']) (by omega) (by unfold maxLen; omega) (by omega) (by have := blk_lt BK46.out; simp; omega) (w6.heap.size + 1) (by simp) ?_; intro gg cap w7 hown1 hgrow hat hlt1; have HOWN := Aside0.mk hown1; have HGR := Aside0.mk hgrow; have HAT := Aside0.mk hat; clear hown1 hgrow hat hlt1)
                have e7 : (acc ++ [l2[i]]).length = acc.length + 1 := by simp
                have HROW7 : Aside0 (PRow w7 gg cap (acc ++ [l2[i]])) := ⟨by
                  refine PRow.of_own (base := w.heap.size + 2) (n := acc.length + 1) ?_ (by rw [e7]; omega); rw [e7, flatP_append]
                  exact HOWN.out⟩
                have n3 := HROW6.out.ne_ w.heap.size (by omega); have n4 := HROW6.out.ne_ (w.heap.size + 1) (by omega); have BK37 := Aside0.mk ((HGR.out.block w.heap.size (by have := blk_lt BK36.out; simp; omega) n3).trans (blk_alloc BK36.out _)); have BK47 := Aside0.mk ((HGR.out.block (w.heap.size + 1) (by have := blk_lt BK46.out; simp; omega) n4).trans (blk_alloc BK46.out _)); have HB7 : Aside0 (Below w.heap.size w w7) := ⟨(below_alloc HB6.out _).grown HGR.out (by have := blk_lt BK36.out; simp; omega) (fun k hk => Nat.le_trans (by omega) (HROW6.out.base_ k hk))⟩
                have HGE7 : w.heap.size + 2 ≤ gg := by
                  rcases HAT.out with h_ | h_
                  · exact HROW6.out.base_ gg h_
                  · have := blk_lt BK46.out
                    omega
                have HV7 : Aside0 (RowV (w.heap.size + 2) w7 (.slice (some ⟨gg, 0, none⟩) (acc.length + 1) cap) (acc ++ [l2[i]])) := ⟨⟨gg, cap, by rw [e7], HROW7.out, HGE7⟩⟩; clear n3 n4 HGE7; go_wp2; go_roundg (l2.length - (i + 1))
                case measure => omega
                case rel => exact ⟨i + 1, acc ++ [l2[i]], by omega, by omega, by go_num, by rw [e7]; omega, by rw [e7]; omega, HV7, HE2, BK37, BK47, HB7⟩
              | false =>
                go_upto_region 9 with (first | (go_at_call 56; (with_reducible refine (plane_Turn.calls a0_0 a0_1 a1_0 a1_1 l2[i].f0 l2[i].f1 t _ HT.out).mono ?_); rintro e w5 ⟨rfl, hb⟩; have HB5 := st HB3 hb; have BK35 := kp BK33 hb; have BK45 := kp BK43 hb; have BK95 := kp BK9 hb; have HROW5 := Aside0.mk (HROW3.out.below hb); clear hb; have c30 := c2a BK35; have c31 := c2b BK35; have c40 := c2a BK45; have c41 := c2b BK45; have c90 := c2a BK95; have c91 := c2b BK95) | (go_at_call 59; (with_reducible refine (polygon_on.calls a0_0 a0_1 a1_0 a1_1 l2[i].f0 l2[i].f1 _ _ HO.out).mono ?_); rintro e w6 ⟨rfl, hb⟩; have HB6 := st HB5 hb; have BK36 := kp BK35 hb; have BK46 := kp BK45 hb; have BK96 := kp BK95 hb; have HROW6 := Aside0.mk (HROW5.out.below hb); clear hb; have c90 := c2a BK96; have c91 := c2b BK96))
                have hd := HE.out; simp only [Bool.false_eq_true, ↓reduceIte] at hd; have HE2 := Aside0.mk hd; clear hd HE; go_wp2; go_roundg (l2.length - (i + 1))
                case measure => omega
                case rel => exact ⟨i + 1, acc, by omega, by omega, by go_num, by omega, ha0, HROW6, HE2, BK36, BK46, HB6⟩
            · have hd := HD.out; rw [if_neg ct] at hd; have HE := Aside0.mk hd; clear hd HD
              have ct1 : (t == 0) = false := by rw [beq_eq_false_iff_ne]; exact ct
              have ct2 : decide (t = 0) = false := decide_eq_false ct; clear ct
              go_upto_region 9 with (first | (go_at_call 56; (with_reducible refine (plane_Turn.calls a0_0 a0_1 a1_0 a1_1 l2[i].f0 l2[i].f1 t _ HT.out).mono ?_); rintro e w5 ⟨rfl, hb⟩; have HB5 := st HB3 hb; have BK35 := kp BK33 hb; have BK45 := kp BK43 hb; have BK95 := kp BK9 hb; have HROW5 := Aside0.mk (HROW3.out.below hb); clear hb; have c30 := c2a BK35; have c31 := c2b BK35; have c40 := c2a BK45; have c41 := c2b BK45; have c90 := c2a BK95; have c91 := c2b BK95) | (go_at_call 59; (with_reducible refine (polygon_on.calls a0_0 a0_1 a1_0 a1_1 l2[i].f0 l2[i].f1 _ _ HO.out).mono ?_); rintro e w6 ⟨rfl, hb⟩; have HB6 := st HB5 hb; have BK36 := kp BK35 hb; have BK46 := kp BK45 hb; have BK96 := kp BK95 hb; have HROW6 := Aside0.mk (HROW5.out.below hb); clear hb; have c90 := c2a BK96; have c91 := c2b BK96))
              go_wp2; go_roundg (l2.length - (i + 1))
              case measure => omega
              case rel => exact ⟨i + 1, acc, by omega, by omega, by go_num, by omega, ha0, HROW5, HE, BK35, BK45, HB5⟩
          · obtain rfl : i = l2.length := by omega
            have hd := HC1.out; rw [List.drop_of_length_le (Nat.le_refl _), polygon_pieceInside.cuts] at hd; obtain rfl := Option.some.inj hd; have hdd : decide (l2.length < l2.length) = false := decide_eq_false (by omega); clear hd HC1 hlt hgas hi; obtain ⟨gq, cp, rfl, hrow, hge⟩ := HROW.out; have HR7 := Aside0.mk hrow; have HGE := Aside0.mk hge; clear hrow hge HROW
            go_upto_region 12 with (go_at_call 60; (with_reducible refine (polygon_scaled.calls k A2 c2 l2 2 tw _ ?hC HC.out HTW.out).mono ?_); (case hC => exact Kd.C_below HR.out HB.out); rintro e w8 ⟨v8, rfl, hR8, hb⟩; have HB8 := st HB hb; have HROW8 := Aside0.mk (HR7.out.below hb); obtain ⟨A8, c8, rfl⟩ := Kd.R_slice hR8; have HR8 := Aside0.mk (Kd.R_reads' hR8); clear hb hR8)
            have HO0 : Aside0 (polygon_pieceInside.outer k tw (acc.take 0) (acc.drop 0) = some r) := HH; have HBR : Aside0 (Below w8.heap.size w8 w8) := ⟨Below.refl _ _⟩; clear BK3 BK4 HH HTW HR7
            have ha3 : acc.length ≤ 1002 := by omega
            go_loopg [54] acc.length (fun gas s54 wr => ∃ i : Nat, i ≤ acc.length ∧ acc.length - i ≤ gas ∧ s54 = .int .i64 i ∧ Aside0 (polygon_pieceInside.outer k tw (acc.take i) (acc.drop i) = some r) ∧ Aside0 (Below w8.heap.size w8 wr))
            case atStart => exact ⟨0, Nat.zero_le _, by omega, rfl, HO0, HBR⟩
            case round =>
              clear HO0 HBR; obtain ⟨i, hi, hgas, rfl, HO0, HBR⟩ := hrel
              by_cases hlt : i < acc.length
              · have hlti : (i : Int) < (acc.length : Int) := by omega
                have hin0 : (0 : Int) ≤ (i : Int) := by omega
                have hd := HO0.out; rw [drop_cons acc i hlt, polygon_pieceInside.outer] at hd; replace hd := Option.bind_eq_some_iff.1 hd; obtain ⟨rr, hrr, hd⟩ := hd; have HRR := Aside0.mk hrr; have HD := Aside0.mk hd; clear hrr hd HO0; obtain ⟨x0, x1⟩ := (HROW8.out.below HBR.out).cell i hlt
                have hcp : (i : Int) ≤ (cp : Int) := by
                  obtain ⟨cur, _, h2, _⟩ := HROW8.out
                  omega
                go_upto_region 14 with (fail)
                have BK12 : Aside0 ((wr.alloc (.cells #[.int .i64 acc[i].f0, .int .i64 acc[i].f1] 41)).heap[wr.heap.size]? = _) := ⟨blk_new wr _⟩; have HB12 : Aside0 (Below w8.heap.size w8 (wr.alloc (.cells #[.int .i64 acc[i].f0, .int .i64 acc[i].f1] 41))) := ⟨below_alloc HBR.out _⟩; generalize wr.alloc (.cells #[.int .i64 acc[i].f0, .int .i64 acc[i].f1] 41) = W9 at BK12 HB12 ⊢; generalize wr.heap.size = g12 at BK12 ⊢; clear x0 x1 HBR; have HI0 : Aside0 (polygon_pieceInside.inner k tw acc[i] ((acc.take i).drop 0) = some rr) := HRR
                go_upto_region 15 with (fail)
                go_loopg [63] i (fun gas s63 wr => ∃ j : Nat, j ≤ i ∧ i - j ≤ gas ∧ s63 = .int .i64 j ∧ Aside0 (polygon_pieceInside.inner k tw acc[i] ((acc.take i).drop j) = some rr) ∧ Aside0 (wr.heap[g12]? = some (.cells #[.int .i64 acc[i].f0, .int .i64 acc[i].f1] 41 (0, 0))) ∧ Aside0 (Below w8.heap.size w8 wr))
                case atStart => exact ⟨0, Nat.zero_le _, by omega, rfl, HI0, BK12, HB12⟩
                case round =>
                  clear HI0 BK12 HB12 HRR; obtain ⟨j, hj, hgas2, rfl, HI0, BK12, HB12⟩ := hrel
                  by_cases hjl : j < i
                  · have hj1 : (j : Int) < (i : Int) := by omega
                    have hj0 : (0 : Int) ≤ (j : Int) := by omega
                    have hja : j < acc.length := by omega
                    have hd := HI0.out; rw [take_drop_cons acc i j hi hjl, polygon_pieceInside.inner] at hd; have HD2 := Aside0.mk hd; clear hd HI0; obtain ⟨x0, x1⟩ := (HROW8.out.below HB12.out).cell j hja
                    go_upto_region 17 with (fail)
                    have BK14 : Aside0 ((wr.alloc (.cells #[.int .i64 acc[j].f0, .int .i64 acc[j].f1] 41)).heap[wr.heap.size]? = _) := ⟨blk_new wr _⟩; have BK13 := Aside0.mk (blk_alloc BK12.out (.cells #[.int .i64 acc[j].f0, .int .i64 acc[j].f1] 41)); have HB13 : Aside0 (Below w8.heap.size w8 (wr.alloc (.cells #[.int .i64 acc[j].f0, .int .i64 acc[j].f1] 41))) := ⟨below_alloc HB12.out _⟩; generalize wr.alloc (.cells #[.int .i64 acc[j].f0, .int .i64 acc[j].f1] 41) = W10 at BK14 BK13 HB13 ⊢; generalize wr.heap.size = g14 at BK14 ⊢; clear x0 x1 BK12 HB12; have u0 := c2a BK13; have u1 := c2b BK13; have v0 := c2a BK14; have v1 := c2b BK14
                    cases heq : (acc[i].f0 == acc[j].f0 && (acc[i].f1 == acc[j].f1)) with
                    | true =>
                      have hd := HD2.out; rw [if_pos heq] at hd; have HE := Aside0.mk hd; clear hd HD2; go_wp2; go_roundg (i - (j + 1))
                      case measure => omega
                      case rel => exact ⟨j + 1, by omega, by omega, by go_num, HE, BK13, HB13⟩
                    | false =>
                      have hd := HD2.out; rw [if_neg (by rw [heq]; decide)] at hd; replace hd := Option.bind_eq_some_iff.1 hd; obtain ⟨s, hs, hd⟩ := hd; replace hd := Option.bind_eq_some_iff.1 hd; obtain ⟨n, hn, hd⟩ := hd; have HS := Aside0.mk hs; have HN := Aside0.mk hn; have HE := Aside0.mk hd; clear hs hn hd HD2
                      by_cases cn : n > 0
                      · have hd := HE.out; rw [if_pos cn] at hd; obtain rfl := Option.some.inj hd; have hd2 := HD.out; simp only [↓reduceIte] at hd2; obtain rfl := Option.some.inj hd2; have cnd : decide (0 < n) = true := decide_eq_true cn; clear hd hd2 HE cn HD
                        go_wp2_with (first | (go_at_call 61; (with_reducible refine (plane_Add.calls acc[i].f0 acc[i].f1 acc[j].f0 acc[j].f1 s.1 s.2 _ HS.out).mono ?_); rintro e w11 ⟨rfl, hb⟩; have HB14 : Aside0 (Below w8.heap.size w8 w11) := ⟨below_step HB13.out hb⟩; have BK16 := kp BK13 hb; clear hb) | (go_at_call 38; (with_reducible refine (polygon_locate.calls k A8 c8 tw s.1 s.2 n _ ?hC HR8.out.2.1 HN.out).mono ?_); (case hC => exact Kd.C_below HR8.out.2.2 HB14.out); rintro e w12 ⟨rfl, hb⟩; have HB15 : Aside0 (Below w8.heap.size w8 w12) := ⟨below_step HB14.out hb⟩; have BK15 := kp BK16 hb; clear hb))
                        go_ret; exact ⟨rfl, HB8.out.trans (HB15.out.mono HB8.out.size)⟩
                      · have hd := HE.out; rw [if_neg cn] at hd; have HE2 := Aside0.mk hd; have cnd : decide (0 < n) = false := decide_eq_false cn; clear hd HE cn
                        go_wp2_with (first | (go_at_call 61; (with_reducible refine (plane_Add.calls acc[i].f0 acc[i].f1 acc[j].f0 acc[j].f1 s.1 s.2 _ HS.out).mono ?_); rintro e w11 ⟨rfl, hb⟩; have HB14 : Aside0 (Below w8.heap.size w8 w11) := ⟨below_step HB13.out hb⟩; have BK16 := kp BK13 hb; clear hb) | (go_at_call 38; (with_reducible refine (polygon_locate.calls k A8 c8 tw s.1 s.2 n _ ?hC HR8.out.2.1 HN.out).mono ?_); (case hC => exact Kd.C_below HR8.out.2.2 HB14.out); rintro e w12 ⟨rfl, hb⟩; have HB15 : Aside0 (Below w8.heap.size w8 w12) := ⟨below_step HB14.out hb⟩; have BK15 := kp BK16 hb; clear hb))
                        go_roundg (i - (j + 1))
                        case measure => omega
                        case rel => exact ⟨j + 1, by omega, by omega, by go_num, HE2, BK15, HB15⟩
                  · obtain rfl : j = i := by omega
                    have hd := HI0.out; rw [List.drop_of_length_le (by rw [List.length_take]; omega), polygon_pieceInside.inner] at hd; obtain rfl := Option.some.inj hd; have hd2 := HD.out; simp only [Bool.false_eq_true, ↓reduceIte] at hd2; rw [← List.take_succ_eq_append_getElem hlt] at hd2; have HO1 := Aside0.mk hd2; clear hd hd2 HD HI0; go_wp2; go_roundg (acc.length - (j + 1))
                    case measure => omega
                    case rel => exact ⟨j + 1, by omega, by omega, by go_num, HO1, HB12⟩
              · obtain rfl : i = acc.length := by omega
                have hd := HO0.out; rw [List.drop_of_length_le (Nat.le_refl _), polygon_pieceInside.outer] at hd; obtain rfl := Option.some.inj hd; clear hd HO0; go_wp2; go_ret; exact ⟨rfl, HB8.out.trans (HBR.out.mono HB8.out.size)⟩
      · rw [if_neg clen] at h; cases h
end

end Go.Proofs.Ythghilclgobpbaa.PVolumeOverlap
