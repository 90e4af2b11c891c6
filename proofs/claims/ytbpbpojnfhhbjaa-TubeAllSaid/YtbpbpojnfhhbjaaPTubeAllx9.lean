/- Made by a program of this session (wip/tools/myprint.py, over the kit's printer): that the Go functions answer as the Lean functions printed beside them. -/
import Derived.Test.YtbpbpojnfhhbjaaPTubeAllx0
import Derived.Test.YtbpbpojnfhhbjaaPTubeAllx2
import Derived.Test.YtbpbpojnfhhbjaaPTubeAllx4
import Derived.BigQuiet
import Derived.Deep.QuietTactic
import Derived.IntWalk
import Derived.LoopIn
import Derived.LoopNIn
import Derived.OwnWalkIn
import Derived.RangeFuncBound
import Derived.RangeFuncBox
import Derived.RangeFuncCalls
import Derived.RangeFuncLeaves
import Derived.RangeFuncNested
import Derived.Shelf.Abstract
import Derived.Shelf.RegionOpen
import Derived.TacticsInMore
import Derived.WalkKit
namespace Go.Proofs.Ytbpbpojnfhhbjaa.PTubeAll
open Go.RowKit Go.Proofs.YtbpbpojnfhhbjaaW.PrintWords Go.Proofs.YtbpbpojnfhhbjaaW.PrintLast Go.Proofs.YtbpbpojnfhhbjaaW.PrintMore
attribute [local go_sem] max2_int min2_int max_two min_two max_three min_three max_four min_four   -- for this text's walks alone
set_option linter.unusedVariables false
set_option linter.unusedSimpArgs false

/-! ### tube_All_1: function 85 -/
-- IMPORT RangeFuncNested RangeFuncBound RangeFuncCalls RangeFuncLeaves RangeFuncBox Shelf.Abstract Shelf.RegionOpen WalkKit OwnWalkIn TacticsInMore LoopNIn LoopIn Deep.QuietTactic BigQuiet IntWalk
section
open Go Go.Shelf
attribute [local go_sem] Oper.semAt_some
/-- A node's cells. -/
abbrev encT (x : S88) : Value := .agg #[.int .i64 x.f0.f0, .int .i64 x.f0.f1.f0, .int .i64 x.f0.f1.f1, .int .i64 x.f0.f2, .int .i64 x.f1, .int .i64 x.f2]
def mkT (r : Int × Int × Int × Int × Int × Int × Int) : S88 := ⟨⟨r.1, ⟨r.2.1, r.2.2.1⟩, r.2.2.2.1⟩, r.2.2.2.2.1, r.2.2.2.2.2.1⟩
/-- The nodes of the seconds from t to e. -/
def tube_All_1.l0 : Nat → List S88 → Int → Int → Option (List S88)
  | 0, _, _, _ => none
  | k + 1, l, e, t => if t ≤ e then (if -9223372036854775808 ≤ t ∧ t < 9223372036854775807 then (tube_at.f k l t).bind fun r => (tube_All_1.l0 k l e (t + 1)).bind fun q => some (mkT r :: q) else none) else some []
def tube_All_1.f (k : Nat) (l0 : List S88) : Option (List S88) :=
  (tube_Check.f k l0).bind fun c => if c = 0 then (if 0 < (l0.length : Int) then tube_All_1.l0 k l0 (rd_T88 l0 ((l0.length : Int) - 1)).f0.f0 (rd_T88 l0 0).f0.f0 else none) else some []
theorem grown_of_below {X Y : World} (h : Below X.heap.size X Y) : X.grownBy Y none := ⟨h.os, h.tape, h.output, h.size, fun k hk _ => h.block k hk⟩
set_option maxRecDepth 100000 in
set_option maxHeartbeats 4000000 in
theorem tube_All_1.walk (n : Nat) (hn : 1 ≤ n) (l B k : Nat) (A0 : Option Addr) (c0 : Nat) (l0 zs : List S88) (w0 : World) (hr0 : Kd.C k88 w0 A0 l0.length l0) (hc0 : l0.length ≤ c0) (h : tube_All_1.f k l0 = some zs)
    (J Jx : List S88 → World → Prop) (hJ : ∀ s X Y, J s X → Below X.heap.size X Y → J s Y)
    (hY : ∀ pre x W, x ∈ zs → J pre W → pre.length < zs.length → YieldAt Fence.wide (n - 1) Try.prog l #[encT x] W fun e W' =>
      (e = .returned (.bool true) ∧ J (pre ++ [x]) W' ∧ (Below w0.heap.size W W' ∧ W'.heap[B]? = W.heap[B]?)) ∨ (e = .returned (.bool false) ∧ Jx (pre ++ [x]) W'))
    (W : World) (hW : Below w0.heap.size w0 W) (hB : Boxed W B 82 (.slice A0 l0.length c0)) (h0 : J [] W) :
    CallsIn Fence.wide n Try.prog 85 #[.func (.yield l) #[] #[], .pointer (some ⟨B, 0, none⟩)] W fun e W' => (∃ v, e = .returned v) ∧
      ((∃ xs, xs = zs ∧ J xs W') ∨ (∃ pre, pre <+: zs ∧ Jx pre W')) := by
  unfold tube_All_1.f at h
  obtain ⟨c, hc, h⟩ := Option.bind_eq_some_iff.1 h
  have hr := Kd.C_below hr0 hW
  have hcB := hB.cell
  have hlt := hB.lt
  have hbig := hr0.2.1
  by_cases hz : c = 0
  · subst hz
    rw [if_pos rfl] at h
    by_cases hl : 0 < (l0.length : Int)
    · rw [if_pos hl] at h
      obtain ⟨ad, rfl, hx, _⟩ := at_T88 hr0 0 (by omega) hl
      obtain ⟨ad', e', hy, _⟩ := at_T88 hr0 ((l0.length : Int) - 1) (by omega) (by omega)
      obtain rfl : ad = ad' := by injection e'
      have hb1 : ((0 : Int) == 0) = true := rfl
      rw [show ((0 : Int)).toNat = 0 from rfl, show 0 * 6 = 0 from rfl, Addr.add_zero'] at hx
      obtain ⟨j, hj⟩ : ∃ j : Int, (l0.length : Int) - 1 = j := ⟨_, rfl⟩
      rw [hj] at hy h
      have hjw : IntKind.i64.wrap ((l0.length : Int) - 1) = j := by rw [hj]; exact IntWalk.i64_in _ (by omega)
      have j0 : (0 ≤ j) = True := eq_true (by omega)
      have j1 : (j < (l0.length : Int)) = True := eq_true (by omega)
      obtain ⟨e0, he0⟩ : ∃ e0 : Int, (rd_T88 l0 j).f0.f0 = e0 := ⟨_, rfl⟩
      obtain ⟨t0, ht0⟩ : ∃ t0 : Int, (rd_T88 l0 0).f0.f0 = t0 := ⟨_, rfl⟩
      rw [he0] at hy h
      rw [ht0] at hx h
      have hxl := World.block_lt_of_cell? w0 _ hx
      have hyl := World.block_lt_of_cell? w0 _ hy
      have hl0 : (0 < l0.length) = True := eq_true (by omega)
      clear hj he0 ht0 hl hbig
      refine callsIn_of_wp Try.func85 rfl trivial ?_ rfl
      simp only [Try.ntmps85, List.size_toArray, List.length_cons, List.length_nil, Nat.reduceAdd, Nat.reduceSub, Array.replicate_succ, Array.replicate_zero, List.push_toArray, List.append_toArray, List.nil_append, List.cons_append]
      gi_wp2_with (refine ⟨trivial, ?_⟩; gi_at_call 39; refine (callsIn_wide.2 (tube_Check.calls k (some ad) c0 l0 0 W hr hc0 hc)).mono ?_; rintro e w1 ⟨rfl, hb⟩; have hc1 := (hb.cell (p := ⟨B, 0, none⟩) hlt).trans hcB; have hW1 := below_step hW hb; have hx1 := (hW1.cell hxl).trans hx)
      have hBk1 : w1.heap[B]? = W.heap[B]? := hb.block B hlt
      have hJ1 := hJ [] _ _ h0 hb
      have HC0 := Aside0.mk hc0
      clear hcB hx1 hc1 hr hc hc0
      have HR := Aside0.mk hr0
      have HY := Aside0.mk hY
      have HJ := Aside0.mk hJ
      have HBX := Aside0.mk hB
      have HHY := Aside0.mk hy
      clear hr0 hY hJ hB hy hb hW h0
      gi_loopw [3] (fun tv wr => ∃ (pre rest : List S88) (t : Int) (kk : Nat), tv = .int .i64 t ∧ Aside0 (zs = pre ++ rest) ∧ Aside0 (tube_All_1.l0 kk l0 e0 t = some rest) ∧ J pre wr ∧ Below w0.heap.size w0 wr ∧ Aside0 (wr.heap[B]? = W.heap[B]?))
        (fun tv _ => (e0 + 1 - intOf tv).toNat)
      case atStart => exact ⟨[], zs, t0, k, rfl, ⟨rfl⟩, ⟨h⟩, hJ1, hW1, ⟨hBk1⟩⟩
      case round =>
        obtain ⟨pre, rest, t, kk, rfl, hz, hq, hJs, hBw, hBk⟩ := hrel
        clear h hJ1 hW1 hBk1
        cases kk with
        | zero => exact absurd hq.out (by simp [tube_All_1.l0])
        | succ kk =>
          have h := hq.out
          clear hq
          rw [tube_All_1.l0] at h
          have hyl' := hyl
          have hyw := (hBw.cell hyl).trans HHY.out
          have hBX : Boxed wr B 82 (.slice (some ad) l0.length c0) := hBk.out.trans HBX.out
          have hcw := hBX.cell
          have hltw := hBX.lt
          by_cases ht : t ≤ e0
          · rw [if_pos ht] at h
            by_cases ht2 : -9223372036854775808 ≤ t ∧ t < 9223372036854775807
            · rw [if_pos ht2] at h
              obtain ⟨⟨r1, r2, r3, r4, r5, r6, r7⟩, hat, h⟩ := Option.bind_eq_some_iff.1 h
              obtain ⟨q, hq, h⟩ := Option.bind_eq_some_iff.1 h
              obtain rfl := Option.some.inj h
              have ht' : decide (t ≤ e0) = true := decide_eq_true ht
              have hrw := Kd.C_below HR.out hBw
              have HQ := Aside0.mk hq
              have HT := Aside0.mk ht
              have HT2 := Aside0.mk ht2
              clear h hq ht ht2
              gi_wp2_with (refine ⟨trivial, ?_⟩; gi_at_call 86; refine (callsIn_wide.2 (tube_at.calls kk (some ad) c0 l0 t r1 r2 r3 r4 r5 r6 r7 wr hrw HC0.out hat)).mono ?_; rintro e w2 ⟨rfl, hb2⟩; obtain ⟨fn, tmps, assign, body, hy, hR⟩ := HY.out pre (mkT (r1, r2, r3, r4, r5, r6, r7)) (w2.alloc (.cells #[.int .i64 r1, .int .i64 r2, .int .i64 r3, .int .i64 r4, .int .i64 r5, .int .i64 r6] 88)) (by rw [hz.out]; simp) (HJ.out _ _ _ hJs (below_alloc hb2 _)) (by rw [hz.out]; simp); dsimp only [encT, mkT] at hy)
              refine hR.mono ?_
              rintro e W3 (⟨rfl, hJ3, hk3, hk4⟩ | ⟨rfl, hJx3⟩)
              · have hw3 : IntKind.i64.wrap (t + 1) = t + 1 := IntWalk.i64_in _ (by have := HT2.out; omega)
                gi_wp2
                go_roundw
                case rel => exact ⟨pre ++ [mkT (r1, r2, r3, r4, r5, r6, r7)], q, t + 1, kk, rfl, ⟨by rw [hz.out, List.append_assoc]; rfl⟩, ⟨HQ.out⟩, hJ3, (hBw.trans ((below_alloc hb2 _).mono hBw.size)).trans hk3, ⟨hk4.trans (((below_alloc hb2 _).block B hltw).trans hBk.out)⟩⟩
                case measure => have := HT.out; simp [intOf]; omega
              · gi_wp2
                refine bodyPost_ret (results_none rfl _ _ _) rfl ?_
                exact ⟨⟨_, rfl⟩, .inr ⟨_, ⟨q, by rw [hz.out, List.append_assoc]; rfl⟩, hJx3⟩⟩
            · rw [if_neg ht2] at h; cases h
          · rw [if_neg ht] at h
            obtain rfl : [] = rest := Option.some.inj h
            have ht' : decide (t ≤ e0) = false := decide_eq_false ht
            clear h ht
            gi_wp2
            go_end0
            exact ⟨⟨_, rfl⟩, .inl ⟨pre, by rw [hz.out, List.append_nil], hJs⟩⟩
    · rw [if_neg hl] at h; cases h
  · rw [if_neg hz] at h
    obtain rfl := Option.some.inj h
    have hb1 : (c == 0) = false := beq_eq_false_iff_ne.mpr hz
    have hb2 : (c != 0) = true := bne_iff_ne.mpr hz
    refine callsIn_of_wp Try.func85 rfl trivial ?_ rfl
    simp only [Try.ntmps85, List.size_toArray, List.length_cons, List.length_nil, Nat.reduceAdd, Nat.reduceSub, Array.replicate_succ, Array.replicate_zero, List.push_toArray, List.append_toArray, List.nil_append, List.cons_append]
    clear hr0 hY
    have hJ := Aside0.mk hJ
    gi_wp2_with (refine ⟨trivial, ?_⟩; gi_at_call 39; refine (callsIn_wide.2 (tube_Check.calls k A0 c0 l0 c W hr hc0 hc)).mono ?_; rintro e w1 ⟨rfl, hb⟩)
    refine bodyPost_ret (results_none rfl _ _ _) rfl ?_
    exact ⟨⟨_, rfl⟩, .inl ⟨[], rfl, hJ.out [] _ _ h0 hb⟩⟩
/-- All of the nodes come, in order; or the first ones, where the body has said 'no more'. -/
theorem tube_All_1.stops (n : Nat) (hn : 1 ≤ n) (B k : Nat) (A0 : Option Addr) (c0 : Nat) (l0 zs : List S88) (w0 : World) (hr0 : Kd.C k88 w0 A0 l0.length l0) (hc0 : l0.length ≤ c0) (h : tube_All_1.f k l0 = some zs)
    (w : World) (hw : Below w0.heap.size w0 w) (hB : Boxed w B 82 (.slice A0 l0.length c0)) :
    SeqStopsK Fence.wide n Try.prog 85 #[.pointer (some ⟨B, 0, none⟩)] (fun x : { x : S88 // x ∈ zs } => #[encT x.1]) (fun W W' => Below w0.heap.size W W' ∧ W'.heap[B]? = W.heap[B]?) (fun xs => xs.map (·.1) = zs) (fun pre => pre.map (·.1) <+: zs) zs.length w := by
  intro l J Jx W hW hJ hJx hY h0
  refine (tube_All_1.walk n hn l B k A0 c0 l0 zs w0 hr0 hc0 h (fun s W => ∃ p : List { x : S88 // x ∈ zs }, p.map (·.1) = s ∧ J p W) (fun s W => ∃ p : List { x : S88 // x ∈ zs }, p.map (·.1) = s ∧ Jx p W) ?_ ?_ W (hw.trans (hW.mono hw.size)) (blk_below hB hW) ⟨[], rfl, h0⟩).mono ?_
  · rintro s X Y ⟨p, e, hj⟩ hb
    exact ⟨p, e, hJ p X Y none (by exact hj) (grown_of_below hb) (fun r e => by cases e)⟩
  · rintro pre x W1 hx ⟨p, e, hj⟩ hlen
    obtain ⟨fn, tmps, assign, body, hy, hR⟩ := hY p ⟨x, hx⟩ W1 hj (by rw [← e, List.length_map] at hlen; exact hlen)
    refine ⟨fn, tmps, assign, body, hy, hR.mono ?_⟩
    rintro e' W' (⟨rfl, hj', hk⟩ | ⟨rfl, hjx⟩)
    · exact .inl ⟨rfl, ⟨p ++ [⟨x, hx⟩], by simp [e], hj'⟩, hk⟩
    · exact .inr ⟨rfl, ⟨p ++ [⟨x, hx⟩], by simp [e], hjx⟩⟩
  · rintro e' W' ⟨hv, (⟨xs, hxs, p, e, hj⟩ | ⟨pre, hpre, p, e, hj⟩)⟩
    · exact ⟨hv, .inl ⟨p, e.trans hxs, hj⟩⟩
    · exact ⟨hv, .inr ⟨p, by subst e; exact hpre, hj⟩⟩
theorem tube_All_1.mono_l : ∀ k l e t, LeO (tube_All_1.l0 k l e t) (tube_All_1.l0 (k + 1) l e t)
  | 0, _, _, _ => LeO.none _
  | k + 1, l, e, t => LeO.ite (LeO.ite (LeO.bind (tube_at.mono _ _ _) fun r => LeO.bind (tube_All_1.mono_l k _ _ _) fun q => LeO.refl _) (LeO.refl _)) (LeO.refl _)
theorem tube_All_1.mono (l : List S88) (k : Nat) : LeO (tube_All_1.f k l) (tube_All_1.f (k + 1) l) :=
  LeO.bind (tube_Check.mono _ _) fun c => LeO.ite (LeO.ite (tube_All_1.mono_l _ _ _ _) (LeO.refl _)) (LeO.refl _)
end

end Go.Proofs.Ytbpbpojnfhhbjaa.PTubeAll
