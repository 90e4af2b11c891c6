/- Made by a program of this session (wip/tools/myprint.py, over the kit's printer): that the Go functions answer as the Lean functions printed beside them. -/
import Derived.Test.YthghilclgobpbaaTSq2
import Derived.Test.YthghilclgobpbaaPVolumeOverlapx0
import Derived.Test.YthghilclgobpbaaPVolumeOverlapx3
namespace Go.Proofs.Ythghilclgobpbaa.PVolumeOverlap
open Go.RowKit Go.Proofs.YthghilclgobpbaaW.PrintWords Go.Proofs.YthghilclgobpbaaW.PrintLast Go.Proofs.YthghilclgobpbaaW.PrintMore
attribute [local go_sem] max2_int min2_int max_two min_two max_three min_three max_four min_four   -- for this text's walks alone
set_option linter.unusedVariables false
set_option linter.unusedSimpArgs false

/-! ### polygon_double: function 58 -/
def polygon_double.l0 : Nat → List (S41) → Int → List (S41) → Int → Int → Option (Int)
  | 0, _, _, _, _, _ => none
  | k + 1, x0, x3, x6, x7, x8 => if x8 < x7 then (if 0 ≤ x8 then (if x8 < (x6.length : Int) then (if (x0.length : Int) = 0 then (none) else (if 0 ≤ (Int.tmod (wrap64 (x8 + 1)) (x0.length : Int)) then (if (Int.tmod (wrap64 (x8 + 1)) (x0.length : Int)) < (x0.length : Int) then ((plane_Cross.f ((rd_T41 x6 x8).f0) ((rd_T41 x6 x8).f1) ((rd_T41 x0 (Int.tmod (wrap64 (x8 + 1)) (x0.length : Int))).f0) ((rd_T41 x0 (Int.tmod (wrap64 (x8 + 1)) (x0.length : Int))).f1)).bind fun t151 => (polygon_double.l0 k x0 (wrap64 (x3 + t151)) x6 x7 (wrap64 (x8 + 1)))) else (none)) else (none))) else (none)) else (none)) else (some x3)
def polygon_double.f (k : Nat) (l0 : List (S41)) : Option (Int) := polygon_double.l0 k l0 0 l0 (l0.length : Int) 0
theorem polygon_double.mono_l : ∀ k, (∀ y0 y1 y2 y3 y4, LeO (polygon_double.l0 k y0 y1 y2 y3 y4) (polygon_double.l0 (k + 1) y0 y1 y2 y3 y4))
  | 0 => fun _ _ _ _ _ r h => by simp [polygon_double.l0] at h
  | k + 1 => by
    have ih0 := polygon_double.mono_l k
    · intro y0 y1 y2 y3 y4; unfold polygon_double.l0
      repeat' first
      | (with_reducible exact ih0 _ _ _ _ _)
      | (with_reducible exact LeO.refl _)
      | (with_reducible exact LeO.none _)
      | (with_reducible refine LeO.ite ?_ ?_)
      | (with_reducible refine LeO.bind ?_ (fun _ => ?_))
      | exact ih0 _ _ _ _ _
      | exact LeO.none _
      | refine LeO.ite ?_ ?_
      | refine LeO.bind ?_ (fun _ => ?_)
theorem polygon_double.mono : ∀ a0 k, LeO (polygon_double.f k a0) (polygon_double.f (k + 1) a0) := by
  intro a0 k; have ih0 := polygon_double.mono_l k; unfold polygon_double.f
  repeat' first
      | (with_reducible exact ih0 _ _ _ _ _)
      | (with_reducible exact LeO.refl _)
      | (with_reducible exact LeO.none _)
      | (with_reducible refine LeO.ite ?_ ?_)
      | (with_reducible refine LeO.bind ?_ (fun _ => ?_))
      | exact ih0 _ _ _ _ _
      | exact LeO.none _
      | refine LeO.ite ?_ ?_
      | refine LeO.bind ?_ (fun _ => ?_)
def polygon_double.T5 : Bool × List (List Nat × List Nat) := (true, [([], []), ([], []), ([], []), ([], []), ([3], [3]), ([], []), ([5], [5]), ([4, 6], [4, 6]), ([2, 7], [2, 7]), ([8], [8]), ([1, 9], [1, 9]), ([0, 10], [0, 10]), ([11, 10, 0, 1, 2, 3, 4, 5, 6, 7, 8, 9, 10, 11], [0, 11])])
def polygon_double.B5 : List Nat := [0, 0, 0, 0, 8, 0, 32, 120, 252, 508, 1022, 2047, 4095]
theorem polygon_double.tab5 : rtab .any (opsOf Try.f58 5) = polygon_double.T5 := by kernel_rfl
theorem polygon_double.bits5 : waitsOk polygon_double.T5.2 polygon_double.B5 = true := by kernel_rfl
set_option maxHeartbeats 8000000 in
set_option maxRecDepth 100000 in
theorem polygon_double.calls (k : Nat) (A0 : Option Addr) (c0 : Nat) (l0 : List (S41)) (r : Int) (w : World) (hr0 : Kd.C k41 w A0 l0.length l0) (hc0 : l0.length ≤ c0) (h : polygon_double.f k l0 = some r) :
    Calls Try.prog 58 #[.slice A0 l0.length c0] w fun e w' => e = .returned (.int .i64 r) ∧ Below w.heap.size w w' := by
 have hu41 := Try.underlying41; have HR0 := Aside0.mk hr0; have HC0 := Aside0.mk hc0; clear hr0 hc0; have HB := Aside0.mk (Below.refl w.heap.size w); have H : (polygon_double.l0 k l0 0 l0 (l0.length : Int) 0) = some r := h; clear h; have H' := Aside0.mk H; clear H; go_enter Try.func58, Try.ntmps58; go_wp2; go_loopg [3, 8] k (fun kq v3 v8 w' => ∃ (x3_1 : Int) (x8_1 : Int), v3 = .int .i64 x3_1 ∧ v8 = .int .i64 x8_1 ∧ Aside0 (polygon_double.l0 kq l0 x3_1 l0 (l0.length : Int) x8_1 = some r) ∧ Aside0 (kq ≤ k) ∧ Aside0 (Below w.heap.size w w'))
 case atStart => exact ⟨(0), (0), (by first | rfl | (simp; done) | (simp [*]; done)), (by first | rfl | (simp; done) | (simp [*]; done)), H', ⟨Nat.le_refl _⟩, ⟨by repeat (first | (with_reducible first | exact HB.out | apply below_alloc | apply pw_below_drewN | apply below_drew1) | exact HB.out)⟩⟩
 case round =>
  clear H'; obtain ⟨x3_1, x8_1, rfl, rfl, HA, HK1, HB⟩ := hrel
  cases gk with
  | zero => exact absurd HA.out (by simp [polygon_double.l0])
  | succ k1 =>
   have H := HA.out; clear HA; simp only [polygon_double.l0] at H
   by_cases c2 : x8_1 < (l0.length : Int)
   · rw [if_pos c2] at H; have c2b0 : decide (x8_1 < (l0.length : Int)) = true := decide_eq_true c2; clear c2
     by_cases c3 : 0 ≤ x8_1
     · rw [if_pos c3] at H; have c3b0 : decide (0 ≤ x8_1) = true := decide_eq_true c3; clear c3
       by_cases c4 : x8_1 < (l0.length : Int)
       · rw [if_pos c4] at H; have c4b0 : decide (x8_1 < (l0.length : Int)) = true := decide_eq_true c4; clear c4
         by_cases c5 : (l0.length : Int) = 0
         · rw [if_pos c5] at H; exact absurd H (by simp)
         · rw [if_neg c5] at H; have c5b0 : ((l0.length : Int) == 0) = false := beq_eq_false_iff_ne.mpr c5; have c5b1 : ((l0.length : Int) != 0) = true := bne_iff_ne.mpr c5
           have c5b2 : ¬ (l0 = []) := fun h_ => c5 (by rw [h_]; rfl)
           obtain ⟨ji6, hji6⟩ : ∃ j_ : Int, (Int.tmod (wrap64 (x8_1 + 1)) (l0.length : Int)) = j_ := ⟨_, rfl⟩
           replace H : (if 0 ≤ (ji6) then (if (ji6) < (l0.length : Int) then ((plane_Cross.f ((rd_T41 l0 x8_1).f0) ((rd_T41 l0 x8_1).f1) ((rd_T41 l0 (ji6)).f0) ((rd_T41 l0 (ji6)).f1)).bind fun t151 => (polygon_double.l0 k1 l0 (wrap64 (x3_1 + t151)) l0 (l0.length : Int) (wrap64 (x8_1 + 1)))) else (none)) else (none)) = some r := by first | (rw [hji6] at H; exact H) | (simp only [hji6] at H ⊢; exact H)
           by_cases c7 : 0 ≤ (ji6)
           · rw [if_pos c7] at H; have c7b0 : decide (0 ≤ (ji6)) = true := decide_eq_true c7; clear c7
             by_cases c8 : (ji6) < (l0.length : Int)
             · rw [if_pos c8] at H; have c8b0 : decide ((ji6) < (l0.length : Int)) = true := decide_eq_true c8; clear c8; replace H := Option.bind_eq_some_iff.mp H; obtain ⟨t151, A90, H⟩ := H; replace H : (polygon_double.l0 k1 l0 (wrap64 (x3_1 + t151)) l0 (l0.length : Int) (wrap64 (x8_1 + 1))) = some r := H; have A9 := Aside0.mk A90; clear A90; have H' := Aside0.mk H; clear H
               have p148 : 0 ≤ (x8_1 : Int) := of_decide_eq_true (by first | (with_reducible assumption) | assumption)
               have q148 : x8_1 < (l0.length : Int) := of_decide_eq_true (by first | (with_reducible assumption) | assumption)
               obtain ⟨ad148, e148, hx148_0, hx148_1⟩ := at_T41 HR0.out x8_1 p148 q148; cases e148; replace hx148_0 := cl HB hx148_0; replace hx148_1 := cl HB hx148_1; replace p148 := eq_true p148; replace q148 := eq_true q148
               try go_wp2_with (first | ((with_reducible refine gate_dst (N := 5) rfl ?_); refine box_s #[.int .i64 0, .int .i64 0] 41 ?_; intro gb149 hg wx52f01 hbox hb; have n0_ := st HB hb; have n1_ := Aside0.mk (hbox); have n2_ := ge HB hg; have n3_ := ge HB hg; clear HB; have HB := n0_; have BK149 := n1_; have GW149 := n2_; have GE149 := n3_; clear n0_ n1_ n2_ n3_; clear hb hbox hg; have hczx52f01 : wx52f01.cell? ⟨gb149, 0, none⟩ = some (.int .i64 0) := bc BK149 0; have hczx52f02 : wx52f01.cell? ⟨gb149, 1, none⟩ = some (.int .i64 0) := bc BK149 1; have hfzx52f01 := blk_frozen BK149.out 0; have hfzx52f02 := blk_frozen BK149.out 1))
               have n0_ : Aside0 (((wx52f01.setCell ⟨gb149, 0, none⟩ (.int .i64 ((rd_T41 l0 x8_1).f0))).setCell ⟨gb149, 1, none⟩ (.int .i64 ((rd_T41 l0 x8_1).f1))).heap[gb149]? = some (.cells #[.int .i64 ((rd_T41 l0 x8_1).f0), .int .i64 ((rd_T41 l0 x8_1).f1)] 41 (0, 0))) := ⟨by (with_reducible repeat (first | refine blk_drewN ?_ _ | refine blk_drew ?_ | refine blk_alloc ?_ _)); refine blk_put (cs := #[.int .i64 ((rd_T41 l0 x8_1).f0), .int .i64 0]) ?_ 1 _ rfl; (with_reducible repeat (first | refine blk_drewN ?_ _ | refine blk_drew ?_ | refine blk_alloc ?_ _)); refine blk_put (cs := #[.int .i64 0, .int .i64 0]) ?_ 0 _ rfl; (with_reducible repeat (first | refine blk_drewN ?_ _ | refine blk_drew ?_ | refine blk_alloc ?_ _)); exact BK149.out⟩
               have n1_ : Aside0 (Below w.heap.size w ((wx52f01.setCell ⟨gb149, 0, none⟩ (.int .i64 ((rd_T41 l0 x8_1).f0))).setCell ⟨gb149, 1, none⟩ (.int .i64 ((rd_T41 l0 x8_1).f1)))) := ⟨by repeat (first | (with_reducible first | exact HB.out | apply below_alloc | apply pw_below_drewN | apply below_drew1 | refine below_set ?_ GE149.out) | exact HB.out)⟩
               (try clear BK149)
               (try clear HB)
               generalize ((wx52f01.setCell ⟨gb149, 0, none⟩ (.int .i64 ((rd_T41 l0 x8_1).f0))).setCell ⟨gb149, 1, none⟩ (.int .i64 ((rd_T41 l0 x8_1).f1))) = wzc1 at n0_ n1_ ⊢; have BK149 := n0_; have HB := n1_; clear n0_ n1_; have n0_ := Aside0.mk (blk_drew BK149.out); have n1_ := Aside0.mk (below_drew1 HB.out); clear BK149; clear HB; have BK149 := n0_; have HB := n1_; clear n0_ n1_
               have p150 : 0 ≤ ((ji6) : Int) := of_decide_eq_true (by first | (with_reducible assumption) | assumption)
               have q150 : (ji6) < (l0.length : Int) := of_decide_eq_true (by first | (with_reducible assumption) | assumption)
               obtain ⟨ad150, e150, hx150_0, hx150_1⟩ := at_T41 HR0.out (ji6) p150 q150; have hw150_1 := hx150_1; have hw150_0 := hx150_0; obtain rfl : ad148 = ad150 := (by injection e150); replace hx150_0 := cl HB hx150_0; replace hx150_1 := cl HB hx150_1; replace p150 := eq_true p150; replace q150 := eq_true q150; refine start_ (n := 13) (S := fun w' => w'.cell? ⟨gb149, 0, none⟩ = some (.int .i64 ((rd_T41 l0 x8_1).f0)) ∧ w'.cell? ⟨gb149, 1, none⟩ = some (.int .i64 ((rd_T41 l0 x8_1).f1)) ∧ w'.cell? (ad148.add (((ji6)).toNat * 2)) = some (.int .i64 ((rd_T41 l0 (ji6)).f0)) ∧ w'.cell? ⟨(ad148.add (((ji6)).toNat * 2)).block, (ad148.add (((ji6)).toNat * 2)).off + 1, none⟩ = some (.int .i64 ((rd_T41 l0 (ji6)).f1))) (ds := []) #[false, false, false, false, false, false, false, false, false, false, false, false, false] (by kernel_rfl) rfl rfl ⟨bc BK149 0, bc BK149 1, (cl HB hw150_0), (cl HB hw150_1)⟩ (fun hHeld => ?_); refine with_tabW polygon_double.tab5 polygon_double.bits5 (fun HT_ HW_ => ?_); generalize wzc1.drew = wzc2 at BK149 HB hx150_0 hx150_1 hHeld ⊢; refine pu_ 0 13 HT_ (h := ?_); refine pu_ 2 15 HT_ (h := ?_); refine pu_ 3 16 HT_ (h := ?_); refine pu_ 4 17 HT_ (h := ?_); refine pu_ 5 18 HT_ (h := ?_); refine pu_ 6 19 HT_ (h := ?_); refine pu_ 7 20 HT_ (h := ?_); refine pu_ 8 21 HT_ (h := ?_); refine tk_ 1 14 HT_ HW_ hHeld (h := ?_); refine tk_ 9 22 HT_ HW_ hHeld (h := ?_); refine one_ (i := 10) (N := some 23) #[true, true, true, true, true, true, true, true, true, true, true, false, false] rfl rfl (one_of HT_.out (by kernel_rfl)) (by decide) (fun K hK => ?_)
               refine goes_ Try.func87 (by kernel_rfl) rfl #[.agg #[.int .i64 ((rd_T41 l0 x8_1).f0), .int .i64 ((rd_T41 l0 x8_1).f1)], .agg #[.int .i64 ((rd_T41 l0 (ji6)).f0), .int .i64 ((rd_T41 l0 (ji6)).f1)]] (by rfl) rfl rfl (by (try simp only [List.map_toArray, List.map_cons, List.map_nil]); first | done | (simp only [hji6]; rfl) | rfl | (simp only [List.length_drop, List.length_take]; rfl)) ?_
               with_reducible refine (plane_Cross.calls ((rd_T41 l0 x8_1).f0) ((rd_T41 l0 x8_1).f1) ((rd_T41 l0 (ji6)).f0) ((rd_T41 l0 (ji6)).f1) t151 _ A9.out).mono ?_; rintro e wzc3 ⟨rfl, hb⟩; refine ⟨_, rfl, ?_⟩; have n0_ := kp BK149 hb; have n1_ := st HB hb; clear BK149; clear HB; have BK149 := n0_; have HB := n1_; clear n0_ n1_
               (try clear hb)
               (try clear hb2)
               (try clear hk)
               (try clear hi)
               refine hK.out _ _ ⟨bc BK149 0, bc BK149 1, (cl HB hw150_0), (cl HB hw150_1)⟩ (fun hHeld => ?_); clear hK K; refine norm_ (a' := ?_) ?_ ?_; rotate_left
               · show Act.put _ (some 23) _ = _; simp only [Act.put, List.setIfInBounds_toArray, List.set_cons_zero, List.set_cons_succ, i64_w, i32_w]; rfl
               refine pu_ 11 24 HT_ (h := ?_); refine pu_ 12 3 HT_ (h := ?_); refine done_ (done_of HT_.out (by kernel_rfl)) ?_
               try go_wp2
               first | go_roundg k1 | (subst hji6; go_roundg k1)
               case measure => have := HK1.out; omega
               case rel => exact ⟨(wrap64 (x3_1 + t151)), (wrap64 (x8_1 + 1)), (by first | rfl | (simp; done) | (simp [*]; done)), (by first | rfl | (simp; done) | (simp [*]; done)), H', ⟨by have := HK1.out; omega⟩, ⟨by repeat (first | (with_reducible first | exact HB.out | apply below_alloc | apply pw_below_drewN | apply below_drew1 | refine below_set ?_ GE149.out) | exact HB.out)⟩⟩
             · rw [if_neg c8] at H; exact absurd H (by simp)
           · rw [if_neg c7] at H; exact absurd H (by simp)
       · rw [if_neg c4] at H; exact absurd H (by simp)
     · rw [if_neg c3] at H; exact absurd H (by simp)
   · rw [if_neg c2] at H; have c2b0 : decide (x8_1 < (l0.length : Int)) = false := decide_eq_false c2; clear c2; obtain rfl := Option.some.inj H; go_wp2; go_ret
     exact ⟨by first | rfl | (simp [errW_none, errW_some] <;> rfl) | (simp [*, errW_none, errW_some] <;> rfl), by repeat (first | (with_reducible first | exact HB.out | apply below_alloc | apply pw_below_drewN | apply below_drew1) | exact HB.out)⟩

end Go.Proofs.Ythghilclgobpbaa.PVolumeOverlap
