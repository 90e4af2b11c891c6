/- Made by a program of this session (wip/tools/myprint.py, over the kit's printer): that the Go functions answer as the Lean functions printed beside them. -/
import Derived.Test.YteaddpieonkboabPTubeCutsx0
import Derived.Test.YteaddpieonkboabPTubeCutsx2
namespace Go.Proofs.Yteaddpieonkboab.PTubeCuts
open Go.RowKit Go.Proofs.YteaddpieonkboabW.PrintWords Go.Proofs.YteaddpieonkboabW.PrintLast Go.Proofs.YteaddpieonkboabW.PrintMore
attribute [local go_sem] max2_int min2_int max_two min_two max_three min_three max_four min_four   -- for this text's walks alone
set_option linter.unusedVariables false
set_option linter.unusedSimpArgs false

/-! ### fly_Check: function 43 -/
mutual
def fly_Check.l0 : Nat → List (S28) → List (S28) → Int → Int → Option (Int)
  | 0, _, _, _, _ => none
  | k + 1, x0, x14, x15, x16 => if x16 < x15 then (if 0 ≤ x16 then (if x16 < (x14.length : Int) then (if ((rd_T28 x14 x16).f0) < 0 then (fly_Check.j1 k x0 x14 x15 x16 true ((rd_T28 x14 x16).f0) ((rd_T28 x14 x16).f1.f0) ((rd_T28 x14 x16).f1.f1) ((rd_T28 x14 x16).f2)) else (if ((rd_T28 x14 x16).f0) > 200000 then (fly_Check.j1 k x0 x14 x15 x16 true ((rd_T28 x14 x16).f0) ((rd_T28 x14 x16).f1.f0) ((rd_T28 x14 x16).f1.f1) ((rd_T28 x14 x16).f2)) else (if x16 > 0 then (if 0 ≤ (wrap64 (x16 - 1)) then (if (wrap64 (x16 - 1)) < (x0.length : Int) then (fly_Check.j1 k x0 x14 x15 x16 (decide (((rd_T28 x14 x16).f0) ≤ ((rd_T28 x0 (wrap64 (x16 - 1))).f0))) ((rd_T28 x14 x16).f0) ((rd_T28 x14 x16).f1.f0) ((rd_T28 x14 x16).f1.f1) ((rd_T28 x14 x16).f2)) else (none)) else (none)) else (fly_Check.j1 k x0 x14 x15 x16 false ((rd_T28 x14 x16).f0) ((rd_T28 x14 x16).f1.f0) ((rd_T28 x14 x16).f1.f1) ((rd_T28 x14 x16).f2))))) else (none)) else (none)) else (some 0)
def fly_Check.j1 : Nat → List (S28) → List (S28) → Int → Int → Bool → Int → Int → Int → Int → Option (Int)
  | 0, _, _, _, _, _, _, _, _, _ => none
  | k + 1, x0, x14, x15, x16, x43, x108000, x108001, x108002, x108003 => if x43 = true then (some 12) else ((plane_Check.f x108001 x108002).bind fun t109 => (if t109 = 0 then (if x108003 < 0 then (some 4) else (if x108003 > 60000 then (some 4) else (fly_Check.l0 k x0 x14 x15 (wrap64 (x16 + 1))))) else (some t109)))
end
def fly_Check.f (k : Nat) (l0 : List (S28)) : Option (Int) := if (l0.length : Int) > 64 then (some 2) else (if (l0.length : Int) = 0 then (some 3) else (fly_Check.l0 k l0 l0 (l0.length : Int) 0))
theorem fly_Check.mono_l : ∀ k, (∀ y0 y1 y2 y3, LeO (fly_Check.l0 k y0 y1 y2 y3) (fly_Check.l0 (k + 1) y0 y1 y2 y3)) ∧ (∀ y0 y1 y2 y3 y4 y5 y6 y7 y8, LeO (fly_Check.j1 k y0 y1 y2 y3 y4 y5 y6 y7 y8) (fly_Check.j1 (k + 1) y0 y1 y2 y3 y4 y5 y6 y7 y8))
  | 0 => ⟨fun _ _ _ _ r h => by simp [fly_Check.l0] at h, fun _ _ _ _ _ _ _ _ _ r h => by simp [fly_Check.j1] at h⟩
  | k + 1 => by
    obtain ⟨ih0, ih1⟩ := fly_Check.mono_l k
    refine ⟨?_, ?_⟩
    · intro y0 y1 y2 y3
      unfold fly_Check.l0
      repeat' first
      | (with_reducible exact ih0 _ _ _ _)
      | (with_reducible exact ih1 _ _ _ _ _ _ _ _ _)
      | (with_reducible exact LeO.refl _)
      | (with_reducible exact LeO.none _)
      | (with_reducible refine LeO.ite ?_ ?_)
      | (with_reducible refine LeO.bind ?_ (fun _ => ?_))
      | exact ih0 _ _ _ _
      | exact ih1 _ _ _ _ _ _ _ _ _
      | exact LeO.none _
      | refine LeO.ite ?_ ?_
      | refine LeO.bind ?_ (fun _ => ?_)
    · intro y0 y1 y2 y3 y4 y5 y6 y7 y8
      unfold fly_Check.j1
      repeat' first
      | (with_reducible exact ih0 _ _ _ _)
      | (with_reducible exact ih1 _ _ _ _ _ _ _ _ _)
      | (with_reducible exact LeO.refl _)
      | (with_reducible exact LeO.none _)
      | (with_reducible refine LeO.ite ?_ ?_)
      | (with_reducible refine LeO.bind ?_ (fun _ => ?_))
      | exact ih0 _ _ _ _
      | exact ih1 _ _ _ _ _ _ _ _ _
      | exact LeO.none _
      | refine LeO.ite ?_ ?_
      | refine LeO.bind ?_ (fun _ => ?_)
theorem fly_Check.mono : ∀ a0 k, LeO (fly_Check.f k a0) (fly_Check.f (k + 1) a0) := by
  intro a0 k
  obtain ⟨ih0, ih1⟩ := fly_Check.mono_l k
  unfold fly_Check.f
  repeat' first
      | (with_reducible exact ih0 _ _ _ _)
      | (with_reducible exact ih1 _ _ _ _ _ _ _ _ _)
      | (with_reducible exact LeO.refl _)
      | (with_reducible exact LeO.none _)
      | (with_reducible refine LeO.ite ?_ ?_)
      | (with_reducible refine LeO.bind ?_ (fun _ => ?_))
      | exact ih0 _ _ _ _
      | exact ih1 _ _ _ _ _ _ _ _ _
      | exact LeO.none _
      | refine LeO.ite ?_ ?_
      | refine LeO.bind ?_ (fun _ => ?_)
set_option maxHeartbeats 8000000 in
set_option maxRecDepth 100000 in
theorem fly_Check.calls (k : Nat) (A0 : Option Addr) (c0 : Nat) (l0 : List (S28)) (r : Int) (w : World) (hr0 : Kd.C k28 w A0 l0.length l0) (hc0 : l0.length ≤ c0) (h : fly_Check.f k l0 = some r) :
    Calls Try.prog 43 #[.slice A0 l0.length c0] w fun e w' => e = .returned (.int .i64 r) ∧ Below w.heap.size w w' := by
 have hu28 := Try.underlying28
 have hu26 := Try.underlying26
 have HR0 := Aside0.mk hr0
 have HC0 := Aside0.mk hc0
 clear hr0 hc0
 have HB := Aside0.mk (Below.refl w.heap.size w)
 have H : (if (l0.length : Int) > 64 then (some 2) else (if (l0.length : Int) = 0 then (some 3) else (fly_Check.l0 k l0 l0 (l0.length : Int) 0))) = some r := h
 clear h
 refine Or.elim (Classical.em ((l0.length : Int) > 64)) (fun c2 => ?p2_) (fun c2 => ?n2_)
 case' p2_ =>
  rw [if_pos c2] at H
  have c2b0 : decide (64 < (l0.length : Int)) = true := decide_eq_true c2
  have c2b1 : decide (64 < l0.length) = true := decide_eq_true (by omega)
  clear c2
  have hm1_0 := Aside0.mk trivial
 case' n2_ =>
  rw [if_neg c2] at H
  have c2b0 : decide (64 < (l0.length : Int)) = false := decide_eq_false c2
  have c2b1 : decide (64 < l0.length) = false := decide_eq_false (by omega)
  clear c2
  refine Or.elim (Classical.em ((l0.length : Int) = 0)) (fun c3 => ?p3_) (fun c3 => ?n3_)
  case' p3_ =>
   rw [if_pos c3] at H
   have c3b0 : ((l0.length : Int) == 0) = true := beq_iff_eq.mpr c3
   have c3b1 : ((l0.length : Int) != 0) = false := bne_eq_false_iff_eq.mpr c3
   clear c3
   have hm1_0 := Aside0.mk trivial
  case' n3_ =>
   rw [if_neg c3] at H
   have c3b0 : ((l0.length : Int) == 0) = false := beq_eq_false_iff_ne.mpr c3
   have c3b1 : ((l0.length : Int) != 0) = true := bne_iff_ne.mpr c3
   have c3b2 : ¬ (l0 = []) := fun h_ => c3 (by rw [h_]; rfl)
   have hm1_1 := Aside0.mk trivial
 all_goals
  first
   | clear hm1_0
     obtain rfl := Option.some.inj H
     go_enter Try.func43, Try.ntmps43
     go_wp2
     repeat (go_quiet (fail); try go_wp2)
     go_ret
     exact ⟨by first | rfl | (simp [errW_none, errW_some] <;> rfl) | (simp [*, errW_none, errW_some] <;> rfl), by repeat (first | (with_reducible first | exact HB.out | apply below_alloc | apply pw_below_drewN | apply below_drew1) | exact HB.out)⟩
   | clear hm1_1
     have H' := Aside0.mk H
     clear H
     go_enter Try.func43, Try.ntmps43
     go_wp2
     repeat (go_quiet (fail); try go_wp2)
     go_loopg [16] k (fun kq v16 w' => ∃ (x16_1 : Int), v16 = .int .i64 x16_1 ∧ Aside0 (fly_Check.l0 kq l0 l0 (l0.length : Int) x16_1 = some r) ∧ Aside0 (kq ≤ k) ∧ Aside0 (Below w.heap.size w w'))
     case atStart => exact ⟨(0), (by first | rfl | (simp; done) | (simp [*]; done)), H', ⟨Nat.le_refl _⟩, ⟨by repeat (first | (with_reducible first | exact HB.out | apply below_alloc | apply pw_below_drewN | apply below_drew1) | exact HB.out)⟩⟩
     case round =>
      clear H'
      (try clear c2); (try clear c2b0); (try clear c2b1); (try clear p2); (try clear c3); (try clear c3b0); (try clear c3b1); (try clear c3b2)
      obtain ⟨x16_1, rfl, HA, HK1, HB⟩ := hrel
      cases gk with
      | zero => exact absurd HA.out (by simp [fly_Check.l0])
      | succ k1 =>
       have H := HA.out
       clear HA
       simp only [fly_Check.l0] at H
       by_cases c4 : x16_1 < (l0.length : Int)
       · rw [if_pos c4] at H
         have c4b0 : decide (x16_1 < (l0.length : Int)) = true := decide_eq_true c4
         clear c4
         by_cases c5 : 0 ≤ x16_1
         · rw [if_pos c5] at H
           have c5b0 : decide (0 ≤ x16_1) = true := decide_eq_true c5
           clear c5
           by_cases c6 : x16_1 < (l0.length : Int)
           · rw [if_pos c6] at H
             have c6b0 : decide (x16_1 < (l0.length : Int)) = true := decide_eq_true c6
             clear c6
             have HC7 := Aside0.mk H
             clear H
             have p106 : 0 ≤ (x16_1 : Int) := of_decide_eq_true (by first | (with_reducible assumption) | assumption)
             have q106 : x16_1 < (l0.length : Int) := of_decide_eq_true (by first | (with_reducible assumption) | assumption)
             obtain ⟨ad106, e106, hx106_0, hx106_1, hx106_2, hx106_3⟩ := at_T28 HR0.out x16_1 p106 q106
             cases e106
             replace hx106_0 := (HB.out.cell (World.block_lt_of_cell? w _ hx106_0)).trans hx106_0
             replace hx106_1 := (HB.out.cell (World.block_lt_of_cell? w _ hx106_1)).trans hx106_1
             replace hx106_2 := (HB.out.cell (World.block_lt_of_cell? w _ hx106_2)).trans hx106_2
             replace hx106_3 := (HB.out.cell (World.block_lt_of_cell? w _ hx106_3)).trans hx106_3
             replace p106 := eq_true p106
             replace q106 := eq_true q106
             go_upto_region 8 with (first | ((with_reducible refine gate_dst (N := 4) rfl ?_); refine box_event ?hg (N := 4) ?hd (cs := #[.int .i64 0, .int .i64 0, .int .i64 0, .int .i64 0]) (t := 28) ?hr ?_; (case hd => rfl); (case hg => rfl); (case hr => first | (go_simp; done) | (go_simp; rfl)); intro gb107 hg wx37bf1 hbox hb; have n0_ := Aside0.mk (below_step (by repeat (first | (with_reducible first | exact HB.out | apply below_alloc | apply pw_below_drewN | apply below_drew1) | exact HB.out)) hb); have n1_ := Aside0.mk (hbox); have n2_ := Aside0.mk ((by rw [hg]; exact (below_size (by repeat (first | (with_reducible first | exact HB.out | apply below_alloc | apply pw_below_drewN | apply below_drew1) | exact HB.out))) : w.heap.size ≤ gb107)); have n3_ := Aside0.mk ((by rw [hg]; exact (below_size (by repeat (first | (with_reducible first | exact HB.out | apply below_alloc | apply pw_below_drewN | apply below_drew1) | exact HB.out))) : w.heap.size ≤ gb107)); clear HB; have HB := n0_; have BK107 := n1_; have GW107 := n2_; have GE107 := n3_; clear n0_ n1_ n2_ n3_; clear hb hbox hg; have hczx37bf1 : wx37bf1.cell? ⟨gb107, 0, none⟩ = some (.int .i64 0) := (blk_cell BK107.out 0).trans rfl; have hczx37bf2 : wx37bf1.cell? ⟨gb107, 1, none⟩ = some (.int .i64 0) := (blk_cell BK107.out 1).trans rfl; have hczx37bf3 : wx37bf1.cell? ⟨gb107, 2, none⟩ = some (.int .i64 0) := (blk_cell BK107.out 2).trans rfl; have hczx37bf4 : wx37bf1.cell? ⟨gb107, 3, none⟩ = some (.int .i64 0) := (blk_cell BK107.out 3).trans rfl; have hfzx37bf1 := blk_frozen BK107.out 0; have hfzx37bf2 := blk_frozen BK107.out 1; have hfzx37bf3 := blk_frozen BK107.out 2; have hfzx37bf4 := blk_frozen BK107.out 3))
             repeat (go_quiet (first | ((with_reducible refine gate_dst (N := 4) rfl ?_); refine box_event ?hg (N := 4) ?hd (cs := #[.int .i64 0, .int .i64 0, .int .i64 0, .int .i64 0]) (t := 28) ?hr ?_; (case hd => rfl); (case hg => rfl); (case hr => first | (go_simp; done) | (go_simp; rfl)); intro gb107 hg wx37bf1 hbox hb; have n0_ := Aside0.mk (below_step (by repeat (first | (with_reducible first | exact HB.out | apply below_alloc | apply pw_below_drewN | apply below_drew1) | exact HB.out)) hb); have n1_ := Aside0.mk (hbox); have n2_ := Aside0.mk ((by rw [hg]; exact (below_size (by repeat (first | (with_reducible first | exact HB.out | apply below_alloc | apply pw_below_drewN | apply below_drew1) | exact HB.out))) : w.heap.size ≤ gb107)); have n3_ := Aside0.mk ((by rw [hg]; exact (below_size (by repeat (first | (with_reducible first | exact HB.out | apply below_alloc | apply pw_below_drewN | apply below_drew1) | exact HB.out))) : w.heap.size ≤ gb107)); clear HB; have HB := n0_; have BK107 := n1_; have GW107 := n2_; have GE107 := n3_; clear n0_ n1_ n2_ n3_; clear hb hbox hg; have hczx37bf1 : wx37bf1.cell? ⟨gb107, 0, none⟩ = some (.int .i64 0) := (blk_cell BK107.out 0).trans rfl; have hczx37bf2 : wx37bf1.cell? ⟨gb107, 1, none⟩ = some (.int .i64 0) := (blk_cell BK107.out 1).trans rfl; have hczx37bf3 : wx37bf1.cell? ⟨gb107, 2, none⟩ = some (.int .i64 0) := (blk_cell BK107.out 2).trans rfl; have hczx37bf4 : wx37bf1.cell? ⟨gb107, 3, none⟩ = some (.int .i64 0) := (blk_cell BK107.out 3).trans rfl; have hfzx37bf1 := blk_frozen BK107.out 0; have hfzx37bf2 := blk_frozen BK107.out 1; have hfzx37bf3 := blk_frozen BK107.out 2; have hfzx37bf4 := blk_frozen BK107.out 3)); go_upto_region 8 with (first | ((with_reducible refine gate_dst (N := 4) rfl ?_); refine box_event ?hg (N := 4) ?hd (cs := #[.int .i64 0, .int .i64 0, .int .i64 0, .int .i64 0]) (t := 28) ?hr ?_; (case hd => rfl); (case hg => rfl); (case hr => first | (go_simp; done) | (go_simp; rfl)); intro gb107 hg wx37bf1 hbox hb; have n0_ := Aside0.mk (below_step (by repeat (first | (with_reducible first | exact HB.out | apply below_alloc | apply pw_below_drewN | apply below_drew1) | exact HB.out)) hb); have n1_ := Aside0.mk (hbox); have n2_ := Aside0.mk ((by rw [hg]; exact (below_size (by repeat (first | (with_reducible first | exact HB.out | apply below_alloc | apply pw_below_drewN | apply below_drew1) | exact HB.out))) : w.heap.size ≤ gb107)); have n3_ := Aside0.mk ((by rw [hg]; exact (below_size (by repeat (first | (with_reducible first | exact HB.out | apply below_alloc | apply pw_below_drewN | apply below_drew1) | exact HB.out))) : w.heap.size ≤ gb107)); clear HB; have HB := n0_; have BK107 := n1_; have GW107 := n2_; have GE107 := n3_; clear n0_ n1_ n2_ n3_; clear hb hbox hg; have hczx37bf1 : wx37bf1.cell? ⟨gb107, 0, none⟩ = some (.int .i64 0) := (blk_cell BK107.out 0).trans rfl; have hczx37bf2 : wx37bf1.cell? ⟨gb107, 1, none⟩ = some (.int .i64 0) := (blk_cell BK107.out 1).trans rfl; have hczx37bf3 : wx37bf1.cell? ⟨gb107, 2, none⟩ = some (.int .i64 0) := (blk_cell BK107.out 2).trans rfl; have hczx37bf4 : wx37bf1.cell? ⟨gb107, 3, none⟩ = some (.int .i64 0) := (blk_cell BK107.out 3).trans rfl; have hfzx37bf1 := blk_frozen BK107.out 0; have hfzx37bf2 := blk_frozen BK107.out 1; have hfzx37bf3 := blk_frozen BK107.out 2; have hfzx37bf4 := blk_frozen BK107.out 3)))
             (try simp only [Act.put, List.setIfInBounds_toArray, List.set_cons_zero, List.set_cons_succ])
             go_cut [43] (fun v43 wc => ∃ (kq : Nat) (x43_6 : Bool), v43 = .bool x43_6 ∧ Aside0 (fly_Check.j1 kq l0 l0 (l0.length : Int) x16_1 x43_6 ((rd_T28 l0 x16_1).f0) ((rd_T28 l0 x16_1).f1.f0) ((rd_T28 l0 x16_1).f1.f1) ((rd_T28 l0 x16_1).f2) = some r) ∧ Aside0 (kq ≤ k1) ∧ Aside0 (wc.heap[gb107]? = some (.cells #[.int .i64 ((rd_T28 l0 x16_1).f0), .int .i64 ((rd_T28 l0 x16_1).f1.f0), .int .i64 ((rd_T28 l0 x16_1).f1.f1), .int .i64 ((rd_T28 l0 x16_1).f2)] 28 (0, 0))) ∧ Aside0 (Below w.heap.size w wc))
             case first =>
              have H := HC7.out
              clear HC7
              refine Or.elim (Classical.em (((rd_T28 l0 x16_1).f0) < 0)) (fun c10 => ?p5_) (fun c10 => ?n5_)
              case' p5_ =>
               rw [if_pos c10] at H
               have c10b0 : decide (((rd_T28 l0 x16_1).f0) < 0) = true := decide_eq_true c10
               clear c10
               (first | rw [c10b0] | (simp only [i64_w, i32_w]; rw [c10b0]) | skip)
               have hm4_0 := Aside0.mk trivial
              case' n5_ =>
               rw [if_neg c10] at H
               have c10b0 : decide (((rd_T28 l0 x16_1).f0) < 0) = false := decide_eq_false c10
               clear c10
               (first | rw [c10b0] | (simp only [i64_w, i32_w]; rw [c10b0]) | skip)
               refine Or.elim (Classical.em (((rd_T28 l0 x16_1).f0) > 200000)) (fun c12 => ?p6_) (fun c12 => ?n6_)
               case' p6_ =>
                rw [if_pos c12] at H
                have c12b0 : decide (200000 < ((rd_T28 l0 x16_1).f0)) = true := decide_eq_true c12
                clear c12
                have hm4_0 := Aside0.mk trivial
               case' n6_ =>
                rw [if_neg c12] at H
                have c12b0 : decide (200000 < ((rd_T28 l0 x16_1).f0)) = false := decide_eq_false c12
                clear c12
                refine Or.elim (Classical.em (x16_1 > 0)) (fun c14 => ?p7_) (fun c14 => ?n7_)
                case' p7_ =>
                 rw [if_pos c14] at H
                 have c14b0 : decide (0 < x16_1) = true := decide_eq_true c14
                 clear c14
                 obtain ⟨ji15, hji15⟩ : ∃ j_ : Int, (wrap64 (x16_1 - 1)) = j_ := ⟨_, rfl⟩
                 replace H : (if 0 ≤ (ji15) then (if (ji15) < (l0.length : Int) then (fly_Check.j1 k1 l0 l0 (l0.length : Int) x16_1 (decide (((rd_T28 l0 x16_1).f0) ≤ ((rd_T28 l0 (ji15)).f0))) ((rd_T28 l0 x16_1).f0) ((rd_T28 l0 x16_1).f1.f0) ((rd_T28 l0 x16_1).f1.f1) ((rd_T28 l0 x16_1).f2)) else (none)) else (none)) = some r := by first | (rw [hji15] at H; exact H) | (simp only [hji15] at H ⊢; exact H)
                 have hji15w : (IntKind.i64.wrap (x16_1 - 1)) = ji15 := (i64_w _).trans hji15
                 refine Or.elim (Classical.em (0 ≤ (ji15))) (fun c16 => ?p8_) (fun c16 => ?n8_)
                 case' p8_ =>
                  rw [if_pos c16] at H
                  have c16b0 : decide (0 ≤ (ji15)) = true := decide_eq_true c16
                  clear c16
                  refine Or.elim (Classical.em ((ji15) < (l0.length : Int))) (fun c17 => ?p9_) (fun c17 => ?n9_)
                  case' p9_ =>
                   rw [if_pos c17] at H
                   have c17b0 : decide ((ji15) < (l0.length : Int)) = true := decide_eq_true c17
                   clear c17
                   have hm4_1 := Aside0.mk trivial
                  case' n9_ =>
                   rw [if_neg c17] at H
                   exact absurd H (by simp)
                 case' n8_ =>
                  rw [if_neg c16] at H
                  exact absurd H (by simp)
                case' n7_ =>
                 rw [if_neg c14] at H
                 have c14b0 : decide (0 < x16_1) = false := decide_eq_false c14
                 clear c14
                 have hm4_0 := Aside0.mk trivial
              all_goals
               have H' := Aside0.mk H
               clear H
               have hczzd1 : wx37bf1.cell? ⟨gb107, 0, none⟩ = some (.int .i64 0) := (blk_cell BK107.out 0).trans rfl
               have hczzd2 : wx37bf1.cell? ⟨gb107, 1, none⟩ = some (.int .i64 0) := (blk_cell BK107.out 1).trans rfl
               have hczzd3 : wx37bf1.cell? ⟨gb107, 2, none⟩ = some (.int .i64 0) := (blk_cell BK107.out 2).trans rfl
               have hczzd4 : wx37bf1.cell? ⟨gb107, 3, none⟩ = some (.int .i64 0) := (blk_cell BK107.out 3).trans rfl
               have hfzzd1 := blk_frozen BK107.out 0
               have hfzzd2 := blk_frozen BK107.out 1
               have hfzzd3 := blk_frozen BK107.out 2
               have hfzzd4 := blk_frozen BK107.out 3
               first
                | clear hm4_0
                  go_wp2
                  repeat (go_quiet (fail); try go_wp2)
                  go_meet
                  case rel => first | (exact ⟨_, (true), (by first | rfl | (simp; done) | (simp [*]; done)), H', ⟨by have := HK1.out; first | omega | exact Nat.le_refl _⟩, ⟨by (with_reducible repeat (first | refine blk_drewN ?_ _ | refine blk_drew ?_ | refine blk_alloc ?_ _)); refine blk_put (cs := #[.int .i64 ((rd_T28 l0 x16_1).f0), .int .i64 ((rd_T28 l0 x16_1).f1.f0), .int .i64 ((rd_T28 l0 x16_1).f1.f1), .int .i64 0]) ?_ 3 _ rfl; (with_reducible repeat (first | refine blk_drewN ?_ _ | refine blk_drew ?_ | refine blk_alloc ?_ _)); refine blk_put (cs := #[.int .i64 ((rd_T28 l0 x16_1).f0), .int .i64 ((rd_T28 l0 x16_1).f1.f0), .int .i64 0, .int .i64 0]) ?_ 2 _ rfl; (with_reducible repeat (first | refine blk_drewN ?_ _ | refine blk_drew ?_ | refine blk_alloc ?_ _)); refine blk_put (cs := #[.int .i64 ((rd_T28 l0 x16_1).f0), .int .i64 0, .int .i64 0, .int .i64 0]) ?_ 1 _ rfl; (with_reducible repeat (first | refine blk_drewN ?_ _ | refine blk_drew ?_ | refine blk_alloc ?_ _)); refine blk_put (cs := #[.int .i64 0, .int .i64 0, .int .i64 0, .int .i64 0]) ?_ 0 _ rfl; (with_reducible repeat (first | refine blk_drewN ?_ _ | refine blk_drew ?_ | refine blk_alloc ?_ _)); exact BK107.out⟩, ⟨by repeat (first | (with_reducible first | exact HB.out | apply below_alloc | apply pw_below_drewN | apply below_drew1 | refine below_set ?_ GE107.out) | exact HB.out)⟩⟩) | (exact ⟨_, (false), (by first | rfl | (simp; done) | (simp [*]; done)), H', ⟨by have := HK1.out; first | omega | exact Nat.le_refl _⟩, ⟨by (with_reducible repeat (first | refine blk_drewN ?_ _ | refine blk_drew ?_ | refine blk_alloc ?_ _)); refine blk_put (cs := #[.int .i64 ((rd_T28 l0 x16_1).f0), .int .i64 ((rd_T28 l0 x16_1).f1.f0), .int .i64 ((rd_T28 l0 x16_1).f1.f1), .int .i64 0]) ?_ 3 _ rfl; (with_reducible repeat (first | refine blk_drewN ?_ _ | refine blk_drew ?_ | refine blk_alloc ?_ _)); refine blk_put (cs := #[.int .i64 ((rd_T28 l0 x16_1).f0), .int .i64 ((rd_T28 l0 x16_1).f1.f0), .int .i64 0, .int .i64 0]) ?_ 2 _ rfl; (with_reducible repeat (first | refine blk_drewN ?_ _ | refine blk_drew ?_ | refine blk_alloc ?_ _)); refine blk_put (cs := #[.int .i64 ((rd_T28 l0 x16_1).f0), .int .i64 0, .int .i64 0, .int .i64 0]) ?_ 1 _ rfl; (with_reducible repeat (first | refine blk_drewN ?_ _ | refine blk_drew ?_ | refine blk_alloc ?_ _)); refine blk_put (cs := #[.int .i64 0, .int .i64 0, .int .i64 0, .int .i64 0]) ?_ 0 _ rfl; (with_reducible repeat (first | refine blk_drewN ?_ _ | refine blk_drew ?_ | refine blk_alloc ?_ _)); exact BK107.out⟩, ⟨by repeat (first | (with_reducible first | exact HB.out | apply below_alloc | apply pw_below_drewN | apply below_drew1 | refine below_set ?_ GE107.out) | exact HB.out)⟩⟩)
                | clear hm4_1
                  have p108 : 0 ≤ ((ji15) : Int) := of_decide_eq_true (by first | (with_reducible assumption) | assumption)
                  have q108 : (ji15) < (l0.length : Int) := of_decide_eq_true (by first | (with_reducible assumption) | assumption)
                  obtain ⟨ad108, e108, hx108_0, hx108_1, hx108_2, hx108_3⟩ := at_T28 HR0.out (ji15) p108 q108
                  obtain rfl : ad106 = ad108 := (by injection e108)
                  have hn108_0 : ad106.block ≠ gb107 := Nat.ne_of_lt (Nat.lt_of_lt_of_le (by have := World.block_lt_of_cell? _ _ hx108_0; first | rwa [add_block] at this | exact this) GW107.out)
                  have hn108_1 : ad106.block ≠ gb107 := Nat.ne_of_lt (Nat.lt_of_lt_of_le (by have := World.block_lt_of_cell? _ _ hx108_0; first | rwa [add_block] at this | exact this) GW107.out)
                  have hn108_2 : ad106.block ≠ gb107 := Nat.ne_of_lt (Nat.lt_of_lt_of_le (by have := World.block_lt_of_cell? _ _ hx108_0; first | rwa [add_block] at this | exact this) GW107.out)
                  have hn108_3 : ad106.block ≠ gb107 := Nat.ne_of_lt (Nat.lt_of_lt_of_le (by have := World.block_lt_of_cell? _ _ hx108_0; first | rwa [add_block] at this | exact this) GW107.out)
                  replace hx108_0 := (HB.out.cell (World.block_lt_of_cell? w _ hx108_0)).trans hx108_0
                  replace hx108_1 := (HB.out.cell (World.block_lt_of_cell? w _ hx108_1)).trans hx108_1
                  replace hx108_2 := (HB.out.cell (World.block_lt_of_cell? w _ hx108_2)).trans hx108_2
                  replace hx108_3 := (HB.out.cell (World.block_lt_of_cell? w _ hx108_3)).trans hx108_3
                  (try have hb108_0 := fun (n_ : Nat) => (show (wx37bf1.drewN n_).cell? _ = some _ from hx108_0))
                  replace hx108_0 := (cell_far (p := ⟨gb107, 0, none⟩) (by first | (rw [add_block]; exact hn108_0) | (show (Addr.add _ _).block ≠ _; rw [add_block]; exact hn108_0) | exact hn108_0) (.int .i64 ((rd_T28 l0 x16_1).f0))).trans hx108_0
                  (try replace hb108_0 := fun (n_ : Nat) => ((cell_far (p := ⟨gb107, 0, none⟩) (by first | (rw [add_block]; exact hn108_0) | (show (Addr.add _ _).block ≠ _; rw [add_block]; exact hn108_0) | exact hn108_0) (.int .i64 ((rd_T28 l0 x16_1).f0)))).trans (hb108_0 n_))
                  (try have hb108_1 := fun (n_ : Nat) => (show (wx37bf1.drewN n_).cell? _ = some _ from hx108_1))
                  replace hx108_1 := (cell_far (p := ⟨gb107, 0, none⟩) (by first | (rw [add_block]; exact hn108_0) | (show (Addr.add _ _).block ≠ _; rw [add_block]; exact hn108_0) | exact hn108_0) (.int .i64 ((rd_T28 l0 x16_1).f0))).trans hx108_1
                  (try replace hb108_1 := fun (n_ : Nat) => ((cell_far (p := ⟨gb107, 0, none⟩) (by first | (rw [add_block]; exact hn108_0) | (show (Addr.add _ _).block ≠ _; rw [add_block]; exact hn108_0) | exact hn108_0) (.int .i64 ((rd_T28 l0 x16_1).f0)))).trans (hb108_1 n_))
                  (try have hb108_2 := fun (n_ : Nat) => (show (wx37bf1.drewN n_).cell? _ = some _ from hx108_2))
                  replace hx108_2 := (cell_far (p := ⟨gb107, 0, none⟩) (by first | (rw [add_block]; exact hn108_0) | (show (Addr.add _ _).block ≠ _; rw [add_block]; exact hn108_0) | exact hn108_0) (.int .i64 ((rd_T28 l0 x16_1).f0))).trans hx108_2
                  (try replace hb108_2 := fun (n_ : Nat) => ((cell_far (p := ⟨gb107, 0, none⟩) (by first | (rw [add_block]; exact hn108_0) | (show (Addr.add _ _).block ≠ _; rw [add_block]; exact hn108_0) | exact hn108_0) (.int .i64 ((rd_T28 l0 x16_1).f0)))).trans (hb108_2 n_))
                  (try have hb108_3 := fun (n_ : Nat) => (show (wx37bf1.drewN n_).cell? _ = some _ from hx108_3))
                  replace hx108_3 := (cell_far (p := ⟨gb107, 0, none⟩) (by first | (rw [add_block]; exact hn108_0) | (show (Addr.add _ _).block ≠ _; rw [add_block]; exact hn108_0) | exact hn108_0) (.int .i64 ((rd_T28 l0 x16_1).f0))).trans hx108_3
                  (try replace hb108_3 := fun (n_ : Nat) => ((cell_far (p := ⟨gb107, 0, none⟩) (by first | (rw [add_block]; exact hn108_0) | (show (Addr.add _ _).block ≠ _; rw [add_block]; exact hn108_0) | exact hn108_0) (.int .i64 ((rd_T28 l0 x16_1).f0)))).trans (hb108_3 n_))
                  replace hx108_0 := (cell_far (p := ⟨gb107, 1, none⟩) (by first | (rw [add_block]; exact hn108_1) | (show (Addr.add _ _).block ≠ _; rw [add_block]; exact hn108_1) | exact hn108_1) (.int .i64 ((rd_T28 l0 x16_1).f1.f0))).trans hx108_0
                  (try replace hb108_0 := fun (n_ : Nat) => ((cell_far (p := ⟨gb107, 1, none⟩) (by first | (rw [add_block]; exact hn108_1) | (show (Addr.add _ _).block ≠ _; rw [add_block]; exact hn108_1) | exact hn108_1) (.int .i64 ((rd_T28 l0 x16_1).f1.f0)))).trans (hb108_0 n_))
                  replace hx108_1 := (cell_far (p := ⟨gb107, 1, none⟩) (by first | (rw [add_block]; exact hn108_1) | (show (Addr.add _ _).block ≠ _; rw [add_block]; exact hn108_1) | exact hn108_1) (.int .i64 ((rd_T28 l0 x16_1).f1.f0))).trans hx108_1
                  (try replace hb108_1 := fun (n_ : Nat) => ((cell_far (p := ⟨gb107, 1, none⟩) (by first | (rw [add_block]; exact hn108_1) | (show (Addr.add _ _).block ≠ _; rw [add_block]; exact hn108_1) | exact hn108_1) (.int .i64 ((rd_T28 l0 x16_1).f1.f0)))).trans (hb108_1 n_))
                  replace hx108_2 := (cell_far (p := ⟨gb107, 1, none⟩) (by first | (rw [add_block]; exact hn108_1) | (show (Addr.add _ _).block ≠ _; rw [add_block]; exact hn108_1) | exact hn108_1) (.int .i64 ((rd_T28 l0 x16_1).f1.f0))).trans hx108_2
                  (try replace hb108_2 := fun (n_ : Nat) => ((cell_far (p := ⟨gb107, 1, none⟩) (by first | (rw [add_block]; exact hn108_1) | (show (Addr.add _ _).block ≠ _; rw [add_block]; exact hn108_1) | exact hn108_1) (.int .i64 ((rd_T28 l0 x16_1).f1.f0)))).trans (hb108_2 n_))
                  replace hx108_3 := (cell_far (p := ⟨gb107, 1, none⟩) (by first | (rw [add_block]; exact hn108_1) | (show (Addr.add _ _).block ≠ _; rw [add_block]; exact hn108_1) | exact hn108_1) (.int .i64 ((rd_T28 l0 x16_1).f1.f0))).trans hx108_3
                  (try replace hb108_3 := fun (n_ : Nat) => ((cell_far (p := ⟨gb107, 1, none⟩) (by first | (rw [add_block]; exact hn108_1) | (show (Addr.add _ _).block ≠ _; rw [add_block]; exact hn108_1) | exact hn108_1) (.int .i64 ((rd_T28 l0 x16_1).f1.f0)))).trans (hb108_3 n_))
                  replace hx108_0 := (cell_far (p := ⟨gb107, 2, none⟩) (by first | (rw [add_block]; exact hn108_2) | (show (Addr.add _ _).block ≠ _; rw [add_block]; exact hn108_2) | exact hn108_2) (.int .i64 ((rd_T28 l0 x16_1).f1.f1))).trans hx108_0
                  (try replace hb108_0 := fun (n_ : Nat) => ((cell_far (p := ⟨gb107, 2, none⟩) (by first | (rw [add_block]; exact hn108_2) | (show (Addr.add _ _).block ≠ _; rw [add_block]; exact hn108_2) | exact hn108_2) (.int .i64 ((rd_T28 l0 x16_1).f1.f1)))).trans (hb108_0 n_))
                  replace hx108_1 := (cell_far (p := ⟨gb107, 2, none⟩) (by first | (rw [add_block]; exact hn108_2) | (show (Addr.add _ _).block ≠ _; rw [add_block]; exact hn108_2) | exact hn108_2) (.int .i64 ((rd_T28 l0 x16_1).f1.f1))).trans hx108_1
                  (try replace hb108_1 := fun (n_ : Nat) => ((cell_far (p := ⟨gb107, 2, none⟩) (by first | (rw [add_block]; exact hn108_2) | (show (Addr.add _ _).block ≠ _; rw [add_block]; exact hn108_2) | exact hn108_2) (.int .i64 ((rd_T28 l0 x16_1).f1.f1)))).trans (hb108_1 n_))
                  replace hx108_2 := (cell_far (p := ⟨gb107, 2, none⟩) (by first | (rw [add_block]; exact hn108_2) | (show (Addr.add _ _).block ≠ _; rw [add_block]; exact hn108_2) | exact hn108_2) (.int .i64 ((rd_T28 l0 x16_1).f1.f1))).trans hx108_2
                  (try replace hb108_2 := fun (n_ : Nat) => ((cell_far (p := ⟨gb107, 2, none⟩) (by first | (rw [add_block]; exact hn108_2) | (show (Addr.add _ _).block ≠ _; rw [add_block]; exact hn108_2) | exact hn108_2) (.int .i64 ((rd_T28 l0 x16_1).f1.f1)))).trans (hb108_2 n_))
                  replace hx108_3 := (cell_far (p := ⟨gb107, 2, none⟩) (by first | (rw [add_block]; exact hn108_2) | (show (Addr.add _ _).block ≠ _; rw [add_block]; exact hn108_2) | exact hn108_2) (.int .i64 ((rd_T28 l0 x16_1).f1.f1))).trans hx108_3
                  (try replace hb108_3 := fun (n_ : Nat) => ((cell_far (p := ⟨gb107, 2, none⟩) (by first | (rw [add_block]; exact hn108_2) | (show (Addr.add _ _).block ≠ _; rw [add_block]; exact hn108_2) | exact hn108_2) (.int .i64 ((rd_T28 l0 x16_1).f1.f1)))).trans (hb108_3 n_))
                  replace hx108_0 := (cell_far (p := ⟨gb107, 3, none⟩) (by first | (rw [add_block]; exact hn108_3) | (show (Addr.add _ _).block ≠ _; rw [add_block]; exact hn108_3) | exact hn108_3) (.int .i64 ((rd_T28 l0 x16_1).f2))).trans hx108_0
                  (try replace hb108_0 := fun (n_ : Nat) => ((cell_far (p := ⟨gb107, 3, none⟩) (by first | (rw [add_block]; exact hn108_3) | (show (Addr.add _ _).block ≠ _; rw [add_block]; exact hn108_3) | exact hn108_3) (.int .i64 ((rd_T28 l0 x16_1).f2)))).trans (hb108_0 n_))
                  replace hx108_1 := (cell_far (p := ⟨gb107, 3, none⟩) (by first | (rw [add_block]; exact hn108_3) | (show (Addr.add _ _).block ≠ _; rw [add_block]; exact hn108_3) | exact hn108_3) (.int .i64 ((rd_T28 l0 x16_1).f2))).trans hx108_1
                  (try replace hb108_1 := fun (n_ : Nat) => ((cell_far (p := ⟨gb107, 3, none⟩) (by first | (rw [add_block]; exact hn108_3) | (show (Addr.add _ _).block ≠ _; rw [add_block]; exact hn108_3) | exact hn108_3) (.int .i64 ((rd_T28 l0 x16_1).f2)))).trans (hb108_1 n_))
                  replace hx108_2 := (cell_far (p := ⟨gb107, 3, none⟩) (by first | (rw [add_block]; exact hn108_3) | (show (Addr.add _ _).block ≠ _; rw [add_block]; exact hn108_3) | exact hn108_3) (.int .i64 ((rd_T28 l0 x16_1).f2))).trans hx108_2
                  (try replace hb108_2 := fun (n_ : Nat) => ((cell_far (p := ⟨gb107, 3, none⟩) (by first | (rw [add_block]; exact hn108_3) | (show (Addr.add _ _).block ≠ _; rw [add_block]; exact hn108_3) | exact hn108_3) (.int .i64 ((rd_T28 l0 x16_1).f2)))).trans (hb108_2 n_))
                  replace hx108_3 := (cell_far (p := ⟨gb107, 3, none⟩) (by first | (rw [add_block]; exact hn108_3) | (show (Addr.add _ _).block ≠ _; rw [add_block]; exact hn108_3) | exact hn108_3) (.int .i64 ((rd_T28 l0 x16_1).f2))).trans hx108_3
                  (try replace hb108_3 := fun (n_ : Nat) => ((cell_far (p := ⟨gb107, 3, none⟩) (by first | (rw [add_block]; exact hn108_3) | (show (Addr.add _ _).block ≠ _; rw [add_block]; exact hn108_3) | exact hn108_3) (.int .i64 ((rd_T28 l0 x16_1).f2)))).trans (hb108_3 n_))
                  (try have hy108_0 := hb108_0)
                  (try clear hb108_0)
                  (try have hy108_1 := hb108_1)
                  (try clear hb108_1)
                  (try have hy108_2 := hb108_2)
                  (try clear hb108_2)
                  (try have hy108_3 := hb108_3)
                  (try clear hb108_3)
                  clear hn108_0
                  clear hn108_1
                  clear hn108_2
                  clear hn108_3
                  replace p108 := eq_true p108
                  replace q108 := eq_true q108
                  go_wp2
                  repeat (go_quiet (fail); try go_wp2)
                  go_meet
                  case rel => exact ⟨_, (decide (((rd_T28 l0 x16_1).f0) ≤ ((rd_T28 l0 (ji15)).f0))), (by first | rfl | (simp; done) | (simp only [← hji15] <;> (first | rfl | simp)) | (simp [*]; done)), H', ⟨by have := HK1.out; first | omega | exact Nat.le_refl _⟩, ⟨by (with_reducible repeat (first | refine blk_drewN ?_ _ | refine blk_drew ?_ | refine blk_alloc ?_ _)); refine blk_put (cs := #[.int .i64 ((rd_T28 l0 x16_1).f0), .int .i64 ((rd_T28 l0 x16_1).f1.f0), .int .i64 ((rd_T28 l0 x16_1).f1.f1), .int .i64 0]) ?_ 3 _ rfl; (with_reducible repeat (first | refine blk_drewN ?_ _ | refine blk_drew ?_ | refine blk_alloc ?_ _)); refine blk_put (cs := #[.int .i64 ((rd_T28 l0 x16_1).f0), .int .i64 ((rd_T28 l0 x16_1).f1.f0), .int .i64 0, .int .i64 0]) ?_ 2 _ rfl; (with_reducible repeat (first | refine blk_drewN ?_ _ | refine blk_drew ?_ | refine blk_alloc ?_ _)); refine blk_put (cs := #[.int .i64 ((rd_T28 l0 x16_1).f0), .int .i64 0, .int .i64 0, .int .i64 0]) ?_ 1 _ rfl; (with_reducible repeat (first | refine blk_drewN ?_ _ | refine blk_drew ?_ | refine blk_alloc ?_ _)); refine blk_put (cs := #[.int .i64 0, .int .i64 0, .int .i64 0, .int .i64 0]) ?_ 0 _ rfl; (with_reducible repeat (first | refine blk_drewN ?_ _ | refine blk_drew ?_ | refine blk_alloc ?_ _)); exact BK107.out⟩, ⟨by repeat (first | (with_reducible first | exact HB.out | apply below_alloc | apply pw_below_drewN | apply below_drew1 | refine below_set ?_ GE107.out) | exact HB.out)⟩⟩
             case rest =>
              clear HC7
              (try clear c1); (try clear p1); (try clear q1); (try clear hx1); (try clear c2); (try clear c2b0); (try clear c2b1); (try clear p2); (try clear c3); (try clear c3b0); (try clear c3b1); (try clear c3b2); (try clear c4); (try clear c4b0); (try clear c5); (try clear c5b0); (try clear c6); (try clear c6b0); (try clear p6); (try clear c10); (try clear c10b0); (try clear p10); (try clear q10); (try clear hx10); (try clear c12); (try clear c12b0); (try clear c14); (try clear c14b0); (try clear c16); (try clear c16b0); (try clear c17); (try clear c17b0); (try clear hczzc1); (try clear hczzc2); (try clear hczzc3); (try clear hczzc4); (try clear hczzc5); (try clear hczzc6); (try clear hczzc7); (try clear hczzc8)
              (try clear hczzc9); (try clear hczzc10); (try clear hczzc11); (try clear hczzc12); (try clear hczzc13); (try clear hczzc14); (try clear hczzc15); (try clear hczzc16); (try clear hczx37bf1); (try clear hczx37bf2); (try clear hczx37bf3); (try clear hczx37bf4); (try clear hfzzc1); (try clear hfzzc2); (try clear hfzzc3); (try clear hfzzc4); (try clear hfzzc5); (try clear hfzzc6); (try clear hfzzc7); (try clear hfzzc8); (try clear hfzzc9); (try clear hfzzc10); (try clear hfzzc11); (try clear hfzzc12); (try clear hfzzc13); (try clear hfzzc14); (try clear hfzzc15); (try clear hfzzc16); (try clear hfzx37bf1); (try clear hfzx37bf2); (try clear hfzx37bf3); (try clear hfzx37bf4); (try clear hx106_0); (try clear hx106_1); (try clear hx106_2); (try clear hx106_3); (try clear hx108_0); (try clear hx108_1); (try clear hx108_2); (try clear hx108_3)
              (try clear p106); (try clear p108); (try clear p2); (try clear q106); (try clear q108)
              obtain ⟨kq, x43_6, rfl, HA, HJ6, BK107, HB⟩ := hcut
              cases kq with
              | zero => exact absurd HA.out (by simp [fly_Check.j1])
              | succ kj6 =>
               have H := HA.out
               clear HA
               simp only [fly_Check.j1] at H
               refine Or.elim (Classical.em (x43_6 = true)) (fun c20 => ?p11_) (fun c20 => ?n11_)
               case' p11_ =>
                subst c20
                have H1 : (some 12) = some r := by rw [if_pos rfl] at H; exact H
                clear H
                have H := H1
                clear H1
                have hm10_0 := Aside0.mk trivial
               case' n11_ =>
                replace c20 := Bool.eq_false_iff.mpr c20
                subst c20
                have H1 : ((plane_Check.f ((rd_T28 l0 x16_1).f1.f0) ((rd_T28 l0 x16_1).f1.f1)).bind fun t109 => (if t109 = 0 then (if ((rd_T28 l0 x16_1).f2) < 0 then (some 4) else (if ((rd_T28 l0 x16_1).f2) > 60000 then (some 4) else (fly_Check.l0 kj6 l0 l0 (l0.length : Int) (wrap64 (x16_1 + 1))))) else (some t109))) = some r := by rw [if_neg (show ¬ (false = true) by decide)] at H; exact H
                clear H
                have H := H1
                clear H1
                replace H := Option.bind_eq_some_iff.mp H
                obtain ⟨t109, A210, H⟩ := H
                replace H : (if t109 = 0 then (if ((rd_T28 l0 x16_1).f2) < 0 then (some 4) else (if ((rd_T28 l0 x16_1).f2) > 60000 then (some 4) else (fly_Check.l0 kj6 l0 l0 (l0.length : Int) (wrap64 (x16_1 + 1))))) else (some t109)) = some r := H
                have A21 := Aside0.mk A210
                clear A210
                refine Or.elim (Classical.em (t109 = 0)) (fun c22 => ?p12_) (fun c22 => ?n12_)
                case' p12_ =>
                 rw [if_pos c22] at H
                 have c22b0 : (t109 == 0) = true := beq_iff_eq.mpr c22
                 have c22b1 : (t109 != 0) = false := bne_eq_false_iff_eq.mpr c22
                 clear c22
                 refine Or.elim (Classical.em (((rd_T28 l0 x16_1).f2) < 0)) (fun c23 => ?p13_) (fun c23 => ?n13_)
                 case' p13_ =>
                  rw [if_pos c23] at H
                  have c23b0 : decide (((rd_T28 l0 x16_1).f2) < 0) = true := decide_eq_true c23
                  clear c23
                  have hm10_1 := Aside0.mk trivial
                 case' n13_ =>
                  rw [if_neg c23] at H
                  have c23b0 : decide (((rd_T28 l0 x16_1).f2) < 0) = false := decide_eq_false c23
                  clear c23
                  refine Or.elim (Classical.em (((rd_T28 l0 x16_1).f2) > 60000)) (fun c27 => ?p14_) (fun c27 => ?n14_)
                  case' p14_ =>
                   rw [if_pos c27] at H
                   have c27b0 : decide (60000 < ((rd_T28 l0 x16_1).f2)) = true := decide_eq_true c27
                   clear c27
                   have hm10_1 := Aside0.mk trivial
                  case' n14_ =>
                   rw [if_neg c27] at H
                   have c27b0 : decide (60000 < ((rd_T28 l0 x16_1).f2)) = false := decide_eq_false c27
                   clear c27
                   have hm10_2 := Aside0.mk trivial
                case' n12_ =>
                 rw [if_neg c22] at H
                 have c22b0 : (t109 == 0) = false := beq_eq_false_iff_ne.mpr c22
                 have c22b1 : (t109 != 0) = true := bne_iff_ne.mpr c22
                 have hm10_3 := Aside0.mk trivial
               all_goals
                first
                 | (first | (have _hm := hm10_0) | (have _hm := hm10_1) | (have _hm := hm10_3))
                   obtain rfl := Option.some.inj H
                   first
                    | clear hm10_0
                      go_wp2
                      repeat (go_quiet (fail); try go_wp2)
                      go_ret
                      exact ⟨by first | rfl | (simp [errW_none, errW_some] <;> rfl) | (simp [*, errW_none, errW_some] <;> rfl), by repeat (first | (with_reducible first | exact HB.out | apply below_alloc | apply pw_below_drewN | apply below_drew1 | refine below_set ?_ GE107.out) | exact HB.out)⟩
                    | (first | (have _hm := hm10_1) | (have _hm := hm10_3))
                      have hczze1 : wc.cell? ⟨gb107, 0, none⟩ = some (.int .i64 ((rd_T28 l0 x16_1).f0)) := (blk_cell BK107.out 0).trans rfl
                      have hczze2 : wc.cell? ⟨gb107, 1, none⟩ = some (.int .i64 ((rd_T28 l0 x16_1).f1.f0)) := (blk_cell BK107.out 1).trans rfl
                      have hczze3 : wc.cell? ⟨gb107, 2, none⟩ = some (.int .i64 ((rd_T28 l0 x16_1).f1.f1)) := (blk_cell BK107.out 2).trans rfl
                      have hczze4 : wc.cell? ⟨gb107, 3, none⟩ = some (.int .i64 ((rd_T28 l0 x16_1).f2)) := (blk_cell BK107.out 3).trans rfl
                      have hfzze1 := blk_frozen BK107.out 0
                      have hfzze2 := blk_frozen BK107.out 1
                      have hfzze3 := blk_frozen BK107.out 2
                      have hfzze4 := blk_frozen BK107.out 3
                      go_wp2_with (first | (go_at_call 42; (with_reducible refine (plane_Check.calls ((rd_T28 l0 x16_1).f1.f0) ((rd_T28 l0 x16_1).f1.f1) t109 _ A21.out).mono ?_); rintro e wx9a601 ⟨rfl, hb⟩; have n0_ := Aside0.mk (blk_below (g := gb107) (o := .cells #[.int .i64 ((rd_T28 l0 x16_1).f0), .int .i64 ((rd_T28 l0 x16_1).f1.f0), .int .i64 ((rd_T28 l0 x16_1).f1.f1), .int .i64 ((rd_T28 l0 x16_1).f2)] 28 (0, 0)) (by (with_reducible repeat (first | refine blk_drewN ?_ _ | refine blk_drew ?_ | refine blk_alloc ?_ _)); exact BK107.out) hb); have n1_ := Aside0.mk (below_step (by repeat (first | (with_reducible first | exact HB.out | apply below_alloc | apply pw_below_drewN | apply below_drew1 | refine below_set ?_ GE107.out) | exact HB.out)) hb); clear BK107; clear HB; have BK107 := n0_; have HB := n1_; clear n0_ n1_; (try clear hb); (try clear hb2); (try clear hk); (try clear hi); have hczy292dd0 : wx9a601.cell? ⟨gb107, 0, none⟩ = some (.int .i64 ((rd_T28 l0 x16_1).f0)) := (blk_cell BK107.out 0).trans rfl; have hczy292dd1 : wx9a601.cell? ⟨gb107, 1, none⟩ = some (.int .i64 ((rd_T28 l0 x16_1).f1.f0)) := (blk_cell BK107.out 1).trans rfl; have hczy292dd2 : wx9a601.cell? ⟨gb107, 2, none⟩ = some (.int .i64 ((rd_T28 l0 x16_1).f1.f1)) := (blk_cell BK107.out 2).trans rfl; have hczy292dd3 : wx9a601.cell? ⟨gb107, 3, none⟩ = some (.int .i64 ((rd_T28 l0 x16_1).f2)) := (blk_cell BK107.out 3).trans rfl; have hfzy292dd4 := blk_frozen BK107.out 0; have hfzy292dd5 := blk_frozen BK107.out 1; have hfzy292dd6 := blk_frozen BK107.out 2; have hfzy292dd7 := blk_frozen BK107.out 3))
                      first
                       | clear hm10_1
                         repeat (go_quiet (first | (go_at_call 42; (with_reducible refine (plane_Check.calls ((rd_T28 l0 x16_1).f1.f0) ((rd_T28 l0 x16_1).f1.f1) t109 _ A21.out).mono ?_); rintro e wx9a601 ⟨rfl, hb⟩; have n0_ := Aside0.mk (blk_below (g := gb107) (o := .cells #[.int .i64 ((rd_T28 l0 x16_1).f0), .int .i64 ((rd_T28 l0 x16_1).f1.f0), .int .i64 ((rd_T28 l0 x16_1).f1.f1), .int .i64 ((rd_T28 l0 x16_1).f2)] 28 (0, 0)) (by (with_reducible repeat (first | refine blk_drewN ?_ _ | refine blk_drew ?_ | refine blk_alloc ?_ _)); exact BK107.out) hb); have n1_ := Aside0.mk (below_step (by repeat (first | (with_reducible first | exact HB.out | apply below_alloc | apply pw_below_drewN | apply below_drew1 | refine below_set ?_ GE107.out) | exact HB.out)) hb); clear BK107; clear HB; have BK107 := n0_; have HB := n1_; clear n0_ n1_; (try clear hb); (try clear hb2); (try clear hk); (try clear hi); have hczze5 : wx9a601.cell? ⟨gb107, 0, none⟩ = some (.int .i64 ((rd_T28 l0 x16_1).f0)) := (blk_cell BK107.out 0).trans rfl; have hczze6 : wx9a601.cell? ⟨gb107, 1, none⟩ = some (.int .i64 ((rd_T28 l0 x16_1).f1.f0)) := (blk_cell BK107.out 1).trans rfl; have hczze7 : wx9a601.cell? ⟨gb107, 2, none⟩ = some (.int .i64 ((rd_T28 l0 x16_1).f1.f1)) := (blk_cell BK107.out 2).trans rfl; have hczze8 : wx9a601.cell? ⟨gb107, 3, none⟩ = some (.int .i64 ((rd_T28 l0 x16_1).f2)) := (blk_cell BK107.out 3).trans rfl; have hfzze5 := blk_frozen BK107.out 0; have hfzze6 := blk_frozen BK107.out 1; have hfzze7 := blk_frozen BK107.out 2; have hfzze8 := blk_frozen BK107.out 3)); try go_wp2_with (first | (go_at_call 42; (with_reducible refine (plane_Check.calls ((rd_T28 l0 x16_1).f1.f0) ((rd_T28 l0 x16_1).f1.f1) t109 _ A21.out).mono ?_); rintro e wx9a601 ⟨rfl, hb⟩; have n0_ := Aside0.mk (blk_below (g := gb107) (o := .cells #[.int .i64 ((rd_T28 l0 x16_1).f0), .int .i64 ((rd_T28 l0 x16_1).f1.f0), .int .i64 ((rd_T28 l0 x16_1).f1.f1), .int .i64 ((rd_T28 l0 x16_1).f2)] 28 (0, 0)) (by (with_reducible repeat (first | refine blk_drewN ?_ _ | refine blk_drew ?_ | refine blk_alloc ?_ _)); exact BK107.out) hb); have n1_ := Aside0.mk (below_step (by repeat (first | (with_reducible first | exact HB.out | apply below_alloc | apply pw_below_drewN | apply below_drew1 | refine below_set ?_ GE107.out) | exact HB.out)) hb); clear BK107; clear HB; have BK107 := n0_; have HB := n1_; clear n0_ n1_; (try clear hb); (try clear hb2); (try clear hk); (try clear hi); have hczze5 : wx9a601.cell? ⟨gb107, 0, none⟩ = some (.int .i64 ((rd_T28 l0 x16_1).f0)) := (blk_cell BK107.out 0).trans rfl; have hczze6 : wx9a601.cell? ⟨gb107, 1, none⟩ = some (.int .i64 ((rd_T28 l0 x16_1).f1.f0)) := (blk_cell BK107.out 1).trans rfl; have hczze7 : wx9a601.cell? ⟨gb107, 2, none⟩ = some (.int .i64 ((rd_T28 l0 x16_1).f1.f1)) := (blk_cell BK107.out 2).trans rfl; have hczze8 : wx9a601.cell? ⟨gb107, 3, none⟩ = some (.int .i64 ((rd_T28 l0 x16_1).f2)) := (blk_cell BK107.out 3).trans rfl; have hfzze5 := blk_frozen BK107.out 0; have hfzze6 := blk_frozen BK107.out 1; have hfzze7 := blk_frozen BK107.out 2; have hfzze8 := blk_frozen BK107.out 3)))
                         go_ret
                         exact ⟨by first | rfl | (simp [errW_none, errW_some] <;> rfl) | (simp [*, errW_none, errW_some] <;> rfl), by repeat (first | (with_reducible first | exact HB.out | apply below_alloc | apply pw_below_drewN | apply below_drew1 | refine below_set ?_ GE107.out) | exact HB.out)⟩
                       | clear hm10_3
                         repeat (go_quiet (first | (go_at_call 42; (with_reducible refine (plane_Check.calls ((rd_T28 l0 x16_1).f1.f0) ((rd_T28 l0 x16_1).f1.f1) t109 _ A21.out).mono ?_); rintro e wxb2451 ⟨rfl, hb⟩; have n0_ := Aside0.mk (blk_below (g := gb107) (o := .cells #[.int .i64 ((rd_T28 l0 x16_1).f0), .int .i64 ((rd_T28 l0 x16_1).f1.f0), .int .i64 ((rd_T28 l0 x16_1).f1.f1), .int .i64 ((rd_T28 l0 x16_1).f2)] 28 (0, 0)) (by (with_reducible repeat (first | refine blk_drewN ?_ _ | refine blk_drew ?_ | refine blk_alloc ?_ _)); exact BK107.out) hb); have n1_ := Aside0.mk (below_step (by repeat (first | (with_reducible first | exact HB.out | apply below_alloc | apply pw_below_drewN | apply below_drew1 | refine below_set ?_ GE107.out) | exact HB.out)) hb); clear BK107; clear HB; have BK107 := n0_; have HB := n1_; clear n0_ n1_; (try clear hb); (try clear hb2); (try clear hk); (try clear hi))); try go_wp2_with (first | (go_at_call 42; (with_reducible refine (plane_Check.calls ((rd_T28 l0 x16_1).f1.f0) ((rd_T28 l0 x16_1).f1.f1) t109 _ A21.out).mono ?_); rintro e wxb2451 ⟨rfl, hb⟩; have n0_ := Aside0.mk (blk_below (g := gb107) (o := .cells #[.int .i64 ((rd_T28 l0 x16_1).f0), .int .i64 ((rd_T28 l0 x16_1).f1.f0), .int .i64 ((rd_T28 l0 x16_1).f1.f1), .int .i64 ((rd_T28 l0 x16_1).f2)] 28 (0, 0)) (by (with_reducible repeat (first | refine blk_drewN ?_ _ | refine blk_drew ?_ | refine blk_alloc ?_ _)); exact BK107.out) hb); have n1_ := Aside0.mk (below_step (by repeat (first | (with_reducible first | exact HB.out | apply below_alloc | apply pw_below_drewN | apply below_drew1 | refine below_set ?_ GE107.out) | exact HB.out)) hb); clear BK107; clear HB; have BK107 := n0_; have HB := n1_; clear n0_ n1_; (try clear hb); (try clear hb2); (try clear hk); (try clear hi))))
                         go_ret
                         exact ⟨by first | rfl | (simp [errW_none, errW_some] <;> rfl) | (simp [*, errW_none, errW_some] <;> rfl), by repeat (first | (with_reducible first | exact HB.out | apply below_alloc | apply pw_below_drewN | apply below_drew1 | refine below_set ?_ GE107.out) | exact HB.out)⟩
                 | clear hm10_2
                   have H' := Aside0.mk H
                   clear H
                   have hczze1 : wc.cell? ⟨gb107, 0, none⟩ = some (.int .i64 ((rd_T28 l0 x16_1).f0)) := (blk_cell BK107.out 0).trans rfl
                   have hczze2 : wc.cell? ⟨gb107, 1, none⟩ = some (.int .i64 ((rd_T28 l0 x16_1).f1.f0)) := (blk_cell BK107.out 1).trans rfl
                   have hczze3 : wc.cell? ⟨gb107, 2, none⟩ = some (.int .i64 ((rd_T28 l0 x16_1).f1.f1)) := (blk_cell BK107.out 2).trans rfl
                   have hczze4 : wc.cell? ⟨gb107, 3, none⟩ = some (.int .i64 ((rd_T28 l0 x16_1).f2)) := (blk_cell BK107.out 3).trans rfl
                   have hfzze1 := blk_frozen BK107.out 0
                   have hfzze2 := blk_frozen BK107.out 1
                   have hfzze3 := blk_frozen BK107.out 2
                   have hfzze4 := blk_frozen BK107.out 3
                   go_wp2_with (first | (go_at_call 42; (with_reducible refine (plane_Check.calls ((rd_T28 l0 x16_1).f1.f0) ((rd_T28 l0 x16_1).f1.f1) t109 _ A21.out).mono ?_); rintro e wx9a601 ⟨rfl, hb⟩; have n0_ := Aside0.mk (blk_below (g := gb107) (o := .cells #[.int .i64 ((rd_T28 l0 x16_1).f0), .int .i64 ((rd_T28 l0 x16_1).f1.f0), .int .i64 ((rd_T28 l0 x16_1).f1.f1), .int .i64 ((rd_T28 l0 x16_1).f2)] 28 (0, 0)) (by (with_reducible repeat (first | refine blk_drewN ?_ _ | refine blk_drew ?_ | refine blk_alloc ?_ _)); exact BK107.out) hb); have n1_ := Aside0.mk (below_step (by repeat (first | (with_reducible first | exact HB.out | apply below_alloc | apply pw_below_drewN | apply below_drew1 | refine below_set ?_ GE107.out) | exact HB.out)) hb); clear BK107; clear HB; have BK107 := n0_; have HB := n1_; clear n0_ n1_; (try clear hb); (try clear hb2); (try clear hk); (try clear hi); have hczy292dd0 : wx9a601.cell? ⟨gb107, 0, none⟩ = some (.int .i64 ((rd_T28 l0 x16_1).f0)) := (blk_cell BK107.out 0).trans rfl; have hczy292dd1 : wx9a601.cell? ⟨gb107, 1, none⟩ = some (.int .i64 ((rd_T28 l0 x16_1).f1.f0)) := (blk_cell BK107.out 1).trans rfl; have hczy292dd2 : wx9a601.cell? ⟨gb107, 2, none⟩ = some (.int .i64 ((rd_T28 l0 x16_1).f1.f1)) := (blk_cell BK107.out 2).trans rfl; have hczy292dd3 : wx9a601.cell? ⟨gb107, 3, none⟩ = some (.int .i64 ((rd_T28 l0 x16_1).f2)) := (blk_cell BK107.out 3).trans rfl; have hfzy292dd4 := blk_frozen BK107.out 0; have hfzy292dd5 := blk_frozen BK107.out 1; have hfzy292dd6 := blk_frozen BK107.out 2; have hfzy292dd7 := blk_frozen BK107.out 3))
                   repeat (go_quiet (first | (go_at_call 42; (with_reducible refine (plane_Check.calls ((rd_T28 l0 x16_1).f1.f0) ((rd_T28 l0 x16_1).f1.f1) t109 _ A21.out).mono ?_); rintro e wx9a601 ⟨rfl, hb⟩; have n0_ := Aside0.mk (blk_below (g := gb107) (o := .cells #[.int .i64 ((rd_T28 l0 x16_1).f0), .int .i64 ((rd_T28 l0 x16_1).f1.f0), .int .i64 ((rd_T28 l0 x16_1).f1.f1), .int .i64 ((rd_T28 l0 x16_1).f2)] 28 (0, 0)) (by (with_reducible repeat (first | refine blk_drewN ?_ _ | refine blk_drew ?_ | refine blk_alloc ?_ _)); exact BK107.out) hb); have n1_ := Aside0.mk (below_step (by repeat (first | (with_reducible first | exact HB.out | apply below_alloc | apply pw_below_drewN | apply below_drew1 | refine below_set ?_ GE107.out) | exact HB.out)) hb); clear BK107; clear HB; have BK107 := n0_; have HB := n1_; clear n0_ n1_; (try clear hb); (try clear hb2); (try clear hk); (try clear hi); have hczze5 : wx9a601.cell? ⟨gb107, 0, none⟩ = some (.int .i64 ((rd_T28 l0 x16_1).f0)) := (blk_cell BK107.out 0).trans rfl; have hczze6 : wx9a601.cell? ⟨gb107, 1, none⟩ = some (.int .i64 ((rd_T28 l0 x16_1).f1.f0)) := (blk_cell BK107.out 1).trans rfl; have hczze7 : wx9a601.cell? ⟨gb107, 2, none⟩ = some (.int .i64 ((rd_T28 l0 x16_1).f1.f1)) := (blk_cell BK107.out 2).trans rfl; have hczze8 : wx9a601.cell? ⟨gb107, 3, none⟩ = some (.int .i64 ((rd_T28 l0 x16_1).f2)) := (blk_cell BK107.out 3).trans rfl; have hfzze5 := blk_frozen BK107.out 0; have hfzze6 := blk_frozen BK107.out 1; have hfzze7 := blk_frozen BK107.out 2; have hfzze8 := blk_frozen BK107.out 3)); try go_wp2_with (first | (go_at_call 42; (with_reducible refine (plane_Check.calls ((rd_T28 l0 x16_1).f1.f0) ((rd_T28 l0 x16_1).f1.f1) t109 _ A21.out).mono ?_); rintro e wx9a601 ⟨rfl, hb⟩; have n0_ := Aside0.mk (blk_below (g := gb107) (o := .cells #[.int .i64 ((rd_T28 l0 x16_1).f0), .int .i64 ((rd_T28 l0 x16_1).f1.f0), .int .i64 ((rd_T28 l0 x16_1).f1.f1), .int .i64 ((rd_T28 l0 x16_1).f2)] 28 (0, 0)) (by (with_reducible repeat (first | refine blk_drewN ?_ _ | refine blk_drew ?_ | refine blk_alloc ?_ _)); exact BK107.out) hb); have n1_ := Aside0.mk (below_step (by repeat (first | (with_reducible first | exact HB.out | apply below_alloc | apply pw_below_drewN | apply below_drew1 | refine below_set ?_ GE107.out) | exact HB.out)) hb); clear BK107; clear HB; have BK107 := n0_; have HB := n1_; clear n0_ n1_; (try clear hb); (try clear hb2); (try clear hk); (try clear hi); have hczze5 : wx9a601.cell? ⟨gb107, 0, none⟩ = some (.int .i64 ((rd_T28 l0 x16_1).f0)) := (blk_cell BK107.out 0).trans rfl; have hczze6 : wx9a601.cell? ⟨gb107, 1, none⟩ = some (.int .i64 ((rd_T28 l0 x16_1).f1.f0)) := (blk_cell BK107.out 1).trans rfl; have hczze7 : wx9a601.cell? ⟨gb107, 2, none⟩ = some (.int .i64 ((rd_T28 l0 x16_1).f1.f1)) := (blk_cell BK107.out 2).trans rfl; have hczze8 : wx9a601.cell? ⟨gb107, 3, none⟩ = some (.int .i64 ((rd_T28 l0 x16_1).f2)) := (blk_cell BK107.out 3).trans rfl; have hfzze5 := blk_frozen BK107.out 0; have hfzze6 := blk_frozen BK107.out 1; have hfzze7 := blk_frozen BK107.out 2; have hfzze8 := blk_frozen BK107.out 3)))
                   go_roundg kj6
                   case measure => have := HK1.out; have := HJ6.out; omega
                   case rel => exact ⟨(wrap64 (x16_1 + 1)), (by first | rfl | (simp; done) | (simp [*]; done)), H', ⟨by have := HK1.out; have := HJ6.out; omega⟩, ⟨by repeat (first | (with_reducible first | exact HB.out | apply below_alloc | apply pw_below_drewN | apply below_drew1 | refine below_set ?_ GE107.out) | exact HB.out)⟩⟩
           · rw [if_neg c6] at H
             exact absurd H (by simp)
         · rw [if_neg c5] at H
           exact absurd H (by simp)
       · rw [if_neg c4] at H
         have c4b0 : decide (x16_1 < (l0.length : Int)) = false := decide_eq_false c4
         clear c4
         obtain rfl := Option.some.inj H
         go_wp2
         repeat (go_quiet (fail); try go_wp2)
         go_ret
         exact ⟨by first | rfl | (simp [errW_none, errW_some] <;> rfl) | (simp [*, errW_none, errW_some] <;> rfl), by repeat (first | (with_reducible first | exact HB.out | apply below_alloc | apply pw_below_drewN | apply below_drew1) | exact HB.out)⟩

/-! ### num_DivDown: function 59 -/
def num_DivDown.j0 : Nat → Int → Int → Bool → Option (Int × Int)
  | 0, _, _, _ => none
  | k + 1, x0, x1, x10 => if x10 = true then (some (0, 2)) else (if x1 = 0 then (none) else (if (Int.tmod x0 x1) = 0 then (some (wrap64 (Int.tdiv x0 x1), 0)) else (if ((decide (x0 < 0)) != (decide (x1 < 0))) = true then (some (wrap64 ((wrap64 (Int.tdiv x0 x1)) - 1), 0)) else (some (wrap64 (Int.tdiv x0 x1), 0)))))
def num_DivDown.f (k : Nat) (a0 : Int) (a1 : Int) : Option (Int × Int) := if a1 = 0 then (some (0, 10)) else (if a0 = (-9223372036854775808) then (num_DivDown.j0 k a0 a1 (a1 == (-1))) else (num_DivDown.j0 k a0 a1 false))
theorem num_DivDown.mono_l : ∀ k, (∀ y0 y1 y2, LeO (num_DivDown.j0 k y0 y1 y2) (num_DivDown.j0 (k + 1) y0 y1 y2))
  | 0 => fun _ _ _ r h => by simp [num_DivDown.j0] at h
  | k + 1 => by
    have ih0 := num_DivDown.mono_l k
    · intro y0 y1 y2
      unfold num_DivDown.j0
      repeat' first
      | (with_reducible exact ih0 _ _ _)
      | (with_reducible exact LeO.refl _)
      | (with_reducible exact LeO.none _)
      | (with_reducible refine LeO.ite ?_ ?_)
      | (with_reducible refine LeO.bind ?_ (fun _ => ?_))
      | exact ih0 _ _ _
      | exact LeO.none _
      | refine LeO.ite ?_ ?_
      | refine LeO.bind ?_ (fun _ => ?_)
theorem num_DivDown.mono : ∀ a0 a1 k, LeO (num_DivDown.f k a0 a1) (num_DivDown.f (k + 1) a0 a1) := by
  intro a0 a1 k
  have ih0 := num_DivDown.mono_l k
  unfold num_DivDown.f
  repeat' first
      | (with_reducible exact ih0 _ _ _)
      | (with_reducible exact LeO.refl _)
      | (with_reducible exact LeO.none _)
      | (with_reducible refine LeO.ite ?_ ?_)
      | (with_reducible refine LeO.bind ?_ (fun _ => ?_))
      | exact ih0 _ _ _
      | exact LeO.none _
      | refine LeO.ite ?_ ?_
      | refine LeO.bind ?_ (fun _ => ?_)
set_option maxHeartbeats 8000000 in
set_option maxRecDepth 100000 in
theorem num_DivDown.calls (k : Nat) (a0 : Int) (a1 : Int) (r1 : Int) (r2 : Int) (w : World) (h : num_DivDown.f k a0 a1 = some (r1, r2)) :
    Calls Try.prog 59 #[.int .i64 a0, .int .i64 a1] w fun e w' => e = .returned (.tuple #[.int .i64 r1, .int .i64 r2]) ∧ Below w.heap.size w w' := by
 have HB := Aside0.mk (Below.refl w.heap.size w)
 have H : (if a1 = 0 then (some (0, 10)) else (if a0 = (-9223372036854775808) then (num_DivDown.j0 k a0 a1 (a1 == (-1))) else (num_DivDown.j0 k a0 a1 false))) = some (r1, r2) := h
 clear h
 refine Or.elim (Classical.em (a1 = 0)) (fun c3 => ?p2_) (fun c3 => ?n2_)
 case' p2_ =>
  rw [if_pos c3] at H
  have c3b0 : (a1 == 0) = true := beq_iff_eq.mpr c3
  have c3b1 : (a1 != 0) = false := bne_eq_false_iff_eq.mpr c3
  clear c3
  simp only [Option.some.injEq, Prod.mk.injEq] at H
  obtain ⟨rfl, rfl⟩ := H
  have hm1_0 := Aside0.mk trivial
 case' n2_ =>
  rw [if_neg c3] at H
  have c3b0 : (a1 == 0) = false := beq_eq_false_iff_ne.mpr c3
  have c3b1 : (a1 != 0) = true := bne_iff_ne.mpr c3
  have HC4 := Aside0.mk H
  clear H
  have hm1_1 := Aside0.mk trivial
 all_goals
  go_enter Try.func59, Try.ntmps59
  first
   | clear hm1_0
     go_wp2
     go_ret2
     exact ⟨by first | rfl | (simp [errW_none, errW_some] <;> rfl) | (simp [*, errW_none, errW_some] <;> rfl), by repeat (first | (with_reducible first | exact HB.out | apply below_alloc | apply pw_below_drewN | apply below_drew1) | exact HB.out)⟩
   | clear hm1_1
     go_upto_region 3 with (fail)
     go_cut [10] (fun v10 wc => ∃ (kq : Nat) (x10_3 : Bool), v10 = .bool x10_3 ∧ Aside0 (num_DivDown.j0 kq a0 a1 x10_3 = some (r1, r2)) ∧ Aside0 (kq ≤ k) ∧ Aside0 (Below w.heap.size w wc))
     case first =>
      have H := HC4.out
      clear HC4
      refine Or.elim (Classical.em (a0 = (-9223372036854775808))) (fun c5 => ?p4_) (fun c5 => ?n4_)
      case' p4_ =>
       rw [if_pos c5] at H
       have c5b0 : (a0 == (-9223372036854775808)) = true := beq_iff_eq.mpr c5
       have c5b1 : (a0 != (-9223372036854775808)) = false := bne_eq_false_iff_eq.mpr c5
       clear c5
       (first | rw [c5b0] | (simp only [i64_w, i32_w]; rw [c5b0]) | skip)
      case' n4_ =>
       rw [if_neg c5] at H
       have c5b0 : (a0 == (-9223372036854775808)) = false := beq_eq_false_iff_ne.mpr c5
       have c5b1 : (a0 != (-9223372036854775808)) = true := bne_iff_ne.mpr c5
       (first | rw [c5b0] | (simp only [i64_w, i32_w]; rw [c5b0]) | skip)
      all_goals
       have H' := Aside0.mk H
       clear H
       go_wp2
       go_meet
       case rel => first | (exact ⟨_, ((a1 == (-1))), (by first | rfl | (simp; done) | (simp [*]; done)), H', ⟨by first | omega | exact Nat.le_refl _⟩, ⟨by repeat (first | (with_reducible first | exact HB.out | apply below_alloc | apply pw_below_drewN | apply below_drew1) | exact HB.out)⟩⟩) | (exact ⟨_, (false), (by first | rfl | (simp; done) | (simp [*]; done)), H', ⟨by first | omega | exact Nat.le_refl _⟩, ⟨by repeat (first | (with_reducible first | exact HB.out | apply below_alloc | apply pw_below_drewN | apply below_drew1) | exact HB.out)⟩⟩)
     case rest =>
      clear HC4
      (try clear p2); (try clear c3); (try clear c3b0); (try clear c3b1); (try clear c5); (try clear c5b0); (try clear c5b1)
      obtain ⟨kq, x10_3, rfl, HA, HJ3, HB⟩ := hcut
      cases kq with
      | zero => exact absurd HA.out (by simp [num_DivDown.j0])
      | succ kj3 =>
       have H := HA.out
       clear HA
       simp only [num_DivDown.j0] at H
       refine Or.elim (Classical.em (x10_3 = true)) (fun c6 => ?p6_) (fun c6 => ?n6_)
       case' p6_ =>
        subst c6
        have H1 : (some (0, 2)) = some (r1, r2) := by rw [if_pos rfl] at H; exact H
        clear H
        have H := H1
        clear H1
        simp only [Option.some.injEq, Prod.mk.injEq] at H
        obtain ⟨rfl, rfl⟩ := H
       case' n6_ =>
        replace c6 := Bool.eq_false_iff.mpr c6
        subst c6
        have H1 : (if a1 = 0 then (none) else (if (Int.tmod a0 a1) = 0 then (some (wrap64 (Int.tdiv a0 a1), 0)) else (if ((decide (a0 < 0)) != (decide (a1 < 0))) = true then (some (wrap64 ((wrap64 (Int.tdiv a0 a1)) - 1), 0)) else (some (wrap64 (Int.tdiv a0 a1), 0))))) = some (r1, r2) := by rw [if_neg (show ¬ (false = true) by decide)] at H; exact H
        clear H
        have H := H1
        clear H1
        refine Or.elim (Classical.em (a1 = 0)) (fun c7 => ?p7_) (fun c7 => ?n7_)
        case' p7_ =>
         rw [if_pos c7] at H
         exact absurd H (by simp)
        case' n7_ =>
         rw [if_neg c7] at H
         have c7b0 : (a1 == 0) = false := beq_eq_false_iff_ne.mpr c7
         have c7b1 : (a1 != 0) = true := bne_iff_ne.mpr c7
         refine Or.elim (Classical.em ((Int.tmod a0 a1) = 0)) (fun c8 => ?p8_) (fun c8 => ?n8_)
         case' p8_ =>
          rw [if_pos c8] at H
          have c8b0 : ((Int.tmod a0 a1) == 0) = true := beq_iff_eq.mpr c8
          have c8b1 : ((Int.tmod a0 a1) != 0) = false := bne_eq_false_iff_eq.mpr c8
          clear c8
          simp only [Option.some.injEq, Prod.mk.injEq] at H
          obtain ⟨rfl, rfl⟩ := H
         case' n8_ =>
          rw [if_neg c8] at H
          have c8b0 : ((Int.tmod a0 a1) == 0) = false := beq_eq_false_iff_ne.mpr c8
          have c8b1 : ((Int.tmod a0 a1) != 0) = true := bne_iff_ne.mpr c8
          refine Or.elim (Classical.em (((decide (a0 < 0)) != (decide (a1 < 0))) = true)) (fun c9 => ?p9_) (fun c9 => ?n9_)
          case' p9_ =>
           rw [if_pos c9] at H
           have c9b0 : ((decide (a0 < 0)) != (decide (a1 < 0))) = true := c9
           (try (have c9b1 : decide ((decide (a0 < 0)) = (decide (a1 < 0))) = false := by simpa using c9))
           (try (have c9b2 : ((decide (a0 < 0)) == (decide (a1 < 0))) = false := by simpa using c9))
           (try (have c9b3 : ¬ ((decide (a0 < 0)) = (decide (a1 < 0))) := by simpa using c9))
           clear c9
           simp only [Option.some.injEq, Prod.mk.injEq] at H
           obtain ⟨rfl, rfl⟩ := H
          case' n9_ =>
           rw [if_neg c9] at H
           have c9b0 : ((decide (a0 < 0)) != (decide (a1 < 0))) = false := by simpa using c9
           (try (have c9b1 : decide ((decide (a0 < 0)) = (decide (a1 < 0))) = true := by simpa using c9))
           (try (have c9b2 : ((decide (a0 < 0)) == (decide (a1 < 0))) = true := by simpa using c9))
           clear c9
           simp only [Option.some.injEq, Prod.mk.injEq] at H
           obtain ⟨rfl, rfl⟩ := H
       all_goals
        go_wp2
        go_ret2
        exact ⟨by first | rfl | (simp [errW_none, errW_some] <;> rfl) | (simp [*, errW_none, errW_some] <;> rfl), by repeat (first | (with_reducible first | exact HB.out | apply below_alloc | apply pw_below_drewN | apply below_drew1) | exact HB.out)⟩

/-! ### num_DivUp: function 44 -/
def num_DivUp.f (k : Nat) (a0 : Int) (a1 : Int) : Option (Int × Int) := (num_DivDown.f k a0 a1).bind fun bt110 => (if bt110.2 = 0 then (if a1 = 0 then (none) else (if (Int.tmod a0 a1) = 0 then (some (bt110.1, bt110.2)) else (some (wrap64 (bt110.1 + 1), bt110.2)))) else (some (bt110.1, bt110.2)))
theorem num_DivUp.mono : ∀ a0 a1 k, LeO (num_DivUp.f k a0 a1) (num_DivUp.f (k + 1) a0 a1) := by
  intro a0 a1 k
  unfold num_DivUp.f
  repeat' first
      | (with_reducible exact num_DivDown.mono _ _ _)
      | (with_reducible exact LeO.refl _)
      | (with_reducible exact LeO.none _)
      | (with_reducible refine LeO.ite ?_ ?_)
      | (with_reducible refine LeO.bind ?_ (fun _ => ?_))
      | exact num_DivDown.mono _ _ _
      | exact LeO.none _
      | refine LeO.ite ?_ ?_
      | refine LeO.bind ?_ (fun _ => ?_)
set_option maxHeartbeats 8000000 in
set_option maxRecDepth 100000 in
theorem num_DivUp.calls (k : Nat) (a0 : Int) (a1 : Int) (r1 : Int) (r2 : Int) (w : World) (h : num_DivUp.f k a0 a1 = some (r1, r2)) :
    Calls Try.prog 44 #[.int .i64 a0, .int .i64 a1] w fun e w' => e = .returned (.tuple #[.int .i64 r1, .int .i64 r2]) ∧ Below w.heap.size w w' := by
 have HB := Aside0.mk (Below.refl w.heap.size w)
 have H : ((num_DivDown.f k a0 a1).bind fun bt110 => (if bt110.2 = 0 then (if a1 = 0 then (none) else (if (Int.tmod a0 a1) = 0 then (some (bt110.1, bt110.2)) else (some (wrap64 (bt110.1 + 1), bt110.2)))) else (some (bt110.1, bt110.2)))) = some (r1, r2) := h
 clear h
 replace H := Option.bind_eq_some_iff.mp H
 obtain ⟨⟨t110, t111⟩, A30, H⟩ := H
 replace H : (if t111 = 0 then (if a1 = 0 then (none) else (if (Int.tmod a0 a1) = 0 then (some (t110, t111)) else (some (wrap64 (t110 + 1), t111)))) else (some (t110, t111))) = some (r1, r2) := H
 have A3 := Aside0.mk A30
 clear A30
 refine Or.elim (Classical.em (t111 = 0)) (fun c4 => ?p2_) (fun c4 => ?n2_)
 case' p2_ =>
  rw [if_pos c4] at H
  have c4b0 : (t111 == 0) = true := beq_iff_eq.mpr c4
  have c4b1 : (t111 != 0) = false := bne_eq_false_iff_eq.mpr c4
  clear c4
  refine Or.elim (Classical.em (a1 = 0)) (fun c5 => ?p3_) (fun c5 => ?n3_)
  case' p3_ =>
   rw [if_pos c5] at H
   exact absurd H (by simp)
  case' n3_ =>
   rw [if_neg c5] at H
   have c5b0 : (a1 == 0) = false := beq_eq_false_iff_ne.mpr c5
   have c5b1 : (a1 != 0) = true := bne_iff_ne.mpr c5
   refine Or.elim (Classical.em ((Int.tmod a0 a1) = 0)) (fun c6 => ?p4_) (fun c6 => ?n4_)
   case' p4_ =>
    rw [if_pos c6] at H
    have c6b0 : ((Int.tmod a0 a1) == 0) = true := beq_iff_eq.mpr c6
    have c6b1 : ((Int.tmod a0 a1) != 0) = false := bne_eq_false_iff_eq.mpr c6
    clear c6
    simp only [Option.some.injEq, Prod.mk.injEq] at H
    obtain ⟨rfl, rfl⟩ := H
   case' n4_ =>
    rw [if_neg c6] at H
    have c6b0 : ((Int.tmod a0 a1) == 0) = false := beq_eq_false_iff_ne.mpr c6
    have c6b1 : ((Int.tmod a0 a1) != 0) = true := bne_iff_ne.mpr c6
    simp only [Option.some.injEq, Prod.mk.injEq] at H
    obtain ⟨rfl, rfl⟩ := H
 case' n2_ =>
  rw [if_neg c4] at H
  have c4b0 : (t111 == 0) = false := beq_eq_false_iff_ne.mpr c4
  have c4b1 : (t111 != 0) = true := bne_iff_ne.mpr c4
  simp only [Option.some.injEq, Prod.mk.injEq] at H
  obtain ⟨rfl, rfl⟩ := H
 all_goals
  go_enter Try.func44, Try.ntmps44
  go_wp2_with (first | ((with_reducible refine gate_callee (f := 59) rfl ?_); refine goesL_ (some 11) rfl rfl Try.func59 (by kernel_rfl) rfl #[.int .i64 a0, .int .i64 a1] rfl (by (try simp only [List.map_toArray, List.map_cons, List.map_nil]); first | done | rfl | (simp only [List.length_drop, List.length_take]; rfl)) ?_; (with_reducible refine (num_DivDown.calls k a0 a1 t110 t111 _ A3.out).mono ?_); rintro e wx0b931 ⟨rfl, hb⟩; refine ⟨_, rfl, ?_⟩; have n0_ := Aside0.mk (below_step (by repeat (first | (with_reducible first | exact HB.out | apply below_alloc | apply pw_below_drewN | apply below_drew1) | exact HB.out)) hb); clear HB; have HB := n0_; clear n0_; (try clear hb); (try clear hb2); (try clear hk); (try clear hi)))
  go_ret2
  exact ⟨by first | rfl | (simp [errW_none, errW_some] <;> rfl) | (simp [*, errW_none, errW_some] <;> rfl), by repeat (first | (with_reducible first | exact HB.out | apply below_alloc | apply pw_below_drewN | apply below_drew1) | exact HB.out)⟩

end Go.Proofs.Yteaddpieonkboab.PTubeCuts
