/- Made by a program of this session (wip/tools/myprint.py, over the kit's printer): that the Go functions answer as the Lean functions printed beside them. -/
import Derived.Test.YtbpbpojnfhhbjaaTSq
import Derived.Test.YtbpbpojnfhhbjaaPRouteLengthx0
import Derived.Test.YtbpbpojnfhhbjaaPRouteLengthx2
import Derived.Test.YtbpbpojnfhhbjaaPRouteLengthx3
namespace Go.Proofs.Ytbpbpojnfhhbjaa.PRouteLength
open Go.RowKit Go.Proofs.YtbpbpojnfhhbjaaW.PrintWords Go.Proofs.YtbpbpojnfhhbjaaW.PrintLast Go.Proofs.YtbpbpojnfhhbjaaW.PrintMore
attribute [local go_sem] max2_int min2_int max_two min_two max_three min_three max_four min_four   -- for this text's walks alone
set_option linter.unusedVariables false
set_option linter.unusedSimpArgs false

/-! ### chart_Check: function 49 -/
mutual
def chart_Check.j0 : Nat → Bool → List (S40) → List (S48) → Option (Int)
  | 0, _, _, _ => none
  | k + 1, x17, x126000, x126001 => if x17 = true then (some 2) else (chart_Check.l0 k x126000 (x126000.length : Int) 0 x126000 x126001)
def chart_Check.l0 : Nat → List (S40) → Int → Int → List (S40) → List (S48) → Option (Int)
  | 0, _, _, _, _, _ => none
  | k + 1, x19, x20, x21, x126000, x126001 => if x21 < x20 then (if 0 ≤ x21 then (if x21 < (x19.length : Int) then ((chart_Name.f k ((rd_T40 x19 x21).f0)).bind fun t128 => (if t128 = true then ((chart_find.f x126000 x126001 ((rd_T40 x19 x21).f0)).bind fun t129 => (if t129 < x21 then (some 7) else ((plane_Check.f ((rd_T40 x19 x21).f1.f0) ((rd_T40 x19 x21).f1.f1)).bind fun t130 => (if t130 = 0 then (chart_Check.l0 k x19 x20 (wrap64 (x21 + 1)) x126000 x126001) else (some t130))))) else (some 5))) else (none)) else (none)) else (chart_Check.l1 k (x126001.length : Int) 0 x126000 x126001)
def chart_Check.l1 : Nat → Int → Int → List (S40) → List (S48) → Option (Int)
  | 0, _, _, _, _ => none
  | k + 1, x47, x48, x126000, x126001 => if x48 < x47 then ((chart_airway.f k x126000 x126001 x48).bind fun t131 => (if t131 = 0 then (chart_Check.l1 k x47 (wrap64 (x48 + 1)) x126000 x126001) else (some t131))) else (some 0)
end
def chart_Check.f (k : Nat) (l0_0 : List (S40)) (l0_1 : List (S48)) : Option (Int) := if (l0_0.length : Int) > 64 then (chart_Check.j0 k true l0_0 l0_1) else (chart_Check.j0 k (decide ((l0_1.length : Int) > 16)) l0_0 l0_1)
theorem chart_Check.mono_l : ∀ k, (∀ y0 y1 y2, LeO (chart_Check.j0 k y0 y1 y2) (chart_Check.j0 (k + 1) y0 y1 y2)) ∧ (∀ y0 y1 y2 y3 y4, LeO (chart_Check.l0 k y0 y1 y2 y3 y4) (chart_Check.l0 (k + 1) y0 y1 y2 y3 y4)) ∧ (∀ y0 y1 y2 y3, LeO (chart_Check.l1 k y0 y1 y2 y3) (chart_Check.l1 (k + 1) y0 y1 y2 y3))
  | 0 => ⟨fun _ _ _ r h => by simp [chart_Check.j0] at h, fun _ _ _ _ _ r h => by simp [chart_Check.l0] at h, fun _ _ _ _ r h => by simp [chart_Check.l1] at h⟩
  | k + 1 => by
    obtain ⟨ih0, ih1, ih2⟩ := chart_Check.mono_l k
    refine ⟨?_, ?_, ?_⟩
    · intro y0 y1 y2
      unfold chart_Check.j0
      repeat' first
      | (with_reducible exact ih0 _ _ _)
      | (with_reducible exact ih1 _ _ _ _ _)
      | (with_reducible exact ih2 _ _ _ _)
      | (with_reducible exact chart_Name.mono _ _)
      | (with_reducible exact chart_airway.mono _ _ _ _)
      | (with_reducible exact LeO.refl _)
      | (with_reducible exact LeO.none _)
      | (with_reducible refine LeO.ite ?_ ?_)
      | (with_reducible refine LeO.bind ?_ (fun _ => ?_))
      | exact ih0 _ _ _
      | exact ih1 _ _ _ _ _
      | exact ih2 _ _ _ _
      | exact chart_Name.mono _ _
      | exact chart_airway.mono _ _ _ _
      | exact LeO.none _
      | refine LeO.ite ?_ ?_
      | refine LeO.bind ?_ (fun _ => ?_)
    · intro y0 y1 y2 y3 y4
      unfold chart_Check.l0
      repeat' first
      | (with_reducible exact ih0 _ _ _)
      | (with_reducible exact ih1 _ _ _ _ _)
      | (with_reducible exact ih2 _ _ _ _)
      | (with_reducible exact chart_Name.mono _ _)
      | (with_reducible exact chart_airway.mono _ _ _ _)
      | (with_reducible exact LeO.refl _)
      | (with_reducible exact LeO.none _)
      | (with_reducible refine LeO.ite ?_ ?_)
      | (with_reducible refine LeO.bind ?_ (fun _ => ?_))
      | exact ih0 _ _ _
      | exact ih1 _ _ _ _ _
      | exact ih2 _ _ _ _
      | exact chart_Name.mono _ _
      | exact chart_airway.mono _ _ _ _
      | exact LeO.none _
      | refine LeO.ite ?_ ?_
      | refine LeO.bind ?_ (fun _ => ?_)
    · intro y0 y1 y2 y3
      unfold chart_Check.l1
      repeat' first
      | (with_reducible exact ih0 _ _ _)
      | (with_reducible exact ih1 _ _ _ _ _)
      | (with_reducible exact ih2 _ _ _ _)
      | (with_reducible exact chart_Name.mono _ _)
      | (with_reducible exact chart_airway.mono _ _ _ _)
      | (with_reducible exact LeO.refl _)
      | (with_reducible exact LeO.none _)
      | (with_reducible refine LeO.ite ?_ ?_)
      | (with_reducible refine LeO.bind ?_ (fun _ => ?_))
      | exact ih0 _ _ _
      | exact ih1 _ _ _ _ _
      | exact ih2 _ _ _ _
      | exact chart_Name.mono _ _
      | exact chart_airway.mono _ _ _ _
      | exact LeO.none _
      | refine LeO.ite ?_ ?_
      | refine LeO.bind ?_ (fun _ => ?_)
theorem chart_Check.mono : ∀ a0 a1 k, LeO (chart_Check.f k a0 a1) (chart_Check.f (k + 1) a0 a1) := by
  intro a0 a1 k
  obtain ⟨ih0, ih1, ih2⟩ := chart_Check.mono_l k
  unfold chart_Check.f
  repeat' first
      | (with_reducible exact ih0 _ _ _)
      | (with_reducible exact ih1 _ _ _ _ _)
      | (with_reducible exact ih2 _ _ _ _)
      | (with_reducible exact chart_Name.mono _ _)
      | (with_reducible exact chart_airway.mono _ _ _ _)
      | (with_reducible exact LeO.refl _)
      | (with_reducible exact LeO.none _)
      | (with_reducible refine LeO.ite ?_ ?_)
      | (with_reducible refine LeO.bind ?_ (fun _ => ?_))
      | exact ih0 _ _ _
      | exact ih1 _ _ _ _ _
      | exact ih2 _ _ _ _
      | exact chart_Name.mono _ _
      | exact chart_airway.mono _ _ _ _
      | exact LeO.none _
      | refine LeO.ite ?_ ?_
      | refine LeO.bind ?_ (fun _ => ?_)
set_option maxHeartbeats 8000000 in
set_option maxRecDepth 100000 in
theorem chart_Check.calls (k : Nat) (A0_0 : Option Addr) (c0_0 : Nat) (l0_0 : List (S40)) (A0_1 : Option Addr) (c0_1 : Nat) (l0_1 : List (S48)) (r : Int) (w : World) (hr0_0 : Kd.C k40 w A0_0 l0_0.length l0_0) (hc0_0 : l0_0.length ≤ c0_0) (hr0_1 : Kd.C k48 w A0_1 l0_1.length l0_1) (hc0_1 : l0_1.length ≤ c0_1) (h : chart_Check.f k l0_0 l0_1 = some r) :
    Calls Try.prog 49 #[.agg #[.slice A0_0 l0_0.length c0_0, .slice A0_1 l0_1.length c0_1]] w fun e w' => e = .returned (.int .i64 r) ∧ Below w.heap.size w w' := by
 have hu25 := Try.underlying25
 have hu40 := Try.underlying40
 have hu36 := Try.underlying36
 have HR0_0 := Aside0.mk hr0_0
 have HC0_0 := Aside0.mk hc0_0
 clear hr0_0 hc0_0
 have HR0_1 := Aside0.mk hr0_1
 have HC0_1 := Aside0.mk hc0_1
 clear hr0_1 hc0_1
 have HB := Aside0.mk (Below.refl w.heap.size w)
 have H : (if (l0_0.length : Int) > 64 then (chart_Check.j0 k true l0_0 l0_1) else (chart_Check.j0 k (decide ((l0_1.length : Int) > 16)) l0_0 l0_1)) = some r := h
 clear h
 have HC2 := Aside0.mk H
 clear H
 go_enter Try.func49, Try.ntmps49
 go_upto_region 1 with (first | ((with_reducible refine gate_dst (N := 1) rfl ?_); (try (refine gate_guard (by rfl) ?_; dsimp only)); refine box_event ?hg (N := 1) ?hd (cs := #[.slice A0_0 l0_0.length c0_0, .slice A0_1 l0_1.length c0_1]) (t := 25) ?hr ?_; (case hd => rfl); (case hg => rfl); (case hr => first | (go_simp; done) | (go_simp; rfl)); intro gb125 hg w3 hbox hb; have n0_ := Aside0.mk (below_step bel_s hb); have n1_ := Aside0.mk (hbox); have n2_ := Aside0.mk ((by rw [hg]; exact (below_size bel_s) : w.heap.size ≤ gb125)); have n3_ := Aside0.mk ((by rw [hg]; exact (below_size bel_s) : w.heap.size ≤ gb125)); clear HB; have HB := n0_; have BK125 := n1_; have GW125 := n2_; have GE125 := n3_; clear n0_ n1_ n2_ n3_; clear hb hbox hg))
 (try simp only [Act.put, List.setIfInBounds_toArray, List.set_cons_zero, List.set_cons_succ])
 go_cut [17] (fun v17 wc => ∃ (kq : Nat) (x17_1 : Bool), v17 = .bool x17_1 ∧ Aside0 (chart_Check.j0 kq x17_1 l0_0 l0_1 = some r) ∧ Aside0 (kq ≤ k) ∧ Aside0 (wc.heap[gb125]? = some (.cells #[(.slice A0_0 l0_0.length c0_0), (.slice A0_1 l0_1.length c0_1)] 25 (0, 0))) ∧ Aside0 (Below w.heap.size w wc))
 case first =>
  have H := HC2.out
  clear HC2
  refine Or.elim (Classical.em ((l0_0.length : Int) > 64)) (fun c4 => ?p2_) (fun c4 => ?n2_)
  case' p2_ =>
   rw [if_pos c4] at H
   have c4b0 : decide (64 < (l0_0.length : Int)) = true := decide_eq_true c4
   have c4b1 : decide (64 < l0_0.length) = true := decide_eq_true (by omega)
   clear c4
   (first | rw [c4b0] | (simp only [i64_w, i32_w]; rw [c4b0]) | skip)
  case' n2_ =>
   rw [if_neg c4] at H
   have c4b0 : decide (64 < (l0_0.length : Int)) = false := decide_eq_false c4
   have c4b1 : decide (64 < l0_0.length) = false := decide_eq_false (by omega)
   clear c4
   (first | rw [c4b0] | (simp only [i64_w, i32_w]; rw [c4b0]) | skip)
  all_goals
   have H' := Aside0.mk H
   clear H
   have hczzb1 : w3.cell? ⟨gb125, 0, none⟩ = some (.slice A0_0 l0_0.length c0_0) := (blk_cell BK125.out 0).trans rfl
   have hczzb2 : w3.cell? ⟨gb125, 1, none⟩ = some (.slice A0_1 l0_1.length c0_1) := (blk_cell BK125.out 1).trans rfl
   have hfzzb1 := blk_frozen BK125.out 0
   have hfzzb2 := blk_frozen BK125.out 1
   go_wp2
   go_meet
   case rel => first | (exact ⟨_, (true), (by first | rfl | (simp; done) | (simp [*]; done)), H', ⟨by first | omega | exact Nat.le_refl _⟩, ⟨by (with_reducible repeat (first | refine blk_drewN ?_ _ | refine blk_drew ?_ | refine blk_alloc ?_ _)); exact BK125.out⟩, ⟨by repeat (first | (with_reducible first | exact HB.out | apply below_alloc | apply pw_below_drewN | apply below_drew1 | refine below_set ?_ GE125.out) | exact HB.out)⟩⟩) | (exact ⟨_, (decide ((l0_1.length : Int) > 16)), (by first | rfl | (simp; done) | (simp [*]; done)), H', ⟨by first | omega | exact Nat.le_refl _⟩, ⟨by (with_reducible repeat (first | refine blk_drewN ?_ _ | refine blk_drew ?_ | refine blk_alloc ?_ _)); exact BK125.out⟩, ⟨by repeat (first | (with_reducible first | exact HB.out | apply below_alloc | apply pw_below_drewN | apply below_drew1 | refine below_set ?_ GE125.out) | exact HB.out)⟩⟩)
 case rest =>
  clear HC2
  (try clear p2); (try clear c4); (try clear c4b0); (try clear c4b1); (try clear hcz5_0); (try clear hcz5_1); (try clear hcz6_0); (try clear hcz6_1); (try clear hfz5_0); (try clear hfz5_1); (try clear hfz6_0); (try clear hfz6_1)
  obtain ⟨kq, x17_1, rfl, HA, HJ1, BK125, HB⟩ := hcut
  cases kq with
  | zero => exact absurd HA.out (by simp [chart_Check.j0])
  | succ kj1 =>
   have H := HA.out
   clear HA
   simp only [chart_Check.j0] at H
   by_cases c7 : x17_1 = true
   · subst c7
     have H1 : (some 2) = some r := by rw [if_pos rfl] at H; exact H
     clear H
     have H := H1
     clear H1
     obtain rfl := Option.some.inj H
     go_wp2
     go_ret
     exact ⟨by first | rfl | (simp [errW_none, errW_some] <;> rfl) | (simp [*, errW_none, errW_some] <;> rfl), by repeat (first | (with_reducible first | exact HB.out | apply below_alloc | apply pw_below_drewN | apply below_drew1 | refine below_set ?_ GE125.out) | exact HB.out)⟩
   · replace c7 := Bool.eq_false_iff.mpr c7
     subst c7
     have H1 : (chart_Check.l0 kj1 l0_0 (l0_0.length : Int) 0 l0_0 l0_1) = some r := by rw [if_neg (show ¬ (false = true) by decide)] at H; exact H
     clear H
     have H := H1
     clear H1
     have H' := Aside0.mk H
     clear H
     have hczzc1 : wc.cell? ⟨gb125, 0, none⟩ = some (.slice A0_0 l0_0.length c0_0) := (blk_cell BK125.out 0).trans rfl
     have hczzc2 : wc.cell? ⟨gb125, 1, none⟩ = some (.slice A0_1 l0_1.length c0_1) := (blk_cell BK125.out 1).trans rfl
     have hfzzc1 := blk_frozen BK125.out 0
     have hfzzc2 := blk_frozen BK125.out 1
     go_wp2
     go_loopg [21] kj1 (fun kq v21 w' => ∃ (x21_2 : Int), v21 = .int .i64 x21_2 ∧ Aside0 (chart_Check.l0 kq l0_0 (l0_0.length : Int) x21_2 l0_0 l0_1 = some r) ∧ Aside0 (kq ≤ kj1) ∧ Aside0 (w'.heap[gb125]? = some (.cells #[(.slice A0_0 l0_0.length c0_0), (.slice A0_1 l0_1.length c0_1)] 25 (0, 0))) ∧ Aside0 (Below w.heap.size w w'))
     case atStart => exact ⟨(0), (by first | rfl | (simp; done) | (simp [*]; done)), H', ⟨Nat.le_refl _⟩, ⟨by (with_reducible repeat (first | refine blk_drewN ?_ _ | refine blk_drew ?_ | refine blk_alloc ?_ _)); exact BK125.out⟩, ⟨by repeat (first | (with_reducible first | exact HB.out | apply below_alloc | apply pw_below_drewN | apply below_drew1 | refine below_set ?_ GE125.out) | exact HB.out)⟩⟩
     case round =>
      clear H'
      (try clear p2); (try clear c4); (try clear c4b0); (try clear c4b1); (try clear c7); (try clear hczzc3); (try clear hczzc4); (try clear hczzc5); (try clear hczzc6); (try clear hczzc1); (try clear hczzc2); (try clear hfzzc3); (try clear hfzzc4); (try clear hfzzc5); (try clear hfzzc6); (try clear hfzzc1); (try clear hfzzc2); (try clear p2)
      obtain ⟨x21_2, rfl, HA, HK2, BK125, HB⟩ := hrel
      cases gk with
      | zero => exact absurd HA.out (by simp [chart_Check.l0])
      | succ k2 =>
       have H := HA.out
       clear HA
       simp only [chart_Check.l0] at H
       refine Or.elim (Classical.em (x21_2 < (l0_0.length : Int))) (fun c9 => ?p4_) (fun c9 => ?n4_)
       case' p4_ =>
        rw [if_pos c9] at H
        have c9b0 : decide (x21_2 < (l0_0.length : Int)) = true := decide_eq_true c9
        clear c9
        refine Or.elim (Classical.em (0 ≤ x21_2)) (fun c10 => ?p5_) (fun c10 => ?n5_)
        case' p5_ =>
         rw [if_pos c10] at H
         have c10b0 : decide (0 ≤ x21_2) = true := decide_eq_true c10
         clear c10
         refine Or.elim (Classical.em (x21_2 < (l0_0.length : Int))) (fun c11 => ?p6_) (fun c11 => ?n6_)
         case' p6_ =>
          rw [if_pos c11] at H
          have c11b0 : decide (x21_2 < (l0_0.length : Int)) = true := decide_eq_true c11
          clear c11
          replace H := Option.bind_eq_some_iff.mp H
          obtain ⟨t128, A120, H⟩ := H
          replace H : (if t128 = true then ((chart_find.f l0_0 l0_1 ((rd_T40 l0_0 x21_2).f0)).bind fun t129 => (if t129 < x21_2 then (some 7) else ((plane_Check.f ((rd_T40 l0_0 x21_2).f1.f0) ((rd_T40 l0_0 x21_2).f1.f1)).bind fun t130 => (if t130 = 0 then (chart_Check.l0 k2 l0_0 (l0_0.length : Int) (wrap64 (x21_2 + 1)) l0_0 l0_1) else (some t130))))) else (some 5)) = some r := H
          have A12 := Aside0.mk A120
          clear A120
          refine Or.elim (Classical.em (t128 = true)) (fun c13 => ?p7_) (fun c13 => ?n7_)
          case' p7_ =>
           subst c13
           have H1 : ((chart_find.f l0_0 l0_1 ((rd_T40 l0_0 x21_2).f0)).bind fun t129 => (if t129 < x21_2 then (some 7) else ((plane_Check.f ((rd_T40 l0_0 x21_2).f1.f0) ((rd_T40 l0_0 x21_2).f1.f1)).bind fun t130 => (if t130 = 0 then (chart_Check.l0 k2 l0_0 (l0_0.length : Int) (wrap64 (x21_2 + 1)) l0_0 l0_1) else (some t130))))) = some r := by rw [if_pos rfl] at H; exact H
           clear H
           have H := H1
           clear H1
           replace H := Option.bind_eq_some_iff.mp H
           obtain ⟨t129, A140, H⟩ := H
           replace H : (if t129 < x21_2 then (some 7) else ((plane_Check.f ((rd_T40 l0_0 x21_2).f1.f0) ((rd_T40 l0_0 x21_2).f1.f1)).bind fun t130 => (if t130 = 0 then (chart_Check.l0 k2 l0_0 (l0_0.length : Int) (wrap64 (x21_2 + 1)) l0_0 l0_1) else (some t130)))) = some r := H
           have A14 := Aside0.mk A140
           clear A140
           refine Or.elim (Classical.em (t129 < x21_2)) (fun c15 => ?p8_) (fun c15 => ?n8_)
           case' p8_ =>
            rw [if_pos c15] at H
            have c15b0 : decide (t129 < x21_2) = true := decide_eq_true c15
            clear c15
            have hm3_0 := Aside0.mk trivial
           case' n8_ =>
            rw [if_neg c15] at H
            have c15b0 : decide (t129 < x21_2) = false := decide_eq_false c15
            clear c15
            replace H := Option.bind_eq_some_iff.mp H
            obtain ⟨t130, A230, H⟩ := H
            replace H : (if t130 = 0 then (chart_Check.l0 k2 l0_0 (l0_0.length : Int) (wrap64 (x21_2 + 1)) l0_0 l0_1) else (some t130)) = some r := H
            have A23 := Aside0.mk A230
            clear A230
            refine Or.elim (Classical.em (t130 = 0)) (fun c24 => ?p9_) (fun c24 => ?n9_)
            case' p9_ =>
             rw [if_pos c24] at H
             have c24b0 : (t130 == 0) = true := beq_iff_eq.mpr c24
             have c24b1 : (t130 != 0) = false := bne_eq_false_iff_eq.mpr c24
             clear c24
             have hm3_1 := Aside0.mk trivial
            case' n9_ =>
             rw [if_neg c24] at H
             have c24b0 : (t130 == 0) = false := beq_eq_false_iff_ne.mpr c24
             have c24b1 : (t130 != 0) = true := bne_iff_ne.mpr c24
             have hm3_0 := Aside0.mk trivial
          case' n7_ =>
           replace c13 := Bool.eq_false_iff.mpr c13
           subst c13
           have H1 : (some 5) = some r := by rw [if_neg (show ¬ (false = true) by decide)] at H; exact H
           clear H
           have H := H1
           clear H1
           have hm3_0 := Aside0.mk trivial
         case' n6_ =>
          rw [if_neg c11] at H
          exact absurd H (by simp)
        case' n5_ =>
         rw [if_neg c10] at H
         exact absurd H (by simp)
       case' n4_ =>
        rw [if_neg c9] at H
        have c9b0 : decide (x21_2 < (l0_0.length : Int)) = false := decide_eq_false c9
        clear c9
        have hm3_2 := Aside0.mk trivial
       all_goals
        first
         | clear hm3_0
           obtain rfl := Option.some.inj H
           have p126 : 0 ≤ (x21_2 : Int) := of_decide_eq_true (by first | (with_reducible assumption) | assumption)
           have q126 : x21_2 < (l0_0.length : Int) := of_decide_eq_true (by first | (with_reducible assumption) | assumption)
           obtain ⟨ad126, e126, hx126_0, hx126_1, hx126_2⟩ := at_T40 HR0_0.out x21_2 p126 q126
           cases e126
           replace hx126_0 := (HB.out.cell (World.block_lt_of_cell? w _ hx126_0)).trans hx126_0
           replace hx126_1 := (HB.out.cell (World.block_lt_of_cell? w _ hx126_1)).trans hx126_1
           replace hx126_2 := (HB.out.cell (World.block_lt_of_cell? w _ hx126_2)).trans hx126_2
           replace p126 := eq_true p126
           replace q126 := eq_true q126
           go_wp2_with (first | ((with_reducible refine gate_dst (N := 4) rfl ?_); (try (refine gate_guard (by rfl) ?_; dsimp only)); refine box_event ?hg (N := 4) ?hd (cs := #[.string (⟨#[]⟩ : ByteArray), .int .i64 0, .int .i64 0]) (t := 40) ?hr ?_; (case hd => rfl); (case hg => rfl); (case hr => first | (go_simp; done) | (go_simp; rfl)); intro gb127 hg wxddf31 hbox hb; have n0_ := Aside0.mk (blk_below (g := gb125) (o := .cells #[.slice (some ad126) l0_0.length c0_0, .slice A0_1 l0_1.length c0_1] 25 (0, 0)) blk_s hb); have n1_ := Aside0.mk (below_step bel_s hb); have n2_ := Aside0.mk (hbox); have n3_ := Aside0.mk ((by rw [hg]; exact (below_size bel_s) : w.heap.size ≤ gb127)); have n4_ := Aside0.mk ((by rw [hg]; exact (below_size bel_s) : w.heap.size ≤ gb127)); have n5_ := Aside0.mk ((by rw [hg]; exact Nat.ne_of_lt (blk_lt (g := gb125) (o := .cells #[.slice (some ad126) l0_0.length c0_0, .slice A0_1 l0_1.length c0_1] 25 (0, 0)) blk_s) : gb125 ≠ gb127)); have n6_ := Aside0.mk ((by rw [hg]; exact Nat.ne_of_gt (blk_lt (g := gb125) (o := .cells #[.slice (some ad126) l0_0.length c0_0, .slice A0_1 l0_1.length c0_1] 25 (0, 0)) blk_s) : gb127 ≠ gb125)); clear BK125; clear HB; have BK125 := n0_; have HB := n1_; have BK127 := n2_; have GW127 := n3_; have GE127 := n4_; have NB125_127 := n5_; have NB127_125 := n6_; clear n0_ n1_ n2_ n3_ n4_ n5_ n6_; clear hb hbox hg; have hnbxddf31 := NB127_125.out; have hncxddf31 := NB125_127.out; have hczxddf31 : wxddf31.cell? ⟨gb127, 0, none⟩ = some (.string (⟨#[]⟩ : ByteArray)) := (blk_cell BK127.out 0).trans rfl; have hczxddf32 : wxddf31.cell? ⟨gb127, 1, none⟩ = some (.int .i64 0) := (blk_cell BK127.out 1).trans rfl; have hczxddf33 : wxddf31.cell? ⟨gb127, 2, none⟩ = some (.int .i64 0) := (blk_cell BK127.out 2).trans rfl; have hfzxddf31 := blk_frozen BK127.out 0; have hfzxddf32 := blk_frozen BK127.out 1; have hfzxddf33 := blk_frozen BK127.out 2) | ((with_reducible refine gate_callee (f := 48) rfl ?_); refine goesL_ (some 29) rfl rfl Try.func48 (by kernel_rfl) rfl #[.string ((rd_T40 l0_0 x21_2).f0)] rfl any_s ?_; (with_reducible refine (chart_Name.calls k2 ((rd_T40 l0_0 x21_2).f0) true _ A12.out).mono ?_); rintro e wx57c51 ⟨rfl, hb⟩; refine ⟨_, rfl, ?_⟩; have n0_ := Aside0.mk (blk_below (g := gb125) (o := .cells #[.slice (some ad126) l0_0.length c0_0, .slice A0_1 l0_1.length c0_1] 25 (0, 0)) blk_s hb); have n1_ := Aside0.mk (blk_below (g := gb127) (o := .cells #[.string ((rd_T40 l0_0 x21_2).f0), .int .i64 ((rd_T40 l0_0 x21_2).f1.f0), .int .i64 ((rd_T40 l0_0 x21_2).f1.f1)] 40 (0, 0)) (by (with_reducible repeat (first | refine blk_drewN ?_ _ | refine blk_drew ?_ | refine blk_alloc ?_ _)); refine blk_put (cs := #[.string ((rd_T40 l0_0 x21_2).f0), .int .i64 ((rd_T40 l0_0 x21_2).f1.f0), .int .i64 0]) ?_ 2 _ rfl; (with_reducible repeat (first | refine blk_drewN ?_ _ | refine blk_drew ?_ | refine blk_alloc ?_ _)); refine blk_put (cs := #[.string ((rd_T40 l0_0 x21_2).f0), .int .i64 0, .int .i64 0]) ?_ 1 _ rfl; (with_reducible repeat (first | refine blk_drewN ?_ _ | refine blk_drew ?_ | refine blk_alloc ?_ _)); refine blk_put (cs := #[.string (⟨#[]⟩ : ByteArray), .int .i64 0, .int .i64 0]) ?_ 0 _ rfl; (with_reducible repeat (first | refine blk_drewN ?_ _ | refine blk_drew ?_ | refine blk_alloc ?_ _)); exact BK127.out) hb); have n2_ := Aside0.mk (below_step bel_s hb); clear BK125; clear BK127; clear HB; have BK125 := n0_; have BK127 := n1_; have HB := n2_; clear n0_ n1_ n2_; (try clear hb); (try clear hb2); (try clear hk); (try clear hi); have hczx57c51 : wx57c51.cell? ⟨gb125, 0, none⟩ = some (.slice (some ad126) l0_0.length c0_0) := (blk_cell BK125.out 0).trans rfl; have hczx57c52 : wx57c51.cell? ⟨gb125, 1, none⟩ = some (.slice A0_1 l0_1.length c0_1) := (blk_cell BK125.out 1).trans rfl; have hfzx57c51 := blk_frozen BK125.out 0; have hfzx57c52 := blk_frozen BK125.out 1; have hczx57c53 : wx57c51.cell? ⟨gb127, 0, none⟩ = some (.string ((rd_T40 l0_0 x21_2).f0)) := (blk_cell BK127.out 0).trans rfl; have hczx57c54 : wx57c51.cell? ⟨gb127, 1, none⟩ = some (.int .i64 ((rd_T40 l0_0 x21_2).f1.f0)) := (blk_cell BK127.out 1).trans rfl; have hczx57c55 : wx57c51.cell? ⟨gb127, 2, none⟩ = some (.int .i64 ((rd_T40 l0_0 x21_2).f1.f1)) := (blk_cell BK127.out 2).trans rfl; have hfzx57c53 := blk_frozen BK127.out 0; have hfzx57c54 := blk_frozen BK127.out 1; have hfzx57c55 := blk_frozen BK127.out 2) | ((with_reducible refine gate_callee (f := 48) rfl ?_); refine goesL_ (some 29) rfl rfl Try.func48 (by kernel_rfl) rfl #[.string ((rd_T40 l0_0 x21_2).f0)] rfl any_s ?_; (with_reducible refine (chart_Name.calls k2 ((rd_T40 l0_0 x21_2).f0) false _ A12.out).mono ?_); rintro e wx67361 ⟨rfl, hb⟩; refine ⟨_, rfl, ?_⟩; have n0_ := Aside0.mk (blk_below (g := gb125) (o := .cells #[.slice (some ad126) l0_0.length c0_0, .slice A0_1 l0_1.length c0_1] 25 (0, 0)) blk_s hb); have n1_ := Aside0.mk (blk_below (g := gb127) (o := .cells #[.string ((rd_T40 l0_0 x21_2).f0), .int .i64 ((rd_T40 l0_0 x21_2).f1.f0), .int .i64 ((rd_T40 l0_0 x21_2).f1.f1)] 40 (0, 0)) (by (with_reducible repeat (first | refine blk_drewN ?_ _ | refine blk_drew ?_ | refine blk_alloc ?_ _)); refine blk_put (cs := #[.string ((rd_T40 l0_0 x21_2).f0), .int .i64 ((rd_T40 l0_0 x21_2).f1.f0), .int .i64 0]) ?_ 2 _ rfl; (with_reducible repeat (first | refine blk_drewN ?_ _ | refine blk_drew ?_ | refine blk_alloc ?_ _)); refine blk_put (cs := #[.string ((rd_T40 l0_0 x21_2).f0), .int .i64 0, .int .i64 0]) ?_ 1 _ rfl; (with_reducible repeat (first | refine blk_drewN ?_ _ | refine blk_drew ?_ | refine blk_alloc ?_ _)); refine blk_put (cs := #[.string (⟨#[]⟩ : ByteArray), .int .i64 0, .int .i64 0]) ?_ 0 _ rfl; (with_reducible repeat (first | refine blk_drewN ?_ _ | refine blk_drew ?_ | refine blk_alloc ?_ _)); exact BK127.out) hb); have n2_ := Aside0.mk (below_step bel_s hb); clear BK125; clear BK127; clear HB; have BK125 := n0_; have BK127 := n1_; have HB := n2_; clear n0_ n1_ n2_; (try clear hb); (try clear hb2); (try clear hk); (try clear hi)) | ((with_reducible refine gate_callee (f := 55) rfl ?_); refine goesL_ (some 35) rfl rfl Try.func55 (by kernel_rfl) rfl #[.agg #[.slice (some ad126) l0_0.length c0_0, .slice A0_1 l0_1.length c0_1], .string ((rd_T40 l0_0 x21_2).f0)] rfl any_s ?_; (with_reducible refine (chart_find.calls _ _ l0_0 _ _ l0_1 ((rd_T40 l0_0 x21_2).f0) t129 _ ?side1 ?side2 ?side3 ?side4 A14.out).mono ?_); (case side1 => repeat (first | exact (Kd.C_below HR0_0.out HB.out) | (with_reducible refine Kd.C_alloc ?_ _) | (with_reducible refine Kd.C_drewN ?_ _) | (with_reducible refine Kd.C_drew ?_))); (case side2 => exact HC0_0.out); (case side3 => repeat (first | exact (Kd.C_below HR0_1.out HB.out) | (with_reducible refine Kd.C_alloc ?_ _) | (with_reducible refine Kd.C_drewN ?_ _) | (with_reducible refine Kd.C_drew ?_))); (case side4 => exact HC0_1.out); rintro e wx9a2d1 ⟨rfl, hb⟩; refine ⟨_, rfl, ?_⟩; have n0_ := Aside0.mk (blk_below (g := gb125) (o := .cells #[.slice (some ad126) l0_0.length c0_0, .slice A0_1 l0_1.length c0_1] 25 (0, 0)) blk_s hb); have n1_ := Aside0.mk (blk_below (g := gb127) (o := .cells #[.string ((rd_T40 l0_0 x21_2).f0), .int .i64 ((rd_T40 l0_0 x21_2).f1.f0), .int .i64 ((rd_T40 l0_0 x21_2).f1.f1)] 40 (0, 0)) blk_s hb); have n2_ := Aside0.mk (below_step bel_s hb); clear BK125; clear BK127; clear HB; have BK125 := n0_; have BK127 := n1_; have HB := n2_; clear n0_ n1_ n2_; (try clear hb); (try clear hb2); (try clear hk); (try clear hi); have hczx9a2d1 : wx9a2d1.cell? ⟨gb127, 0, none⟩ = some (.string ((rd_T40 l0_0 x21_2).f0)) := (blk_cell BK127.out 0).trans rfl; have hczx9a2d2 : wx9a2d1.cell? ⟨gb127, 1, none⟩ = some (.int .i64 ((rd_T40 l0_0 x21_2).f1.f0)) := (blk_cell BK127.out 1).trans rfl; have hczx9a2d3 : wx9a2d1.cell? ⟨gb127, 2, none⟩ = some (.int .i64 ((rd_T40 l0_0 x21_2).f1.f1)) := (blk_cell BK127.out 2).trans rfl; have hfzx9a2d1 := blk_frozen BK127.out 0; have hfzx9a2d2 := blk_frozen BK127.out 1; have hfzx9a2d3 := blk_frozen BK127.out 2) | ((with_reducible refine gate_callee (f := 55) rfl ?_); refine goesL_ (some 35) rfl rfl Try.func55 (by kernel_rfl) rfl #[.agg #[.slice (some ad126) l0_0.length c0_0, .slice A0_1 l0_1.length c0_1], .string ((rd_T40 l0_0 x21_2).f0)] rfl any_s ?_; (with_reducible refine (chart_find.calls _ _ l0_0 _ _ l0_1 ((rd_T40 l0_0 x21_2).f0) t129 _ ?side1 ?side2 ?side3 ?side4 A14.out).mono ?_); (case side1 => repeat (first | exact (Kd.C_below HR0_0.out HB.out) | (with_reducible refine Kd.C_alloc ?_ _) | (with_reducible refine Kd.C_drewN ?_ _) | (with_reducible refine Kd.C_drew ?_))); (case side2 => exact HC0_0.out); (case side3 => repeat (first | exact (Kd.C_below HR0_1.out HB.out) | (with_reducible refine Kd.C_alloc ?_ _) | (with_reducible refine Kd.C_drewN ?_ _) | (with_reducible refine Kd.C_drew ?_))); (case side4 => exact HC0_1.out); rintro e wx28451 ⟨rfl, hb⟩; refine ⟨_, rfl, ?_⟩; have n0_ := Aside0.mk (blk_below (g := gb125) (o := .cells #[.slice (some ad126) l0_0.length c0_0, .slice A0_1 l0_1.length c0_1] 25 (0, 0)) blk_s hb); have n1_ := Aside0.mk (blk_below (g := gb127) (o := .cells #[.string ((rd_T40 l0_0 x21_2).f0), .int .i64 ((rd_T40 l0_0 x21_2).f1.f0), .int .i64 ((rd_T40 l0_0 x21_2).f1.f1)] 40 (0, 0)) blk_s hb); have n2_ := Aside0.mk (below_step bel_s hb); clear BK125; clear BK127; clear HB; have BK125 := n0_; have BK127 := n1_; have HB := n2_; clear n0_ n1_ n2_; (try clear hb); (try clear hb2); (try clear hk); (try clear hi)) | ((with_reducible refine gate_callee (f := 57) rfl ?_); refine goesL_ (some 40) rfl rfl Try.func57 (by kernel_rfl) rfl #[.agg #[.int .i64 ((rd_T40 l0_0 x21_2).f1.f0), .int .i64 ((rd_T40 l0_0 x21_2).f1.f1)]] rfl any_s ?_; (with_reducible refine (plane_Check.calls ((rd_T40 l0_0 x21_2).f1.f0) ((rd_T40 l0_0 x21_2).f1.f1) t130 _ A23.out).mono ?_); rintro e wx269c1 ⟨rfl, hb⟩; refine ⟨_, rfl, ?_⟩; have n0_ := Aside0.mk (blk_below (g := gb125) (o := .cells #[.slice (some ad126) l0_0.length c0_0, .slice A0_1 l0_1.length c0_1] 25 (0, 0)) blk_s hb); have n1_ := Aside0.mk (blk_below (g := gb127) (o := .cells #[.string ((rd_T40 l0_0 x21_2).f0), .int .i64 ((rd_T40 l0_0 x21_2).f1.f0), .int .i64 ((rd_T40 l0_0 x21_2).f1.f1)] 40 (0, 0)) blk_s hb); have n2_ := Aside0.mk (below_step bel_s hb); clear BK125; clear BK127; clear HB; have BK125 := n0_; have BK127 := n1_; have HB := n2_; clear n0_ n1_ n2_; (try clear hb); (try clear hb2); (try clear hk); (try clear hi)))
           go_ret
           exact ⟨by first | rfl | (simp [errW_none, errW_some] <;> rfl) | (simp [*, errW_none, errW_some] <;> rfl), by repeat (first | (with_reducible first | exact HB.out | apply below_alloc | apply pw_below_drewN | apply below_drew1 | refine below_set ?_ GE125.out | refine below_set ?_ GE127.out) | exact HB.out)⟩
         | (first | (have _hm := hm3_1) | (have _hm := hm3_2))
           have H' := Aside0.mk H
           clear H
           first
            | clear hm3_1
              have p126 : 0 ≤ (x21_2 : Int) := of_decide_eq_true (by first | (with_reducible assumption) | assumption)
              have q126 : x21_2 < (l0_0.length : Int) := of_decide_eq_true (by first | (with_reducible assumption) | assumption)
              obtain ⟨ad126, e126, hx126_0, hx126_1, hx126_2⟩ := at_T40 HR0_0.out x21_2 p126 q126
              cases e126
              replace hx126_0 := (HB.out.cell (World.block_lt_of_cell? w _ hx126_0)).trans hx126_0
              replace hx126_1 := (HB.out.cell (World.block_lt_of_cell? w _ hx126_1)).trans hx126_1
              replace hx126_2 := (HB.out.cell (World.block_lt_of_cell? w _ hx126_2)).trans hx126_2
              replace p126 := eq_true p126
              replace q126 := eq_true q126
              go_wp2_with (first | ((with_reducible refine gate_dst (N := 4) rfl ?_); (try (refine gate_guard (by rfl) ?_; dsimp only)); refine box_event ?hg (N := 4) ?hd (cs := #[.string (⟨#[]⟩ : ByteArray), .int .i64 0, .int .i64 0]) (t := 40) ?hr ?_; (case hd => rfl); (case hg => rfl); (case hr => first | (go_simp; done) | (go_simp; rfl)); intro gb127 hg wxddf31 hbox hb; have n0_ := Aside0.mk (blk_below (g := gb125) (o := .cells #[.slice (some ad126) l0_0.length c0_0, .slice A0_1 l0_1.length c0_1] 25 (0, 0)) blk_s hb); have n1_ := Aside0.mk (below_step bel_s hb); have n2_ := Aside0.mk (hbox); have n3_ := Aside0.mk ((by rw [hg]; exact (below_size bel_s) : w.heap.size ≤ gb127)); have n4_ := Aside0.mk ((by rw [hg]; exact (below_size bel_s) : w.heap.size ≤ gb127)); have n5_ := Aside0.mk ((by rw [hg]; exact Nat.ne_of_lt (blk_lt (g := gb125) (o := .cells #[.slice (some ad126) l0_0.length c0_0, .slice A0_1 l0_1.length c0_1] 25 (0, 0)) blk_s) : gb125 ≠ gb127)); have n6_ := Aside0.mk ((by rw [hg]; exact Nat.ne_of_gt (blk_lt (g := gb125) (o := .cells #[.slice (some ad126) l0_0.length c0_0, .slice A0_1 l0_1.length c0_1] 25 (0, 0)) blk_s) : gb127 ≠ gb125)); clear BK125; clear HB; have BK125 := n0_; have HB := n1_; have BK127 := n2_; have GW127 := n3_; have GE127 := n4_; have NB125_127 := n5_; have NB127_125 := n6_; clear n0_ n1_ n2_ n3_ n4_ n5_ n6_; clear hb hbox hg; have hnbxddf31 := NB127_125.out; have hncxddf31 := NB125_127.out; have hczxddf31 : wxddf31.cell? ⟨gb127, 0, none⟩ = some (.string (⟨#[]⟩ : ByteArray)) := (blk_cell BK127.out 0).trans rfl; have hczxddf32 : wxddf31.cell? ⟨gb127, 1, none⟩ = some (.int .i64 0) := (blk_cell BK127.out 1).trans rfl; have hczxddf33 : wxddf31.cell? ⟨gb127, 2, none⟩ = some (.int .i64 0) := (blk_cell BK127.out 2).trans rfl; have hfzxddf31 := blk_frozen BK127.out 0; have hfzxddf32 := blk_frozen BK127.out 1; have hfzxddf33 := blk_frozen BK127.out 2) | ((with_reducible refine gate_callee (f := 48) rfl ?_); refine goesL_ (some 29) rfl rfl Try.func48 (by kernel_rfl) rfl #[.string ((rd_T40 l0_0 x21_2).f0)] rfl any_s ?_; (with_reducible refine (chart_Name.calls k2 ((rd_T40 l0_0 x21_2).f0) true _ A12.out).mono ?_); rintro e wx57c51 ⟨rfl, hb⟩; refine ⟨_, rfl, ?_⟩; have n0_ := Aside0.mk (blk_below (g := gb125) (o := .cells #[.slice (some ad126) l0_0.length c0_0, .slice A0_1 l0_1.length c0_1] 25 (0, 0)) blk_s hb); have n1_ := Aside0.mk (blk_below (g := gb127) (o := .cells #[.string ((rd_T40 l0_0 x21_2).f0), .int .i64 ((rd_T40 l0_0 x21_2).f1.f0), .int .i64 ((rd_T40 l0_0 x21_2).f1.f1)] 40 (0, 0)) (by (with_reducible repeat (first | refine blk_drewN ?_ _ | refine blk_drew ?_ | refine blk_alloc ?_ _)); refine blk_put (cs := #[.string ((rd_T40 l0_0 x21_2).f0), .int .i64 ((rd_T40 l0_0 x21_2).f1.f0), .int .i64 0]) ?_ 2 _ rfl; (with_reducible repeat (first | refine blk_drewN ?_ _ | refine blk_drew ?_ | refine blk_alloc ?_ _)); refine blk_put (cs := #[.string ((rd_T40 l0_0 x21_2).f0), .int .i64 0, .int .i64 0]) ?_ 1 _ rfl; (with_reducible repeat (first | refine blk_drewN ?_ _ | refine blk_drew ?_ | refine blk_alloc ?_ _)); refine blk_put (cs := #[.string (⟨#[]⟩ : ByteArray), .int .i64 0, .int .i64 0]) ?_ 0 _ rfl; (with_reducible repeat (first | refine blk_drewN ?_ _ | refine blk_drew ?_ | refine blk_alloc ?_ _)); exact BK127.out) hb); have n2_ := Aside0.mk (below_step bel_s hb); clear BK125; clear BK127; clear HB; have BK125 := n0_; have BK127 := n1_; have HB := n2_; clear n0_ n1_ n2_; (try clear hb); (try clear hb2); (try clear hk); (try clear hi); have hczx57c51 : wx57c51.cell? ⟨gb125, 0, none⟩ = some (.slice (some ad126) l0_0.length c0_0) := (blk_cell BK125.out 0).trans rfl; have hczx57c52 : wx57c51.cell? ⟨gb125, 1, none⟩ = some (.slice A0_1 l0_1.length c0_1) := (blk_cell BK125.out 1).trans rfl; have hfzx57c51 := blk_frozen BK125.out 0; have hfzx57c52 := blk_frozen BK125.out 1; have hczx57c53 : wx57c51.cell? ⟨gb127, 0, none⟩ = some (.string ((rd_T40 l0_0 x21_2).f0)) := (blk_cell BK127.out 0).trans rfl; have hczx57c54 : wx57c51.cell? ⟨gb127, 1, none⟩ = some (.int .i64 ((rd_T40 l0_0 x21_2).f1.f0)) := (blk_cell BK127.out 1).trans rfl; have hczx57c55 : wx57c51.cell? ⟨gb127, 2, none⟩ = some (.int .i64 ((rd_T40 l0_0 x21_2).f1.f1)) := (blk_cell BK127.out 2).trans rfl; have hfzx57c53 := blk_frozen BK127.out 0; have hfzx57c54 := blk_frozen BK127.out 1; have hfzx57c55 := blk_frozen BK127.out 2) | ((with_reducible refine gate_callee (f := 55) rfl ?_); refine goesL_ (some 35) rfl rfl Try.func55 (by kernel_rfl) rfl #[.agg #[.slice (some ad126) l0_0.length c0_0, .slice A0_1 l0_1.length c0_1], .string ((rd_T40 l0_0 x21_2).f0)] rfl any_s ?_; (with_reducible refine (chart_find.calls _ _ l0_0 _ _ l0_1 ((rd_T40 l0_0 x21_2).f0) t129 _ ?side1 ?side2 ?side3 ?side4 A14.out).mono ?_); (case side1 => repeat (first | exact (Kd.C_below HR0_0.out HB.out) | (with_reducible refine Kd.C_alloc ?_ _) | (with_reducible refine Kd.C_drewN ?_ _) | (with_reducible refine Kd.C_drew ?_))); (case side2 => exact HC0_0.out); (case side3 => repeat (first | exact (Kd.C_below HR0_1.out HB.out) | (with_reducible refine Kd.C_alloc ?_ _) | (with_reducible refine Kd.C_drewN ?_ _) | (with_reducible refine Kd.C_drew ?_))); (case side4 => exact HC0_1.out); rintro e wx9a2d1 ⟨rfl, hb⟩; refine ⟨_, rfl, ?_⟩; have n0_ := Aside0.mk (blk_below (g := gb125) (o := .cells #[.slice (some ad126) l0_0.length c0_0, .slice A0_1 l0_1.length c0_1] 25 (0, 0)) blk_s hb); have n1_ := Aside0.mk (blk_below (g := gb127) (o := .cells #[.string ((rd_T40 l0_0 x21_2).f0), .int .i64 ((rd_T40 l0_0 x21_2).f1.f0), .int .i64 ((rd_T40 l0_0 x21_2).f1.f1)] 40 (0, 0)) blk_s hb); have n2_ := Aside0.mk (below_step bel_s hb); clear BK125; clear BK127; clear HB; have BK125 := n0_; have BK127 := n1_; have HB := n2_; clear n0_ n1_ n2_; (try clear hb); (try clear hb2); (try clear hk); (try clear hi); have hczx9a2d1 : wx9a2d1.cell? ⟨gb127, 0, none⟩ = some (.string ((rd_T40 l0_0 x21_2).f0)) := (blk_cell BK127.out 0).trans rfl; have hczx9a2d2 : wx9a2d1.cell? ⟨gb127, 1, none⟩ = some (.int .i64 ((rd_T40 l0_0 x21_2).f1.f0)) := (blk_cell BK127.out 1).trans rfl; have hczx9a2d3 : wx9a2d1.cell? ⟨gb127, 2, none⟩ = some (.int .i64 ((rd_T40 l0_0 x21_2).f1.f1)) := (blk_cell BK127.out 2).trans rfl; have hfzx9a2d1 := blk_frozen BK127.out 0; have hfzx9a2d2 := blk_frozen BK127.out 1; have hfzx9a2d3 := blk_frozen BK127.out 2) | ((with_reducible refine gate_callee (f := 57) rfl ?_); refine goesL_ (some 40) rfl rfl Try.func57 (by kernel_rfl) rfl #[.agg #[.int .i64 ((rd_T40 l0_0 x21_2).f1.f0), .int .i64 ((rd_T40 l0_0 x21_2).f1.f1)]] rfl any_s ?_; (with_reducible refine (plane_Check.calls ((rd_T40 l0_0 x21_2).f1.f0) ((rd_T40 l0_0 x21_2).f1.f1) t130 _ A23.out).mono ?_); rintro e wx269c1 ⟨rfl, hb⟩; refine ⟨_, rfl, ?_⟩; have n0_ := Aside0.mk (blk_below (g := gb125) (o := .cells #[.slice (some ad126) l0_0.length c0_0, .slice A0_1 l0_1.length c0_1] 25 (0, 0)) blk_s hb); have n1_ := Aside0.mk (blk_below (g := gb127) (o := .cells #[.string ((rd_T40 l0_0 x21_2).f0), .int .i64 ((rd_T40 l0_0 x21_2).f1.f0), .int .i64 ((rd_T40 l0_0 x21_2).f1.f1)] 40 (0, 0)) blk_s hb); have n2_ := Aside0.mk (below_step bel_s hb); clear BK125; clear BK127; clear HB; have BK125 := n0_; have BK127 := n1_; have HB := n2_; clear n0_ n1_ n2_; (try clear hb); (try clear hb2); (try clear hk); (try clear hi)))
              go_roundg k2
              case measure => have := HJ1.out; have := HK2.out; omega
              case rel => exact ⟨(wrap64 (x21_2 + 1)), (by first | rfl | (simp; done) | (simp [*]; done)), H', ⟨by have := HJ1.out; have := HK2.out; omega⟩, ⟨by (with_reducible repeat (first | refine blk_drewN ?_ _ | refine blk_drew ?_ | refine blk_alloc ?_ _)); exact BK125.out⟩, ⟨by repeat (first | (with_reducible first | exact HB.out | apply below_alloc | apply pw_below_drewN | apply below_drew1 | refine below_set ?_ GE125.out | refine below_set ?_ GE127.out) | exact HB.out)⟩⟩
            | clear hm3_2
              have hczze1 : wr.cell? ⟨gb125, 0, none⟩ = some (.slice A0_0 l0_0.length c0_0) := (blk_cell BK125.out 0).trans rfl
              have hczze2 : wr.cell? ⟨gb125, 1, none⟩ = some (.slice A0_1 l0_1.length c0_1) := (blk_cell BK125.out 1).trans rfl
              have hfzze1 := blk_frozen BK125.out 0
              have hfzze2 := blk_frozen BK125.out 1
              go_wp2
              go_loopg [48] k2 (fun kq v48 w' => ∃ (x48_3 : Int), v48 = .int .i64 x48_3 ∧ Aside0 (chart_Check.l1 kq (l0_1.length : Int) x48_3 l0_0 l0_1 = some r) ∧ Aside0 (kq ≤ k2) ∧ Aside0 (w'.heap[gb125]? = some (.cells #[(.slice A0_0 l0_0.length c0_0), (.slice A0_1 l0_1.length c0_1)] 25 (0, 0))) ∧ Aside0 (Below w.heap.size w w'))
              case atStart => exact ⟨(0), (by first | rfl | (simp; done) | (simp [*]; done)), H', ⟨Nat.le_refl _⟩, ⟨by (with_reducible repeat (first | refine blk_drewN ?_ _ | refine blk_drew ?_ | refine blk_alloc ?_ _)); exact BK125.out⟩, ⟨by repeat (first | (with_reducible first | exact HB.out | apply below_alloc | apply pw_below_drewN | apply below_drew1 | refine below_set ?_ GE125.out) | exact HB.out)⟩⟩
              case round =>
               clear H'
               (try clear c1); (try clear p1); (try clear q1); (try clear hx1); (try clear c2); (try clear p2); (try clear c3); (try clear c4); (try clear c4b0); (try clear c4b1); (try clear c5); (try clear p6); (try clear c7); (try clear c9); (try clear c9b0); (try clear c10); (try clear c10b0); (try clear c11); (try clear c11b0); (try clear p12); (try clear q12); (try clear hx12); (try clear c13); (try clear c15); (try clear c15b0); (try clear c17); (try clear c24); (try clear c24b0); (try clear c24b1); (try clear c26); (try clear c35); (try clear c44); (try clear hczze3); (try clear hczze4); (try clear hczze5); (try clear hczze6); (try clear hczze7); (try clear hczze8); (try clear hczze9); (try clear hczze10)
               (try clear hczze3); (try clear hczze4); (try clear hczze5); (try clear hczze6); (try clear hczze7); (try clear hczze8); (try clear hczze9); (try clear hczze10); (try clear hczze11); (try clear hczze12); (try clear hczze13); (try clear hczze3); (try clear hczze4); (try clear hczze5); (try clear hczze6); (try clear hczze7); (try clear hczze8); (try clear hczze9); (try clear hczze10); (try clear hczze11); (try clear hczze12); (try clear hczze13); (try clear hczze3); (try clear hczze4); (try clear hczze5); (try clear hczze1); (try clear hczze2); (try clear hczze14); (try clear hczze15); (try clear hczze16); (try clear hczze17); (try clear hczzc1); (try clear hczzc2); (try clear hfzze3); (try clear hfzze4); (try clear hfzze5); (try clear hfzze6); (try clear hfzze7); (try clear hfzze8); (try clear hfzze9)
               (try clear hfzze10); (try clear hfzze3); (try clear hfzze4); (try clear hfzze5); (try clear hfzze6); (try clear hfzze7); (try clear hfzze8); (try clear hfzze9); (try clear hfzze10); (try clear hfzze11); (try clear hfzze12); (try clear hfzze13); (try clear hfzze3); (try clear hfzze4); (try clear hfzze5); (try clear hfzze6); (try clear hfzze7); (try clear hfzze8); (try clear hfzze9); (try clear hfzze10); (try clear hfzze11); (try clear hfzze12); (try clear hfzze13); (try clear hfzze3); (try clear hfzze4); (try clear hfzze5); (try clear hfzze1); (try clear hfzze2); (try clear hfzze14); (try clear hfzze15); (try clear hfzze16); (try clear hfzze17); (try clear hfzzc1); (try clear hfzzc2); (try clear hx126_0); (try clear hx126_1); (try clear hx126_2); (try clear p126); (try clear p2); (try clear q126)
               obtain ⟨x48_3, rfl, HA, HK3, BK125, HB⟩ := hrel
               cases gk with
               | zero => exact absurd HA.out (by simp [chart_Check.l1])
               | succ k3 =>
                have H := HA.out
                clear HA
                simp only [chart_Check.l1] at H
                refine Or.elim (Classical.em (x48_3 < (l0_1.length : Int))) (fun c48 => ?p11_) (fun c48 => ?n11_)
                case' p11_ =>
                 rw [if_pos c48] at H
                 have c48b0 : decide (x48_3 < (l0_1.length : Int)) = true := decide_eq_true c48
                 clear c48
                 replace H := Option.bind_eq_some_iff.mp H
                 obtain ⟨t131, A490, H⟩ := H
                 replace H : (if t131 = 0 then (chart_Check.l1 k3 (l0_1.length : Int) (wrap64 (x48_3 + 1)) l0_0 l0_1) else (some t131)) = some r := H
                 have A49 := Aside0.mk A490
                 clear A490
                 refine Or.elim (Classical.em (t131 = 0)) (fun c50 => ?p12_) (fun c50 => ?n12_)
                 case' p12_ =>
                  rw [if_pos c50] at H
                  have c50b0 : (t131 == 0) = true := beq_iff_eq.mpr c50
                  have c50b1 : (t131 != 0) = false := bne_eq_false_iff_eq.mpr c50
                  clear c50
                  have hm10_0 := Aside0.mk trivial
                 case' n12_ =>
                  rw [if_neg c50] at H
                  have c50b0 : (t131 == 0) = false := beq_eq_false_iff_ne.mpr c50
                  have c50b1 : (t131 != 0) = true := bne_iff_ne.mpr c50
                  have hm10_1 := Aside0.mk trivial
                case' n11_ =>
                 rw [if_neg c48] at H
                 have c48b0 : decide (x48_3 < (l0_1.length : Int)) = false := decide_eq_false c48
                 clear c48
                 have hm10_2 := Aside0.mk trivial
                all_goals
                 first
                  | clear hm10_0
                    have H' := Aside0.mk H
                    clear H
                    have hczzg1 : wr.cell? ⟨gb125, 0, none⟩ = some (.slice A0_0 l0_0.length c0_0) := (blk_cell BK125.out 0).trans rfl
                    have hczzg2 : wr.cell? ⟨gb125, 1, none⟩ = some (.slice A0_1 l0_1.length c0_1) := (blk_cell BK125.out 1).trans rfl
                    have hfzzg1 := blk_frozen BK125.out 0
                    have hfzzg2 := blk_frozen BK125.out 1
                    go_wp2_with (first | ((with_reducible refine gate_callee (f := 92) rfl ?_); refine goesL_ (some 53) rfl rfl Try.func92 (by kernel_rfl) rfl #[.agg #[.slice A0_0 l0_0.length c0_0, .slice A0_1 l0_1.length c0_1], .int .i64 x48_3] rfl any_s ?_; (with_reducible refine (chart_airway.calls k3 _ _ l0_0 _ _ l0_1 x48_3 t131 _ ?side1 ?side2 ?side3 ?side4 A49.out).mono ?_); (case side1 => repeat (first | exact (Kd.C_below HR0_0.out HB.out) | (with_reducible refine Kd.C_alloc ?_ _) | (with_reducible refine Kd.C_drewN ?_ _) | (with_reducible refine Kd.C_drew ?_))); (case side2 => exact HC0_0.out); (case side3 => repeat (first | exact (Kd.C_below HR0_1.out HB.out) | (with_reducible refine Kd.C_alloc ?_ _) | (with_reducible refine Kd.C_drewN ?_ _) | (with_reducible refine Kd.C_drew ?_))); (case side4 => exact HC0_1.out); rintro e wx57191 ⟨rfl, hb⟩; refine ⟨_, rfl, ?_⟩; have n0_ := Aside0.mk (blk_below (g := gb125) (o := .cells #[.slice A0_0 l0_0.length c0_0, .slice A0_1 l0_1.length c0_1] 25 (0, 0)) blk_s hb); have n1_ := Aside0.mk (below_step bel_s hb); clear BK125; clear HB; have BK125 := n0_; have HB := n1_; clear n0_ n1_; (try clear hb); (try clear hb2); (try clear hk); (try clear hi)))
                    go_roundg k3
                    case measure => have := HJ1.out; have := HK2.out; have := HK3.out; omega
                    case rel => exact ⟨(wrap64 (x48_3 + 1)), (by first | rfl | (simp; done) | (simp [*]; done)), H', ⟨by have := HJ1.out; have := HK2.out; have := HK3.out; omega⟩, ⟨by (with_reducible repeat (first | refine blk_drewN ?_ _ | refine blk_drew ?_ | refine blk_alloc ?_ _)); exact BK125.out⟩, ⟨by repeat (first | (with_reducible first | exact HB.out | apply below_alloc | apply pw_below_drewN | apply below_drew1 | refine below_set ?_ GE125.out) | exact HB.out)⟩⟩
                  | (first | (have _hm := hm10_1) | (have _hm := hm10_2))
                    obtain rfl := Option.some.inj H
                    first
                     | clear hm10_1
                       have hczzg1 : wr.cell? ⟨gb125, 0, none⟩ = some (.slice A0_0 l0_0.length c0_0) := (blk_cell BK125.out 0).trans rfl
                       have hczzg2 : wr.cell? ⟨gb125, 1, none⟩ = some (.slice A0_1 l0_1.length c0_1) := (blk_cell BK125.out 1).trans rfl
                       have hfzzg1 := blk_frozen BK125.out 0
                       have hfzzg2 := blk_frozen BK125.out 1
                       go_wp2_with (first | ((with_reducible refine gate_callee (f := 92) rfl ?_); refine goesL_ (some 53) rfl rfl Try.func92 (by kernel_rfl) rfl #[.agg #[.slice A0_0 l0_0.length c0_0, .slice A0_1 l0_1.length c0_1], .int .i64 x48_3] rfl any_s ?_; (with_reducible refine (chart_airway.calls k3 _ _ l0_0 _ _ l0_1 x48_3 t131 _ ?side1 ?side2 ?side3 ?side4 A49.out).mono ?_); (case side1 => repeat (first | exact (Kd.C_below HR0_0.out HB.out) | (with_reducible refine Kd.C_alloc ?_ _) | (with_reducible refine Kd.C_drewN ?_ _) | (with_reducible refine Kd.C_drew ?_))); (case side2 => exact HC0_0.out); (case side3 => repeat (first | exact (Kd.C_below HR0_1.out HB.out) | (with_reducible refine Kd.C_alloc ?_ _) | (with_reducible refine Kd.C_drewN ?_ _) | (with_reducible refine Kd.C_drew ?_))); (case side4 => exact HC0_1.out); rintro e wx57191 ⟨rfl, hb⟩; refine ⟨_, rfl, ?_⟩; have n0_ := Aside0.mk (blk_below (g := gb125) (o := .cells #[.slice A0_0 l0_0.length c0_0, .slice A0_1 l0_1.length c0_1] 25 (0, 0)) blk_s hb); have n1_ := Aside0.mk (below_step bel_s hb); clear BK125; clear HB; have BK125 := n0_; have HB := n1_; clear n0_ n1_; (try clear hb); (try clear hb2); (try clear hk); (try clear hi)))
                       go_ret
                       exact ⟨by first | rfl | (simp [errW_none, errW_some] <;> rfl) | (simp [*, errW_none, errW_some] <;> rfl), by repeat (first | (with_reducible first | exact HB.out | apply below_alloc | apply pw_below_drewN | apply below_drew1 | refine below_set ?_ GE125.out) | exact HB.out)⟩
                     | clear hm10_2
                       go_wp2
                       go_ret
                       exact ⟨by first | rfl | (simp [errW_none, errW_some] <;> rfl) | (simp [*, errW_none, errW_some] <;> rfl), by repeat (first | (with_reducible first | exact HB.out | apply below_alloc | apply pw_below_drewN | apply below_drew1 | refine below_set ?_ GE125.out) | exact HB.out)⟩

/-! ### plane_Sub: function 58 -/
def plane_Sub.f (a0_0 : Int) (a0_1 : Int) (a1_0 : Int) (a1_1 : Int) : Option (Int × Int) := some (wrap64 (a0_0 - a1_0), wrap64 (a0_1 - a1_1))
set_option maxHeartbeats 8000000 in
set_option maxRecDepth 100000 in
theorem plane_Sub.calls (a0_0 : Int) (a0_1 : Int) (a1_0 : Int) (a1_1 : Int) (r1 : Int) (r2 : Int) (w : World) (h : plane_Sub.f a0_0 a0_1 a1_0 a1_1 = some (r1, r2)) :
    Calls Try.prog 58 #[.agg #[.int .i64 a0_0, .int .i64 a0_1], .agg #[.int .i64 a1_0, .int .i64 a1_1]] w fun e w' => e = .returned (.agg #[.int .i64 r1, .int .i64 r2]) ∧ Below w.heap.size w w' := by
 have hu36 := Try.underlying36
 have HB := Aside0.mk (Below.refl w.heap.size w)
 have H : (some (wrap64 (a0_0 - a1_0), wrap64 (a0_1 - a1_1))) = some (r1, r2) := h
 clear h
 simp only [Option.some.injEq, Prod.mk.injEq] at H
 obtain ⟨rfl, rfl⟩ := H
 go_enter Try.func58, Try.ntmps58
 go_wp2_with (first | ((with_reducible refine gate_dst (N := 2) rfl ?_); refine box_event ?hg (N := 2) ?hd (cs := #[.int .i64 a0_0, .int .i64 a0_1]) (t := 36) ?hr ?_; (case hd => rfl); (case hg => rfl); (case hr => first | (go_simp; done) | (go_simp; rfl)); intro gb132 hg w3 hbox hb; have n0_ := Aside0.mk (below_step bel_s hb); have n1_ := Aside0.mk (hbox); have n2_ := Aside0.mk ((by rw [hg]; exact (below_size bel_s) : w.heap.size ≤ gb132)); have n3_ := Aside0.mk ((by rw [hg]; exact (below_size bel_s) : w.heap.size ≤ gb132)); clear HB; have HB := n0_; have BK132 := n1_; have GW132 := n2_; have GE132 := n3_; clear n0_ n1_ n2_ n3_; clear hb hbox hg) | ((with_reducible refine gate_dst (N := 3) rfl ?_); refine box_event ?hg (N := 3) ?hd (cs := #[.int .i64 a1_0, .int .i64 a1_1]) (t := 36) ?hr ?_; (case hd => rfl); (case hg => rfl); (case hr => first | (go_simp; done) | (go_simp; rfl)); intro gb133 hg w4 hbox hb; have n0_ := Aside0.mk (blk_below (g := gb132) (o := .cells #[.int .i64 a0_0, .int .i64 a0_1] 36 (0, 0)) blk_s hb); have n1_ := Aside0.mk (below_step bel_s hb); have n2_ := Aside0.mk (hbox); have n3_ := Aside0.mk ((by rw [hg]; exact (below_size bel_s) : w.heap.size ≤ gb133)); have n4_ := Aside0.mk ((by rw [hg]; exact (below_size bel_s) : w.heap.size ≤ gb133)); have n5_ := Aside0.mk ((by rw [hg]; exact Nat.ne_of_lt (blk_lt (g := gb132) (o := .cells #[.int .i64 a0_0, .int .i64 a0_1] 36 (0, 0)) blk_s) : gb132 ≠ gb133)); have n6_ := Aside0.mk ((by rw [hg]; exact Nat.ne_of_gt (blk_lt (g := gb132) (o := .cells #[.int .i64 a0_0, .int .i64 a0_1] 36 (0, 0)) blk_s) : gb133 ≠ gb132)); clear BK132; clear HB; have BK132 := n0_; have HB := n1_; have BK133 := n2_; have GW133 := n3_; have GE133 := n4_; have NB132_133 := n5_; have NB133_132 := n6_; clear n0_ n1_ n2_ n3_ n4_ n5_ n6_; clear hb hbox hg) | ((with_reducible refine gate_dst (N := 4) rfl ?_); refine box_event ?hg (N := 4) ?hd (cs := #[.int .i64 0, .int .i64 0]) (t := 36) ?hr ?_; (case hd => rfl); (case hg => rfl); (case hr => first | (go_simp; done) | (go_simp; rfl)); intro gb134 hg w5 hbox hb; have n0_ := Aside0.mk (blk_below (g := gb132) (o := .cells #[.int .i64 a0_0, .int .i64 a0_1] 36 (0, 0)) blk_s hb); have n1_ := Aside0.mk (blk_below (g := gb133) (o := .cells #[.int .i64 a1_0, .int .i64 a1_1] 36 (0, 0)) blk_s hb); have n2_ := Aside0.mk (below_step bel_s hb); have n3_ := Aside0.mk (hbox); have n4_ := Aside0.mk ((by rw [hg]; exact (below_size bel_s) : w.heap.size ≤ gb134)); have n5_ := Aside0.mk ((by rw [hg]; exact (below_size bel_s) : w.heap.size ≤ gb134)); have n6_ := Aside0.mk ((by rw [hg]; exact Nat.ne_of_lt (blk_lt (g := gb132) (o := .cells #[.int .i64 a0_0, .int .i64 a0_1] 36 (0, 0)) blk_s) : gb132 ≠ gb134)); have n7_ := Aside0.mk ((by rw [hg]; exact Nat.ne_of_gt (blk_lt (g := gb132) (o := .cells #[.int .i64 a0_0, .int .i64 a0_1] 36 (0, 0)) blk_s) : gb134 ≠ gb132)); have n8_ := Aside0.mk ((by rw [hg]; exact Nat.ne_of_lt (blk_lt (g := gb133) (o := .cells #[.int .i64 a1_0, .int .i64 a1_1] 36 (0, 0)) blk_s) : gb133 ≠ gb134)); have n9_ := Aside0.mk ((by rw [hg]; exact Nat.ne_of_gt (blk_lt (g := gb133) (o := .cells #[.int .i64 a1_0, .int .i64 a1_1] 36 (0, 0)) blk_s) : gb134 ≠ gb133)); clear BK132; clear BK133; clear HB; have BK132 := n0_; have BK133 := n1_; have HB := n2_; have BK134 := n3_; have GW134 := n4_; have GE134 := n5_; have NB132_134 := n6_; have NB134_132 := n7_; have NB133_134 := n8_; have NB134_133 := n9_; clear n0_ n1_ n2_ n3_ n4_ n5_ n6_ n7_ n8_ n9_; clear hb hbox hg; have hnb6 := NB132_133.out; have hnc6 := NB133_132.out; have hnb7 := NB132_134.out; have hnc7 := NB134_132.out; have hcz8_0 : w5.cell? ⟨gb132, 0, none⟩ = some (.int .i64 a0_0) := (blk_cell BK132.out 0).trans rfl; have hcz8_1 : w5.cell? ⟨gb132, 1, none⟩ = some (.int .i64 a0_1) := (blk_cell BK132.out 1).trans rfl; have hfz8_0 := blk_frozen BK132.out 0; have hfz8_1 := blk_frozen BK132.out 1; have hnb9 := NB133_134.out; have hnc9 := NB134_133.out; have hcz10_0 : w5.cell? ⟨gb133, 0, none⟩ = some (.int .i64 a1_0) := (blk_cell BK133.out 0).trans rfl; have hcz10_1 : w5.cell? ⟨gb133, 1, none⟩ = some (.int .i64 a1_1) := (blk_cell BK133.out 1).trans rfl; have hfz10_0 := blk_frozen BK133.out 0; have hfz10_1 := blk_frozen BK133.out 1; have hcz11_0 : w5.cell? ⟨gb134, 0, none⟩ = some (.int .i64 0) := (blk_cell BK134.out 0).trans rfl; have hcz11_1 : w5.cell? ⟨gb134, 1, none⟩ = some (.int .i64 0) := (blk_cell BK134.out 1).trans rfl; have hfz11_0 := blk_frozen BK134.out 0; have hfz11_1 := blk_frozen BK134.out 1))
 refine bodyPost_ret (results_cell_row rfl _ _ gb134 36 #[.int .i64 (wrap64 (a0_0 - a1_0)), .int .i64 (wrap64 (a0_1 - a1_1))] (0, 0) _ rfl (by (with_reducible repeat (first | refine blk_drewN ?_ _ | refine blk_drew ?_ | refine blk_alloc ?_ _)); refine blk_put (cs := #[.int .i64 (wrap64 (a0_0 - a1_0)), .int .i64 0]) ?_ 1 _ rfl; (with_reducible repeat (first | refine blk_drewN ?_ _ | refine blk_drew ?_ | refine blk_alloc ?_ _)); refine blk_put (cs := #[.int .i64 0, .int .i64 0]) ?_ 0 _ rfl; (with_reducible repeat (first | refine blk_drewN ?_ _ | refine blk_drew ?_ | refine blk_alloc ?_ _)); exact BK134.out) Try.underlying36 rfl (by kernel_rfl)) rfl ?_
 exact ⟨by first | rfl | (simp [errW_none, errW_some] <;> rfl) | (simp [*, errW_none, errW_some] <;> rfl), by repeat (first | (with_reducible first | exact HB.out | apply below_alloc | apply pw_below_drewN | apply below_drew1 | refine below_set ?_ GE132.out | refine below_set ?_ GE133.out | refine below_set ?_ GE134.out) | exact HB.out)⟩

/-! ### plane_Dot: function 59 -/
def plane_Dot.f (a0_0 : Int) (a0_1 : Int) (a1_0 : Int) (a1_1 : Int) : Option (Int) := some (wrap64 ((wrap64 (a0_0 * a1_0)) + (wrap64 (a0_1 * a1_1))))
set_option maxHeartbeats 8000000 in
set_option maxRecDepth 100000 in
theorem plane_Dot.calls (a0_0 : Int) (a0_1 : Int) (a1_0 : Int) (a1_1 : Int) (r : Int) (w : World) (h : plane_Dot.f a0_0 a0_1 a1_0 a1_1 = some r) :
    Calls Try.prog 59 #[.agg #[.int .i64 a0_0, .int .i64 a0_1], .agg #[.int .i64 a1_0, .int .i64 a1_1]] w fun e w' => e = .returned (.int .i64 r) ∧ Below w.heap.size w w' := by
 have hu36 := Try.underlying36
 have HB := Aside0.mk (Below.refl w.heap.size w)
 have H : (some (wrap64 ((wrap64 (a0_0 * a1_0)) + (wrap64 (a0_1 * a1_1))))) = some r := h
 clear h
 obtain rfl := Option.some.inj H
 go_enter Try.func59, Try.ntmps59
 go_wp2_with (first | ((with_reducible refine gate_dst (N := 2) rfl ?_); refine box_event ?hg (N := 2) ?hd (cs := #[.int .i64 a0_0, .int .i64 a0_1]) (t := 36) ?hr ?_; (case hd => rfl); (case hg => rfl); (case hr => first | (go_simp; done) | (go_simp; rfl)); intro gb135 hg w3 hbox hb; have n0_ := Aside0.mk (below_step bel_s hb); have n1_ := Aside0.mk (hbox); have n2_ := Aside0.mk ((by rw [hg]; exact (below_size bel_s) : w.heap.size ≤ gb135)); have n3_ := Aside0.mk ((by rw [hg]; exact (below_size bel_s) : w.heap.size ≤ gb135)); clear HB; have HB := n0_; have BK135 := n1_; have GW135 := n2_; have GE135 := n3_; clear n0_ n1_ n2_ n3_; clear hb hbox hg) | ((with_reducible refine gate_dst (N := 3) rfl ?_); refine box_event ?hg (N := 3) ?hd (cs := #[.int .i64 a1_0, .int .i64 a1_1]) (t := 36) ?hr ?_; (case hd => rfl); (case hg => rfl); (case hr => first | (go_simp; done) | (go_simp; rfl)); intro gb136 hg w4 hbox hb; have n0_ := Aside0.mk (blk_below (g := gb135) (o := .cells #[.int .i64 a0_0, .int .i64 a0_1] 36 (0, 0)) blk_s hb); have n1_ := Aside0.mk (below_step bel_s hb); have n2_ := Aside0.mk (hbox); have n3_ := Aside0.mk ((by rw [hg]; exact (below_size bel_s) : w.heap.size ≤ gb136)); have n4_ := Aside0.mk ((by rw [hg]; exact (below_size bel_s) : w.heap.size ≤ gb136)); have n5_ := Aside0.mk ((by rw [hg]; exact Nat.ne_of_lt (blk_lt (g := gb135) (o := .cells #[.int .i64 a0_0, .int .i64 a0_1] 36 (0, 0)) blk_s) : gb135 ≠ gb136)); have n6_ := Aside0.mk ((by rw [hg]; exact Nat.ne_of_gt (blk_lt (g := gb135) (o := .cells #[.int .i64 a0_0, .int .i64 a0_1] 36 (0, 0)) blk_s) : gb136 ≠ gb135)); clear BK135; clear HB; have BK135 := n0_; have HB := n1_; have BK136 := n2_; have GW136 := n3_; have GE136 := n4_; have NB135_136 := n5_; have NB136_135 := n6_; clear n0_ n1_ n2_ n3_ n4_ n5_ n6_; clear hb hbox hg; have hnb5 := NB135_136.out; have hnc5 := NB136_135.out; have hcz6_0 : w4.cell? ⟨gb135, 0, none⟩ = some (.int .i64 a0_0) := (blk_cell BK135.out 0).trans rfl; have hcz6_1 : w4.cell? ⟨gb135, 1, none⟩ = some (.int .i64 a0_1) := (blk_cell BK135.out 1).trans rfl; have hfz6_0 := blk_frozen BK135.out 0; have hfz6_1 := blk_frozen BK135.out 1; have hcz7_0 : w4.cell? ⟨gb136, 0, none⟩ = some (.int .i64 a1_0) := (blk_cell BK136.out 0).trans rfl; have hcz7_1 : w4.cell? ⟨gb136, 1, none⟩ = some (.int .i64 a1_1) := (blk_cell BK136.out 1).trans rfl; have hfz7_0 := blk_frozen BK136.out 0; have hfz7_1 := blk_frozen BK136.out 1))
 go_ret
 exact ⟨by first | rfl | (simp [errW_none, errW_some] <;> rfl) | (simp [*, errW_none, errW_some] <;> rfl), by repeat (first | (with_reducible first | exact HB.out | apply below_alloc | apply pw_below_drewN | apply below_drew1 | refine below_set ?_ GE135.out | refine below_set ?_ GE136.out) | exact HB.out)⟩

/-! ### plane_Square: function 20 -/
def plane_Square.f (a0_0 : Int) (a0_1 : Int) (a1_0 : Int) (a1_1 : Int) : Option (Int) := (plane_Sub.f a0_0 a0_1 a1_0 a1_1).bind fun bt139 => ((plane_Dot.f bt139.1 bt139.2 bt139.1 bt139.2).bind fun t142 => (some t142))
set_option maxHeartbeats 8000000 in
set_option maxRecDepth 100000 in
theorem plane_Square.calls (a0_0 : Int) (a0_1 : Int) (a1_0 : Int) (a1_1 : Int) (r : Int) (w : World) (h : plane_Square.f a0_0 a0_1 a1_0 a1_1 = some r) :
    Calls Try.prog 20 #[.agg #[.int .i64 a0_0, .int .i64 a0_1], .agg #[.int .i64 a1_0, .int .i64 a1_1]] w fun e w' => e = .returned (.int .i64 r) ∧ Below w.heap.size w w' := by
 have hu36 := Try.underlying36
 have HB := Aside0.mk (Below.refl w.heap.size w)
 have H : ((plane_Sub.f a0_0 a0_1 a1_0 a1_1).bind fun bt139 => ((plane_Dot.f bt139.1 bt139.2 bt139.1 bt139.2).bind fun t142 => (some t142))) = some r := h
 clear h
 replace H := Option.bind_eq_some_iff.mp H
 obtain ⟨⟨t139, t140⟩, A30, H⟩ := H
 replace H : ((plane_Dot.f t139 t140 t139 t140).bind fun t142 => (some t142)) = some r := H
 have A3 := Aside0.mk A30
 clear A30
 replace H := Option.bind_eq_some_iff.mp H
 obtain ⟨t142, A40, H⟩ := H
 replace H : (some t142) = some r := H
 have A4 := Aside0.mk A40
 clear A40
 obtain rfl := Option.some.inj H
 go_enter Try.func20, Try.ntmps20
 go_wp2_with (first | ((with_reducible refine gate_dst (N := 2) rfl ?_); refine box_event ?hg (N := 2) ?hd (cs := #[.int .i64 a0_0, .int .i64 a0_1]) (t := 36) ?hr ?_; (case hd => rfl); (case hg => rfl); (case hr => first | (go_simp; done) | (go_simp; rfl)); intro gb137 hg w5 hbox hb; have n0_ := Aside0.mk (below_step bel_s hb); have n1_ := Aside0.mk (hbox); have n2_ := Aside0.mk ((by rw [hg]; exact (below_size bel_s) : w.heap.size ≤ gb137)); have n3_ := Aside0.mk ((by rw [hg]; exact (below_size bel_s) : w.heap.size ≤ gb137)); clear HB; have HB := n0_; have BK137 := n1_; have GW137 := n2_; have GE137 := n3_; clear n0_ n1_ n2_ n3_; clear hb hbox hg) | ((with_reducible refine gate_dst (N := 3) rfl ?_); refine box_event ?hg (N := 3) ?hd (cs := #[.int .i64 a1_0, .int .i64 a1_1]) (t := 36) ?hr ?_; (case hd => rfl); (case hg => rfl); (case hr => first | (go_simp; done) | (go_simp; rfl)); intro gb138 hg w6 hbox hb; have n0_ := Aside0.mk (blk_below (g := gb137) (o := .cells #[.int .i64 a0_0, .int .i64 a0_1] 36 (0, 0)) blk_s hb); have n1_ := Aside0.mk (below_step bel_s hb); have n2_ := Aside0.mk (hbox); have n3_ := Aside0.mk ((by rw [hg]; exact (below_size bel_s) : w.heap.size ≤ gb138)); have n4_ := Aside0.mk ((by rw [hg]; exact (below_size bel_s) : w.heap.size ≤ gb138)); have n5_ := Aside0.mk ((by rw [hg]; exact Nat.ne_of_lt (blk_lt (g := gb137) (o := .cells #[.int .i64 a0_0, .int .i64 a0_1] 36 (0, 0)) blk_s) : gb137 ≠ gb138)); have n6_ := Aside0.mk ((by rw [hg]; exact Nat.ne_of_gt (blk_lt (g := gb137) (o := .cells #[.int .i64 a0_0, .int .i64 a0_1] 36 (0, 0)) blk_s) : gb138 ≠ gb137)); clear BK137; clear HB; have BK137 := n0_; have HB := n1_; have BK138 := n2_; have GW138 := n3_; have GE138 := n4_; have NB137_138 := n5_; have NB138_137 := n6_; clear n0_ n1_ n2_ n3_ n4_ n5_ n6_; clear hb hbox hg; have hnb7 := NB137_138.out; have hnc7 := NB138_137.out; have hcz8_0 : w6.cell? ⟨gb137, 0, none⟩ = some (.int .i64 a0_0) := (blk_cell BK137.out 0).trans rfl; have hcz8_1 : w6.cell? ⟨gb137, 1, none⟩ = some (.int .i64 a0_1) := (blk_cell BK137.out 1).trans rfl; have hfz8_0 := blk_frozen BK137.out 0; have hfz8_1 := blk_frozen BK137.out 1; have hcz9_0 : w6.cell? ⟨gb138, 0, none⟩ = some (.int .i64 a1_0) := (blk_cell BK138.out 0).trans rfl; have hcz9_1 : w6.cell? ⟨gb138, 1, none⟩ = some (.int .i64 a1_1) := (blk_cell BK138.out 1).trans rfl; have hfz9_0 := blk_frozen BK138.out 0; have hfz9_1 := blk_frozen BK138.out 1) | ((with_reducible refine gate_callee (f := 58) rfl ?_); refine goesL_ (some 8) rfl rfl Try.func58 (by kernel_rfl) rfl #[.agg #[.int .i64 a0_0, .int .i64 a0_1], .agg #[.int .i64 a1_0, .int .i64 a1_1]] rfl any_s ?_; (with_reducible refine (plane_Sub.calls a0_0 a0_1 a1_0 a1_1 t139 t140 _ A3.out).mono ?_); rintro e w10 ⟨rfl, hb⟩; refine ⟨_, rfl, ?_⟩; have n0_ := Aside0.mk (blk_below (g := gb137) (o := .cells #[.int .i64 a0_0, .int .i64 a0_1] 36 (0, 0)) blk_s hb); have n1_ := Aside0.mk (blk_below (g := gb138) (o := .cells #[.int .i64 a1_0, .int .i64 a1_1] 36 (0, 0)) blk_s hb); have n2_ := Aside0.mk (below_step bel_s hb); clear BK137; clear BK138; clear HB; have BK137 := n0_; have BK138 := n1_; have HB := n2_; clear n0_ n1_ n2_; (try clear hb); (try clear hb2); (try clear hk); (try clear hi)) | ((with_reducible refine gate_dst (N := 5) rfl ?_); refine box_event ?hg (N := 5) ?hd (cs := #[.int .i64 0, .int .i64 0]) (t := 36) ?hr ?_; (case hd => rfl); (case hg => rfl); (case hr => first | (go_simp; done) | (go_simp; rfl)); intro gb141 hg w11 hbox hb; have n0_ := Aside0.mk (blk_below (g := gb137) (o := .cells #[.int .i64 a0_0, .int .i64 a0_1] 36 (0, 0)) blk_s hb); have n1_ := Aside0.mk (blk_below (g := gb138) (o := .cells #[.int .i64 a1_0, .int .i64 a1_1] 36 (0, 0)) blk_s hb); have n2_ := Aside0.mk (below_step bel_s hb); have n3_ := Aside0.mk (hbox); have n4_ := Aside0.mk ((by rw [hg]; exact (below_size bel_s) : w.heap.size ≤ gb141)); have n5_ := Aside0.mk ((by rw [hg]; exact (below_size bel_s) : w.heap.size ≤ gb141)); have n6_ := Aside0.mk ((by rw [hg]; exact Nat.ne_of_lt (blk_lt (g := gb137) (o := .cells #[.int .i64 a0_0, .int .i64 a0_1] 36 (0, 0)) blk_s) : gb137 ≠ gb141)); have n7_ := Aside0.mk ((by rw [hg]; exact Nat.ne_of_gt (blk_lt (g := gb137) (o := .cells #[.int .i64 a0_0, .int .i64 a0_1] 36 (0, 0)) blk_s) : gb141 ≠ gb137)); have n8_ := Aside0.mk ((by rw [hg]; exact Nat.ne_of_lt (blk_lt (g := gb138) (o := .cells #[.int .i64 a1_0, .int .i64 a1_1] 36 (0, 0)) blk_s) : gb138 ≠ gb141)); have n9_ := Aside0.mk ((by rw [hg]; exact Nat.ne_of_gt (blk_lt (g := gb138) (o := .cells #[.int .i64 a1_0, .int .i64 a1_1] 36 (0, 0)) blk_s) : gb141 ≠ gb138)); clear BK137; clear BK138; clear HB; have BK137 := n0_; have BK138 := n1_; have HB := n2_; have BK141 := n3_; have GW141 := n4_; have GE141 := n5_; have NB137_141 := n6_; have NB141_137 := n7_; have NB138_141 := n8_; have NB141_138 := n9_; clear n0_ n1_ n2_ n3_ n4_ n5_ n6_ n7_ n8_ n9_; clear hb hbox hg; have hnb12 := NB141_137.out; have hnc12 := NB137_141.out; have hnb13 := NB141_138.out; have hnc13 := NB138_141.out; have hcz14_0 : w11.cell? ⟨gb141, 0, none⟩ = some (.int .i64 0) := (blk_cell BK141.out 0).trans rfl; have hcz14_1 : w11.cell? ⟨gb141, 1, none⟩ = some (.int .i64 0) := (blk_cell BK141.out 1).trans rfl; have hfz14_0 := blk_frozen BK141.out 0; have hfz14_1 := blk_frozen BK141.out 1) | ((with_reducible refine gate_callee (f := 59) rfl ?_); refine goesL_ (some 11) rfl rfl Try.func59 (by kernel_rfl) rfl #[.agg #[.int .i64 t139, .int .i64 t140], .agg #[.int .i64 t139, .int .i64 t140]] rfl any_s ?_; (with_reducible refine (plane_Dot.calls t139 t140 t139 t140 t142 _ A4.out).mono ?_); rintro e w15 ⟨rfl, hb⟩; refine ⟨_, rfl, ?_⟩; have n0_ := Aside0.mk (blk_below (g := gb137) (o := .cells #[.int .i64 a0_0, .int .i64 a0_1] 36 (0, 0)) blk_s hb); have n1_ := Aside0.mk (blk_below (g := gb138) (o := .cells #[.int .i64 a1_0, .int .i64 a1_1] 36 (0, 0)) blk_s hb); have n2_ := Aside0.mk (blk_below (g := gb141) (o := .cells #[.int .i64 t139, .int .i64 t140] 36 (0, 0)) (by (with_reducible repeat (first | refine blk_drewN ?_ _ | refine blk_drew ?_ | refine blk_alloc ?_ _)); refine blk_put (cs := #[.int .i64 t139, .int .i64 0]) ?_ 1 _ rfl; (with_reducible repeat (first | refine blk_drewN ?_ _ | refine blk_drew ?_ | refine blk_alloc ?_ _)); refine blk_put (cs := #[.int .i64 0, .int .i64 0]) ?_ 0 _ rfl; (with_reducible repeat (first | refine blk_drewN ?_ _ | refine blk_drew ?_ | refine blk_alloc ?_ _)); exact BK141.out) hb); have n3_ := Aside0.mk (below_step bel_s hb); clear BK137; clear BK138; clear BK141; clear HB; have BK137 := n0_; have BK138 := n1_; have BK141 := n2_; have HB := n3_; clear n0_ n1_ n2_ n3_; (try clear hb); (try clear hb2); (try clear hk); (try clear hi)))
 go_ret
 exact ⟨by first | rfl | (simp [errW_none, errW_some] <;> rfl) | (simp [*, errW_none, errW_some] <;> rfl), by repeat (first | (with_reducible first | exact HB.out | apply below_alloc | apply pw_below_drewN | apply below_drew1 | refine below_set ?_ GE137.out | refine below_set ?_ GE138.out | refine below_set ?_ GE141.out) | exact HB.out)⟩

/-! ### num_Root: function 94 -/
def num_Root.f (a0 : Int) : Option (Int) := if a0 ≤ 9223372036854775807 then some (RootF.rootI a0) else none
theorem num_Root.calls (a0 : Int) (r : Int) (w : World) (h : num_Root.f a0 = some r) :
    Calls Try.prog 94 #[.int .i64 a0] w fun e w' => e = .returned (.int .i64 r) ∧ Below w.heap.size w w' := by
  unfold num_Root.f at h
  by_cases c : a0 ≤ 9223372036854775807
  · rw [if_pos c] at h
    obtain rfl := Option.some.inj h
    exact (RootF.root_calls a0 w c).mono fun _ _ h => ⟨h.1, h.2.below⟩
  · rw [if_neg c] at h
    exact absurd h (by simp)

/-! ### plane_Distance: function 56 -/
def plane_Distance.f (a0_0 : Int) (a0_1 : Int) (a1_0 : Int) (a1_1 : Int) : Option (Int × Int) := (plane_Square.f a0_0 a0_1 a1_0 a1_1).bind fun t145 => ((num_Root.f t145).bind fun t146 => (if (wrap64 (t146 * t146)) < t145 then (some (t146, wrap64 (t146 + 1))) else (some (t146, t146))))
set_option maxHeartbeats 8000000 in
set_option maxRecDepth 100000 in
theorem plane_Distance.calls (a0_0 : Int) (a0_1 : Int) (a1_0 : Int) (a1_1 : Int) (r1 : Int) (r2 : Int) (w : World) (h : plane_Distance.f a0_0 a0_1 a1_0 a1_1 = some (r1, r2)) :
    Calls Try.prog 56 #[.agg #[.int .i64 a0_0, .int .i64 a0_1], .agg #[.int .i64 a1_0, .int .i64 a1_1]] w fun e w' => e = .returned (.tuple #[.int .i64 r1, .int .i64 r2]) ∧ Below w.heap.size w w' := by
 have hu36 := Try.underlying36
 have HB := Aside0.mk (Below.refl w.heap.size w)
 have H : ((plane_Square.f a0_0 a0_1 a1_0 a1_1).bind fun t145 => ((num_Root.f t145).bind fun t146 => (if (wrap64 (t146 * t146)) < t145 then (some (t146, wrap64 (t146 + 1))) else (some (t146, t146))))) = some (r1, r2) := h
 clear h
 replace H := Option.bind_eq_some_iff.mp H
 obtain ⟨t145, A30, H⟩ := H
 replace H : ((num_Root.f t145).bind fun t146 => (if (wrap64 (t146 * t146)) < t145 then (some (t146, wrap64 (t146 + 1))) else (some (t146, t146)))) = some (r1, r2) := H
 have A3 := Aside0.mk A30
 clear A30
 replace H := Option.bind_eq_some_iff.mp H
 obtain ⟨t146, A40, H⟩ := H
 replace H : (if (wrap64 (t146 * t146)) < t145 then (some (t146, wrap64 (t146 + 1))) else (some (t146, t146))) = some (r1, r2) := H
 have A4 := Aside0.mk A40
 clear A40
 refine Or.elim (Classical.em ((wrap64 (t146 * t146)) < t145)) (fun c5 => ?p2_) (fun c5 => ?n2_)
 case' p2_ =>
  rw [if_pos c5] at H
  have c5b0 : decide ((wrap64 (t146 * t146)) < t145) = true := decide_eq_true c5
  clear c5
  simp only [Option.some.injEq, Prod.mk.injEq] at H
  obtain ⟨rfl, rfl⟩ := H
 case' n2_ =>
  rw [if_neg c5] at H
  have c5b0 : decide ((wrap64 (t146 * t146)) < t145) = false := decide_eq_false c5
  clear c5
  simp only [Option.some.injEq, Prod.mk.injEq] at H
  obtain ⟨rfl, rfl⟩ := H
 all_goals
  go_enter Try.func56, Try.ntmps56
  go_wp2_with (first | ((with_reducible refine gate_dst (N := 2) rfl ?_); refine box_event ?hg (N := 2) ?hd (cs := #[.int .i64 a0_0, .int .i64 a0_1]) (t := 36) ?hr ?_; (case hd => rfl); (case hg => rfl); (case hr => first | (go_simp; done) | (go_simp; rfl)); intro gb143 hg wx19051 hbox hb; have n0_ := Aside0.mk (below_step bel_s hb); have n1_ := Aside0.mk (hbox); have n2_ := Aside0.mk ((by rw [hg]; exact (below_size bel_s) : w.heap.size ≤ gb143)); have n3_ := Aside0.mk ((by rw [hg]; exact (below_size bel_s) : w.heap.size ≤ gb143)); clear HB; have HB := n0_; have BK143 := n1_; have GW143 := n2_; have GE143 := n3_; clear n0_ n1_ n2_ n3_; clear hb hbox hg) | ((with_reducible refine gate_dst (N := 3) rfl ?_); refine box_event ?hg (N := 3) ?hd (cs := #[.int .i64 a1_0, .int .i64 a1_1]) (t := 36) ?hr ?_; (case hd => rfl); (case hg => rfl); (case hr => first | (go_simp; done) | (go_simp; rfl)); intro gb144 hg wx5a991 hbox hb; have n0_ := Aside0.mk (blk_below (g := gb143) (o := .cells #[.int .i64 a0_0, .int .i64 a0_1] 36 (0, 0)) blk_s hb); have n1_ := Aside0.mk (below_step bel_s hb); have n2_ := Aside0.mk (hbox); have n3_ := Aside0.mk ((by rw [hg]; exact (below_size bel_s) : w.heap.size ≤ gb144)); have n4_ := Aside0.mk ((by rw [hg]; exact (below_size bel_s) : w.heap.size ≤ gb144)); have n5_ := Aside0.mk ((by rw [hg]; exact Nat.ne_of_lt (blk_lt (g := gb143) (o := .cells #[.int .i64 a0_0, .int .i64 a0_1] 36 (0, 0)) blk_s) : gb143 ≠ gb144)); have n6_ := Aside0.mk ((by rw [hg]; exact Nat.ne_of_gt (blk_lt (g := gb143) (o := .cells #[.int .i64 a0_0, .int .i64 a0_1] 36 (0, 0)) blk_s) : gb144 ≠ gb143)); clear BK143; clear HB; have BK143 := n0_; have HB := n1_; have BK144 := n2_; have GW144 := n3_; have GE144 := n4_; have NB143_144 := n5_; have NB144_143 := n6_; clear n0_ n1_ n2_ n3_ n4_ n5_ n6_; clear hb hbox hg; have hnbx5a991 := NB143_144.out; have hncx5a991 := NB144_143.out; have hczx5a991 : wx5a991.cell? ⟨gb143, 0, none⟩ = some (.int .i64 a0_0) := (blk_cell BK143.out 0).trans rfl; have hczx5a992 : wx5a991.cell? ⟨gb143, 1, none⟩ = some (.int .i64 a0_1) := (blk_cell BK143.out 1).trans rfl; have hfzx5a991 := blk_frozen BK143.out 0; have hfzx5a992 := blk_frozen BK143.out 1; have hczx5a993 : wx5a991.cell? ⟨gb144, 0, none⟩ = some (.int .i64 a1_0) := (blk_cell BK144.out 0).trans rfl; have hczx5a994 : wx5a991.cell? ⟨gb144, 1, none⟩ = some (.int .i64 a1_1) := (blk_cell BK144.out 1).trans rfl; have hfzx5a993 := blk_frozen BK144.out 0; have hfzx5a994 := blk_frozen BK144.out 1) | ((with_reducible refine gate_callee (f := 20) rfl ?_); refine goesL_ (some 10) rfl rfl Try.func20 (by kernel_rfl) rfl #[.agg #[.int .i64 a0_0, .int .i64 a0_1], .agg #[.int .i64 a1_0, .int .i64 a1_1]] rfl any_s ?_; (with_reducible refine (plane_Square.calls a0_0 a0_1 a1_0 a1_1 t145 _ A3.out).mono ?_); rintro e wx84f71 ⟨rfl, hb⟩; refine ⟨_, rfl, ?_⟩; have n0_ := Aside0.mk (blk_below (g := gb143) (o := .cells #[.int .i64 a0_0, .int .i64 a0_1] 36 (0, 0)) blk_s hb); have n1_ := Aside0.mk (blk_below (g := gb144) (o := .cells #[.int .i64 a1_0, .int .i64 a1_1] 36 (0, 0)) blk_s hb); have n2_ := Aside0.mk (below_step bel_s hb); clear BK143; clear BK144; clear HB; have BK143 := n0_; have BK144 := n1_; have HB := n2_; clear n0_ n1_ n2_; (try clear hb); (try clear hb2); (try clear hk); (try clear hi)) | ((with_reducible refine gate_callee (f := 94) rfl ?_); refine goesL_ (some 12) rfl rfl Try.func94 (by kernel_rfl) rfl #[.int .i64 t145] rfl any_s ?_; (with_reducible refine (num_Root.calls t145 t146 _ A4.out).mono ?_); rintro e wx0b2f1 ⟨rfl, hb⟩; refine ⟨_, rfl, ?_⟩; have n0_ := Aside0.mk (blk_below (g := gb143) (o := .cells #[.int .i64 a0_0, .int .i64 a0_1] 36 (0, 0)) blk_s hb); have n1_ := Aside0.mk (blk_below (g := gb144) (o := .cells #[.int .i64 a1_0, .int .i64 a1_1] 36 (0, 0)) blk_s hb); have n2_ := Aside0.mk (below_step bel_s hb); clear BK143; clear BK144; clear HB; have BK143 := n0_; have BK144 := n1_; have HB := n2_; clear n0_ n1_ n2_; (try clear hb); (try clear hb2); (try clear hk); (try clear hi)))
  go_ret2
  exact ⟨by first | rfl | (simp [errW_none, errW_some] <;> rfl) | (simp [*, errW_none, errW_some] <;> rfl), by repeat (first | (with_reducible first | exact HB.out | apply below_alloc | apply pw_below_drewN | apply below_drew1 | refine below_set ?_ GE143.out | refine below_set ?_ GE144.out) | exact HB.out)⟩

end Go.Proofs.Ytbpbpojnfhhbjaa.PRouteLength
