/- Made by a program of this session (wip/tools/myprint.py, over the kit's printer): that the Go functions answer as the Lean functions printed beside them. -/
import Derived.Test.YtbpbpojnfhhbjaaTSq2
import Derived.Test.YtbpbpojnfhhbjaaPRouteDirectx0
import Derived.Test.YtbpbpojnfhhbjaaPRouteDirectx2
import Derived.Test.YtbpbpojnfhhbjaaPRouteDirectx3
namespace Go.Proofs.Ytbpbpojnfhhbjaa.PRouteDirect
open Go.RowKit Go.Proofs.YtbpbpojnfhhbjaaW.PrintWords Go.Proofs.YtbpbpojnfhhbjaaW.PrintLast Go.Proofs.YtbpbpojnfhhbjaaW.PrintMore
attribute [local go_sem] max2_int min2_int max_two min_two max_three min_three max_four min_four   -- for this text's walks alone
set_option linter.unusedVariables false
set_option linter.unusedSimpArgs false

/-! ### chart_Check: function 49 -/
mutual
def chart_Check.j0 : Nat → Bool → List (S40) → List (S48) → Option (Int)
  | 0, _, _, _ => none
  | k + 1, x17, x126000, x126001 => if x17 = true then (some 2) else (chart_Check.l0 k x126000 (x126000.length : Int) 0 x126000 x126001)
def chart_Check.l0 : Nat → List (S40) → Int → Int → List (S40) → List (S48) → Option (Int)
  | 0, _, _, _, _, _ => none
  | k + 1, x19, x20, x21, x126000, x126001 => if x21 < x20 then (if 0 ≤ x21 then (if x21 < (x19.length : Int) then ((chart_Name.f k ((rd_T40 x19 x21).f0)).bind fun t128 => (if t128 = true then ((chart_find.f x126000 x126001 ((rd_T40 x19 x21).f0)).bind fun t129 => (if t129 < x21 then (some 7) else ((plane_Check.f ((rd_T40 x19 x21).f1.f0) ((rd_T40 x19 x21).f1.f1)).bind fun t130 => (if t130 = 0 then (chart_Check.l0 k x19 x20 (wrap64 (x21 + 1)) x126000 x126001) else (some t130))))) else (some 5))) else (none)) else (none)) else (chart_Check.l1 k (x126001.length : Int) 0 x126000 x126001)
def chart_Check.l1 : Nat → Int → Int → List (S40) → List (S48) → Option (Int)
  | 0, _, _, _, _ => none
  | k + 1, x47, x48, x126000, x126001 => if x48 < x47 then ((chart_airway.f k x126000 x126001 x48).bind fun t131 => (if t131 = 0 then (chart_Check.l1 k x47 (wrap64 (x48 + 1)) x126000 x126001) else (some t131))) else (some 0)
end
def chart_Check.f (k : Nat) (l0_0 : List (S40)) (l0_1 : List (S48)) : Option (Int) := if (l0_0.length : Int) > 64 then (chart_Check.j0 k true l0_0 l0_1) else (chart_Check.j0 k (decide ((l0_1.length : Int) > 16)) l0_0 l0_1)
theorem chart_Check.mono_l : ∀ k, (∀ y0 y1 y2, LeO (chart_Check.j0 k y0 y1 y2) (chart_Check.j0 (k + 1) y0 y1 y2)) ∧ (∀ y0 y1 y2 y3 y4, LeO (chart_Check.l0 k y0 y1 y2 y3 y4) (chart_Check.l0 (k + 1) y0 y1 y2 y3 y4)) ∧ (∀ y0 y1 y2 y3, LeO (chart_Check.l1 k y0 y1 y2 y3) (chart_Check.l1 (k + 1) y0 y1 y2 y3))
  | 0 => ⟨fun _ _ _ r h => by simp [chart_Check.j0] at h, fun _ _ _ _ _ r h => by simp [chart_Check.l0] at h, fun _ _ _ _ r h => by simp [chart_Check.l1] at h⟩
  | k + 1 => by
    obtain ⟨ih0, ih1, ih2⟩ := chart_Check.mono_l k; refine ⟨?_, ?_, ?_⟩
    · intro y0 y1 y2; unfold chart_Check.j0
      repeat' first
      | (with_reducible exact ih0 _ _ _)
      | (with_reducible exact ih1 _ _ _ _ _)
      | (with_reducible exact ih2 _ _ _ _)
      | (with_reducible exact chart_Name.mono _ _)
      | (with_reducible exact chart_airway.mono _ _ _ _)
      | (with_reducible exact LeO.refl _)
      | (with_reducible exact LeO.none _)
      | (with_reducible refine LeO.ite ?_ ?_)
      | (with_reducible refine LeO.bind ?_ (fun _ => ?_))
      | exact ih0 _ _ _
      | exact ih1 _ _ _ _ _
      | exact ih2 _ _ _ _
      | exact chart_Name.mono _ _
      | exact chart_airway.mono _ _ _ _
      | exact LeO.none _
      | refine LeO.ite ?_ ?_
      | refine LeO.bind ?_ (fun _ => ?_)
    · intro y0 y1 y2 y3 y4; unfold chart_Check.l0
      repeat' first
      | (with_reducible exact ih0 _ _ _)
      | (with_reducible exact ih1 _ _ _ _ _)
      | (with_reducible exact ih2 _ _ _ _)
      | (with_reducible exact chart_Name.mono _ _)
      | (with_reducible exact chart_airway.mono _ _ _ _)
      | (with_reducible exact LeO.refl _)
      | (with_reducible exact LeO.none _)
      | (with_reducible refine LeO.ite ?_ ?_)
      | (with_reducible refine LeO.bind ?_ (fun _ => ?_))
      | exact ih0 _ _ _
      | exact ih1 _ _ _ _ _
      | exact ih2 _ _ _ _
      | exact chart_Name.mono _ _
      | exact chart_airway.mono _ _ _ _
      | exact LeO.none _
      | refine LeO.ite ?_ ?_
      | refine LeO.bind ?_ (fun _ => ?_)
    · intro y0 y1 y2 y3; unfold chart_Check.l1
      repeat' first
      | (with_reducible exact ih0 _ _ _)
      | (with_reducible exact ih1 _ _ _ _ _)
      | (with_reducible exact ih2 _ _ _ _)
      | (with_reducible exact chart_Name.mono _ _)
      | (with_reducible exact chart_airway.mono _ _ _ _)
      | (with_reducible exact LeO.refl _)
      | (with_reducible exact LeO.none _)
      | (with_reducible refine LeO.ite ?_ ?_)
      | (with_reducible refine LeO.bind ?_ (fun _ => ?_))
      | exact ih0 _ _ _
      | exact ih1 _ _ _ _ _
      | exact ih2 _ _ _ _
      | exact chart_Name.mono _ _
      | exact chart_airway.mono _ _ _ _
      | exact LeO.none _
      | refine LeO.ite ?_ ?_
      | refine LeO.bind ?_ (fun _ => ?_)
theorem chart_Check.mono : ∀ a0 a1 k, LeO (chart_Check.f k a0 a1) (chart_Check.f (k + 1) a0 a1) := by
  intro a0 a1 k; obtain ⟨ih0, ih1, ih2⟩ := chart_Check.mono_l k; unfold chart_Check.f
  repeat' first
      | (with_reducible exact ih0 _ _ _)
      | (with_reducible exact ih1 _ _ _ _ _)
      | (with_reducible exact ih2 _ _ _ _)
      | (with_reducible exact chart_Name.mono _ _)
      | (with_reducible exact chart_airway.mono _ _ _ _)
      | (with_reducible exact LeO.refl _)
      | (with_reducible exact LeO.none _)
      | (with_reducible refine LeO.ite ?_ ?_)
      | (with_reducible refine LeO.bind ?_ (fun _ => ?_))
      | exact ih0 _ _ _
      | exact ih1 _ _ _ _ _
      | exact ih2 _ _ _ _
      | exact chart_Name.mono _ _
      | exact chart_airway.mono _ _ _ _
      | exact LeO.none _
      | refine LeO.ite ?_ ?_
      | refine LeO.bind ?_ (fun _ => ?_)
set_option maxHeartbeats 8000000 in
set_option maxRecDepth 100000 in
theorem chart_Check.calls (k : Nat) (A0_0 : Option Addr) (c0_0 : Nat) (l0_0 : List (S40)) (A0_1 : Option Addr) (c0_1 : Nat) (l0_1 : List (S48)) (r : Int) (w : World) (hr0_0 : Kd.C k40 w A0_0 l0_0.length l0_0) (hc0_0 : l0_0.length ≤ c0_0) (hr0_1 : Kd.C k48 w A0_1 l0_1.length l0_1) (hc0_1 : l0_1.length ≤ c0_1) (h : chart_Check.f k l0_0 l0_1 = some r) :
    Calls Try.prog 49 #[.agg #[.slice A0_0 l0_0.length c0_0, .slice A0_1 l0_1.length c0_1]] w fun e w' => e = .returned (.int .i64 r) ∧ Below w.heap.size w w' := by
 have hu25 := Try.underlying25; have hu40 := Try.underlying40; have hu36 := Try.underlying36; have HR0_0 := Aside0.mk hr0_0; have HC0_0 := Aside0.mk hc0_0; clear hr0_0 hc0_0; have HR0_1 := Aside0.mk hr0_1; have HC0_1 := Aside0.mk hc0_1; clear hr0_1 hc0_1; have HB := Aside0.mk (Below.refl w.heap.size w); have H : (if (l0_0.length : Int) > 64 then (chart_Check.j0 k true l0_0 l0_1) else (chart_Check.j0 k (decide ((l0_1.length : Int) > 16)) l0_0 l0_1)) = some r := h; clear h; have HC2 := Aside0.mk H; clear H; go_enter Try.func49, Try.ntmps49
 go_upto_region 1 with (first | ((with_reducible refine gate_dst (N := 1) rfl ?_); (try (refine gate_guard (by rfl) ?_; dsimp only)); refine box_s #[.slice A0_0 l0_0.length c0_0, .slice A0_1 l0_1.length c0_1] 25 ?_; intro gb125 hg w3 hbox hb; have n0_ := st HB hb; have n1_ := Aside0.mk (hbox); have n2_ := ge HB hg; have n3_ := ge HB hg; clear HB; have HB := n0_; have BK125 := n1_; have GW125 := n2_; have GE125 := n3_; clear n0_ n1_ n2_ n3_; clear hb hbox hg))
 (try simp only [Act.put, List.setIfInBounds_toArray, List.set_cons_zero, List.set_cons_succ])
 go_cut [17] (fun v17 wc => ∃ (kq : Nat) (x17_1 : Bool), v17 = .bool x17_1 ∧ Aside0 (chart_Check.j0 kq x17_1 l0_0 l0_1 = some r) ∧ Aside0 (kq ≤ k) ∧ Aside0 (wc.heap[gb125]? = some (.cells #[(.slice A0_0 l0_0.length c0_0), (.slice A0_1 l0_1.length c0_1)] 25 (0, 0))) ∧ Aside0 (Below w.heap.size w wc))
 case first =>
  have H := HC2.out; clear HC2; refine Or.elim (Classical.em ((l0_0.length : Int) > 64)) (fun c4 => ?p2_) (fun c4 => ?n2_)
  case' p2_ =>
   rw [if_pos c4] at H; have c4b0 : decide (64 < (l0_0.length : Int)) = true := decide_eq_true c4; have c4b1 : decide (64 < l0_0.length) = true := decide_eq_true (by omega); clear c4
   (first | rw [c4b0] | (simp only [i64_w, i32_w]; rw [c4b0]) | skip)
  case' n2_ =>
   rw [if_neg c4] at H; have c4b0 : decide (64 < (l0_0.length : Int)) = false := decide_eq_false c4; have c4b1 : decide (64 < l0_0.length) = false := decide_eq_false (by omega); clear c4
   (first | rw [c4b0] | (simp only [i64_w, i32_w]; rw [c4b0]) | skip)
  all_goals
   have H' := Aside0.mk H; clear H; have hczzb1 : w3.cell? ⟨gb125, 0, none⟩ = some (.slice A0_0 l0_0.length c0_0) := bc BK125 0; have hczzb2 : w3.cell? ⟨gb125, 1, none⟩ = some (.slice A0_1 l0_1.length c0_1) := bc BK125 1; have hfzzb1 := blk_frozen BK125.out 0; have hfzzb2 := blk_frozen BK125.out 1; go_wp2; go_meet
   case rel => first | (exact ⟨_, (true), (by first | rfl | (simp; done) | (simp [*]; done)), H', ⟨by first | omega | exact Nat.le_refl _⟩, ⟨by (with_reducible repeat (first | refine blk_drewN ?_ _ | refine blk_drew ?_ | refine blk_alloc ?_ _)); exact BK125.out⟩, ⟨by repeat (first | (with_reducible first | exact HB.out | apply below_alloc | apply pw_below_drewN | apply below_drew1 | refine below_set ?_ GE125.out) | exact HB.out)⟩⟩) | (exact ⟨_, (decide ((l0_1.length : Int) > 16)), (by first | rfl | (simp; done) | (simp [*]; done)), H', ⟨by first | omega | exact Nat.le_refl _⟩, ⟨by (with_reducible repeat (first | refine blk_drewN ?_ _ | refine blk_drew ?_ | refine blk_alloc ?_ _)); exact BK125.out⟩, ⟨by repeat (first | (with_reducible first | exact HB.out | apply below_alloc | apply pw_below_drewN | apply below_drew1 | refine below_set ?_ GE125.out) | exact HB.out)⟩⟩)
 case rest =>
  clear HC2
  (try clear p2); (try clear c4); (try clear c4b0); (try clear c4b1); (try clear hcz5_0); (try clear hcz5_1); (try clear hcz6_0); (try clear hcz6_1); (try clear hfz5_0); (try clear hfz5_1); (try clear hfz6_0); (try clear hfz6_1)
  obtain ⟨kq, x17_1, rfl, HA, HJ1, BK125, HB⟩ := hcut
  cases kq with
  | zero => exact absurd HA.out (by simp [chart_Check.j0])
  | succ kj1 =>
   have H := HA.out; clear HA; simp only [chart_Check.j0] at H
   by_cases c7 : x17_1 = true
   · subst c7
     have H1 : (some 2) = some r := by rw [if_pos rfl] at H; exact H
     clear H; have H := H1; clear H1; obtain rfl := Option.some.inj H; go_wp2; go_ret
     exact ⟨by first | rfl | (simp [errW_none, errW_some] <;> rfl) | (simp [*, errW_none, errW_some] <;> rfl), by repeat (first | (with_reducible first | exact HB.out | apply below_alloc | apply pw_below_drewN | apply below_drew1 | refine below_set ?_ GE125.out) | exact HB.out)⟩
   · replace c7 := Bool.eq_false_iff.mpr c7; subst c7
     have H1 : (chart_Check.l0 kj1 l0_0 (l0_0.length : Int) 0 l0_0 l0_1) = some r := by rw [if_neg (show ¬ (false = true) by decide)] at H; exact H
     clear H; have H := H1; clear H1; have H' := Aside0.mk H; clear H; have hczzc1 : wc.cell? ⟨gb125, 0, none⟩ = some (.slice A0_0 l0_0.length c0_0) := bc BK125 0; have hczzc2 : wc.cell? ⟨gb125, 1, none⟩ = some (.slice A0_1 l0_1.length c0_1) := bc BK125 1; have hfzzc1 := blk_frozen BK125.out 0; have hfzzc2 := blk_frozen BK125.out 1; go_wp2; go_loopg [21] kj1 (fun kq v21 w' => ∃ (x21_2 : Int), v21 = .int .i64 x21_2 ∧ Aside0 (chart_Check.l0 kq l0_0 (l0_0.length : Int) x21_2 l0_0 l0_1 = some r) ∧ Aside0 (kq ≤ kj1) ∧ Aside0 (w'.heap[gb125]? = some (.cells #[(.slice A0_0 l0_0.length c0_0), (.slice A0_1 l0_1.length c0_1)] 25 (0, 0))) ∧ Aside0 (Below w.heap.size w w'))
     case atStart => exact ⟨(0), (by first | rfl | (simp; done) | (simp [*]; done)), H', ⟨Nat.le_refl _⟩, ⟨by (with_reducible repeat (first | refine blk_drewN ?_ _ | refine blk_drew ?_ | refine blk_alloc ?_ _)); exact BK125.out⟩, ⟨by repeat (first | (with_reducible first | exact HB.out | apply below_alloc | apply pw_below_drewN | apply below_drew1 | refine below_set ?_ GE125.out) | exact HB.out)⟩⟩
     case round =>
      clear H'
      (try clear p2); (try clear c4); (try clear c4b0); (try clear c4b1); (try clear c7); (try clear hczzc3); (try clear hczzc4); (try clear hczzc5); (try clear hczzc6); (try clear hczzc1); (try clear hczzc2); (try clear hfzzc3); (try clear hfzzc4); (try clear hfzzc5); (try clear hfzzc6); (try clear hfzzc1); (try clear hfzzc2); (try clear p2)
      obtain ⟨x21_2, rfl, HA, HK2, BK125, HB⟩ := hrel
      cases gk with
      | zero => exact absurd HA.out (by simp [chart_Check.l0])
      | succ k2 =>
       have H := HA.out; clear HA; simp only [chart_Check.l0] at H; refine Or.elim (Classical.em (x21_2 < (l0_0.length : Int))) (fun c9 => ?p4_) (fun c9 => ?n4_)
       case' p4_ =>
        rw [if_pos c9] at H; have c9b0 : decide (x21_2 < (l0_0.length : Int)) = true := decide_eq_true c9; clear c9; refine Or.elim (Classical.em (0 ≤ x21_2)) (fun c10 => ?p5_) (fun c10 => ?n5_)
        case' p5_ =>
         rw [if_pos c10] at H; have c10b0 : decide (0 ≤ x21_2) = true := decide_eq_true c10; clear c10; refine Or.elim (Classical.em (x21_2 < (l0_0.length : Int))) (fun c11 => ?p6_) (fun c11 => ?n6_)
         case' p6_ =>
          rw [if_pos c11] at H; have c11b0 : decide (x21_2 < (l0_0.length : Int)) = true := decide_eq_true c11; clear c11; replace H := Option.bind_eq_some_iff.mp H; obtain ⟨t128, A120, H⟩ := H; replace H : (if t128 = true then ((chart_find.f l0_0 l0_1 ((rd_T40 l0_0 x21_2).f0)).bind fun t129 => (if t129 < x21_2 then (some 7) else ((plane_Check.f ((rd_T40 l0_0 x21_2).f1.f0) ((rd_T40 l0_0 x21_2).f1.f1)).bind fun t130 => (if t130 = 0 then (chart_Check.l0 k2 l0_0 (l0_0.length : Int) (wrap64 (x21_2 + 1)) l0_0 l0_1) else (some t130))))) else (some 5)) = some r := H; have A12 := Aside0.mk A120; clear A120; refine Or.elim (Classical.em (t128 = true)) (fun c13 => ?p7_) (fun c13 => ?n7_)
          case' p7_ =>
           subst c13
           have H1 : ((chart_find.f l0_0 l0_1 ((rd_T40 l0_0 x21_2).f0)).bind fun t129 => (if t129 < x21_2 then (some 7) else ((plane_Check.f ((rd_T40 l0_0 x21_2).f1.f0) ((rd_T40 l0_0 x21_2).f1.f1)).bind fun t130 => (if t130 = 0 then (chart_Check.l0 k2 l0_0 (l0_0.length : Int) (wrap64 (x21_2 + 1)) l0_0 l0_1) else (some t130))))) = some r := by rw [if_pos rfl] at H; exact H
           clear H; have H := H1; clear H1; replace H := Option.bind_eq_some_iff.mp H; obtain ⟨t129, A140, H⟩ := H; replace H : (if t129 < x21_2 then (some 7) else ((plane_Check.f ((rd_T40 l0_0 x21_2).f1.f0) ((rd_T40 l0_0 x21_2).f1.f1)).bind fun t130 => (if t130 = 0 then (chart_Check.l0 k2 l0_0 (l0_0.length : Int) (wrap64 (x21_2 + 1)) l0_0 l0_1) else (some t130)))) = some r := H; have A14 := Aside0.mk A140; clear A140; refine Or.elim (Classical.em (t129 < x21_2)) (fun c15 => ?p8_) (fun c15 => ?n8_)
           case' p8_ =>
            rw [if_pos c15] at H; have c15b0 : decide (t129 < x21_2) = true := decide_eq_true c15; clear c15; have hm3_0 := Aside0.mk trivial
           case' n8_ =>
            rw [if_neg c15] at H; have c15b0 : decide (t129 < x21_2) = false := decide_eq_false c15; clear c15; replace H := Option.bind_eq_some_iff.mp H; obtain ⟨t130, A230, H⟩ := H; replace H : (if t130 = 0 then (chart_Check.l0 k2 l0_0 (l0_0.length : Int) (wrap64 (x21_2 + 1)) l0_0 l0_1) else (some t130)) = some r := H; have A23 := Aside0.mk A230; clear A230; refine Or.elim (Classical.em (t130 = 0)) (fun c24 => ?p9_) (fun c24 => ?n9_)
            case' p9_ =>
             rw [if_pos c24] at H; have c24b0 : (t130 == 0) = true := beq_iff_eq.mpr c24; have c24b1 : (t130 != 0) = false := bne_eq_false_iff_eq.mpr c24; clear c24; have hm3_1 := Aside0.mk trivial
            case' n9_ =>
             rw [if_neg c24] at H; have c24b0 : (t130 == 0) = false := beq_eq_false_iff_ne.mpr c24; have c24b1 : (t130 != 0) = true := bne_iff_ne.mpr c24; have hm3_0 := Aside0.mk trivial
          case' n7_ =>
           replace c13 := Bool.eq_false_iff.mpr c13; subst c13
           have H1 : (some 5) = some r := by rw [if_neg (show ¬ (false = true) by decide)] at H; exact H
           clear H; have H := H1; clear H1; have hm3_0 := Aside0.mk trivial
         case' n6_ =>
          rw [if_neg c11] at H; exact absurd H (by simp)
        case' n5_ =>
         rw [if_neg c10] at H; exact absurd H (by simp)
       case' n4_ =>
        rw [if_neg c9] at H; have c9b0 : decide (x21_2 < (l0_0.length : Int)) = false := decide_eq_false c9; clear c9; have hm3_2 := Aside0.mk trivial
       all_goals
        first
         | clear hm3_0; obtain rfl := Option.some.inj H
           have p126 : 0 ≤ (x21_2 : Int) := of_decide_eq_true (by first | (with_reducible assumption) | assumption)
           have q126 : x21_2 < (l0_0.length : Int) := of_decide_eq_true (by first | (with_reducible assumption) | assumption)
           obtain ⟨ad126, e126, hx126_0, hx126_1, hx126_2⟩ := at_T40 HR0_0.out x21_2 p126 q126; cases e126; replace hx126_0 := cl HB hx126_0; replace hx126_1 := cl HB hx126_1; replace hx126_2 := cl HB hx126_2; replace p126 := eq_true p126; replace q126 := eq_true q126
           go_wp2_with (first | ((with_reducible refine gate_dst (N := 4) rfl ?_); (try (refine gate_guard (by rfl) ?_; dsimp only)); refine box_s #[.string (⟨#[]⟩ : ByteArray), .int .i64 0, .int .i64 0] 40 ?_; intro gb127 hg wxddf31 hbox hb; have n0_ := kp BK125 hb; have n1_ := st HB hb; have n2_ := Aside0.mk (hbox); have n3_ := ge HB hg; have n4_ := ge HB hg; have n5_ := nl BK125 hg; have n6_ := nr BK125 hg; clear BK125; clear HB; have BK125 := n0_; have HB := n1_; have BK127 := n2_; have GW127 := n3_; have GE127 := n4_; have NB125_127 := n5_; have NB127_125 := n6_; clear n0_ n1_ n2_ n3_ n4_ n5_ n6_; clear hb hbox hg; have hnbxddf31 := NB127_125.out; have hncxddf31 := NB125_127.out; have hczxddf31 : wxddf31.cell? ⟨gb127, 0, none⟩ = some (.string (⟨#[]⟩ : ByteArray)) := bc BK127 0; have hczxddf32 : wxddf31.cell? ⟨gb127, 1, none⟩ = some (.int .i64 0) := bc BK127 1; have hczxddf33 : wxddf31.cell? ⟨gb127, 2, none⟩ = some (.int .i64 0) := bc BK127 2; have hfzxddf31 := blk_frozen BK127.out 0; have hfzxddf32 := blk_frozen BK127.out 1; have hfzxddf33 := blk_frozen BK127.out 2) | ((with_reducible refine gate_callee (f := 48) rfl ?_); refine goesL_ (some 29) rfl rfl Try.func48 (by kernel_rfl) rfl #[.string ((rd_T40 l0_0 x21_2).f0)] rfl any_s ?_; (with_reducible refine (chart_Name.calls k2 ((rd_T40 l0_0 x21_2).f0) true _ A12.out).mono ?_); rintro e wx57c51 ⟨rfl, hb⟩; refine ⟨_, rfl, ?_⟩; have n0_ := kp BK125 hb; have n1_ := Aside0.mk (blk_below (g := gb127) (o := .cells #[.string ((rd_T40 l0_0 x21_2).f0), .int .i64 ((rd_T40 l0_0 x21_2).f1.f0), .int .i64 ((rd_T40 l0_0 x21_2).f1.f1)] 40 (0, 0)) (by (with_reducible repeat (first | refine blk_drewN ?_ _ | refine blk_drew ?_ | refine blk_alloc ?_ _)); refine blk_put (cs := #[.string ((rd_T40 l0_0 x21_2).f0), .int .i64 ((rd_T40 l0_0 x21_2).f1.f0), .int .i64 0]) ?_ 2 _ rfl; (with_reducible repeat (first | refine blk_drewN ?_ _ | refine blk_drew ?_ | refine blk_alloc ?_ _)); refine blk_put (cs := #[.string ((rd_T40 l0_0 x21_2).f0), .int .i64 0, .int .i64 0]) ?_ 1 _ rfl; (with_reducible repeat (first | refine blk_drewN ?_ _ | refine blk_drew ?_ | refine blk_alloc ?_ _)); refine blk_put (cs := #[.string (⟨#[]⟩ : ByteArray), .int .i64 0, .int .i64 0]) ?_ 0 _ rfl; (with_reducible repeat (first | refine blk_drewN ?_ _ | refine blk_drew ?_ | refine blk_alloc ?_ _)); exact BK127.out) hb); have n2_ := st HB hb; clear BK125; clear BK127; clear HB; have BK125 := n0_; have BK127 := n1_; have HB := n2_; clear n0_ n1_ n2_; (try clear hb); (try clear hb2); (try clear hk); (try clear hi); have hczx57c51 : wx57c51.cell? ⟨gb125, 0, none⟩ = some (.slice (some ad126) l0_0.length c0_0) := bc BK125 0; have hczx57c52 : wx57c51.cell? ⟨gb125, 1, none⟩ = some (.slice A0_1 l0_1.length c0_1) := bc BK125 1; have hfzx57c51 := blk_frozen BK125.out 0; have hfzx57c52 := blk_frozen BK125.out 1; have hczx57c53 : wx57c51.cell? ⟨gb127, 0, none⟩ = some (.string ((rd_T40 l0_0 x21_2).f0)) := bc BK127 0; have hczx57c54 : wx57c51.cell? ⟨gb127, 1, none⟩ = some (.int .i64 ((rd_T40 l0_0 x21_2).f1.f0)) := bc BK127 1; have hczx57c55 : wx57c51.cell? ⟨gb127, 2, none⟩ = some (.int .i64 ((rd_T40 l0_0 x21_2).f1.f1)) := bc BK127 2; have hfzx57c53 := blk_frozen BK127.out 0; have hfzx57c54 := blk_frozen BK127.out 1; have hfzx57c55 := blk_frozen BK127.out 2) | ((with_reducible refine gate_callee (f := 48) rfl ?_); refine goesL_ (some 29) rfl rfl Try.func48 (by kernel_rfl) rfl #[.string ((rd_T40 l0_0 x21_2).f0)] rfl any_s ?_; (with_reducible refine (chart_Name.calls k2 ((rd_T40 l0_0 x21_2).f0) false _ A12.out).mono ?_); rintro e wx67361 ⟨rfl, hb⟩; refine ⟨_, rfl, ?_⟩; have n0_ := kp BK125 hb; have n1_ := Aside0.mk (blk_below (g := gb127) (o := .cells #[.string ((rd_T40 l0_0 x21_2).f0), .int .i64 ((rd_T40 l0_0 x21_2).f1.f0), .int .i64 ((rd_T40 l0_0 x21_2).f1.f1)] 40 (0, 0)) (by (with_reducible repeat (first | refine blk_drewN ?_ _ | refine blk_drew ?_ | refine blk_alloc ?_ _)); refine blk_put (cs := #[.string ((rd_T40 l0_0 x21_2).f0), .int .i64 ((rd_T40 l0_0 x21_2).f1.f0), .int .i64 0]) ?_ 2 _ rfl; (with_reducible repeat (first | refine blk_drewN ?_ _ | refine blk_drew ?_ | refine blk_alloc ?_ _)); refine blk_put (cs := #[.string ((rd_T40 l0_0 x21_2).f0), .int .i64 0, .int .i64 0]) ?_ 1 _ rfl; (with_reducible repeat (first | refine blk_drewN ?_ _ | refine blk_drew ?_ | refine blk_alloc ?_ _)); refine blk_put (cs := #[.string (⟨#[]⟩ : ByteArray), .int .i64 0, .int .i64 0]) ?_ 0 _ rfl; (with_reducible repeat (first | refine blk_drewN ?_ _ | refine blk_drew ?_ | refine blk_alloc ?_ _)); exact BK127.out) hb); have n2_ := st HB hb; clear BK125; clear BK127; clear HB; have BK125 := n0_; have BK127 := n1_; have HB := n2_; clear n0_ n1_ n2_; (try clear hb); (try clear hb2); (try clear hk); (try clear hi)) | ((with_reducible refine gate_callee (f := 55) rfl ?_); refine goesL_ (some 35) rfl rfl Try.func55 (by kernel_rfl) rfl #[.agg #[.slice (some ad126) l0_0.length c0_0, .slice A0_1 l0_1.length c0_1], .string ((rd_T40 l0_0 x21_2).f0)] rfl any_s ?_; (with_reducible refine (chart_find.calls _ _ l0_0 _ _ l0_1 ((rd_T40 l0_0 x21_2).f0) t129 _ ?side1 ?side2 ?side3 ?side4 A14.out).mono ?_); (case side1 => exact cb_s (Kd.C_below HR0_0.out HB.out)); (case side2 => exact HC0_0.out); (case side3 => exact cb_s (Kd.C_below HR0_1.out HB.out)); (case side4 => exact HC0_1.out); rintro e wx9a2d1 ⟨rfl, hb⟩; refine ⟨_, rfl, ?_⟩; have n0_ := kp BK125 hb; have n1_ := kp BK127 hb; have n2_ := st HB hb; clear BK125; clear BK127; clear HB; have BK125 := n0_; have BK127 := n1_; have HB := n2_; clear n0_ n1_ n2_; (try clear hb); (try clear hb2); (try clear hk); (try clear hi); have hczx9a2d1 : wx9a2d1.cell? ⟨gb127, 0, none⟩ = some (.string ((rd_T40 l0_0 x21_2).f0)) := bc BK127 0; have hczx9a2d2 : wx9a2d1.cell? ⟨gb127, 1, none⟩ = some (.int .i64 ((rd_T40 l0_0 x21_2).f1.f0)) := bc BK127 1; have hczx9a2d3 : wx9a2d1.cell? ⟨gb127, 2, none⟩ = some (.int .i64 ((rd_T40 l0_0 x21_2).f1.f1)) := bc BK127 2; have hfzx9a2d1 := blk_frozen BK127.out 0; have hfzx9a2d2 := blk_frozen BK127.out 1; have hfzx9a2d3 := blk_frozen BK127.out 2) | ((with_reducible refine gate_callee (f := 55) rfl ?_); refine goesL_ (some 35) rfl rfl Try.func55 (by kernel_rfl) rfl #[.agg #[.slice (some ad126) l0_0.length c0_0, .slice A0_1 l0_1.length c0_1], .string ((rd_T40 l0_0 x21_2).f0)] rfl any_s ?_; (with_reducible refine (chart_find.calls _ _ l0_0 _ _ l0_1 ((rd_T40 l0_0 x21_2).f0) t129 _ ?side1 ?side2 ?side3 ?side4 A14.out).mono ?_); (case side1 => exact cb_s (Kd.C_below HR0_0.out HB.out)); (case side2 => exact HC0_0.out); (case side3 => exact cb_s (Kd.C_below HR0_1.out HB.out)); (case side4 => exact HC0_1.out); rintro e wx28451 ⟨rfl, hb⟩; refine ⟨_, rfl, ?_⟩; have n0_ := kp BK125 hb; have n1_ := kp BK127 hb; have n2_ := st HB hb; clear BK125; clear BK127; clear HB; have BK125 := n0_; have BK127 := n1_; have HB := n2_; clear n0_ n1_ n2_; (try clear hb); (try clear hb2); (try clear hk); (try clear hi)) | ((with_reducible refine gate_callee (f := 57) rfl ?_); refine goesL_ (some 40) rfl rfl Try.func57 (by kernel_rfl) rfl #[.agg #[.int .i64 ((rd_T40 l0_0 x21_2).f1.f0), .int .i64 ((rd_T40 l0_0 x21_2).f1.f1)]] rfl any_s ?_; (with_reducible refine (plane_Check.calls ((rd_T40 l0_0 x21_2).f1.f0) ((rd_T40 l0_0 x21_2).f1.f1) t130 _ A23.out).mono ?_); rintro e wx269c1 ⟨rfl, hb⟩; refine ⟨_, rfl, ?_⟩; have n0_ := kp BK125 hb; have n1_ := kp BK127 hb; have n2_ := st HB hb; clear BK125; clear BK127; clear HB; have BK125 := n0_; have BK127 := n1_; have HB := n2_; clear n0_ n1_ n2_; (try clear hb); (try clear hb2); (try clear hk); (try clear hi)))
           go_ret
           exact ⟨by first | rfl | (simp [errW_none, errW_some] <;> rfl) | (simp [*, errW_none, errW_some] <;> rfl), by repeat (first | (with_reducible first | exact HB.out | apply below_alloc | apply pw_below_drewN | apply below_drew1 | refine below_set ?_ GE125.out | refine below_set ?_ GE127.out) | exact HB.out)⟩
         | (first | (have _hm := hm3_1) | (have _hm := hm3_2))
           have H' := Aside0.mk H; clear H
           first
            | clear hm3_1
              have p126 : 0 ≤ (x21_2 : Int) := of_decide_eq_true (by first | (with_reducible assumption) | assumption)
              have q126 : x21_2 < (l0_0.length : Int) := of_decide_eq_true (by first | (with_reducible assumption) | assumption)
              obtain ⟨ad126, e126, hx126_0, hx126_1, hx126_2⟩ := at_T40 HR0_0.out x21_2 p126 q126; cases e126; replace hx126_0 := cl HB hx126_0; replace hx126_1 := cl HB hx126_1; replace hx126_2 := cl HB hx126_2; replace p126 := eq_true p126; replace q126 := eq_true q126
              go_wp2_with (first | ((with_reducible refine gate_dst (N := 4) rfl ?_); (try (refine gate_guard (by rfl) ?_; dsimp only)); refine box_s #[.string (⟨#[]⟩ : ByteArray), .int .i64 0, .int .i64 0] 40 ?_; intro gb127 hg wxddf31 hbox hb; have n0_ := kp BK125 hb; have n1_ := st HB hb; have n2_ := Aside0.mk (hbox); have n3_ := ge HB hg; have n4_ := ge HB hg; have n5_ := nl BK125 hg; have n6_ := nr BK125 hg; clear BK125; clear HB; have BK125 := n0_; have HB := n1_; have BK127 := n2_; have GW127 := n3_; have GE127 := n4_; have NB125_127 := n5_; have NB127_125 := n6_; clear n0_ n1_ n2_ n3_ n4_ n5_ n6_; clear hb hbox hg; have hnbxddf31 := NB127_125.out; have hncxddf31 := NB125_127.out; have hczxddf31 : wxddf31.cell? ⟨gb127, 0, none⟩ = some (.string (⟨#[]⟩ : ByteArray)) := bc BK127 0; have hczxddf32 : wxddf31.cell? ⟨gb127, 1, none⟩ = some (.int .i64 0) := bc BK127 1; have hczxddf33 : wxddf31.cell? ⟨gb127, 2, none⟩ = some (.int .i64 0) := bc BK127 2; have hfzxddf31 := blk_frozen BK127.out 0; have hfzxddf32 := blk_frozen BK127.out 1; have hfzxddf33 := blk_frozen BK127.out 2) | ((with_reducible refine gate_callee (f := 48) rfl ?_); refine goesL_ (some 29) rfl rfl Try.func48 (by kernel_rfl) rfl #[.string ((rd_T40 l0_0 x21_2).f0)] rfl any_s ?_; (with_reducible refine (chart_Name.calls k2 ((rd_T40 l0_0 x21_2).f0) true _ A12.out).mono ?_); rintro e wx57c51 ⟨rfl, hb⟩; refine ⟨_, rfl, ?_⟩; have n0_ := kp BK125 hb; have n1_ := Aside0.mk (blk_below (g := gb127) (o := .cells #[.string ((rd_T40 l0_0 x21_2).f0), .int .i64 ((rd_T40 l0_0 x21_2).f1.f0), .int .i64 ((rd_T40 l0_0 x21_2).f1.f1)] 40 (0, 0)) (by (with_reducible repeat (first | refine blk_drewN ?_ _ | refine blk_drew ?_ | refine blk_alloc ?_ _)); refine blk_put (cs := #[.string ((rd_T40 l0_0 x21_2).f0), .int .i64 ((rd_T40 l0_0 x21_2).f1.f0), .int .i64 0]) ?_ 2 _ rfl; (with_reducible repeat (first | refine blk_drewN ?_ _ | refine blk_drew ?_ | refine blk_alloc ?_ _)); refine blk_put (cs := #[.string ((rd_T40 l0_0 x21_2).f0), .int .i64 0, .int .i64 0]) ?_ 1 _ rfl; (with_reducible repeat (first | refine blk_drewN ?_ _ | refine blk_drew ?_ | refine blk_alloc ?_ _)); refine blk_put (cs := #[.string (⟨#[]⟩ : ByteArray), .int .i64 0, .int .i64 0]) ?_ 0 _ rfl; (with_reducible repeat (first | refine blk_drewN ?_ _ | refine blk_drew ?_ | refine blk_alloc ?_ _)); exact BK127.out) hb); have n2_ := st HB hb; clear BK125; clear BK127; clear HB; have BK125 := n0_; have BK127 := n1_; have HB := n2_; clear n0_ n1_ n2_; (try clear hb); (try clear hb2); (try clear hk); (try clear hi); have hczx57c51 : wx57c51.cell? ⟨gb125, 0, none⟩ = some (.slice (some ad126) l0_0.length c0_0) := bc BK125 0; have hczx57c52 : wx57c51.cell? ⟨gb125, 1, none⟩ = some (.slice A0_1 l0_1.length c0_1) := bc BK125 1; have hfzx57c51 := blk_frozen BK125.out 0; have hfzx57c52 := blk_frozen BK125.out 1; have hczx57c53 : wx57c51.cell? ⟨gb127, 0, none⟩ = some (.string ((rd_T40 l0_0 x21_2).f0)) := bc BK127 0; have hczx57c54 : wx57c51.cell? ⟨gb127, 1, none⟩ = some (.int .i64 ((rd_T40 l0_0 x21_2).f1.f0)) := bc BK127 1; have hczx57c55 : wx57c51.cell? ⟨gb127, 2, none⟩ = some (.int .i64 ((rd_T40 l0_0 x21_2).f1.f1)) := bc BK127 2; have hfzx57c53 := blk_frozen BK127.out 0; have hfzx57c54 := blk_frozen BK127.out 1; have hfzx57c55 := blk_frozen BK127.out 2) | ((with_reducible refine gate_callee (f := 55) rfl ?_); refine goesL_ (some 35) rfl rfl Try.func55 (by kernel_rfl) rfl #[.agg #[.slice (some ad126) l0_0.length c0_0, .slice A0_1 l0_1.length c0_1], .string ((rd_T40 l0_0 x21_2).f0)] rfl any_s ?_; (with_reducible refine (chart_find.calls _ _ l0_0 _ _ l0_1 ((rd_T40 l0_0 x21_2).f0) t129 _ ?side1 ?side2 ?side3 ?side4 A14.out).mono ?_); (case side1 => exact cb_s (Kd.C_below HR0_0.out HB.out)); (case side2 => exact HC0_0.out); (case side3 => exact cb_s (Kd.C_below HR0_1.out HB.out)); (case side4 => exact HC0_1.out); rintro e wx9a2d1 ⟨rfl, hb⟩; refine ⟨_, rfl, ?_⟩; have n0_ := kp BK125 hb; have n1_ := kp BK127 hb; have n2_ := st HB hb; clear BK125; clear BK127; clear HB; have BK125 := n0_; have BK127 := n1_; have HB := n2_; clear n0_ n1_ n2_; (try clear hb); (try clear hb2); (try clear hk); (try clear hi); have hczx9a2d1 : wx9a2d1.cell? ⟨gb127, 0, none⟩ = some (.string ((rd_T40 l0_0 x21_2).f0)) := bc BK127 0; have hczx9a2d2 : wx9a2d1.cell? ⟨gb127, 1, none⟩ = some (.int .i64 ((rd_T40 l0_0 x21_2).f1.f0)) := bc BK127 1; have hczx9a2d3 : wx9a2d1.cell? ⟨gb127, 2, none⟩ = some (.int .i64 ((rd_T40 l0_0 x21_2).f1.f1)) := bc BK127 2; have hfzx9a2d1 := blk_frozen BK127.out 0; have hfzx9a2d2 := blk_frozen BK127.out 1; have hfzx9a2d3 := blk_frozen BK127.out 2) | ((with_reducible refine gate_callee (f := 57) rfl ?_); refine goesL_ (some 40) rfl rfl Try.func57 (by kernel_rfl) rfl #[.agg #[.int .i64 ((rd_T40 l0_0 x21_2).f1.f0), .int .i64 ((rd_T40 l0_0 x21_2).f1.f1)]] rfl any_s ?_; (with_reducible refine (plane_Check.calls ((rd_T40 l0_0 x21_2).f1.f0) ((rd_T40 l0_0 x21_2).f1.f1) t130 _ A23.out).mono ?_); rintro e wx269c1 ⟨rfl, hb⟩; refine ⟨_, rfl, ?_⟩; have n0_ := kp BK125 hb; have n1_ := kp BK127 hb; have n2_ := st HB hb; clear BK125; clear BK127; clear HB; have BK125 := n0_; have BK127 := n1_; have HB := n2_; clear n0_ n1_ n2_; (try clear hb); (try clear hb2); (try clear hk); (try clear hi)))
              go_roundg k2
              case measure => have := HJ1.out; have := HK2.out; omega
              case rel => exact ⟨(wrap64 (x21_2 + 1)), (by first | rfl | (simp; done) | (simp [*]; done)), H', ⟨by have := HJ1.out; have := HK2.out; omega⟩, ⟨by (with_reducible repeat (first | refine blk_drewN ?_ _ | refine blk_drew ?_ | refine blk_alloc ?_ _)); exact BK125.out⟩, ⟨by repeat (first | (with_reducible first | exact HB.out | apply below_alloc | apply pw_below_drewN | apply below_drew1 | refine below_set ?_ GE125.out | refine below_set ?_ GE127.out) | exact HB.out)⟩⟩
            | clear hm3_2; have hczze1 : wr.cell? ⟨gb125, 0, none⟩ = some (.slice A0_0 l0_0.length c0_0) := bc BK125 0; have hczze2 : wr.cell? ⟨gb125, 1, none⟩ = some (.slice A0_1 l0_1.length c0_1) := bc BK125 1; have hfzze1 := blk_frozen BK125.out 0; have hfzze2 := blk_frozen BK125.out 1; go_wp2; go_loopg [48] k2 (fun kq v48 w' => ∃ (x48_3 : Int), v48 = .int .i64 x48_3 ∧ Aside0 (chart_Check.l1 kq (l0_1.length : Int) x48_3 l0_0 l0_1 = some r) ∧ Aside0 (kq ≤ k2) ∧ Aside0 (w'.heap[gb125]? = some (.cells #[(.slice A0_0 l0_0.length c0_0), (.slice A0_1 l0_1.length c0_1)] 25 (0, 0))) ∧ Aside0 (Below w.heap.size w w'))
              case atStart => exact ⟨(0), (by first | rfl | (simp; done) | (simp [*]; done)), H', ⟨Nat.le_refl _⟩, ⟨by (with_reducible repeat (first | refine blk_drewN ?_ _ | refine blk_drew ?_ | refine blk_alloc ?_ _)); exact BK125.out⟩, ⟨by repeat (first | (with_reducible first | exact HB.out | apply below_alloc | apply pw_below_drewN | apply below_drew1 | refine below_set ?_ GE125.out) | exact HB.out)⟩⟩
              case round =>
               clear H'
               (try clear c1); (try clear p1); (try clear q1); (try clear hx1); (try clear c2); (try clear p2); (try clear c3); (try clear c4); (try clear c4b0); (try clear c4b1); (try clear c5); (try clear p6); (try clear c7); (try clear c9); (try clear c9b0); (try clear c10); (try clear c10b0); (try clear c11); (try clear c11b0); (try clear p12); (try clear q12); (try clear hx12); (try clear c13); (try clear c15); (try clear c15b0); (try clear c17); (try clear c24); (try clear c24b0); (try clear c24b1); (try clear c26); (try clear c35); (try clear c44); (try clear hczze3); (try clear hczze4); (try clear hczze5); (try clear hczze6); (try clear hczze7); (try clear hczze8); (try clear hczze9); (try clear hczze10)
               (try clear hczze3); (try clear hczze4); (try clear hczze5); (try clear hczze6); (try clear hczze7); (try clear hczze8); (try clear hczze9); (try clear hczze10); (try clear hczze11); (try clear hczze12); (try clear hczze13); (try clear hczze3); (try clear hczze4); (try clear hczze5); (try clear hczze6); (try clear hczze7); (try clear hczze8); (try clear hczze9); (try clear hczze10); (try clear hczze11); (try clear hczze12); (try clear hczze13); (try clear hczze3); (try clear hczze4); (try clear hczze5); (try clear hczze1); (try clear hczze2); (try clear hczze14); (try clear hczze15); (try clear hczze16); (try clear hczze17); (try clear hczzc1); (try clear hczzc2); (try clear hfzze3); (try clear hfzze4); (try clear hfzze5); (try clear hfzze6); (try clear hfzze7); (try clear hfzze8); (try clear hfzze9)
               (try clear hfzze10); (try clear hfzze3); (try clear hfzze4); (try clear hfzze5); (try clear hfzze6); (try clear hfzze7); (try clear hfzze8); (try clear hfzze9); (try clear hfzze10); (try clear hfzze11); (try clear hfzze12); (try clear hfzze13); (try clear hfzze3); (try clear hfzze4); (try clear hfzze5); (try clear hfzze6); (try clear hfzze7); (try clear hfzze8); (try clear hfzze9); (try clear hfzze10); (try clear hfzze11); (try clear hfzze12); (try clear hfzze13); (try clear hfzze3); (try clear hfzze4); (try clear hfzze5); (try clear hfzze1); (try clear hfzze2); (try clear hfzze14); (try clear hfzze15); (try clear hfzze16); (try clear hfzze17); (try clear hfzzc1); (try clear hfzzc2); (try clear hx126_0); (try clear hx126_1); (try clear hx126_2); (try clear p126); (try clear p2); (try clear q126)
               obtain ⟨x48_3, rfl, HA, HK3, BK125, HB⟩ := hrel
               cases gk with
               | zero => exact absurd HA.out (by simp [chart_Check.l1])
               | succ k3 =>
                have H := HA.out; clear HA; simp only [chart_Check.l1] at H; refine Or.elim (Classical.em (x48_3 < (l0_1.length : Int))) (fun c48 => ?p11_) (fun c48 => ?n11_)
                case' p11_ =>
                 rw [if_pos c48] at H; have c48b0 : decide (x48_3 < (l0_1.length : Int)) = true := decide_eq_true c48; clear c48; replace H := Option.bind_eq_some_iff.mp H; obtain ⟨t131, A490, H⟩ := H; replace H : (if t131 = 0 then (chart_Check.l1 k3 (l0_1.length : Int) (wrap64 (x48_3 + 1)) l0_0 l0_1) else (some t131)) = some r := H; have A49 := Aside0.mk A490; clear A490; refine Or.elim (Classical.em (t131 = 0)) (fun c50 => ?p12_) (fun c50 => ?n12_)
                 case' p12_ =>
                  rw [if_pos c50] at H; have c50b0 : (t131 == 0) = true := beq_iff_eq.mpr c50; have c50b1 : (t131 != 0) = false := bne_eq_false_iff_eq.mpr c50; clear c50; have hm10_0 := Aside0.mk trivial
                 case' n12_ =>
                  rw [if_neg c50] at H; have c50b0 : (t131 == 0) = false := beq_eq_false_iff_ne.mpr c50; have c50b1 : (t131 != 0) = true := bne_iff_ne.mpr c50; have hm10_1 := Aside0.mk trivial
                case' n11_ =>
                 rw [if_neg c48] at H; have c48b0 : decide (x48_3 < (l0_1.length : Int)) = false := decide_eq_false c48; clear c48; have hm10_2 := Aside0.mk trivial
                all_goals
                 first
                  | clear hm10_0; have H' := Aside0.mk H; clear H; have hczzg1 : wr.cell? ⟨gb125, 0, none⟩ = some (.slice A0_0 l0_0.length c0_0) := bc BK125 0; have hczzg2 : wr.cell? ⟨gb125, 1, none⟩ = some (.slice A0_1 l0_1.length c0_1) := bc BK125 1; have hfzzg1 := blk_frozen BK125.out 0; have hfzzg2 := blk_frozen BK125.out 1
                    go_wp2_with (first | ((with_reducible refine gate_callee (f := 92) rfl ?_); refine goesL_ (some 53) rfl rfl Try.func92 (by kernel_rfl) rfl #[.agg #[.slice A0_0 l0_0.length c0_0, .slice A0_1 l0_1.length c0_1], .int .i64 x48_3] rfl any_s ?_; (with_reducible refine (chart_airway.calls k3 _ _ l0_0 _ _ l0_1 x48_3 t131 _ ?side1 ?side2 ?side3 ?side4 A49.out).mono ?_); (case side1 => exact cb_s (Kd.C_below HR0_0.out HB.out)); (case side2 => exact HC0_0.out); (case side3 => exact cb_s (Kd.C_below HR0_1.out HB.out)); (case side4 => exact HC0_1.out); rintro e wx57191 ⟨rfl, hb⟩; refine ⟨_, rfl, ?_⟩; have n0_ := kp BK125 hb; have n1_ := st HB hb; clear BK125; clear HB; have BK125 := n0_; have HB := n1_; clear n0_ n1_; (try clear hb); (try clear hb2); (try clear hk); (try clear hi)))
                    go_roundg k3
                    case measure => have := HJ1.out; have := HK2.out; have := HK3.out; omega
                    case rel => exact ⟨(wrap64 (x48_3 + 1)), (by first | rfl | (simp; done) | (simp [*]; done)), H', ⟨by have := HJ1.out; have := HK2.out; have := HK3.out; omega⟩, ⟨by (with_reducible repeat (first | refine blk_drewN ?_ _ | refine blk_drew ?_ | refine blk_alloc ?_ _)); exact BK125.out⟩, ⟨by repeat (first | (with_reducible first | exact HB.out | apply below_alloc | apply pw_below_drewN | apply below_drew1 | refine below_set ?_ GE125.out) | exact HB.out)⟩⟩
                  | (first | (have _hm := hm10_1) | (have _hm := hm10_2))
                    obtain rfl := Option.some.inj H
                    first
                     | clear hm10_1; have hczzg1 : wr.cell? ⟨gb125, 0, none⟩ = some (.slice A0_0 l0_0.length c0_0) := bc BK125 0; have hczzg2 : wr.cell? ⟨gb125, 1, none⟩ = some (.slice A0_1 l0_1.length c0_1) := bc BK125 1; have hfzzg1 := blk_frozen BK125.out 0; have hfzzg2 := blk_frozen BK125.out 1
                       go_wp2_with (first | ((with_reducible refine gate_callee (f := 92) rfl ?_); refine goesL_ (some 53) rfl rfl Try.func92 (by kernel_rfl) rfl #[.agg #[.slice A0_0 l0_0.length c0_0, .slice A0_1 l0_1.length c0_1], .int .i64 x48_3] rfl any_s ?_; (with_reducible refine (chart_airway.calls k3 _ _ l0_0 _ _ l0_1 x48_3 t131 _ ?side1 ?side2 ?side3 ?side4 A49.out).mono ?_); (case side1 => exact cb_s (Kd.C_below HR0_0.out HB.out)); (case side2 => exact HC0_0.out); (case side3 => exact cb_s (Kd.C_below HR0_1.out HB.out)); (case side4 => exact HC0_1.out); rintro e wx57191 ⟨rfl, hb⟩; refine ⟨_, rfl, ?_⟩; have n0_ := kp BK125 hb; have n1_ := st HB hb; clear BK125; clear HB; have BK125 := n0_; have HB := n1_; clear n0_ n1_; (try clear hb); (try clear hb2); (try clear hk); (try clear hi)))
                       go_ret
                       exact ⟨by first | rfl | (simp [errW_none, errW_some] <;> rfl) | (simp [*, errW_none, errW_some] <;> rfl), by repeat (first | (with_reducible first | exact HB.out | apply below_alloc | apply pw_below_drewN | apply below_drew1 | refine below_set ?_ GE125.out) | exact HB.out)⟩
                     | clear hm10_2; go_wp2; go_ret
                       exact ⟨by first | rfl | (simp [errW_none, errW_some] <;> rfl) | (simp [*, errW_none, errW_some] <;> rfl), by repeat (first | (with_reducible first | exact HB.out | apply below_alloc | apply pw_below_drewN | apply below_drew1 | refine below_set ?_ GE125.out) | exact HB.out)⟩

/-! ### slices_IndexFunc_string_string: function 136 -/
/-- Where a predicate holds first. -/
def slices_IndexFunc_string_string.f (l0 : List (ByteArray)) (p : (ByteArray) → Bool) : Option Int := some (IdxF.idx p l0)
set_option maxHeartbeats 8000000 in
set_option maxRecDepth 100000 in
theorem slices_IndexFunc_string_string.calls (A0 : Option Addr) (c0 : Nat) (l0 : List (ByteArray)) (p : (ByteArray) → Bool) {F : Value} (r : Int) (w : World) (hr0 : Kd.C Kd.string w A0 l0.length l0) (hc0 : l0.length ≤ c0) (hp : IdxF.Pred Try.prog Kd.string false F p w) (h : slices_IndexFunc_string_string.f l0 p = some r) :
    Calls Try.prog 136 #[.slice A0 l0.length c0, F] w fun e w' => e = .returned (.int .i64 r) ∧ Below w.heap.size w w' := by
  obtain ⟨g, lb, rfl, eg, hp⟩ := hp; obtain rfl := Option.some.inj h; clear h; have hbig := hr0.2.1; go_enter Try.func136, Try.ntmps136; go_wp2; go_loopg [5, 8] l0.length (fun gg _ s8 wr => ∃ kk : Nat, kk ≤ l0.length ∧ l0.length - kk ≤ gg ∧ s8 = .int .i64 kk ∧ Aside0 (Below w.heap.size w wr) ∧ Aside0 (∀ j (h : j < l0.length), j < kk → p l0[j] = false))
  case atStart => exact ⟨0, Nat.zero_le _, by omega, rfl, ⟨Below.refl _ w⟩, ⟨fun j _ hj => absurd hj (Nat.not_lt_zero _)⟩⟩
  case round =>
    obtain ⟨kk, hkk, hg, rfl, BW, AJ⟩ := hrel
    by_cases hlt : kk < l0.length
    · have hltz : (kk : Int) < (l0.length : Int) := by omega
      obtain ⟨ad, cs, rfl, hlen, hK, hcell⟩ := Kd.C_get (Kd.C_below hr0 BW.out) (⟨#[]⟩ : ByteArray) (kk : Int) (by omega) hltz
      have hx : l0.getD (kk : Int).toNat (⟨#[]⟩ : ByteArray) = l0[kk] := by rw [Int.toNat_natCast, List.getD_eq_getElem?_getD, List.getElem?_eq_getElem hlt]; rfl
      rw [hx] at hK; obtain ⟨v0_, rfl⟩ := IdxF.len1 hlen
      have hx0_ : wr.cell? (ad.add kk) = some v0_ := by first | exact hcell 0 v0_ rfl | simpa using hcell 0 v0_ rfl | (have h_ := hcell 0 v0_ rfl; rw [show Kd.string.sz = 1 from rfl, Nat.mul_one] at h_; simpa using h_)
      have hcall : Calls Try.prog g (#[v0_] ++ lb) wr fun e w' => e = .returned (.bool (p l0[kk])) ∧ Below wr.heap.size wr w' := by have h_ := hp wr l0[kk] [v0_] BW.out hK; exact h_
      clear hcell hx hp hK hlen
      cases hq : p l0[kk] with
      | true =>
        rw [hq] at hcall; go_wp2_with (go_at_fn g; refine hcall.mono ?_; rintro e w' ⟨rfl, hb'⟩); go_ret; refine ⟨?_, below_step BW.out hb'⟩; rw [IdxF.idx_hit p l0 hlt hq (fun j h => AJ.out j _ h)]; rfl
      | false =>
        rw [hq] at hcall; go_wp2_with (go_at_fn g; refine hcall.mono ?_; rintro e w' ⟨rfl, hb'⟩); go_roundg (l0.length - (kk + 1))
        case measure => omega
        case rel =>
          refine ⟨kk + 1, by omega, by omega, by go_num, ⟨below_step BW.out hb'⟩, ⟨fun j h hj => ?_⟩⟩
          by_cases e : j = kk
          · subst e; exact hq
          · exact AJ.out j h (by omega)
    · have hltz : ¬ (kk : Int) < (l0.length : Int) := by omega
      go_wp2; go_ret; refine ⟨?_, BW.out⟩; rw [IdxF.idx_miss p l0 (fun j h => AJ.out j h (by omega))]; rfl

/-! ### slices_ContainsFunc_string_string: function 97 -/
/-- Whether a predicate holds somewhere. -/
def slices_ContainsFunc_string_string.f (l0 : List (ByteArray)) (p : (ByteArray) → Bool) : Option Bool := some (l0.any p)
set_option maxHeartbeats 8000000 in
set_option maxRecDepth 100000 in
theorem slices_ContainsFunc_string_string.calls (A0 : Option Addr) (c0 : Nat) (l0 : List (ByteArray)) (p : (ByteArray) → Bool) {F : Value} (r : Bool) (w : World) (hr0 : Kd.C Kd.string w A0 l0.length l0) (hc0 : l0.length ≤ c0) (hp : IdxF.Pred Try.prog Kd.string false F p w) (h : slices_ContainsFunc_string_string.f l0 p = some r) :
    Calls Try.prog 97 #[.slice A0 l0.length c0, F] w fun e w' => e = .returned (.bool r) ∧ Below w.heap.size w w' := by
  obtain rfl := Option.some.inj h; clear h; rw [← IdxF.idx_any]; have hi := slices_IndexFunc_string_string.calls A0 c0 l0 p (IdxF.idx p l0) w hr0 hc0 hp rfl; obtain ⟨g, lb, rfl, eg, hp⟩ := hp; have e6 : ∀ args w, (callFunc 136 args).run Try.prog w = .ok (.enter 136 args) w := enters_of Try.func136 (by kernel_rfl) rfl; go_enter Try.func97, Try.ntmps97; go_wp2_with (go_at_call 136; refine hi.mono ?_; rintro e w' ⟨rfl, hb'⟩); go_ret; exact ⟨rfl, hb'⟩

/-! ### plantext_Check_1: function 98 -/
section
open Go
theorem plantext_Check_1.l0 (s : ByteArray) : ∀ (d k i : Nat), i + d = s.size → s.size ≤ 8 → d < k → ∃ b, chart_Name.l0 k s (s.size : Int) (i : Int) = some b
  | 0, k, i, h, _, hk => by
    obtain ⟨k, rfl⟩ : ∃ m, k = m + 1 := ⟨k - 1, by omega⟩; exact ⟨true, by rw [chart_Name.l0, if_neg (by omega)]⟩
  | d + 1, k, i, h, h8, hk => by
    obtain ⟨k, rfl⟩ : ∃ m, k = m + 1 := ⟨k - 1, by omega⟩; obtain ⟨b, hb⟩ := plantext_Check_1.l0 s d k (i + 1) (by omega) h8 (by omega)
    have hw : wrap64 ((i : Int) + 1) = ((i + 1 : Nat) : Int) := by unfold wrap64; omega
    rw [chart_Name.l0, if_pos (by omega), if_pos (by omega), if_pos (by omega), hw, hb]
    (repeat' split) <;> exact ⟨_, rfl⟩
theorem plantext_Check_1.name (s : ByteArray) : chart_Name.f 10 s = some ((chart_Name.f 10 s).getD false) := by
  have key : ∃ b, chart_Name.f 10 s = some b := by
    unfold chart_Name.f
    by_cases h0 : (s.size : Int) = 0
    · rw [if_pos h0, chart_Name.j0, if_pos rfl]; exact ⟨_, rfl⟩
    · rw [if_neg h0]
      by_cases h8 : (s.size : Int) > 8
      · rw [if_pos h8, chart_Name.j0, if_pos rfl]; exact ⟨_, rfl⟩
      · rw [if_neg h8, if_pos (by omega)]; obtain ⟨b, hb⟩ := plantext_Check_1.l0 s s.size 9 0 (by omega) (by omega) (by omega); have hb' : chart_Name.l0 9 s (s.size : Int) 0 = some b := hb; rw [chart_Name.j0, chart_Name.j0, hb']
        (repeat' split) <;> exact ⟨_, rfl⟩
  obtain ⟨b, hb⟩ := key; rw [hb]; rfl
/-- Whether a text is no name. -/
def plantext_Check_1.p (s : ByteArray) : Bool := !((chart_Name.f 10 s).getD false)
set_option maxHeartbeats 8000000 in
set_option maxRecDepth 100000 in
theorem plantext_Check_1.pred {w : World} : IdxF.Pred Try.prog Kd.string false (.func (.func 98) #[] #[]) plantext_Check_1.p w := by
  refine ⟨98, _, rfl, enters_of Try.func98 (by kernel_rfl) rfl, fun W x cs hW hK => ?_⟩; obtain rfl : cs = [.string x] := hK; unfold plantext_Check_1.p; have h := plantext_Check_1.name x; generalize (chart_Name.f 10 x).getD false = b at *; change Calls Try.prog 98 #[.string x] W _; clear hW; go_enter Try.func98, Try.ntmps98; go_wp2_with (go_at_call 48; refine (chart_Name.calls 10 x b W h).mono ?_; rintro e w' ⟨rfl, hb⟩); go_ret; exact ⟨rfl, hb⟩
end

/-! ### plantext_Check: function 63 -/
mutual
def plantext_Check.l0 : Nat → List ByteArray → Int → Int → ByteArray → ByteArray → ByteArray → ByteArray → Int → Int → Int → List ByteArray → Option (Int)
  | 0, _, _, _, _, _, _, _, _, _, _, _ => none
  | k + 1, x13, x14, x15, x133000, x133001, x133002, x133003, x133004, x133005, x133006, x133007 => if x15 < x14 then (if 0 ≤ x15 then (if x15 < (x13.length : Int) then ((chart_Name.f k (rdOf ByteArray.empty x13 x15)).bind fun t137 => (if t137 = true then (plantext_Check.l0 k x13 x14 (wrap64 (x15 + 1)) x133000 x133001 x133002 x133003 x133004 x133005 x133006 x133007) else (some 5))) else (none)) else (none)) else (if x133004 < 0 then (plantext_Check.j1 k true x133000 x133001 x133002 x133003 x133004 x133005 x133006 x133007) else (plantext_Check.j1 k (decide (x133004 > 200000)) x133000 x133001 x133002 x133003 x133004 x133005 x133006 x133007))
def plantext_Check.j1 : Nat → Bool → ByteArray → ByteArray → ByteArray → ByteArray → Int → Int → Int → List ByteArray → Option (Int)
  | 0, _, _, _, _, _, _, _, _, _ => none
  | k + 1, x23, x133000, x133001, x133002, x133003, x133004, x133005, x133006, x133007 => if x23 = true then (some 12) else (if x133005 < 1 then (plantext_Check.j2 k true x133000 x133001 x133002 x133003 x133004 x133005 x133006 x133007) else (if x133005 > 400 then (plantext_Check.j2 k true x133000 x133001 x133002 x133003 x133004 x133005 x133006 x133007) else (if x133006 < 1 then (plantext_Check.j2 k true x133000 x133001 x133002 x133003 x133004 x133005 x133006 x133007) else (plantext_Check.j2 k (decide (x133006 > 60000)) x133000 x133001 x133002 x133003 x133004 x133005 x133006 x133007))))
def plantext_Check.j2 : Nat → Bool → ByteArray → ByteArray → ByteArray → ByteArray → Int → Int → Int → List ByteArray → Option (Int)
  | 0, _, _, _, _, _, _, _, _, _ => none
  | k + 1, x32, x133000, x133001, x133002, x133003, x133004, x133005, x133006, x133007 => if x32 = true then (some 4) else (if (x133007.length : Int) > 24 then (some 2) else ((slices_ContainsFunc_string_string.f x133007 (plantext_Check_1.p)).bind fun t138 => (if t138 = true then (some 5) else (some 0))))
end
def plantext_Check.f (k : Nat) (a0_0 : ByteArray) (a0_1 : ByteArray) (a0_2 : ByteArray) (a0_3 : ByteArray) (a0_4 : Int) (a0_5 : Int) (a0_6 : Int) (l0_7 : List ByteArray) : Option (Int) := (some (([a0_0, a0_1, a0_2, a0_3] : List ByteArray) : List ByteArray)).bind fun y133 => (plantext_Check.l0 k y133 (y133.length : Int) 0 a0_0 a0_1 a0_2 a0_3 a0_4 a0_5 a0_6 l0_7)
theorem plantext_Check.mono_l : ∀ k, (∀ y0 y1 y2 y3 y4 y5 y6 y7 y8 y9 y10, LeO (plantext_Check.l0 k y0 y1 y2 y3 y4 y5 y6 y7 y8 y9 y10) (plantext_Check.l0 (k + 1) y0 y1 y2 y3 y4 y5 y6 y7 y8 y9 y10)) ∧ (∀ y0 y1 y2 y3 y4 y5 y6 y7 y8, LeO (plantext_Check.j1 k y0 y1 y2 y3 y4 y5 y6 y7 y8) (plantext_Check.j1 (k + 1) y0 y1 y2 y3 y4 y5 y6 y7 y8)) ∧ (∀ y0 y1 y2 y3 y4 y5 y6 y7 y8, LeO (plantext_Check.j2 k y0 y1 y2 y3 y4 y5 y6 y7 y8) (plantext_Check.j2 (k + 1) y0 y1 y2 y3 y4 y5 y6 y7 y8))
  | 0 => ⟨fun _ _ _ _ _ _ _ _ _ _ _ r h => by simp [plantext_Check.l0] at h, fun _ _ _ _ _ _ _ _ _ r h => by simp [plantext_Check.j1] at h, fun _ _ _ _ _ _ _ _ _ r h => by simp [plantext_Check.j2] at h⟩
  | k + 1 => by
    obtain ⟨ih0, ih1, ih2⟩ := plantext_Check.mono_l k; refine ⟨?_, ?_, ?_⟩
    · intro y0 y1 y2 y3 y4 y5 y6 y7 y8 y9 y10; unfold plantext_Check.l0
      repeat' first
      | (with_reducible exact ih0 _ _ _ _ _ _ _ _ _ _ _)
      | (with_reducible exact ih1 _ _ _ _ _ _ _ _ _)
      | (with_reducible exact ih2 _ _ _ _ _ _ _ _ _)
      | (with_reducible exact chart_Name.mono _ _)
      | (with_reducible exact LeO.refl _)
      | (with_reducible exact LeO.none _)
      | (with_reducible refine LeO.ite ?_ ?_)
      | (with_reducible refine LeO.bind ?_ (fun _ => ?_))
      | exact ih0 _ _ _ _ _ _ _ _ _ _ _
      | exact ih1 _ _ _ _ _ _ _ _ _
      | exact ih2 _ _ _ _ _ _ _ _ _
      | exact chart_Name.mono _ _
      | exact LeO.none _
      | refine LeO.ite ?_ ?_
      | refine LeO.bind ?_ (fun _ => ?_)
    · intro y0 y1 y2 y3 y4 y5 y6 y7 y8; unfold plantext_Check.j1
      repeat' first
      | (with_reducible exact ih0 _ _ _ _ _ _ _ _ _ _ _)
      | (with_reducible exact ih1 _ _ _ _ _ _ _ _ _)
      | (with_reducible exact ih2 _ _ _ _ _ _ _ _ _)
      | (with_reducible exact chart_Name.mono _ _)
      | (with_reducible exact LeO.refl _)
      | (with_reducible exact LeO.none _)
      | (with_reducible refine LeO.ite ?_ ?_)
      | (with_reducible refine LeO.bind ?_ (fun _ => ?_))
      | exact ih0 _ _ _ _ _ _ _ _ _ _ _
      | exact ih1 _ _ _ _ _ _ _ _ _
      | exact ih2 _ _ _ _ _ _ _ _ _
      | exact chart_Name.mono _ _
      | exact LeO.none _
      | refine LeO.ite ?_ ?_
      | refine LeO.bind ?_ (fun _ => ?_)
    · intro y0 y1 y2 y3 y4 y5 y6 y7 y8; unfold plantext_Check.j2
      repeat' first
      | (with_reducible exact ih0 _ _ _ _ _ _ _ _ _ _ _)
      | (with_reducible exact ih1 _ _ _ _ _ _ _ _ _)
      | (with_reducible exact ih2 _ _ _ _ _ _ _ _ _)
      | (with_reducible exact chart_Name.mono _ _)
      | (with_reducible exact LeO.refl _)
      | (with_reducible exact LeO.none _)
      | (with_reducible refine LeO.ite ?_ ?_)
      | (with_reducible refine LeO.bind ?_ (fun _ => ?_))
      | exact ih0 _ _ _ _ _ _ _ _ _ _ _
      | exact ih1 _ _ _ _ _ _ _ _ _
      | exact ih2 _ _ _ _ _ _ _ _ _
      | exact chart_Name.mono _ _
      | exact LeO.none _
      | refine LeO.ite ?_ ?_
      | refine LeO.bind ?_ (fun _ => ?_)
theorem plantext_Check.mono : ∀ a0 a1 a2 a3 a4 a5 a6 a7 k, LeO (plantext_Check.f k a0 a1 a2 a3 a4 a5 a6 a7) (plantext_Check.f (k + 1) a0 a1 a2 a3 a4 a5 a6 a7) := by
  intro a0 a1 a2 a3 a4 a5 a6 a7 k; obtain ⟨ih0, ih1, ih2⟩ := plantext_Check.mono_l k; unfold plantext_Check.f
  repeat' first
      | (with_reducible exact ih0 _ _ _ _ _ _ _ _ _ _ _)
      | (with_reducible exact ih1 _ _ _ _ _ _ _ _ _)
      | (with_reducible exact ih2 _ _ _ _ _ _ _ _ _)
      | (with_reducible exact chart_Name.mono _ _)
      | (with_reducible exact LeO.refl _)
      | (with_reducible exact LeO.none _)
      | (with_reducible refine LeO.ite ?_ ?_)
      | (with_reducible refine LeO.bind ?_ (fun _ => ?_))
      | exact ih0 _ _ _ _ _ _ _ _ _ _ _
      | exact ih1 _ _ _ _ _ _ _ _ _
      | exact ih2 _ _ _ _ _ _ _ _ _
      | exact chart_Name.mono _ _
      | exact LeO.none _
      | refine LeO.ite ?_ ?_
      | refine LeO.bind ?_ (fun _ => ?_)
set_option maxHeartbeats 8000000 in
set_option maxRecDepth 100000 in
theorem plantext_Check.calls (k : Nat) (a0_0 : ByteArray) (a0_1 : ByteArray) (a0_2 : ByteArray) (a0_3 : ByteArray) (a0_4 : Int) (a0_5 : Int) (a0_6 : Int) (A0_7 : Option Addr) (c0_7 : Nat) (l0_7 : List ByteArray) (r : Int) (w : World) (hr0_7 : Kd.C Kd.string w A0_7 l0_7.length l0_7) (hc0_7 : l0_7.length ≤ c0_7) (h : plantext_Check.f k a0_0 a0_1 a0_2 a0_3 a0_4 a0_5 a0_6 l0_7 = some r) :
    Calls Try.prog 63 #[.agg #[.string a0_0, .string a0_1, .string a0_2, .string a0_3, .int .i64 a0_4, .int .i64 a0_5, .int .i64 a0_6, .slice A0_7 l0_7.length c0_7]] w fun e w' => e = .returned (.int .i64 r) ∧ Below w.heap.size w w' := by
 have hu51 := Try.underlying51; have HR0_7 := Aside0.mk hr0_7; have HC0_7 := Aside0.mk hc0_7; clear hr0_7 hc0_7; have HB := Aside0.mk (Below.refl w.heap.size w); have H : ((some (([a0_0, a0_1, a0_2, a0_3] : List ByteArray) : List ByteArray)).bind fun y133 => (plantext_Check.l0 k y133 (y133.length : Int) 0 a0_0 a0_1 a0_2 a0_3 a0_4 a0_5 a0_6 l0_7)) = some r := h; clear h; obtain ⟨y133, hy133⟩ : ∃ y_ : List ByteArray, y_ = (([a0_0, a0_1, a0_2, a0_3] : List ByteArray)) := ⟨_, rfl⟩
 replace H : (plantext_Check.l0 k y133 (y133.length : Int) 0 a0_0 a0_1 a0_2 a0_3 a0_4 a0_5 a0_6 l0_7) = some r := by first | (rw [hy133]; with_reducible exact H) | (have H2_ := (Option.bind_some _ _).symm.trans H; rw [hy133]; with_reducible exact H2_) | (have H2_ := (Option.bind_some _ _).symm.trans H; with_reducible exact H2_) | with_reducible exact H | (rw [hy133]; exact H) | exact H
 have Ny133 := Aside0.mk hy133; clear hy133; have H' := Aside0.mk H; clear H; go_enter Try.func63, Try.ntmps63
 go_wp2_with (first | ((with_reducible refine gate_dst (N := 1) rfl ?_); refine box_s #[.string a0_0, .string a0_1, .string a0_2, .string a0_3, .int .i64 a0_4, .int .i64 a0_5, .int .i64 a0_6, .slice A0_7 l0_7.length c0_7] 51 ?_; intro gb132 hg w2 hbox hb; have n0_ := st HB hb; have n1_ := Aside0.mk (hbox); have n2_ := ge HB hg; have n3_ := ge HB hg; clear HB; have HB := n0_; have BK132 := n1_; have GW132 := n2_; have GE132 := n3_; clear n0_ n1_ n2_ n3_; clear hb hbox hg; have hcz3_0 : w2.cell? ⟨gb132, 0, none⟩ = some (.string a0_0) := bc BK132 0; have hcz3_1 : w2.cell? ⟨gb132, 1, none⟩ = some (.string a0_1) := bc BK132 1; have hcz3_2 : w2.cell? ⟨gb132, 2, none⟩ = some (.string a0_2) := bc BK132 2; have hcz3_3 : w2.cell? ⟨gb132, 3, none⟩ = some (.string a0_3) := bc BK132 3; have hcz3_4 : w2.cell? ⟨gb132, 4, none⟩ = some (.int .i64 a0_4) := bc BK132 4; have hcz3_5 : w2.cell? ⟨gb132, 5, none⟩ = some (.int .i64 a0_5) := bc BK132 5; have hcz3_6 : w2.cell? ⟨gb132, 6, none⟩ = some (.int .i64 a0_6) := bc BK132 6; have hcz3_7 : w2.cell? ⟨gb132, 7, none⟩ = some (.slice A0_7 l0_7.length c0_7) := bc BK132 7; have hfz3_0 := blk_frozen BK132.out 0; have hfz3_1 := blk_frozen BK132.out 1; have hfz3_2 := blk_frozen BK132.out 2; have hfz3_3 := blk_frozen BK132.out 3; have hfz3_4 := blk_frozen BK132.out 4; have hfz3_5 := blk_frozen BK132.out 5; have hfz3_6 := blk_frozen BK132.out 6; have hfz3_7 := blk_frozen BK132.out 7) | ((with_reducible refine gate_dst (N := 13) rfl ?_); refine Kd.R_lit Kd.string _ 9 ?hg (N := 13) ?hd (xs := ([a0_0, a0_1, a0_2, a0_3] : List ByteArray)) (inner := [.string a0_0, .string a0_1, .string a0_2, .string a0_3]) (ok := fun _ => True) (okp := fun _ => True) ?hr ?hp (fun _ hk => hk) trivial (Below.refl _ _) (Nat.le_refl _) (by simp) ?_; (case hd => rfl); (case hg => rfl); (case hr => first | (go_simp; done) | (go_simp; rfl)); (case hp => exact (Reps.one (show Kd.M Kd.string _ _ _ a0_0 [.string a0_0] from rfl) (Reps.one (show Kd.M Kd.string _ _ _ a0_1 [.string a0_1] from rfl) (Reps.one (show Kd.M Kd.string _ _ _ a0_2 [.string a0_2] from rfl) (Reps.one (show Kd.M Kd.string _ _ _ a0_3 [.string a0_3] from rfl) (Reps.none _ _)))))); intro v134 w4 ho5 hb hg_ hnew_; clear hg_ hnew_; (first | rw [← Ny133.out] at ho5 | (simp only [Int.reduceToNat] at ho5; rw [← Ny133.out] at ho5)); have n0_ := Aside0.mk (Kd.R_lower ho5 bz_s); have n1_ := kp BK132 hb; have n2_ := st HB hb; clear BK132; clear HB; have HO135 := n0_; have BK132 := n1_; have HB := n2_; clear n0_ n1_ n2_; clear hb ho5; obtain ⟨Ao6, co6, eo6⟩ := Kd.R_slice HO135.out; subst eo6))
 go_loopg [15] k (fun kq v15 w' => ∃ (x15_1 : Int), v15 = .int .i64 x15_1 ∧ Aside0 (plantext_Check.l0 kq y133 (y133.length : Int) x15_1 a0_0 a0_1 a0_2 a0_3 a0_4 a0_5 a0_6 l0_7 = some r) ∧ Aside0 (kq ≤ k) ∧ Aside0 (Kd.R Kd.string 9 w' w.heap.size (fun _ => True) (.slice Ao6 y133.length co6) y133) ∧ Aside0 (w'.heap[gb132]? = some (.cells #[.string a0_0, .string a0_1, .string a0_2, .string a0_3, .int .i64 a0_4, .int .i64 a0_5, .int .i64 a0_6, (.slice A0_7 l0_7.length c0_7)] 51 (0, 0))) ∧ Aside0 (Below w.heap.size w w'))
 case atStart => exact ⟨(0), (by first | rfl | (simp; done) | (simp [*]; done)), H', ⟨Nat.le_refl _⟩, ⟨by (with_reducible repeat (first | apply Kd.R_alloc | apply Kd.R_drewN | apply Kd.R_drew)); exact HO135.out⟩, ⟨by (with_reducible repeat (first | refine blk_drewN ?_ _ | refine blk_drew ?_ | refine blk_alloc ?_ _)); exact BK132.out⟩, ⟨by repeat (first | (with_reducible first | exact HB.out | apply below_alloc | apply pw_below_drewN | apply below_drew1 | refine below_set ?_ GE132.out) | exact HB.out)⟩⟩
 case round =>
  clear H'
  (try clear p2); (try clear c6); (try clear hcz3_0); (try clear hcz3_1); (try clear hcz3_2); (try clear hcz3_3); (try clear hcz3_4); (try clear hcz3_5); (try clear hcz3_6); (try clear hcz3_7); (try clear hfz3_0); (try clear hfz3_1); (try clear hfz3_2); (try clear hfz3_3); (try clear hfz3_4); (try clear hfz3_5); (try clear hfz3_6); (try clear hfz3_7)
  obtain ⟨x15_1, rfl, HA, HK1, HO_13, BK132, HB⟩ := hrel
  cases gk with
  | zero => exact absurd HA.out (by simp [plantext_Check.l0])
  | succ k1 =>
   have H := HA.out; clear HA; simp only [plantext_Check.l0] at H
   by_cases c7 : x15_1 < (y133.length : Int)
   · rw [if_pos c7] at H; have c7b0 : decide (x15_1 < (y133.length : Int)) = true := decide_eq_true c7; clear c7
     by_cases c8 : 0 ≤ x15_1
     · rw [if_pos c8] at H; have c8b0 : decide (0 ≤ x15_1) = true := decide_eq_true c8; clear c8
       by_cases c9 : x15_1 < (y133.length : Int)
       · rw [if_pos c9] at H; have c9b0 : decide (x15_1 < (y133.length : Int)) = true := decide_eq_true c9; clear c9; replace H := Option.bind_eq_some_iff.mp H; obtain ⟨t137, A100, H⟩ := H; replace H : (if t137 = true then (plantext_Check.l0 k1 y133 (y133.length : Int) (wrap64 (x15_1 + 1)) a0_0 a0_1 a0_2 a0_3 a0_4 a0_5 a0_6 l0_7) else (some 5)) = some r := H; have A10 := Aside0.mk A100; clear A100
         by_cases c11 : t137 = true
         · subst c11
           have H1 : (plantext_Check.l0 k1 y133 (y133.length : Int) (wrap64 (x15_1 + 1)) a0_0 a0_1 a0_2 a0_3 a0_4 a0_5 a0_6 l0_7) = some r := by rw [if_pos rfl] at H; exact H
           clear H; have H := H1; clear H1; have H' := Aside0.mk H; clear H
           have p136 : 0 ≤ (x15_1 : Int) := of_decide_eq_true (by first | (with_reducible assumption) | assumption)
           have q136 : x15_1 < (y133.length : Int) := of_decide_eq_true (by first | (with_reducible assumption) | assumption)
           obtain ⟨ad136, e136, hx136_0⟩ := Kd.at_string (Kd.R_reads' HO_13.out).2.2 x15_1 p136 q136; cases e136; replace p136 := eq_true p136; replace q136 := eq_true q136
           go_wp2_with (first | ((with_reducible refine gate_callee (f := 48) rfl ?_); refine goesL_ (some 20) rfl rfl Try.func48 (by kernel_rfl) rfl #[.string (rdOf ByteArray.empty y133 x15_1)] rfl any_s ?_; (with_reducible refine (chart_Name.calls k1 (rdOf ByteArray.empty y133 x15_1) true _ A10.out).mono ?_); rintro e wxe99f1 ⟨rfl, hb⟩; refine ⟨_, rfl, ?_⟩; have n0_ := Aside0.mk (Kd.R_below (by (with_reducible repeat (first | apply Kd.R_alloc | apply Kd.R_drewN | apply Kd.R_drew)); exact HO_13.out) hb); have n1_ := kp BK132 hb; have n2_ := st HB hb; clear HO_13; clear BK132; clear HB; have HO_13 := n0_; have BK132 := n1_; have HB := n2_; clear n0_ n1_ n2_; (try clear hb); (try clear hb2); (try clear hk); (try clear hi)))
           go_roundg k1
           case measure => have := HK1.out; omega
           case rel => exact ⟨(wrap64 (x15_1 + 1)), (by first | rfl | (simp; done) | (simp [*]; done)), H', ⟨by have := HK1.out; omega⟩, ⟨by (with_reducible repeat (first | apply Kd.R_alloc | apply Kd.R_drewN | apply Kd.R_drew)); exact HO_13.out⟩, ⟨by (with_reducible repeat (first | refine blk_drewN ?_ _ | refine blk_drew ?_ | refine blk_alloc ?_ _)); exact BK132.out⟩, ⟨by repeat (first | (with_reducible first | exact HB.out | apply below_alloc | apply pw_below_drewN | apply below_drew1 | refine below_set ?_ GE132.out) | exact HB.out)⟩⟩
         · replace c11 := Bool.eq_false_iff.mpr c11; subst c11
           have H1 : (some 5) = some r := by rw [if_neg (show ¬ (false = true) by decide)] at H; exact H
           clear H; have H := H1; clear H1; obtain rfl := Option.some.inj H
           have p136 : 0 ≤ (x15_1 : Int) := of_decide_eq_true (by first | (with_reducible assumption) | assumption)
           have q136 : x15_1 < (y133.length : Int) := of_decide_eq_true (by first | (with_reducible assumption) | assumption)
           obtain ⟨ad136, e136, hx136_0⟩ := Kd.at_string (Kd.R_reads' HO_13.out).2.2 x15_1 p136 q136; cases e136; replace p136 := eq_true p136; replace q136 := eq_true q136
           go_wp2_with (first | ((with_reducible refine gate_callee (f := 48) rfl ?_); refine goesL_ (some 20) rfl rfl Try.func48 (by kernel_rfl) rfl #[.string (rdOf ByteArray.empty y133 x15_1)] rfl any_s ?_; (with_reducible refine (chart_Name.calls k1 (rdOf ByteArray.empty y133 x15_1) false _ A10.out).mono ?_); rintro e wx713c1 ⟨rfl, hb⟩; refine ⟨_, rfl, ?_⟩; have n0_ := Aside0.mk (Kd.R_below (by (with_reducible repeat (first | apply Kd.R_alloc | apply Kd.R_drewN | apply Kd.R_drew)); exact HO_13.out) hb); have n1_ := kp BK132 hb; have n2_ := st HB hb; clear HO_13; clear BK132; clear HB; have HO_13 := n0_; have BK132 := n1_; have HB := n2_; clear n0_ n1_ n2_; (try clear hb); (try clear hb2); (try clear hk); (try clear hi)))
           go_ret
           exact ⟨by first | rfl | (simp [errW_none, errW_some] <;> rfl) | (simp [*, errW_none, errW_some] <;> rfl), by repeat (first | (with_reducible first | exact HB.out | apply below_alloc | apply pw_below_drewN | apply below_drew1 | refine below_set ?_ GE132.out) | exact HB.out)⟩
       · rw [if_neg c9] at H; exact absurd H (by simp)
     · rw [if_neg c8] at H; exact absurd H (by simp)
   · rw [if_neg c7] at H; have c7b0 : decide (x15_1 < (y133.length : Int)) = false := decide_eq_false c7; clear c7; have HC14 := Aside0.mk H; clear H
     go_upto_region 7 with (fail)
     go_cut [23] (fun v23 wc => ∃ (kq : Nat) (x23_13 : Bool), v23 = .bool x23_13 ∧ Aside0 (plantext_Check.j1 kq x23_13 a0_0 a0_1 a0_2 a0_3 a0_4 a0_5 a0_6 l0_7 = some r) ∧ Aside0 (kq ≤ k1) ∧ Aside0 (wc.heap[gb132]? = some (.cells #[.string a0_0, .string a0_1, .string a0_2, .string a0_3, .int .i64 a0_4, .int .i64 a0_5, .int .i64 a0_6, (.slice A0_7 l0_7.length c0_7)] 51 (0, 0))) ∧ Aside0 (Below w.heap.size w wc))
     case first =>
      have H := HC14.out; clear HC14; refine Or.elim (Classical.em (a0_4 < 0)) (fun c15 => ?p2_) (fun c15 => ?n2_)
      case' p2_ =>
       rw [if_pos c15] at H; have c15b0 : decide (a0_4 < 0) = true := decide_eq_true c15; clear c15
       (first | rw [c15b0] | (simp only [i64_w, i32_w]; rw [c15b0]) | skip)
      case' n2_ =>
       rw [if_neg c15] at H; have c15b0 : decide (a0_4 < 0) = false := decide_eq_false c15; clear c15
       (first | rw [c15b0] | (simp only [i64_w, i32_w]; rw [c15b0]) | skip)
      all_goals
       have H' := Aside0.mk H; clear H; have hczzd1 : wr.cell? ⟨gb132, 0, none⟩ = some (.string a0_0) := bc BK132 0; have hczzd2 : wr.cell? ⟨gb132, 1, none⟩ = some (.string a0_1) := bc BK132 1; have hczzd3 : wr.cell? ⟨gb132, 2, none⟩ = some (.string a0_2) := bc BK132 2; have hczzd4 : wr.cell? ⟨gb132, 3, none⟩ = some (.string a0_3) := bc BK132 3; have hczzd5 : wr.cell? ⟨gb132, 4, none⟩ = some (.int .i64 a0_4) := bc BK132 4; have hczzd6 : wr.cell? ⟨gb132, 5, none⟩ = some (.int .i64 a0_5) := bc BK132 5; have hczzd7 : wr.cell? ⟨gb132, 6, none⟩ = some (.int .i64 a0_6) := bc BK132 6; have hczzd8 : wr.cell? ⟨gb132, 7, none⟩ = some (.slice A0_7 l0_7.length c0_7) := bc BK132 7; have hfzzd1 := blk_frozen BK132.out 0; have hfzzd2 := blk_frozen BK132.out 1; have hfzzd3 := blk_frozen BK132.out 2; have hfzzd4 := blk_frozen BK132.out 3; have hfzzd5 := blk_frozen BK132.out 4; have hfzzd6 := blk_frozen BK132.out 5; have hfzzd7 := blk_frozen BK132.out 6; have hfzzd8 := blk_frozen BK132.out 7; go_wp2; go_meet
       case rel => first | (exact ⟨_, (true), (by first | rfl | (simp; done) | (simp [*]; done)), H', ⟨by have := HK1.out; first | omega | exact Nat.le_refl _⟩, ⟨by (with_reducible repeat (first | refine blk_drewN ?_ _ | refine blk_drew ?_ | refine blk_alloc ?_ _)); exact BK132.out⟩, ⟨by repeat (first | (with_reducible first | exact HB.out | apply below_alloc | apply pw_below_drewN | apply below_drew1 | refine below_set ?_ GE132.out) | exact HB.out)⟩⟩) | (exact ⟨_, (decide (a0_4 > 200000)), (by first | rfl | (simp; done) | (simp [*]; done)), H', ⟨by have := HK1.out; first | omega | exact Nat.le_refl _⟩, ⟨by (with_reducible repeat (first | refine blk_drewN ?_ _ | refine blk_drew ?_ | refine blk_alloc ?_ _)); exact BK132.out⟩, ⟨by repeat (first | (with_reducible first | exact HB.out | apply below_alloc | apply pw_below_drewN | apply below_drew1 | refine below_set ?_ GE132.out) | exact HB.out)⟩⟩)
     case rest =>
      clear HC14
      (try clear c1); (try clear p1); (try clear q1); (try clear hx1); (try clear p2); (try clear c4); (try clear c6); (try clear p6); (try clear c7); (try clear c7b0); (try clear c8); (try clear c8b0); (try clear c9); (try clear c9b0); (try clear c11); (try clear p13); (try clear q13); (try clear hx13); (try clear c15); (try clear c15b0); (try clear hczzc1); (try clear hczzc2); (try clear hczzc3); (try clear hczzc4); (try clear hczzc5); (try clear hczzc6); (try clear hczzc7); (try clear hczzc8); (try clear hczzc9); (try clear hczzc10); (try clear hczzc11); (try clear hczzc12); (try clear hczzc13); (try clear hczzc14); (try clear hczzc15); (try clear hczzc16); (try clear hcz3_0); (try clear hcz3_1); (try clear hcz3_2); (try clear hcz3_3)
      (try clear hcz3_4); (try clear hcz3_5); (try clear hcz3_6); (try clear hcz3_7); (try clear hfzzc1); (try clear hfzzc2); (try clear hfzzc3); (try clear hfzzc4); (try clear hfzzc5); (try clear hfzzc6); (try clear hfzzc7); (try clear hfzzc8); (try clear hfzzc9); (try clear hfzzc10); (try clear hfzzc11); (try clear hfzzc12); (try clear hfzzc13); (try clear hfzzc14); (try clear hfzzc15); (try clear hfzzc16); (try clear hfz3_0); (try clear hfz3_1); (try clear hfz3_2); (try clear hfz3_3); (try clear hfz3_4); (try clear hfz3_5); (try clear hfz3_6); (try clear hfz3_7); (try clear hx136_0); (try clear p136); (try clear p2); (try clear q136)
      obtain ⟨kq, x23_13, rfl, HA, HJ13, BK132, HB⟩ := hcut
      cases kq with
      | zero => exact absurd HA.out (by simp [plantext_Check.j1])
      | succ kj13 =>
       have H := HA.out; clear HA; simp only [plantext_Check.j1] at H
       by_cases c18 : x23_13 = true
       · subst c18
         have H1 : (some 12) = some r := by rw [if_pos rfl] at H; exact H
         clear H; have H := H1; clear H1; obtain rfl := Option.some.inj H; go_wp2; go_ret
         exact ⟨by first | rfl | (simp [errW_none, errW_some] <;> rfl) | (simp [*, errW_none, errW_some] <;> rfl), by repeat (first | (with_reducible first | exact HB.out | apply below_alloc | apply pw_below_drewN | apply below_drew1 | refine below_set ?_ GE132.out) | exact HB.out)⟩
       · replace c18 := Bool.eq_false_iff.mpr c18; subst c18
         have H1 : (if a0_5 < 1 then (plantext_Check.j2 kj13 true a0_0 a0_1 a0_2 a0_3 a0_4 a0_5 a0_6 l0_7) else (if a0_5 > 400 then (plantext_Check.j2 kj13 true a0_0 a0_1 a0_2 a0_3 a0_4 a0_5 a0_6 l0_7) else (if a0_6 < 1 then (plantext_Check.j2 kj13 true a0_0 a0_1 a0_2 a0_3 a0_4 a0_5 a0_6 l0_7) else (plantext_Check.j2 kj13 (decide (a0_6 > 60000)) a0_0 a0_1 a0_2 a0_3 a0_4 a0_5 a0_6 l0_7)))) = some r := by rw [if_neg (show ¬ (false = true) by decide)] at H; exact H
         clear H; have H := H1; clear H1; have HC19 := Aside0.mk H; clear H
         go_upto_region 9 with (fail)
         go_cut [32] (fun v32 wc => ∃ (kq : Nat) (x32_18 : Bool), v32 = .bool x32_18 ∧ Aside0 (plantext_Check.j2 kq x32_18 a0_0 a0_1 a0_2 a0_3 a0_4 a0_5 a0_6 l0_7 = some r) ∧ Aside0 (kq ≤ kj13) ∧ Aside0 (wc.heap[gb132]? = some (.cells #[.string a0_0, .string a0_1, .string a0_2, .string a0_3, .int .i64 a0_4, .int .i64 a0_5, .int .i64 a0_6, (.slice A0_7 l0_7.length c0_7)] 51 (0, 0))) ∧ Aside0 (Below w.heap.size w wc))
         case first =>
          have H := HC19.out; clear HC19; refine Or.elim (Classical.em (a0_5 < 1)) (fun c20 => ?p4_) (fun c20 => ?n4_)
          case' p4_ =>
           rw [if_pos c20] at H; have c20b0 : decide (a0_5 < 1) = true := decide_eq_true c20; clear c20
           (first | rw [c20b0] | (simp only [i64_w, i32_w]; rw [c20b0]) | skip)
          case' n4_ =>
           rw [if_neg c20] at H; have c20b0 : decide (a0_5 < 1) = false := decide_eq_false c20; clear c20
           (first | rw [c20b0] | (simp only [i64_w, i32_w]; rw [c20b0]) | skip)
           refine Or.elim (Classical.em (a0_5 > 400)) (fun c22 => ?p5_) (fun c22 => ?n5_)
           case' p5_ =>
            rw [if_pos c22] at H; have c22b0 : decide (400 < a0_5) = true := decide_eq_true c22; clear c22
           case' n5_ =>
            rw [if_neg c22] at H; have c22b0 : decide (400 < a0_5) = false := decide_eq_false c22; clear c22; refine Or.elim (Classical.em (a0_6 < 1)) (fun c24 => ?p6_) (fun c24 => ?n6_)
            case' p6_ =>
             rw [if_pos c24] at H; have c24b0 : decide (a0_6 < 1) = true := decide_eq_true c24; clear c24
            case' n6_ =>
             rw [if_neg c24] at H; have c24b0 : decide (a0_6 < 1) = false := decide_eq_false c24; clear c24
          all_goals
           have H' := Aside0.mk H; clear H; have hczzf1 : wc.cell? ⟨gb132, 0, none⟩ = some (.string a0_0) := bc BK132 0; have hczzf2 : wc.cell? ⟨gb132, 1, none⟩ = some (.string a0_1) := bc BK132 1; have hczzf3 : wc.cell? ⟨gb132, 2, none⟩ = some (.string a0_2) := bc BK132 2; have hczzf4 : wc.cell? ⟨gb132, 3, none⟩ = some (.string a0_3) := bc BK132 3; have hczzf5 : wc.cell? ⟨gb132, 4, none⟩ = some (.int .i64 a0_4) := bc BK132 4; have hczzf6 : wc.cell? ⟨gb132, 5, none⟩ = some (.int .i64 a0_5) := bc BK132 5; have hczzf7 : wc.cell? ⟨gb132, 6, none⟩ = some (.int .i64 a0_6) := bc BK132 6; have hczzf8 : wc.cell? ⟨gb132, 7, none⟩ = some (.slice A0_7 l0_7.length c0_7) := bc BK132 7; have hfzzf1 := blk_frozen BK132.out 0; have hfzzf2 := blk_frozen BK132.out 1; have hfzzf3 := blk_frozen BK132.out 2; have hfzzf4 := blk_frozen BK132.out 3; have hfzzf5 := blk_frozen BK132.out 4; have hfzzf6 := blk_frozen BK132.out 5; have hfzzf7 := blk_frozen BK132.out 6; have hfzzf8 := blk_frozen BK132.out 7; go_wp2; go_meet
           case rel => first | (exact ⟨_, (true), (by first | rfl | (simp; done) | (simp [*]; done)), H', ⟨by have := HK1.out; have := HJ13.out; first | omega | exact Nat.le_refl _⟩, ⟨by (with_reducible repeat (first | refine blk_drewN ?_ _ | refine blk_drew ?_ | refine blk_alloc ?_ _)); exact BK132.out⟩, ⟨by repeat (first | (with_reducible first | exact HB.out | apply below_alloc | apply pw_below_drewN | apply below_drew1 | refine below_set ?_ GE132.out) | exact HB.out)⟩⟩) | (exact ⟨_, (decide (a0_6 > 60000)), (by first | rfl | (simp; done) | (simp [*]; done)), H', ⟨by have := HK1.out; have := HJ13.out; first | omega | exact Nat.le_refl _⟩, ⟨by (with_reducible repeat (first | refine blk_drewN ?_ _ | refine blk_drew ?_ | refine blk_alloc ?_ _)); exact BK132.out⟩, ⟨by repeat (first | (with_reducible first | exact HB.out | apply below_alloc | apply pw_below_drewN | apply below_drew1 | refine below_set ?_ GE132.out) | exact HB.out)⟩⟩)
         case rest =>
          clear HC19
          (try clear c1); (try clear p1); (try clear q1); (try clear hx1); (try clear c2); (try clear p2); (try clear c4); (try clear c6); (try clear p6); (try clear c7); (try clear c7b0); (try clear c8); (try clear c8b0); (try clear c9); (try clear c9b0); (try clear c11); (try clear p13); (try clear q13); (try clear hx13); (try clear c15); (try clear c15b0); (try clear c18); (try clear c20); (try clear c20b0); (try clear c22); (try clear c22b0); (try clear c24); (try clear c24b0); (try clear hczze33); (try clear hczze34); (try clear hczze35); (try clear hczze36); (try clear hczze37); (try clear hczze38); (try clear hczze39); (try clear hczze40); (try clear hczze41); (try clear hczze42); (try clear hczze43); (try clear hczze44)
          (try clear hczze45); (try clear hczze46); (try clear hczze47); (try clear hczze48); (try clear hczze1); (try clear hczze2); (try clear hczze3); (try clear hczze4); (try clear hczze5); (try clear hczze6); (try clear hczze7); (try clear hczze8); (try clear hczze9); (try clear hczze10); (try clear hczze11); (try clear hczze12); (try clear hczze13); (try clear hczze14); (try clear hczze15); (try clear hczze16); (try clear hczze17); (try clear hczze18); (try clear hczze19); (try clear hczze20); (try clear hczze21); (try clear hczze22); (try clear hczze23); (try clear hczze24); (try clear hczze25); (try clear hczze26); (try clear hczze27); (try clear hczze28); (try clear hczze29); (try clear hczze30); (try clear hczze31); (try clear hczze32); (try clear hcz3_0); (try clear hcz3_1); (try clear hcz3_2); (try clear hcz3_3)
          (try clear hcz3_4); (try clear hcz3_5); (try clear hcz3_6); (try clear hcz3_7); (try clear hfzze33); (try clear hfzze34); (try clear hfzze35); (try clear hfzze36); (try clear hfzze37); (try clear hfzze38); (try clear hfzze39); (try clear hfzze40); (try clear hfzze41); (try clear hfzze42); (try clear hfzze43); (try clear hfzze44); (try clear hfzze45); (try clear hfzze46); (try clear hfzze47); (try clear hfzze48); (try clear hfzze1); (try clear hfzze2); (try clear hfzze3); (try clear hfzze4); (try clear hfzze5); (try clear hfzze6); (try clear hfzze7); (try clear hfzze8); (try clear hfzze9); (try clear hfzze10); (try clear hfzze11); (try clear hfzze12); (try clear hfzze13); (try clear hfzze14); (try clear hfzze15); (try clear hfzze16); (try clear hfzze17); (try clear hfzze18); (try clear hfzze19); (try clear hfzze20)
          (try clear hfzze21); (try clear hfzze22); (try clear hfzze23); (try clear hfzze24); (try clear hfzze25); (try clear hfzze26); (try clear hfzze27); (try clear hfzze28); (try clear hfzze29); (try clear hfzze30); (try clear hfzze31); (try clear hfzze32); (try clear hfz3_0); (try clear hfz3_1); (try clear hfz3_2); (try clear hfz3_3); (try clear hfz3_4); (try clear hfz3_5); (try clear hfz3_6); (try clear hfz3_7); (try clear hx136_0); (try clear p1); (try clear p13); (try clear p136); (try clear p2); (try clear p6); (try clear q1); (try clear q13); (try clear q136)
          obtain ⟨kq, x32_18, rfl, HA, HJ18, BK132, HB⟩ := hcut
          cases kq with
          | zero => exact absurd HA.out (by simp [plantext_Check.j2])
          | succ kj18 =>
           have H := HA.out; clear HA; simp only [plantext_Check.j2] at H; refine Or.elim (Classical.em (x32_18 = true)) (fun c27 => ?p8_) (fun c27 => ?n8_)
           case' p8_ =>
            subst c27
            have H1 : (some 4) = some r := by rw [if_pos rfl] at H; exact H
            clear H; have H := H1; clear H1; have hm7_0 := Aside0.mk trivial
           case' n8_ =>
            replace c27 := Bool.eq_false_iff.mpr c27; subst c27
            have H1 : (if (l0_7.length : Int) > 24 then (some 2) else ((slices_ContainsFunc_string_string.f l0_7 (plantext_Check_1.p)).bind fun t138 => (if t138 = true then (some 5) else (some 0)))) = some r := by rw [if_neg (show ¬ (false = true) by decide)] at H; exact H
            clear H; have H := H1; clear H1; refine Or.elim (Classical.em ((l0_7.length : Int) > 24)) (fun c28 => ?p9_) (fun c28 => ?n9_)
            case' p9_ =>
             rw [if_pos c28] at H; have c28b0 : decide (24 < (l0_7.length : Int)) = true := decide_eq_true c28; have c28b1 : decide (24 < l0_7.length) = true := decide_eq_true (by omega); clear c28; have hm7_1 := Aside0.mk trivial
            case' n9_ =>
             rw [if_neg c28] at H; have c28b0 : decide (24 < (l0_7.length : Int)) = false := decide_eq_false c28; have c28b1 : decide (24 < l0_7.length) = false := decide_eq_false (by omega); clear c28; replace H := Option.bind_eq_some_iff.mp H; obtain ⟨t138, A300, H⟩ := H; replace H : (if t138 = true then (some 5) else (some 0)) = some r := H; have A30 := Aside0.mk A300; clear A300; refine Or.elim (Classical.em (t138 = true)) (fun c31 => ?p10_) (fun c31 => ?n10_)
             case' p10_ =>
              subst c31
              have H1 : (some 5) = some r := by rw [if_pos rfl] at H; exact H
              clear H; have H := H1; clear H1; have hm7_2 := Aside0.mk trivial
             case' n10_ =>
              replace c31 := Bool.eq_false_iff.mpr c31; subst c31
              have H1 : (some 0) = some r := by rw [if_neg (show ¬ (false = true) by decide)] at H; exact H
              clear H; have H := H1; clear H1; have hm7_2 := Aside0.mk trivial
           all_goals
            obtain rfl := Option.some.inj H
            first
             | clear hm7_0; go_wp2; go_ret
               exact ⟨by first | rfl | (simp [errW_none, errW_some] <;> rfl) | (simp [*, errW_none, errW_some] <;> rfl), by repeat (first | (with_reducible first | exact HB.out | apply below_alloc | apply pw_below_drewN | apply below_drew1 | refine below_set ?_ GE132.out) | exact HB.out)⟩
             | (first | (have _hm := hm7_1) | (have _hm := hm7_2))
               have hczzg1 : wc.cell? ⟨gb132, 0, none⟩ = some (.string a0_0) := bc BK132 0; have hczzg2 : wc.cell? ⟨gb132, 1, none⟩ = some (.string a0_1) := bc BK132 1; have hczzg3 : wc.cell? ⟨gb132, 2, none⟩ = some (.string a0_2) := bc BK132 2; have hczzg4 : wc.cell? ⟨gb132, 3, none⟩ = some (.string a0_3) := bc BK132 3; have hczzg5 : wc.cell? ⟨gb132, 4, none⟩ = some (.int .i64 a0_4) := bc BK132 4; have hczzg6 : wc.cell? ⟨gb132, 5, none⟩ = some (.int .i64 a0_5) := bc BK132 5; have hczzg7 : wc.cell? ⟨gb132, 6, none⟩ = some (.int .i64 a0_6) := bc BK132 6; have hczzg8 : wc.cell? ⟨gb132, 7, none⟩ = some (.slice A0_7 l0_7.length c0_7) := bc BK132 7; have hfzzg1 := blk_frozen BK132.out 0; have hfzzg2 := blk_frozen BK132.out 1; have hfzzg3 := blk_frozen BK132.out 2; have hfzzg4 := blk_frozen BK132.out 3; have hfzzg5 := blk_frozen BK132.out 4; have hfzzg6 := blk_frozen BK132.out 5; have hfzzg7 := blk_frozen BK132.out 6; have hfzzg8 := blk_frozen BK132.out 7
               first
                | clear hm7_1; go_wp2; go_ret
                  exact ⟨by first | rfl | (simp [errW_none, errW_some] <;> rfl) | (simp [*, errW_none, errW_some] <;> rfl), by repeat (first | (with_reducible first | exact HB.out | apply below_alloc | apply pw_below_drewN | apply below_drew1 | refine below_set ?_ GE132.out) | exact HB.out)⟩
                | clear hm7_2
                  go_wp2_with (first | ((with_reducible refine gate_callee (f := 97) rfl ?_); refine goesL_ (some 59) rfl rfl Try.func97 (by kernel_rfl) rfl #[.slice A0_7 l0_7.length c0_7, .func (.func 98) #[] #[]] rfl any_s ?_; (with_reducible refine (slices_ContainsFunc_string_string.calls _ _ l0_7 (plantext_Check_1.p) false _ ?side1 ?side2 ?side3 A30.out).mono ?_); (case side1 => exact cb_s (Kd.C_below HR0_7.out HB.out)); (case side2 => exact HC0_7.out); (case side3 => exact plantext_Check_1.pred ); rintro e wx037d1 ⟨rfl, hb⟩; refine ⟨_, rfl, ?_⟩; have n0_ := kp BK132 hb; have n1_ := st HB hb; clear BK132; clear HB; have BK132 := n0_; have HB := n1_; clear n0_ n1_; (try clear hb); (try clear hb2); (try clear hk); (try clear hi)) | ((with_reducible refine gate_callee (f := 97) rfl ?_); refine goesL_ (some 59) rfl rfl Try.func97 (by kernel_rfl) rfl #[.slice A0_7 l0_7.length c0_7, .func (.func 98) #[] #[]] rfl any_s ?_; (with_reducible refine (slices_ContainsFunc_string_string.calls _ _ l0_7 (plantext_Check_1.p) true _ ?side1 ?side2 ?side3 A30.out).mono ?_); (case side1 => exact cb_s (Kd.C_below HR0_7.out HB.out)); (case side2 => exact HC0_7.out); (case side3 => exact plantext_Check_1.pred ); rintro e wx92941 ⟨rfl, hb⟩; refine ⟨_, rfl, ?_⟩; have n0_ := kp BK132 hb; have n1_ := st HB hb; clear BK132; clear HB; have BK132 := n0_; have HB := n1_; clear n0_ n1_; (try clear hb); (try clear hb2); (try clear hk); (try clear hi)))
                  go_ret
                  exact ⟨by first | rfl | (simp [errW_none, errW_some] <;> rfl) | (simp [*, errW_none, errW_some] <;> rfl), by repeat (first | (with_reducible first | exact HB.out | apply below_alloc | apply pw_below_drewN | apply below_drew1 | refine below_set ?_ GE132.out) | exact HB.out)⟩

end Go.Proofs.Ytbpbpojnfhhbjaa.PRouteDirect
