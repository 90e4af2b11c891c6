/- Made by wip/tools/myprint.py (over the kit's printer). -/
import Derived.Test.YthpbpdobghceeaaGreatDoorTSq3
import Derived.Test.YthpbpdobghceeaaGreatDoorPFlyWindsx0
import Derived.Test.YthpbpdobghceeaaGreatDoorPFlyWindsx3
import Derived.Test.YthpbpdobghceeaaGreatDoorPFlyWindsx4
import Derived.Test.YthpbpdobghceeaaGreatDoorPFlyWindsx5
namespace Go.Proofs.YthpbpdobghceeaaGreatDoor.PFlyWinds
open Go.RowKit Go.Proofs.YthpbpdobghceeaaGreatDoorW.PrintWords Go.Proofs.YthpbpdobghceeaaGreatDoorW.PrintLast Go.Proofs.YthpbpdobghceeaaGreatDoorW.PrintMore
attribute [local go_sem] max2_int min2_int max_two min_two max_three min_three max_four min_four
set_option linter.unusedVariables false
set_option maxRecDepth 100000
set_option maxHeartbeats 8000000
set_option linter.unusedSimpArgs false
mutual
def chart_Check.j0 : Nat → Bool → List (S84) → List (S139) → Option (Int)
  | 0, _, _, _ => none
  | k + 1, x17, x133000, x133001 => if x17 = true then (some 2) else (chart_Check.l0 k x133000 (x133000.length : Int) 0 x133000 x133001)
def chart_Check.l0 : Nat → List (S84) → Int → Int → List (S84) → List (S139) → Option (Int)
  | 0, _, _, _, _, _ => none
  | k + 1, x19, x20, x21, x133000, x133001 => if x21 < x20 then (if 0 ≤ x21 then (if x21 < (x19.length : Int) then ((chart_Name.f k ((rd_T84 x19 x21).f0)).bind fun t135 => (if t135 = true then ((chart_find.f x133000 x133001 ((rd_T84 x19 x21).f0)).bind fun t136 => (if t136 < x21 then (some 7) else ((plane_Check.f ((rd_T84 x19 x21).f1.f0) ((rd_T84 x19 x21).f1.f1)).bind fun t137 => (if t137 = 0 then (chart_Check.l0 k x19 x20 (wrap64 (x21 + 1)) x133000 x133001) else (some t137))))) else (some 5))) else (none)) else (none)) else (chart_Check.l1 k (x133001.length : Int) 0 x133000 x133001)
def chart_Check.l1 : Nat → Int → Int → List (S84) → List (S139) → Option (Int)
  | 0, _, _, _, _ => none
  | k + 1, x47, x48, x133000, x133001 => if x48 < x47 then ((chart_airway.f k x133000 x133001 x48).bind fun t138 => (if t138 = 0 then (chart_Check.l1 k x47 (wrap64 (x48 + 1)) x133000 x133001) else (some t138))) else (some 0)
end
def chart_Check.f (k : Nat) (l0_0 : List (S84)) (l0_1 : List (S139)) : Option (Int) := if (l0_0.length : Int) > 64 then (chart_Check.j0 k true l0_0 l0_1) else (chart_Check.j0 k (decide ((l0_1.length : Int) > 16)) l0_0 l0_1)
theorem chart_Check.mono_l : ∀ k, (∀ y0 y1 y2, LeO (chart_Check.j0 k y0 y1 y2) (chart_Check.j0 (k + 1) y0 y1 y2)) ∧ (∀ y0 y1 y2 y3 y4, LeO (chart_Check.l0 k y0 y1 y2 y3 y4) (chart_Check.l0 (k + 1) y0 y1 y2 y3 y4)) ∧ (∀ y0 y1 y2 y3, LeO (chart_Check.l1 k y0 y1 y2 y3) (chart_Check.l1 (k + 1) y0 y1 y2 y3))
  | 0 => ⟨fun _ _ _ r h => by simp [chart_Check.j0] at h, fun _ _ _ _ _ r h => by simp [chart_Check.l0] at h, fun _ _ _ _ r h => by simp [chart_Check.l1] at h⟩
  | k + 1 => by
    obtain ⟨ih0, ih1, ih2⟩ := chart_Check.mono_l k; refine ⟨?_, ?_, ?_⟩
    · intro y0 y1 y2; unfold chart_Check.j0
      repeat' with_reducible first | apply ih0 | apply ih1 | apply ih2 | apply chart_Name.mono | apply chart_airway.mono | apply LeO.refl | apply LeO.none | apply LeO.ite | refine LeO.bind ?_ (fun _ => ?_)
    · intro y0 y1 y2 y3 y4; unfold chart_Check.l0
      repeat' with_reducible first | apply ih0 | apply ih1 | apply ih2 | apply chart_Name.mono | apply chart_airway.mono | apply LeO.refl | apply LeO.none | apply LeO.ite | refine LeO.bind ?_ (fun _ => ?_)
    · intro y0 y1 y2 y3; unfold chart_Check.l1
      repeat' with_reducible first | apply ih0 | apply ih1 | apply ih2 | apply chart_Name.mono | apply chart_airway.mono | apply LeO.refl | apply LeO.none | apply LeO.ite | refine LeO.bind ?_ (fun _ => ?_)
theorem chart_Check.mono : ∀ a0 a1 k, LeO (chart_Check.f k a0 a1) (chart_Check.f (k + 1) a0 a1) := by
  intro a0 a1 k; obtain ⟨ih0, ih1, ih2⟩ := chart_Check.mono_l k; unfold chart_Check.f
  repeat' with_reducible first | apply ih0 | apply ih1 | apply ih2 | apply chart_Name.mono | apply chart_airway.mono | apply LeO.refl | apply LeO.none | apply LeO.ite | refine LeO.bind ?_ (fun _ => ?_)
theorem chart_Check.calls (k : Nat) (A0_0 : Option Addr) (c0_0 : Nat) (l0_0 : List (S84)) (A0_1 : Option Addr) (c0_1 : Nat) (l0_1 : List (S139)) (r : Int) (w : World) (hr0_0 : Kd.C k84 w A0_0 l0_0.length l0_0) (hc0_0 : l0_0.length ≤ c0_0) (hr0_1 : Kd.C k139 w A0_1 l0_1.length l0_1) (hc0_1 : l0_1.length ≤ c0_1) (h : chart_Check.f k l0_0 l0_1 = some r) :
    Calls Tryz.prog 33 #[.agg #[.slice A0_0 l0_0.length c0_0, .slice A0_1 l0_1.length c0_1]] w fun e w' => e = .returned (.int .i64 r) ∧ Below w.heap.size w w' := by
 have hu43 := Tryz.underlying43; have hu84 := Tryz.underlying84; have hu54 := Tryz.underlying54; have HR0_0 := Aside0.mk hr0_0; have HC0_0 := Aside0.mk hc0_0; clear hr0_0 hc0_0; have HR0_1 := Aside0.mk hr0_1; have HC0_1 := Aside0.mk hc0_1; clear hr0_1 hc0_1; have HB := Aside0.mk (Below.refl w.heap.size w); have H := h; unfold chart_Check.f at H; clear h; have HC2 := Aside0.mk H; clear H; go_enter Tryz.func33, Tryz.ntmps33
 go_upto_region 1 with (first | ((with_reducible refine gate_dst (N := 1) rfl ?_); (try (refine gate_guard (by rfl) ?_; dsimp only)); refine box_s #[.slice A0_0 l0_0.length c0_0, .slice A0_1 l0_1.length c0_1] 43 ?_; intro gb132 hg w3 hbox hb; have BK132 := Aside0.mk (hbox); have GW132 := ge HB hg; have GE132 := ge HB hg; replace HB := st HB hb; clear hb hbox hg))
 (try simp only [Act.put, List.setIfInBounds_toArray, List.set_cons_zero, List.set_cons_succ])
 go_cut [17] (fun v17 wc => ∃ (kq : Nat) (x17_1 : Bool), v17 = .bool x17_1 ∧ Aside0 (chart_Check.j0 kq x17_1 l0_0 l0_1 = some r) ∧ Aside0 (kq ≤ k) ∧ Aside0 (wc.heap[gb132]? = some (.cells #[(.slice A0_0 l0_0.length c0_0), (.slice A0_1 l0_1.length c0_1)] 43 (0, 0))) ∧ Aside0 (Below w.heap.size w wc))
 case first =>
  have H := HC2.out; clear HC2; refine Or.elim (Classical.em ((l0_0.length : Int) > 64)) (fun c4 => ?p2_) (fun c4 => ?n2_)
  case' p2_ =>
   rw [if_pos c4] at H; have c4b0 := decide_eq_true c4; have c4b1 : decide (64 < l0_0.length) = true := decide_eq_true (by omega); clear c4
   (first | rw [c4b0] | (simp only [i64_w, i32_w]; rw [c4b0]) | skip)
  case' n2_ =>
   rw [if_neg c4] at H; have c4b0 := decide_eq_false c4; have c4b1 : decide (64 < l0_0.length) = false := decide_eq_false (by omega); clear c4
   (first | rw [c4b0] | (simp only [i64_w, i32_w]; rw [c4b0]) | skip)
  all_goals
   have H' := Aside0.mk H; clear H; obtain ⟨hczzb1, hczzb2, hfzzb1, hfzzb2⟩ := bq2 BK132; go_wp2; go_meet
   case rel => first | (exact ⟨_, (true), rs_, H', ⟨by first | omega | exact Nat.le_refl _⟩, ⟨blk_s⟩, ⟨bel_s⟩⟩) | (exact ⟨_, (decide ((l0_1.length : Int) > 16)), rs_, H', ⟨by first | omega | exact Nat.le_refl _⟩, ⟨blk_s⟩, ⟨bel_s⟩⟩)
 case rest =>
  clear HC2
  obtain ⟨kq, x17_1, rfl, HA, HJ1, BK132, HB⟩ := hcut
  cases kq with
  | zero => exact absurd HA.out (by simp [chart_Check.j0])
  | succ kj1 =>
   have H := HA.out; clear HA; simp only [chart_Check.j0] at H
   by_cases c7 : x17_1 = true
   · subst c7
     rw [if_pos rfl] at H; (try dsimp only at H); obtain rfl := Option.some.inj H; go_wp2; go_ret
     exact ⟨er_, bel_s⟩
   · replace c7 := Bool.eq_false_iff.mpr c7; subst c7
     rw [if_neg (show ¬ (false = true) by decide)] at H; (try dsimp only at H); have H' := Aside0.mk H; clear H; obtain ⟨hczzc1, hczzc2, hfzzc1, hfzzc2⟩ := bq2 BK132; go_wp2; go_loopg [21] kj1 (fun kq v21 w' => ∃ (x21_2 : Int), v21 = .int .i64 x21_2 ∧ Aside0 (chart_Check.l0 kq l0_0 (l0_0.length : Int) x21_2 l0_0 l0_1 = some r) ∧ Aside0 (kq ≤ kj1) ∧ Aside0 (w'.heap[gb132]? = some (.cells #[(.slice A0_0 l0_0.length c0_0), (.slice A0_1 l0_1.length c0_1)] 43 (0, 0))) ∧ Aside0 (Below w.heap.size w w'))
     case atStart => exact ⟨(0), rs_, H', ⟨Nat.le_refl _⟩, ⟨blk_s⟩, ⟨bel_s⟩⟩
     case round =>
      clear H'
      obtain ⟨x21_2, rfl, HA, HK2, BK132, HB⟩ := hrel
      cases gk with
      | zero => exact absurd HA.out (by simp [chart_Check.l0])
      | succ k2 =>
       have H := HA.out; clear HA; simp only [chart_Check.l0] at H; refine Or.elim (Classical.em (x21_2 < (l0_0.length : Int))) (fun c9 => ?p4_) (fun c9 => ?n4_)
       case' p4_ =>
        rw [if_pos c9] at H; have c9b0 := decide_eq_true c9; clear c9; obtain ⟨c10b0, H⟩ := ip_ H; obtain ⟨c11b0, H⟩ := ip_ H; replace H := Option.bind_eq_some_iff.mp H; obtain ⟨t135, A120, H⟩ := H; (try dsimp only at H); have A12 := Aside0.mk A120; clear A120; refine Or.elim (Classical.em (t135 = true)) (fun c13 => ?p7_) (fun c13 => ?n7_)
        case' p7_ =>
         subst c13
         rw [if_pos rfl] at H; (try dsimp only at H); replace H := Option.bind_eq_some_iff.mp H; obtain ⟨t136, A140, H⟩ := H; (try dsimp only at H); have A14 := Aside0.mk A140; clear A140; refine Or.elim (Classical.em (t136 < x21_2)) (fun c15 => ?p8_) (fun c15 => ?n8_)
         case' p8_ =>
          rw [if_pos c15] at H; have c15b0 := decide_eq_true c15; clear c15; have hm3_0 := Aside0.mk trivial
         case' n8_ =>
          rw [if_neg c15] at H; have c15b0 := decide_eq_false c15; clear c15; replace H := Option.bind_eq_some_iff.mp H; obtain ⟨t137, A230, H⟩ := H; (try dsimp only at H); have A23 := Aside0.mk A230; clear A230; refine Or.elim (Classical.em (t137 = 0)) (fun c24 => ?p9_) (fun c24 => ?n9_)
          case' p9_ =>
           rw [if_pos c24] at H; have c24b0 := beq_iff_eq.mpr c24; have c24b1 := bne_eq_false_iff_eq.mpr c24; clear c24; have hm3_1 := Aside0.mk trivial
          case' n9_ =>
           rw [if_neg c24] at H; have c24b0 := beq_eq_false_iff_ne.mpr c24; have c24b1 := bne_iff_ne.mpr c24; have hm3_0 := Aside0.mk trivial
        case' n7_ =>
         replace c13 := Bool.eq_false_iff.mpr c13; subst c13
         rw [if_neg (show ¬ (false = true) by decide)] at H; (try dsimp only at H); have hm3_0 := Aside0.mk trivial
       case' n4_ =>
        rw [if_neg c9] at H; have c9b0 := decide_eq_false c9; clear c9; have hm3_2 := Aside0.mk trivial
       all_goals
        first
         | clear hm3_0; obtain rfl := Option.some.inj H
           have p133 : 0 ≤ (x21_2 : Int) := od_
           have q133 : x21_2 < (l0_0.length : Int) := od_
           obtain ⟨ad133, e133, hx133_0, hx133_1, hx133_2⟩ := at_T84 HR0_0.out x21_2 p133 q133; cases e133; replace hx133_0 := cl HB hx133_0; replace hx133_1 := cl HB hx133_1; replace hx133_2 := cl HB hx133_2; replace p133 := eq_true p133; replace q133 := eq_true q133
           go_wp2_with (first | ((with_reducible refine gate_dst (N := 4) rfl ?_); (try (refine gate_guard (by rfl) ?_; dsimp only)); refine box_s #[.string (⟨#[]⟩ : ByteArray), .int .i64 0, .int .i64 0] 84 ?_; intro gb134 hg wx66621 hbox hb; have BK134 := Aside0.mk (hbox); have GW134 := ge HB hg; have GE134 := ge HB hg; replace HB := st HB hb; have NB132_134 := nl BK132 hg; have NB134_132 := nr BK132 hg; replace BK132 := kp BK132 hb; clear hb hbox hg; have hnbx66621 := NB134_132.out; have hncx66621 := NB132_134.out; obtain ⟨hczx66621, hczx66622, hczx66623, hfzx66621, hfzx66622, hfzx66623⟩ := bq3 BK134) | ((with_reducible refine gate_callee (f := 74) rfl ?_); refine goesL_ (some 29) rfl rfl Tryz.func74 (by kernel_rfl) rfl #[.string ((rd_T84 l0_0 x21_2).f0)] rfl any_s ?_; (with_reducible refine (chart_Name.calls k2 ((rd_T84 l0_0 x21_2).f0) true _ A12.out).mono ?_); rintro e wx3b3a1 ⟨rfl, hb⟩; refine ⟨_, rfl, ?_⟩; replace BK132 := kp BK132 hb; replace BK134 := Aside0.mk (blk_below (g := gb134) (o := .cells #[.string ((rd_T84 l0_0 x21_2).f0), .int .i64 ((rd_T84 l0_0 x21_2).f1.f0), .int .i64 ((rd_T84 l0_0 x21_2).f1.f1)] 84 (0, 0)) (by (with_reducible repeat (first | refine blk_drewN ?_ _ | refine blk_drew ?_ | refine blk_alloc ?_ _)); refine blk_put (cs := #[.string ((rd_T84 l0_0 x21_2).f0), .int .i64 ((rd_T84 l0_0 x21_2).f1.f0), .int .i64 0]) ?_ 2 _ rfl; (with_reducible repeat (first | refine blk_drewN ?_ _ | refine blk_drew ?_ | refine blk_alloc ?_ _)); refine blk_put (cs := #[.string ((rd_T84 l0_0 x21_2).f0), .int .i64 0, .int .i64 0]) ?_ 1 _ rfl; (with_reducible repeat (first | refine blk_drewN ?_ _ | refine blk_drew ?_ | refine blk_alloc ?_ _)); refine blk_put (cs := #[.string (⟨#[]⟩ : ByteArray), .int .i64 0, .int .i64 0]) ?_ 0 _ rfl; (with_reducible repeat (first | refine blk_drewN ?_ _ | refine blk_drew ?_ | refine blk_alloc ?_ _)); exact BK134.out) hb); replace HB := st HB hb; obtain ⟨hczx3b3a1, hczx3b3a2, hfzx3b3a1, hfzx3b3a2⟩ := bq2 BK132; obtain ⟨hczx3b3a3, hczx3b3a4, hczx3b3a5, hfzx3b3a3, hfzx3b3a4, hfzx3b3a5⟩ := bq3 BK134) | ((with_reducible refine gate_callee (f := 74) rfl ?_); refine goesL_ (some 29) rfl rfl Tryz.func74 (by kernel_rfl) rfl #[.string ((rd_T84 l0_0 x21_2).f0)] rfl any_s ?_; (with_reducible refine (chart_Name.calls k2 ((rd_T84 l0_0 x21_2).f0) false _ A12.out).mono ?_); rintro e wxcaff1 ⟨rfl, hb⟩; refine ⟨_, rfl, ?_⟩; replace BK132 := kp BK132 hb; replace BK134 := Aside0.mk (blk_below (g := gb134) (o := .cells #[.string ((rd_T84 l0_0 x21_2).f0), .int .i64 ((rd_T84 l0_0 x21_2).f1.f0), .int .i64 ((rd_T84 l0_0 x21_2).f1.f1)] 84 (0, 0)) (by (with_reducible repeat (first | refine blk_drewN ?_ _ | refine blk_drew ?_ | refine blk_alloc ?_ _)); refine blk_put (cs := #[.string ((rd_T84 l0_0 x21_2).f0), .int .i64 ((rd_T84 l0_0 x21_2).f1.f0), .int .i64 0]) ?_ 2 _ rfl; (with_reducible repeat (first | refine blk_drewN ?_ _ | refine blk_drew ?_ | refine blk_alloc ?_ _)); refine blk_put (cs := #[.string ((rd_T84 l0_0 x21_2).f0), .int .i64 0, .int .i64 0]) ?_ 1 _ rfl; (with_reducible repeat (first | refine blk_drewN ?_ _ | refine blk_drew ?_ | refine blk_alloc ?_ _)); refine blk_put (cs := #[.string (⟨#[]⟩ : ByteArray), .int .i64 0, .int .i64 0]) ?_ 0 _ rfl; (with_reducible repeat (first | refine blk_drewN ?_ _ | refine blk_drew ?_ | refine blk_alloc ?_ _)); exact BK134.out) hb); replace HB := st HB hb) | ((with_reducible refine gate_callee (f := 77) rfl ?_); refine goesL_ (some 35) rfl rfl Tryz.func77 (by kernel_rfl) rfl #[.agg #[.slice (some ad133) l0_0.length c0_0, .slice A0_1 l0_1.length c0_1], .string ((rd_T84 l0_0 x21_2).f0)] rfl any_s ?_; (with_reducible refine (chart_find.calls _ _ l0_0 _ _ l0_1 ((rd_T84 l0_0 x21_2).f0) t136 _ ?side1 ?side2 ?side3 ?side4 A14.out).mono ?_); (case side1 => exact cb_s (Kd.C_below HR0_0.out HB.out)); (case side2 => exact HC0_0.out); (case side3 => exact cb_s (Kd.C_below HR0_1.out HB.out)); (case side4 => exact HC0_1.out); rintro e wx530d1 ⟨rfl, hb⟩; refine ⟨_, rfl, ?_⟩; replace BK132 := kp BK132 hb; replace BK134 := kp BK134 hb; replace HB := st HB hb; obtain ⟨hczx530d1, hczx530d2, hczx530d3, hfzx530d1, hfzx530d2, hfzx530d3⟩ := bq3 BK134) | ((with_reducible refine gate_callee (f := 77) rfl ?_); refine goesL_ (some 35) rfl rfl Tryz.func77 (by kernel_rfl) rfl #[.agg #[.slice (some ad133) l0_0.length c0_0, .slice A0_1 l0_1.length c0_1], .string ((rd_T84 l0_0 x21_2).f0)] rfl any_s ?_; (with_reducible refine (chart_find.calls _ _ l0_0 _ _ l0_1 ((rd_T84 l0_0 x21_2).f0) t136 _ ?side1 ?side2 ?side3 ?side4 A14.out).mono ?_); (case side1 => exact cb_s (Kd.C_below HR0_0.out HB.out)); (case side2 => exact HC0_0.out); (case side3 => exact cb_s (Kd.C_below HR0_1.out HB.out)); (case side4 => exact HC0_1.out); rintro e wxfd351 ⟨rfl, hb⟩; refine ⟨_, rfl, ?_⟩; replace BK132 := kp BK132 hb; replace BK134 := kp BK134 hb; replace HB := st HB hb) | ((with_reducible refine gate_callee (f := 50) rfl ?_); refine goesL_ (some 40) rfl rfl Tryz.func50 (by kernel_rfl) rfl #[.agg #[.int .i64 ((rd_T84 l0_0 x21_2).f1.f0), .int .i64 ((rd_T84 l0_0 x21_2).f1.f1)]] rfl any_s ?_; (with_reducible refine (plane_Check.calls ((rd_T84 l0_0 x21_2).f1.f0) ((rd_T84 l0_0 x21_2).f1.f1) t137 _ A23.out).mono ?_); rintro e wx32fb1 ⟨rfl, hb⟩; refine ⟨_, rfl, ?_⟩; replace BK132 := kp BK132 hb; replace BK134 := kp BK134 hb; replace HB := st HB hb))
           go_ret
           exact ⟨er_, bel_s⟩
         | (first | (have _hm := hm3_1) | (have _hm := hm3_2))
           have H' := Aside0.mk H; clear H
           first
            | clear hm3_1
              have p133 : 0 ≤ (x21_2 : Int) := od_
              have q133 : x21_2 < (l0_0.length : Int) := od_
              obtain ⟨ad133, e133, hx133_0, hx133_1, hx133_2⟩ := at_T84 HR0_0.out x21_2 p133 q133; cases e133; replace hx133_0 := cl HB hx133_0; replace hx133_1 := cl HB hx133_1; replace hx133_2 := cl HB hx133_2; replace p133 := eq_true p133; replace q133 := eq_true q133
              go_wp2_with (first | ((with_reducible refine gate_dst (N := 4) rfl ?_); (try (refine gate_guard (by rfl) ?_; dsimp only)); refine box_s #[.string (⟨#[]⟩ : ByteArray), .int .i64 0, .int .i64 0] 84 ?_; intro gb134 hg wx66621 hbox hb; have BK134 := Aside0.mk (hbox); have GW134 := ge HB hg; have GE134 := ge HB hg; replace HB := st HB hb; have NB132_134 := nl BK132 hg; have NB134_132 := nr BK132 hg; replace BK132 := kp BK132 hb; clear hb hbox hg; have hnbx66621 := NB134_132.out; have hncx66621 := NB132_134.out; obtain ⟨hczx66621, hczx66622, hczx66623, hfzx66621, hfzx66622, hfzx66623⟩ := bq3 BK134) | ((with_reducible refine gate_callee (f := 74) rfl ?_); refine goesL_ (some 29) rfl rfl Tryz.func74 (by kernel_rfl) rfl #[.string ((rd_T84 l0_0 x21_2).f0)] rfl any_s ?_; (with_reducible refine (chart_Name.calls k2 ((rd_T84 l0_0 x21_2).f0) true _ A12.out).mono ?_); rintro e wx3b3a1 ⟨rfl, hb⟩; refine ⟨_, rfl, ?_⟩; replace BK132 := kp BK132 hb; replace BK134 := Aside0.mk (blk_below (g := gb134) (o := .cells #[.string ((rd_T84 l0_0 x21_2).f0), .int .i64 ((rd_T84 l0_0 x21_2).f1.f0), .int .i64 ((rd_T84 l0_0 x21_2).f1.f1)] 84 (0, 0)) (by (with_reducible repeat (first | refine blk_drewN ?_ _ | refine blk_drew ?_ | refine blk_alloc ?_ _)); refine blk_put (cs := #[.string ((rd_T84 l0_0 x21_2).f0), .int .i64 ((rd_T84 l0_0 x21_2).f1.f0), .int .i64 0]) ?_ 2 _ rfl; (with_reducible repeat (first | refine blk_drewN ?_ _ | refine blk_drew ?_ | refine blk_alloc ?_ _)); refine blk_put (cs := #[.string ((rd_T84 l0_0 x21_2).f0), .int .i64 0, .int .i64 0]) ?_ 1 _ rfl; (with_reducible repeat (first | refine blk_drewN ?_ _ | refine blk_drew ?_ | refine blk_alloc ?_ _)); refine blk_put (cs := #[.string (⟨#[]⟩ : ByteArray), .int .i64 0, .int .i64 0]) ?_ 0 _ rfl; (with_reducible repeat (first | refine blk_drewN ?_ _ | refine blk_drew ?_ | refine blk_alloc ?_ _)); exact BK134.out) hb); replace HB := st HB hb; obtain ⟨hczx3b3a1, hczx3b3a2, hfzx3b3a1, hfzx3b3a2⟩ := bq2 BK132; obtain ⟨hczx3b3a3, hczx3b3a4, hczx3b3a5, hfzx3b3a3, hfzx3b3a4, hfzx3b3a5⟩ := bq3 BK134) | ((with_reducible refine gate_callee (f := 77) rfl ?_); refine goesL_ (some 35) rfl rfl Tryz.func77 (by kernel_rfl) rfl #[.agg #[.slice (some ad133) l0_0.length c0_0, .slice A0_1 l0_1.length c0_1], .string ((rd_T84 l0_0 x21_2).f0)] rfl any_s ?_; (with_reducible refine (chart_find.calls _ _ l0_0 _ _ l0_1 ((rd_T84 l0_0 x21_2).f0) t136 _ ?side1 ?side2 ?side3 ?side4 A14.out).mono ?_); (case side1 => exact cb_s (Kd.C_below HR0_0.out HB.out)); (case side2 => exact HC0_0.out); (case side3 => exact cb_s (Kd.C_below HR0_1.out HB.out)); (case side4 => exact HC0_1.out); rintro e wx530d1 ⟨rfl, hb⟩; refine ⟨_, rfl, ?_⟩; replace BK132 := kp BK132 hb; replace BK134 := kp BK134 hb; replace HB := st HB hb; obtain ⟨hczx530d1, hczx530d2, hczx530d3, hfzx530d1, hfzx530d2, hfzx530d3⟩ := bq3 BK134) | ((with_reducible refine gate_callee (f := 50) rfl ?_); refine goesL_ (some 40) rfl rfl Tryz.func50 (by kernel_rfl) rfl #[.agg #[.int .i64 ((rd_T84 l0_0 x21_2).f1.f0), .int .i64 ((rd_T84 l0_0 x21_2).f1.f1)]] rfl any_s ?_; (with_reducible refine (plane_Check.calls ((rd_T84 l0_0 x21_2).f1.f0) ((rd_T84 l0_0 x21_2).f1.f1) t137 _ A23.out).mono ?_); rintro e wx32fb1 ⟨rfl, hb⟩; refine ⟨_, rfl, ?_⟩; replace BK132 := kp BK132 hb; replace BK134 := kp BK134 hb; replace HB := st HB hb))
              go_roundg k2
              case measure => have := HJ1.out; have := HK2.out; omega
              case rel => exact ⟨(wrap64 (x21_2 + 1)), rs_, H', ⟨by have := HJ1.out; have := HK2.out; omega⟩, ⟨blk_s⟩, ⟨bel_s⟩⟩
            | clear hm3_2; obtain ⟨hczze1, hczze2, hfzze1, hfzze2⟩ := bq2 BK132; go_wp2; go_loopg [48] k2 (fun kq v48 w' => ∃ (x48_3 : Int), v48 = .int .i64 x48_3 ∧ Aside0 (chart_Check.l1 kq (l0_1.length : Int) x48_3 l0_0 l0_1 = some r) ∧ Aside0 (kq ≤ k2) ∧ Aside0 (w'.heap[gb132]? = some (.cells #[(.slice A0_0 l0_0.length c0_0), (.slice A0_1 l0_1.length c0_1)] 43 (0, 0))) ∧ Aside0 (Below w.heap.size w w'))
              case atStart => exact ⟨(0), rs_, H', ⟨Nat.le_refl _⟩, ⟨blk_s⟩, ⟨bel_s⟩⟩
              case round =>
               clear H'
               obtain ⟨x48_3, rfl, HA, HK3, BK132, HB⟩ := hrel
               cases gk with
               | zero => exact absurd HA.out (by simp [chart_Check.l1])
               | succ k3 =>
                have H := HA.out; clear HA; simp only [chart_Check.l1] at H; refine Or.elim (Classical.em (x48_3 < (l0_1.length : Int))) (fun c48 => ?p11_) (fun c48 => ?n11_)
                case' p11_ =>
                 rw [if_pos c48] at H; have c48b0 := decide_eq_true c48; clear c48; replace H := Option.bind_eq_some_iff.mp H; obtain ⟨t138, A490, H⟩ := H; (try dsimp only at H); have A49 := Aside0.mk A490; clear A490; refine Or.elim (Classical.em (t138 = 0)) (fun c50 => ?p12_) (fun c50 => ?n12_)
                 case' p12_ =>
                  rw [if_pos c50] at H; have c50b0 := beq_iff_eq.mpr c50; have c50b1 := bne_eq_false_iff_eq.mpr c50; clear c50; have hm10_0 := Aside0.mk trivial
                 case' n12_ =>
                  rw [if_neg c50] at H; have c50b0 := beq_eq_false_iff_ne.mpr c50; have c50b1 := bne_iff_ne.mpr c50; have hm10_1 := Aside0.mk trivial
                case' n11_ =>
                 rw [if_neg c48] at H; have c48b0 := decide_eq_false c48; clear c48; have hm10_2 := Aside0.mk trivial
                all_goals
                 first
                  | clear hm10_0; have H' := Aside0.mk H; clear H; obtain ⟨hczzg1, hczzg2, hfzzg1, hfzzg2⟩ := bq2 BK132
                    go_wp2_with (first | ((with_reducible refine gate_callee (f := 78) rfl ?_); refine goesL_ (some 53) rfl rfl Tryz.func78 (by kernel_rfl) rfl #[.agg #[.slice A0_0 l0_0.length c0_0, .slice A0_1 l0_1.length c0_1], .int .i64 x48_3] rfl any_s ?_; (with_reducible refine (chart_airway.calls k3 _ _ l0_0 _ _ l0_1 x48_3 t138 _ ?side1 ?side2 ?side3 ?side4 A49.out).mono ?_); (case side1 => exact cb_s (Kd.C_below HR0_0.out HB.out)); (case side2 => exact HC0_0.out); (case side3 => exact cb_s (Kd.C_below HR0_1.out HB.out)); (case side4 => exact HC0_1.out); rintro e wxf2d11 ⟨rfl, hb⟩; refine ⟨_, rfl, ?_⟩; replace BK132 := kp BK132 hb; replace HB := st HB hb))
                    go_roundg k3
                    case measure => have := HJ1.out; have := HK2.out; have := HK3.out; omega
                    case rel => exact ⟨(wrap64 (x48_3 + 1)), rs_, H', ⟨by have := HJ1.out; have := HK2.out; have := HK3.out; omega⟩, ⟨blk_s⟩, ⟨bel_s⟩⟩
                  | (first | (have _hm := hm10_1) | (have _hm := hm10_2))
                    obtain rfl := Option.some.inj H
                    first
                     | clear hm10_1; obtain ⟨hczzg1, hczzg2, hfzzg1, hfzzg2⟩ := bq2 BK132
                       go_wp2_with (first | ((with_reducible refine gate_callee (f := 78) rfl ?_); refine goesL_ (some 53) rfl rfl Tryz.func78 (by kernel_rfl) rfl #[.agg #[.slice A0_0 l0_0.length c0_0, .slice A0_1 l0_1.length c0_1], .int .i64 x48_3] rfl any_s ?_; (with_reducible refine (chart_airway.calls k3 _ _ l0_0 _ _ l0_1 x48_3 t138 _ ?side1 ?side2 ?side3 ?side4 A49.out).mono ?_); (case side1 => exact cb_s (Kd.C_below HR0_0.out HB.out)); (case side2 => exact HC0_0.out); (case side3 => exact cb_s (Kd.C_below HR0_1.out HB.out)); (case side4 => exact HC0_1.out); rintro e wxf2d11 ⟨rfl, hb⟩; refine ⟨_, rfl, ?_⟩; replace BK132 := kp BK132 hb; replace HB := st HB hb))
                       go_ret
                       exact ⟨er_, bel_s⟩
                     | clear hm10_2; go_wp2; go_ret
                       exact ⟨er_, bel_s⟩
def api_Fix_79.f (l0 : List (S84)) (p : (S84) → Bool) : Option Bool := some (l0.any p)
theorem api_Fix_79.calls (A0 : Option Addr) (c0 : Nat) (l0 : List (S84)) (p : (S84) → Bool) {F : Value} (r : Bool) (w : World) (hr0 : Kd.C k84 w A0 l0.length l0) (hc0 : l0.length ≤ c0) (hp : IdxF.Pred Tryz.prog k84 true F p w) (h : api_Fix_79.f l0 p = some r) :
    Calls Tryz.prog 79 #[.slice A0 l0.length c0, F] w fun e w' => e = .returned (.bool r) ∧ Below w.heap.size w w' := by
  obtain rfl := Option.some.inj h; clear h; rw [← IdxF.idx_any]; have hi := api_Fix_37.calls A0 c0 l0 p (IdxF.idx p l0) w hr0 hc0 hp rfl; obtain ⟨g, lb, rfl, eg, hp⟩ := hp; have e6 : ∀ args w, (callFunc 37 args).run Tryz.prog w = .ok (.enter 37 args) w := enters_of Tryz.func37 (by kernel_rfl) rfl; go_enter Tryz.func79, Tryz.ntmps79; go_wp2_with (go_at_call 37; refine hi.mono ?_; rintro e w' ⟨rfl, hb'⟩); go_ret; exact ⟨rfl, hb'⟩
def route_isFix_1.p (s : ByteArray) (x : S84) : Bool := decide (x.f0 = s)
theorem route_isFix_1.pred {s : ByteArray} {b ty : Nat} {w : World} (hb : w.heap[b]? = some (.cells #[.string s] ty (0, 0))) : IdxF.Pred Tryz.prog k84 true (.func (.func 80) #[] #[.pointer (some ⟨b, 0, none⟩)]) (route_isFix_1.p s) w := by
  refine ⟨80, _, rfl, enters_of Tryz.func80 (by kernel_rfl) rfl, fun W x cs hW hK => ?_⟩; obtain rfl := k84_open hK; have hbW := blk_below hb hW; have hc : W.cell? ⟨b, 0, none⟩ = some (.string s) := (blk_cell hbW 0).trans rfl; have hlt := blk_lt hbW; clear hb hbW hW; unfold route_isFix_1.p; change Calls Tryz.prog 80 #[.agg #[.string x.f0, .int .i64 x.f1.f0, .int .i64 x.f1.f1], .pointer (some ⟨b, 0, none⟩)] W _; generalize x.f0 = x0; go_enter Tryz.func80, Tryz.ntmps80; go_wp2; go_ret
  exact ⟨by first | rfl | (rw [IdxF.str_eq]; rfl), below_alloc (Below.refl _ _) _⟩
def route_isFix.f (l0_0 : List (S84)) (l0_1 : List (S139)) (a1 : ByteArray) : Option (Bool) := (api_Fix_79.f l0_0 (route_isFix_1.p a1)).bind fun t141 => (some t141)
theorem route_isFix.calls (A0_0 : Option Addr) (c0_0 : Nat) (l0_0 : List (S84)) (A0_1 : Option Addr) (c0_1 : Nat) (l0_1 : List (S139)) (a1 : ByteArray) (r : Bool) (w : World) (hr0_0 : Kd.C k84 w A0_0 l0_0.length l0_0) (hc0_0 : l0_0.length ≤ c0_0) (hr0_1 : Kd.C k139 w A0_1 l0_1.length l0_1) (hc0_1 : l0_1.length ≤ c0_1) (h : route_isFix.f l0_0 l0_1 a1 = some r) :
    Calls Tryz.prog 34 #[.agg #[.slice A0_0 l0_0.length c0_0, .slice A0_1 l0_1.length c0_1], .string a1] w fun e w' => e = .returned (.bool r) ∧ Below w.heap.size w w' := by
 have hu43 := Tryz.underlying43; have HR0_0 := Aside0.mk hr0_0; have HC0_0 := Aside0.mk hc0_0; clear hr0_0 hc0_0; have HR0_1 := Aside0.mk hr0_1; have HC0_1 := Aside0.mk hc0_1; clear hr0_1 hc0_1; have HB := Aside0.mk (Below.refl w.heap.size w); have H := h; unfold route_isFix.f at H; clear h; replace H := Option.bind_eq_some_iff.mp H; obtain ⟨t141, A30, H⟩ := H; (try dsimp only at H); have A3 := Aside0.mk A30; clear A30; obtain rfl := Option.some.inj H; go_enter Tryz.func34, Tryz.ntmps34
 go_wp2_with (first | ((with_reducible refine gate_dst (N := 2) rfl ?_); refine box_s #[.slice A0_0 l0_0.length c0_0, .slice A0_1 l0_1.length c0_1] 43 ?_; intro gb139 hg w4 hbox hb; have BK139 := Aside0.mk (hbox); have GW139 := ge HB hg; have GE139 := ge HB hg; replace HB := st HB hb; clear hb hbox hg) | ((with_reducible refine gate_dst (N := 3) rfl ?_); refine box_s #[.string a1] 9 ?_; intro gb140 hg w5 hbox hb; have BK140 := Aside0.mk (hbox); have GW140 := ge HB hg; have GE140 := ge HB hg; replace HB := st HB hb; have NB139_140 := nl BK139 hg; have NB140_139 := nr BK139 hg; replace BK139 := kp BK139 hb; clear hb hbox hg; have hnb6 := NB139_140.out; have hnc6 := NB140_139.out; obtain ⟨hcz7_0, hcz7_1, hfz7_0, hfz7_1⟩ := bq2 BK139) | ((with_reducible refine gate_callee (f := 79) rfl ?_); refine goesL_ (some 8) rfl rfl Tryz.func79 (by kernel_rfl) rfl #[.slice A0_0 l0_0.length c0_0, .func (.func 80) #[] #[.pointer (some ⟨gb140, 0, none⟩)]] rfl any_s ?_; (with_reducible refine (api_Fix_79.calls _ _ l0_0 (route_isFix_1.p a1) t141 _ ?side1 ?side2 ?side3 A3.out).mono ?_); (case side1 => exact cb_s (Kd.C_below HR0_0.out HB.out)); (case side2 => exact HC0_0.out); (case side3 => exact route_isFix_1.pred blk_s); rintro e w8 ⟨rfl, hb⟩; refine ⟨_, rfl, ?_⟩; replace BK139 := kp BK139 hb; replace BK140 := kp BK140 hb; replace HB := st HB hb))
 go_ret
 exact ⟨er_, bel_s⟩
def route_isAirway_1.p (s : ByteArray) (x : S139) : Bool := decide (x.f0 = s)
theorem route_isAirway_1.pred {s : ByteArray} {b ty : Nat} {w : World} (hb : w.heap[b]? = some (.cells #[.string s] ty (0, 0))) : IdxF.Pred Tryz.prog k139 true (.func (.func 108) #[] #[.pointer (some ⟨b, 0, none⟩)]) (route_isAirway_1.p s) w := by
  refine ⟨108, _, rfl, enters_of Tryz.func108 (by kernel_rfl) rfl, fun W x cs hW hK => ?_⟩; obtain ⟨A1, c1, rfl, _⟩ := k139_open hK; have hbW := blk_below hb hW; have hc : W.cell? ⟨b, 0, none⟩ = some (.string s) := (blk_cell hbW 0).trans rfl; have hlt := blk_lt hbW; clear hb hbW hW; unfold route_isAirway_1.p; change Calls Tryz.prog 108 #[.agg #[.string x.f0, .slice A1 x.f1.length c1], .pointer (some ⟨b, 0, none⟩)] W _; generalize x.f0 = x0; go_enter Tryz.func108, Tryz.ntmps108; go_wp2; go_ret
  exact ⟨by first | rfl | (rw [IdxF.str_eq]; rfl), below_alloc (Below.refl _ _) _⟩
def route_isAirway.f (l0_0 : List (S84)) (l0_1 : List (S139)) (a1 : ByteArray) : Option (Bool) := (api_Airway_105.f l0_1 (route_isAirway_1.p a1)).bind fun t144 => (some t144)
theorem route_isAirway.calls (A0_0 : Option Addr) (c0_0 : Nat) (l0_0 : List (S84)) (A0_1 : Option Addr) (c0_1 : Nat) (l0_1 : List (S139)) (a1 : ByteArray) (r : Bool) (w : World) (hr0_0 : Kd.C k84 w A0_0 l0_0.length l0_0) (hc0_0 : l0_0.length ≤ c0_0) (hr0_1 : Kd.C k139 w A0_1 l0_1.length l0_1) (hc0_1 : l0_1.length ≤ c0_1) (h : route_isAirway.f l0_0 l0_1 a1 = some r) :
    Calls Tryz.prog 81 #[.agg #[.slice A0_0 l0_0.length c0_0, .slice A0_1 l0_1.length c0_1], .string a1] w fun e w' => e = .returned (.bool r) ∧ Below w.heap.size w w' := by
 have hu43 := Tryz.underlying43; have HR0_0 := Aside0.mk hr0_0; have HC0_0 := Aside0.mk hc0_0; clear hr0_0 hc0_0; have HR0_1 := Aside0.mk hr0_1; have HC0_1 := Aside0.mk hc0_1; clear hr0_1 hc0_1; have HB := Aside0.mk (Below.refl w.heap.size w); have H := h; unfold route_isAirway.f at H; clear h; replace H := Option.bind_eq_some_iff.mp H; obtain ⟨t144, A30, H⟩ := H; (try dsimp only at H); have A3 := Aside0.mk A30; clear A30; obtain rfl := Option.some.inj H; go_enter Tryz.func81, Tryz.ntmps81
 go_wp2_with (first | ((with_reducible refine gate_dst (N := 2) rfl ?_); refine box_s #[.slice A0_0 l0_0.length c0_0, .slice A0_1 l0_1.length c0_1] 43 ?_; intro gb142 hg w4 hbox hb; have BK142 := Aside0.mk (hbox); have GW142 := ge HB hg; have GE142 := ge HB hg; replace HB := st HB hb; clear hb hbox hg) | ((with_reducible refine gate_dst (N := 3) rfl ?_); refine box_s #[.string a1] 9 ?_; intro gb143 hg w5 hbox hb; have BK143 := Aside0.mk (hbox); have GW143 := ge HB hg; have GE143 := ge HB hg; replace HB := st HB hb; have NB142_143 := nl BK142 hg; have NB143_142 := nr BK142 hg; replace BK142 := kp BK142 hb; clear hb hbox hg; have hnb6 := NB142_143.out; have hnc6 := NB143_142.out; obtain ⟨hcz7_0, hcz7_1, hfz7_0, hfz7_1⟩ := bq2 BK142) | ((with_reducible refine gate_callee (f := 105) rfl ?_); refine goesL_ (some 8) rfl rfl Tryz.func105 (by kernel_rfl) rfl #[.slice A0_1 l0_1.length c0_1, .func (.func 108) #[] #[.pointer (some ⟨gb143, 0, none⟩)]] rfl any_s ?_; (with_reducible refine (api_Airway_105.calls _ _ l0_1 (route_isAirway_1.p a1) t144 _ ?side1 ?side2 ?side3 A3.out).mono ?_); (case side1 => exact cb_s (Kd.C_below HR0_1.out HB.out)); (case side2 => exact HC0_1.out); (case side3 => exact route_isAirway_1.pred blk_s); rintro e w8 ⟨rfl, hb⟩; refine ⟨_, rfl, ?_⟩; replace BK142 := kp BK142 hb; replace BK143 := kp BK143 hb; replace HB := st HB hb))
 go_ret
 exact ⟨er_, bel_s⟩
def chart_Between_1.p (s : ByteArray) (x : S139) : Bool := decide (x.f0 = s)
theorem chart_Between_1.pred {s : ByteArray} {b ty : Nat} {w : World} (hb : w.heap[b]? = some (.cells #[.string s] ty (0, 0))) : IdxF.Pred Tryz.prog k139 true (.func (.func 110) #[] #[.pointer (some ⟨b, 0, none⟩)]) (chart_Between_1.p s) w := by
  refine ⟨110, _, rfl, enters_of Tryz.func110 (by kernel_rfl) rfl, fun W x cs hW hK => ?_⟩; obtain ⟨A1, c1, rfl, _⟩ := k139_open hK; have hbW := blk_below hb hW; have hc : W.cell? ⟨b, 0, none⟩ = some (.string s) := (blk_cell hbW 0).trans rfl; have hlt := blk_lt hbW; clear hb hbW hW; unfold chart_Between_1.p; change Calls Tryz.prog 110 #[.agg #[.string x.f0, .slice A1 x.f1.length c1], .pointer (some ⟨b, 0, none⟩)] W _; generalize x.f0 = x0; go_enter Tryz.func110, Tryz.ntmps110; go_wp2; go_ret
  exact ⟨by first | rfl | (rw [IdxF.str_eq]; rfl), below_alloc (Below.refl _ _) _⟩
def slices_Clone_string_string.f (l0 : List ByteArray) : Option (List ByteArray) := (some (([] : List ByteArray) : List ByteArray)).bind fun y145 => (if y145.length + l0.length < 8796093022208 then (some (y145 ++ l0)) else (none))
theorem slices_Clone_string_string.nil_ (A_ : Option Addr) (n_ c_ : Nat) (w_ : World) : (binOp .eql 37 (.slice A_ n_ c_) (.slice none 0 0)).run Tryz.prog w_ = .ok (.bool A_.isNone) w_ := by
  have hu := Tryz.underlying37; have hd : Op.maxDepth = (Op.maxDepth - 1) + 1 := rfl
  cases A_ <;> (simp only [binOp, Op.equal]; rw [hd]; simp [Op.equalIn, Sem.run_bind, run_underlying hu])
attribute [local go_sem high] slices_Clone_string_string.nil_
theorem slices_Clone_string_string.calls (A0 : Option Addr) (c0 : Nat) (l0 : List ByteArray) (r : List ByteArray) (w : World) (hr0 : Kd.C Kd.string w A0 l0.length l0) (hc0 : l0.length ≤ c0) (h : slices_Clone_string_string.f l0 = some r) :
    Calls Tryz.prog 112 #[.slice A0 l0.length c0] w fun e w' => ∃ v0_ : Value, e = .returned (v0_) ∧ Kd.R Kd.string 9 w' w.heap.size (fun _ => True) v0_ r ∧ Below w.heap.size w w' := by
  have hu_ := Tryz.underlying37
  obtain rfl | ⟨ad0_, hA0_⟩ : A0 = none ∨ ∃ ad_, A0 = some ad_ := by
    cases A0 with
    | none => exact Or.inl rfl
    | some a_ => exact Or.inr ⟨a_, rfl⟩
  · have hl0_ : l0 = [] := by
      cases l0 with
      | nil => rfl
      | cons x_ xs_ => obtain ⟨ad_, e_, _⟩ := hr0.2.2 (by simp); cases e_
    subst hl0_
    have hr_ : r = [] := by
      unfold slices_Clone_string_string.f at h
      simpa using h.symm
    subst hr_; go_enter Tryz.func112, Tryz.ntmps112
    try go_wp2
    go_ret; exact ⟨_, rfl, Kd.R_nil _ _ _ _ _, Below.refl _ _⟩
  · subst hA0_; have HR0 := Aside0.mk hr0; have HC0 := Aside0.mk hc0; clear hr0 hc0; have HB := Aside0.mk (Below.refl w.heap.size w); have H := h; unfold slices_Clone_string_string.f at H; clear h; obtain ⟨y145, hy145⟩ : ∃ y_ : List ByteArray, y_ = (([] : List ByteArray)) := ⟨_, rfl⟩
    replace H : (if y145.length + l0.length < 8796093022208 then (some (y145 ++ l0)) else (none)) = some r := by first | (rw [hy145]; with_reducible exact H) | (have H2_ := (Option.bind_some _ _).symm.trans H; rw [hy145]; with_reducible exact H2_) | (have H2_ := (Option.bind_some _ _).symm.trans H; with_reducible exact H2_) | with_reducible exact H | (rw [hy145]; exact H) | exact H
    have Ny145 := Aside0.mk hy145; clear hy145
    by_cases c2 : y145.length + l0.length < 8796093022208
    · rw [if_pos c2] at H; have LMc2 := Aside0.mk c2; clear c2; obtain ⟨y148, hy148⟩ : ∃ y_ : List ByteArray, y_ = (y145 ++ l0) := ⟨_, rfl⟩
      replace H : (some y148) = some r := by first | (rw [hy148]; with_reducible exact H) | (have H2_ := (Option.bind_some _ _).symm.trans H; rw [hy148]; with_reducible exact H2_) | (have H2_ := (Option.bind_some _ _).symm.trans H; with_reducible exact H2_) | with_reducible exact H | (rw [hy148]; exact H) | exact H
      have Ny148 := Aside0.mk hy148; clear hy148; obtain rfl := Option.some.inj H; go_enter Tryz.func112, Tryz.ntmps112
      go_wp2_with (first | ((with_reducible refine gate_dst (N := 5) rfl ?_); refine Kd.R_lit Kd.string _ 9 ?hg (N := 5) ?hd (xs := ([] : List ByteArray)) (inner := []) (ok := fun _ => True) (okp := fun _ => True) ?hr ?hp (fun _ hk => hk) trivial (Below.refl _ _) (Nat.le_refl _) (by simp) ?_; (case hd => rfl); (case hg => rfl); (case hr => first | (go_simp; done) | (go_simp; rfl)); (case hp => exact (Reps.none _ _)); intro v146 w3 ho4 hb hg_ hnew_; clear hg_ hnew_; (first | rw [← Ny145.out] at ho4 | (simp only [Int.reduceToNat] at ho4; rw [← Ny145.out] at ho4)); have HO147 := Aside0.mk (Kd.R_lower ho4 bz_s); replace HB := st HB hb; clear hb ho4) | ((with_reducible refine gate_builtin (b := .append) (xs := #[.tmp 5, .tmp 6]) rfl ?_); at_builtin; refine Kd.R_append_rows Kd.string (w0 := w) w.heap.size rfl (.tmp 5) (.tmp 6) 37 9 (.string ⟨#[]⟩) 16 rfl Tryz.underlying37 info9 rfl (by decide) (by omega) v146 y145 l0 _ _ _ (fun _ => True) (fun _ => False) rfl rfl ?aO ?aR (fun _ _ h => h) (fun _ h => h.elim) ?aF ?aB ?aS ?aL ?_; (case aR => exact cb_s (Kd.C_below HR0.out HB.out)); (case aB => exact bel_s); (case aF => exact (fun _ _ => trivial)); (case aO => exact (by (with_reducible repeat (first | apply Kd.R_alloc | apply Kd.R_drewN | apply Kd.R_drew)); exact HO147.out)); (case aS => exact bz_s); (case aL => have := LMc2.out; omega); intro v149 w5 ho hb hg hat; rw [← Ny148.out] at ho; replace HB := Aside0.mk (hb); have HO150 := Aside0.mk (ho); clear HO147; clear ho hb hg hat))
      go_ret
      exact ⟨_, er_, by (with_reducible repeat (first | apply Kd.R_alloc | apply Kd.R_drewN | apply Kd.R_drew)); exact HO150.out, bel_s⟩
    · rw [if_neg c2] at H; exact absurd H (by simp)
def slices_Reverse_string_string.l0 : Nat → List ByteArray → Int → Int → Option (List ByteArray)
  | 0, _, _, _ => none
  | k + 1, x0, x2, x3 => if x2 < x3 then (if 0 ≤ x3 then (if x3 < (x0.length : Int) then (if 0 ≤ x2 then (if x2 < (x0.length : Int) then (slices_Reverse_string_string.l0 k ((x0.set (x2 : Int).toNat (rdOf ByteArray.empty x0 x3)).set (x3 : Int).toNat (rdOf ByteArray.empty x0 x2)) (wrap64 (x2 + 1)) (wrap64 (x3 - 1))) else (none)) else (none)) else (none)) else (none)) else (some x0)
def slices_Reverse_string_string.f (k : Nat) (l0 : List ByteArray) : Option (List ByteArray) := slices_Reverse_string_string.l0 k l0 0 (wrap64 ((l0.length : Int) - 1))
theorem slices_Reverse_string_string.mono_l : ∀ k, (∀ y0 y1 y2, LeO (slices_Reverse_string_string.l0 k y0 y1 y2) (slices_Reverse_string_string.l0 (k + 1) y0 y1 y2))
  | 0 => fun _ _ _ r h => by simp [slices_Reverse_string_string.l0] at h
  | k + 1 => by
    have ih0 := slices_Reverse_string_string.mono_l k
    · intro y0 y1 y2; unfold slices_Reverse_string_string.l0
      repeat' with_reducible first | apply ih0 | apply LeO.refl | apply LeO.none | apply LeO.ite | refine LeO.bind ?_ (fun _ => ?_)
theorem slices_Reverse_string_string.mono : ∀ a0 k, LeO (slices_Reverse_string_string.f k a0) (slices_Reverse_string_string.f (k + 1) a0) := by
  intro a0 k; have ih0 := slices_Reverse_string_string.mono_l k; unfold slices_Reverse_string_string.f
  repeat' with_reducible first | apply ih0 | apply LeO.refl | apply LeO.none | apply LeO.ite | refine LeO.bind ?_ (fun _ => ?_)
def slices_Reverse_string_string.T3 : Bool × List (List Nat × List Nat) := (true, [([], []), ([], []), ([], []), ([], []), ([], []), ([], []), ([4, 5], [4, 5]), ([6], [6]), ([], []), ([], []), ([8, 9], [8, 9]), ([10], [10]), ([0, 1, 0, 1, 4, 5, 6, 7, 11], [0, 1]), ([12, 7, 0, 1, 4, 5, 6, 7, 11], [7, 12]), ([2, 3, 0, 1, 2, 3, 4, 5, 6, 7, 8, 9, 10, 11, 12, 13], [2, 3]), ([14, 11, 13, 0, 1, 2, 3, 4, 5, 6, 7, 8, 9, 10, 11, 12, 13], [11, 14])])
def slices_Reverse_string_string.B3 : List Nat := [0, 0, 0, 0, 0, 0, 48, 112, 0, 0, 768, 1792, 4083, 8179, 16383, 32767]
theorem slices_Reverse_string_string.tab3 : rtab .any (opsOf Tryz.f113 3) = slices_Reverse_string_string.T3 := by kernel_rfl
theorem slices_Reverse_string_string.bits3 : waitsOk slices_Reverse_string_string.T3.2 slices_Reverse_string_string.B3 = true := by kernel_rfl
theorem slices_Reverse_string_string.calls (k : Nat) (P0_ : Nat → Prop) (u9000_ : Value) (l0 : List ByteArray) (r : List ByteArray) (w0 w : World) (hB : Below w0.heap.size w0 w) (ho0 : Kd.R Kd.string 9 w w0.heap.size P0_ u9000_ l0) (h : slices_Reverse_string_string.f k l0 = some r) :
    Calls Tryz.prog 113 #[u9000_] w fun e w' => e = .returned (.tuple #[]) ∧ Kd.R Kd.string 9 w' w0.heap.size (fun k_ => (P0_ k_ ∨ w.heap.size ≤ k_)) u9000_ r ∧ Below w0.heap.size w0 w' ∧ Kept w w' (fun k_ => P0_ k_) := by
 have HO0 := Aside0.mk (show Kd.R Kd.string 9 w w0.heap.size (fun k_ => (P0_ k_ ∨ w.heap.size ≤ k_)) u9000_ l0 from Kd.R_mono ho0 (fun k_ hk => (.inl hk))); have HK := Aside0.mk (Kept.refl w (fun k_ => P0_ k_)); have HW0 := Aside0.mk hB.size; have HB := Aside0.mk hB; clear hB; have H := h; unfold slices_Reverse_string_string.f at H; clear h; have H' := Aside0.mk H; clear H; obtain ⟨Ao2, co2, eo2⟩ := Kd.R_slice HO0.out; subst eo2; go_enter Tryz.func113, Tryz.ntmps113; go_wp2; go_loopg [2, 3] k (fun kq v2 v3 w' => ∃ (x0_1 : List ByteArray) (x2_1 : Int) (x3_1 : Int), v2 = .int .i64 x2_1 ∧ v3 = .int .i64 x3_1 ∧ Aside0 (slices_Reverse_string_string.l0 kq x0_1 x2_1 x3_1 = some r) ∧ Aside0 (kq ≤ k) ∧ Aside0 (Kd.R Kd.string 9 w' w0.heap.size (fun k_ => (P0_ k_ ∨ w.heap.size ≤ k_)) (.slice Ao2 l0.length co2) x0_1) ∧ Aside0 (Kept w w' (fun k_ => P0_ k_)) ∧ Aside0 (Below w0.heap.size w0 w'))
 case atStart => exact ⟨(l0), (0), (wrap64 ((l0.length : Int) - 1)), rs_, rs_, H', ⟨Nat.le_refl _⟩, ⟨ro_ HO0⟩, ⟨by repeat (first | (with_reducible first | exact HK.out | apply Kept.alloc | apply Kept.drewN | apply Kept.drew) | exact HK.out)⟩, ⟨bel_s⟩⟩
 case round =>
  clear H'
  obtain ⟨x0_1, x2_1, x3_1, rfl, rfl, HA, HK1, HO_0, HK, HB⟩ := hrel; have hl0_1 := (Kd.R_reads' HO_0.out).1; rw [hl0_1] at HO_0
  (try simp only [hl0_1])
  cases gk with
  | zero => exact absurd HA.out (by simp [slices_Reverse_string_string.l0])
  | succ k1 =>
   have H := HA.out; clear HA; simp only [slices_Reverse_string_string.l0] at H
   by_cases c3 : x2_1 < x3_1
   · rw [if_pos c3] at H; have c3b0 := decide_eq_true c3; clear c3
     obtain ⟨c4b0, H⟩ := ip_ H
     by_cases c5 : x3_1 < (x0_1.length : Int)
     · rw [if_pos c5] at H; have c5b0 := decide_eq_true c5
       (try (have c5b0_hl0_1 := c5b0; simp only [hl0_1] at c5b0_hl0_1))
       clear c5
       obtain ⟨c6b0, H⟩ := ip_ H
       by_cases c7 : x2_1 < (x0_1.length : Int)
       · rw [if_pos c7] at H; have c7b0 := decide_eq_true c7
         (try (have c7b0_hl0_1 := c7b0; simp only [hl0_1] at c7b0_hl0_1))
         clear c7; obtain ⟨y153, hy153⟩ : ∃ y_ : List ByteArray, y_ = (x0_1.set (x2_1 : Int).toNat (rdOf ByteArray.empty x0_1 x3_1)) := ⟨_, rfl⟩
         replace H : (slices_Reverse_string_string.l0 k1 (y153.set (x3_1 : Int).toNat (rdOf ByteArray.empty x0_1 x2_1)) (wrap64 (x2_1 + 1)) (wrap64 (x3_1 - 1))) = some r := by first | (rw [hy153]; with_reducible exact H) | (have H2_ := (Option.bind_some _ _).symm.trans H; rw [hy153]; with_reducible exact H2_) | (have H2_ := (Option.bind_some _ _).symm.trans H; with_reducible exact H2_) | with_reducible exact H | (rw [hy153]; exact H) | exact H
         have Ny153 := Aside0.mk hy153; clear hy153; obtain ⟨y154, hy154⟩ : ∃ y_ : List ByteArray, y_ = (y153.set (x3_1 : Int).toNat (rdOf ByteArray.empty x0_1 x2_1)) := ⟨_, rfl⟩
         replace H : (slices_Reverse_string_string.l0 k1 y154 (wrap64 (x2_1 + 1)) (wrap64 (x3_1 - 1))) = some r := by first | (rw [hy154]; with_reducible exact H) | (have H2_ := (Option.bind_some _ _).symm.trans H; rw [hy154]; with_reducible exact H2_) | (have H2_ := (Option.bind_some _ _).symm.trans H; with_reducible exact H2_) | with_reducible exact H | (rw [hy154]; exact H) | exact H
         have Ny154 := Aside0.mk hy154; clear hy154; have H' := Aside0.mk H; clear H
         try go_wp2
         replace HO_0 := Aside0.mk (Kd.R_drew HO_0.out); replace HK := Aside0.mk (Kept.drew HK.out); replace HB := Aside0.mk (below_drew1 HB.out)
         have p151 : 0 ≤ (x3_1 : Int) := od_
         have q151 : x3_1 < (x0_1.length : Int) := od_
         obtain ⟨ad151, e151, hx151_0⟩ := Kd.at_string (Kd.R_reads' HO_0.out).2.2 x3_1 p151 q151; cases e151; replace p151 := eq_true p151; replace q151 := eq_true q151
         have p152 : 0 ≤ (x2_1 : Int) := od_
         have q152 : x2_1 < (x0_1.length : Int) := od_
         obtain ⟨ad152, e152, hx152_0⟩ := Kd.at_string (Kd.R_reads' HO_0.out).2.2 x2_1 p152 q152; obtain rfl : ad151 = ad152 := (by injection e152); replace p152 := eq_true p152; replace q152 := eq_true q152
         have p8 : 0 ≤ (x2_1 : Int) := od_
         have q8 : (x2_1 : Int) < ((x0_1.length : Int) : Int) := od_
         obtain ⟨go8, cozc1, eozc1, gb8, gl8, cl8, HG8⟩ := Kd.R_form HO_0.out (by omega)
         (first | cases eozc1 | (injection eozc1 with ea_ en_ ec_; (first | subst ea_ | (injection ea_ with ea_; subst ea_)); subst ec_; clear en_))
         have GB8 := Aside0.mk gb8; have GG8 := Aside0.mk HG8; clear gb8 gl8 HG8; have HMgo8 := Aside0.mk (show (P0_ go8 ∨ w.heap.size ≤ go8) from (HO_0.out.1 _ rfl))
         (first | simp only [add_plain] at hx151_0 | skip)
         (first | simp only [add_plain] at hx152_0 | skip)
         obtain ⟨hx8_0, hf8_0⟩ := Kd.R_celln (⟨#[]⟩ : ByteArray) HO_0.out (x2_1 : Int) p8 q8; replace p8 := eq_true p8; replace q8 := eq_true q8; have HP11 := Kd.R_putn HO_0.out (x2_1 : Int) (rdOf ByteArray.empty x0_1 x3_1); rw [← Ny153.out] at HP11; have HQ11 := Aside0.mk HP11; clear HP11
         have p9 : 0 ≤ (x3_1 : Int) := od_
         have q9 : (x3_1 : Int) < ((x0_1.length : Int) : Int) := od_
         obtain ⟨hx9_0, hf9_0⟩ := Kd.R_celln (⟨#[]⟩ : ByteArray) HQ11.out (x3_1 : Int) p9 q9; replace p9 := eq_true p9; replace q9 := eq_true q9; have HP12 := Kd.R_putn HQ11.out (x3_1 : Int) (rdOf ByteArray.empty x0_1 x2_1); rw [← Ny154.out] at HP12; have HQ12 := Aside0.mk HP12; clear HP12; refine start_ (n := 16) (S := fun w' => w'.cell? ⟨go8, (x3_1).toNat, none⟩ = some (.string (rdOf ByteArray.empty x0_1 x3_1)) ∧ w'.cell? ⟨go8, (x2_1).toNat, none⟩ = some (.string (rdOf ByteArray.empty x0_1 x2_1))) (ds := [13, 15]) #[false, false, false, false, false, false, false, false, false, false, false, false, false, false, false, false] (by kernel_rfl) rfl rfl ⟨hx151_0, hx152_0⟩ (fun hHeld => ?_); refine with_tabW slices_Reverse_string_string.tab3 slices_Reverse_string_string.bits3 (fun HT_ HW_ => ?_); generalize wr.drew = wzc1 at HO_0 HK HB GG8 HQ11 HQ12 hf8_0 hf9_0 hx151_0 hx152_0 hx8_0 hx9_0 hHeld ⊢; refine pu_ 0 14 HT_ (h := ?_); refine pu_ 1 15 HT_ (h := ?_); refine pu_ 2 16 HT_ (h := ?_); refine pu_ 3 17 HT_ (h := ?_); refine pu_ 4 18 HT_ (h := ?_); refine pu_ 5 19 HT_ (h := ?_); refine pu_ 6 20 HT_ (h := ?_); refine pu_ 8 22 HT_ (h := ?_); refine pu_ 9 23 HT_ (h := ?_); refine pu_ 10 24 HT_ (h := ?_); refine tk_ 7 21 HT_ HW_ hHeld (h := ?_); refine tk_ 11 25 HT_ HW_ hHeld (h := ?_); refine pu_ 12 26 HT_ (h := ?_); refine last_ (i := 13) (N := none) #[true, true, true, true, true, true, true, true, true, true, true, true, true, true, false, false] rfl rfl (one_of HT_.out (by kernel_rfl)) (by decide) (fun K hK => ?_)
         (with_reducible refine skip_ (w1 := ?_) ?hA_ ?hB_ ?_ ?_); (case hA_ => rfl); (case hB_ => rfl)
         rotate_left
         · go_simp; rfl
         refine hK.out _ _ ?_; clear hK K; refine pu_ 14 27 HT_ (h := ?_); refine last_ (i := 15) (N := none) #[true, true, true, true, true, true, true, true, true, true, true, true, true, true, true, true] rfl rfl (one_of HT_.out (by kernel_rfl)) (by decide) (fun K hK => ?_)
         (with_reducible refine skip_ (w1 := ?_) ?hA_ ?hB_ ?_ ?_); (case hA_ => rfl); (case hB_ => rfl)
         rotate_left
         · go_simp; rfl
         refine hK.out _ _ ?_; clear hK K; refine done_ (done_of HT_.out (by kernel_rfl)) ?_
         try go_wp2
         (try simp only [← hl0_1])
         go_roundg k1
         case measure => have := HK1.out; omega
         case rel => exact ⟨(y154), (wrap64 (x2_1 + 1)), (wrap64 (x3_1 - 1)), rs_, rs_, H', ⟨by have := HK1.out; omega⟩, ⟨by (try simp only [hl0_1]); (with_reducible repeat (first | apply Kd.R_alloc | apply Kd.R_drewN | apply Kd.R_drew)); exact HQ12.out⟩, ⟨by repeat (first | (with_reducible first | exact HK.out | apply Kept.alloc | apply Kept.drewN | apply Kept.drew | refine Kept.setCell ?_ HMgo8.out _ | refine Kept.setCell ?_ HMgo8.out _) | exact HK.out)⟩, ⟨bel_s⟩⟩
       · rw [if_neg c7] at H; exact absurd H (by simp)
     · rw [if_neg c5] at H; exact absurd H (by simp)
   · rw [if_neg c3] at H; have c3b0 := decide_eq_false c3; clear c3; obtain rfl := Option.some.inj H; go_wp2
     first | go_end0 | ((try simp only [Exit.inBlock, Exit.then]); refine bodyPost_ret (results_none rfl _ _ _) rfl ?_)
     exact ⟨er_, (by first | exact (by (with_reducible repeat (first | apply Kd.R_alloc | apply Kd.R_drewN | apply Kd.R_drew)); exact HO_0.out) | (simp only [hl0_1]; exact (by (with_reducible repeat (first | apply Kd.R_alloc | apply Kd.R_drewN | apply Kd.R_drew)); exact HO_0.out))), by repeat (first | (with_reducible first | exact HB.out | apply below_alloc | apply pw_below_drewN | apply below_drew1) | exact HB.out), by repeat (first | (with_reducible first | exact HK.out | apply Kept.alloc | apply Kept.drewN | apply Kept.drew) | exact HK.out)⟩
end Go.Proofs.YthpbpdobghceeaaGreatDoor.PFlyWinds
