/- Made by a program of this session (wip/tools/myprint.py, over the kit's printer): that the Go functions answer as the Lean functions printed beside them. -/
import Derived.Test.YtbpbpojnfhhbjaaTSq2
import Derived.Test.YtbpbpojnfhhbjaaPRouteCrossedx0
import Derived.Test.YtbpbpojnfhhbjaaPRouteCrossedx2
import Derived.Test.YtbpbpojnfhhbjaaPRouteCrossedx13
namespace Go.Proofs.Ytbpbpojnfhhbjaa.PRouteCrossed
open Go.RowKit Go.Proofs.YtbpbpojnfhhbjaaW.PrintWords Go.Proofs.YtbpbpojnfhhbjaaW.PrintLast Go.Proofs.YtbpbpojnfhhbjaaW.PrintMore
attribute [local go_sem] max2_int min2_int max_two min_two max_three min_three max_four min_four   -- for this text's walks alone
set_option linter.unusedVariables false
set_option linter.unusedSimpArgs false

/-! ### volume_Check: function 79 -/
def volume_Check.f (k : Nat) (l0_0 : List (S36)) (a0_1 : Int) (a0_2 : Int) : Option (Int) := (polygon_Check.f k l0_0).bind fun t360 => (if t360 = 0 then (if a0_1 < 0 then (some 4) else (if a0_2 > 60001 then (some 4) else (if a0_1 ≥ a0_2 then (some 4) else (some 0)))) else (some t360))
theorem volume_Check.mono : ∀ a0 a1 a2 k, LeO (volume_Check.f k a0 a1 a2) (volume_Check.f (k + 1) a0 a1 a2) := by
  intro a0 a1 a2 k; unfold volume_Check.f
  repeat' first
      | (with_reducible exact polygon_Check.mono _ _)
      | (with_reducible exact LeO.refl _)
      | (with_reducible exact LeO.none _)
      | (with_reducible refine LeO.ite ?_ ?_)
      | (with_reducible refine LeO.bind ?_ (fun _ => ?_))
      | exact polygon_Check.mono _ _
      | exact LeO.none _
      | refine LeO.ite ?_ ?_
      | refine LeO.bind ?_ (fun _ => ?_)
set_option maxHeartbeats 8000000 in
set_option maxRecDepth 100000 in
theorem volume_Check.calls (k : Nat) (A0_0 : Option Addr) (c0_0 : Nat) (l0_0 : List (S36)) (a0_1 : Int) (a0_2 : Int) (r : Int) (w : World) (hr0_0 : Kd.C k36 w A0_0 l0_0.length l0_0) (hc0_0 : l0_0.length ≤ c0_0) (h : volume_Check.f k l0_0 a0_1 a0_2 = some r) :
    Calls Try.prog 79 #[.agg #[.slice A0_0 l0_0.length c0_0, .int .i64 a0_1, .int .i64 a0_2]] w fun e w' => e = .returned (.int .i64 r) ∧ Below w.heap.size w w' := by
 have hu62 := Try.underlying62; have HR0_0 := Aside0.mk hr0_0; have HC0_0 := Aside0.mk hc0_0; clear hr0_0 hc0_0; have HB := Aside0.mk (Below.refl w.heap.size w); have H : ((polygon_Check.f k l0_0).bind fun t360 => (if t360 = 0 then (if a0_1 < 0 then (some 4) else (if a0_2 > 60001 then (some 4) else (if a0_1 ≥ a0_2 then (some 4) else (some 0)))) else (some t360))) = some r := h; clear h; replace H := Option.bind_eq_some_iff.mp H; obtain ⟨t360, A20, H⟩ := H; replace H : (if t360 = 0 then (if a0_1 < 0 then (some 4) else (if a0_2 > 60001 then (some 4) else (if a0_1 ≥ a0_2 then (some 4) else (some 0)))) else (some t360)) = some r := H; have A2 := Aside0.mk A20; clear A20; refine Or.elim (Classical.em (t360 = 0)) (fun c3 => ?p2_) (fun c3 => ?n2_)
 case' p2_ =>
  rw [if_pos c3] at H; have c3b0 : (t360 == 0) = true := beq_iff_eq.mpr c3; have c3b1 : (t360 != 0) = false := bne_eq_false_iff_eq.mpr c3; clear c3; refine Or.elim (Classical.em (a0_1 < 0)) (fun c4 => ?p3_) (fun c4 => ?n3_)
  case' p3_ =>
   rw [if_pos c4] at H; have c4b0 : decide (a0_1 < 0) = true := decide_eq_true c4; clear c4
  case' n3_ =>
   rw [if_neg c4] at H; have c4b0 : decide (a0_1 < 0) = false := decide_eq_false c4; clear c4; refine Or.elim (Classical.em (a0_2 > 60001)) (fun c9 => ?p4_) (fun c9 => ?n4_)
   case' p4_ =>
    rw [if_pos c9] at H; have c9b0 : decide (60001 < a0_2) = true := decide_eq_true c9; clear c9
   case' n4_ =>
    rw [if_neg c9] at H; have c9b0 : decide (60001 < a0_2) = false := decide_eq_false c9; clear c9; refine Or.elim (Classical.em (a0_1 ≥ a0_2)) (fun c14 => ?p5_) (fun c14 => ?n5_)
    case' p5_ =>
     rw [if_pos c14] at H; have c14b0 : decide (a0_2 ≤ a0_1) = true := decide_eq_true c14; clear c14
    case' n5_ =>
     rw [if_neg c14] at H; have c14b0 : decide (a0_2 ≤ a0_1) = false := decide_eq_false c14; clear c14
 case' n2_ =>
  rw [if_neg c3] at H; have c3b0 : (t360 == 0) = false := beq_eq_false_iff_ne.mpr c3; have c3b1 : (t360 != 0) = true := bne_iff_ne.mpr c3
 all_goals
  obtain rfl := Option.some.inj H; go_enter Try.func79, Try.ntmps79
  go_wp2_with (first | ((with_reducible refine gate_dst (N := 1) rfl ?_); refine box_s #[.slice A0_0 l0_0.length c0_0, .int .i64 a0_1, .int .i64 a0_2] 62 ?_; intro gb359 hg wxe8881 hbox hb; have n0_ := st HB hb; have n1_ := Aside0.mk (hbox); have n2_ := ge HB hg; have n3_ := ge HB hg; clear HB; have HB := n0_; have BK359 := n1_; have GW359 := n2_; have GE359 := n3_; clear n0_ n1_ n2_ n3_; clear hb hbox hg; have hczxe8881 : wxe8881.cell? ⟨gb359, 0, none⟩ = some (.slice A0_0 l0_0.length c0_0) := bc BK359 0; have hczxe8882 : wxe8881.cell? ⟨gb359, 1, none⟩ = some (.int .i64 a0_1) := bc BK359 1; have hczxe8883 : wxe8881.cell? ⟨gb359, 2, none⟩ = some (.int .i64 a0_2) := bc BK359 2; have hfzxe8881 := blk_frozen BK359.out 0; have hfzxe8882 := blk_frozen BK359.out 1; have hfzxe8883 := blk_frozen BK359.out 2) | ((with_reducible refine gate_callee (f := 72) rfl ?_); refine goesL_ (some 6) rfl rfl Try.func72 (by kernel_rfl) rfl #[.slice A0_0 l0_0.length c0_0] rfl any_s ?_; (with_reducible refine (polygon_Check.calls k _ _ l0_0 t360 _ ?side1 ?side2 A2.out).mono ?_); (case side1 => exact cb_s (Kd.C_below HR0_0.out HB.out)); (case side2 => exact HC0_0.out); rintro e wxf2961 ⟨rfl, hb⟩; refine ⟨_, rfl, ?_⟩; have n0_ := kp BK359 hb; have n1_ := st HB hb; clear BK359; clear HB; have BK359 := n0_; have HB := n1_; clear n0_ n1_; (try clear hb); (try clear hb2); (try clear hk); (try clear hi); have hczxf2961 : wxf2961.cell? ⟨gb359, 0, none⟩ = some (.slice A0_0 l0_0.length c0_0) := bc BK359 0; have hczxf2962 : wxf2961.cell? ⟨gb359, 1, none⟩ = some (.int .i64 a0_1) := bc BK359 1; have hczxf2963 : wxf2961.cell? ⟨gb359, 2, none⟩ = some (.int .i64 a0_2) := bc BK359 2; have hfzxf2961 := blk_frozen BK359.out 0; have hfzxf2962 := blk_frozen BK359.out 1; have hfzxf2963 := blk_frozen BK359.out 2) | ((with_reducible refine gate_callee (f := 72) rfl ?_); refine goesL_ (some 6) rfl rfl Try.func72 (by kernel_rfl) rfl #[.slice A0_0 l0_0.length c0_0] rfl any_s ?_; (with_reducible refine (polygon_Check.calls k _ _ l0_0 t360 _ ?side1 ?side2 A2.out).mono ?_); (case side1 => exact cb_s (Kd.C_below HR0_0.out HB.out)); (case side2 => exact HC0_0.out); rintro e wxdb841 ⟨rfl, hb⟩; refine ⟨_, rfl, ?_⟩; have n0_ := kp BK359 hb; have n1_ := st HB hb; clear BK359; clear HB; have BK359 := n0_; have HB := n1_; clear n0_ n1_; (try clear hb); (try clear hb2); (try clear hk); (try clear hi)))
  go_ret
  exact ⟨by first | rfl | (simp [errW_none, errW_some] <;> rfl) | (simp [*, errW_none, errW_some] <;> rfl), by repeat (first | (with_reducible first | exact HB.out | apply below_alloc | apply pw_below_drewN | apply below_drew1 | refine below_set ?_ GE359.out) | exact HB.out)⟩

/-! ### volume_CheckSpans: function 80 -/
def volume_CheckSpans.l0 : Nat → List (S140) → Int → Int → Option (Int)
  | 0, _, _, _ => none
  | k + 1, x8, x9, x10 => if x10 < x9 then (if 0 ≤ x10 then (if x10 < (x8.length : Int) then (if ((rd_T140 x8 x10).f0) < 0 then (some 12) else (if ((rd_T140 x8 x10).f1) > 200000 then (some 12) else (if ((rd_T140 x8 x10).f0) ≥ ((rd_T140 x8 x10).f1) then (some 12) else (volume_CheckSpans.l0 k x8 x9 (wrap64 (x10 + 1)))))) else (none)) else (none)) else (some 0)
def volume_CheckSpans.f (k : Nat) (l0 : List (S140)) : Option (Int) := if (l0.length : Int) > 256 then (some 2) else (volume_CheckSpans.l0 k l0 (l0.length : Int) 0)
theorem volume_CheckSpans.mono_l : ∀ k, (∀ y0 y1 y2, LeO (volume_CheckSpans.l0 k y0 y1 y2) (volume_CheckSpans.l0 (k + 1) y0 y1 y2))
  | 0 => fun _ _ _ r h => by simp [volume_CheckSpans.l0] at h
  | k + 1 => by
    have ih0 := volume_CheckSpans.mono_l k
    · intro y0 y1 y2; unfold volume_CheckSpans.l0
      repeat' first
      | (with_reducible exact ih0 _ _ _)
      | (with_reducible exact LeO.refl _)
      | (with_reducible exact LeO.none _)
      | (with_reducible refine LeO.ite ?_ ?_)
      | (with_reducible refine LeO.bind ?_ (fun _ => ?_))
      | exact ih0 _ _ _
      | exact LeO.none _
      | refine LeO.ite ?_ ?_
      | refine LeO.bind ?_ (fun _ => ?_)
theorem volume_CheckSpans.mono : ∀ a0 k, LeO (volume_CheckSpans.f k a0) (volume_CheckSpans.f (k + 1) a0) := by
  intro a0 k; have ih0 := volume_CheckSpans.mono_l k; unfold volume_CheckSpans.f
  repeat' first
      | (with_reducible exact ih0 _ _ _)
      | (with_reducible exact LeO.refl _)
      | (with_reducible exact LeO.none _)
      | (with_reducible refine LeO.ite ?_ ?_)
      | (with_reducible refine LeO.bind ?_ (fun _ => ?_))
      | exact ih0 _ _ _
      | exact LeO.none _
      | refine LeO.ite ?_ ?_
      | refine LeO.bind ?_ (fun _ => ?_)
set_option maxHeartbeats 8000000 in
set_option maxRecDepth 100000 in
theorem volume_CheckSpans.calls (k : Nat) (A0 : Option Addr) (c0 : Nat) (l0 : List (S140)) (r : Int) (w : World) (hr0 : Kd.C k140 w A0 l0.length l0) (hc0 : l0.length ≤ c0) (h : volume_CheckSpans.f k l0 = some r) :
    Calls Try.prog 80 #[.slice A0 l0.length c0] w fun e w' => e = .returned (.int .i64 r) ∧ Below w.heap.size w w' := by
 have hu140 := Try.underlying140; have HR0 := Aside0.mk hr0; have HC0 := Aside0.mk hc0; clear hr0 hc0; have HB := Aside0.mk (Below.refl w.heap.size w); have H : (if (l0.length : Int) > 256 then (some 2) else (volume_CheckSpans.l0 k l0 (l0.length : Int) 0)) = some r := h; clear h
 by_cases c2 : (l0.length : Int) > 256
 · rw [if_pos c2] at H; have c2b0 : decide (256 < (l0.length : Int)) = true := decide_eq_true c2; have c2b1 : decide (256 < l0.length) = true := decide_eq_true (by omega); clear c2; obtain rfl := Option.some.inj H; go_enter Try.func80, Try.ntmps80; go_wp2; go_ret
   exact ⟨by first | rfl | (simp [errW_none, errW_some] <;> rfl) | (simp [*, errW_none, errW_some] <;> rfl), by repeat (first | (with_reducible first | exact HB.out | apply below_alloc | apply pw_below_drewN | apply below_drew1) | exact HB.out)⟩
 · rw [if_neg c2] at H; have c2b0 : decide (256 < (l0.length : Int)) = false := decide_eq_false c2; have c2b1 : decide (256 < l0.length) = false := decide_eq_false (by omega); clear c2; have H' := Aside0.mk H; clear H; go_enter Try.func80, Try.ntmps80; go_wp2; go_loopg [10] k (fun kq v10 w' => ∃ (x10_1 : Int), v10 = .int .i64 x10_1 ∧ Aside0 (volume_CheckSpans.l0 kq l0 (l0.length : Int) x10_1 = some r) ∧ Aside0 (kq ≤ k) ∧ Aside0 (Below w.heap.size w w'))
   case atStart => exact ⟨(0), (by first | rfl | (simp; done) | (simp [*]; done)), H', ⟨Nat.le_refl _⟩, ⟨by repeat (first | (with_reducible first | exact HB.out | apply below_alloc | apply pw_below_drewN | apply below_drew1) | exact HB.out)⟩⟩
   case round =>
    clear H'
    (try clear c2); (try clear c2b0); (try clear c2b1); (try clear p2)
    obtain ⟨x10_1, rfl, HA, HK1, HB⟩ := hrel
    cases gk with
    | zero => exact absurd HA.out (by simp [volume_CheckSpans.l0])
    | succ k1 =>
     have H := HA.out; clear HA; simp only [volume_CheckSpans.l0] at H; refine Or.elim (Classical.em (x10_1 < (l0.length : Int))) (fun c3 => ?p2_) (fun c3 => ?n2_)
     case' p2_ =>
      rw [if_pos c3] at H; have c3b0 : decide (x10_1 < (l0.length : Int)) = true := decide_eq_true c3; clear c3; refine Or.elim (Classical.em (0 ≤ x10_1)) (fun c4 => ?p3_) (fun c4 => ?n3_)
      case' p3_ =>
       rw [if_pos c4] at H; have c4b0 : decide (0 ≤ x10_1) = true := decide_eq_true c4; clear c4; refine Or.elim (Classical.em (x10_1 < (l0.length : Int))) (fun c5 => ?p4_) (fun c5 => ?n4_)
       case' p4_ =>
        rw [if_pos c5] at H; have c5b0 : decide (x10_1 < (l0.length : Int)) = true := decide_eq_true c5; clear c5; refine Or.elim (Classical.em (((rd_T140 l0 x10_1).f0) < 0)) (fun c6 => ?p5_) (fun c6 => ?n5_)
        case' p5_ =>
         rw [if_pos c6] at H; have c6b0 : decide (((rd_T140 l0 x10_1).f0) < 0) = true := decide_eq_true c6; clear c6; have hm1_0 := Aside0.mk trivial
        case' n5_ =>
         rw [if_neg c6] at H; have c6b0 : decide (((rd_T140 l0 x10_1).f0) < 0) = false := decide_eq_false c6; clear c6; refine Or.elim (Classical.em (((rd_T140 l0 x10_1).f1) > 200000)) (fun c9 => ?p6_) (fun c9 => ?n6_)
         case' p6_ =>
          rw [if_pos c9] at H; have c9b0 : decide (200000 < ((rd_T140 l0 x10_1).f1)) = true := decide_eq_true c9; clear c9; have hm1_0 := Aside0.mk trivial
         case' n6_ =>
          rw [if_neg c9] at H; have c9b0 : decide (200000 < ((rd_T140 l0 x10_1).f1)) = false := decide_eq_false c9; clear c9; refine Or.elim (Classical.em (((rd_T140 l0 x10_1).f0) ≥ ((rd_T140 l0 x10_1).f1))) (fun c12 => ?p7_) (fun c12 => ?n7_)
          case' p7_ =>
           rw [if_pos c12] at H; have c12b0 : decide (((rd_T140 l0 x10_1).f1) ≤ ((rd_T140 l0 x10_1).f0)) = true := decide_eq_true c12; clear c12; have hm1_0 := Aside0.mk trivial
          case' n7_ =>
           rw [if_neg c12] at H; have c12b0 : decide (((rd_T140 l0 x10_1).f1) ≤ ((rd_T140 l0 x10_1).f0)) = false := decide_eq_false c12; clear c12; have hm1_1 := Aside0.mk trivial
       case' n4_ =>
        rw [if_neg c5] at H; exact absurd H (by simp)
      case' n3_ =>
       rw [if_neg c4] at H; exact absurd H (by simp)
     case' n2_ =>
      rw [if_neg c3] at H; have c3b0 : decide (x10_1 < (l0.length : Int)) = false := decide_eq_false c3; clear c3; have hm1_2 := Aside0.mk trivial
     all_goals
      first
       | (first | (have _hm := hm1_0) | (have _hm := hm1_2))
         obtain rfl := Option.some.inj H
         first
          | clear hm1_0
            have p361 : 0 ≤ (x10_1 : Int) := of_decide_eq_true (by first | (with_reducible assumption) | assumption)
            have q361 : x10_1 < (l0.length : Int) := of_decide_eq_true (by first | (with_reducible assumption) | assumption)
            obtain ⟨ad361, e361, hx361_0, hx361_1⟩ := at_T140 HR0.out x10_1 p361 q361; cases e361; replace hx361_0 := cl HB hx361_0; replace hx361_1 := cl HB hx361_1; replace p361 := eq_true p361; replace q361 := eq_true q361
            go_wp2_with (first | ((with_reducible refine gate_dst (N := 4) rfl ?_); refine box_s #[.int .i64 0, .int .i64 0] 140 ?_; intro gb362 hg wx44311 hbox hb; have n0_ := st HB hb; have n1_ := Aside0.mk (hbox); have n2_ := ge HB hg; have n3_ := ge HB hg; clear HB; have HB := n0_; have BK362 := n1_; have GW362 := n2_; have GE362 := n3_; clear n0_ n1_ n2_ n3_; clear hb hbox hg; have hczx44311 : wx44311.cell? ⟨gb362, 0, none⟩ = some (.int .i64 0) := bc BK362 0; have hczx44312 : wx44311.cell? ⟨gb362, 1, none⟩ = some (.int .i64 0) := bc BK362 1; have hfzx44311 := blk_frozen BK362.out 0; have hfzx44312 := blk_frozen BK362.out 1))
            go_ret
            exact ⟨by first | rfl | (simp [errW_none, errW_some] <;> rfl) | (simp [*, errW_none, errW_some] <;> rfl), by repeat (first | (with_reducible first | exact HB.out | apply below_alloc | apply pw_below_drewN | apply below_drew1 | refine below_set ?_ GE362.out) | exact HB.out)⟩
          | clear hm1_2; go_wp2; go_ret
            exact ⟨by first | rfl | (simp [errW_none, errW_some] <;> rfl) | (simp [*, errW_none, errW_some] <;> rfl), by repeat (first | (with_reducible first | exact HB.out | apply below_alloc | apply pw_below_drewN | apply below_drew1) | exact HB.out)⟩
       | clear hm1_1; have H' := Aside0.mk H; clear H
         have p361 : 0 ≤ (x10_1 : Int) := of_decide_eq_true (by first | (with_reducible assumption) | assumption)
         have q361 : x10_1 < (l0.length : Int) := of_decide_eq_true (by first | (with_reducible assumption) | assumption)
         obtain ⟨ad361, e361, hx361_0, hx361_1⟩ := at_T140 HR0.out x10_1 p361 q361; cases e361; replace hx361_0 := cl HB hx361_0; replace hx361_1 := cl HB hx361_1; replace p361 := eq_true p361; replace q361 := eq_true q361
         go_wp2_with (first | ((with_reducible refine gate_dst (N := 4) rfl ?_); refine box_s #[.int .i64 0, .int .i64 0] 140 ?_; intro gb362 hg wx44311 hbox hb; have n0_ := st HB hb; have n1_ := Aside0.mk (hbox); have n2_ := ge HB hg; have n3_ := ge HB hg; clear HB; have HB := n0_; have BK362 := n1_; have GW362 := n2_; have GE362 := n3_; clear n0_ n1_ n2_ n3_; clear hb hbox hg; have hczx44311 : wx44311.cell? ⟨gb362, 0, none⟩ = some (.int .i64 0) := bc BK362 0; have hczx44312 : wx44311.cell? ⟨gb362, 1, none⟩ = some (.int .i64 0) := bc BK362 1; have hfzx44311 := blk_frozen BK362.out 0; have hfzx44312 := blk_frozen BK362.out 1))
         go_roundg k1
         case measure => have := HK1.out; omega
         case rel => exact ⟨(wrap64 (x10_1 + 1)), (by first | rfl | (simp; done) | (simp [*]; done)), H', ⟨by have := HK1.out; omega⟩, ⟨by repeat (first | (with_reducible first | exact HB.out | apply below_alloc | apply pw_below_drewN | apply below_drew1 | refine below_set ?_ GE362.out) | exact HB.out)⟩⟩

/-! ### api_RouteVolume_138: function 138 -/
/-- Where a predicate holds first. -/
def api_RouteVolume_138.f (l0 : List (S65)) (p : (S65) → Bool) : Option Int := some (IdxF.idx p l0)
set_option maxHeartbeats 8000000 in
set_option maxRecDepth 100000 in
theorem api_RouteVolume_138.calls (A0 : Option Addr) (c0 : Nat) (l0 : List (S65)) (p : (S65) → Bool) {F : Value} (r : Int) (w : World) (hr0 : Kd.C k65 w A0 l0.length l0) (hc0 : l0.length ≤ c0) (hp : IdxF.Pred Try.prog k65 true F p w) (h : api_RouteVolume_138.f l0 p = some r) :
    Calls Try.prog 138 #[.slice A0 l0.length c0, F] w fun e w' => e = .returned (.int .i64 r) ∧ Below w.heap.size w w' := by
  obtain ⟨g, lb, rfl, eg, hp⟩ := hp; obtain rfl := Option.some.inj h; clear h; have hbig := hr0.2.1; go_enter Try.func138, Try.ntmps138; go_wp2; go_loopg [5, 8] l0.length (fun gg _ s8 wr => ∃ kk : Nat, kk ≤ l0.length ∧ l0.length - kk ≤ gg ∧ s8 = .int .i64 kk ∧ Aside0 (Below w.heap.size w wr) ∧ Aside0 (∀ j (h : j < l0.length), j < kk → p l0[j] = false))
  case atStart => exact ⟨0, Nat.zero_le _, by omega, rfl, ⟨Below.refl _ w⟩, ⟨fun j _ hj => absurd hj (Nat.not_lt_zero _)⟩⟩
  case round =>
    obtain ⟨kk, hkk, hg, rfl, BW, AJ⟩ := hrel
    by_cases hlt : kk < l0.length
    · have hltz : (kk : Int) < (l0.length : Int) := by omega
      obtain ⟨ad, cs, rfl, hlen, hK, hcell⟩ := Kd.C_get (Kd.C_below hr0 BW.out) z65 (kk : Int) (by omega) hltz
      have hx : l0.getD (kk : Int).toNat z65 = l0[kk] := by rw [Int.toNat_natCast, List.getD_eq_getElem?_getD, List.getElem?_eq_getElem hlt]; rfl
      rw [hx] at hK; obtain ⟨v0_, v1_, v2_, v3_, v4_, rfl⟩ := IdxF.len5 hlen
      have hx0_ : wr.cell? (ad.add (kk * 5)) = some v0_ := by first | exact hcell 0 v0_ rfl | simpa using hcell 0 v0_ rfl | (have h_ := hcell 0 v0_ rfl; rw [show k65.sz = 1 from rfl, Nat.mul_one] at h_; simpa using h_)
      have hx1_ : wr.cell? ⟨(ad.add (kk * 5)).block, (ad.add (kk * 5)).off + 1, none⟩ = some v1_ := by rw [← add_field _ _ 1 (by omega)]; exact hcell 1 _ rfl
      have hx2_ : wr.cell? ⟨(ad.add (kk * 5)).block, (ad.add (kk * 5)).off + 2, none⟩ = some v2_ := by rw [← add_field _ _ 2 (by omega)]; exact hcell 2 _ rfl
      have hx3_ : wr.cell? ⟨(ad.add (kk * 5)).block, (ad.add (kk * 5)).off + 3, none⟩ = some v3_ := by rw [← add_field _ _ 3 (by omega)]; exact hcell 3 _ rfl
      have hx4_ : wr.cell? ⟨(ad.add (kk * 5)).block, (ad.add (kk * 5)).off + 4, none⟩ = some v4_ := by rw [← add_field _ _ 4 (by omega)]; exact hcell 4 _ rfl
      have hcall : Calls Try.prog g (#[.agg #[v0_, v1_, v2_, v3_, v4_]] ++ lb) wr fun e w' => e = .returned (.bool (p l0[kk])) ∧ Below wr.heap.size wr w' := by have h_ := hp wr l0[kk] [v0_, v1_, v2_, v3_, v4_] BW.out hK; exact h_
      clear hcell hx hp hK hlen
      cases hq : p l0[kk] with
      | true =>
        rw [hq] at hcall; go_wp2_with (go_at_fn g; refine hcall.mono ?_; rintro e w' ⟨rfl, hb'⟩); go_ret; refine ⟨?_, below_step BW.out hb'⟩; rw [IdxF.idx_hit p l0 hlt hq (fun j h => AJ.out j _ h)]; rfl
      | false =>
        rw [hq] at hcall; go_wp2_with (go_at_fn g; refine hcall.mono ?_; rintro e w' ⟨rfl, hb'⟩); go_roundg (l0.length - (kk + 1))
        case measure => omega
        case rel =>
          refine ⟨kk + 1, by omega, by omega, by go_num, ⟨below_step BW.out hb'⟩, ⟨fun j h hj => ?_⟩⟩
          by_cases e : j = kk
          · subst e; exact hq
          · exact AJ.out j h (by omega)
    · have hltz : ¬ (kk : Int) < (l0.length : Int) := by omega
      go_wp2; go_ret; refine ⟨?_, BW.out⟩; rw [IdxF.idx_miss p l0 (fun j h => AJ.out j h (by omega))]; rfl

/-! ### api_RouteVolume_103: function 103 -/
/-- Whether a predicate holds somewhere. -/
def api_RouteVolume_103.f (l0 : List (S65)) (p : (S65) → Bool) : Option Bool := some (l0.any p)
set_option maxHeartbeats 8000000 in
set_option maxRecDepth 100000 in
theorem api_RouteVolume_103.calls (A0 : Option Addr) (c0 : Nat) (l0 : List (S65)) (p : (S65) → Bool) {F : Value} (r : Bool) (w : World) (hr0 : Kd.C k65 w A0 l0.length l0) (hc0 : l0.length ≤ c0) (hp : IdxF.Pred Try.prog k65 true F p w) (h : api_RouteVolume_103.f l0 p = some r) :
    Calls Try.prog 103 #[.slice A0 l0.length c0, F] w fun e w' => e = .returned (.bool r) ∧ Below w.heap.size w w' := by
  obtain rfl := Option.some.inj h; clear h; rw [← IdxF.idx_any]; have hi := api_RouteVolume_138.calls A0 c0 l0 p (IdxF.idx p l0) w hr0 hc0 hp rfl; obtain ⟨g, lb, rfl, eg, hp⟩ := hp; have e6 : ∀ args w, (callFunc 138 args).run Try.prog w = .ok (.enter 138 args) w := enters_of Try.func138 (by kernel_rfl) rfl; go_enter Try.func103, Try.ntmps103; go_wp2_with (go_at_call 138; refine hi.mono ?_; rintro e w' ⟨rfl, hb'⟩); go_ret; exact ⟨rfl, hb'⟩

/-! ### route_CheckVolumes_1: function 104 -/
/-- Whether an element has this name. -/
def route_CheckVolumes_1.p (s : ByteArray) (_l : List S36) (_a _b : Int) (_q : List S140) (x : S65) : Bool := decide (x.f0 = s)
set_option maxHeartbeats 8000000 in
set_option maxRecDepth 100000 in
theorem route_CheckVolumes_1.pred {s : ByteArray} {l : List S36} {a a' : Int} {q : List S140} {v v1 v2 v3 : Value} {b ty : Nat} {w : World} (hb : w.heap[b]? = some (.cells #[.string s, v, v1, v2, v3] ty (0, 0))) : IdxF.Pred Try.prog k65 true (.func (.func 104) #[] #[.pointer (some ⟨b, 0, none⟩)]) (route_CheckVolumes_1.p s l a a' q) w := by
  refine ⟨104, _, rfl, enters_of Try.func104 (by kernel_rfl) rfl, fun W x cs hW hK => ?_⟩; obtain ⟨A1, c1, A4, c4, rfl, _⟩ := k65_open hK; have hbW := blk_below hb hW; have hc : W.cell? ⟨b, 0, none⟩ = some (.string s) := (blk_cell hbW 0).trans rfl; have hlt := blk_lt hbW; clear hb hbW hW; unfold route_CheckVolumes_1.p; change Calls Try.prog 104 #[.agg #[.string x.f0, .slice A1 x.f1.f0.length c1, .int .i64 x.f1.f1, .int .i64 x.f1.f2, .slice A4 x.f2.length c4], .pointer (some ⟨b, 0, none⟩)] W _; generalize x.f0 = x0; go_enter Try.func104, Try.ntmps104; go_wp2; go_ret
  exact ⟨by first | rfl | (rw [IdxF.str_eq]; rfl), below_alloc (Below.refl _ _) _⟩

/-! ### route_CheckVolumes: function 70 -/
def route_CheckVolumes.l0 : Nat → List (S65) → List (S65) → Int → Int → Option (Int)
  | 0, _, _, _, _ => none
  | k + 1, x0, x10, x11, x12 => if x12 < x11 then (if 0 ≤ x12 then (if x12 < (x10.length : Int) then ((chart_Name.f k ((rd_T65 x10 x12).f0)).bind fun t365 => (if t365 = true then (if x12 ≤ (x0.length : Int) then ((api_RouteVolume_103.f (x0.take (x12 : Int).toNat) (route_CheckVolumes_1.p ((rd_T65 x10 x12).f0) ((rd_T65 x10 x12).f1.f0) ((rd_T65 x10 x12).f1.f1) ((rd_T65 x10 x12).f1.f2) ((rd_T65 x10 x12).f2))).bind fun t370 => (if t370 = true then (some 7) else ((volume_Check.f k ((rd_T65 x10 x12).f1.f0) ((rd_T65 x10 x12).f1.f1) ((rd_T65 x10 x12).f1.f2)).bind fun t371 => (if t371 = 0 then ((volume_CheckSpans.f k ((rd_T65 x10 x12).f2)).bind fun t372 => (if t372 = 0 then (route_CheckVolumes.l0 k x0 x10 x11 (wrap64 (x12 + 1))) else (some t372))) else (some t371))))) else (none)) else (some 5))) else (none)) else (none)) else (some 0)
def route_CheckVolumes.f (k : Nat) (l0 : List (S65)) : Option (Int) := if (l0.length : Int) > 16 then (some 2) else (route_CheckVolumes.l0 k l0 l0 (l0.length : Int) 0)
theorem route_CheckVolumes.mono_l : ∀ k, (∀ y0 y1 y2 y3, LeO (route_CheckVolumes.l0 k y0 y1 y2 y3) (route_CheckVolumes.l0 (k + 1) y0 y1 y2 y3))
  | 0 => fun _ _ _ _ r h => by simp [route_CheckVolumes.l0] at h
  | k + 1 => by
    have ih0 := route_CheckVolumes.mono_l k
    · intro y0 y1 y2 y3; unfold route_CheckVolumes.l0
      repeat' first
      | (with_reducible exact ih0 _ _ _ _)
      | (with_reducible exact chart_Name.mono _ _)
      | (with_reducible exact volume_Check.mono _ _ _ _)
      | (with_reducible exact volume_CheckSpans.mono _ _)
      | (with_reducible exact LeO.refl _)
      | (with_reducible exact LeO.none _)
      | (with_reducible refine LeO.ite ?_ ?_)
      | (with_reducible refine LeO.bind ?_ (fun _ => ?_))
      | exact ih0 _ _ _ _
      | exact chart_Name.mono _ _
      | exact volume_Check.mono _ _ _ _
      | exact volume_CheckSpans.mono _ _
      | exact LeO.none _
      | refine LeO.ite ?_ ?_
      | refine LeO.bind ?_ (fun _ => ?_)
theorem route_CheckVolumes.mono : ∀ a0 k, LeO (route_CheckVolumes.f k a0) (route_CheckVolumes.f (k + 1) a0) := by
  intro a0 k; have ih0 := route_CheckVolumes.mono_l k; unfold route_CheckVolumes.f
  repeat' first
      | (with_reducible exact ih0 _ _ _ _)
      | (with_reducible exact chart_Name.mono _ _)
      | (with_reducible exact volume_Check.mono _ _ _ _)
      | (with_reducible exact volume_CheckSpans.mono _ _)
      | (with_reducible exact LeO.refl _)
      | (with_reducible exact LeO.none _)
      | (with_reducible refine LeO.ite ?_ ?_)
      | (with_reducible refine LeO.bind ?_ (fun _ => ?_))
      | exact ih0 _ _ _ _
      | exact chart_Name.mono _ _
      | exact volume_Check.mono _ _ _ _
      | exact volume_CheckSpans.mono _ _
      | exact LeO.none _
      | refine LeO.ite ?_ ?_
      | refine LeO.bind ?_ (fun _ => ?_)
set_option maxHeartbeats 8000000 in
set_option maxRecDepth 100000 in
theorem route_CheckVolumes.calls (k : Nat) (A0 : Option Addr) (c0 : Nat) (l0 : List (S65)) (r : Int) (w : World) (hr0 : Kd.C k65 w A0 l0.length l0) (hc0 : l0.length ≤ c0) (h : route_CheckVolumes.f k l0 = some r) :
    Calls Try.prog 70 #[.slice A0 l0.length c0] w fun e w' => e = .returned (.int .i64 r) ∧ Below w.heap.size w w' := by
 have hu65 := Try.underlying65; have hu62 := Try.underlying62; have HR0 := Aside0.mk hr0; have HC0 := Aside0.mk hc0; clear hr0 hc0; have HB := Aside0.mk (Below.refl w.heap.size w); have H : (if (l0.length : Int) > 16 then (some 2) else (route_CheckVolumes.l0 k l0 l0 (l0.length : Int) 0)) = some r := h; clear h
 by_cases c2 : (l0.length : Int) > 16
 · rw [if_pos c2] at H; have c2b0 : decide (16 < (l0.length : Int)) = true := decide_eq_true c2; have c2b1 : decide (16 < l0.length) = true := decide_eq_true (by omega); clear c2; obtain rfl := Option.some.inj H; go_enter Try.func70, Try.ntmps70; go_wp2; go_ret
   exact ⟨by first | rfl | (simp [errW_none, errW_some] <;> rfl) | (simp [*, errW_none, errW_some] <;> rfl), by repeat (first | (with_reducible first | exact HB.out | apply below_alloc | apply pw_below_drewN | apply below_drew1) | exact HB.out)⟩
 · rw [if_neg c2] at H; have c2b0 : decide (16 < (l0.length : Int)) = false := decide_eq_false c2; have c2b1 : decide (16 < l0.length) = false := decide_eq_false (by omega); clear c2; have H' := Aside0.mk H; clear H; go_enter Try.func70, Try.ntmps70; go_wp2; go_loopg [12] k (fun kq v12 w' => ∃ (x12_1 : Int), v12 = .int .i64 x12_1 ∧ Aside0 (route_CheckVolumes.l0 kq l0 l0 (l0.length : Int) x12_1 = some r) ∧ Aside0 (kq ≤ k) ∧ Aside0 (Below w.heap.size w w'))
   case atStart => exact ⟨(0), (by first | rfl | (simp; done) | (simp [*]; done)), H', ⟨Nat.le_refl _⟩, ⟨by repeat (first | (with_reducible first | exact HB.out | apply below_alloc | apply pw_below_drewN | apply below_drew1) | exact HB.out)⟩⟩
   case round =>
    clear H'
    (try clear c2); (try clear c2b0); (try clear c2b1); (try clear p2)
    obtain ⟨x12_1, rfl, HA, HK1, HB⟩ := hrel
    cases gk with
    | zero => exact absurd HA.out (by simp [route_CheckVolumes.l0])
    | succ k1 =>
     have H := HA.out; clear HA; simp only [route_CheckVolumes.l0] at H; refine Or.elim (Classical.em (x12_1 < (l0.length : Int))) (fun c3 => ?p2_) (fun c3 => ?n2_)
     case' p2_ =>
      rw [if_pos c3] at H; have c3b0 : decide (x12_1 < (l0.length : Int)) = true := decide_eq_true c3; clear c3; refine Or.elim (Classical.em (0 ≤ x12_1)) (fun c4 => ?p3_) (fun c4 => ?n3_)
      case' p3_ =>
       rw [if_pos c4] at H; have c4b0 : decide (0 ≤ x12_1) = true := decide_eq_true c4; clear c4; refine Or.elim (Classical.em (x12_1 < (l0.length : Int))) (fun c5 => ?p4_) (fun c5 => ?n4_)
       case' p4_ =>
        rw [if_pos c5] at H; have c5b0 : decide (x12_1 < (l0.length : Int)) = true := decide_eq_true c5; clear c5; replace H := Option.bind_eq_some_iff.mp H; obtain ⟨t365, A60, H⟩ := H; replace H : (if t365 = true then (if x12_1 ≤ (l0.length : Int) then ((api_RouteVolume_103.f (l0.take (x12_1 : Int).toNat) (route_CheckVolumes_1.p ((rd_T65 l0 x12_1).f0) ((rd_T65 l0 x12_1).f1.f0) ((rd_T65 l0 x12_1).f1.f1) ((rd_T65 l0 x12_1).f1.f2) ((rd_T65 l0 x12_1).f2))).bind fun t370 => (if t370 = true then (some 7) else ((volume_Check.f k1 ((rd_T65 l0 x12_1).f1.f0) ((rd_T65 l0 x12_1).f1.f1) ((rd_T65 l0 x12_1).f1.f2)).bind fun t371 => (if t371 = 0 then ((volume_CheckSpans.f k1 ((rd_T65 l0 x12_1).f2)).bind fun t372 => (if t372 = 0 then (route_CheckVolumes.l0 k1 l0 l0 (l0.length : Int) (wrap64 (x12_1 + 1))) else (some t372))) else (some t371))))) else (none)) else (some 5)) = some r := H; have A6 := Aside0.mk A60; clear A60; refine Or.elim (Classical.em (t365 = true)) (fun c7 => ?p5_) (fun c7 => ?n5_)
        case' p5_ =>
         subst c7
         have H1 : (if x12_1 ≤ (l0.length : Int) then ((api_RouteVolume_103.f (l0.take (x12_1 : Int).toNat) (route_CheckVolumes_1.p ((rd_T65 l0 x12_1).f0) ((rd_T65 l0 x12_1).f1.f0) ((rd_T65 l0 x12_1).f1.f1) ((rd_T65 l0 x12_1).f1.f2) ((rd_T65 l0 x12_1).f2))).bind fun t370 => (if t370 = true then (some 7) else ((volume_Check.f k1 ((rd_T65 l0 x12_1).f1.f0) ((rd_T65 l0 x12_1).f1.f1) ((rd_T65 l0 x12_1).f1.f2)).bind fun t371 => (if t371 = 0 then ((volume_CheckSpans.f k1 ((rd_T65 l0 x12_1).f2)).bind fun t372 => (if t372 = 0 then (route_CheckVolumes.l0 k1 l0 l0 (l0.length : Int) (wrap64 (x12_1 + 1))) else (some t372))) else (some t371))))) else (none)) = some r := by rw [if_pos rfl] at H; exact H
         clear H; have H := H1; clear H1
         have c8b0 := eq_true (of_decide_eq_true (by first | (with_reducible assumption) | assumption) : 0 ≤ x12_1)
         refine Or.elim (Classical.em (x12_1 ≤ (l0.length : Int))) (fun c9 => ?p6_) (fun c9 => ?n6_)
         case' p6_ =>
          rw [if_pos c9] at H; have c9b0 := eq_true c9; have c9b1 : decide (x12_1 ≤ (l0.length : Int)) = true := decide_eq_true c9; clear c9; obtain ⟨y366, hy366⟩ : ∃ y_ : List (S65), y_ = (l0.take (x12_1 : Int).toNat) := ⟨_, rfl⟩
          replace H : ((api_RouteVolume_103.f y366 (route_CheckVolumes_1.p ((rd_T65 l0 x12_1).f0) ((rd_T65 l0 x12_1).f1.f0) ((rd_T65 l0 x12_1).f1.f1) ((rd_T65 l0 x12_1).f1.f2) ((rd_T65 l0 x12_1).f2))).bind fun t370 => (if t370 = true then (some 7) else ((volume_Check.f k1 ((rd_T65 l0 x12_1).f1.f0) ((rd_T65 l0 x12_1).f1.f1) ((rd_T65 l0 x12_1).f1.f2)).bind fun t371 => (if t371 = 0 then ((volume_CheckSpans.f k1 ((rd_T65 l0 x12_1).f2)).bind fun t372 => (if t372 = 0 then (route_CheckVolumes.l0 k1 l0 l0 (l0.length : Int) (wrap64 (x12_1 + 1))) else (some t372))) else (some t371))))) = some r := by first | (rw [hy366]; with_reducible exact H) | (have H2_ := (Option.bind_some _ _).symm.trans H; rw [hy366]; with_reducible exact H2_) | (have H2_ := (Option.bind_some _ _).symm.trans H; with_reducible exact H2_) | with_reducible exact H | (rw [hy366]; exact H) | exact H
          have Ny366 := Aside0.mk hy366; clear hy366; replace H := Option.bind_eq_some_iff.mp H; obtain ⟨t370, A100, H⟩ := H; replace H : (if t370 = true then (some 7) else ((volume_Check.f k1 ((rd_T65 l0 x12_1).f1.f0) ((rd_T65 l0 x12_1).f1.f1) ((rd_T65 l0 x12_1).f1.f2)).bind fun t371 => (if t371 = 0 then ((volume_CheckSpans.f k1 ((rd_T65 l0 x12_1).f2)).bind fun t372 => (if t372 = 0 then (route_CheckVolumes.l0 k1 l0 l0 (l0.length : Int) (wrap64 (x12_1 + 1))) else (some t372))) else (some t371)))) = some r := H; have A10 := Aside0.mk A100; clear A100; refine Or.elim (Classical.em (t370 = true)) (fun c11 => ?p7_) (fun c11 => ?n7_)
          case' p7_ =>
           subst c11
           have H1 : (some 7) = some r := by rw [if_pos rfl] at H; exact H
           clear H; have H := H1; clear H1; have hm1_0 := Aside0.mk trivial
          case' n7_ =>
           replace c11 := Bool.eq_false_iff.mpr c11; subst c11
           have H1 : ((volume_Check.f k1 ((rd_T65 l0 x12_1).f1.f0) ((rd_T65 l0 x12_1).f1.f1) ((rd_T65 l0 x12_1).f1.f2)).bind fun t371 => (if t371 = 0 then ((volume_CheckSpans.f k1 ((rd_T65 l0 x12_1).f2)).bind fun t372 => (if t372 = 0 then (route_CheckVolumes.l0 k1 l0 l0 (l0.length : Int) (wrap64 (x12_1 + 1))) else (some t372))) else (some t371))) = some r := by rw [if_neg (show ¬ (false = true) by decide)] at H; exact H
           clear H; have H := H1; clear H1; replace H := Option.bind_eq_some_iff.mp H; obtain ⟨t371, A170, H⟩ := H; replace H : (if t371 = 0 then ((volume_CheckSpans.f k1 ((rd_T65 l0 x12_1).f2)).bind fun t372 => (if t372 = 0 then (route_CheckVolumes.l0 k1 l0 l0 (l0.length : Int) (wrap64 (x12_1 + 1))) else (some t372))) else (some t371)) = some r := H; have A17 := Aside0.mk A170; clear A170; refine Or.elim (Classical.em (t371 = 0)) (fun c18 => ?p8_) (fun c18 => ?n8_)
           case' p8_ =>
            rw [if_pos c18] at H; have c18b0 : (t371 == 0) = true := beq_iff_eq.mpr c18; have c18b1 : (t371 != 0) = false := bne_eq_false_iff_eq.mpr c18; clear c18; replace H := Option.bind_eq_some_iff.mp H; obtain ⟨t372, A190, H⟩ := H; replace H : (if t372 = 0 then (route_CheckVolumes.l0 k1 l0 l0 (l0.length : Int) (wrap64 (x12_1 + 1))) else (some t372)) = some r := H; have A19 := Aside0.mk A190; clear A190; refine Or.elim (Classical.em (t372 = 0)) (fun c20 => ?p9_) (fun c20 => ?n9_)
            case' p9_ =>
             rw [if_pos c20] at H; have c20b0 : (t372 == 0) = true := beq_iff_eq.mpr c20; have c20b1 : (t372 != 0) = false := bne_eq_false_iff_eq.mpr c20; clear c20; have hm1_1 := Aside0.mk trivial
            case' n9_ =>
             rw [if_neg c20] at H; have c20b0 : (t372 == 0) = false := beq_eq_false_iff_ne.mpr c20; have c20b1 : (t372 != 0) = true := bne_iff_ne.mpr c20; have hm1_0 := Aside0.mk trivial
           case' n8_ =>
            rw [if_neg c18] at H; have c18b0 : (t371 == 0) = false := beq_eq_false_iff_ne.mpr c18; have c18b1 : (t371 != 0) = true := bne_iff_ne.mpr c18; have hm1_0 := Aside0.mk trivial
         case' n6_ =>
          rw [if_neg c9] at H; exact absurd H (by simp)
        case' n5_ =>
         replace c7 := Bool.eq_false_iff.mpr c7; subst c7
         have H1 : (some 5) = some r := by rw [if_neg (show ¬ (false = true) by decide)] at H; exact H
         clear H; have H := H1; clear H1; have hm1_0 := Aside0.mk trivial
       case' n4_ =>
        rw [if_neg c5] at H; exact absurd H (by simp)
      case' n3_ =>
       rw [if_neg c4] at H; exact absurd H (by simp)
     case' n2_ =>
      rw [if_neg c3] at H; have c3b0 : decide (x12_1 < (l0.length : Int)) = false := decide_eq_false c3; clear c3; have hm1_2 := Aside0.mk trivial
     all_goals
      first
       | (first | (have _hm := hm1_0) | (have _hm := hm1_2))
         obtain rfl := Option.some.inj H
         first
          | clear hm1_0
            have p363 : 0 ≤ (x12_1 : Int) := of_decide_eq_true (by first | (with_reducible assumption) | assumption)
            have q363 : x12_1 < (l0.length : Int) := of_decide_eq_true (by first | (with_reducible assumption) | assumption)
            obtain ⟨ad363, A363_1, c363_1, A363_4, c363_4, e363, hx363_0, hx363_1, hx363_2, hx363_3, hx363_4, hl363_1, hi363_1, hl363_4, hi363_4⟩ := at_T65 HR0.out x12_1 p363 q363; cases e363; replace hx363_0 := cl HB hx363_0; replace hx363_1 := cl HB hx363_1; replace hx363_2 := cl HB hx363_2; replace hx363_3 := cl HB hx363_3; replace hx363_4 := cl HB hx363_4; have HR363_1 := Aside0.mk hi363_1; have HC363_1 := Aside0.mk hl363_1; clear hi363_1 hl363_1; have HR363_4 := Aside0.mk hi363_4; have HC363_4 := Aside0.mk hl363_4; clear hi363_4 hl363_4; replace p363 := eq_true p363; replace q363 := eq_true q363
            go_wp2_with (first | ((with_reducible refine gate_dst (N := 4) rfl ?_); refine box_s #[.string (⟨#[]⟩ : ByteArray), .slice none 0 0, .int .i64 0, .int .i64 0, .slice none 0 0] 65 ?_; intro gb364 hg wxddef1 hbox hb; have n0_ := st HB hb; have n1_ := Aside0.mk (hbox); have n2_ := ge HB hg; have n3_ := ge HB hg; clear HB; have HB := n0_; have BK364 := n1_; have GW364 := n2_; have GE364 := n3_; clear n0_ n1_ n2_ n3_; clear hb hbox hg; have hczxddef1 : wxddef1.cell? ⟨gb364, 0, none⟩ = some (.string (⟨#[]⟩ : ByteArray)) := bc BK364 0; have hczxddef2 : wxddef1.cell? ⟨gb364, 1, none⟩ = some (.slice none 0 0) := bc BK364 1; have hczxddef3 : wxddef1.cell? ⟨gb364, 2, none⟩ = some (.int .i64 0) := bc BK364 2; have hczxddef4 : wxddef1.cell? ⟨gb364, 3, none⟩ = some (.int .i64 0) := bc BK364 3; have hczxddef5 : wxddef1.cell? ⟨gb364, 4, none⟩ = some (.slice none 0 0) := bc BK364 4; have hfzxddef1 := blk_frozen BK364.out 0; have hfzxddef2 := blk_frozen BK364.out 1; have hfzxddef3 := blk_frozen BK364.out 2; have hfzxddef4 := blk_frozen BK364.out 3; have hfzxddef5 := blk_frozen BK364.out 4) | ((with_reducible refine gate_callee (f := 48) rfl ?_); refine goesL_ (some 20) rfl rfl Try.func48 (by kernel_rfl) rfl #[.string ((rd_T65 l0 x12_1).f0)] rfl any_s ?_; (with_reducible refine (chart_Name.calls k1 ((rd_T65 l0 x12_1).f0) true _ A6.out).mono ?_); rintro e wx05b21 ⟨rfl, hb⟩; refine ⟨_, rfl, ?_⟩; have n0_ := Aside0.mk (blk_below (g := gb364) (o := .cells #[.string ((rd_T65 l0 x12_1).f0), .slice A363_1 ((rd_T65 l0 x12_1).f1.f0).length c363_1, .int .i64 ((rd_T65 l0 x12_1).f1.f1), .int .i64 ((rd_T65 l0 x12_1).f1.f2), .slice A363_4 ((rd_T65 l0 x12_1).f2).length c363_4] 65 (0, 0)) (by (with_reducible repeat (first | refine blk_drewN ?_ _ | refine blk_drew ?_ | refine blk_alloc ?_ _)); refine blk_put (cs := #[.string ((rd_T65 l0 x12_1).f0), .slice A363_1 ((rd_T65 l0 x12_1).f1.f0).length c363_1, .int .i64 ((rd_T65 l0 x12_1).f1.f1), .int .i64 ((rd_T65 l0 x12_1).f1.f2), .slice none 0 0]) ?_ 4 _ rfl; (with_reducible repeat (first | refine blk_drewN ?_ _ | refine blk_drew ?_ | refine blk_alloc ?_ _)); refine blk_put (cs := #[.string ((rd_T65 l0 x12_1).f0), .slice A363_1 ((rd_T65 l0 x12_1).f1.f0).length c363_1, .int .i64 ((rd_T65 l0 x12_1).f1.f1), .int .i64 0, .slice none 0 0]) ?_ 3 _ rfl; (with_reducible repeat (first | refine blk_drewN ?_ _ | refine blk_drew ?_ | refine blk_alloc ?_ _)); refine blk_put (cs := #[.string ((rd_T65 l0 x12_1).f0), .slice A363_1 ((rd_T65 l0 x12_1).f1.f0).length c363_1, .int .i64 0, .int .i64 0, .slice none 0 0]) ?_ 2 _ rfl; (with_reducible repeat (first | refine blk_drewN ?_ _ | refine blk_drew ?_ | refine blk_alloc ?_ _)); refine blk_put (cs := #[.string ((rd_T65 l0 x12_1).f0), .slice none 0 0, .int .i64 0, .int .i64 0, .slice none 0 0]) ?_ 1 _ rfl; (with_reducible repeat (first | refine blk_drewN ?_ _ | refine blk_drew ?_ | refine blk_alloc ?_ _)); refine blk_put (cs := #[.string (⟨#[]⟩ : ByteArray), .slice none 0 0, .int .i64 0, .int .i64 0, .slice none 0 0]) ?_ 0 _ rfl; (with_reducible repeat (first | refine blk_drewN ?_ _ | refine blk_drew ?_ | refine blk_alloc ?_ _)); exact BK364.out) hb); have n1_ := st HB hb; clear BK364; clear HB; have BK364 := n0_; have HB := n1_; clear n0_ n1_; (try clear hb); (try clear hb2); (try clear hk); (try clear hi); have q15 : (x12_1 : Int) ≤ ((l0.length : Int) : Int) := of_decide_eq_true (by first | (with_reducible assumption) | assumption); obtain ⟨i015, hi015, _, hsz15, _⟩ := info_parts info65; have hroom15 : l0.length ≤ c0 := HC0.out; have hC15 : Kd.C k65 _ (some ad363) l0.length l0 := HR0.out; have hcut15 := cut_to (P := Try.prog) 56 65 .i64 Try.underlying56 hi015 (some ad363) l0.length c0 x12_1 (of_decide_eq_true (by first | (with_reducible assumption) | assumption)) q15 hroom15; have hr15 := Kd.C_take (m := (x12_1 : Int).toNat) hC15 (by omega); have hy15 : y366.length = (x12_1 : Int).toNat := (by rw [Ny366.out, List.length_take]; omega); rw [← Ny366.out] at hr15; rw [← hy15] at hcut15; have HR369 := Aside0.mk hr15; have HC369 := Aside0.mk (show y366.length ≤ c0 from by omega); clear hr15 hC15 hroom15 hi015 hsz15; have KY15 := Aside0.mk hy15; clear hy15; replace q15 := eq_true q15) | ((with_reducible refine gate_callee (f := 48) rfl ?_); refine goesL_ (some 20) rfl rfl Try.func48 (by kernel_rfl) rfl #[.string ((rd_T65 l0 x12_1).f0)] rfl any_s ?_; (with_reducible refine (chart_Name.calls k1 ((rd_T65 l0 x12_1).f0) true _ A6.out).mono ?_); rintro e wx3e841 ⟨rfl, hb⟩; refine ⟨_, rfl, ?_⟩; have n0_ := Aside0.mk (blk_below (g := gb364) (o := .cells #[.string ((rd_T65 l0 x12_1).f0), .slice A363_1 ((rd_T65 l0 x12_1).f1.f0).length c363_1, .int .i64 ((rd_T65 l0 x12_1).f1.f1), .int .i64 ((rd_T65 l0 x12_1).f1.f2), .slice A363_4 ((rd_T65 l0 x12_1).f2).length c363_4] 65 (0, 0)) (by (with_reducible repeat (first | refine blk_drewN ?_ _ | refine blk_drew ?_ | refine blk_alloc ?_ _)); refine blk_put (cs := #[.string ((rd_T65 l0 x12_1).f0), .slice A363_1 ((rd_T65 l0 x12_1).f1.f0).length c363_1, .int .i64 ((rd_T65 l0 x12_1).f1.f1), .int .i64 ((rd_T65 l0 x12_1).f1.f2), .slice none 0 0]) ?_ 4 _ rfl; (with_reducible repeat (first | refine blk_drewN ?_ _ | refine blk_drew ?_ | refine blk_alloc ?_ _)); refine blk_put (cs := #[.string ((rd_T65 l0 x12_1).f0), .slice A363_1 ((rd_T65 l0 x12_1).f1.f0).length c363_1, .int .i64 ((rd_T65 l0 x12_1).f1.f1), .int .i64 0, .slice none 0 0]) ?_ 3 _ rfl; (with_reducible repeat (first | refine blk_drewN ?_ _ | refine blk_drew ?_ | refine blk_alloc ?_ _)); refine blk_put (cs := #[.string ((rd_T65 l0 x12_1).f0), .slice A363_1 ((rd_T65 l0 x12_1).f1.f0).length c363_1, .int .i64 0, .int .i64 0, .slice none 0 0]) ?_ 2 _ rfl; (with_reducible repeat (first | refine blk_drewN ?_ _ | refine blk_drew ?_ | refine blk_alloc ?_ _)); refine blk_put (cs := #[.string ((rd_T65 l0 x12_1).f0), .slice none 0 0, .int .i64 0, .int .i64 0, .slice none 0 0]) ?_ 1 _ rfl; (with_reducible repeat (first | refine blk_drewN ?_ _ | refine blk_drew ?_ | refine blk_alloc ?_ _)); refine blk_put (cs := #[.string (⟨#[]⟩ : ByteArray), .slice none 0 0, .int .i64 0, .int .i64 0, .slice none 0 0]) ?_ 0 _ rfl; (with_reducible repeat (first | refine blk_drewN ?_ _ | refine blk_drew ?_ | refine blk_alloc ?_ _)); exact BK364.out) hb); have n1_ := st HB hb; clear BK364; clear HB; have BK364 := n0_; have HB := n1_; clear n0_ n1_; (try clear hb); (try clear hb2); (try clear hk); (try clear hi); have q33 : (x12_1 : Int) ≤ ((l0.length : Int) : Int) := of_decide_eq_true (by first | (with_reducible assumption) | assumption); obtain ⟨i033, hi033, _, hsz33, _⟩ := info_parts info65; have hroom33 : l0.length ≤ c0 := HC0.out; have hC33 : Kd.C k65 _ (some ad363) l0.length l0 := HR0.out; have hcut33 := cut_to (P := Try.prog) 56 65 .i64 Try.underlying56 hi033 (some ad363) l0.length c0 x12_1 (of_decide_eq_true (by first | (with_reducible assumption) | assumption)) q33 hroom33; have hr33 := Kd.C_take (m := (x12_1 : Int).toNat) hC33 (by omega); have hy33 : y366.length = (x12_1 : Int).toNat := (by rw [Ny366.out, List.length_take]; omega); rw [← Ny366.out] at hr33; rw [← hy33] at hcut33; have HR369 := Aside0.mk hr33; have HC369 := Aside0.mk (show y366.length ≤ c0 from by omega); clear hr33 hC33 hroom33 hi033 hsz33; have KY33 := Aside0.mk hy33; clear hy33; replace q33 := eq_true q33) | ((with_reducible refine gate_callee (f := 48) rfl ?_); refine goesL_ (some 20) rfl rfl Try.func48 (by kernel_rfl) rfl #[.string ((rd_T65 l0 x12_1).f0)] rfl any_s ?_; (with_reducible refine (chart_Name.calls k1 ((rd_T65 l0 x12_1).f0) true _ A6.out).mono ?_); rintro e wx2f161 ⟨rfl, hb⟩; refine ⟨_, rfl, ?_⟩; have n0_ := Aside0.mk (blk_below (g := gb364) (o := .cells #[.string ((rd_T65 l0 x12_1).f0), .slice A363_1 ((rd_T65 l0 x12_1).f1.f0).length c363_1, .int .i64 ((rd_T65 l0 x12_1).f1.f1), .int .i64 ((rd_T65 l0 x12_1).f1.f2), .slice A363_4 ((rd_T65 l0 x12_1).f2).length c363_4] 65 (0, 0)) (by (with_reducible repeat (first | refine blk_drewN ?_ _ | refine blk_drew ?_ | refine blk_alloc ?_ _)); refine blk_put (cs := #[.string ((rd_T65 l0 x12_1).f0), .slice A363_1 ((rd_T65 l0 x12_1).f1.f0).length c363_1, .int .i64 ((rd_T65 l0 x12_1).f1.f1), .int .i64 ((rd_T65 l0 x12_1).f1.f2), .slice none 0 0]) ?_ 4 _ rfl; (with_reducible repeat (first | refine blk_drewN ?_ _ | refine blk_drew ?_ | refine blk_alloc ?_ _)); refine blk_put (cs := #[.string ((rd_T65 l0 x12_1).f0), .slice A363_1 ((rd_T65 l0 x12_1).f1.f0).length c363_1, .int .i64 ((rd_T65 l0 x12_1).f1.f1), .int .i64 0, .slice none 0 0]) ?_ 3 _ rfl; (with_reducible repeat (first | refine blk_drewN ?_ _ | refine blk_drew ?_ | refine blk_alloc ?_ _)); refine blk_put (cs := #[.string ((rd_T65 l0 x12_1).f0), .slice A363_1 ((rd_T65 l0 x12_1).f1.f0).length c363_1, .int .i64 0, .int .i64 0, .slice none 0 0]) ?_ 2 _ rfl; (with_reducible repeat (first | refine blk_drewN ?_ _ | refine blk_drew ?_ | refine blk_alloc ?_ _)); refine blk_put (cs := #[.string ((rd_T65 l0 x12_1).f0), .slice none 0 0, .int .i64 0, .int .i64 0, .slice none 0 0]) ?_ 1 _ rfl; (with_reducible repeat (first | refine blk_drewN ?_ _ | refine blk_drew ?_ | refine blk_alloc ?_ _)); refine blk_put (cs := #[.string (⟨#[]⟩ : ByteArray), .slice none 0 0, .int .i64 0, .int .i64 0, .slice none 0 0]) ?_ 0 _ rfl; (with_reducible repeat (first | refine blk_drewN ?_ _ | refine blk_drew ?_ | refine blk_alloc ?_ _)); exact BK364.out) hb); have n1_ := st HB hb; clear BK364; clear HB; have BK364 := n0_; have HB := n1_; clear n0_ n1_; (try clear hb); (try clear hb2); (try clear hk); (try clear hi); have q42 : (x12_1 : Int) ≤ ((l0.length : Int) : Int) := of_decide_eq_true (by first | (with_reducible assumption) | assumption); obtain ⟨i042, hi042, _, hsz42, _⟩ := info_parts info65; have hroom42 : l0.length ≤ c0 := HC0.out; have hC42 : Kd.C k65 _ (some ad363) l0.length l0 := HR0.out; have hcut42 := cut_to (P := Try.prog) 56 65 .i64 Try.underlying56 hi042 (some ad363) l0.length c0 x12_1 (of_decide_eq_true (by first | (with_reducible assumption) | assumption)) q42 hroom42; have hr42 := Kd.C_take (m := (x12_1 : Int).toNat) hC42 (by omega); have hy42 : y366.length = (x12_1 : Int).toNat := (by rw [Ny366.out, List.length_take]; omega); rw [← Ny366.out] at hr42; rw [← hy42] at hcut42; have HR369 := Aside0.mk hr42; have HC369 := Aside0.mk (show y366.length ≤ c0 from by omega); clear hr42 hC42 hroom42 hi042 hsz42; have KY42 := Aside0.mk hy42; clear hy42; replace q42 := eq_true q42) | ((with_reducible refine gate_callee (f := 48) rfl ?_); refine goesL_ (some 20) rfl rfl Try.func48 (by kernel_rfl) rfl #[.string ((rd_T65 l0 x12_1).f0)] rfl any_s ?_; (with_reducible refine (chart_Name.calls k1 ((rd_T65 l0 x12_1).f0) false _ A6.out).mono ?_); rintro e wx6d801 ⟨rfl, hb⟩; refine ⟨_, rfl, ?_⟩; have n0_ := Aside0.mk (blk_below (g := gb364) (o := .cells #[.string ((rd_T65 l0 x12_1).f0), .slice A363_1 ((rd_T65 l0 x12_1).f1.f0).length c363_1, .int .i64 ((rd_T65 l0 x12_1).f1.f1), .int .i64 ((rd_T65 l0 x12_1).f1.f2), .slice A363_4 ((rd_T65 l0 x12_1).f2).length c363_4] 65 (0, 0)) (by (with_reducible repeat (first | refine blk_drewN ?_ _ | refine blk_drew ?_ | refine blk_alloc ?_ _)); refine blk_put (cs := #[.string ((rd_T65 l0 x12_1).f0), .slice A363_1 ((rd_T65 l0 x12_1).f1.f0).length c363_1, .int .i64 ((rd_T65 l0 x12_1).f1.f1), .int .i64 ((rd_T65 l0 x12_1).f1.f2), .slice none 0 0]) ?_ 4 _ rfl; (with_reducible repeat (first | refine blk_drewN ?_ _ | refine blk_drew ?_ | refine blk_alloc ?_ _)); refine blk_put (cs := #[.string ((rd_T65 l0 x12_1).f0), .slice A363_1 ((rd_T65 l0 x12_1).f1.f0).length c363_1, .int .i64 ((rd_T65 l0 x12_1).f1.f1), .int .i64 0, .slice none 0 0]) ?_ 3 _ rfl; (with_reducible repeat (first | refine blk_drewN ?_ _ | refine blk_drew ?_ | refine blk_alloc ?_ _)); refine blk_put (cs := #[.string ((rd_T65 l0 x12_1).f0), .slice A363_1 ((rd_T65 l0 x12_1).f1.f0).length c363_1, .int .i64 0, .int .i64 0, .slice none 0 0]) ?_ 2 _ rfl; (with_reducible repeat (first | refine blk_drewN ?_ _ | refine blk_drew ?_ | refine blk_alloc ?_ _)); refine blk_put (cs := #[.string ((rd_T65 l0 x12_1).f0), .slice none 0 0, .int .i64 0, .int .i64 0, .slice none 0 0]) ?_ 1 _ rfl; (with_reducible repeat (first | refine blk_drewN ?_ _ | refine blk_drew ?_ | refine blk_alloc ?_ _)); refine blk_put (cs := #[.string (⟨#[]⟩ : ByteArray), .slice none 0 0, .int .i64 0, .int .i64 0, .slice none 0 0]) ?_ 0 _ rfl; (with_reducible repeat (first | refine blk_drewN ?_ _ | refine blk_drew ?_ | refine blk_alloc ?_ _)); exact BK364.out) hb); have n1_ := st HB hb; clear BK364; clear HB; have BK364 := n0_; have HB := n1_; clear n0_ n1_; (try clear hb); (try clear hb2); (try clear hk); (try clear hi)) | ((with_reducible refine gate_callee (f := 103) rfl ?_); refine goesL_ (some 27) rfl rfl Try.func103 (by kernel_rfl) rfl #[.slice (some ad363) y366.length c0, .func (.func 104) #[] #[.pointer (some ⟨gb364, 0, none⟩)]] rfl any_s ?_; (with_reducible refine (api_RouteVolume_103.calls _ _ y366 (route_CheckVolumes_1.p ((rd_T65 l0 x12_1).f0) ((rd_T65 l0 x12_1).f1.f0) ((rd_T65 l0 x12_1).f1.f1) ((rd_T65 l0 x12_1).f1.f2) ((rd_T65 l0 x12_1).f2)) false _ ?side1 ?side2 ?side3 A10.out).mono ?_); (case side1 => exact cb_s (Kd.C_below HR369.out HB.out)); (case side2 => exact HC369.out); (case side3 => exact route_CheckVolumes_1.pred blk_s); rintro e wxbb331 ⟨rfl, hb⟩; refine ⟨_, rfl, ?_⟩; have n0_ := kp BK364 hb; have n1_ := st HB hb; clear BK364; clear HB; have BK364 := n0_; have HB := n1_; clear n0_ n1_; (try clear hb); (try clear hb2); (try clear hk); (try clear hi); have hczxbb331 : wxbb331.cell? ⟨gb364, 0, none⟩ = some (.string ((rd_T65 l0 x12_1).f0)) := bc BK364 0; have hczxbb332 : wxbb331.cell? ⟨gb364, 1, none⟩ = some (.slice A363_1 ((rd_T65 l0 x12_1).f1.f0).length c363_1) := bc BK364 1; have hczxbb333 : wxbb331.cell? ⟨gb364, 2, none⟩ = some (.int .i64 ((rd_T65 l0 x12_1).f1.f1)) := bc BK364 2; have hczxbb334 : wxbb331.cell? ⟨gb364, 3, none⟩ = some (.int .i64 ((rd_T65 l0 x12_1).f1.f2)) := bc BK364 3; have hczxbb335 : wxbb331.cell? ⟨gb364, 4, none⟩ = some (.slice A363_4 ((rd_T65 l0 x12_1).f2).length c363_4) := bc BK364 4; have hfzxbb331 := blk_frozen BK364.out 0; have hfzxbb332 := blk_frozen BK364.out 1; have hfzxbb333 := blk_frozen BK364.out 2; have hfzxbb334 := blk_frozen BK364.out 3; have hfzxbb335 := blk_frozen BK364.out 4) | ((with_reducible refine gate_callee (f := 103) rfl ?_); refine goesL_ (some 27) rfl rfl Try.func103 (by kernel_rfl) rfl #[.slice (some ad363) y366.length c0, .func (.func 104) #[] #[.pointer (some ⟨gb364, 0, none⟩)]] rfl any_s ?_; (with_reducible refine (api_RouteVolume_103.calls _ _ y366 (route_CheckVolumes_1.p ((rd_T65 l0 x12_1).f0) ((rd_T65 l0 x12_1).f1.f0) ((rd_T65 l0 x12_1).f1.f1) ((rd_T65 l0 x12_1).f1.f2) ((rd_T65 l0 x12_1).f2)) true _ ?side1 ?side2 ?side3 A10.out).mono ?_); (case side1 => exact cb_s (Kd.C_below HR369.out HB.out)); (case side2 => exact HC369.out); (case side3 => exact route_CheckVolumes_1.pred blk_s); rintro e wx9ea71 ⟨rfl, hb⟩; refine ⟨_, rfl, ?_⟩; have n0_ := kp BK364 hb; have n1_ := st HB hb; clear BK364; clear HB; have BK364 := n0_; have HB := n1_; clear n0_ n1_; (try clear hb); (try clear hb2); (try clear hk); (try clear hi)) | ((with_reducible refine gate_callee (f := 79) rfl ?_); refine goesL_ (some 30) rfl rfl Try.func79 (by kernel_rfl) rfl #[.agg #[.slice A363_1 ((rd_T65 l0 x12_1).f1.f0).length c363_1, .int .i64 ((rd_T65 l0 x12_1).f1.f1), .int .i64 ((rd_T65 l0 x12_1).f1.f2)]] rfl any_s ?_; (with_reducible refine (volume_Check.calls k1 _ _ ((rd_T65 l0 x12_1).f1.f0) ((rd_T65 l0 x12_1).f1.f1) ((rd_T65 l0 x12_1).f1.f2) t371 _ ?side1 ?side2 A17.out).mono ?_); (case side1 => exact cb_s (Kd.C_below HR363_1.out HB.out)); (case side2 => exact HC363_1.out); rintro e wx23431 ⟨rfl, hb⟩; refine ⟨_, rfl, ?_⟩; have n0_ := kp BK364 hb; have n1_ := st HB hb; clear BK364; clear HB; have BK364 := n0_; have HB := n1_; clear n0_ n1_; (try clear hb); (try clear hb2); (try clear hk); (try clear hi); have hczx23431 : wx23431.cell? ⟨gb364, 0, none⟩ = some (.string ((rd_T65 l0 x12_1).f0)) := bc BK364 0; have hczx23432 : wx23431.cell? ⟨gb364, 1, none⟩ = some (.slice A363_1 ((rd_T65 l0 x12_1).f1.f0).length c363_1) := bc BK364 1; have hczx23433 : wx23431.cell? ⟨gb364, 2, none⟩ = some (.int .i64 ((rd_T65 l0 x12_1).f1.f1)) := bc BK364 2; have hczx23434 : wx23431.cell? ⟨gb364, 3, none⟩ = some (.int .i64 ((rd_T65 l0 x12_1).f1.f2)) := bc BK364 3; have hczx23435 : wx23431.cell? ⟨gb364, 4, none⟩ = some (.slice A363_4 ((rd_T65 l0 x12_1).f2).length c363_4) := bc BK364 4; have hfzx23431 := blk_frozen BK364.out 0; have hfzx23432 := blk_frozen BK364.out 1; have hfzx23433 := blk_frozen BK364.out 2; have hfzx23434 := blk_frozen BK364.out 3; have hfzx23435 := blk_frozen BK364.out 4) | ((with_reducible refine gate_callee (f := 79) rfl ?_); refine goesL_ (some 30) rfl rfl Try.func79 (by kernel_rfl) rfl #[.agg #[.slice A363_1 ((rd_T65 l0 x12_1).f1.f0).length c363_1, .int .i64 ((rd_T65 l0 x12_1).f1.f1), .int .i64 ((rd_T65 l0 x12_1).f1.f2)]] rfl any_s ?_; (with_reducible refine (volume_Check.calls k1 _ _ ((rd_T65 l0 x12_1).f1.f0) ((rd_T65 l0 x12_1).f1.f1) ((rd_T65 l0 x12_1).f1.f2) t371 _ ?side1 ?side2 A17.out).mono ?_); (case side1 => exact cb_s (Kd.C_below HR363_1.out HB.out)); (case side2 => exact HC363_1.out); rintro e wxcb0a1 ⟨rfl, hb⟩; refine ⟨_, rfl, ?_⟩; have n0_ := kp BK364 hb; have n1_ := st HB hb; clear BK364; clear HB; have BK364 := n0_; have HB := n1_; clear n0_ n1_; (try clear hb); (try clear hb2); (try clear hk); (try clear hi)) | ((with_reducible refine gate_callee (f := 80) rfl ?_); refine goesL_ (some 36) rfl rfl Try.func80 (by kernel_rfl) rfl #[.slice A363_4 ((rd_T65 l0 x12_1).f2).length c363_4] rfl any_s ?_; (with_reducible refine (volume_CheckSpans.calls k1 _ _ ((rd_T65 l0 x12_1).f2) t372 _ ?side1 ?side2 A19.out).mono ?_); (case side1 => exact cb_s (Kd.C_below HR363_4.out HB.out)); (case side2 => exact HC363_4.out); rintro e wxb7821 ⟨rfl, hb⟩; refine ⟨_, rfl, ?_⟩; have n0_ := kp BK364 hb; have n1_ := st HB hb; clear BK364; clear HB; have BK364 := n0_; have HB := n1_; clear n0_ n1_; (try clear hb); (try clear hb2); (try clear hk); (try clear hi)))
            go_ret
            exact ⟨by first | rfl | (simp [errW_none, errW_some] <;> rfl) | (simp [*, errW_none, errW_some] <;> rfl), by repeat (first | (with_reducible first | exact HB.out | apply below_alloc | apply pw_below_drewN | apply below_drew1 | refine below_set ?_ GE364.out) | exact HB.out)⟩
          | clear hm1_2; go_wp2; go_ret
            exact ⟨by first | rfl | (simp [errW_none, errW_some] <;> rfl) | (simp [*, errW_none, errW_some] <;> rfl), by repeat (first | (with_reducible first | exact HB.out | apply below_alloc | apply pw_below_drewN | apply below_drew1) | exact HB.out)⟩
       | clear hm1_1; have H' := Aside0.mk H; clear H
         have p363 : 0 ≤ (x12_1 : Int) := of_decide_eq_true (by first | (with_reducible assumption) | assumption)
         have q363 : x12_1 < (l0.length : Int) := of_decide_eq_true (by first | (with_reducible assumption) | assumption)
         obtain ⟨ad363, A363_1, c363_1, A363_4, c363_4, e363, hx363_0, hx363_1, hx363_2, hx363_3, hx363_4, hl363_1, hi363_1, hl363_4, hi363_4⟩ := at_T65 HR0.out x12_1 p363 q363; cases e363; replace hx363_0 := cl HB hx363_0; replace hx363_1 := cl HB hx363_1; replace hx363_2 := cl HB hx363_2; replace hx363_3 := cl HB hx363_3; replace hx363_4 := cl HB hx363_4; have HR363_1 := Aside0.mk hi363_1; have HC363_1 := Aside0.mk hl363_1; clear hi363_1 hl363_1; have HR363_4 := Aside0.mk hi363_4; have HC363_4 := Aside0.mk hl363_4; clear hi363_4 hl363_4; replace p363 := eq_true p363; replace q363 := eq_true q363
         go_wp2_with (first | ((with_reducible refine gate_dst (N := 4) rfl ?_); refine box_s #[.string (⟨#[]⟩ : ByteArray), .slice none 0 0, .int .i64 0, .int .i64 0, .slice none 0 0] 65 ?_; intro gb364 hg wxddef1 hbox hb; have n0_ := st HB hb; have n1_ := Aside0.mk (hbox); have n2_ := ge HB hg; have n3_ := ge HB hg; clear HB; have HB := n0_; have BK364 := n1_; have GW364 := n2_; have GE364 := n3_; clear n0_ n1_ n2_ n3_; clear hb hbox hg; have hczxddef1 : wxddef1.cell? ⟨gb364, 0, none⟩ = some (.string (⟨#[]⟩ : ByteArray)) := bc BK364 0; have hczxddef2 : wxddef1.cell? ⟨gb364, 1, none⟩ = some (.slice none 0 0) := bc BK364 1; have hczxddef3 : wxddef1.cell? ⟨gb364, 2, none⟩ = some (.int .i64 0) := bc BK364 2; have hczxddef4 : wxddef1.cell? ⟨gb364, 3, none⟩ = some (.int .i64 0) := bc BK364 3; have hczxddef5 : wxddef1.cell? ⟨gb364, 4, none⟩ = some (.slice none 0 0) := bc BK364 4; have hfzxddef1 := blk_frozen BK364.out 0; have hfzxddef2 := blk_frozen BK364.out 1; have hfzxddef3 := blk_frozen BK364.out 2; have hfzxddef4 := blk_frozen BK364.out 3; have hfzxddef5 := blk_frozen BK364.out 4) | ((with_reducible refine gate_callee (f := 48) rfl ?_); refine goesL_ (some 20) rfl rfl Try.func48 (by kernel_rfl) rfl #[.string ((rd_T65 l0 x12_1).f0)] rfl any_s ?_; (with_reducible refine (chart_Name.calls k1 ((rd_T65 l0 x12_1).f0) true _ A6.out).mono ?_); rintro e wx036b1 ⟨rfl, hb⟩; refine ⟨_, rfl, ?_⟩; have n0_ := Aside0.mk (blk_below (g := gb364) (o := .cells #[.string ((rd_T65 l0 x12_1).f0), .slice A363_1 ((rd_T65 l0 x12_1).f1.f0).length c363_1, .int .i64 ((rd_T65 l0 x12_1).f1.f1), .int .i64 ((rd_T65 l0 x12_1).f1.f2), .slice A363_4 ((rd_T65 l0 x12_1).f2).length c363_4] 65 (0, 0)) (by (with_reducible repeat (first | refine blk_drewN ?_ _ | refine blk_drew ?_ | refine blk_alloc ?_ _)); refine blk_put (cs := #[.string ((rd_T65 l0 x12_1).f0), .slice A363_1 ((rd_T65 l0 x12_1).f1.f0).length c363_1, .int .i64 ((rd_T65 l0 x12_1).f1.f1), .int .i64 ((rd_T65 l0 x12_1).f1.f2), .slice none 0 0]) ?_ 4 _ rfl; (with_reducible repeat (first | refine blk_drewN ?_ _ | refine blk_drew ?_ | refine blk_alloc ?_ _)); refine blk_put (cs := #[.string ((rd_T65 l0 x12_1).f0), .slice A363_1 ((rd_T65 l0 x12_1).f1.f0).length c363_1, .int .i64 ((rd_T65 l0 x12_1).f1.f1), .int .i64 0, .slice none 0 0]) ?_ 3 _ rfl; (with_reducible repeat (first | refine blk_drewN ?_ _ | refine blk_drew ?_ | refine blk_alloc ?_ _)); refine blk_put (cs := #[.string ((rd_T65 l0 x12_1).f0), .slice A363_1 ((rd_T65 l0 x12_1).f1.f0).length c363_1, .int .i64 0, .int .i64 0, .slice none 0 0]) ?_ 2 _ rfl; (with_reducible repeat (first | refine blk_drewN ?_ _ | refine blk_drew ?_ | refine blk_alloc ?_ _)); refine blk_put (cs := #[.string ((rd_T65 l0 x12_1).f0), .slice none 0 0, .int .i64 0, .int .i64 0, .slice none 0 0]) ?_ 1 _ rfl; (with_reducible repeat (first | refine blk_drewN ?_ _ | refine blk_drew ?_ | refine blk_alloc ?_ _)); refine blk_put (cs := #[.string (⟨#[]⟩ : ByteArray), .slice none 0 0, .int .i64 0, .int .i64 0, .slice none 0 0]) ?_ 0 _ rfl; (with_reducible repeat (first | refine blk_drewN ?_ _ | refine blk_drew ?_ | refine blk_alloc ?_ _)); exact BK364.out) hb); have n1_ := st HB hb; clear BK364; clear HB; have BK364 := n0_; have HB := n1_; clear n0_ n1_; (try clear hb); (try clear hb2); (try clear hk); (try clear hi); have q24 : (x12_1 : Int) ≤ ((l0.length : Int) : Int) := of_decide_eq_true (by first | (with_reducible assumption) | assumption); obtain ⟨i024, hi024, _, hsz24, _⟩ := info_parts info65; have hroom24 : l0.length ≤ c0 := HC0.out; have hC24 : Kd.C k65 _ (some ad363) l0.length l0 := HR0.out; have hcut24 := cut_to (P := Try.prog) 56 65 .i64 Try.underlying56 hi024 (some ad363) l0.length c0 x12_1 (of_decide_eq_true (by first | (with_reducible assumption) | assumption)) q24 hroom24; have hr24 := Kd.C_take (m := (x12_1 : Int).toNat) hC24 (by omega); have hy24 : y366.length = (x12_1 : Int).toNat := (by rw [Ny366.out, List.length_take]; omega); rw [← Ny366.out] at hr24; rw [← hy24] at hcut24; have HR369 := Aside0.mk hr24; have HC369 := Aside0.mk (show y366.length ≤ c0 from by omega); clear hr24 hC24 hroom24 hi024 hsz24; have KY24 := Aside0.mk hy24; clear hy24; replace q24 := eq_true q24) | ((with_reducible refine gate_callee (f := 103) rfl ?_); refine goesL_ (some 27) rfl rfl Try.func103 (by kernel_rfl) rfl #[.slice (some ad363) y366.length c0, .func (.func 104) #[] #[.pointer (some ⟨gb364, 0, none⟩)]] rfl any_s ?_; (with_reducible refine (api_RouteVolume_103.calls _ _ y366 (route_CheckVolumes_1.p ((rd_T65 l0 x12_1).f0) ((rd_T65 l0 x12_1).f1.f0) ((rd_T65 l0 x12_1).f1.f1) ((rd_T65 l0 x12_1).f1.f2) ((rd_T65 l0 x12_1).f2)) false _ ?side1 ?side2 ?side3 A10.out).mono ?_); (case side1 => exact cb_s (Kd.C_below HR369.out HB.out)); (case side2 => exact HC369.out); (case side3 => exact route_CheckVolumes_1.pred blk_s); rintro e wxbb331 ⟨rfl, hb⟩; refine ⟨_, rfl, ?_⟩; have n0_ := kp BK364 hb; have n1_ := st HB hb; clear BK364; clear HB; have BK364 := n0_; have HB := n1_; clear n0_ n1_; (try clear hb); (try clear hb2); (try clear hk); (try clear hi); have hczxbb331 : wxbb331.cell? ⟨gb364, 0, none⟩ = some (.string ((rd_T65 l0 x12_1).f0)) := bc BK364 0; have hczxbb332 : wxbb331.cell? ⟨gb364, 1, none⟩ = some (.slice A363_1 ((rd_T65 l0 x12_1).f1.f0).length c363_1) := bc BK364 1; have hczxbb333 : wxbb331.cell? ⟨gb364, 2, none⟩ = some (.int .i64 ((rd_T65 l0 x12_1).f1.f1)) := bc BK364 2; have hczxbb334 : wxbb331.cell? ⟨gb364, 3, none⟩ = some (.int .i64 ((rd_T65 l0 x12_1).f1.f2)) := bc BK364 3; have hczxbb335 : wxbb331.cell? ⟨gb364, 4, none⟩ = some (.slice A363_4 ((rd_T65 l0 x12_1).f2).length c363_4) := bc BK364 4; have hfzxbb331 := blk_frozen BK364.out 0; have hfzxbb332 := blk_frozen BK364.out 1; have hfzxbb333 := blk_frozen BK364.out 2; have hfzxbb334 := blk_frozen BK364.out 3; have hfzxbb335 := blk_frozen BK364.out 4) | ((with_reducible refine gate_callee (f := 79) rfl ?_); refine goesL_ (some 30) rfl rfl Try.func79 (by kernel_rfl) rfl #[.agg #[.slice A363_1 ((rd_T65 l0 x12_1).f1.f0).length c363_1, .int .i64 ((rd_T65 l0 x12_1).f1.f1), .int .i64 ((rd_T65 l0 x12_1).f1.f2)]] rfl any_s ?_; (with_reducible refine (volume_Check.calls k1 _ _ ((rd_T65 l0 x12_1).f1.f0) ((rd_T65 l0 x12_1).f1.f1) ((rd_T65 l0 x12_1).f1.f2) t371 _ ?side1 ?side2 A17.out).mono ?_); (case side1 => exact cb_s (Kd.C_below HR363_1.out HB.out)); (case side2 => exact HC363_1.out); rintro e wx23431 ⟨rfl, hb⟩; refine ⟨_, rfl, ?_⟩; have n0_ := kp BK364 hb; have n1_ := st HB hb; clear BK364; clear HB; have BK364 := n0_; have HB := n1_; clear n0_ n1_; (try clear hb); (try clear hb2); (try clear hk); (try clear hi); have hczx23431 : wx23431.cell? ⟨gb364, 0, none⟩ = some (.string ((rd_T65 l0 x12_1).f0)) := bc BK364 0; have hczx23432 : wx23431.cell? ⟨gb364, 1, none⟩ = some (.slice A363_1 ((rd_T65 l0 x12_1).f1.f0).length c363_1) := bc BK364 1; have hczx23433 : wx23431.cell? ⟨gb364, 2, none⟩ = some (.int .i64 ((rd_T65 l0 x12_1).f1.f1)) := bc BK364 2; have hczx23434 : wx23431.cell? ⟨gb364, 3, none⟩ = some (.int .i64 ((rd_T65 l0 x12_1).f1.f2)) := bc BK364 3; have hczx23435 : wx23431.cell? ⟨gb364, 4, none⟩ = some (.slice A363_4 ((rd_T65 l0 x12_1).f2).length c363_4) := bc BK364 4; have hfzx23431 := blk_frozen BK364.out 0; have hfzx23432 := blk_frozen BK364.out 1; have hfzx23433 := blk_frozen BK364.out 2; have hfzx23434 := blk_frozen BK364.out 3; have hfzx23435 := blk_frozen BK364.out 4) | ((with_reducible refine gate_callee (f := 80) rfl ?_); refine goesL_ (some 36) rfl rfl Try.func80 (by kernel_rfl) rfl #[.slice A363_4 ((rd_T65 l0 x12_1).f2).length c363_4] rfl any_s ?_; (with_reducible refine (volume_CheckSpans.calls k1 _ _ ((rd_T65 l0 x12_1).f2) t372 _ ?side1 ?side2 A19.out).mono ?_); (case side1 => exact cb_s (Kd.C_below HR363_4.out HB.out)); (case side2 => exact HC363_4.out); rintro e wxb7821 ⟨rfl, hb⟩; refine ⟨_, rfl, ?_⟩; have n0_ := kp BK364 hb; have n1_ := st HB hb; clear BK364; clear HB; have BK364 := n0_; have HB := n1_; clear n0_ n1_; (try clear hb); (try clear hb2); (try clear hk); (try clear hi)))
         go_roundg k1
         case measure => have := HK1.out; omega
         case rel => exact ⟨(wrap64 (x12_1 + 1)), (by first | rfl | (simp; done) | (simp [*]; done)), H', ⟨by have := HK1.out; omega⟩, ⟨by repeat (first | (with_reducible first | exact HB.out | apply below_alloc | apply pw_below_drewN | apply below_drew1 | refine below_set ?_ GE364.out) | exact HB.out)⟩⟩

end Go.Proofs.Ytbpbpojnfhhbjaa.PRouteCrossed
