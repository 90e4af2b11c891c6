/- Made by a program of this session (wip/tools/myprint.py, over the kit's printer): that the Go functions answer as the Lean functions printed beside them. -/
import Derived.Test.YtbpbpojnfhhbjaaPFlyClosedx0
import Derived.Test.YtbpbpojnfhhbjaaPFlyClosedx2
import Derived.Test.YtbpbpojnfhhbjaaPFlyClosedx3
import Derived.Test.YtbpbpojnfhhbjaaPFlyClosedx9
namespace Go.Proofs.Ytbpbpojnfhhbjaa.PFlyClosed
open Go.RowKit Go.Proofs.YtbpbpojnfhhbjaaW.PrintWords Go.Proofs.YtbpbpojnfhhbjaaW.PrintLast Go.Proofs.YtbpbpojnfhhbjaaW.PrintMore
attribute [local go_sem] max2_int min2_int max_two min_two max_three min_three max_four min_four   -- for this text's walks alone
set_option linter.unusedVariables false
set_option linter.unusedSimpArgs false

/-! ### route_CheckVolumes: function 70 -/
def route_CheckVolumes.l0 : Nat → List (S65) → List (S65) → Int → Int → Option (Int)
  | 0, _, _, _, _ => none
  | k + 1, x0, x10, x11, x12 => if x12 < x11 then (if 0 ≤ x12 then (if x12 < (x10.length : Int) then ((chart_Name.f k ((rd_T65 x10 x12).f0)).bind fun t238 => (if t238 = true then (if x12 ≤ (x0.length : Int) then ((api_RouteVolume_103.f (x0.take (x12 : Int).toNat) (route_CheckVolumes_1.p ((rd_T65 x10 x12).f0) ((rd_T65 x10 x12).f1.f0) ((rd_T65 x10 x12).f1.f1) ((rd_T65 x10 x12).f1.f2) ((rd_T65 x10 x12).f2))).bind fun t243 => (if t243 = true then (some 7) else ((volume_Check.f k ((rd_T65 x10 x12).f1.f0) ((rd_T65 x10 x12).f1.f1) ((rd_T65 x10 x12).f1.f2)).bind fun t244 => (if t244 = 0 then ((volume_CheckSpans.f k ((rd_T65 x10 x12).f2)).bind fun t245 => (if t245 = 0 then (route_CheckVolumes.l0 k x0 x10 x11 (wrap64 (x12 + 1))) else (some t245))) else (some t244))))) else (none)) else (some 5))) else (none)) else (none)) else (some 0)
def route_CheckVolumes.f (k : Nat) (l0 : List (S65)) : Option (Int) := if (l0.length : Int) > 16 then (some 2) else (route_CheckVolumes.l0 k l0 l0 (l0.length : Int) 0)
theorem route_CheckVolumes.mono_l : ∀ k, (∀ y0 y1 y2 y3, LeO (route_CheckVolumes.l0 k y0 y1 y2 y3) (route_CheckVolumes.l0 (k + 1) y0 y1 y2 y3))
  | 0 => fun _ _ _ _ r h => by simp [route_CheckVolumes.l0] at h
  | k + 1 => by
    have ih0 := route_CheckVolumes.mono_l k
    · intro y0 y1 y2 y3
      unfold route_CheckVolumes.l0
      repeat' first
      | (with_reducible exact ih0 _ _ _ _)
      | (with_reducible exact chart_Name.mono _ _)
      | (with_reducible exact volume_Check.mono _ _ _ _)
      | (with_reducible exact volume_CheckSpans.mono _ _)
      | (with_reducible exact LeO.refl _)
      | (with_reducible exact LeO.none _)
      | (with_reducible refine LeO.ite ?_ ?_)
      | (with_reducible refine LeO.bind ?_ (fun _ => ?_))
      | exact ih0 _ _ _ _
      | exact chart_Name.mono _ _
      | exact volume_Check.mono _ _ _ _
      | exact volume_CheckSpans.mono _ _
      | exact LeO.none _
      | refine LeO.ite ?_ ?_
      | refine LeO.bind ?_ (fun _ => ?_)
theorem route_CheckVolumes.mono : ∀ a0 k, LeO (route_CheckVolumes.f k a0) (route_CheckVolumes.f (k + 1) a0) := by
  intro a0 k
  have ih0 := route_CheckVolumes.mono_l k
  unfold route_CheckVolumes.f
  repeat' first
      | (with_reducible exact ih0 _ _ _ _)
      | (with_reducible exact chart_Name.mono _ _)
      | (with_reducible exact volume_Check.mono _ _ _ _)
      | (with_reducible exact volume_CheckSpans.mono _ _)
      | (with_reducible exact LeO.refl _)
      | (with_reducible exact LeO.none _)
      | (with_reducible refine LeO.ite ?_ ?_)
      | (with_reducible refine LeO.bind ?_ (fun _ => ?_))
      | exact ih0 _ _ _ _
      | exact chart_Name.mono _ _
      | exact volume_Check.mono _ _ _ _
      | exact volume_CheckSpans.mono _ _
      | exact LeO.none _
      | refine LeO.ite ?_ ?_
      | refine LeO.bind ?_ (fun _ => ?_)
set_option maxHeartbeats 8000000 in
set_option maxRecDepth 100000 in
theorem route_CheckVolumes.calls (k : Nat) (A0 : Option Addr) (c0 : Nat) (l0 : List (S65)) (r : Int) (w : World) (hr0 : Kd.C k65 w A0 l0.length l0) (hc0 : l0.length ≤ c0) (h : route_CheckVolumes.f k l0 = some r) :
    Calls Try.prog 70 #[.slice A0 l0.length c0] w fun e w' => e = .returned (.int .i64 r) ∧ Below w.heap.size w w' := by
 have hu65 := Try.underlying65
 have hu62 := Try.underlying62
 have HR0 := Aside0.mk hr0
 have HC0 := Aside0.mk hc0
 clear hr0 hc0
 have HB := Aside0.mk (Below.refl w.heap.size w)
 have H : (if (l0.length : Int) > 16 then (some 2) else (route_CheckVolumes.l0 k l0 l0 (l0.length : Int) 0)) = some r := h
 clear h
 by_cases c2 : (l0.length : Int) > 16
 · rw [if_pos c2] at H
   have c2b0 : decide (16 < (l0.length : Int)) = true := decide_eq_true c2
   have c2b1 : decide (16 < l0.length) = true := decide_eq_true (by omega)
   clear c2
   obtain rfl := Option.some.inj H
   go_enter Try.func70, Try.ntmps70
   go_wp2
   go_ret
   exact ⟨by first | rfl | (simp [errW_none, errW_some] <;> rfl) | (simp [*, errW_none, errW_some] <;> rfl), by repeat (first | (with_reducible first | exact HB.out | apply below_alloc | apply pw_below_drewN | apply below_drew1) | exact HB.out)⟩
 · rw [if_neg c2] at H
   have c2b0 : decide (16 < (l0.length : Int)) = false := decide_eq_false c2
   have c2b1 : decide (16 < l0.length) = false := decide_eq_false (by omega)
   clear c2
   have H' := Aside0.mk H
   clear H
   go_enter Try.func70, Try.ntmps70
   go_wp2
   go_loopg [12] k (fun kq v12 w' => ∃ (x12_1 : Int), v12 = .int .i64 x12_1 ∧ Aside0 (route_CheckVolumes.l0 kq l0 l0 (l0.length : Int) x12_1 = some r) ∧ Aside0 (kq ≤ k) ∧ Aside0 (Below w.heap.size w w'))
   case atStart => exact ⟨(0), (by first | rfl | (simp; done) | (simp [*]; done)), H', ⟨Nat.le_refl _⟩, ⟨by repeat (first | (with_reducible first | exact HB.out | apply below_alloc | apply pw_below_drewN | apply below_drew1) | exact HB.out)⟩⟩
   case round =>
    clear H'
    (try clear c2); (try clear c2b0); (try clear c2b1); (try clear p2)
    obtain ⟨x12_1, rfl, HA, HK1, HB⟩ := hrel
    cases gk with
    | zero => exact absurd HA.out (by simp [route_CheckVolumes.l0])
    | succ k1 =>
     have H := HA.out
     clear HA
     simp only [route_CheckVolumes.l0] at H
     refine Or.elim (Classical.em (x12_1 < (l0.length : Int))) (fun c3 => ?p2_) (fun c3 => ?n2_)
     case' p2_ =>
      rw [if_pos c3] at H
      have c3b0 : decide (x12_1 < (l0.length : Int)) = true := decide_eq_true c3
      clear c3
      refine Or.elim (Classical.em (0 ≤ x12_1)) (fun c4 => ?p3_) (fun c4 => ?n3_)
      case' p3_ =>
       rw [if_pos c4] at H
       have c4b0 : decide (0 ≤ x12_1) = true := decide_eq_true c4
       clear c4
       refine Or.elim (Classical.em (x12_1 < (l0.length : Int))) (fun c5 => ?p4_) (fun c5 => ?n4_)
       case' p4_ =>
        rw [if_pos c5] at H
        have c5b0 : decide (x12_1 < (l0.length : Int)) = true := decide_eq_true c5
        clear c5
        replace H := Option.bind_eq_some_iff.mp H
        obtain ⟨t238, A60, H⟩ := H
        replace H : (if t238 = true then (if x12_1 ≤ (l0.length : Int) then ((api_RouteVolume_103.f (l0.take (x12_1 : Int).toNat) (route_CheckVolumes_1.p ((rd_T65 l0 x12_1).f0) ((rd_T65 l0 x12_1).f1.f0) ((rd_T65 l0 x12_1).f1.f1) ((rd_T65 l0 x12_1).f1.f2) ((rd_T65 l0 x12_1).f2))).bind fun t243 => (if t243 = true then (some 7) else ((volume_Check.f k1 ((rd_T65 l0 x12_1).f1.f0) ((rd_T65 l0 x12_1).f1.f1) ((rd_T65 l0 x12_1).f1.f2)).bind fun t244 => (if t244 = 0 then ((volume_CheckSpans.f k1 ((rd_T65 l0 x12_1).f2)).bind fun t245 => (if t245 = 0 then (route_CheckVolumes.l0 k1 l0 l0 (l0.length : Int) (wrap64 (x12_1 + 1))) else (some t245))) else (some t244))))) else (none)) else (some 5)) = some r := H
        have A6 := Aside0.mk A60
        clear A60
        refine Or.elim (Classical.em (t238 = true)) (fun c7 => ?p5_) (fun c7 => ?n5_)
        case' p5_ =>
         subst c7
         have H1 : (if x12_1 ≤ (l0.length : Int) then ((api_RouteVolume_103.f (l0.take (x12_1 : Int).toNat) (route_CheckVolumes_1.p ((rd_T65 l0 x12_1).f0) ((rd_T65 l0 x12_1).f1.f0) ((rd_T65 l0 x12_1).f1.f1) ((rd_T65 l0 x12_1).f1.f2) ((rd_T65 l0 x12_1).f2))).bind fun t243 => (if t243 = true then (some 7) else ((volume_Check.f k1 ((rd_T65 l0 x12_1).f1.f0) ((rd_T65 l0 x12_1).f1.f1) ((rd_T65 l0 x12_1).f1.f2)).bind fun t244 => (if t244 = 0 then ((volume_CheckSpans.f k1 ((rd_T65 l0 x12_1).f2)).bind fun t245 => (if t245 = 0 then (route_CheckVolumes.l0 k1 l0 l0 (l0.length : Int) (wrap64 (x12_1 + 1))) else (some t245))) else (some t244))))) else (none)) = some r := by rw [if_pos rfl] at H; exact H
         clear H
         have H := H1
         clear H1
         have c8b0 := eq_true (of_decide_eq_true (by first | (with_reducible assumption) | assumption) : 0 ≤ x12_1)
         refine Or.elim (Classical.em (x12_1 ≤ (l0.length : Int))) (fun c9 => ?p6_) (fun c9 => ?n6_)
         case' p6_ =>
          rw [if_pos c9] at H
          have c9b0 := eq_true c9
          have c9b1 : decide (x12_1 ≤ (l0.length : Int)) = true := decide_eq_true c9
          clear c9
          obtain ⟨y239, hy239⟩ : ∃ y_ : List (S65), y_ = (l0.take (x12_1 : Int).toNat) := ⟨_, rfl⟩
          replace H : ((api_RouteVolume_103.f y239 (route_CheckVolumes_1.p ((rd_T65 l0 x12_1).f0) ((rd_T65 l0 x12_1).f1.f0) ((rd_T65 l0 x12_1).f1.f1) ((rd_T65 l0 x12_1).f1.f2) ((rd_T65 l0 x12_1).f2))).bind fun t243 => (if t243 = true then (some 7) else ((volume_Check.f k1 ((rd_T65 l0 x12_1).f1.f0) ((rd_T65 l0 x12_1).f1.f1) ((rd_T65 l0 x12_1).f1.f2)).bind fun t244 => (if t244 = 0 then ((volume_CheckSpans.f k1 ((rd_T65 l0 x12_1).f2)).bind fun t245 => (if t245 = 0 then (route_CheckVolumes.l0 k1 l0 l0 (l0.length : Int) (wrap64 (x12_1 + 1))) else (some t245))) else (some t244))))) = some r := by first | (rw [hy239]; with_reducible exact H) | (have H2_ := (Option.bind_some _ _).symm.trans H; rw [hy239]; with_reducible exact H2_) | (have H2_ := (Option.bind_some _ _).symm.trans H; with_reducible exact H2_) | with_reducible exact H | (rw [hy239]; exact H) | exact H
          have Ny239 := Aside0.mk hy239
          clear hy239
          replace H := Option.bind_eq_some_iff.mp H
          obtain ⟨t243, A100, H⟩ := H
          replace H : (if t243 = true then (some 7) else ((volume_Check.f k1 ((rd_T65 l0 x12_1).f1.f0) ((rd_T65 l0 x12_1).f1.f1) ((rd_T65 l0 x12_1).f1.f2)).bind fun t244 => (if t244 = 0 then ((volume_CheckSpans.f k1 ((rd_T65 l0 x12_1).f2)).bind fun t245 => (if t245 = 0 then (route_CheckVolumes.l0 k1 l0 l0 (l0.length : Int) (wrap64 (x12_1 + 1))) else (some t245))) else (some t244)))) = some r := H
          have A10 := Aside0.mk A100
          clear A100
          refine Or.elim (Classical.em (t243 = true)) (fun c11 => ?p7_) (fun c11 => ?n7_)
          case' p7_ =>
           subst c11
           have H1 : (some 7) = some r := by rw [if_pos rfl] at H; exact H
           clear H
           have H := H1
           clear H1
           have hm1_0 := Aside0.mk trivial
          case' n7_ =>
           replace c11 := Bool.eq_false_iff.mpr c11
           subst c11
           have H1 : ((volume_Check.f k1 ((rd_T65 l0 x12_1).f1.f0) ((rd_T65 l0 x12_1).f1.f1) ((rd_T65 l0 x12_1).f1.f2)).bind fun t244 => (if t244 = 0 then ((volume_CheckSpans.f k1 ((rd_T65 l0 x12_1).f2)).bind fun t245 => (if t245 = 0 then (route_CheckVolumes.l0 k1 l0 l0 (l0.length : Int) (wrap64 (x12_1 + 1))) else (some t245))) else (some t244))) = some r := by rw [if_neg (show ¬ (false = true) by decide)] at H; exact H
           clear H
           have H := H1
           clear H1
           replace H := Option.bind_eq_some_iff.mp H
           obtain ⟨t244, A170, H⟩ := H
           replace H : (if t244 = 0 then ((volume_CheckSpans.f k1 ((rd_T65 l0 x12_1).f2)).bind fun t245 => (if t245 = 0 then (route_CheckVolumes.l0 k1 l0 l0 (l0.length : Int) (wrap64 (x12_1 + 1))) else (some t245))) else (some t244)) = some r := H
           have A17 := Aside0.mk A170
           clear A170
           refine Or.elim (Classical.em (t244 = 0)) (fun c18 => ?p8_) (fun c18 => ?n8_)
           case' p8_ =>
            rw [if_pos c18] at H
            have c18b0 : (t244 == 0) = true := beq_iff_eq.mpr c18
            have c18b1 : (t244 != 0) = false := bne_eq_false_iff_eq.mpr c18
            clear c18
            replace H := Option.bind_eq_some_iff.mp H
            obtain ⟨t245, A190, H⟩ := H
            replace H : (if t245 = 0 then (route_CheckVolumes.l0 k1 l0 l0 (l0.length : Int) (wrap64 (x12_1 + 1))) else (some t245)) = some r := H
            have A19 := Aside0.mk A190
            clear A190
            refine Or.elim (Classical.em (t245 = 0)) (fun c20 => ?p9_) (fun c20 => ?n9_)
            case' p9_ =>
             rw [if_pos c20] at H
             have c20b0 : (t245 == 0) = true := beq_iff_eq.mpr c20
             have c20b1 : (t245 != 0) = false := bne_eq_false_iff_eq.mpr c20
             clear c20
             have hm1_1 := Aside0.mk trivial
            case' n9_ =>
             rw [if_neg c20] at H
             have c20b0 : (t245 == 0) = false := beq_eq_false_iff_ne.mpr c20
             have c20b1 : (t245 != 0) = true := bne_iff_ne.mpr c20
             have hm1_0 := Aside0.mk trivial
           case' n8_ =>
            rw [if_neg c18] at H
            have c18b0 : (t244 == 0) = false := beq_eq_false_iff_ne.mpr c18
            have c18b1 : (t244 != 0) = true := bne_iff_ne.mpr c18
            have hm1_0 := Aside0.mk trivial
         case' n6_ =>
          rw [if_neg c9] at H
          exact absurd H (by simp)
        case' n5_ =>
         replace c7 := Bool.eq_false_iff.mpr c7
         subst c7
         have H1 : (some 5) = some r := by rw [if_neg (show ¬ (false = true) by decide)] at H; exact H
         clear H
         have H := H1
         clear H1
         have hm1_0 := Aside0.mk trivial
       case' n4_ =>
        rw [if_neg c5] at H
        exact absurd H (by simp)
      case' n3_ =>
       rw [if_neg c4] at H
       exact absurd H (by simp)
     case' n2_ =>
      rw [if_neg c3] at H
      have c3b0 : decide (x12_1 < (l0.length : Int)) = false := decide_eq_false c3
      clear c3
      have hm1_2 := Aside0.mk trivial
     all_goals
      first
       | (first | (have _hm := hm1_0) | (have _hm := hm1_2))
         obtain rfl := Option.some.inj H
         first
          | clear hm1_0
            have p236 : 0 ≤ (x12_1 : Int) := of_decide_eq_true (by first | (with_reducible assumption) | assumption)
            have q236 : x12_1 < (l0.length : Int) := of_decide_eq_true (by first | (with_reducible assumption) | assumption)
            obtain ⟨ad236, A236_1, c236_1, A236_4, c236_4, e236, hx236_0, hx236_1, hx236_2, hx236_3, hx236_4, hl236_1, hi236_1, hl236_4, hi236_4⟩ := at_T65 HR0.out x12_1 p236 q236
            cases e236
            replace hx236_0 := (HB.out.cell (World.block_lt_of_cell? w _ hx236_0)).trans hx236_0
            replace hx236_1 := (HB.out.cell (World.block_lt_of_cell? w _ hx236_1)).trans hx236_1
            replace hx236_2 := (HB.out.cell (World.block_lt_of_cell? w _ hx236_2)).trans hx236_2
            replace hx236_3 := (HB.out.cell (World.block_lt_of_cell? w _ hx236_3)).trans hx236_3
            replace hx236_4 := (HB.out.cell (World.block_lt_of_cell? w _ hx236_4)).trans hx236_4
            have HR236_1 := Aside0.mk hi236_1
            have HC236_1 := Aside0.mk hl236_1
            clear hi236_1 hl236_1
            have HR236_4 := Aside0.mk hi236_4
            have HC236_4 := Aside0.mk hl236_4
            clear hi236_4 hl236_4
            replace p236 := eq_true p236
            replace q236 := eq_true q236
            go_wp2_with (first | ((with_reducible refine gate_dst (N := 4) rfl ?_); refine box_event ?hg (N := 4) ?hd (cs := #[.string (⟨#[]⟩ : ByteArray), .slice none 0 0, .int .i64 0, .int .i64 0, .slice none 0 0]) (t := 65) ?hr ?_; (case hd => rfl); (case hg => rfl); (case hr => first | (go_simp; done) | (go_simp; rfl)); intro gb237 hg wx78561 hbox hb; have n0_ := Aside0.mk (below_step (by repeat (first | (with_reducible first | exact HB.out | apply below_alloc | apply pw_below_drewN | apply below_drew1) | exact HB.out)) hb); have n1_ := Aside0.mk (hbox); have n2_ := Aside0.mk ((by rw [hg]; exact (below_size (by repeat (first | (with_reducible first | exact HB.out | apply below_alloc | apply pw_below_drewN | apply below_drew1) | exact HB.out))) : w.heap.size ≤ gb237)); have n3_ := Aside0.mk ((by rw [hg]; exact (below_size (by repeat (first | (with_reducible first | exact HB.out | apply below_alloc | apply pw_below_drewN | apply below_drew1) | exact HB.out))) : w.heap.size ≤ gb237)); clear HB; have HB := n0_; have BK237 := n1_; have GW237 := n2_; have GE237 := n3_; clear n0_ n1_ n2_ n3_; clear hb hbox hg; have hczx78561 : wx78561.cell? ⟨gb237, 0, none⟩ = some (.string (⟨#[]⟩ : ByteArray)) := (blk_cell BK237.out 0).trans rfl; have hczx78562 : wx78561.cell? ⟨gb237, 1, none⟩ = some (.slice none 0 0) := (blk_cell BK237.out 1).trans rfl; have hczx78563 : wx78561.cell? ⟨gb237, 2, none⟩ = some (.int .i64 0) := (blk_cell BK237.out 2).trans rfl; have hczx78564 : wx78561.cell? ⟨gb237, 3, none⟩ = some (.int .i64 0) := (blk_cell BK237.out 3).trans rfl; have hczx78565 : wx78561.cell? ⟨gb237, 4, none⟩ = some (.slice none 0 0) := (blk_cell BK237.out 4).trans rfl; have hfzx78561 := blk_frozen BK237.out 0; have hfzx78562 := blk_frozen BK237.out 1; have hfzx78563 := blk_frozen BK237.out 2; have hfzx78564 := blk_frozen BK237.out 3; have hfzx78565 := blk_frozen BK237.out 4) | ((with_reducible refine gate_callee (f := 48) rfl ?_); refine goesL_ (some 20) rfl rfl Try.func48 (by kernel_rfl) rfl #[.string ((rd_T65 l0 x12_1).f0)] rfl (by (try simp only [List.map_toArray, List.map_cons, List.map_nil]); first | done | rfl | (simp only [List.length_drop, List.length_take]; rfl)) ?_; (with_reducible refine (chart_Name.calls k1 ((rd_T65 l0 x12_1).f0) true _ A6.out).mono ?_); rintro e wx3c3d1 ⟨rfl, hb⟩; refine ⟨_, rfl, ?_⟩; have n0_ := Aside0.mk (blk_below (g := gb237) (o := .cells #[.string ((rd_T65 l0 x12_1).f0), .slice A236_1 ((rd_T65 l0 x12_1).f1.f0).length c236_1, .int .i64 ((rd_T65 l0 x12_1).f1.f1), .int .i64 ((rd_T65 l0 x12_1).f1.f2), .slice A236_4 ((rd_T65 l0 x12_1).f2).length c236_4] 65 (0, 0)) (by (with_reducible repeat (first | refine blk_drewN ?_ _ | refine blk_drew ?_ | refine blk_alloc ?_ _)); refine blk_put (cs := #[.string ((rd_T65 l0 x12_1).f0), .slice A236_1 ((rd_T65 l0 x12_1).f1.f0).length c236_1, .int .i64 ((rd_T65 l0 x12_1).f1.f1), .int .i64 ((rd_T65 l0 x12_1).f1.f2), .slice none 0 0]) ?_ 4 _ rfl; (with_reducible repeat (first | refine blk_drewN ?_ _ | refine blk_drew ?_ | refine blk_alloc ?_ _)); refine blk_put (cs := #[.string ((rd_T65 l0 x12_1).f0), .slice A236_1 ((rd_T65 l0 x12_1).f1.f0).length c236_1, .int .i64 ((rd_T65 l0 x12_1).f1.f1), .int .i64 0, .slice none 0 0]) ?_ 3 _ rfl; (with_reducible repeat (first | refine blk_drewN ?_ _ | refine blk_drew ?_ | refine blk_alloc ?_ _)); refine blk_put (cs := #[.string ((rd_T65 l0 x12_1).f0), .slice A236_1 ((rd_T65 l0 x12_1).f1.f0).length c236_1, .int .i64 0, .int .i64 0, .slice none 0 0]) ?_ 2 _ rfl; (with_reducible repeat (first | refine blk_drewN ?_ _ | refine blk_drew ?_ | refine blk_alloc ?_ _)); refine blk_put (cs := #[.string ((rd_T65 l0 x12_1).f0), .slice none 0 0, .int .i64 0, .int .i64 0, .slice none 0 0]) ?_ 1 _ rfl; (with_reducible repeat (first | refine blk_drewN ?_ _ | refine blk_drew ?_ | refine blk_alloc ?_ _)); refine blk_put (cs := #[.string (⟨#[]⟩ : ByteArray), .slice none 0 0, .int .i64 0, .int .i64 0, .slice none 0 0]) ?_ 0 _ rfl; (with_reducible repeat (first | refine blk_drewN ?_ _ | refine blk_drew ?_ | refine blk_alloc ?_ _)); exact BK237.out) hb); have n1_ := Aside0.mk (below_step (by repeat (first | (with_reducible first | exact HB.out | apply below_alloc | apply pw_below_drewN | apply below_drew1 | refine below_set ?_ GE237.out) | exact HB.out)) hb); clear BK237; clear HB; have BK237 := n0_; have HB := n1_; clear n0_ n1_; (try clear hb); (try clear hb2); (try clear hk); (try clear hi); have q15 : (x12_1 : Int) ≤ ((l0.length : Int) : Int) := of_decide_eq_true (by first | (with_reducible assumption) | assumption); obtain ⟨i015, hi015, _, hsz15, _⟩ := info_parts info65; have hroom15 : l0.length ≤ c0 := HC0.out; have hC15 : Kd.C k65 _ (some ad236) l0.length l0 := HR0.out; have hcut15 := cut_to (P := Try.prog) 56 65 .i64 Try.underlying56 hi015 (some ad236) l0.length c0 x12_1 (of_decide_eq_true (by first | (with_reducible assumption) | assumption)) q15 hroom15; have hr15 := Kd.C_take (m := (x12_1 : Int).toNat) hC15 (by omega); have hy15 : y239.length = (x12_1 : Int).toNat := (by rw [Ny239.out, List.length_take]; omega); rw [← Ny239.out] at hr15; rw [← hy15] at hcut15; have HR242 := Aside0.mk hr15; have HC242 := Aside0.mk (show y239.length ≤ c0 from by omega); clear hr15 hC15 hroom15 hi015 hsz15; have KY15 := Aside0.mk hy15; clear hy15; replace q15 := eq_true q15) | ((with_reducible refine gate_callee (f := 48) rfl ?_); refine goesL_ (some 20) rfl rfl Try.func48 (by kernel_rfl) rfl #[.string ((rd_T65 l0 x12_1).f0)] rfl (by (try simp only [List.map_toArray, List.map_cons, List.map_nil]); first | done | rfl | (simp only [List.length_drop, List.length_take]; rfl)) ?_; (with_reducible refine (chart_Name.calls k1 ((rd_T65 l0 x12_1).f0) true _ A6.out).mono ?_); rintro e wxd56c1 ⟨rfl, hb⟩; refine ⟨_, rfl, ?_⟩; have n0_ := Aside0.mk (blk_below (g := gb237) (o := .cells #[.string ((rd_T65 l0 x12_1).f0), .slice A236_1 ((rd_T65 l0 x12_1).f1.f0).length c236_1, .int .i64 ((rd_T65 l0 x12_1).f1.f1), .int .i64 ((rd_T65 l0 x12_1).f1.f2), .slice A236_4 ((rd_T65 l0 x12_1).f2).length c236_4] 65 (0, 0)) (by (with_reducible repeat (first | refine blk_drewN ?_ _ | refine blk_drew ?_ | refine blk_alloc ?_ _)); refine blk_put (cs := #[.string ((rd_T65 l0 x12_1).f0), .slice A236_1 ((rd_T65 l0 x12_1).f1.f0).length c236_1, .int .i64 ((rd_T65 l0 x12_1).f1.f1), .int .i64 ((rd_T65 l0 x12_1).f1.f2), .slice none 0 0]) ?_ 4 _ rfl; (with_reducible repeat (first | refine blk_drewN ?_ _ | refine blk_drew ?_ | refine blk_alloc ?_ _)); refine blk_put (cs := #[.string ((rd_T65 l0 x12_1).f0), .slice A236_1 ((rd_T65 l0 x12_1).f1.f0).length c236_1, .int .i64 ((rd_T65 l0 x12_1).f1.f1), .int .i64 0, .slice none 0 0]) ?_ 3 _ rfl; (with_reducible repeat (first | refine blk_drewN ?_ _ | refine blk_drew ?_ | refine blk_alloc ?_ _)); refine blk_put (cs := #[.string ((rd_T65 l0 x12_1).f0), .slice A236_1 ((rd_T65 l0 x12_1).f1.f0).length c236_1, .int .i64 0, .int .i64 0, .slice none 0 0]) ?_ 2 _ rfl; (with_reducible repeat (first | refine blk_drewN ?_ _ | refine blk_drew ?_ | refine blk_alloc ?_ _)); refine blk_put (cs := #[.string ((rd_T65 l0 x12_1).f0), .slice none 0 0, .int .i64 0, .int .i64 0, .slice none 0 0]) ?_ 1 _ rfl; (with_reducible repeat (first | refine blk_drewN ?_ _ | refine blk_drew ?_ | refine blk_alloc ?_ _)); refine blk_put (cs := #[.string (⟨#[]⟩ : ByteArray), .slice none 0 0, .int .i64 0, .int .i64 0, .slice none 0 0]) ?_ 0 _ rfl; (with_reducible repeat (first | refine blk_drewN ?_ _ | refine blk_drew ?_ | refine blk_alloc ?_ _)); exact BK237.out) hb); have n1_ := Aside0.mk (below_step (by repeat (first | (with_reducible first | exact HB.out | apply below_alloc | apply pw_below_drewN | apply below_drew1 | refine below_set ?_ GE237.out) | exact HB.out)) hb); clear BK237; clear HB; have BK237 := n0_; have HB := n1_; clear n0_ n1_; (try clear hb); (try clear hb2); (try clear hk); (try clear hi); have q33 : (x12_1 : Int) ≤ ((l0.length : Int) : Int) := of_decide_eq_true (by first | (with_reducible assumption) | assumption); obtain ⟨i033, hi033, _, hsz33, _⟩ := info_parts info65; have hroom33 : l0.length ≤ c0 := HC0.out; have hC33 : Kd.C k65 _ (some ad236) l0.length l0 := HR0.out; have hcut33 := cut_to (P := Try.prog) 56 65 .i64 Try.underlying56 hi033 (some ad236) l0.length c0 x12_1 (of_decide_eq_true (by first | (with_reducible assumption) | assumption)) q33 hroom33; have hr33 := Kd.C_take (m := (x12_1 : Int).toNat) hC33 (by omega); have hy33 : y239.length = (x12_1 : Int).toNat := (by rw [Ny239.out, List.length_take]; omega); rw [← Ny239.out] at hr33; rw [← hy33] at hcut33; have HR242 := Aside0.mk hr33; have HC242 := Aside0.mk (show y239.length ≤ c0 from by omega); clear hr33 hC33 hroom33 hi033 hsz33; have KY33 := Aside0.mk hy33; clear hy33; replace q33 := eq_true q33) | ((with_reducible refine gate_callee (f := 48) rfl ?_); refine goesL_ (some 20) rfl rfl Try.func48 (by kernel_rfl) rfl #[.string ((rd_T65 l0 x12_1).f0)] rfl (by (try simp only [List.map_toArray, List.map_cons, List.map_nil]); first | done | rfl | (simp only [List.length_drop, List.length_take]; rfl)) ?_; (with_reducible refine (chart_Name.calls k1 ((rd_T65 l0 x12_1).f0) true _ A6.out).mono ?_); rintro e wxfc901 ⟨rfl, hb⟩; refine ⟨_, rfl, ?_⟩; have n0_ := Aside0.mk (blk_below (g := gb237) (o := .cells #[.string ((rd_T65 l0 x12_1).f0), .slice A236_1 ((rd_T65 l0 x12_1).f1.f0).length c236_1, .int .i64 ((rd_T65 l0 x12_1).f1.f1), .int .i64 ((rd_T65 l0 x12_1).f1.f2), .slice A236_4 ((rd_T65 l0 x12_1).f2).length c236_4] 65 (0, 0)) (by (with_reducible repeat (first | refine blk_drewN ?_ _ | refine blk_drew ?_ | refine blk_alloc ?_ _)); refine blk_put (cs := #[.string ((rd_T65 l0 x12_1).f0), .slice A236_1 ((rd_T65 l0 x12_1).f1.f0).length c236_1, .int .i64 ((rd_T65 l0 x12_1).f1.f1), .int .i64 ((rd_T65 l0 x12_1).f1.f2), .slice none 0 0]) ?_ 4 _ rfl; (with_reducible repeat (first | refine blk_drewN ?_ _ | refine blk_drew ?_ | refine blk_alloc ?_ _)); refine blk_put (cs := #[.string ((rd_T65 l0 x12_1).f0), .slice A236_1 ((rd_T65 l0 x12_1).f1.f0).length c236_1, .int .i64 ((rd_T65 l0 x12_1).f1.f1), .int .i64 0, .slice none 0 0]) ?_ 3 _ rfl; (with_reducible repeat (first | refine blk_drewN ?_ _ | refine blk_drew ?_ | refine blk_alloc ?_ _)); refine blk_put (cs := #[.string ((rd_T65 l0 x12_1).f0), .slice A236_1 ((rd_T65 l0 x12_1).f1.f0).length c236_1, .int .i64 0, .int .i64 0, .slice none 0 0]) ?_ 2 _ rfl; (with_reducible repeat (first | refine blk_drewN ?_ _ | refine blk_drew ?_ | refine blk_alloc ?_ _)); refine blk_put (cs := #[.string ((rd_T65 l0 x12_1).f0), .slice none 0 0, .int .i64 0, .int .i64 0, .slice none 0 0]) ?_ 1 _ rfl; (with_reducible repeat (first | refine blk_drewN ?_ _ | refine blk_drew ?_ | refine blk_alloc ?_ _)); refine blk_put (cs := #[.string (⟨#[]⟩ : ByteArray), .slice none 0 0, .int .i64 0, .int .i64 0, .slice none 0 0]) ?_ 0 _ rfl; (with_reducible repeat (first | refine blk_drewN ?_ _ | refine blk_drew ?_ | refine blk_alloc ?_ _)); exact BK237.out) hb); have n1_ := Aside0.mk (below_step (by repeat (first | (with_reducible first | exact HB.out | apply below_alloc | apply pw_below_drewN | apply below_drew1 | refine below_set ?_ GE237.out) | exact HB.out)) hb); clear BK237; clear HB; have BK237 := n0_; have HB := n1_; clear n0_ n1_; (try clear hb); (try clear hb2); (try clear hk); (try clear hi); have q42 : (x12_1 : Int) ≤ ((l0.length : Int) : Int) := of_decide_eq_true (by first | (with_reducible assumption) | assumption); obtain ⟨i042, hi042, _, hsz42, _⟩ := info_parts info65; have hroom42 : l0.length ≤ c0 := HC0.out; have hC42 : Kd.C k65 _ (some ad236) l0.length l0 := HR0.out; have hcut42 := cut_to (P := Try.prog) 56 65 .i64 Try.underlying56 hi042 (some ad236) l0.length c0 x12_1 (of_decide_eq_true (by first | (with_reducible assumption) | assumption)) q42 hroom42; have hr42 := Kd.C_take (m := (x12_1 : Int).toNat) hC42 (by omega); have hy42 : y239.length = (x12_1 : Int).toNat := (by rw [Ny239.out, List.length_take]; omega); rw [← Ny239.out] at hr42; rw [← hy42] at hcut42; have HR242 := Aside0.mk hr42; have HC242 := Aside0.mk (show y239.length ≤ c0 from by omega); clear hr42 hC42 hroom42 hi042 hsz42; have KY42 := Aside0.mk hy42; clear hy42; replace q42 := eq_true q42) | ((with_reducible refine gate_callee (f := 48) rfl ?_); refine goesL_ (some 20) rfl rfl Try.func48 (by kernel_rfl) rfl #[.string ((rd_T65 l0 x12_1).f0)] rfl (by (try simp only [List.map_toArray, List.map_cons, List.map_nil]); first | done | rfl | (simp only [List.length_drop, List.length_take]; rfl)) ?_; (with_reducible refine (chart_Name.calls k1 ((rd_T65 l0 x12_1).f0) false _ A6.out).mono ?_); rintro e wx4c6f1 ⟨rfl, hb⟩; refine ⟨_, rfl, ?_⟩; have n0_ := Aside0.mk (blk_below (g := gb237) (o := .cells #[.string ((rd_T65 l0 x12_1).f0), .slice A236_1 ((rd_T65 l0 x12_1).f1.f0).length c236_1, .int .i64 ((rd_T65 l0 x12_1).f1.f1), .int .i64 ((rd_T65 l0 x12_1).f1.f2), .slice A236_4 ((rd_T65 l0 x12_1).f2).length c236_4] 65 (0, 0)) (by (with_reducible repeat (first | refine blk_drewN ?_ _ | refine blk_drew ?_ | refine blk_alloc ?_ _)); refine blk_put (cs := #[.string ((rd_T65 l0 x12_1).f0), .slice A236_1 ((rd_T65 l0 x12_1).f1.f0).length c236_1, .int .i64 ((rd_T65 l0 x12_1).f1.f1), .int .i64 ((rd_T65 l0 x12_1).f1.f2), .slice none 0 0]) ?_ 4 _ rfl; (with_reducible repeat (first | refine blk_drewN ?_ _ | refine blk_drew ?_ | refine blk_alloc ?_ _)); refine blk_put (cs := #[.string ((rd_T65 l0 x12_1).f0), .slice A236_1 ((rd_T65 l0 x12_1).f1.f0).length c236_1, .int .i64 ((rd_T65 l0 x12_1).f1.f1), .int .i64 0, .slice none 0 0]) ?_ 3 _ rfl; (with_reducible repeat (first | refine blk_drewN ?_ _ | refine blk_drew ?_ | refine blk_alloc ?_ _)); refine blk_put (cs := #[.string ((rd_T65 l0 x12_1).f0), .slice A236_1 ((rd_T65 l0 x12_1).f1.f0).length c236_1, .int .i64 0, .int .i64 0, .slice none 0 0]) ?_ 2 _ rfl; (with_reducible repeat (first | refine blk_drewN ?_ _ | refine blk_drew ?_ | refine blk_alloc ?_ _)); refine blk_put (cs := #[.string ((rd_T65 l0 x12_1).f0), .slice none 0 0, .int .i64 0, .int .i64 0, .slice none 0 0]) ?_ 1 _ rfl; (with_reducible repeat (first | refine blk_drewN ?_ _ | refine blk_drew ?_ | refine blk_alloc ?_ _)); refine blk_put (cs := #[.string (⟨#[]⟩ : ByteArray), .slice none 0 0, .int .i64 0, .int .i64 0, .slice none 0 0]) ?_ 0 _ rfl; (with_reducible repeat (first | refine blk_drewN ?_ _ | refine blk_drew ?_ | refine blk_alloc ?_ _)); exact BK237.out) hb); have n1_ := Aside0.mk (below_step (by repeat (first | (with_reducible first | exact HB.out | apply below_alloc | apply pw_below_drewN | apply below_drew1 | refine below_set ?_ GE237.out) | exact HB.out)) hb); clear BK237; clear HB; have BK237 := n0_; have HB := n1_; clear n0_ n1_; (try clear hb); (try clear hb2); (try clear hk); (try clear hi)) | ((with_reducible refine gate_callee (f := 103) rfl ?_); refine goesL_ (some 27) rfl rfl Try.func103 (by kernel_rfl) rfl #[.slice (some ad236) y239.length c0, .func (.func 104) #[] #[.pointer (some ⟨gb237, 0, none⟩)]] rfl (by (try simp only [List.map_toArray, List.map_cons, List.map_nil]); first | done | rfl | (simp only [List.length_drop, List.length_take]; rfl)) ?_; (with_reducible refine (api_RouteVolume_103.calls _ _ y239 (route_CheckVolumes_1.p ((rd_T65 l0 x12_1).f0) ((rd_T65 l0 x12_1).f1.f0) ((rd_T65 l0 x12_1).f1.f1) ((rd_T65 l0 x12_1).f1.f2) ((rd_T65 l0 x12_1).f2)) false _ ?side1 ?side2 ?side3 A10.out).mono ?_); (case side1 => repeat (first | exact (Kd.C_below HR242.out HB.out) | (with_reducible refine Kd.C_alloc ?_ _) | (with_reducible refine Kd.C_drewN ?_ _) | (with_reducible refine Kd.C_drew ?_))); (case side2 => exact HC242.out); (case side3 => exact route_CheckVolumes_1.pred (by (with_reducible repeat (first | refine blk_drewN ?_ _ | refine blk_drew ?_ | refine blk_alloc ?_ _)); exact BK237.out)); rintro e wx25721 ⟨rfl, hb⟩; refine ⟨_, rfl, ?_⟩; have n0_ := Aside0.mk (blk_below (g := gb237) (o := .cells #[.string ((rd_T65 l0 x12_1).f0), .slice A236_1 ((rd_T65 l0 x12_1).f1.f0).length c236_1, .int .i64 ((rd_T65 l0 x12_1).f1.f1), .int .i64 ((rd_T65 l0 x12_1).f1.f2), .slice A236_4 ((rd_T65 l0 x12_1).f2).length c236_4] 65 (0, 0)) (by (with_reducible repeat (first | refine blk_drewN ?_ _ | refine blk_drew ?_ | refine blk_alloc ?_ _)); exact BK237.out) hb); have n1_ := Aside0.mk (below_step (by repeat (first | (with_reducible first | exact HB.out | apply below_alloc | apply pw_below_drewN | apply below_drew1 | refine below_set ?_ GE237.out) | exact HB.out)) hb); clear BK237; clear HB; have BK237 := n0_; have HB := n1_; clear n0_ n1_; (try clear hb); (try clear hb2); (try clear hk); (try clear hi); have hczx25721 : wx25721.cell? ⟨gb237, 0, none⟩ = some (.string ((rd_T65 l0 x12_1).f0)) := (blk_cell BK237.out 0).trans rfl; have hczx25722 : wx25721.cell? ⟨gb237, 1, none⟩ = some (.slice A236_1 ((rd_T65 l0 x12_1).f1.f0).length c236_1) := (blk_cell BK237.out 1).trans rfl; have hczx25723 : wx25721.cell? ⟨gb237, 2, none⟩ = some (.int .i64 ((rd_T65 l0 x12_1).f1.f1)) := (blk_cell BK237.out 2).trans rfl; have hczx25724 : wx25721.cell? ⟨gb237, 3, none⟩ = some (.int .i64 ((rd_T65 l0 x12_1).f1.f2)) := (blk_cell BK237.out 3).trans rfl; have hczx25725 : wx25721.cell? ⟨gb237, 4, none⟩ = some (.slice A236_4 ((rd_T65 l0 x12_1).f2).length c236_4) := (blk_cell BK237.out 4).trans rfl; have hfzx25721 := blk_frozen BK237.out 0; have hfzx25722 := blk_frozen BK237.out 1; have hfzx25723 := blk_frozen BK237.out 2; have hfzx25724 := blk_frozen BK237.out 3; have hfzx25725 := blk_frozen BK237.out 4) | ((with_reducible refine gate_callee (f := 103) rfl ?_); refine goesL_ (some 27) rfl rfl Try.func103 (by kernel_rfl) rfl #[.slice (some ad236) y239.length c0, .func (.func 104) #[] #[.pointer (some ⟨gb237, 0, none⟩)]] rfl (by (try simp only [List.map_toArray, List.map_cons, List.map_nil]); first | done | rfl | (simp only [List.length_drop, List.length_take]; rfl)) ?_; (with_reducible refine (api_RouteVolume_103.calls _ _ y239 (route_CheckVolumes_1.p ((rd_T65 l0 x12_1).f0) ((rd_T65 l0 x12_1).f1.f0) ((rd_T65 l0 x12_1).f1.f1) ((rd_T65 l0 x12_1).f1.f2) ((rd_T65 l0 x12_1).f2)) true _ ?side1 ?side2 ?side3 A10.out).mono ?_); (case side1 => repeat (first | exact (Kd.C_below HR242.out HB.out) | (with_reducible refine Kd.C_alloc ?_ _) | (with_reducible refine Kd.C_drewN ?_ _) | (with_reducible refine Kd.C_drew ?_))); (case side2 => exact HC242.out); (case side3 => exact route_CheckVolumes_1.pred (by (with_reducible repeat (first | refine blk_drewN ?_ _ | refine blk_drew ?_ | refine blk_alloc ?_ _)); exact BK237.out)); rintro e wx874f1 ⟨rfl, hb⟩; refine ⟨_, rfl, ?_⟩; have n0_ := Aside0.mk (blk_below (g := gb237) (o := .cells #[.string ((rd_T65 l0 x12_1).f0), .slice A236_1 ((rd_T65 l0 x12_1).f1.f0).length c236_1, .int .i64 ((rd_T65 l0 x12_1).f1.f1), .int .i64 ((rd_T65 l0 x12_1).f1.f2), .slice A236_4 ((rd_T65 l0 x12_1).f2).length c236_4] 65 (0, 0)) (by (with_reducible repeat (first | refine blk_drewN ?_ _ | refine blk_drew ?_ | refine blk_alloc ?_ _)); exact BK237.out) hb); have n1_ := Aside0.mk (below_step (by repeat (first | (with_reducible first | exact HB.out | apply below_alloc | apply pw_below_drewN | apply below_drew1 | refine below_set ?_ GE237.out) | exact HB.out)) hb); clear BK237; clear HB; have BK237 := n0_; have HB := n1_; clear n0_ n1_; (try clear hb); (try clear hb2); (try clear hk); (try clear hi)) | ((with_reducible refine gate_callee (f := 79) rfl ?_); refine goesL_ (some 30) rfl rfl Try.func79 (by kernel_rfl) rfl #[.agg #[.slice A236_1 ((rd_T65 l0 x12_1).f1.f0).length c236_1, .int .i64 ((rd_T65 l0 x12_1).f1.f1), .int .i64 ((rd_T65 l0 x12_1).f1.f2)]] rfl (by (try simp only [List.map_toArray, List.map_cons, List.map_nil]); first | done | rfl | (simp only [List.length_drop, List.length_take]; rfl)) ?_; (with_reducible refine (volume_Check.calls k1 _ _ ((rd_T65 l0 x12_1).f1.f0) ((rd_T65 l0 x12_1).f1.f1) ((rd_T65 l0 x12_1).f1.f2) t244 _ ?side1 ?side2 A17.out).mono ?_); (case side1 => repeat (first | exact (Kd.C_below HR236_1.out HB.out) | (with_reducible refine Kd.C_alloc ?_ _) | (with_reducible refine Kd.C_drewN ?_ _) | (with_reducible refine Kd.C_drew ?_))); (case side2 => exact HC236_1.out); rintro e wxcc841 ⟨rfl, hb⟩; refine ⟨_, rfl, ?_⟩; have n0_ := Aside0.mk (blk_below (g := gb237) (o := .cells #[.string ((rd_T65 l0 x12_1).f0), .slice A236_1 ((rd_T65 l0 x12_1).f1.f0).length c236_1, .int .i64 ((rd_T65 l0 x12_1).f1.f1), .int .i64 ((rd_T65 l0 x12_1).f1.f2), .slice A236_4 ((rd_T65 l0 x12_1).f2).length c236_4] 65 (0, 0)) (by (with_reducible repeat (first | refine blk_drewN ?_ _ | refine blk_drew ?_ | refine blk_alloc ?_ _)); exact BK237.out) hb); have n1_ := Aside0.mk (below_step (by repeat (first | (with_reducible first | exact HB.out | apply below_alloc | apply pw_below_drewN | apply below_drew1 | refine below_set ?_ GE237.out) | exact HB.out)) hb); clear BK237; clear HB; have BK237 := n0_; have HB := n1_; clear n0_ n1_; (try clear hb); (try clear hb2); (try clear hk); (try clear hi); have hczxcc841 : wxcc841.cell? ⟨gb237, 0, none⟩ = some (.string ((rd_T65 l0 x12_1).f0)) := (blk_cell BK237.out 0).trans rfl; have hczxcc842 : wxcc841.cell? ⟨gb237, 1, none⟩ = some (.slice A236_1 ((rd_T65 l0 x12_1).f1.f0).length c236_1) := (blk_cell BK237.out 1).trans rfl; have hczxcc843 : wxcc841.cell? ⟨gb237, 2, none⟩ = some (.int .i64 ((rd_T65 l0 x12_1).f1.f1)) := (blk_cell BK237.out 2).trans rfl; have hczxcc844 : wxcc841.cell? ⟨gb237, 3, none⟩ = some (.int .i64 ((rd_T65 l0 x12_1).f1.f2)) := (blk_cell BK237.out 3).trans rfl; have hczxcc845 : wxcc841.cell? ⟨gb237, 4, none⟩ = some (.slice A236_4 ((rd_T65 l0 x12_1).f2).length c236_4) := (blk_cell BK237.out 4).trans rfl; have hfzxcc841 := blk_frozen BK237.out 0; have hfzxcc842 := blk_frozen BK237.out 1; have hfzxcc843 := blk_frozen BK237.out 2; have hfzxcc844 := blk_frozen BK237.out 3; have hfzxcc845 := blk_frozen BK237.out 4) | ((with_reducible refine gate_callee (f := 79) rfl ?_); refine goesL_ (some 30) rfl rfl Try.func79 (by kernel_rfl) rfl #[.agg #[.slice A236_1 ((rd_T65 l0 x12_1).f1.f0).length c236_1, .int .i64 ((rd_T65 l0 x12_1).f1.f1), .int .i64 ((rd_T65 l0 x12_1).f1.f2)]] rfl (by (try simp only [List.map_toArray, List.map_cons, List.map_nil]); first | done | rfl | (simp only [List.length_drop, List.length_take]; rfl)) ?_; (with_reducible refine (volume_Check.calls k1 _ _ ((rd_T65 l0 x12_1).f1.f0) ((rd_T65 l0 x12_1).f1.f1) ((rd_T65 l0 x12_1).f1.f2) t244 _ ?side1 ?side2 A17.out).mono ?_); (case side1 => repeat (first | exact (Kd.C_below HR236_1.out HB.out) | (with_reducible refine Kd.C_alloc ?_ _) | (with_reducible refine Kd.C_drewN ?_ _) | (with_reducible refine Kd.C_drew ?_))); (case side2 => exact HC236_1.out); rintro e wx76481 ⟨rfl, hb⟩; refine ⟨_, rfl, ?_⟩; have n0_ := Aside0.mk (blk_below (g := gb237) (o := .cells #[.string ((rd_T65 l0 x12_1).f0), .slice A236_1 ((rd_T65 l0 x12_1).f1.f0).length c236_1, .int .i64 ((rd_T65 l0 x12_1).f1.f1), .int .i64 ((rd_T65 l0 x12_1).f1.f2), .slice A236_4 ((rd_T65 l0 x12_1).f2).length c236_4] 65 (0, 0)) (by (with_reducible repeat (first | refine blk_drewN ?_ _ | refine blk_drew ?_ | refine blk_alloc ?_ _)); exact BK237.out) hb); have n1_ := Aside0.mk (below_step (by repeat (first | (with_reducible first | exact HB.out | apply below_alloc | apply pw_below_drewN | apply below_drew1 | refine below_set ?_ GE237.out) | exact HB.out)) hb); clear BK237; clear HB; have BK237 := n0_; have HB := n1_; clear n0_ n1_; (try clear hb); (try clear hb2); (try clear hk); (try clear hi)) | ((with_reducible refine gate_callee (f := 80) rfl ?_); refine goesL_ (some 36) rfl rfl Try.func80 (by kernel_rfl) rfl #[.slice A236_4 ((rd_T65 l0 x12_1).f2).length c236_4] rfl (by (try simp only [List.map_toArray, List.map_cons, List.map_nil]); first | done | rfl | (simp only [List.length_drop, List.length_take]; rfl)) ?_; (with_reducible refine (volume_CheckSpans.calls k1 _ _ ((rd_T65 l0 x12_1).f2) t245 _ ?side1 ?side2 A19.out).mono ?_); (case side1 => repeat (first | exact (Kd.C_below HR236_4.out HB.out) | (with_reducible refine Kd.C_alloc ?_ _) | (with_reducible refine Kd.C_drewN ?_ _) | (with_reducible refine Kd.C_drew ?_))); (case side2 => exact HC236_4.out); rintro e wx5a931 ⟨rfl, hb⟩; refine ⟨_, rfl, ?_⟩; have n0_ := Aside0.mk (blk_below (g := gb237) (o := .cells #[.string ((rd_T65 l0 x12_1).f0), .slice A236_1 ((rd_T65 l0 x12_1).f1.f0).length c236_1, .int .i64 ((rd_T65 l0 x12_1).f1.f1), .int .i64 ((rd_T65 l0 x12_1).f1.f2), .slice A236_4 ((rd_T65 l0 x12_1).f2).length c236_4] 65 (0, 0)) (by (with_reducible repeat (first | refine blk_drewN ?_ _ | refine blk_drew ?_ | refine blk_alloc ?_ _)); exact BK237.out) hb); have n1_ := Aside0.mk (below_step (by repeat (first | (with_reducible first | exact HB.out | apply below_alloc | apply pw_below_drewN | apply below_drew1 | refine below_set ?_ GE237.out) | exact HB.out)) hb); clear BK237; clear HB; have BK237 := n0_; have HB := n1_; clear n0_ n1_; (try clear hb); (try clear hb2); (try clear hk); (try clear hi)))
            go_ret
            exact ⟨by first | rfl | (simp [errW_none, errW_some] <;> rfl) | (simp [*, errW_none, errW_some] <;> rfl), by repeat (first | (with_reducible first | exact HB.out | apply below_alloc | apply pw_below_drewN | apply below_drew1 | refine below_set ?_ GE237.out) | exact HB.out)⟩
          | clear hm1_2
            go_wp2
            go_ret
            exact ⟨by first | rfl | (simp [errW_none, errW_some] <;> rfl) | (simp [*, errW_none, errW_some] <;> rfl), by repeat (first | (with_reducible first | exact HB.out | apply below_alloc | apply pw_below_drewN | apply below_drew1) | exact HB.out)⟩
       | clear hm1_1
         have H' := Aside0.mk H
         clear H
         have p236 : 0 ≤ (x12_1 : Int) := of_decide_eq_true (by first | (with_reducible assumption) | assumption)
         have q236 : x12_1 < (l0.length : Int) := of_decide_eq_true (by first | (with_reducible assumption) | assumption)
         obtain ⟨ad236, A236_1, c236_1, A236_4, c236_4, e236, hx236_0, hx236_1, hx236_2, hx236_3, hx236_4, hl236_1, hi236_1, hl236_4, hi236_4⟩ := at_T65 HR0.out x12_1 p236 q236
         cases e236
         replace hx236_0 := (HB.out.cell (World.block_lt_of_cell? w _ hx236_0)).trans hx236_0
         replace hx236_1 := (HB.out.cell (World.block_lt_of_cell? w _ hx236_1)).trans hx236_1
         replace hx236_2 := (HB.out.cell (World.block_lt_of_cell? w _ hx236_2)).trans hx236_2
         replace hx236_3 := (HB.out.cell (World.block_lt_of_cell? w _ hx236_3)).trans hx236_3
         replace hx236_4 := (HB.out.cell (World.block_lt_of_cell? w _ hx236_4)).trans hx236_4
         have HR236_1 := Aside0.mk hi236_1
         have HC236_1 := Aside0.mk hl236_1
         clear hi236_1 hl236_1
         have HR236_4 := Aside0.mk hi236_4
         have HC236_4 := Aside0.mk hl236_4
         clear hi236_4 hl236_4
         replace p236 := eq_true p236
         replace q236 := eq_true q236
         go_wp2_with (first | ((with_reducible refine gate_dst (N := 4) rfl ?_); refine box_event ?hg (N := 4) ?hd (cs := #[.string (⟨#[]⟩ : ByteArray), .slice none 0 0, .int .i64 0, .int .i64 0, .slice none 0 0]) (t := 65) ?hr ?_; (case hd => rfl); (case hg => rfl); (case hr => first | (go_simp; done) | (go_simp; rfl)); intro gb237 hg wx78561 hbox hb; have n0_ := Aside0.mk (below_step (by repeat (first | (with_reducible first | exact HB.out | apply below_alloc | apply pw_below_drewN | apply below_drew1) | exact HB.out)) hb); have n1_ := Aside0.mk (hbox); have n2_ := Aside0.mk ((by rw [hg]; exact (below_size (by repeat (first | (with_reducible first | exact HB.out | apply below_alloc | apply pw_below_drewN | apply below_drew1) | exact HB.out))) : w.heap.size ≤ gb237)); have n3_ := Aside0.mk ((by rw [hg]; exact (below_size (by repeat (first | (with_reducible first | exact HB.out | apply below_alloc | apply pw_below_drewN | apply below_drew1) | exact HB.out))) : w.heap.size ≤ gb237)); clear HB; have HB := n0_; have BK237 := n1_; have GW237 := n2_; have GE237 := n3_; clear n0_ n1_ n2_ n3_; clear hb hbox hg; have hczx78561 : wx78561.cell? ⟨gb237, 0, none⟩ = some (.string (⟨#[]⟩ : ByteArray)) := (blk_cell BK237.out 0).trans rfl; have hczx78562 : wx78561.cell? ⟨gb237, 1, none⟩ = some (.slice none 0 0) := (blk_cell BK237.out 1).trans rfl; have hczx78563 : wx78561.cell? ⟨gb237, 2, none⟩ = some (.int .i64 0) := (blk_cell BK237.out 2).trans rfl; have hczx78564 : wx78561.cell? ⟨gb237, 3, none⟩ = some (.int .i64 0) := (blk_cell BK237.out 3).trans rfl; have hczx78565 : wx78561.cell? ⟨gb237, 4, none⟩ = some (.slice none 0 0) := (blk_cell BK237.out 4).trans rfl; have hfzx78561 := blk_frozen BK237.out 0; have hfzx78562 := blk_frozen BK237.out 1; have hfzx78563 := blk_frozen BK237.out 2; have hfzx78564 := blk_frozen BK237.out 3; have hfzx78565 := blk_frozen BK237.out 4) | ((with_reducible refine gate_callee (f := 48) rfl ?_); refine goesL_ (some 20) rfl rfl Try.func48 (by kernel_rfl) rfl #[.string ((rd_T65 l0 x12_1).f0)] rfl (by (try simp only [List.map_toArray, List.map_cons, List.map_nil]); first | done | rfl | (simp only [List.length_drop, List.length_take]; rfl)) ?_; (with_reducible refine (chart_Name.calls k1 ((rd_T65 l0 x12_1).f0) true _ A6.out).mono ?_); rintro e wxc0e21 ⟨rfl, hb⟩; refine ⟨_, rfl, ?_⟩; have n0_ := Aside0.mk (blk_below (g := gb237) (o := .cells #[.string ((rd_T65 l0 x12_1).f0), .slice A236_1 ((rd_T65 l0 x12_1).f1.f0).length c236_1, .int .i64 ((rd_T65 l0 x12_1).f1.f1), .int .i64 ((rd_T65 l0 x12_1).f1.f2), .slice A236_4 ((rd_T65 l0 x12_1).f2).length c236_4] 65 (0, 0)) (by (with_reducible repeat (first | refine blk_drewN ?_ _ | refine blk_drew ?_ | refine blk_alloc ?_ _)); refine blk_put (cs := #[.string ((rd_T65 l0 x12_1).f0), .slice A236_1 ((rd_T65 l0 x12_1).f1.f0).length c236_1, .int .i64 ((rd_T65 l0 x12_1).f1.f1), .int .i64 ((rd_T65 l0 x12_1).f1.f2), .slice none 0 0]) ?_ 4 _ rfl; (with_reducible repeat (first | refine blk_drewN ?_ _ | refine blk_drew ?_ | refine blk_alloc ?_ _)); refine blk_put (cs := #[.string ((rd_T65 l0 x12_1).f0), .slice A236_1 ((rd_T65 l0 x12_1).f1.f0).length c236_1, .int .i64 ((rd_T65 l0 x12_1).f1.f1), .int .i64 0, .slice none 0 0]) ?_ 3 _ rfl; (with_reducible repeat (first | refine blk_drewN ?_ _ | refine blk_drew ?_ | refine blk_alloc ?_ _)); refine blk_put (cs := #[.string ((rd_T65 l0 x12_1).f0), .slice A236_1 ((rd_T65 l0 x12_1).f1.f0).length c236_1, .int .i64 0, .int .i64 0, .slice none 0 0]) ?_ 2 _ rfl; (with_reducible repeat (first | refine blk_drewN ?_ _ | refine blk_drew ?_ | refine blk_alloc ?_ _)); refine blk_put (cs := #[.string ((rd_T65 l0 x12_1).f0), .slice none 0 0, .int .i64 0, .int .i64 0, .slice none 0 0]) ?_ 1 _ rfl; (with_reducible repeat (first | refine blk_drewN ?_ _ | refine blk_drew ?_ | refine blk_alloc ?_ _)); refine blk_put (cs := #[.string (⟨#[]⟩ : ByteArray), .slice none 0 0, .int .i64 0, .int .i64 0, .slice none 0 0]) ?_ 0 _ rfl; (with_reducible repeat (first | refine blk_drewN ?_ _ | refine blk_drew ?_ | refine blk_alloc ?_ _)); exact BK237.out) hb); have n1_ := Aside0.mk (below_step (by repeat (first | (with_reducible first | exact HB.out | apply below_alloc | apply pw_below_drewN | apply below_drew1 | refine below_set ?_ GE237.out) | exact HB.out)) hb); clear BK237; clear HB; have BK237 := n0_; have HB := n1_; clear n0_ n1_; (try clear hb); (try clear hb2); (try clear hk); (try clear hi); have q24 : (x12_1 : Int) ≤ ((l0.length : Int) : Int) := of_decide_eq_true (by first | (with_reducible assumption) | assumption); obtain ⟨i024, hi024, _, hsz24, _⟩ := info_parts info65; have hroom24 : l0.length ≤ c0 := HC0.out; have hC24 : Kd.C k65 _ (some ad236) l0.length l0 := HR0.out; have hcut24 := cut_to (P := Try.prog) 56 65 .i64 Try.underlying56 hi024 (some ad236) l0.length c0 x12_1 (of_decide_eq_true (by first | (with_reducible assumption) | assumption)) q24 hroom24; have hr24 := Kd.C_take (m := (x12_1 : Int).toNat) hC24 (by omega); have hy24 : y239.length = (x12_1 : Int).toNat := (by rw [Ny239.out, List.length_take]; omega); rw [← Ny239.out] at hr24; rw [← hy24] at hcut24; have HR242 := Aside0.mk hr24; have HC242 := Aside0.mk (show y239.length ≤ c0 from by omega); clear hr24 hC24 hroom24 hi024 hsz24; have KY24 := Aside0.mk hy24; clear hy24; replace q24 := eq_true q24) | ((with_reducible refine gate_callee (f := 103) rfl ?_); refine goesL_ (some 27) rfl rfl Try.func103 (by kernel_rfl) rfl #[.slice (some ad236) y239.length c0, .func (.func 104) #[] #[.pointer (some ⟨gb237, 0, none⟩)]] rfl (by (try simp only [List.map_toArray, List.map_cons, List.map_nil]); first | done | rfl | (simp only [List.length_drop, List.length_take]; rfl)) ?_; (with_reducible refine (api_RouteVolume_103.calls _ _ y239 (route_CheckVolumes_1.p ((rd_T65 l0 x12_1).f0) ((rd_T65 l0 x12_1).f1.f0) ((rd_T65 l0 x12_1).f1.f1) ((rd_T65 l0 x12_1).f1.f2) ((rd_T65 l0 x12_1).f2)) false _ ?side1 ?side2 ?side3 A10.out).mono ?_); (case side1 => repeat (first | exact (Kd.C_below HR242.out HB.out) | (with_reducible refine Kd.C_alloc ?_ _) | (with_reducible refine Kd.C_drewN ?_ _) | (with_reducible refine Kd.C_drew ?_))); (case side2 => exact HC242.out); (case side3 => exact route_CheckVolumes_1.pred (by (with_reducible repeat (first | refine blk_drewN ?_ _ | refine blk_drew ?_ | refine blk_alloc ?_ _)); exact BK237.out)); rintro e wx25721 ⟨rfl, hb⟩; refine ⟨_, rfl, ?_⟩; have n0_ := Aside0.mk (blk_below (g := gb237) (o := .cells #[.string ((rd_T65 l0 x12_1).f0), .slice A236_1 ((rd_T65 l0 x12_1).f1.f0).length c236_1, .int .i64 ((rd_T65 l0 x12_1).f1.f1), .int .i64 ((rd_T65 l0 x12_1).f1.f2), .slice A236_4 ((rd_T65 l0 x12_1).f2).length c236_4] 65 (0, 0)) (by (with_reducible repeat (first | refine blk_drewN ?_ _ | refine blk_drew ?_ | refine blk_alloc ?_ _)); exact BK237.out) hb); have n1_ := Aside0.mk (below_step (by repeat (first | (with_reducible first | exact HB.out | apply below_alloc | apply pw_below_drewN | apply below_drew1 | refine below_set ?_ GE237.out) | exact HB.out)) hb); clear BK237; clear HB; have BK237 := n0_; have HB := n1_; clear n0_ n1_; (try clear hb); (try clear hb2); (try clear hk); (try clear hi); have hczx25721 : wx25721.cell? ⟨gb237, 0, none⟩ = some (.string ((rd_T65 l0 x12_1).f0)) := (blk_cell BK237.out 0).trans rfl; have hczx25722 : wx25721.cell? ⟨gb237, 1, none⟩ = some (.slice A236_1 ((rd_T65 l0 x12_1).f1.f0).length c236_1) := (blk_cell BK237.out 1).trans rfl; have hczx25723 : wx25721.cell? ⟨gb237, 2, none⟩ = some (.int .i64 ((rd_T65 l0 x12_1).f1.f1)) := (blk_cell BK237.out 2).trans rfl; have hczx25724 : wx25721.cell? ⟨gb237, 3, none⟩ = some (.int .i64 ((rd_T65 l0 x12_1).f1.f2)) := (blk_cell BK237.out 3).trans rfl; have hczx25725 : wx25721.cell? ⟨gb237, 4, none⟩ = some (.slice A236_4 ((rd_T65 l0 x12_1).f2).length c236_4) := (blk_cell BK237.out 4).trans rfl; have hfzx25721 := blk_frozen BK237.out 0; have hfzx25722 := blk_frozen BK237.out 1; have hfzx25723 := blk_frozen BK237.out 2; have hfzx25724 := blk_frozen BK237.out 3; have hfzx25725 := blk_frozen BK237.out 4) | ((with_reducible refine gate_callee (f := 79) rfl ?_); refine goesL_ (some 30) rfl rfl Try.func79 (by kernel_rfl) rfl #[.agg #[.slice A236_1 ((rd_T65 l0 x12_1).f1.f0).length c236_1, .int .i64 ((rd_T65 l0 x12_1).f1.f1), .int .i64 ((rd_T65 l0 x12_1).f1.f2)]] rfl (by (try simp only [List.map_toArray, List.map_cons, List.map_nil]); first | done | rfl | (simp only [List.length_drop, List.length_take]; rfl)) ?_; (with_reducible refine (volume_Check.calls k1 _ _ ((rd_T65 l0 x12_1).f1.f0) ((rd_T65 l0 x12_1).f1.f1) ((rd_T65 l0 x12_1).f1.f2) t244 _ ?side1 ?side2 A17.out).mono ?_); (case side1 => repeat (first | exact (Kd.C_below HR236_1.out HB.out) | (with_reducible refine Kd.C_alloc ?_ _) | (with_reducible refine Kd.C_drewN ?_ _) | (with_reducible refine Kd.C_drew ?_))); (case side2 => exact HC236_1.out); rintro e wxcc841 ⟨rfl, hb⟩; refine ⟨_, rfl, ?_⟩; have n0_ := Aside0.mk (blk_below (g := gb237) (o := .cells #[.string ((rd_T65 l0 x12_1).f0), .slice A236_1 ((rd_T65 l0 x12_1).f1.f0).length c236_1, .int .i64 ((rd_T65 l0 x12_1).f1.f1), .int .i64 ((rd_T65 l0 x12_1).f1.f2), .slice A236_4 ((rd_T65 l0 x12_1).f2).length c236_4] 65 (0, 0)) (by (with_reducible repeat (first | refine blk_drewN ?_ _ | refine blk_drew ?_ | refine blk_alloc ?_ _)); exact BK237.out) hb); have n1_ := Aside0.mk (below_step (by repeat (first | (with_reducible first | exact HB.out | apply below_alloc | apply pw_below_drewN | apply below_drew1 | refine below_set ?_ GE237.out) | exact HB.out)) hb); clear BK237; clear HB; have BK237 := n0_; have HB := n1_; clear n0_ n1_; (try clear hb); (try clear hb2); (try clear hk); (try clear hi); have hczxcc841 : wxcc841.cell? ⟨gb237, 0, none⟩ = some (.string ((rd_T65 l0 x12_1).f0)) := (blk_cell BK237.out 0).trans rfl; have hczxcc842 : wxcc841.cell? ⟨gb237, 1, none⟩ = some (.slice A236_1 ((rd_T65 l0 x12_1).f1.f0).length c236_1) := (blk_cell BK237.out 1).trans rfl; have hczxcc843 : wxcc841.cell? ⟨gb237, 2, none⟩ = some (.int .i64 ((rd_T65 l0 x12_1).f1.f1)) := (blk_cell BK237.out 2).trans rfl; have hczxcc844 : wxcc841.cell? ⟨gb237, 3, none⟩ = some (.int .i64 ((rd_T65 l0 x12_1).f1.f2)) := (blk_cell BK237.out 3).trans rfl; have hczxcc845 : wxcc841.cell? ⟨gb237, 4, none⟩ = some (.slice A236_4 ((rd_T65 l0 x12_1).f2).length c236_4) := (blk_cell BK237.out 4).trans rfl; have hfzxcc841 := blk_frozen BK237.out 0; have hfzxcc842 := blk_frozen BK237.out 1; have hfzxcc843 := blk_frozen BK237.out 2; have hfzxcc844 := blk_frozen BK237.out 3; have hfzxcc845 := blk_frozen BK237.out 4) | ((with_reducible refine gate_callee (f := 80) rfl ?_); refine goesL_ (some 36) rfl rfl Try.func80 (by kernel_rfl) rfl #[.slice A236_4 ((rd_T65 l0 x12_1).f2).length c236_4] rfl (by (try simp only [List.map_toArray, List.map_cons, List.map_nil]); first | done | rfl | (simp only [List.length_drop, List.length_take]; rfl)) ?_; (with_reducible refine (volume_CheckSpans.calls k1 _ _ ((rd_T65 l0 x12_1).f2) t245 _ ?side1 ?side2 A19.out).mono ?_); (case side1 => repeat (first | exact (Kd.C_below HR236_4.out HB.out) | (with_reducible refine Kd.C_alloc ?_ _) | (with_reducible refine Kd.C_drewN ?_ _) | (with_reducible refine Kd.C_drew ?_))); (case side2 => exact HC236_4.out); rintro e wx5a931 ⟨rfl, hb⟩; refine ⟨_, rfl, ?_⟩; have n0_ := Aside0.mk (blk_below (g := gb237) (o := .cells #[.string ((rd_T65 l0 x12_1).f0), .slice A236_1 ((rd_T65 l0 x12_1).f1.f0).length c236_1, .int .i64 ((rd_T65 l0 x12_1).f1.f1), .int .i64 ((rd_T65 l0 x12_1).f1.f2), .slice A236_4 ((rd_T65 l0 x12_1).f2).length c236_4] 65 (0, 0)) (by (with_reducible repeat (first | refine blk_drewN ?_ _ | refine blk_drew ?_ | refine blk_alloc ?_ _)); exact BK237.out) hb); have n1_ := Aside0.mk (below_step (by repeat (first | (with_reducible first | exact HB.out | apply below_alloc | apply pw_below_drewN | apply below_drew1 | refine below_set ?_ GE237.out) | exact HB.out)) hb); clear BK237; clear HB; have BK237 := n0_; have HB := n1_; clear n0_ n1_; (try clear hb); (try clear hb2); (try clear hk); (try clear hi)))
         go_roundg k1
         case measure => have := HK1.out; omega
         case rel => exact ⟨(wrap64 (x12_1 + 1)), (by first | rfl | (simp; done) | (simp [*]; done)), H', ⟨by have := HK1.out; omega⟩, ⟨by repeat (first | (with_reducible first | exact HB.out | apply below_alloc | apply pw_below_drewN | apply below_drew1 | refine below_set ?_ GE237.out) | exact HB.out)⟩⟩

/-! ### fly_closed: function 78 -/
def fly_closed.l0 : Nat → Int → List (S140) → Int → Int → Option (Bool)
  | 0, _, _, _, _ => none
  | k + 1, x1, x8, x9, x10 => if x10 < x9 then (if 0 ≤ x10 then (if x10 < (x8.length : Int) then (if x1 ≥ ((rd_T140 x8 x10).f0) then (if x1 < ((rd_T140 x8 x10).f1) then (some true) else (fly_closed.l0 k x1 x8 x9 (wrap64 (x10 + 1)))) else (fly_closed.l0 k x1 x8 x9 (wrap64 (x10 + 1)))) else (none)) else (none)) else (some false)
def fly_closed.f (k : Nat) (a0_0 : ByteArray) (l0_1 : List (S36)) (a0_2 : Int) (a0_3 : Int) (l0_4 : List (S140)) (a1 : Int) : Option (Bool) := fly_closed.l0 k a1 l0_4 (l0_4.length : Int) 0
theorem fly_closed.mono_l : ∀ k, (∀ y0 y1 y2 y3, LeO (fly_closed.l0 k y0 y1 y2 y3) (fly_closed.l0 (k + 1) y0 y1 y2 y3))
  | 0 => fun _ _ _ _ r h => by simp [fly_closed.l0] at h
  | k + 1 => by
    have ih0 := fly_closed.mono_l k
    · intro y0 y1 y2 y3
      unfold fly_closed.l0
      repeat' first
      | (with_reducible exact ih0 _ _ _ _)
      | (with_reducible exact LeO.refl _)
      | (with_reducible exact LeO.none _)
      | (with_reducible refine LeO.ite ?_ ?_)
      | (with_reducible refine LeO.bind ?_ (fun _ => ?_))
      | exact ih0 _ _ _ _
      | exact LeO.none _
      | refine LeO.ite ?_ ?_
      | refine LeO.bind ?_ (fun _ => ?_)
theorem fly_closed.mono : ∀ a0 a1 a2 a3 a4 a5 k, LeO (fly_closed.f k a0 a1 a2 a3 a4 a5) (fly_closed.f (k + 1) a0 a1 a2 a3 a4 a5) := by
  intro a0 a1 a2 a3 a4 a5 k
  have ih0 := fly_closed.mono_l k
  unfold fly_closed.f
  repeat' first
      | (with_reducible exact ih0 _ _ _ _)
      | (with_reducible exact LeO.refl _)
      | (with_reducible exact LeO.none _)
      | (with_reducible refine LeO.ite ?_ ?_)
      | (with_reducible refine LeO.bind ?_ (fun _ => ?_))
      | exact ih0 _ _ _ _
      | exact LeO.none _
      | refine LeO.ite ?_ ?_
      | refine LeO.bind ?_ (fun _ => ?_)
set_option maxHeartbeats 8000000 in
set_option maxRecDepth 100000 in
theorem fly_closed.calls (k : Nat) (a0_0 : ByteArray) (A0_1 : Option Addr) (c0_1 : Nat) (l0_1 : List (S36)) (a0_2 : Int) (a0_3 : Int) (A0_4 : Option Addr) (c0_4 : Nat) (l0_4 : List (S140)) (a1 : Int) (r : Bool) (w : World) (hr0_1 : Kd.C k36 w A0_1 l0_1.length l0_1) (hc0_1 : l0_1.length ≤ c0_1) (hr0_4 : Kd.C k140 w A0_4 l0_4.length l0_4) (hc0_4 : l0_4.length ≤ c0_4) (h : fly_closed.f k a0_0 l0_1 a0_2 a0_3 l0_4 a1 = some r) :
    Calls Try.prog 78 #[.agg #[.string a0_0, .slice A0_1 l0_1.length c0_1, .int .i64 a0_2, .int .i64 a0_3, .slice A0_4 l0_4.length c0_4], .int .i64 a1] w fun e w' => e = .returned (.bool r) ∧ Below w.heap.size w w' := by
 have hu65 := Try.underlying65
 have hu140 := Try.underlying140
 have HR0_1 := Aside0.mk hr0_1
 have HC0_1 := Aside0.mk hc0_1
 clear hr0_1 hc0_1
 have HR0_4 := Aside0.mk hr0_4
 have HC0_4 := Aside0.mk hc0_4
 clear hr0_4 hc0_4
 have HB := Aside0.mk (Below.refl w.heap.size w)
 have H : (fly_closed.l0 k a1 l0_4 (l0_4.length : Int) 0) = some r := h
 clear h
 have H' := Aside0.mk H
 clear H
 go_enter Try.func78, Try.ntmps78
 go_wp2_with (first | ((with_reducible refine gate_dst (N := 2) rfl ?_); refine box_event ?hg (N := 2) ?hd (cs := #[.string a0_0, .slice A0_1 l0_1.length c0_1, .int .i64 a0_2, .int .i64 a0_3, .slice A0_4 l0_4.length c0_4]) (t := 65) ?hr ?_; (case hd => rfl); (case hg => rfl); (case hr => first | (go_simp; done) | (go_simp; rfl)); intro gb246 hg w3 hbox hb; have n0_ := Aside0.mk (below_step (by repeat (first | (with_reducible first | exact HB.out | apply below_alloc | apply pw_below_drewN | apply below_drew1) | exact HB.out)) hb); have n1_ := Aside0.mk (hbox); have n2_ := Aside0.mk ((by rw [hg]; exact (below_size (by repeat (first | (with_reducible first | exact HB.out | apply below_alloc | apply pw_below_drewN | apply below_drew1) | exact HB.out))) : w.heap.size ≤ gb246)); have n3_ := Aside0.mk ((by rw [hg]; exact (below_size (by repeat (first | (with_reducible first | exact HB.out | apply below_alloc | apply pw_below_drewN | apply below_drew1) | exact HB.out))) : w.heap.size ≤ gb246)); clear HB; have HB := n0_; have BK246 := n1_; have GW246 := n2_; have GE246 := n3_; clear n0_ n1_ n2_ n3_; clear hb hbox hg; have hcz4_0 : w3.cell? ⟨gb246, 0, none⟩ = some (.string a0_0) := (blk_cell BK246.out 0).trans rfl; have hcz4_1 : w3.cell? ⟨gb246, 1, none⟩ = some (.slice A0_1 l0_1.length c0_1) := (blk_cell BK246.out 1).trans rfl; have hcz4_2 : w3.cell? ⟨gb246, 2, none⟩ = some (.int .i64 a0_2) := (blk_cell BK246.out 2).trans rfl; have hcz4_3 : w3.cell? ⟨gb246, 3, none⟩ = some (.int .i64 a0_3) := (blk_cell BK246.out 3).trans rfl; have hcz4_4 : w3.cell? ⟨gb246, 4, none⟩ = some (.slice A0_4 l0_4.length c0_4) := (blk_cell BK246.out 4).trans rfl; have hfz4_0 := blk_frozen BK246.out 0; have hfz4_1 := blk_frozen BK246.out 1; have hfz4_2 := blk_frozen BK246.out 2; have hfz4_3 := blk_frozen BK246.out 3; have hfz4_4 := blk_frozen BK246.out 4))
 go_loopg [10] k (fun kq v10 w' => ∃ (x10_1 : Int), v10 = .int .i64 x10_1 ∧ Aside0 (fly_closed.l0 kq a1 l0_4 (l0_4.length : Int) x10_1 = some r) ∧ Aside0 (kq ≤ k) ∧ Aside0 (w'.heap[gb246]? = some (.cells #[.string a0_0, (.slice A0_1 l0_1.length c0_1), .int .i64 a0_2, .int .i64 a0_3, (.slice A0_4 l0_4.length c0_4)] 65 (0, 0))) ∧ Aside0 (Below w.heap.size w w'))
 case atStart => exact ⟨(0), (by first | rfl | (simp; done) | (simp [*]; done)), H', ⟨Nat.le_refl _⟩, ⟨by (with_reducible repeat (first | refine blk_drewN ?_ _ | refine blk_drew ?_ | refine blk_alloc ?_ _)); exact BK246.out⟩, ⟨by repeat (first | (with_reducible first | exact HB.out | apply below_alloc | apply pw_below_drewN | apply below_drew1 | refine below_set ?_ GE246.out) | exact HB.out)⟩⟩
 case round =>
  clear H'
  (try clear p2); (try clear hcz4_0); (try clear hcz4_1); (try clear hcz4_2); (try clear hcz4_3); (try clear hcz4_4); (try clear hfz4_0); (try clear hfz4_1); (try clear hfz4_2); (try clear hfz4_3); (try clear hfz4_4)
  obtain ⟨x10_1, rfl, HA, HK1, BK246, HB⟩ := hrel
  cases gk with
  | zero => exact absurd HA.out (by simp [fly_closed.l0])
  | succ k1 =>
   have H := HA.out
   clear HA
   simp only [fly_closed.l0] at H
   refine Or.elim (Classical.em (x10_1 < (l0_4.length : Int))) (fun c5 => ?p2_) (fun c5 => ?n2_)
   case' p2_ =>
    rw [if_pos c5] at H
    have c5b0 : decide (x10_1 < (l0_4.length : Int)) = true := decide_eq_true c5
    clear c5
    refine Or.elim (Classical.em (0 ≤ x10_1)) (fun c6 => ?p3_) (fun c6 => ?n3_)
    case' p3_ =>
     rw [if_pos c6] at H
     have c6b0 : decide (0 ≤ x10_1) = true := decide_eq_true c6
     clear c6
     refine Or.elim (Classical.em (x10_1 < (l0_4.length : Int))) (fun c7 => ?p4_) (fun c7 => ?n4_)
     case' p4_ =>
      rw [if_pos c7] at H
      have c7b0 : decide (x10_1 < (l0_4.length : Int)) = true := decide_eq_true c7
      clear c7
      refine Or.elim (Classical.em (a1 ≥ ((rd_T140 l0_4 x10_1).f0))) (fun c8 => ?p5_) (fun c8 => ?n5_)
      case' p5_ =>
       rw [if_pos c8] at H
       have c8b0 : decide (((rd_T140 l0_4 x10_1).f0) ≤ a1) = true := decide_eq_true c8
       clear c8
       refine Or.elim (Classical.em (a1 < ((rd_T140 l0_4 x10_1).f1))) (fun c9 => ?p6_) (fun c9 => ?n6_)
       case' p6_ =>
        rw [if_pos c9] at H
        have c9b0 : decide (a1 < ((rd_T140 l0_4 x10_1).f1)) = true := decide_eq_true c9
        clear c9
        have hm1_0 := Aside0.mk trivial
       case' n6_ =>
        rw [if_neg c9] at H
        have c9b0 : decide (a1 < ((rd_T140 l0_4 x10_1).f1)) = false := decide_eq_false c9
        clear c9
        have hm1_1 := Aside0.mk trivial
      case' n5_ =>
       rw [if_neg c8] at H
       have c8b0 : decide (((rd_T140 l0_4 x10_1).f0) ≤ a1) = false := decide_eq_false c8
       clear c8
       have hm1_1 := Aside0.mk trivial
     case' n4_ =>
      rw [if_neg c7] at H
      exact absurd H (by simp)
    case' n3_ =>
     rw [if_neg c6] at H
     exact absurd H (by simp)
   case' n2_ =>
    rw [if_neg c5] at H
    have c5b0 : decide (x10_1 < (l0_4.length : Int)) = false := decide_eq_false c5
    clear c5
    have hm1_2 := Aside0.mk trivial
   all_goals
    first
     | (first | (have _hm := hm1_0) | (have _hm := hm1_2))
       obtain rfl := Option.some.inj H
       first
        | clear hm1_0
          have p247 : 0 ≤ (x10_1 : Int) := of_decide_eq_true (by first | (with_reducible assumption) | assumption)
          have q247 : x10_1 < (l0_4.length : Int) := of_decide_eq_true (by first | (with_reducible assumption) | assumption)
          obtain ⟨ad247, e247, hx247_0, hx247_1⟩ := at_T140 HR0_4.out x10_1 p247 q247
          cases e247
          replace hx247_0 := (HB.out.cell (World.block_lt_of_cell? w _ hx247_0)).trans hx247_0
          replace hx247_1 := (HB.out.cell (World.block_lt_of_cell? w _ hx247_1)).trans hx247_1
          replace p247 := eq_true p247
          replace q247 := eq_true q247
          go_wp2_with (first | ((with_reducible refine gate_dst (N := 6) rfl ?_); refine box_event ?hg (N := 6) ?hd (cs := #[.int .i64 0, .int .i64 0]) (t := 140) ?hr ?_; (case hd => rfl); (case hg => rfl); (case hr => first | (go_simp; done) | (go_simp; rfl)); intro gb248 hg wx86b51 hbox hb; have n0_ := Aside0.mk (blk_below (g := gb246) (o := .cells #[.string a0_0, .slice A0_1 l0_1.length c0_1, .int .i64 a0_2, .int .i64 a0_3, .slice (some ad247) l0_4.length c0_4] 65 (0, 0)) (by (with_reducible repeat (first | refine blk_drewN ?_ _ | refine blk_drew ?_ | refine blk_alloc ?_ _)); exact BK246.out) hb); have n1_ := Aside0.mk (below_step (by repeat (first | (with_reducible first | exact HB.out | apply below_alloc | apply pw_below_drewN | apply below_drew1 | refine below_set ?_ GE246.out) | exact HB.out)) hb); have n2_ := Aside0.mk (hbox); have n3_ := Aside0.mk ((by rw [hg]; exact (below_size (by repeat (first | (with_reducible first | exact HB.out | apply below_alloc | apply pw_below_drewN | apply below_drew1 | refine below_set ?_ GE246.out) | exact HB.out))) : w.heap.size ≤ gb248)); have n4_ := Aside0.mk ((by rw [hg]; exact (below_size (by repeat (first | (with_reducible first | exact HB.out | apply below_alloc | apply pw_below_drewN | apply below_drew1 | refine below_set ?_ GE246.out) | exact HB.out))) : w.heap.size ≤ gb248)); have n5_ := Aside0.mk ((by rw [hg]; exact Nat.ne_of_lt (blk_lt (g := gb246) (o := .cells #[.string a0_0, .slice A0_1 l0_1.length c0_1, .int .i64 a0_2, .int .i64 a0_3, .slice (some ad247) l0_4.length c0_4] 65 (0, 0)) (by (with_reducible repeat (first | refine blk_drewN ?_ _ | refine blk_drew ?_ | refine blk_alloc ?_ _)); exact BK246.out)) : gb246 ≠ gb248)); have n6_ := Aside0.mk ((by rw [hg]; exact Nat.ne_of_gt (blk_lt (g := gb246) (o := .cells #[.string a0_0, .slice A0_1 l0_1.length c0_1, .int .i64 a0_2, .int .i64 a0_3, .slice (some ad247) l0_4.length c0_4] 65 (0, 0)) (by (with_reducible repeat (first | refine blk_drewN ?_ _ | refine blk_drew ?_ | refine blk_alloc ?_ _)); exact BK246.out)) : gb248 ≠ gb246)); clear BK246; clear HB; have BK246 := n0_; have HB := n1_; have BK248 := n2_; have GW248 := n3_; have GE248 := n4_; have NB246_248 := n5_; have NB248_246 := n6_; clear n0_ n1_ n2_ n3_ n4_ n5_ n6_; clear hb hbox hg; have hnbx86b51 := NB248_246.out; have hncx86b51 := NB246_248.out; have hczx86b51 : wx86b51.cell? ⟨gb248, 0, none⟩ = some (.int .i64 0) := (blk_cell BK248.out 0).trans rfl; have hczx86b52 : wx86b51.cell? ⟨gb248, 1, none⟩ = some (.int .i64 0) := (blk_cell BK248.out 1).trans rfl; have hfzx86b51 := blk_frozen BK248.out 0; have hfzx86b52 := blk_frozen BK248.out 1))
          go_ret
          exact ⟨by first | rfl | (simp [errW_none, errW_some] <;> rfl) | (simp [*, errW_none, errW_some] <;> rfl), by repeat (first | (with_reducible first | exact HB.out | apply below_alloc | apply pw_below_drewN | apply below_drew1 | refine below_set ?_ GE246.out | refine below_set ?_ GE248.out) | exact HB.out)⟩
        | clear hm1_2
          go_wp2
          go_ret
          exact ⟨by first | rfl | (simp [errW_none, errW_some] <;> rfl) | (simp [*, errW_none, errW_some] <;> rfl), by repeat (first | (with_reducible first | exact HB.out | apply below_alloc | apply pw_below_drewN | apply below_drew1 | refine below_set ?_ GE246.out) | exact HB.out)⟩
     | clear hm1_1
       have H' := Aside0.mk H
       clear H
       have p247 : 0 ≤ (x10_1 : Int) := of_decide_eq_true (by first | (with_reducible assumption) | assumption)
       have q247 : x10_1 < (l0_4.length : Int) := of_decide_eq_true (by first | (with_reducible assumption) | assumption)
       obtain ⟨ad247, e247, hx247_0, hx247_1⟩ := at_T140 HR0_4.out x10_1 p247 q247
       cases e247
       replace hx247_0 := (HB.out.cell (World.block_lt_of_cell? w _ hx247_0)).trans hx247_0
       replace hx247_1 := (HB.out.cell (World.block_lt_of_cell? w _ hx247_1)).trans hx247_1
       replace p247 := eq_true p247
       replace q247 := eq_true q247
       go_wp2_with (first | ((with_reducible refine gate_dst (N := 6) rfl ?_); refine box_event ?hg (N := 6) ?hd (cs := #[.int .i64 0, .int .i64 0]) (t := 140) ?hr ?_; (case hd => rfl); (case hg => rfl); (case hr => first | (go_simp; done) | (go_simp; rfl)); intro gb248 hg wx86b51 hbox hb; have n0_ := Aside0.mk (blk_below (g := gb246) (o := .cells #[.string a0_0, .slice A0_1 l0_1.length c0_1, .int .i64 a0_2, .int .i64 a0_3, .slice (some ad247) l0_4.length c0_4] 65 (0, 0)) (by (with_reducible repeat (first | refine blk_drewN ?_ _ | refine blk_drew ?_ | refine blk_alloc ?_ _)); exact BK246.out) hb); have n1_ := Aside0.mk (below_step (by repeat (first | (with_reducible first | exact HB.out | apply below_alloc | apply pw_below_drewN | apply below_drew1 | refine below_set ?_ GE246.out) | exact HB.out)) hb); have n2_ := Aside0.mk (hbox); have n3_ := Aside0.mk ((by rw [hg]; exact (below_size (by repeat (first | (with_reducible first | exact HB.out | apply below_alloc | apply pw_below_drewN | apply below_drew1 | refine below_set ?_ GE246.out) | exact HB.out))) : w.heap.size ≤ gb248)); have n4_ := Aside0.mk ((by rw [hg]; exact (below_size (by repeat (first | (with_reducible first | exact HB.out | apply below_alloc | apply pw_below_drewN | apply below_drew1 | refine below_set ?_ GE246.out) | exact HB.out))) : w.heap.size ≤ gb248)); have n5_ := Aside0.mk ((by rw [hg]; exact Nat.ne_of_lt (blk_lt (g := gb246) (o := .cells #[.string a0_0, .slice A0_1 l0_1.length c0_1, .int .i64 a0_2, .int .i64 a0_3, .slice (some ad247) l0_4.length c0_4] 65 (0, 0)) (by (with_reducible repeat (first | refine blk_drewN ?_ _ | refine blk_drew ?_ | refine blk_alloc ?_ _)); exact BK246.out)) : gb246 ≠ gb248)); have n6_ := Aside0.mk ((by rw [hg]; exact Nat.ne_of_gt (blk_lt (g := gb246) (o := .cells #[.string a0_0, .slice A0_1 l0_1.length c0_1, .int .i64 a0_2, .int .i64 a0_3, .slice (some ad247) l0_4.length c0_4] 65 (0, 0)) (by (with_reducible repeat (first | refine blk_drewN ?_ _ | refine blk_drew ?_ | refine blk_alloc ?_ _)); exact BK246.out)) : gb248 ≠ gb246)); clear BK246; clear HB; have BK246 := n0_; have HB := n1_; have BK248 := n2_; have GW248 := n3_; have GE248 := n4_; have NB246_248 := n5_; have NB248_246 := n6_; clear n0_ n1_ n2_ n3_ n4_ n5_ n6_; clear hb hbox hg; have hnbx86b51 := NB248_246.out; have hncx86b51 := NB246_248.out; have hczx86b51 : wx86b51.cell? ⟨gb248, 0, none⟩ = some (.int .i64 0) := (blk_cell BK248.out 0).trans rfl; have hczx86b52 : wx86b51.cell? ⟨gb248, 1, none⟩ = some (.int .i64 0) := (blk_cell BK248.out 1).trans rfl; have hfzx86b51 := blk_frozen BK248.out 0; have hfzx86b52 := blk_frozen BK248.out 1))
       go_roundg k1
       case measure => have := HK1.out; omega
       case rel => exact ⟨(wrap64 (x10_1 + 1)), (by first | rfl | (simp; done) | (simp [*]; done)), H', ⟨by have := HK1.out; omega⟩, ⟨by (with_reducible repeat (first | refine blk_drewN ?_ _ | refine blk_drew ?_ | refine blk_alloc ?_ _)); refine blk_far ?_ NB246_248.out _; (with_reducible repeat (first | refine blk_drewN ?_ _ | refine blk_drew ?_ | refine blk_alloc ?_ _)); refine blk_far ?_ NB246_248.out _; (with_reducible repeat (first | refine blk_drewN ?_ _ | refine blk_drew ?_ | refine blk_alloc ?_ _)); exact BK246.out⟩, ⟨by repeat (first | (with_reducible first | exact HB.out | apply below_alloc | apply pw_below_drewN | apply below_drew1 | refine below_set ?_ GE246.out | refine below_set ?_ GE248.out) | exact HB.out)⟩⟩

/-! ### fly_Closed: function 30 -/
mutual
def fly_Closed.l0 : Nat → List (S71) → List (S65) → Int → Option (ByteArray × Int × Int)
  | 0, _, _, _ => none
  | k + 1, x0, x1, x9 => if 0 ≤ (wrap64 ((x0.length : Int) - 1)) then (if (wrap64 ((x0.length : Int) - 1)) < (x0.length : Int) then (if x9 ≤ ((rd_T71 x0 (wrap64 ((x0.length : Int) - 1))).f0) then ((fly_Point.f k x0 x9).bind fun bt253 => (fly_Closed.l1 k x0 x1 x9 x1 (x1.length : Int) 0 bt253.1 bt253.2.1 bt253.2.2.1 bt253.2.2.2)) else (some ((⟨#[]⟩ : ByteArray), 0, 8))) else (none)) else (none)
def fly_Closed.l1 : Nat → List (S71) → List (S65) → Int → List (S65) → Int → Int → Int → Int → Int → Int → Option (ByteArray × Int × Int)
  | 0, _, _, _, _, _, _, _, _, _, _ => none
  | k + 1, x0, x1, x9, x43, x44, x45, x258000, x258001, x258002, x258003 => if x45 < x44 then (if 0 ≤ x45 then (if x45 < (x43.length : Int) then (if x258003 < ((rd_T65 x43 x45).f1.f1) then (fly_Closed.j2 k x0 x1 x9 x43 x44 x45 true x258000 x258001 x258002 x258003 ((rd_T65 x43 x45).f0) ((rd_T65 x43 x45).f1.f0) ((rd_T65 x43 x45).f1.f1) ((rd_T65 x43 x45).f1.f2) ((rd_T65 x43 x45).f2)) else (if x258003 ≥ ((rd_T65 x43 x45).f1.f2) then (fly_Closed.j2 k x0 x1 x9 x43 x44 x45 true x258000 x258001 x258002 x258003 ((rd_T65 x43 x45).f0) ((rd_T65 x43 x45).f1.f0) ((rd_T65 x43 x45).f1.f1) ((rd_T65 x43 x45).f1.f2) ((rd_T65 x43 x45).f2)) else ((fly_closed.f k ((rd_T65 x43 x45).f0) ((rd_T65 x43 x45).f1.f0) ((rd_T65 x43 x45).f1.f1) ((rd_T65 x43 x45).f1.f2) ((rd_T65 x43 x45).f2) x9).bind fun t260 => (fly_Closed.j2 k x0 x1 x9 x43 x44 x45 (!t260) x258000 x258001 x258002 x258003 ((rd_T65 x43 x45).f0) ((rd_T65 x43 x45).f1.f0) ((rd_T65 x43 x45).f1.f1) ((rd_T65 x43 x45).f1.f2) ((rd_T65 x43 x45).f2))))) else (none)) else (none)) else (fly_Closed.l0 k x0 x1 (wrap64 (x9 + 1)))
def fly_Closed.j2 : Nat → List (S71) → List (S65) → Int → List (S65) → Int → Int → Bool → Int → Int → Int → Int → ByteArray → List (S36) → Int → Int → List (S140) → Option (ByteArray × Int × Int)
  | 0, _, _, _, _, _, _, _, _, _, _, _, _, _, _, _, _ => none
  | k + 1, x0, x1, x9, x43, x44, x45, x68, x258000, x258001, x258002, x258003, x260000, x260001, x260002, x260003, x260004 => if x68 = true then (fly_Closed.l1 k x0 x1 x9 x43 x44 (wrap64 (x45 + 1)) x258000 x258001 x258002 x258003) else ((polygon_Locate.f k x260001 x258001 x258002).bind fun bt261 => (if bt261.1 ≥ 0 then (some (x260000, x9, 0)) else (fly_Closed.l1 k x0 x1 x9 x43 x44 (wrap64 (x45 + 1)) x258000 x258001 x258002 x258003)))
end
def fly_Closed.f (k : Nat) (l0 : List (S71)) (l1 : List (S65)) : Option (ByteArray × Int × Int) := (fly_Check.f k l0).bind fun t249 => (if t249 = 0 then ((route_CheckVolumes.f k l1).bind fun t250 => (if t250 = 0 then (if 0 < (l0.length : Int) then (fly_Closed.l0 k l0 l1 ((rd_T71 l0 0).f0)) else (none)) else (some ((⟨#[]⟩ : ByteArray), 0, t250)))) else (some ((⟨#[]⟩ : ByteArray), 0, t249)))
theorem fly_Closed.mono_l : ∀ k, (∀ y0 y1 y2, LeO (fly_Closed.l0 k y0 y1 y2) (fly_Closed.l0 (k + 1) y0 y1 y2)) ∧ (∀ y0 y1 y2 y3 y4 y5 y6 y7 y8 y9, LeO (fly_Closed.l1 k y0 y1 y2 y3 y4 y5 y6 y7 y8 y9) (fly_Closed.l1 (k + 1) y0 y1 y2 y3 y4 y5 y6 y7 y8 y9)) ∧ (∀ y0 y1 y2 y3 y4 y5 y6 y7 y8 y9 y10 y11 y12 y13 y14 y15, LeO (fly_Closed.j2 k y0 y1 y2 y3 y4 y5 y6 y7 y8 y9 y10 y11 y12 y13 y14 y15) (fly_Closed.j2 (k + 1) y0 y1 y2 y3 y4 y5 y6 y7 y8 y9 y10 y11 y12 y13 y14 y15))
  | 0 => ⟨fun _ _ _ r h => by simp [fly_Closed.l0] at h, fun _ _ _ _ _ _ _ _ _ _ r h => by simp [fly_Closed.l1] at h, fun _ _ _ _ _ _ _ _ _ _ _ _ _ _ _ _ r h => by simp [fly_Closed.j2] at h⟩
  | k + 1 => by
    obtain ⟨ih0, ih1, ih2⟩ := fly_Closed.mono_l k
    refine ⟨?_, ?_, ?_⟩
    · intro y0 y1 y2
      unfold fly_Closed.l0
      repeat' first
      | (with_reducible exact ih0 _ _ _)
      | (with_reducible exact ih1 _ _ _ _ _ _ _ _ _ _)
      | (with_reducible exact ih2 _ _ _ _ _ _ _ _ _ _ _ _ _ _ _ _)
      | (with_reducible exact fly_Check.mono _ _)
      | (with_reducible exact fly_Point.mono _ _ _)
      | (with_reducible exact fly_closed.mono _ _ _ _ _ _ _)
      | (with_reducible exact polygon_Locate.mono _ _ _ _)
      | (with_reducible exact route_CheckVolumes.mono _ _)
      | (with_reducible exact LeO.refl _)
      | (with_reducible exact LeO.none _)
      | (with_reducible refine LeO.ite ?_ ?_)
      | (with_reducible refine LeO.bind ?_ (fun _ => ?_))
      | exact ih0 _ _ _
      | exact ih1 _ _ _ _ _ _ _ _ _ _
      | exact ih2 _ _ _ _ _ _ _ _ _ _ _ _ _ _ _ _
      | exact fly_Check.mono _ _
      | exact fly_Point.mono _ _ _
      | exact fly_closed.mono _ _ _ _ _ _ _
      | exact polygon_Locate.mono _ _ _ _
      | exact route_CheckVolumes.mono _ _
      | exact LeO.none _
      | refine LeO.ite ?_ ?_
      | refine LeO.bind ?_ (fun _ => ?_)
    · intro y0 y1 y2 y3 y4 y5 y6 y7 y8 y9
      unfold fly_Closed.l1
      repeat' first
      | (with_reducible exact ih0 _ _ _)
      | (with_reducible exact ih1 _ _ _ _ _ _ _ _ _ _)
      | (with_reducible exact ih2 _ _ _ _ _ _ _ _ _ _ _ _ _ _ _ _)
      | (with_reducible exact fly_Check.mono _ _)
      | (with_reducible exact fly_Point.mono _ _ _)
      | (with_reducible exact fly_closed.mono _ _ _ _ _ _ _)
      | (with_reducible exact polygon_Locate.mono _ _ _ _)
      | (with_reducible exact route_CheckVolumes.mono _ _)
      | (with_reducible exact LeO.refl _)
      | (with_reducible exact LeO.none _)
      | (with_reducible refine LeO.ite ?_ ?_)
      | (with_reducible refine LeO.bind ?_ (fun _ => ?_))
      | exact ih0 _ _ _
      | exact ih1 _ _ _ _ _ _ _ _ _ _
      | exact ih2 _ _ _ _ _ _ _ _ _ _ _ _ _ _ _ _
      | exact fly_Check.mono _ _
      | exact fly_Point.mono _ _ _
      | exact fly_closed.mono _ _ _ _ _ _ _
      | exact polygon_Locate.mono _ _ _ _
      | exact route_CheckVolumes.mono _ _
      | exact LeO.none _
      | refine LeO.ite ?_ ?_
      | refine LeO.bind ?_ (fun _ => ?_)
    · intro y0 y1 y2 y3 y4 y5 y6 y7 y8 y9 y10 y11 y12 y13 y14 y15
      unfold fly_Closed.j2
      repeat' first
      | (with_reducible exact ih0 _ _ _)
      | (with_reducible exact ih1 _ _ _ _ _ _ _ _ _ _)
      | (with_reducible exact ih2 _ _ _ _ _ _ _ _ _ _ _ _ _ _ _ _)
      | (with_reducible exact fly_Check.mono _ _)
      | (with_reducible exact fly_Point.mono _ _ _)
      | (with_reducible exact fly_closed.mono _ _ _ _ _ _ _)
      | (with_reducible exact polygon_Locate.mono _ _ _ _)
      | (with_reducible exact route_CheckVolumes.mono _ _)
      | (with_reducible exact LeO.refl _)
      | (with_reducible exact LeO.none _)
      | (with_reducible refine LeO.ite ?_ ?_)
      | (with_reducible refine LeO.bind ?_ (fun _ => ?_))
      | exact ih0 _ _ _
      | exact ih1 _ _ _ _ _ _ _ _ _ _
      | exact ih2 _ _ _ _ _ _ _ _ _ _ _ _ _ _ _ _
      | exact fly_Check.mono _ _
      | exact fly_Point.mono _ _ _
      | exact fly_closed.mono _ _ _ _ _ _ _
      | exact polygon_Locate.mono _ _ _ _
      | exact route_CheckVolumes.mono _ _
      | exact LeO.none _
      | refine LeO.ite ?_ ?_
      | refine LeO.bind ?_ (fun _ => ?_)
theorem fly_Closed.mono : ∀ a0 a1 k, LeO (fly_Closed.f k a0 a1) (fly_Closed.f (k + 1) a0 a1) := by
  intro a0 a1 k
  obtain ⟨ih0, ih1, ih2⟩ := fly_Closed.mono_l k
  unfold fly_Closed.f
  repeat' first
      | (with_reducible exact ih0 _ _ _)
      | (with_reducible exact ih1 _ _ _ _ _ _ _ _ _ _)
      | (with_reducible exact ih2 _ _ _ _ _ _ _ _ _ _ _ _ _ _ _ _)
      | (with_reducible exact fly_Check.mono _ _)
      | (with_reducible exact fly_Point.mono _ _ _)
      | (with_reducible exact fly_closed.mono _ _ _ _ _ _ _)
      | (with_reducible exact polygon_Locate.mono _ _ _ _)
      | (with_reducible exact route_CheckVolumes.mono _ _)
      | (with_reducible exact LeO.refl _)
      | (with_reducible exact LeO.none _)
      | (with_reducible refine LeO.ite ?_ ?_)
      | (with_reducible refine LeO.bind ?_ (fun _ => ?_))
      | exact ih0 _ _ _
      | exact ih1 _ _ _ _ _ _ _ _ _ _
      | exact ih2 _ _ _ _ _ _ _ _ _ _ _ _ _ _ _ _
      | exact fly_Check.mono _ _
      | exact fly_Point.mono _ _ _
      | exact fly_closed.mono _ _ _ _ _ _ _
      | exact polygon_Locate.mono _ _ _ _
      | exact route_CheckVolumes.mono _ _
      | exact LeO.none _
      | refine LeO.ite ?_ ?_
      | refine LeO.bind ?_ (fun _ => ?_)
set_option maxHeartbeats 8000000 in
set_option maxRecDepth 100000 in
theorem fly_Closed.calls (k : Nat) (A0 : Option Addr) (c0 : Nat) (l0 : List (S71)) (A1 : Option Addr) (c1 : Nat) (l1 : List (S65)) (r1 : ByteArray) (r2 : Int) (r3 : Int) (w : World) (hr0 : Kd.C k71 w A0 l0.length l0) (hc0 : l0.length ≤ c0) (hr1 : Kd.C k65 w A1 l1.length l1) (hc1 : l1.length ≤ c1) (h : fly_Closed.f k l0 l1 = some (r1, r2, r3)) :
    Calls Try.prog 30 #[.slice A0 l0.length c0, .slice A1 l1.length c1] w fun e w' => e = .returned (.tuple #[.string r1, .int .i64 r2, .int .i64 r3]) ∧ Below w.heap.size w w' := by
 have hu71 := Try.underlying71
 have hu65 := Try.underlying65
 have hu36 := Try.underlying36
 have HR0 := Aside0.mk hr0
 have HC0 := Aside0.mk hc0
 clear hr0 hc0
 have HR1 := Aside0.mk hr1
 have HC1 := Aside0.mk hc1
 clear hr1 hc1
 have HB := Aside0.mk (Below.refl w.heap.size w)
 have H : ((fly_Check.f k l0).bind fun t249 => (if t249 = 0 then ((route_CheckVolumes.f k l1).bind fun t250 => (if t250 = 0 then (if 0 < (l0.length : Int) then (fly_Closed.l0 k l0 l1 ((rd_T71 l0 0).f0)) else (none)) else (some ((⟨#[]⟩ : ByteArray), 0, t250)))) else (some ((⟨#[]⟩ : ByteArray), 0, t249)))) = some (r1, r2, r3) := h
 clear h
 replace H := Option.bind_eq_some_iff.mp H
 obtain ⟨t249, A30, H⟩ := H
 replace H : (if t249 = 0 then ((route_CheckVolumes.f k l1).bind fun t250 => (if t250 = 0 then (if 0 < (l0.length : Int) then (fly_Closed.l0 k l0 l1 ((rd_T71 l0 0).f0)) else (none)) else (some ((⟨#[]⟩ : ByteArray), 0, t250)))) else (some ((⟨#[]⟩ : ByteArray), 0, t249))) = some (r1, r2, r3) := H
 have A3 := Aside0.mk A30
 clear A30
 refine Or.elim (Classical.em (t249 = 0)) (fun c4 => ?p2_) (fun c4 => ?n2_)
 case' p2_ =>
  rw [if_pos c4] at H
  have c4b0 : (t249 == 0) = true := beq_iff_eq.mpr c4
  have c4b1 : (t249 != 0) = false := bne_eq_false_iff_eq.mpr c4
  clear c4
  replace H := Option.bind_eq_some_iff.mp H
  obtain ⟨t250, A50, H⟩ := H
  replace H : (if t250 = 0 then (if 0 < (l0.length : Int) then (fly_Closed.l0 k l0 l1 ((rd_T71 l0 0).f0)) else (none)) else (some ((⟨#[]⟩ : ByteArray), 0, t250))) = some (r1, r2, r3) := H
  have A5 := Aside0.mk A50
  clear A50
  refine Or.elim (Classical.em (t250 = 0)) (fun c6 => ?p3_) (fun c6 => ?n3_)
  case' p3_ =>
   rw [if_pos c6] at H
   have c6b0 : (t250 == 0) = true := beq_iff_eq.mpr c6
   have c6b1 : (t250 != 0) = false := bne_eq_false_iff_eq.mpr c6
   clear c6
   refine Or.elim (Classical.em (0 < (l0.length : Int))) (fun c7 => ?p4_) (fun c7 => ?n4_)
   case' p4_ =>
    rw [if_pos c7] at H
    have c7b0 : decide (0 < (l0.length : Int)) = true := decide_eq_true c7
    have c7b1 : decide (0 < l0.length) = true := decide_eq_true (by omega)
    clear c7
    have hm1_0 := Aside0.mk trivial
   case' n4_ =>
    rw [if_neg c7] at H
    exact absurd H (by simp)
  case' n3_ =>
   rw [if_neg c6] at H
   have c6b0 : (t250 == 0) = false := beq_eq_false_iff_ne.mpr c6
   have c6b1 : (t250 != 0) = true := bne_iff_ne.mpr c6
   simp only [Option.some.injEq, Prod.mk.injEq] at H
   obtain ⟨rfl, rfl, rfl⟩ := H
   have hm1_1 := Aside0.mk trivial
 case' n2_ =>
  rw [if_neg c4] at H
  have c4b0 : (t249 == 0) = false := beq_eq_false_iff_ne.mpr c4
  have c4b1 : (t249 != 0) = true := bne_iff_ne.mpr c4
  simp only [Option.some.injEq, Prod.mk.injEq] at H
  obtain ⟨rfl, rfl, rfl⟩ := H
  have hm1_1 := Aside0.mk trivial
 all_goals
  first
   | clear hm1_0
     have H' := Aside0.mk H
     clear H
     go_enter Try.func30, Try.ntmps30
     go_wp2_with (first | ((with_reducible refine gate_callee (f := 76) rfl ?_); refine goesL_ (some 16) rfl rfl Try.func76 (by kernel_rfl) rfl #[.slice A0 l0.length c0] rfl (by (try simp only [List.map_toArray, List.map_cons, List.map_nil]); first | done | rfl | (simp only [List.length_drop, List.length_take]; rfl)) ?_; (with_reducible refine (fly_Check.calls k _ _ l0 t249 _ ?side1 ?side2 A3.out).mono ?_); (case side1 => repeat (first | exact HR0.out | (with_reducible refine Kd.C_alloc ?_ _) | (with_reducible refine Kd.C_drewN ?_ _) | (with_reducible refine Kd.C_drew ?_))); (case side2 => exact HC0.out); rintro e wx5de21 ⟨rfl, hb⟩; refine ⟨_, rfl, ?_⟩; have n0_ := Aside0.mk (below_step (by repeat (first | (with_reducible first | exact HB.out | apply below_alloc | apply pw_below_drewN | apply below_drew1) | exact HB.out)) hb); clear HB; have HB := n0_; clear n0_; (try clear hb); (try clear hb2); (try clear hk); (try clear hi)) | ((with_reducible refine gate_callee (f := 70) rfl ?_); refine goesL_ (some 21) rfl rfl Try.func70 (by kernel_rfl) rfl #[.slice A1 l1.length c1] rfl (by (try simp only [List.map_toArray, List.map_cons, List.map_nil]); first | done | rfl | (simp only [List.length_drop, List.length_take]; rfl)) ?_; (with_reducible refine (route_CheckVolumes.calls k _ _ l1 t250 _ ?side1 ?side2 A5.out).mono ?_); (case side1 => repeat (first | exact (Kd.C_below HR1.out HB.out) | (with_reducible refine Kd.C_alloc ?_ _) | (with_reducible refine Kd.C_drewN ?_ _) | (with_reducible refine Kd.C_drew ?_))); (case side2 => exact HC1.out); rintro e wx94db1 ⟨rfl, hb⟩; refine ⟨_, rfl, ?_⟩; have n0_ := Aside0.mk (below_step (by repeat (first | (with_reducible first | exact HB.out | apply below_alloc | apply pw_below_drewN | apply below_drew1) | exact HB.out)) hb); clear HB; have HB := n0_; clear n0_; (try clear hb); (try clear hb2); (try clear hk); (try clear hi); have p251 : 0 ≤ (0 : Int) := (by omega); have q251 : 0 < (l0.length : Int) := of_decide_eq_true (by first | (with_reducible assumption) | assumption); obtain ⟨ad251, e251, hx251_0, hx251_1, hx251_2, hx251_3⟩ := at_T71 HR0.out 0 p251 q251; cases e251; have qi251 : (0 < l0.length) = True := eq_true (by omega); (try rw [show ((0 : Int)).toNat = 0 from rfl] at hx251_0); (try rw [show 0 * 4 = 0 from rfl] at hx251_0); (try rw [Addr.add_zero'] at hx251_0); (try rw [show ((0 : Int)).toNat = 0 from rfl] at hx251_1); (try rw [show 0 * 4 = 0 from rfl] at hx251_1); (try rw [Addr.add_zero'] at hx251_1); (try rw [show ((0 : Int)).toNat = 0 from rfl] at hx251_2); (try rw [show 0 * 4 = 0 from rfl] at hx251_2); (try rw [Addr.add_zero'] at hx251_2); (try rw [show ((0 : Int)).toNat = 0 from rfl] at hx251_3); (try rw [show 0 * 4 = 0 from rfl] at hx251_3); (try rw [Addr.add_zero'] at hx251_3); replace hx251_0 := (HB.out.cell (World.block_lt_of_cell? w _ hx251_0)).trans hx251_0; replace hx251_1 := (HB.out.cell (World.block_lt_of_cell? w _ hx251_1)).trans hx251_1; replace hx251_2 := (HB.out.cell (World.block_lt_of_cell? w _ hx251_2)).trans hx251_2; replace hx251_3 := (HB.out.cell (World.block_lt_of_cell? w _ hx251_3)).trans hx251_3; replace p251 := eq_true p251; replace q251 := eq_true q251))
     go_loopg [9] k (fun kq v9 w' => ∃ (x9_1 : Int), v9 = .int .i64 x9_1 ∧ Aside0 (fly_Closed.l0 kq l0 l1 x9_1 = some (r1, r2, r3)) ∧ Aside0 (kq ≤ k) ∧ Aside0 (Below w.heap.size w w'))
     case atStart => exact ⟨((rd_T71 l0 0).f0), (by first | rfl | (simp; done) | (simp [*]; done)), H', ⟨Nat.le_refl _⟩, ⟨by repeat (first | (with_reducible first | exact HB.out | apply below_alloc | apply pw_below_drewN | apply below_drew1) | exact HB.out)⟩⟩
     case round =>
      clear H'
      (try clear c1); (try clear p2); (try clear q2); (try clear hx2); (try clear qi2); (try clear c3); (try clear c4); (try clear c4b0); (try clear c4b1); (try clear c6); (try clear c6b0); (try clear c6b1); (try clear c7); (try clear c7b0); (try clear c7b1); (try clear hx251_0); (try clear hx251_1); (try clear hx251_2); (try clear hx251_3); (try clear p251); (try clear q251)
      obtain ⟨x9_1, rfl, HA, HK1, HB⟩ := hrel
      cases gk with
      | zero => exact absurd HA.out (by simp [fly_Closed.l0])
      | succ k1 =>
       have H := HA.out
       clear HA
       simp only [fly_Closed.l0] at H
       obtain ⟨ji10, hji10⟩ : ∃ j_ : Int, (wrap64 ((l0.length : Int) - 1)) = j_ := ⟨_, rfl⟩
       replace H : (if 0 ≤ (ji10) then (if (ji10) < (l0.length : Int) then (if x9_1 ≤ ((rd_T71 l0 (ji10)).f0) then ((fly_Point.f k1 l0 x9_1).bind fun bt253 => (fly_Closed.l1 k1 l0 l1 x9_1 l1 (l1.length : Int) 0 bt253.1 bt253.2.1 bt253.2.2.1 bt253.2.2.2)) else (some ((⟨#[]⟩ : ByteArray), 0, 8))) else (none)) else (none)) = some (r1, r2, r3) := by first | (rw [hji10] at H; exact H) | (simp only [hji10] at H ⊢; exact H)
       have hji10w : (IntKind.i64.wrap ((l0.length : Int) - 1)) = ji10 := (i64_w _).trans hji10
       by_cases c11 : 0 ≤ (ji10)
       · rw [if_pos c11] at H
         have c11b0 : decide (0 ≤ (ji10)) = true := decide_eq_true c11
         clear c11
         by_cases c12 : (ji10) < (l0.length : Int)
         · rw [if_pos c12] at H
           have c12b0 : decide ((ji10) < (l0.length : Int)) = true := decide_eq_true c12
           clear c12
           by_cases c13 : x9_1 ≤ ((rd_T71 l0 (ji10)).f0)
           · rw [if_pos c13] at H
             have c13b0 : decide (x9_1 ≤ ((rd_T71 l0 (ji10)).f0)) = true := decide_eq_true c13
             clear c13
             replace H := Option.bind_eq_some_iff.mp H
             obtain ⟨⟨t253, t254, t255, t256⟩, A140, H⟩ := H
             replace H : (fly_Closed.l1 k1 l0 l1 x9_1 l1 (l1.length : Int) 0 t253 t254 t255 t256) = some (r1, r2, r3) := H
             have A14 := Aside0.mk A140
             clear A140
             have H' := Aside0.mk H
             clear H
             have p252 : 0 ≤ ((ji10) : Int) := of_decide_eq_true (by first | (with_reducible assumption) | assumption)
             have q252 : (ji10) < (l0.length : Int) := of_decide_eq_true (by first | (with_reducible assumption) | assumption)
             obtain ⟨ad252, e252, hx252_0, hx252_1, hx252_2, hx252_3⟩ := at_T71 HR0.out (ji10) p252 q252
             obtain rfl : ad251 = ad252 := (by injection e252)
             replace hx252_0 := (HB.out.cell (World.block_lt_of_cell? w _ hx252_0)).trans hx252_0
             replace hx252_1 := (HB.out.cell (World.block_lt_of_cell? w _ hx252_1)).trans hx252_1
             replace hx252_2 := (HB.out.cell (World.block_lt_of_cell? w _ hx252_2)).trans hx252_2
             replace hx252_3 := (HB.out.cell (World.block_lt_of_cell? w _ hx252_3)).trans hx252_3
             replace p252 := eq_true p252
             replace q252 := eq_true q252
             go_wp2_with (first | ((with_reducible refine gate_callee (f := 77) rfl ?_); refine goesL_ (some 42) rfl rfl Try.func77 (by kernel_rfl) rfl #[.slice (some ad251) l0.length c0, .int .i64 x9_1] rfl (by (try simp only [List.map_toArray, List.map_cons, List.map_nil]); first | done | rfl | (simp only [List.length_drop, List.length_take]; rfl)) ?_; (with_reducible refine (fly_Point.calls k1 _ _ l0 x9_1 t253 t254 t255 t256 _ ?side1 ?side2 A14.out).mono ?_); (case side1 => repeat (first | exact (Kd.C_below HR0.out HB.out) | (with_reducible refine Kd.C_alloc ?_ _) | (with_reducible refine Kd.C_drewN ?_ _) | (with_reducible refine Kd.C_drew ?_))); (case side2 => exact HC0.out); rintro e wx54b51 ⟨rfl, hb⟩; refine ⟨_, rfl, ?_⟩; have n0_ := Aside0.mk (below_step (by repeat (first | (with_reducible first | exact HB.out | apply below_alloc | apply pw_below_drewN | apply below_drew1) | exact HB.out)) hb); clear HB; have HB := n0_; clear n0_; (try clear hb); (try clear hb2); (try clear hk); (try clear hi)) | ((with_reducible refine gate_dst (N := 10) rfl ?_); refine box_event ?hg (N := 10) ?hd (cs := #[.int .i64 0, .int .i64 0, .int .i64 0, .int .i64 0]) (t := 71) ?hr ?_; (case hd => rfl); (case hg => rfl); (case hr => first | (go_simp; done) | (go_simp; rfl)); intro gb257 hg wxaa5e1 hbox hb; have n0_ := Aside0.mk (below_step (by repeat (first | (with_reducible first | exact HB.out | apply below_alloc | apply pw_below_drewN | apply below_drew1) | exact HB.out)) hb); have n1_ := Aside0.mk (hbox); have n2_ := Aside0.mk ((by rw [hg]; exact (below_size (by repeat (first | (with_reducible first | exact HB.out | apply below_alloc | apply pw_below_drewN | apply below_drew1) | exact HB.out))) : w.heap.size ≤ gb257)); have n3_ := Aside0.mk ((by rw [hg]; exact (below_size (by repeat (first | (with_reducible first | exact HB.out | apply below_alloc | apply pw_below_drewN | apply below_drew1) | exact HB.out))) : w.heap.size ≤ gb257)); clear HB; have HB := n0_; have BK257 := n1_; have GW257 := n2_; have GE257 := n3_; clear n0_ n1_ n2_ n3_; clear hb hbox hg; have hczxaa5e1 : wxaa5e1.cell? ⟨gb257, 0, none⟩ = some (.int .i64 0) := (blk_cell BK257.out 0).trans rfl; have hczxaa5e2 : wxaa5e1.cell? ⟨gb257, 1, none⟩ = some (.int .i64 0) := (blk_cell BK257.out 1).trans rfl; have hczxaa5e3 : wxaa5e1.cell? ⟨gb257, 2, none⟩ = some (.int .i64 0) := (blk_cell BK257.out 2).trans rfl; have hczxaa5e4 : wxaa5e1.cell? ⟨gb257, 3, none⟩ = some (.int .i64 0) := (blk_cell BK257.out 3).trans rfl; have hfzxaa5e1 := blk_frozen BK257.out 0; have hfzxaa5e2 := blk_frozen BK257.out 1; have hfzxaa5e3 := blk_frozen BK257.out 2; have hfzxaa5e4 := blk_frozen BK257.out 3))
             go_loopg [45] k1 (fun kq v45 w' => ∃ (x45_2 : Int), v45 = .int .i64 x45_2 ∧ Aside0 (fly_Closed.l1 kq l0 l1 x9_1 l1 (l1.length : Int) x45_2 t253 t254 t255 t256 = some (r1, r2, r3)) ∧ Aside0 (kq ≤ k1) ∧ Aside0 (w'.heap[gb257]? = some (.cells #[.int .i64 t253, .int .i64 t254, .int .i64 t255, .int .i64 t256] 71 (0, 0))) ∧ Aside0 (Below w.heap.size w w'))
             case atStart => exact ⟨(0), (by first | rfl | (simp; done) | (simp [*]; done)), H', ⟨Nat.le_refl _⟩, ⟨by (with_reducible repeat (first | refine blk_drewN ?_ _ | refine blk_drew ?_ | refine blk_alloc ?_ _)); refine blk_put (cs := #[.int .i64 t253, .int .i64 t254, .int .i64 t255, .int .i64 0]) ?_ 3 _ rfl; (with_reducible repeat (first | refine blk_drewN ?_ _ | refine blk_drew ?_ | refine blk_alloc ?_ _)); refine blk_put (cs := #[.int .i64 t253, .int .i64 t254, .int .i64 0, .int .i64 0]) ?_ 2 _ rfl; (with_reducible repeat (first | refine blk_drewN ?_ _ | refine blk_drew ?_ | refine blk_alloc ?_ _)); refine blk_put (cs := #[.int .i64 t253, .int .i64 0, .int .i64 0, .int .i64 0]) ?_ 1 _ rfl; (with_reducible repeat (first | refine blk_drewN ?_ _ | refine blk_drew ?_ | refine blk_alloc ?_ _)); refine blk_put (cs := #[.int .i64 0, .int .i64 0, .int .i64 0, .int .i64 0]) ?_ 0 _ rfl; (with_reducible repeat (first | refine blk_drewN ?_ _ | refine blk_drew ?_ | refine blk_alloc ?_ _)); exact BK257.out⟩, ⟨by repeat (first | (with_reducible first | exact HB.out | apply below_alloc | apply pw_below_drewN | apply below_drew1 | refine below_set ?_ GE257.out) | exact HB.out)⟩⟩
             case round =>
              clear H'
              (try clear c1); (try clear p2); (try clear q2); (try clear hx2); (try clear qi2); (try clear c3); (try clear c4); (try clear c4b0); (try clear c4b1); (try clear c6); (try clear c6b0); (try clear c6b1); (try clear p6); (try clear c7); (try clear c7b0); (try clear c7b1); (try clear c11); (try clear c11b0); (try clear c12); (try clear c12b0); (try clear c13); (try clear c13b0); (try clear hczxaa5e1); (try clear hczxaa5e2); (try clear hczxaa5e3); (try clear hczxaa5e4); (try clear hfzxaa5e1); (try clear hfzxaa5e2); (try clear hfzxaa5e3); (try clear hfzxaa5e4); (try clear hx251_0); (try clear hx251_1); (try clear hx251_2); (try clear hx251_3); (try clear hx252_0); (try clear hx252_1); (try clear hx252_2); (try clear hx252_3); (try clear p2); (try clear p251)
              (try clear p252); (try clear q2); (try clear q251); (try clear q252)
              obtain ⟨x45_2, rfl, HA, HK2, BK257, HB⟩ := hrel
              cases gk with
              | zero => exact absurd HA.out (by simp [fly_Closed.l1])
              | succ k2 =>
               have H := HA.out
               clear HA
               simp only [fly_Closed.l1] at H
               by_cases c18 : x45_2 < (l1.length : Int)
               · rw [if_pos c18] at H
                 have c18b0 : decide (x45_2 < (l1.length : Int)) = true := decide_eq_true c18
                 clear c18
                 by_cases c19 : 0 ≤ x45_2
                 · rw [if_pos c19] at H
                   have c19b0 : decide (0 ≤ x45_2) = true := decide_eq_true c19
                   clear c19
                   by_cases c20 : x45_2 < (l1.length : Int)
                   · rw [if_pos c20] at H
                     have c20b0 : decide (x45_2 < (l1.length : Int)) = true := decide_eq_true c20
                     clear c20
                     have HC21 := Aside0.mk H
                     clear H
                     have p258 : 0 ≤ (x45_2 : Int) := of_decide_eq_true (by first | (with_reducible assumption) | assumption)
                     have q258 : x45_2 < (l1.length : Int) := of_decide_eq_true (by first | (with_reducible assumption) | assumption)
                     obtain ⟨ad258, A258_1, c258_1, A258_4, c258_4, e258, hx258_0, hx258_1, hx258_2, hx258_3, hx258_4, hl258_1, hi258_1, hl258_4, hi258_4⟩ := at_T65 HR1.out x45_2 p258 q258
                     cases e258
                     replace hx258_0 := (HB.out.cell (World.block_lt_of_cell? w _ hx258_0)).trans hx258_0
                     replace hx258_1 := (HB.out.cell (World.block_lt_of_cell? w _ hx258_1)).trans hx258_1
                     replace hx258_2 := (HB.out.cell (World.block_lt_of_cell? w _ hx258_2)).trans hx258_2
                     replace hx258_3 := (HB.out.cell (World.block_lt_of_cell? w _ hx258_3)).trans hx258_3
                     replace hx258_4 := (HB.out.cell (World.block_lt_of_cell? w _ hx258_4)).trans hx258_4
                     have HR258_1 := Aside0.mk hi258_1
                     have HC258_1 := Aside0.mk hl258_1
                     clear hi258_1 hl258_1
                     have HR258_4 := Aside0.mk hi258_4
                     have HC258_4 := Aside0.mk hl258_4
                     clear hi258_4 hl258_4
                     replace p258 := eq_true p258
                     replace q258 := eq_true q258
                     go_upto_region 14 with (first | ((with_reducible refine gate_dst (N := 12) rfl ?_); refine box_event ?hg (N := 12) ?hd (cs := #[.string (⟨#[]⟩ : ByteArray), .slice none 0 0, .int .i64 0, .int .i64 0, .slice none 0 0]) (t := 65) ?hr ?_; (case hd => rfl); (case hg => rfl); (case hr => first | (go_simp; done) | (go_simp; rfl)); intro gb259 hg wx22151 hbox hb; have n0_ := Aside0.mk (blk_below (g := gb257) (o := .cells #[.int .i64 t253, .int .i64 t254, .int .i64 t255, .int .i64 t256] 71 (0, 0)) (by (with_reducible repeat (first | refine blk_drewN ?_ _ | refine blk_drew ?_ | refine blk_alloc ?_ _)); exact BK257.out) hb); have n1_ := Aside0.mk (below_step (by repeat (first | (with_reducible first | exact HB.out | apply below_alloc | apply pw_below_drewN | apply below_drew1 | refine below_set ?_ GE257.out) | exact HB.out)) hb); have n2_ := Aside0.mk (hbox); have n3_ := Aside0.mk ((by rw [hg]; exact (below_size (by repeat (first | (with_reducible first | exact HB.out | apply below_alloc | apply pw_below_drewN | apply below_drew1 | refine below_set ?_ GE257.out) | exact HB.out))) : w.heap.size ≤ gb259)); have n4_ := Aside0.mk ((by rw [hg]; exact (below_size (by repeat (first | (with_reducible first | exact HB.out | apply below_alloc | apply pw_below_drewN | apply below_drew1 | refine below_set ?_ GE257.out) | exact HB.out))) : w.heap.size ≤ gb259)); have n5_ := Aside0.mk ((by rw [hg]; exact Nat.ne_of_lt (blk_lt (g := gb257) (o := .cells #[.int .i64 t253, .int .i64 t254, .int .i64 t255, .int .i64 t256] 71 (0, 0)) (by (with_reducible repeat (first | refine blk_drewN ?_ _ | refine blk_drew ?_ | refine blk_alloc ?_ _)); exact BK257.out)) : gb257 ≠ gb259)); have n6_ := Aside0.mk ((by rw [hg]; exact Nat.ne_of_gt (blk_lt (g := gb257) (o := .cells #[.int .i64 t253, .int .i64 t254, .int .i64 t255, .int .i64 t256] 71 (0, 0)) (by (with_reducible repeat (first | refine blk_drewN ?_ _ | refine blk_drew ?_ | refine blk_alloc ?_ _)); exact BK257.out)) : gb259 ≠ gb257)); clear BK257; clear HB; have BK257 := n0_; have HB := n1_; have BK259 := n2_; have GW259 := n3_; have GE259 := n4_; have NB257_259 := n5_; have NB259_257 := n6_; clear n0_ n1_ n2_ n3_ n4_ n5_ n6_; clear hb hbox hg; have hnbx22151 := NB259_257.out; have hncx22151 := NB257_259.out; have hczx22151 : wx22151.cell? ⟨gb259, 0, none⟩ = some (.string (⟨#[]⟩ : ByteArray)) := (blk_cell BK259.out 0).trans rfl; have hczx22152 : wx22151.cell? ⟨gb259, 1, none⟩ = some (.slice none 0 0) := (blk_cell BK259.out 1).trans rfl; have hczx22153 : wx22151.cell? ⟨gb259, 2, none⟩ = some (.int .i64 0) := (blk_cell BK259.out 2).trans rfl; have hczx22154 : wx22151.cell? ⟨gb259, 3, none⟩ = some (.int .i64 0) := (blk_cell BK259.out 3).trans rfl; have hczx22155 : wx22151.cell? ⟨gb259, 4, none⟩ = some (.slice none 0 0) := (blk_cell BK259.out 4).trans rfl; have hfzx22151 := blk_frozen BK259.out 0; have hfzx22152 := blk_frozen BK259.out 1; have hfzx22153 := blk_frozen BK259.out 2; have hfzx22154 := blk_frozen BK259.out 3; have hfzx22155 := blk_frozen BK259.out 4))
                     (try simp only [Act.put, List.setIfInBounds_toArray, List.set_cons_zero, List.set_cons_succ])
                     go_cut [68] (fun v68 wc => ∃ (kq : Nat) (x68_20 : Bool), v68 = .bool x68_20 ∧ Aside0 (fly_Closed.j2 kq l0 l1 x9_1 l1 (l1.length : Int) x45_2 x68_20 t253 t254 t255 t256 ((rd_T65 l1 x45_2).f0) ((rd_T65 l1 x45_2).f1.f0) ((rd_T65 l1 x45_2).f1.f1) ((rd_T65 l1 x45_2).f1.f2) ((rd_T65 l1 x45_2).f2) = some (r1, r2, r3)) ∧ Aside0 (kq ≤ k2) ∧ Aside0 (wc.heap[gb257]? = some (.cells #[.int .i64 t253, .int .i64 t254, .int .i64 t255, .int .i64 t256] 71 (0, 0))) ∧ Aside0 (wc.heap[gb259]? = some (.cells #[.string ((rd_T65 l1 x45_2).f0), (.slice A258_1 ((rd_T65 l1 x45_2).f1.f0).length c258_1), .int .i64 ((rd_T65 l1 x45_2).f1.f1), .int .i64 ((rd_T65 l1 x45_2).f1.f2), (.slice A258_4 ((rd_T65 l1 x45_2).f2).length c258_4)] 65 (0, 0))) ∧ Aside0 (Below w.heap.size w wc))
                     case first =>
                      have H := HC21.out
                      clear HC21
                      refine Or.elim (Classical.em (t256 < ((rd_T65 l1 x45_2).f1.f1))) (fun c25 => ?p6_) (fun c25 => ?n6_)
                      case' p6_ =>
                       rw [if_pos c25] at H
                       have c25b0 : decide (t256 < ((rd_T65 l1 x45_2).f1.f1)) = true := decide_eq_true c25
                       clear c25
                       (first | rw [c25b0] | (simp only [i64_w, i32_w]; rw [c25b0]) | skip)
                       have hm5_0 := Aside0.mk trivial
                      case' n6_ =>
                       rw [if_neg c25] at H
                       have c25b0 : decide (t256 < ((rd_T65 l1 x45_2).f1.f1)) = false := decide_eq_false c25
                       clear c25
                       (first | rw [c25b0] | (simp only [i64_w, i32_w]; rw [c25b0]) | skip)
                       refine Or.elim (Classical.em (t256 ≥ ((rd_T65 l1 x45_2).f1.f2))) (fun c29 => ?p7_) (fun c29 => ?n7_)
                       case' p7_ =>
                        rw [if_pos c29] at H
                        have c29b0 : decide (((rd_T65 l1 x45_2).f1.f2) ≤ t256) = true := decide_eq_true c29
                        clear c29
                        have hm5_0 := Aside0.mk trivial
                       case' n7_ =>
                        rw [if_neg c29] at H
                        have c29b0 : decide (((rd_T65 l1 x45_2).f1.f2) ≤ t256) = false := decide_eq_false c29
                        clear c29
                        replace H := Option.bind_eq_some_iff.mp H
                        obtain ⟨t260, A330, H⟩ := H
                        replace H : (fly_Closed.j2 k2 l0 l1 x9_1 l1 (l1.length : Int) x45_2 (!t260) t253 t254 t255 t256 ((rd_T65 l1 x45_2).f0) ((rd_T65 l1 x45_2).f1.f0) ((rd_T65 l1 x45_2).f1.f1) ((rd_T65 l1 x45_2).f1.f2) ((rd_T65 l1 x45_2).f2)) = some (r1, r2, r3) := H
                        have A33 := Aside0.mk A330
                        clear A330
                        have hm5_1 := Aside0.mk trivial
                      all_goals
                       have H' := Aside0.mk H
                       clear H
                       have hnbzf1 := NB257_259.out
                       have hnczf1 := NB259_257.out
                       have hczzf1 : wx22151.cell? ⟨gb257, 0, none⟩ = some (.int .i64 t253) := (blk_cell BK257.out 0).trans rfl
                       have hczzf2 : wx22151.cell? ⟨gb257, 1, none⟩ = some (.int .i64 t254) := (blk_cell BK257.out 1).trans rfl
                       have hczzf3 : wx22151.cell? ⟨gb257, 2, none⟩ = some (.int .i64 t255) := (blk_cell BK257.out 2).trans rfl
                       have hczzf4 : wx22151.cell? ⟨gb257, 3, none⟩ = some (.int .i64 t256) := (blk_cell BK257.out 3).trans rfl
                       have hfzzf1 := blk_frozen BK257.out 0
                       have hfzzf2 := blk_frozen BK257.out 1
                       have hfzzf3 := blk_frozen BK257.out 2
                       have hfzzf4 := blk_frozen BK257.out 3
                       have hczzf5 : wx22151.cell? ⟨gb259, 0, none⟩ = some (.string (⟨#[]⟩ : ByteArray)) := (blk_cell BK259.out 0).trans rfl
                       have hczzf6 : wx22151.cell? ⟨gb259, 1, none⟩ = some (.slice none 0 0) := (blk_cell BK259.out 1).trans rfl
                       have hczzf7 : wx22151.cell? ⟨gb259, 2, none⟩ = some (.int .i64 0) := (blk_cell BK259.out 2).trans rfl
                       have hczzf8 : wx22151.cell? ⟨gb259, 3, none⟩ = some (.int .i64 0) := (blk_cell BK259.out 3).trans rfl
                       have hczzf9 : wx22151.cell? ⟨gb259, 4, none⟩ = some (.slice none 0 0) := (blk_cell BK259.out 4).trans rfl
                       have hfzzf5 := blk_frozen BK259.out 0
                       have hfzzf6 := blk_frozen BK259.out 1
                       have hfzzf7 := blk_frozen BK259.out 2
                       have hfzzf8 := blk_frozen BK259.out 3
                       have hfzzf9 := blk_frozen BK259.out 4
                       first
                        | clear hm5_0
                          go_wp2
                          go_meet
                          case rel => exact ⟨_, (true), (by first | rfl | (simp; done) | (simp [*]; done)), H', ⟨by have := HK1.out; have := HK2.out; first | omega | exact Nat.le_refl _⟩, ⟨by (with_reducible repeat (first | refine blk_drewN ?_ _ | refine blk_drew ?_ | refine blk_alloc ?_ _)); refine blk_far ?_ NB257_259.out _; (with_reducible repeat (first | refine blk_drewN ?_ _ | refine blk_drew ?_ | refine blk_alloc ?_ _)); refine blk_far ?_ NB257_259.out _; (with_reducible repeat (first | refine blk_drewN ?_ _ | refine blk_drew ?_ | refine blk_alloc ?_ _)); refine blk_far ?_ NB257_259.out _; (with_reducible repeat (first | refine blk_drewN ?_ _ | refine blk_drew ?_ | refine blk_alloc ?_ _)); refine blk_far ?_ NB257_259.out _; (with_reducible repeat (first | refine blk_drewN ?_ _ | refine blk_drew ?_ | refine blk_alloc ?_ _)); refine blk_far ?_ NB257_259.out _; (with_reducible repeat (first | refine blk_drewN ?_ _ | refine blk_drew ?_ | refine blk_alloc ?_ _)); exact BK257.out⟩, ⟨by (with_reducible repeat (first | refine blk_drewN ?_ _ | refine blk_drew ?_ | refine blk_alloc ?_ _)); refine blk_put (cs := #[.string ((rd_T65 l1 x45_2).f0), .slice A258_1 ((rd_T65 l1 x45_2).f1.f0).length c258_1, .int .i64 ((rd_T65 l1 x45_2).f1.f1), .int .i64 ((rd_T65 l1 x45_2).f1.f2), .slice none 0 0]) ?_ 4 _ rfl; (with_reducible repeat (first | refine blk_drewN ?_ _ | refine blk_drew ?_ | refine blk_alloc ?_ _)); refine blk_put (cs := #[.string ((rd_T65 l1 x45_2).f0), .slice A258_1 ((rd_T65 l1 x45_2).f1.f0).length c258_1, .int .i64 ((rd_T65 l1 x45_2).f1.f1), .int .i64 0, .slice none 0 0]) ?_ 3 _ rfl; (with_reducible repeat (first | refine blk_drewN ?_ _ | refine blk_drew ?_ | refine blk_alloc ?_ _)); refine blk_put (cs := #[.string ((rd_T65 l1 x45_2).f0), .slice A258_1 ((rd_T65 l1 x45_2).f1.f0).length c258_1, .int .i64 0, .int .i64 0, .slice none 0 0]) ?_ 2 _ rfl; (with_reducible repeat (first | refine blk_drewN ?_ _ | refine blk_drew ?_ | refine blk_alloc ?_ _)); refine blk_put (cs := #[.string ((rd_T65 l1 x45_2).f0), .slice none 0 0, .int .i64 0, .int .i64 0, .slice none 0 0]) ?_ 1 _ rfl; (with_reducible repeat (first | refine blk_drewN ?_ _ | refine blk_drew ?_ | refine blk_alloc ?_ _)); refine blk_put (cs := #[.string (⟨#[]⟩ : ByteArray), .slice none 0 0, .int .i64 0, .int .i64 0, .slice none 0 0]) ?_ 0 _ rfl; (with_reducible repeat (first | refine blk_drewN ?_ _ | refine blk_drew ?_ | refine blk_alloc ?_ _)); exact BK259.out⟩, ⟨by repeat (first | (with_reducible first | exact HB.out | apply below_alloc | apply pw_below_drewN | apply below_drew1 | refine below_set ?_ GE257.out | refine below_set ?_ GE259.out) | exact HB.out)⟩⟩
                        | clear hm5_1
                          go_wp2_with (first | (go_at_call 78; (with_reducible refine (fly_closed.calls k2 ((rd_T65 l1 x45_2).f0) _ _ ((rd_T65 l1 x45_2).f1.f0) ((rd_T65 l1 x45_2).f1.f1) ((rd_T65 l1 x45_2).f1.f2) _ _ ((rd_T65 l1 x45_2).f2) x9_1 t260 _ ?side1 ?side2 ?side3 ?side4 A33.out).mono ?_); (case side1 => exact Kd.C_below HR258_1.out (by repeat (first | (with_reducible first | exact HB.out | apply below_alloc | apply pw_below_drewN | apply below_drew1 | refine below_set ?_ GE257.out | refine below_set ?_ GE259.out) | exact HB.out))); (case side2 => exact HC258_1.out); (case side3 => exact Kd.C_below HR258_4.out (by repeat (first | (with_reducible first | exact HB.out | apply below_alloc | apply pw_below_drewN | apply below_drew1 | refine below_set ?_ GE257.out | refine below_set ?_ GE259.out) | exact HB.out))); (case side4 => exact HC258_4.out); rintro e wx17261 ⟨rfl, hb⟩; have n0_ := Aside0.mk (blk_below (g := gb257) (o := .cells #[.int .i64 t253, .int .i64 t254, .int .i64 t255, .int .i64 t256] 71 (0, 0)) (by (with_reducible repeat (first | refine blk_drewN ?_ _ | refine blk_drew ?_ | refine blk_alloc ?_ _)); refine blk_far ?_ NB257_259.out _; (with_reducible repeat (first | refine blk_drewN ?_ _ | refine blk_drew ?_ | refine blk_alloc ?_ _)); refine blk_far ?_ NB257_259.out _; (with_reducible repeat (first | refine blk_drewN ?_ _ | refine blk_drew ?_ | refine blk_alloc ?_ _)); refine blk_far ?_ NB257_259.out _; (with_reducible repeat (first | refine blk_drewN ?_ _ | refine blk_drew ?_ | refine blk_alloc ?_ _)); refine blk_far ?_ NB257_259.out _; (with_reducible repeat (first | refine blk_drewN ?_ _ | refine blk_drew ?_ | refine blk_alloc ?_ _)); refine blk_far ?_ NB257_259.out _; (with_reducible repeat (first | refine blk_drewN ?_ _ | refine blk_drew ?_ | refine blk_alloc ?_ _)); exact BK257.out) hb); have n1_ := Aside0.mk (blk_below (g := gb259) (o := .cells #[.string ((rd_T65 l1 x45_2).f0), .slice A258_1 ((rd_T65 l1 x45_2).f1.f0).length c258_1, .int .i64 ((rd_T65 l1 x45_2).f1.f1), .int .i64 ((rd_T65 l1 x45_2).f1.f2), .slice A258_4 ((rd_T65 l1 x45_2).f2).length c258_4] 65 (0, 0)) (by (with_reducible repeat (first | refine blk_drewN ?_ _ | refine blk_drew ?_ | refine blk_alloc ?_ _)); refine blk_put (cs := #[.string ((rd_T65 l1 x45_2).f0), .slice A258_1 ((rd_T65 l1 x45_2).f1.f0).length c258_1, .int .i64 ((rd_T65 l1 x45_2).f1.f1), .int .i64 ((rd_T65 l1 x45_2).f1.f2), .slice none 0 0]) ?_ 4 _ rfl; (with_reducible repeat (first | refine blk_drewN ?_ _ | refine blk_drew ?_ | refine blk_alloc ?_ _)); refine blk_put (cs := #[.string ((rd_T65 l1 x45_2).f0), .slice A258_1 ((rd_T65 l1 x45_2).f1.f0).length c258_1, .int .i64 ((rd_T65 l1 x45_2).f1.f1), .int .i64 0, .slice none 0 0]) ?_ 3 _ rfl; (with_reducible repeat (first | refine blk_drewN ?_ _ | refine blk_drew ?_ | refine blk_alloc ?_ _)); refine blk_put (cs := #[.string ((rd_T65 l1 x45_2).f0), .slice A258_1 ((rd_T65 l1 x45_2).f1.f0).length c258_1, .int .i64 0, .int .i64 0, .slice none 0 0]) ?_ 2 _ rfl; (with_reducible repeat (first | refine blk_drewN ?_ _ | refine blk_drew ?_ | refine blk_alloc ?_ _)); refine blk_put (cs := #[.string ((rd_T65 l1 x45_2).f0), .slice none 0 0, .int .i64 0, .int .i64 0, .slice none 0 0]) ?_ 1 _ rfl; (with_reducible repeat (first | refine blk_drewN ?_ _ | refine blk_drew ?_ | refine blk_alloc ?_ _)); refine blk_put (cs := #[.string (⟨#[]⟩ : ByteArray), .slice none 0 0, .int .i64 0, .int .i64 0, .slice none 0 0]) ?_ 0 _ rfl; (with_reducible repeat (first | refine blk_drewN ?_ _ | refine blk_drew ?_ | refine blk_alloc ?_ _)); exact BK259.out) hb); have n2_ := Aside0.mk (below_step (by repeat (first | (with_reducible first | exact HB.out | apply below_alloc | apply pw_below_drewN | apply below_drew1 | refine below_set ?_ GE257.out | refine below_set ?_ GE259.out) | exact HB.out)) hb); clear BK257; clear BK259; clear HB; have BK257 := n0_; have BK259 := n1_; have HB := n2_; clear n0_ n1_ n2_; (try clear hb); (try clear hb2); (try clear hk); (try clear hi)))
                          go_meet
                          case rel => exact ⟨_, (!t260), (by first | rfl | (simp; done) | (simp [*]; done)), H', ⟨by have := HK1.out; have := HK2.out; first | omega | exact Nat.le_refl _⟩, ⟨by (with_reducible repeat (first | refine blk_drewN ?_ _ | refine blk_drew ?_ | refine blk_alloc ?_ _)); exact BK257.out⟩, ⟨by (with_reducible repeat (first | refine blk_drewN ?_ _ | refine blk_drew ?_ | refine blk_alloc ?_ _)); exact BK259.out⟩, ⟨by repeat (first | (with_reducible first | exact HB.out | apply below_alloc | apply pw_below_drewN | apply below_drew1 | refine below_set ?_ GE257.out | refine below_set ?_ GE259.out) | exact HB.out)⟩⟩
                     case rest =>
                      clear HC21
                      (try clear c1); (try clear c2); (try clear p2); (try clear q2); (try clear hx2); (try clear qi2); (try clear c3); (try clear c4); (try clear c4b0); (try clear c4b1); (try clear c6); (try clear c6b0); (try clear c6b1); (try clear p6); (try clear c7); (try clear c7b0); (try clear c7b1); (try clear c11); (try clear c11b0); (try clear c12); (try clear c12b0); (try clear c13); (try clear c13b0); (try clear c18); (try clear c18b0); (try clear c19); (try clear c19b0); (try clear c20); (try clear c20b0); (try clear c23); (try clear c25); (try clear c25b0); (try clear p25); (try clear q25); (try clear hx25); (try clear qi25); (try clear c26); (try clear c29); (try clear c29b0); (try clear c30)
                      (try clear c34); (try clear hczxaa5e1); (try clear hczxaa5e2); (try clear hczxaa5e3); (try clear hczxaa5e4); (try clear hczx22151); (try clear hczx22152); (try clear hczx22153); (try clear hczx22154); (try clear hczx22155); (try clear hczze1); (try clear hczze2); (try clear hczze3); (try clear hczze4); (try clear hczze5); (try clear hczze6); (try clear hczze7); (try clear hczze8); (try clear hczze9); (try clear hczze10); (try clear hczze11); (try clear hczze12); (try clear hczze13); (try clear hczze14); (try clear hczze15); (try clear hczze16); (try clear hczze17); (try clear hczze18); (try clear hczze19); (try clear hczze20); (try clear hczze21); (try clear hczze22); (try clear hczze23); (try clear hczze24); (try clear hczze25); (try clear hczze26); (try clear hczze27); (try clear hfzxaa5e1); (try clear hfzxaa5e2); (try clear hfzxaa5e3)
                      (try clear hfzxaa5e4); (try clear hfzx22151); (try clear hfzx22152); (try clear hfzx22153); (try clear hfzx22154); (try clear hfzx22155); (try clear hfzze1); (try clear hfzze2); (try clear hfzze3); (try clear hfzze4); (try clear hfzze5); (try clear hfzze6); (try clear hfzze7); (try clear hfzze8); (try clear hfzze9); (try clear hfzze10); (try clear hfzze11); (try clear hfzze12); (try clear hfzze13); (try clear hfzze14); (try clear hfzze15); (try clear hfzze16); (try clear hfzze17); (try clear hfzze18); (try clear hfzze19); (try clear hfzze20); (try clear hfzze21); (try clear hfzze22); (try clear hfzze23); (try clear hfzze24); (try clear hfzze25); (try clear hfzze26); (try clear hfzze27); (try clear hx251_0); (try clear hx251_1); (try clear hx251_2); (try clear hx251_3); (try clear hx252_0); (try clear hx252_1); (try clear hx252_2)
                      (try clear hx252_3); (try clear hx258_0); (try clear hx258_1); (try clear hx258_2); (try clear hx258_3); (try clear hx258_4); (try clear p2); (try clear p251); (try clear p252); (try clear p258); (try clear p6); (try clear q2); (try clear q251); (try clear q252); (try clear q258)
                      obtain ⟨kq, x68_20, rfl, HA, HJ20, BK257, BK259, HB⟩ := hcut
                      cases kq with
                      | zero => exact absurd HA.out (by simp [fly_Closed.j2])
                      | succ kj20 =>
                       have H := HA.out
                       clear HA
                       simp only [fly_Closed.j2] at H
                       refine Or.elim (Classical.em (x68_20 = true)) (fun c38 => ?p9_) (fun c38 => ?n9_)
                       case' p9_ =>
                        subst c38
                        have H1 : (fly_Closed.l1 kj20 l0 l1 x9_1 l1 (l1.length : Int) (wrap64 (x45_2 + 1)) t253 t254 t255 t256) = some (r1, r2, r3) := by rw [if_pos rfl] at H; exact H
                        clear H
                        have H := H1
                        clear H1
                        have hm8_0 := Aside0.mk trivial
                       case' n9_ =>
                        replace c38 := Bool.eq_false_iff.mpr c38
                        subst c38
                        have H1 : ((polygon_Locate.f kj20 ((rd_T65 l1 x45_2).f1.f0) t254 t255).bind fun bt261 => (if bt261.1 ≥ 0 then (some (((rd_T65 l1 x45_2).f0), x9_1, 0)) else (fly_Closed.l1 kj20 l0 l1 x9_1 l1 (l1.length : Int) (wrap64 (x45_2 + 1)) t253 t254 t255 t256))) = some (r1, r2, r3) := by rw [if_neg (show ¬ (false = true) by decide)] at H; exact H
                        clear H
                        have H := H1
                        clear H1
                        replace H := Option.bind_eq_some_iff.mp H
                        obtain ⟨⟨t261, t262⟩, A390, H⟩ := H
                        replace H : (if t261 ≥ 0 then (some (((rd_T65 l1 x45_2).f0), x9_1, 0)) else (fly_Closed.l1 kj20 l0 l1 x9_1 l1 (l1.length : Int) (wrap64 (x45_2 + 1)) t253 t254 t255 t256)) = some (r1, r2, r3) := H
                        have A39 := Aside0.mk A390
                        clear A390
                        refine Or.elim (Classical.em (t261 ≥ 0)) (fun c40 => ?p10_) (fun c40 => ?n10_)
                        case' p10_ =>
                         rw [if_pos c40] at H
                         have c40b0 : decide (0 ≤ t261) = true := decide_eq_true c40
                         clear c40
                         simp only [Option.some.injEq, Prod.mk.injEq] at H
                         obtain ⟨rfl, rfl, rfl⟩ := H
                         have hnbze4 := NB259_257.out
                         have hncze4 := NB257_259.out
                         have hczze28 : wc.cell? ⟨gb259, 0, none⟩ = some (.string ((rd_T65 l1 x45_2).f0)) := (blk_cell BK259.out 0).trans rfl
                         have hczze29 : wc.cell? ⟨gb259, 1, none⟩ = some (.slice A258_1 ((rd_T65 l1 x45_2).f1.f0).length c258_1) := (blk_cell BK259.out 1).trans rfl
                         have hczze30 : wc.cell? ⟨gb259, 2, none⟩ = some (.int .i64 ((rd_T65 l1 x45_2).f1.f1)) := (blk_cell BK259.out 2).trans rfl
                         have hczze31 : wc.cell? ⟨gb259, 3, none⟩ = some (.int .i64 ((rd_T65 l1 x45_2).f1.f2)) := (blk_cell BK259.out 3).trans rfl
                         have hczze32 : wc.cell? ⟨gb259, 4, none⟩ = some (.slice A258_4 ((rd_T65 l1 x45_2).f2).length c258_4) := (blk_cell BK259.out 4).trans rfl
                         have hfzze28 := blk_frozen BK259.out 0
                         have hfzze29 := blk_frozen BK259.out 1
                         have hfzze30 := blk_frozen BK259.out 2
                         have hfzze31 := blk_frozen BK259.out 3
                         have hfzze32 := blk_frozen BK259.out 4
                         have hczze33 : wc.cell? ⟨gb257, 0, none⟩ = some (.int .i64 t253) := (blk_cell BK257.out 0).trans rfl
                         have hczze34 : wc.cell? ⟨gb257, 1, none⟩ = some (.int .i64 t254) := (blk_cell BK257.out 1).trans rfl
                         have hczze35 : wc.cell? ⟨gb257, 2, none⟩ = some (.int .i64 t255) := (blk_cell BK257.out 2).trans rfl
                         have hczze36 : wc.cell? ⟨gb257, 3, none⟩ = some (.int .i64 t256) := (blk_cell BK257.out 3).trans rfl
                         have hfzze33 := blk_frozen BK257.out 0
                         have hfzze34 := blk_frozen BK257.out 1
                         have hfzze35 := blk_frozen BK257.out 2
                         have hfzze36 := blk_frozen BK257.out 3
                         have hm8_1 := Aside0.mk trivial
                        case' n10_ =>
                         rw [if_neg c40] at H
                         have c40b0 : decide (0 ≤ t261) = false := decide_eq_false c40
                         clear c40
                         have hm8_2 := Aside0.mk trivial
                       all_goals
                        first
                         | (first | (have _hm := hm8_0) | (have _hm := hm8_2))
                           have H' := Aside0.mk H
                           clear H
                           first
                            | clear hm8_0
                              go_wp2
                              go_roundg kj20
                              case measure => have := HK1.out; have := HK2.out; have := HJ20.out; omega
                              case rel => exact ⟨(wrap64 (x45_2 + 1)), (by first | rfl | (simp; done) | (simp [*]; done)), H', ⟨by have := HK1.out; have := HK2.out; have := HJ20.out; omega⟩, ⟨by (with_reducible repeat (first | refine blk_drewN ?_ _ | refine blk_drew ?_ | refine blk_alloc ?_ _)); exact BK257.out⟩, ⟨by repeat (first | (with_reducible first | exact HB.out | apply below_alloc | apply pw_below_drewN | apply below_drew1 | refine below_set ?_ GE257.out | refine below_set ?_ GE259.out) | exact HB.out)⟩⟩
                            | clear hm8_2
                              have hnbzg1 := NB259_257.out
                              have hnczg1 := NB257_259.out
                              have hczzg1 : wc.cell? ⟨gb259, 0, none⟩ = some (.string ((rd_T65 l1 x45_2).f0)) := (blk_cell BK259.out 0).trans rfl
                              have hczzg2 : wc.cell? ⟨gb259, 1, none⟩ = some (.slice A258_1 ((rd_T65 l1 x45_2).f1.f0).length c258_1) := (blk_cell BK259.out 1).trans rfl
                              have hczzg3 : wc.cell? ⟨gb259, 2, none⟩ = some (.int .i64 ((rd_T65 l1 x45_2).f1.f1)) := (blk_cell BK259.out 2).trans rfl
                              have hczzg4 : wc.cell? ⟨gb259, 3, none⟩ = some (.int .i64 ((rd_T65 l1 x45_2).f1.f2)) := (blk_cell BK259.out 3).trans rfl
                              have hczzg5 : wc.cell? ⟨gb259, 4, none⟩ = some (.slice A258_4 ((rd_T65 l1 x45_2).f2).length c258_4) := (blk_cell BK259.out 4).trans rfl
                              have hfzzg1 := blk_frozen BK259.out 0
                              have hfzzg2 := blk_frozen BK259.out 1
                              have hfzzg3 := blk_frozen BK259.out 2
                              have hfzzg4 := blk_frozen BK259.out 3
                              have hfzzg5 := blk_frozen BK259.out 4
                              have hczzg6 : wc.cell? ⟨gb257, 0, none⟩ = some (.int .i64 t253) := (blk_cell BK257.out 0).trans rfl
                              have hczzg7 : wc.cell? ⟨gb257, 1, none⟩ = some (.int .i64 t254) := (blk_cell BK257.out 1).trans rfl
                              have hczzg8 : wc.cell? ⟨gb257, 2, none⟩ = some (.int .i64 t255) := (blk_cell BK257.out 2).trans rfl
                              have hczzg9 : wc.cell? ⟨gb257, 3, none⟩ = some (.int .i64 t256) := (blk_cell BK257.out 3).trans rfl
                              have hfzzg6 := blk_frozen BK257.out 0
                              have hfzzg7 := blk_frozen BK257.out 1
                              have hfzzg8 := blk_frozen BK257.out 2
                              have hfzzg9 := blk_frozen BK257.out 3
                              go_wp2_with (first | ((with_reducible refine gate_callee (f := 28) rfl ?_); refine goesL_ (some 75) rfl rfl Try.func28 (by kernel_rfl) rfl #[.slice A258_1 ((rd_T65 l1 x45_2).f1.f0).length c258_1, .agg #[.int .i64 t254, .int .i64 t255]] rfl (by (try simp only [List.map_toArray, List.map_cons, List.map_nil]); first | done | rfl | (simp only [List.length_drop, List.length_take]; rfl)) ?_; (with_reducible refine (polygon_Locate.calls kj20 _ _ ((rd_T65 l1 x45_2).f1.f0) t254 t255 t261 t262 _ ?side1 ?side2 A39.out).mono ?_); (case side1 => repeat (first | exact (Kd.C_below HR258_1.out HB.out) | (with_reducible refine Kd.C_alloc ?_ _) | (with_reducible refine Kd.C_drewN ?_ _) | (with_reducible refine Kd.C_drew ?_))); (case side2 => exact HC258_1.out); rintro e wxa3fd1 ⟨rfl, hb⟩; refine ⟨_, rfl, ?_⟩; have n0_ := Aside0.mk (blk_below (g := gb257) (o := .cells #[.int .i64 t253, .int .i64 t254, .int .i64 t255, .int .i64 t256] 71 (0, 0)) (by (with_reducible repeat (first | refine blk_drewN ?_ _ | refine blk_drew ?_ | refine blk_alloc ?_ _)); exact BK257.out) hb); have n1_ := Aside0.mk (blk_below (g := gb259) (o := .cells #[.string ((rd_T65 l1 x45_2).f0), .slice A258_1 ((rd_T65 l1 x45_2).f1.f0).length c258_1, .int .i64 ((rd_T65 l1 x45_2).f1.f1), .int .i64 ((rd_T65 l1 x45_2).f1.f2), .slice A258_4 ((rd_T65 l1 x45_2).f2).length c258_4] 65 (0, 0)) (by (with_reducible repeat (first | refine blk_drewN ?_ _ | refine blk_drew ?_ | refine blk_alloc ?_ _)); exact BK259.out) hb); have n2_ := Aside0.mk (below_step (by repeat (first | (with_reducible first | exact HB.out | apply below_alloc | apply pw_below_drewN | apply below_drew1 | refine below_set ?_ GE257.out | refine below_set ?_ GE259.out) | exact HB.out)) hb); clear BK257; clear BK259; clear HB; have BK257 := n0_; have BK259 := n1_; have HB := n2_; clear n0_ n1_ n2_; (try clear hb); (try clear hb2); (try clear hk); (try clear hi)))
                              go_roundg kj20
                              case measure => have := HK1.out; have := HK2.out; have := HJ20.out; omega
                              case rel => exact ⟨(wrap64 (x45_2 + 1)), (by first | rfl | (simp; done) | (simp [*]; done)), H', ⟨by have := HK1.out; have := HK2.out; have := HJ20.out; omega⟩, ⟨by (with_reducible repeat (first | refine blk_drewN ?_ _ | refine blk_drew ?_ | refine blk_alloc ?_ _)); exact BK257.out⟩, ⟨by repeat (first | (with_reducible first | exact HB.out | apply below_alloc | apply pw_below_drewN | apply below_drew1 | refine below_set ?_ GE257.out | refine below_set ?_ GE259.out) | exact HB.out)⟩⟩
                         | clear hm8_1
                           go_wp2_with (first | ((with_reducible refine gate_callee (f := 28) rfl ?_); refine goesL_ (some 75) rfl rfl Try.func28 (by kernel_rfl) rfl #[.slice A258_1 ((rd_T65 l1 x45_2).f1.f0).length c258_1, .agg #[.int .i64 t254, .int .i64 t255]] rfl (by (try simp only [List.map_toArray, List.map_cons, List.map_nil]); first | done | rfl | (simp only [List.length_drop, List.length_take]; rfl)) ?_; (with_reducible refine (polygon_Locate.calls kj20 _ _ ((rd_T65 l1 x45_2).f1.f0) t254 t255 t261 t262 _ ?side1 ?side2 A39.out).mono ?_); (case side1 => repeat (first | exact (Kd.C_below HR258_1.out HB.out) | (with_reducible refine Kd.C_alloc ?_ _) | (with_reducible refine Kd.C_drewN ?_ _) | (with_reducible refine Kd.C_drew ?_))); (case side2 => exact HC258_1.out); rintro e wx04141 ⟨rfl, hb⟩; refine ⟨_, rfl, ?_⟩; have n0_ := Aside0.mk (blk_below (g := gb257) (o := .cells #[.int .i64 t253, .int .i64 t254, .int .i64 t255, .int .i64 t256] 71 (0, 0)) (by (with_reducible repeat (first | refine blk_drewN ?_ _ | refine blk_drew ?_ | refine blk_alloc ?_ _)); exact BK257.out) hb); have n1_ := Aside0.mk (blk_below (g := gb259) (o := .cells #[.string ((rd_T65 l1 x45_2).f0), .slice A258_1 ((rd_T65 l1 x45_2).f1.f0).length c258_1, .int .i64 ((rd_T65 l1 x45_2).f1.f1), .int .i64 ((rd_T65 l1 x45_2).f1.f2), .slice A258_4 ((rd_T65 l1 x45_2).f2).length c258_4] 65 (0, 0)) (by (with_reducible repeat (first | refine blk_drewN ?_ _ | refine blk_drew ?_ | refine blk_alloc ?_ _)); exact BK259.out) hb); have n2_ := Aside0.mk (below_step (by repeat (first | (with_reducible first | exact HB.out | apply below_alloc | apply pw_below_drewN | apply below_drew1 | refine below_set ?_ GE257.out | refine below_set ?_ GE259.out) | exact HB.out)) hb); clear BK257; clear BK259; clear HB; have BK257 := n0_; have BK259 := n1_; have HB := n2_; clear n0_ n1_ n2_; (try clear hb); (try clear hb2); (try clear hk); (try clear hi); have hczx04141 : wx04141.cell? ⟨gb259, 0, none⟩ = some (.string ((rd_T65 l1 x45_2).f0)) := (blk_cell BK259.out 0).trans rfl; have hczx04142 : wx04141.cell? ⟨gb259, 1, none⟩ = some (.slice A258_1 ((rd_T65 l1 x45_2).f1.f0).length c258_1) := (blk_cell BK259.out 1).trans rfl; have hczx04143 : wx04141.cell? ⟨gb259, 2, none⟩ = some (.int .i64 ((rd_T65 l1 x45_2).f1.f1)) := (blk_cell BK259.out 2).trans rfl; have hczx04144 : wx04141.cell? ⟨gb259, 3, none⟩ = some (.int .i64 ((rd_T65 l1 x45_2).f1.f2)) := (blk_cell BK259.out 3).trans rfl; have hczx04145 : wx04141.cell? ⟨gb259, 4, none⟩ = some (.slice A258_4 ((rd_T65 l1 x45_2).f2).length c258_4) := (blk_cell BK259.out 4).trans rfl; have hfzx04141 := blk_frozen BK259.out 0; have hfzx04142 := blk_frozen BK259.out 1; have hfzx04143 := blk_frozen BK259.out 2; have hfzx04144 := blk_frozen BK259.out 3; have hfzx04145 := blk_frozen BK259.out 4))
                           go_ret3
                           exact ⟨by first | rfl | (simp [errW_none, errW_some] <;> rfl) | (simp only [← hji10]; first | rfl | (simp [errW_none, errW_some] <;> rfl)) | (simp [*, errW_none, errW_some] <;> rfl), by repeat (first | (with_reducible first | exact HB.out | apply below_alloc | apply pw_below_drewN | apply below_drew1 | refine below_set ?_ GE257.out | refine below_set ?_ GE259.out) | exact HB.out)⟩
                   · rw [if_neg c20] at H
                     exact absurd H (by simp)
                 · rw [if_neg c19] at H
                   exact absurd H (by simp)
               · rw [if_neg c18] at H
                 have c18b0 : decide (x45_2 < (l1.length : Int)) = false := decide_eq_false c18
                 clear c18
                 have H' := Aside0.mk H
                 clear H
                 go_wp2
                 go_roundg k2
                 case measure => have := HK1.out; have := HK2.out; omega
                 case rel => exact ⟨(wrap64 (x9_1 + 1)), (by first | rfl | (simp; done) | (simp [*]; done)), H', ⟨by have := HK1.out; have := HK2.out; omega⟩, ⟨by repeat (first | (with_reducible first | exact HB.out | apply below_alloc | apply pw_below_drewN | apply below_drew1 | refine below_set ?_ GE257.out) | exact HB.out)⟩⟩
           · rw [if_neg c13] at H
             have c13b0 : decide (x9_1 ≤ ((rd_T71 l0 (ji10)).f0)) = false := decide_eq_false c13
             clear c13
             simp only [Option.some.injEq, Prod.mk.injEq] at H
             obtain ⟨rfl, rfl, rfl⟩ := H
             have p252 : 0 ≤ ((ji10) : Int) := of_decide_eq_true (by first | (with_reducible assumption) | assumption)
             have q252 : (ji10) < (l0.length : Int) := of_decide_eq_true (by first | (with_reducible assumption) | assumption)
             obtain ⟨ad252, e252, hx252_0, hx252_1, hx252_2, hx252_3⟩ := at_T71 HR0.out (ji10) p252 q252
             obtain rfl : ad251 = ad252 := (by injection e252)
             replace hx252_0 := (HB.out.cell (World.block_lt_of_cell? w _ hx252_0)).trans hx252_0
             replace hx252_1 := (HB.out.cell (World.block_lt_of_cell? w _ hx252_1)).trans hx252_1
             replace hx252_2 := (HB.out.cell (World.block_lt_of_cell? w _ hx252_2)).trans hx252_2
             replace hx252_3 := (HB.out.cell (World.block_lt_of_cell? w _ hx252_3)).trans hx252_3
             replace p252 := eq_true p252
             replace q252 := eq_true q252
             go_wp2
             go_ret3
             exact ⟨by first | rfl | (simp [errW_none, errW_some] <;> rfl) | (simp only [← hji10]; first | rfl | (simp [errW_none, errW_some] <;> rfl)) | (simp [*, errW_none, errW_some] <;> rfl), by repeat (first | (with_reducible first | exact HB.out | apply below_alloc | apply pw_below_drewN | apply below_drew1) | exact HB.out)⟩
         · rw [if_neg c12] at H
           exact absurd H (by simp)
       · rw [if_neg c11] at H
         exact absurd H (by simp)
   | clear hm1_1
     go_enter Try.func30, Try.ntmps30
     go_wp2_with (first | ((with_reducible refine gate_callee (f := 76) rfl ?_); refine goesL_ (some 16) rfl rfl Try.func76 (by kernel_rfl) rfl #[.slice A0 l0.length c0] rfl (by (try simp only [List.map_toArray, List.map_cons, List.map_nil]); first | done | rfl | (simp only [List.length_drop, List.length_take]; rfl)) ?_; (with_reducible refine (fly_Check.calls k _ _ l0 t249 _ ?side1 ?side2 A3.out).mono ?_); (case side1 => repeat (first | exact HR0.out | (with_reducible refine Kd.C_alloc ?_ _) | (with_reducible refine Kd.C_drewN ?_ _) | (with_reducible refine Kd.C_drew ?_))); (case side2 => exact HC0.out); rintro e wx5de21 ⟨rfl, hb⟩; refine ⟨_, rfl, ?_⟩; have n0_ := Aside0.mk (below_step (by repeat (first | (with_reducible first | exact HB.out | apply below_alloc | apply pw_below_drewN | apply below_drew1) | exact HB.out)) hb); clear HB; have HB := n0_; clear n0_; (try clear hb); (try clear hb2); (try clear hk); (try clear hi)) | ((with_reducible refine gate_callee (f := 70) rfl ?_); refine goesL_ (some 21) rfl rfl Try.func70 (by kernel_rfl) rfl #[.slice A1 l1.length c1] rfl (by (try simp only [List.map_toArray, List.map_cons, List.map_nil]); first | done | rfl | (simp only [List.length_drop, List.length_take]; rfl)) ?_; (with_reducible refine (route_CheckVolumes.calls k _ _ l1 t250 _ ?side1 ?side2 A5.out).mono ?_); (case side1 => repeat (first | exact (Kd.C_below HR1.out HB.out) | (with_reducible refine Kd.C_alloc ?_ _) | (with_reducible refine Kd.C_drewN ?_ _) | (with_reducible refine Kd.C_drew ?_))); (case side2 => exact HC1.out); rintro e wx035e1 ⟨rfl, hb⟩; refine ⟨_, rfl, ?_⟩; have n0_ := Aside0.mk (below_step (by repeat (first | (with_reducible first | exact HB.out | apply below_alloc | apply pw_below_drewN | apply below_drew1) | exact HB.out)) hb); clear HB; have HB := n0_; clear n0_; (try clear hb); (try clear hb2); (try clear hk); (try clear hi)))
     go_ret3
     exact ⟨by first | rfl | (simp [errW_none, errW_some] <;> rfl) | (simp [*, errW_none, errW_some] <;> rfl), by repeat (first | (with_reducible first | exact HB.out | apply below_alloc | apply pw_below_drewN | apply below_drew1) | exact HB.out)⟩

end Go.Proofs.Ytbpbpojnfhhbjaa.PFlyClosed
