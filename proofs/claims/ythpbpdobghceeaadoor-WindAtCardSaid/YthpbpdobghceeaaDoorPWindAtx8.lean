/- Made by a program of this session (wip/tools/myprint.py, over the kit's printer): that the Go functions answer as the Lean functions printed beside them. -/
import Derived.Test.YthpbpdobghceeaaDoorPWindAtx0
import Derived.Test.YthpbpdobghceeaaDoorPWindAtx2
import Derived.Test.YthpbpdobghceeaaDoorPWindAtx7
namespace Go.Proofs.YthpbpdobghceeaaDoor.PWindAt
open Go.RowKit Go.Proofs.YthpbpdobghceeaaDoorW.PrintWords Go.Proofs.YthpbpdobghceeaaDoorW.PrintLast Go.Proofs.YthpbpdobghceeaaDoorW.PrintMore
attribute [local go_sem] max2_int min2_int max_two min_two max_three min_three max_four min_four   -- for this text's walks alone
set_option linter.unusedVariables false
set_option linter.unusedSimpArgs false

attribute [local go_sem high] eqA38
/-! ### skywaykeep1_WindAt: function 10 -/
def skywaykeep1_WindAt.l0 : Nat → Int → Bool → List (S38) → Int → Int → Int → Int → Int → Int → Int → Option (Bool)
  | 0, _, _, _, _, _, _, _, _, _, _ => none
  | k + 1, x1, x7, x23, x24, x25, x188000, x188001, x188002, x188003, x188004 => if x25 < x24 then (if 0 ≤ x25 then (if x25 < (x23.length : Int) then (if x7 = true then (skywaykeep1_WindAt.l0 k x1 true x23 x24 (wrap64 (x25 + 1)) x188000 x188001 x188002 x188003 x188004) else (skywaykeep1_WindAt.l0 k x1 (((rd_T38 x23 x25).f0) == x188000 && (((rd_T38 x23 x25).f1) == x188001 && ((((rd_T38 x23 x25).f2.f0) == x188002 && (((rd_T38 x23 x25).f2.f1) == x188003)) && (((rd_T38 x23 x25).f3) == x188004)))) x23 x24 (wrap64 (x25 + 1)) x188000 x188001 x188002 x188003 x188004)) else (none)) else (none)) else (if x188000 ≤ x1 then (if x1 < x188001 then (if x7 = true then (some true) else (some (x188000 == 0 && (x188001 == 60001 && ((x188002 == 0 && (x188003 == 0)) && (x188004 == 0)))))) else (some false)) else (some false))
def skywaykeep1_WindAt.f (k : Nat) (l0 : List (S38)) (a1 : Int) : Option (Bool) := (skywaykeep1_windWorks.f k).bind fun t180 => (if t180 = true then ((wind_At.f k l0 a1).bind fun bt181 => (if bt181.2.2.2.2.2 = 0 then (skywaykeep1_WindAt.l0 k a1 false l0 (l0.length : Int) 0 bt181.1 bt181.2.1 bt181.2.2.1 bt181.2.2.2.1 bt181.2.2.2.2.1) else (some (bt181.1 == 0 && (bt181.2.1 == 0 && ((bt181.2.2.1 == 0 && (bt181.2.2.2.1 == 0)) && (bt181.2.2.2.2.1 == 0))))))) else (some false))
theorem skywaykeep1_WindAt.mono_l : ∀ k, (∀ y0 y1 y2 y3 y4 y5 y6 y7 y8 y9, LeO (skywaykeep1_WindAt.l0 k y0 y1 y2 y3 y4 y5 y6 y7 y8 y9) (skywaykeep1_WindAt.l0 (k + 1) y0 y1 y2 y3 y4 y5 y6 y7 y8 y9))
  | 0 => fun _ _ _ _ _ _ _ _ _ _ r h => by simp [skywaykeep1_WindAt.l0] at h
  | k + 1 => by
    have ih0 := skywaykeep1_WindAt.mono_l k
    · intro y0 y1 y2 y3 y4 y5 y6 y7 y8 y9
      unfold skywaykeep1_WindAt.l0
      repeat' first
      | (with_reducible exact ih0 _ _ _ _ _ _ _ _ _ _)
      | (with_reducible exact skywaykeep1_windWorks.mono _)
      | (with_reducible exact wind_At.mono _ _ _)
      | (with_reducible exact LeO.refl _)
      | (with_reducible exact LeO.none _)
      | (with_reducible refine LeO.ite ?_ ?_)
      | (with_reducible refine LeO.bind ?_ (fun _ => ?_))
      | exact ih0 _ _ _ _ _ _ _ _ _ _
      | exact skywaykeep1_windWorks.mono _
      | exact wind_At.mono _ _ _
      | exact LeO.none _
      | refine LeO.ite ?_ ?_
      | refine LeO.bind ?_ (fun _ => ?_)
theorem skywaykeep1_WindAt.mono : ∀ a0 a1 k, LeO (skywaykeep1_WindAt.f k a0 a1) (skywaykeep1_WindAt.f (k + 1) a0 a1) := by
  intro a0 a1 k
  have ih0 := skywaykeep1_WindAt.mono_l k
  unfold skywaykeep1_WindAt.f
  repeat' first
      | (with_reducible exact ih0 _ _ _ _ _ _ _ _ _ _)
      | (with_reducible exact skywaykeep1_windWorks.mono _)
      | (with_reducible exact wind_At.mono _ _ _)
      | (with_reducible exact LeO.refl _)
      | (with_reducible exact LeO.none _)
      | (with_reducible refine LeO.ite ?_ ?_)
      | (with_reducible refine LeO.bind ?_ (fun _ => ?_))
      | exact ih0 _ _ _ _ _ _ _ _ _ _
      | exact skywaykeep1_windWorks.mono _
      | exact wind_At.mono _ _ _
      | exact LeO.none _
      | refine LeO.ite ?_ ?_
      | refine LeO.bind ?_ (fun _ => ?_)
set_option maxHeartbeats 8000000 in
set_option maxRecDepth 100000 in
theorem skywaykeep1_WindAt.calls (k : Nat) (A0 : Option Addr) (c0 : Nat) (l0 : List (S38)) (a1 : Int) (r : Bool) (w : World) (hr0 : Kd.C k38 w A0 l0.length l0) (hc0 : l0.length ≤ c0) (h : skywaykeep1_WindAt.f k l0 a1 = some r) (hT0 : Ang.Tab w := by exact Ang.Tab.below hT0 (by repeat (first | (with_reducible first | exact HB.out | apply below_alloc | apply pw_below_drewN | apply below_drew1) | exact HB.out))) :
    Calls Tryd.prog 10 #[.slice A0 l0.length c0, .int .i64 a1] w fun e w' => e = .returned (.bool r) ∧ Below w.heap.size w w' := by
 have hu38 := Tryd.underlying38
 have HR0 := Aside0.mk hr0
 have HC0 := Aside0.mk hc0
 clear hr0 hc0
 have HB := Aside0.mk (Below.refl w.heap.size w)
 have H : ((skywaykeep1_windWorks.f k).bind fun t180 => (if t180 = true then ((wind_At.f k l0 a1).bind fun bt181 => (if bt181.2.2.2.2.2 = 0 then (skywaykeep1_WindAt.l0 k a1 false l0 (l0.length : Int) 0 bt181.1 bt181.2.1 bt181.2.2.1 bt181.2.2.2.1 bt181.2.2.2.2.1) else (some (bt181.1 == 0 && (bt181.2.1 == 0 && ((bt181.2.2.1 == 0 && (bt181.2.2.2.1 == 0)) && (bt181.2.2.2.2.1 == 0))))))) else (some false))) = some r := h
 clear h
 replace H := Option.bind_eq_some_iff.mp H
 obtain ⟨t180, A30, H⟩ := H
 replace H : (if t180 = true then ((wind_At.f k l0 a1).bind fun bt181 => (if bt181.2.2.2.2.2 = 0 then (skywaykeep1_WindAt.l0 k a1 false l0 (l0.length : Int) 0 bt181.1 bt181.2.1 bt181.2.2.1 bt181.2.2.2.1 bt181.2.2.2.2.1) else (some (bt181.1 == 0 && (bt181.2.1 == 0 && ((bt181.2.2.1 == 0 && (bt181.2.2.2.1 == 0)) && (bt181.2.2.2.2.1 == 0))))))) else (some false)) = some r := H
 have A3 := Aside0.mk A30
 clear A30
 refine Or.elim (Classical.em (t180 = true)) (fun c4 => ?p2_) (fun c4 => ?n2_)
 case' p2_ =>
  subst c4
  have H1 : ((wind_At.f k l0 a1).bind fun bt181 => (if bt181.2.2.2.2.2 = 0 then (skywaykeep1_WindAt.l0 k a1 false l0 (l0.length : Int) 0 bt181.1 bt181.2.1 bt181.2.2.1 bt181.2.2.2.1 bt181.2.2.2.2.1) else (some (bt181.1 == 0 && (bt181.2.1 == 0 && ((bt181.2.2.1 == 0 && (bt181.2.2.2.1 == 0)) && (bt181.2.2.2.2.1 == 0))))))) = some r := by rw [if_pos rfl] at H; exact H
  clear H
  have H := H1
  clear H1
  replace H := Option.bind_eq_some_iff.mp H
  obtain ⟨⟨t181, t182, t183, t184, t185, t186⟩, A50, H⟩ := H
  replace H : (if t186 = 0 then (skywaykeep1_WindAt.l0 k a1 false l0 (l0.length : Int) 0 t181 t182 t183 t184 t185) else (some (t181 == 0 && (t182 == 0 && ((t183 == 0 && (t184 == 0)) && (t185 == 0)))))) = some r := H
  have A5 := Aside0.mk A50
  clear A50
  refine Or.elim (Classical.em (t186 = 0)) (fun c6 => ?p3_) (fun c6 => ?n3_)
  case' p3_ =>
   rw [if_pos c6] at H
   have c6b0 : (t186 == 0) = true := beq_iff_eq.mpr c6
   have c6b1 : (t186 != 0) = false := bne_eq_false_iff_eq.mpr c6
   clear c6
   have hm1_0 := Aside0.mk trivial
  case' n3_ =>
   rw [if_neg c6] at H
   have c6b0 : (t186 == 0) = false := beq_eq_false_iff_ne.mpr c6
   have c6b1 : (t186 != 0) = true := bne_iff_ne.mpr c6
   have hm1_1 := Aside0.mk trivial
 case' n2_ =>
  replace c4 := Bool.eq_false_iff.mpr c4
  subst c4
  have H1 : (some false) = some r := by rw [if_neg (show ¬ (false = true) by decide)] at H; exact H
  clear H
  have H := H1
  clear H1
  have hm1_2 := Aside0.mk trivial
 all_goals
  first
   | clear hm1_0
     have H' := Aside0.mk H
     clear H
     go_enter Tryd.func10, Tryd.ntmps10
     go_wp2_with (first | ((with_reducible refine gate_callee (f := 19) rfl ?_); refine goesL_ (some 10) rfl rfl Tryd.func19 (by kernel_rfl) rfl #[] rfl (by (try simp only [List.map_toArray, List.map_cons, List.map_nil]); first | done | rfl | (simp only [List.length_drop, List.length_take]; rfl)) ?_; (with_reducible refine (skywaykeep1_windWorks.calls k  true _ A3.out).mono ?_); rintro e wxf72f1 ⟨rfl, hb⟩; refine ⟨_, rfl, ?_⟩; have n0_ := Aside0.mk (below_step (by repeat (first | (with_reducible first | exact HB.out | apply below_alloc | apply pw_below_drewN | apply below_drew1) | exact HB.out)) hb); clear HB; have HB := n0_; clear n0_; (try clear hb); (try clear hb2); (try clear hk); (try clear hi)) | ((with_reducible refine gate_callee (f := 22) rfl ?_); refine goesL_ (some 15) rfl rfl Tryd.func22 (by kernel_rfl) rfl #[.slice A0 l0.length c0, .int .i64 a1] rfl (by (try simp only [List.map_toArray, List.map_cons, List.map_nil]); first | done | rfl | (simp only [List.length_drop, List.length_take]; rfl)) ?_; (with_reducible refine (wind_At.calls k _ _ l0 a1 t181 t182 t183 t184 t185 t186 _ ?side1 ?side2 A5.out).mono ?_); (case side1 => repeat (first | exact (Kd.C_below HR0.out HB.out) | (with_reducible refine Kd.C_alloc ?_ _) | (with_reducible refine Kd.C_drewN ?_ _) | (with_reducible refine Kd.C_drew ?_))); (case side2 => exact HC0.out); rintro e wxd4611 ⟨rfl, hb⟩; refine ⟨_, rfl, ?_⟩; have n0_ := Aside0.mk (below_step (by repeat (first | (with_reducible first | exact HB.out | apply below_alloc | apply pw_below_drewN | apply below_drew1) | exact HB.out)) hb); clear HB; have HB := n0_; clear n0_; (try clear hb); (try clear hb2); (try clear hk); (try clear hi)) | ((with_reducible refine gate_dst (N := 5) rfl ?_); refine box_event ?hg (N := 5) ?hd (cs := #[.int .i64 0, .int .i64 0, .int .i64 0, .int .i64 0, .int .i64 0]) (t := 38) ?hr ?_; (case hd => rfl); (case hg => rfl); (case hr => first | (go_simp; done) | (go_simp; rfl)); intro gb187 hg wx04211 hbox hb; have n0_ := Aside0.mk (below_step (by repeat (first | (with_reducible first | exact HB.out | apply below_alloc | apply pw_below_drewN | apply below_drew1) | exact HB.out)) hb); have n1_ := Aside0.mk (hbox); have n2_ := Aside0.mk ((by rw [hg]; exact (below_size (by repeat (first | (with_reducible first | exact HB.out | apply below_alloc | apply pw_below_drewN | apply below_drew1) | exact HB.out))) : w.heap.size ≤ gb187)); have n3_ := Aside0.mk ((by rw [hg]; exact (below_size (by repeat (first | (with_reducible first | exact HB.out | apply below_alloc | apply pw_below_drewN | apply below_drew1) | exact HB.out))) : w.heap.size ≤ gb187)); clear HB; have HB := n0_; have BK187 := n1_; have GW187 := n2_; have GE187 := n3_; clear n0_ n1_ n2_ n3_; clear hb hbox hg; have hczx04211 : wx04211.cell? ⟨gb187, 0, none⟩ = some (.int .i64 0) := (blk_cell BK187.out 0).trans rfl; have hczx04212 : wx04211.cell? ⟨gb187, 1, none⟩ = some (.int .i64 0) := (blk_cell BK187.out 1).trans rfl; have hczx04213 : wx04211.cell? ⟨gb187, 2, none⟩ = some (.int .i64 0) := (blk_cell BK187.out 2).trans rfl; have hczx04214 : wx04211.cell? ⟨gb187, 3, none⟩ = some (.int .i64 0) := (blk_cell BK187.out 3).trans rfl; have hczx04215 : wx04211.cell? ⟨gb187, 4, none⟩ = some (.int .i64 0) := (blk_cell BK187.out 4).trans rfl; have hfzx04211 := blk_frozen BK187.out 0; have hfzx04212 := blk_frozen BK187.out 1; have hfzx04213 := blk_frozen BK187.out 2; have hfzx04214 := blk_frozen BK187.out 3; have hfzx04215 := blk_frozen BK187.out 4))
     go_loopg [7, 25] k (fun kq v7 v25 w' => ∃ (x7_1 : Bool) (x25_1 : Int), v7 = .bool x7_1 ∧ v25 = .int .i64 x25_1 ∧ Aside0 (skywaykeep1_WindAt.l0 kq a1 x7_1 l0 (l0.length : Int) x25_1 t181 t182 t183 t184 t185 = some r) ∧ Aside0 (kq ≤ k) ∧ Aside0 (w'.heap[gb187]? = some (.cells #[.int .i64 t181, .int .i64 t182, .int .i64 t183, .int .i64 t184, .int .i64 t185] 38 (0, 0))) ∧ Aside0 (Below w.heap.size w w'))
     case atStart => exact ⟨(false), (0), (by first | rfl | (simp; done) | (simp [*]; done)), (by first | rfl | (simp; done) | (simp [*]; done)), H', ⟨Nat.le_refl _⟩, ⟨by (with_reducible repeat (first | refine blk_drewN ?_ _ | refine blk_drew ?_ | refine blk_alloc ?_ _)); refine blk_put (cs := #[.int .i64 t181, .int .i64 t182, .int .i64 t183, .int .i64 t184, .int .i64 0]) ?_ 4 _ rfl; (with_reducible repeat (first | refine blk_drewN ?_ _ | refine blk_drew ?_ | refine blk_alloc ?_ _)); refine blk_put (cs := #[.int .i64 t181, .int .i64 t182, .int .i64 t183, .int .i64 0, .int .i64 0]) ?_ 3 _ rfl; (with_reducible repeat (first | refine blk_drewN ?_ _ | refine blk_drew ?_ | refine blk_alloc ?_ _)); refine blk_put (cs := #[.int .i64 t181, .int .i64 t182, .int .i64 0, .int .i64 0, .int .i64 0]) ?_ 2 _ rfl; (with_reducible repeat (first | refine blk_drewN ?_ _ | refine blk_drew ?_ | refine blk_alloc ?_ _)); refine blk_put (cs := #[.int .i64 t181, .int .i64 0, .int .i64 0, .int .i64 0, .int .i64 0]) ?_ 1 _ rfl; (with_reducible repeat (first | refine blk_drewN ?_ _ | refine blk_drew ?_ | refine blk_alloc ?_ _)); refine blk_put (cs := #[.int .i64 0, .int .i64 0, .int .i64 0, .int .i64 0, .int .i64 0]) ?_ 0 _ rfl; (with_reducible repeat (first | refine blk_drewN ?_ _ | refine blk_drew ?_ | refine blk_alloc ?_ _)); exact BK187.out⟩, ⟨by repeat (first | (with_reducible first | exact HB.out | apply below_alloc | apply pw_below_drewN | apply below_drew1 | refine below_set ?_ GE187.out) | exact HB.out)⟩⟩
     case round =>
      clear H'
      (try clear c1); (try clear p1); (try clear c2); (try clear p2); (try clear c4); (try clear c6); (try clear c6b0); (try clear c6b1); (try clear c10); (try clear hczx04211); (try clear hczx04212); (try clear hczx04213); (try clear hczx04214); (try clear hczx04215); (try clear hfzx04211); (try clear hfzx04212); (try clear hfzx04213); (try clear hfzx04214); (try clear hfzx04215)
      obtain ⟨x7_1, x25_1, rfl, rfl, HA, HK1, BK187, HB⟩ := hrel
      cases gk with
      | zero => exact absurd HA.out (by simp [skywaykeep1_WindAt.l0])
      | succ k1 =>
       have H := HA.out
       clear HA
       simp only [skywaykeep1_WindAt.l0] at H
       refine Or.elim (Classical.em (x25_1 < (l0.length : Int))) (fun c11 => ?p5_) (fun c11 => ?n5_)
       case' p5_ =>
        rw [if_pos c11] at H
        have c11b0 : decide (x25_1 < (l0.length : Int)) = true := decide_eq_true c11
        clear c11
        refine Or.elim (Classical.em (0 ≤ x25_1)) (fun c12 => ?p6_) (fun c12 => ?n6_)
        case' p6_ =>
         rw [if_pos c12] at H
         have c12b0 : decide (0 ≤ x25_1) = true := decide_eq_true c12
         clear c12
         refine Or.elim (Classical.em (x25_1 < (l0.length : Int))) (fun c13 => ?p7_) (fun c13 => ?n7_)
         case' p7_ =>
          rw [if_pos c13] at H
          have c13b0 : decide (x25_1 < (l0.length : Int)) = true := decide_eq_true c13
          clear c13
          refine Or.elim (Classical.em (x7_1 = true)) (fun c14 => ?p8_) (fun c14 => ?n8_)
          case' p8_ =>
           subst c14
           have H1 : (skywaykeep1_WindAt.l0 k1 a1 true l0 (l0.length : Int) (wrap64 (x25_1 + 1)) t181 t182 t183 t184 t185) = some r := by rw [if_pos rfl] at H; exact H
           clear H
           have H := H1
           clear H1
           have hm4_0 := Aside0.mk trivial
          case' n8_ =>
           replace c14 := Bool.eq_false_iff.mpr c14
           subst c14
           have H1 : (skywaykeep1_WindAt.l0 k1 a1 (((rd_T38 l0 x25_1).f0) == t181 && (((rd_T38 l0 x25_1).f1) == t182 && ((((rd_T38 l0 x25_1).f2.f0) == t183 && (((rd_T38 l0 x25_1).f2.f1) == t184)) && (((rd_T38 l0 x25_1).f3) == t185)))) l0 (l0.length : Int) (wrap64 (x25_1 + 1)) t181 t182 t183 t184 t185) = some r := by rw [if_neg (show ¬ (false = true) by decide)] at H; exact H
           clear H
           have H := H1
           clear H1
           have hm4_0 := Aside0.mk trivial
         case' n7_ =>
          rw [if_neg c13] at H
          exact absurd H (by simp)
        case' n6_ =>
         rw [if_neg c12] at H
         exact absurd H (by simp)
       case' n5_ =>
        rw [if_neg c11] at H
        have c11b0 : decide (x25_1 < (l0.length : Int)) = false := decide_eq_false c11
        clear c11
        refine Or.elim (Classical.em (t181 ≤ a1)) (fun c22 => ?p9_) (fun c22 => ?n9_)
        case' p9_ =>
         rw [if_pos c22] at H
         have c22b0 : decide (t181 ≤ a1) = true := decide_eq_true c22
         clear c22
         refine Or.elim (Classical.em (a1 < t182)) (fun c23 => ?p10_) (fun c23 => ?n10_)
         case' p10_ =>
          rw [if_pos c23] at H
          have c23b0 : decide (a1 < t182) = true := decide_eq_true c23
          clear c23
          refine Or.elim (Classical.em (x7_1 = true)) (fun c24 => ?p11_) (fun c24 => ?n11_)
          case' p11_ =>
           subst c24
           have H1 : (some true) = some r := by rw [if_pos rfl] at H; exact H
           clear H
           have H := H1
           clear H1
           have hm4_1 := Aside0.mk trivial
          case' n11_ =>
           replace c24 := Bool.eq_false_iff.mpr c24
           subst c24
           have H1 : (some (t181 == 0 && (t182 == 60001 && ((t183 == 0 && (t184 == 0)) && (t185 == 0))))) = some r := by rw [if_neg (show ¬ (false = true) by decide)] at H; exact H
           clear H
           have H := H1
           clear H1
           have hm4_1 := Aside0.mk trivial
         case' n10_ =>
          rw [if_neg c23] at H
          have c23b0 : decide (a1 < t182) = false := decide_eq_false c23
          clear c23
          have hm4_1 := Aside0.mk trivial
        case' n9_ =>
         rw [if_neg c22] at H
         have c22b0 : decide (t181 ≤ a1) = false := decide_eq_false c22
         clear c22
         have hm4_1 := Aside0.mk trivial
       all_goals
        first
         | clear hm4_0
           have H' := Aside0.mk H
           clear H
           have p188 : 0 ≤ (x25_1 : Int) := of_decide_eq_true (by first | (with_reducible assumption) | assumption)
           have q188 : x25_1 < (l0.length : Int) := of_decide_eq_true (by first | (with_reducible assumption) | assumption)
           obtain ⟨ad188, e188, hx188_0, hx188_1, hx188_2, hx188_3, hx188_4⟩ := at_T38 HR0.out x25_1 p188 q188
           cases e188
           replace hx188_0 := (HB.out.cell (World.block_lt_of_cell? w _ hx188_0)).trans hx188_0
           replace hx188_1 := (HB.out.cell (World.block_lt_of_cell? w _ hx188_1)).trans hx188_1
           replace hx188_2 := (HB.out.cell (World.block_lt_of_cell? w _ hx188_2)).trans hx188_2
           replace hx188_3 := (HB.out.cell (World.block_lt_of_cell? w _ hx188_3)).trans hx188_3
           replace hx188_4 := (HB.out.cell (World.block_lt_of_cell? w _ hx188_4)).trans hx188_4
           replace p188 := eq_true p188
           replace q188 := eq_true q188
           go_wp2_with (first | ((with_reducible refine gate_dst (N := 9) rfl ?_); refine box_event ?hg (N := 9) ?hd (cs := #[.int .i64 0, .int .i64 0, .int .i64 0, .int .i64 0, .int .i64 0]) (t := 38) ?hr ?_; (case hd => rfl); (case hg => rfl); (case hr => first | (go_simp; done) | (go_simp; rfl)); intro gb189 hg wx66c81 hbox hb; have n0_ := Aside0.mk (blk_below (g := gb187) (o := .cells #[.int .i64 t181, .int .i64 t182, .int .i64 t183, .int .i64 t184, .int .i64 t185] 38 (0, 0)) (by (with_reducible repeat (first | refine blk_drewN ?_ _ | refine blk_drew ?_ | refine blk_alloc ?_ _)); exact BK187.out) hb); have n1_ := Aside0.mk (below_step (by repeat (first | (with_reducible first | exact HB.out | apply below_alloc | apply pw_below_drewN | apply below_drew1 | refine below_set ?_ GE187.out) | exact HB.out)) hb); have n2_ := Aside0.mk (hbox); have n3_ := Aside0.mk ((by rw [hg]; exact (below_size (by repeat (first | (with_reducible first | exact HB.out | apply below_alloc | apply pw_below_drewN | apply below_drew1 | refine below_set ?_ GE187.out) | exact HB.out))) : w.heap.size ≤ gb189)); have n4_ := Aside0.mk ((by rw [hg]; exact (below_size (by repeat (first | (with_reducible first | exact HB.out | apply below_alloc | apply pw_below_drewN | apply below_drew1 | refine below_set ?_ GE187.out) | exact HB.out))) : w.heap.size ≤ gb189)); have n5_ := Aside0.mk ((by rw [hg]; exact Nat.ne_of_lt (blk_lt (g := gb187) (o := .cells #[.int .i64 t181, .int .i64 t182, .int .i64 t183, .int .i64 t184, .int .i64 t185] 38 (0, 0)) (by (with_reducible repeat (first | refine blk_drewN ?_ _ | refine blk_drew ?_ | refine blk_alloc ?_ _)); exact BK187.out)) : gb187 ≠ gb189)); have n6_ := Aside0.mk ((by rw [hg]; exact Nat.ne_of_gt (blk_lt (g := gb187) (o := .cells #[.int .i64 t181, .int .i64 t182, .int .i64 t183, .int .i64 t184, .int .i64 t185] 38 (0, 0)) (by (with_reducible repeat (first | refine blk_drewN ?_ _ | refine blk_drew ?_ | refine blk_alloc ?_ _)); exact BK187.out)) : gb189 ≠ gb187)); clear BK187; clear HB; have BK187 := n0_; have HB := n1_; have BK189 := n2_; have GW189 := n3_; have GE189 := n4_; have NB187_189 := n5_; have NB189_187 := n6_; clear n0_ n1_ n2_ n3_ n4_ n5_ n6_; clear hb hbox hg; have hnbx66c81 := NB189_187.out; have hncx66c81 := NB187_189.out; have hczx66c81 : wx66c81.cell? ⟨gb189, 0, none⟩ = some (.int .i64 0) := (blk_cell BK189.out 0).trans rfl; have hczx66c82 : wx66c81.cell? ⟨gb189, 1, none⟩ = some (.int .i64 0) := (blk_cell BK189.out 1).trans rfl; have hczx66c83 : wx66c81.cell? ⟨gb189, 2, none⟩ = some (.int .i64 0) := (blk_cell BK189.out 2).trans rfl; have hczx66c84 : wx66c81.cell? ⟨gb189, 3, none⟩ = some (.int .i64 0) := (blk_cell BK189.out 3).trans rfl; have hczx66c85 : wx66c81.cell? ⟨gb189, 4, none⟩ = some (.int .i64 0) := (blk_cell BK189.out 4).trans rfl; have hfzx66c81 := blk_frozen BK189.out 0; have hfzx66c82 := blk_frozen BK189.out 1; have hfzx66c83 := blk_frozen BK189.out 2; have hfzx66c84 := blk_frozen BK189.out 3; have hfzx66c85 := blk_frozen BK189.out 4; have hczx66c86 : wx66c81.cell? ⟨gb187, 0, none⟩ = some (.int .i64 t181) := (blk_cell BK187.out 0).trans rfl; have hczx66c87 : wx66c81.cell? ⟨gb187, 1, none⟩ = some (.int .i64 t182) := (blk_cell BK187.out 1).trans rfl; have hczx66c88 : wx66c81.cell? ⟨gb187, 2, none⟩ = some (.int .i64 t183) := (blk_cell BK187.out 2).trans rfl; have hczx66c89 : wx66c81.cell? ⟨gb187, 3, none⟩ = some (.int .i64 t184) := (blk_cell BK187.out 3).trans rfl; have hczx66c810 : wx66c81.cell? ⟨gb187, 4, none⟩ = some (.int .i64 t185) := (blk_cell BK187.out 4).trans rfl; have hfzx66c86 := blk_frozen BK187.out 0; have hfzx66c87 := blk_frozen BK187.out 1; have hfzx66c88 := blk_frozen BK187.out 2; have hfzx66c89 := blk_frozen BK187.out 3; have hfzx66c810 := blk_frozen BK187.out 4) | ((with_reducible refine gate_dst (N := 9) rfl ?_); refine box_event ?hg (N := 9) ?hd (cs := #[.int .i64 0, .int .i64 0, .int .i64 0, .int .i64 0, .int .i64 0]) (t := 38) ?hr ?_; (case hd => rfl); (case hg => rfl); (case hr => first | (go_simp; done) | (go_simp; rfl)); intro gb189 hg wxcb241 hbox hb; have n0_ := Aside0.mk (blk_below (g := gb187) (o := .cells #[.int .i64 t181, .int .i64 t182, .int .i64 t183, .int .i64 t184, .int .i64 t185] 38 (0, 0)) (by (with_reducible repeat (first | refine blk_drewN ?_ _ | refine blk_drew ?_ | refine blk_alloc ?_ _)); exact BK187.out) hb); have n1_ := Aside0.mk (below_step (by repeat (first | (with_reducible first | exact HB.out | apply below_alloc | apply pw_below_drewN | apply below_drew1 | refine below_set ?_ GE187.out) | exact HB.out)) hb); have n2_ := Aside0.mk (hbox); have n3_ := Aside0.mk ((by rw [hg]; exact (below_size (by repeat (first | (with_reducible first | exact HB.out | apply below_alloc | apply pw_below_drewN | apply below_drew1 | refine below_set ?_ GE187.out) | exact HB.out))) : w.heap.size ≤ gb189)); have n4_ := Aside0.mk ((by rw [hg]; exact (below_size (by repeat (first | (with_reducible first | exact HB.out | apply below_alloc | apply pw_below_drewN | apply below_drew1 | refine below_set ?_ GE187.out) | exact HB.out))) : w.heap.size ≤ gb189)); have n5_ := Aside0.mk ((by rw [hg]; exact Nat.ne_of_lt (blk_lt (g := gb187) (o := .cells #[.int .i64 t181, .int .i64 t182, .int .i64 t183, .int .i64 t184, .int .i64 t185] 38 (0, 0)) (by (with_reducible repeat (first | refine blk_drewN ?_ _ | refine blk_drew ?_ | refine blk_alloc ?_ _)); exact BK187.out)) : gb187 ≠ gb189)); have n6_ := Aside0.mk ((by rw [hg]; exact Nat.ne_of_gt (blk_lt (g := gb187) (o := .cells #[.int .i64 t181, .int .i64 t182, .int .i64 t183, .int .i64 t184, .int .i64 t185] 38 (0, 0)) (by (with_reducible repeat (first | refine blk_drewN ?_ _ | refine blk_drew ?_ | refine blk_alloc ?_ _)); exact BK187.out)) : gb189 ≠ gb187)); clear BK187; clear HB; have BK187 := n0_; have HB := n1_; have BK189 := n2_; have GW189 := n3_; have GE189 := n4_; have NB187_189 := n5_; have NB189_187 := n6_; clear n0_ n1_ n2_ n3_ n4_ n5_ n6_; clear hb hbox hg; have hnbxcb241 := NB189_187.out; have hncxcb241 := NB187_189.out; have hczxcb241 : wxcb241.cell? ⟨gb189, 0, none⟩ = some (.int .i64 0) := (blk_cell BK189.out 0).trans rfl; have hczxcb242 : wxcb241.cell? ⟨gb189, 1, none⟩ = some (.int .i64 0) := (blk_cell BK189.out 1).trans rfl; have hczxcb243 : wxcb241.cell? ⟨gb189, 2, none⟩ = some (.int .i64 0) := (blk_cell BK189.out 2).trans rfl; have hczxcb244 : wxcb241.cell? ⟨gb189, 3, none⟩ = some (.int .i64 0) := (blk_cell BK189.out 3).trans rfl; have hczxcb245 : wxcb241.cell? ⟨gb189, 4, none⟩ = some (.int .i64 0) := (blk_cell BK189.out 4).trans rfl; have hfzxcb241 := blk_frozen BK189.out 0; have hfzxcb242 := blk_frozen BK189.out 1; have hfzxcb243 := blk_frozen BK189.out 2; have hfzxcb244 := blk_frozen BK189.out 3; have hfzxcb245 := blk_frozen BK189.out 4))
           go_roundg k1
           case measure => have := HK1.out; omega
           case rel => first | (exact ⟨(true), (wrap64 (x25_1 + 1)), (by first | rfl | (simp; done) | (simp [*]; done)), (by first | rfl | (simp; done) | (simp [*]; done)), H', ⟨by have := HK1.out; omega⟩, ⟨by (with_reducible repeat (first | refine blk_drewN ?_ _ | refine blk_drew ?_ | refine blk_alloc ?_ _)); refine blk_far ?_ NB187_189.out _; (with_reducible repeat (first | refine blk_drewN ?_ _ | refine blk_drew ?_ | refine blk_alloc ?_ _)); refine blk_far ?_ NB187_189.out _; (with_reducible repeat (first | refine blk_drewN ?_ _ | refine blk_drew ?_ | refine blk_alloc ?_ _)); refine blk_far ?_ NB187_189.out _; (with_reducible repeat (first | refine blk_drewN ?_ _ | refine blk_drew ?_ | refine blk_alloc ?_ _)); refine blk_far ?_ NB187_189.out _; (with_reducible repeat (first | refine blk_drewN ?_ _ | refine blk_drew ?_ | refine blk_alloc ?_ _)); refine blk_far ?_ NB187_189.out _; (with_reducible repeat (first | refine blk_drewN ?_ _ | refine blk_drew ?_ | refine blk_alloc ?_ _)); exact BK187.out⟩, ⟨by repeat (first | (with_reducible first | exact HB.out | apply below_alloc | apply pw_below_drewN | apply below_drew1 | refine below_set ?_ GE187.out | refine below_set ?_ GE189.out) | exact HB.out)⟩⟩) | (exact ⟨((((rd_T38 l0 x25_1).f0) == t181 && (((rd_T38 l0 x25_1).f1) == t182 && ((((rd_T38 l0 x25_1).f2.f0) == t183 && (((rd_T38 l0 x25_1).f2.f1) == t184)) && (((rd_T38 l0 x25_1).f3) == t185))))), (wrap64 (x25_1 + 1)), (by first | rfl | (simp; done) | (simp [*]; done)), (by first | rfl | (simp; done) | (simp [*]; done)), H', ⟨by have := HK1.out; omega⟩, ⟨by (with_reducible repeat (first | refine blk_drewN ?_ _ | refine blk_drew ?_ | refine blk_alloc ?_ _)); refine blk_far ?_ NB187_189.out _; (with_reducible repeat (first | refine blk_drewN ?_ _ | refine blk_drew ?_ | refine blk_alloc ?_ _)); refine blk_far ?_ NB187_189.out _; (with_reducible repeat (first | refine blk_drewN ?_ _ | refine blk_drew ?_ | refine blk_alloc ?_ _)); refine blk_far ?_ NB187_189.out _; (with_reducible repeat (first | refine blk_drewN ?_ _ | refine blk_drew ?_ | refine blk_alloc ?_ _)); refine blk_far ?_ NB187_189.out _; (with_reducible repeat (first | refine blk_drewN ?_ _ | refine blk_drew ?_ | refine blk_alloc ?_ _)); refine blk_far ?_ NB187_189.out _; (with_reducible repeat (first | refine blk_drewN ?_ _ | refine blk_drew ?_ | refine blk_alloc ?_ _)); exact BK187.out⟩, ⟨by repeat (first | (with_reducible first | exact HB.out | apply below_alloc | apply pw_below_drewN | apply below_drew1 | refine below_set ?_ GE187.out | refine below_set ?_ GE189.out) | exact HB.out)⟩⟩)
         | clear hm4_1
           obtain rfl := Option.some.inj H
           have hczzc1 : wr.cell? ⟨gb187, 0, none⟩ = some (.int .i64 t181) := (blk_cell BK187.out 0).trans rfl
           have hczzc2 : wr.cell? ⟨gb187, 1, none⟩ = some (.int .i64 t182) := (blk_cell BK187.out 1).trans rfl
           have hczzc3 : wr.cell? ⟨gb187, 2, none⟩ = some (.int .i64 t183) := (blk_cell BK187.out 2).trans rfl
           have hczzc4 : wr.cell? ⟨gb187, 3, none⟩ = some (.int .i64 t184) := (blk_cell BK187.out 3).trans rfl
           have hczzc5 : wr.cell? ⟨gb187, 4, none⟩ = some (.int .i64 t185) := (blk_cell BK187.out 4).trans rfl
           have hfzzc1 := blk_frozen BK187.out 0
           have hfzzc2 := blk_frozen BK187.out 1
           have hfzzc3 := blk_frozen BK187.out 2
           have hfzzc4 := blk_frozen BK187.out 3
           have hfzzc5 := blk_frozen BK187.out 4
           go_wp2
           go_ret
           exact ⟨by first | rfl | (simp [errW_none, errW_some] <;> rfl) | (simp [*, errW_none, errW_some] <;> rfl), by repeat (first | (with_reducible first | exact HB.out | apply below_alloc | apply pw_below_drewN | apply below_drew1 | refine below_set ?_ GE187.out) | exact HB.out)⟩
   | (first | (have _hm := hm1_1) | (have _hm := hm1_2))
     obtain rfl := Option.some.inj H
     go_enter Tryd.func10, Tryd.ntmps10
     go_wp2_with (first | ((with_reducible refine gate_callee (f := 19) rfl ?_); refine goesL_ (some 10) rfl rfl Tryd.func19 (by kernel_rfl) rfl #[] rfl (by (try simp only [List.map_toArray, List.map_cons, List.map_nil]); first | done | rfl | (simp only [List.length_drop, List.length_take]; rfl)) ?_; (with_reducible refine (skywaykeep1_windWorks.calls k  false _ A3.out).mono ?_); rintro e wx94e41 ⟨rfl, hb⟩; refine ⟨_, rfl, ?_⟩; have n0_ := Aside0.mk (below_step (by repeat (first | (with_reducible first | exact HB.out | apply below_alloc | apply pw_below_drewN | apply below_drew1) | exact HB.out)) hb); clear HB; have HB := n0_; clear n0_; (try clear hb); (try clear hb2); (try clear hk); (try clear hi)) | ((with_reducible refine gate_callee (f := 19) rfl ?_); refine goesL_ (some 10) rfl rfl Tryd.func19 (by kernel_rfl) rfl #[] rfl (by (try simp only [List.map_toArray, List.map_cons, List.map_nil]); first | done | rfl | (simp only [List.length_drop, List.length_take]; rfl)) ?_; (with_reducible refine (skywaykeep1_windWorks.calls k  true _ A3.out).mono ?_); rintro e wxf72f1 ⟨rfl, hb⟩; refine ⟨_, rfl, ?_⟩; have n0_ := Aside0.mk (below_step (by repeat (first | (with_reducible first | exact HB.out | apply below_alloc | apply pw_below_drewN | apply below_drew1) | exact HB.out)) hb); clear HB; have HB := n0_; clear n0_; (try clear hb); (try clear hb2); (try clear hk); (try clear hi)) | ((with_reducible refine gate_callee (f := 22) rfl ?_); refine goesL_ (some 15) rfl rfl Tryd.func22 (by kernel_rfl) rfl #[.slice A0 l0.length c0, .int .i64 a1] rfl (by (try simp only [List.map_toArray, List.map_cons, List.map_nil]); first | done | rfl | (simp only [List.length_drop, List.length_take]; rfl)) ?_; (with_reducible refine (wind_At.calls k _ _ l0 a1 t181 t182 t183 t184 t185 t186 _ ?side1 ?side2 A5.out).mono ?_); (case side1 => repeat (first | exact (Kd.C_below HR0.out HB.out) | (with_reducible refine Kd.C_alloc ?_ _) | (with_reducible refine Kd.C_drewN ?_ _) | (with_reducible refine Kd.C_drew ?_))); (case side2 => exact HC0.out); rintro e wxd4611 ⟨rfl, hb⟩; refine ⟨_, rfl, ?_⟩; have n0_ := Aside0.mk (below_step (by repeat (first | (with_reducible first | exact HB.out | apply below_alloc | apply pw_below_drewN | apply below_drew1) | exact HB.out)) hb); clear HB; have HB := n0_; clear n0_; (try clear hb); (try clear hb2); (try clear hk); (try clear hi)) | ((with_reducible refine gate_dst (N := 5) rfl ?_); refine box_event ?hg (N := 5) ?hd (cs := #[.int .i64 0, .int .i64 0, .int .i64 0, .int .i64 0, .int .i64 0]) (t := 38) ?hr ?_; (case hd => rfl); (case hg => rfl); (case hr => first | (go_simp; done) | (go_simp; rfl)); intro gb187 hg wx04211 hbox hb; have n0_ := Aside0.mk (below_step (by repeat (first | (with_reducible first | exact HB.out | apply below_alloc | apply pw_below_drewN | apply below_drew1) | exact HB.out)) hb); have n1_ := Aside0.mk (hbox); have n2_ := Aside0.mk ((by rw [hg]; exact (below_size (by repeat (first | (with_reducible first | exact HB.out | apply below_alloc | apply pw_below_drewN | apply below_drew1) | exact HB.out))) : w.heap.size ≤ gb187)); have n3_ := Aside0.mk ((by rw [hg]; exact (below_size (by repeat (first | (with_reducible first | exact HB.out | apply below_alloc | apply pw_below_drewN | apply below_drew1) | exact HB.out))) : w.heap.size ≤ gb187)); clear HB; have HB := n0_; have BK187 := n1_; have GW187 := n2_; have GE187 := n3_; clear n0_ n1_ n2_ n3_; clear hb hbox hg; have hczx04211 : wx04211.cell? ⟨gb187, 0, none⟩ = some (.int .i64 0) := (blk_cell BK187.out 0).trans rfl; have hczx04212 : wx04211.cell? ⟨gb187, 1, none⟩ = some (.int .i64 0) := (blk_cell BK187.out 1).trans rfl; have hczx04213 : wx04211.cell? ⟨gb187, 2, none⟩ = some (.int .i64 0) := (blk_cell BK187.out 2).trans rfl; have hczx04214 : wx04211.cell? ⟨gb187, 3, none⟩ = some (.int .i64 0) := (blk_cell BK187.out 3).trans rfl; have hczx04215 : wx04211.cell? ⟨gb187, 4, none⟩ = some (.int .i64 0) := (blk_cell BK187.out 4).trans rfl; have hfzx04211 := blk_frozen BK187.out 0; have hfzx04212 := blk_frozen BK187.out 1; have hfzx04213 := blk_frozen BK187.out 2; have hfzx04214 := blk_frozen BK187.out 3; have hfzx04215 := blk_frozen BK187.out 4))
     go_ret
     first
      | clear hm1_1
        exact ⟨by first | rfl | (simp [errW_none, errW_some] <;> rfl) | (simp [*, errW_none, errW_some] <;> rfl), by repeat (first | (with_reducible first | exact HB.out | apply below_alloc | apply pw_below_drewN | apply below_drew1 | refine below_set ?_ GE187.out) | exact HB.out)⟩
      | clear hm1_2
        exact ⟨by first | rfl | (simp [errW_none, errW_some] <;> rfl) | (simp [*, errW_none, errW_some] <;> rfl), by repeat (first | (with_reducible first | exact HB.out | apply below_alloc | apply pw_below_drewN | apply below_drew1) | exact HB.out)⟩

/-- What is told of a value of struct type 28 that came in. -/
def good28 (x : S28) : Prop := ((Lit.int .i64 x.f0).wf = true) ∧ (Lit.int .i64 x.f1).wf = true
/-- What is told of a value of struct type 38 that came in. -/
def good38 (x : S38) : Prop := ((Lit.int .i64 x.f0).wf = true) ∧ ((Lit.int .i64 x.f1).wf = true) ∧ (good28 x.f2) ∧ (Lit.int .i64 x.f3).wf = true
/-- THE ONE PURE STATEMENT of skywaykeep1_WindAt. -/
def skywaykeep1_WindAt.Pure : Prop := ∀ (l0 : List (S38)) (a1 : Int), (l0.length * 40 ≤ 140737488351232 ∧ ∀ y0 ∈ l0, good38 y0) → ((Lit.int .i64 a1).wf = true) → ∃ k, skywaykeep1_WindAt.f k l0 a1 = some true

end Go.Proofs.YthpbpdobghceeaaDoor.PWindAt
