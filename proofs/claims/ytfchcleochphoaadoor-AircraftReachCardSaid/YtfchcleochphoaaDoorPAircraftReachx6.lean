/- Made by a program of this session (wip/tools/myprint.py, over the kit's printer): that the Go functions answer as the Lean functions printed beside them. -/
import Derived.Test.YtfchcleochphoaaDoorPAircraftReachx0
import Derived.Test.YtfchcleochphoaaDoorPAircraftReachx2
import Derived.Test.YtfchcleochphoaaDoorPAircraftReachx5
namespace Go.Proofs.YtfchcleochphoaaDoor.PAircraftReach
open Go.RowKit Go.Proofs.YtfchcleochphoaaDoorW.PrintWords Go.Proofs.YtfchcleochphoaaDoorW.PrintLast Go.Proofs.YtfchcleochphoaaDoorW.PrintMore
attribute [local go_sem] max2_int min2_int max_two min_two max_three min_three max_four min_four   -- for this text's walks alone
set_option linter.unusedVariables false
set_option linter.unusedSimpArgs false

/-! ### skywaykeep1_jet: function 20 -/
def skywaykeep1_jet.f  : Option (ByteArray × Int × Int × Int × Int × Int × Int) := some ((⟨#[65, 51, 50, 48]⟩ : ByteArray), 1, 39000, 40, 50, 70, 250)
set_option maxHeartbeats 8000000 in
set_option maxRecDepth 100000 in
theorem skywaykeep1_jet.calls  (r1 : ByteArray) (r2 : Int) (r3 : Int) (r4 : Int) (r5 : Int) (r6 : Int) (r7 : Int) (w : World) (h : skywaykeep1_jet.f  = some (r1, r2, r3, r4, r5, r6, r7)) :
    Calls Tryd.prog 20 #[] w fun e w' => e = .returned (.agg #[.string r1, .int .i64 r2, .int .i64 r3, .int .i64 r4, .int .i64 r5, .int .i64 r6, .int .i64 r7]) ∧ Below w.heap.size w w' := by
 have hu23 := Tryd.underlying23
 have HB := Aside0.mk (Below.refl w.heap.size w)
 have H : (some ((⟨#[65, 51, 50, 48]⟩ : ByteArray), 1, 39000, 40, 50, 70, 250)) = some (r1, r2, r3, r4, r5, r6, r7) := h
 clear h
 simp only [Option.some.injEq, Prod.mk.injEq] at H
 obtain ⟨rfl, rfl, rfl, rfl, rfl, rfl, rfl⟩ := H
 go_enter Tryd.func20, Tryd.ntmps20
 go_wp2_with (first | ((with_reducible refine gate_dst (N := 0) rfl ?_); refine box_event ?hg (N := 0) ?hd (cs := #[.string (⟨#[]⟩ : ByteArray), .int .i64 0, .int .i64 0, .int .i64 0, .int .i64 0, .int .i64 0, .int .i64 0]) (t := 23) ?hr ?_; (case hd => rfl); (case hg => rfl); (case hr => first | (go_simp; done) | (go_simp; rfl)); intro gb118 hg w1 hbox hb; have n0_ := Aside0.mk (below_step (by repeat (first | (with_reducible first | exact HB.out | apply below_alloc | apply pw_below_drewN | apply below_drew1) | exact HB.out)) hb); have n1_ := Aside0.mk (hbox); have n2_ := Aside0.mk ((by rw [hg]; exact (below_size (by repeat (first | (with_reducible first | exact HB.out | apply below_alloc | apply pw_below_drewN | apply below_drew1) | exact HB.out))) : w.heap.size ≤ gb118)); have n3_ := Aside0.mk ((by rw [hg]; exact (below_size (by repeat (first | (with_reducible first | exact HB.out | apply below_alloc | apply pw_below_drewN | apply below_drew1) | exact HB.out))) : w.heap.size ≤ gb118)); clear HB; have HB := n0_; have BK118 := n1_; have GW118 := n2_; have GE118 := n3_; clear n0_ n1_ n2_ n3_; clear hb hbox hg; have hcz2_0 : w1.cell? ⟨gb118, 0, none⟩ = some (.string (⟨#[]⟩ : ByteArray)) := (blk_cell BK118.out 0).trans rfl; have hcz2_1 : w1.cell? ⟨gb118, 1, none⟩ = some (.int .i64 0) := (blk_cell BK118.out 1).trans rfl; have hcz2_2 : w1.cell? ⟨gb118, 2, none⟩ = some (.int .i64 0) := (blk_cell BK118.out 2).trans rfl; have hcz2_3 : w1.cell? ⟨gb118, 3, none⟩ = some (.int .i64 0) := (blk_cell BK118.out 3).trans rfl; have hcz2_4 : w1.cell? ⟨gb118, 4, none⟩ = some (.int .i64 0) := (blk_cell BK118.out 4).trans rfl; have hcz2_5 : w1.cell? ⟨gb118, 5, none⟩ = some (.int .i64 0) := (blk_cell BK118.out 5).trans rfl; have hcz2_6 : w1.cell? ⟨gb118, 6, none⟩ = some (.int .i64 0) := (blk_cell BK118.out 6).trans rfl; have hfz2_0 := blk_frozen BK118.out 0; have hfz2_1 := blk_frozen BK118.out 1; have hfz2_2 := blk_frozen BK118.out 2; have hfz2_3 := blk_frozen BK118.out 3; have hfz2_4 := blk_frozen BK118.out 4; have hfz2_5 := blk_frozen BK118.out 5; have hfz2_6 := blk_frozen BK118.out 6))
 refine bodyPost_ret (results_cell_row rfl _ _ gb118 23 #[.string (⟨#[65, 51, 50, 48]⟩ : ByteArray), .int .i64 1, .int .i64 39000, .int .i64 40, .int .i64 50, .int .i64 70, .int .i64 250] (0, 0) _ rfl (by (with_reducible repeat (first | refine blk_drewN ?_ _ | refine blk_drew ?_ | refine blk_alloc ?_ _)); refine blk_put (cs := #[.string (⟨#[65, 51, 50, 48]⟩ : ByteArray), .int .i64 1, .int .i64 39000, .int .i64 40, .int .i64 50, .int .i64 70, .int .i64 0]) ?_ 6 _ rfl; (with_reducible repeat (first | refine blk_drewN ?_ _ | refine blk_drew ?_ | refine blk_alloc ?_ _)); refine blk_put (cs := #[.string (⟨#[65, 51, 50, 48]⟩ : ByteArray), .int .i64 1, .int .i64 39000, .int .i64 40, .int .i64 50, .int .i64 0, .int .i64 0]) ?_ 5 _ rfl; (with_reducible repeat (first | refine blk_drewN ?_ _ | refine blk_drew ?_ | refine blk_alloc ?_ _)); refine blk_put (cs := #[.string (⟨#[65, 51, 50, 48]⟩ : ByteArray), .int .i64 1, .int .i64 39000, .int .i64 40, .int .i64 0, .int .i64 0, .int .i64 0]) ?_ 4 _ rfl; (with_reducible repeat (first | refine blk_drewN ?_ _ | refine blk_drew ?_ | refine blk_alloc ?_ _)); refine blk_put (cs := #[.string (⟨#[65, 51, 50, 48]⟩ : ByteArray), .int .i64 1, .int .i64 39000, .int .i64 0, .int .i64 0, .int .i64 0, .int .i64 0]) ?_ 3 _ rfl; (with_reducible repeat (first | refine blk_drewN ?_ _ | refine blk_drew ?_ | refine blk_alloc ?_ _)); refine blk_put (cs := #[.string (⟨#[65, 51, 50, 48]⟩ : ByteArray), .int .i64 1, .int .i64 0, .int .i64 0, .int .i64 0, .int .i64 0, .int .i64 0]) ?_ 2 _ rfl; (with_reducible repeat (first | refine blk_drewN ?_ _ | refine blk_drew ?_ | refine blk_alloc ?_ _)); refine blk_put (cs := #[.string (⟨#[65, 51, 50, 48]⟩ : ByteArray), .int .i64 0, .int .i64 0, .int .i64 0, .int .i64 0, .int .i64 0, .int .i64 0]) ?_ 1 _ rfl; (with_reducible repeat (first | refine blk_drewN ?_ _ | refine blk_drew ?_ | refine blk_alloc ?_ _)); refine blk_put (cs := #[.string (⟨#[]⟩ : ByteArray), .int .i64 0, .int .i64 0, .int .i64 0, .int .i64 0, .int .i64 0, .int .i64 0]) ?_ 0 _ rfl; (with_reducible repeat (first | refine blk_drewN ?_ _ | refine blk_drew ?_ | refine blk_alloc ?_ _)); exact BK118.out) Tryd.underlying23 rfl (by kernel_rfl)) rfl ?_
 exact ⟨by first | rfl | (simp [errW_none, errW_some] <;> rfl) | (simp [*, errW_none, errW_some] <;> rfl), by repeat (first | (with_reducible first | exact HB.out | apply below_alloc | apply pw_below_drewN | apply below_drew1 | refine below_set ?_ GE118.out) | exact HB.out)⟩

/-! ### skywaykeep1_aircraftWorks: function 9 -/
def skywaykeep1_aircraftWorks.f (k : Nat)  : Option (Bool) := (skywaykeep1_jet.f).bind fun bt119 => ((aircraft_Text.f k bt119.1 bt119.2.1 bt119.2.2.1 bt119.2.2.2.1 bt119.2.2.2.2.1 bt119.2.2.2.2.2.1 bt119.2.2.2.2.2.2).bind fun bt126 => ((skywaykeep1_jet.f).bind fun bt128 => ((aircraft_Climb.f k bt128.1 bt128.2.1 bt128.2.2.1 bt128.2.2.2.1 bt128.2.2.2.2.1 bt128.2.2.2.2.2.1 bt128.2.2.2.2.2.2 0 100).bind fun bt135 => (if bt126.2 = 0 then (if bt126.1.toList = ([65, 51, 50, 48, 32, 77, 69, 68, 73, 85, 77, 32, 51, 57, 48, 48, 48, 32, 52, 48, 32, 53, 48, 32, 55, 48, 32, 50, 53, 48] : List UInt8) then (if bt135.2 = 0 then (some (bt135.1 == 3)) else (some false)) else (some false)) else (some false)))))
theorem skywaykeep1_aircraftWorks.mono : ∀ k, LeO (skywaykeep1_aircraftWorks.f k ) (skywaykeep1_aircraftWorks.f (k + 1) ) := by
  intro  k
  unfold skywaykeep1_aircraftWorks.f
  repeat' first
      | (with_reducible exact aircraft_Climb.mono _ _ _ _ _ _ _ _ _ _)
      | (with_reducible exact aircraft_Text.mono _ _ _ _ _ _ _ _)
      | (with_reducible exact LeO.refl _)
      | (with_reducible exact LeO.none _)
      | (with_reducible refine LeO.ite ?_ ?_)
      | (with_reducible refine LeO.bind ?_ (fun _ => ?_))
      | exact aircraft_Climb.mono _ _ _ _ _ _ _ _ _ _
      | exact aircraft_Text.mono _ _ _ _ _ _ _ _
      | exact LeO.none _
      | refine LeO.ite ?_ ?_
      | refine LeO.bind ?_ (fun _ => ?_)
set_option maxHeartbeats 8000000 in
set_option maxRecDepth 100000 in
theorem skywaykeep1_aircraftWorks.calls (k : Nat)  (r : Bool) (w : World) (h : skywaykeep1_aircraftWorks.f k  = some r) (hT0 : Ang.Tab w := by exact Ang.Tab.below hT0 (by repeat (first | (with_reducible first | exact HB.out | apply below_alloc | apply pw_below_drewN | apply below_drew1) | exact HB.out | (refine Below.setCell ?_ (by dsimp only; exact Aside0.out (by assumption)) _)))) :
    Calls Tryd.prog 9 #[] w fun e w' => e = .returned (.bool r) ∧ Below w.heap.size w w' := by
 have HB := Aside0.mk (Below.refl w.heap.size w)
 have H : ((skywaykeep1_jet.f).bind fun bt119 => ((aircraft_Text.f k bt119.1 bt119.2.1 bt119.2.2.1 bt119.2.2.2.1 bt119.2.2.2.2.1 bt119.2.2.2.2.2.1 bt119.2.2.2.2.2.2).bind fun bt126 => ((skywaykeep1_jet.f).bind fun bt128 => ((aircraft_Climb.f k bt128.1 bt128.2.1 bt128.2.2.1 bt128.2.2.2.1 bt128.2.2.2.2.1 bt128.2.2.2.2.2.1 bt128.2.2.2.2.2.2 0 100).bind fun bt135 => (if bt126.2 = 0 then (if bt126.1.toList = ([65, 51, 50, 48, 32, 77, 69, 68, 73, 85, 77, 32, 51, 57, 48, 48, 48, 32, 52, 48, 32, 53, 48, 32, 55, 48, 32, 50, 53, 48] : List UInt8) then (if bt135.2 = 0 then (some (bt135.1 == 3)) else (some false)) else (some false)) else (some false)))))) = some r := h
 clear h
 replace H := Option.bind_eq_some_iff.mp H
 obtain ⟨⟨t119, t120, t121, t122, t123, t124, t125⟩, A10, H⟩ := H
 replace H : ((aircraft_Text.f k t119 t120 t121 t122 t123 t124 t125).bind fun bt126 => ((skywaykeep1_jet.f).bind fun bt128 => ((aircraft_Climb.f k bt128.1 bt128.2.1 bt128.2.2.1 bt128.2.2.2.1 bt128.2.2.2.2.1 bt128.2.2.2.2.2.1 bt128.2.2.2.2.2.2 0 100).bind fun bt135 => (if bt126.2 = 0 then (if bt126.1.toList = ([65, 51, 50, 48, 32, 77, 69, 68, 73, 85, 77, 32, 51, 57, 48, 48, 48, 32, 52, 48, 32, 53, 48, 32, 55, 48, 32, 50, 53, 48] : List UInt8) then (if bt135.2 = 0 then (some (bt135.1 == 3)) else (some false)) else (some false)) else (some false))))) = some r := H
 have A1 := Aside0.mk A10
 clear A10
 replace H := Option.bind_eq_some_iff.mp H
 obtain ⟨⟨t126, t127⟩, A20, H⟩ := H
 replace H : ((skywaykeep1_jet.f).bind fun bt128 => ((aircraft_Climb.f k bt128.1 bt128.2.1 bt128.2.2.1 bt128.2.2.2.1 bt128.2.2.2.2.1 bt128.2.2.2.2.2.1 bt128.2.2.2.2.2.2 0 100).bind fun bt135 => (if t127 = 0 then (if t126.toList = ([65, 51, 50, 48, 32, 77, 69, 68, 73, 85, 77, 32, 51, 57, 48, 48, 48, 32, 52, 48, 32, 53, 48, 32, 55, 48, 32, 50, 53, 48] : List UInt8) then (if bt135.2 = 0 then (some (bt135.1 == 3)) else (some false)) else (some false)) else (some false)))) = some r := H
 have A2 := Aside0.mk A20
 clear A20
 replace H := Option.bind_eq_some_iff.mp H
 obtain ⟨⟨t128, t129, t130, t131, t132, t133, t134⟩, A30, H⟩ := H
 replace H : ((aircraft_Climb.f k t128 t129 t130 t131 t132 t133 t134 0 100).bind fun bt135 => (if t127 = 0 then (if t126.toList = ([65, 51, 50, 48, 32, 77, 69, 68, 73, 85, 77, 32, 51, 57, 48, 48, 48, 32, 52, 48, 32, 53, 48, 32, 55, 48, 32, 50, 53, 48] : List UInt8) then (if bt135.2 = 0 then (some (bt135.1 == 3)) else (some false)) else (some false)) else (some false))) = some r := H
 have A3 := Aside0.mk A30
 clear A30
 replace H := Option.bind_eq_some_iff.mp H
 obtain ⟨⟨t135, t136⟩, A40, H⟩ := H
 replace H : (if t127 = 0 then (if t126.toList = ([65, 51, 50, 48, 32, 77, 69, 68, 73, 85, 77, 32, 51, 57, 48, 48, 48, 32, 52, 48, 32, 53, 48, 32, 55, 48, 32, 50, 53, 48] : List UInt8) then (if t136 = 0 then (some (t135 == 3)) else (some false)) else (some false)) else (some false)) = some r := H
 have A4 := Aside0.mk A40
 clear A40
 refine Or.elim (Classical.em (t127 = 0)) (fun c5 => ?p2_) (fun c5 => ?n2_)
 case' p2_ =>
  rw [if_pos c5] at H
  have c5b0 : (t127 == 0) = true := beq_iff_eq.mpr c5
  have c5b1 : (t127 != 0) = false := bne_eq_false_iff_eq.mpr c5
  clear c5
  refine Or.elim (Classical.em (t126.toList = ([65, 51, 50, 48, 32, 77, 69, 68, 73, 85, 77, 32, 51, 57, 48, 48, 48, 32, 52, 48, 32, 53, 48, 32, 55, 48, 32, 50, 53, 48] : List UInt8))) (fun c6 => ?p3_) (fun c6 => ?n3_)
  case' p3_ =>
   rw [if_pos c6] at H
   have c6b0 : (t126.toList == ([65, 51, 50, 48, 32, 77, 69, 68, 73, 85, 77, 32, 51, 57, 48, 48, 48, 32, 52, 48, 32, 53, 48, 32, 55, 48, 32, 50, 53, 48] : List UInt8)) = true := beq_iff_eq.mpr c6
   have c6b1 : (t126.toList != ([65, 51, 50, 48, 32, 77, 69, 68, 73, 85, 77, 32, 51, 57, 48, 48, 48, 32, 52, 48, 32, 53, 48, 32, 55, 48, 32, 50, 53, 48] : List UInt8)) = false := bne_eq_false_iff_eq.mpr c6
   clear c6
   refine Or.elim (Classical.em (t136 = 0)) (fun c7 => ?p4_) (fun c7 => ?n4_)
   case' p4_ =>
    rw [if_pos c7] at H
    have c7b0 : (t136 == 0) = true := beq_iff_eq.mpr c7
    have c7b1 : (t136 != 0) = false := bne_eq_false_iff_eq.mpr c7
    clear c7
   case' n4_ =>
    rw [if_neg c7] at H
    have c7b0 : (t136 == 0) = false := beq_eq_false_iff_ne.mpr c7
    have c7b1 : (t136 != 0) = true := bne_iff_ne.mpr c7
  case' n3_ =>
   rw [if_neg c6] at H
   have c6b0 : (t126.toList == ([65, 51, 50, 48, 32, 77, 69, 68, 73, 85, 77, 32, 51, 57, 48, 48, 48, 32, 52, 48, 32, 53, 48, 32, 55, 48, 32, 50, 53, 48] : List UInt8)) = false := beq_eq_false_iff_ne.mpr c6
   have c6b1 : (t126.toList != ([65, 51, 50, 48, 32, 77, 69, 68, 73, 85, 77, 32, 51, 57, 48, 48, 48, 32, 52, 48, 32, 53, 48, 32, 55, 48, 32, 50, 53, 48] : List UInt8)) = true := bne_iff_ne.mpr c6
 case' n2_ =>
  rw [if_neg c5] at H
  have c5b0 : (t127 == 0) = false := beq_eq_false_iff_ne.mpr c5
  have c5b1 : (t127 != 0) = true := bne_iff_ne.mpr c5
 all_goals
  obtain rfl := Option.some.inj H
  go_enter Tryd.func9, Tryd.ntmps9
  go_wp2_with (first | ((with_reducible refine gate_callee (f := 20) rfl ?_); refine goesL_ (some 6) rfl rfl Tryd.func20 (by kernel_rfl) rfl #[] rfl (by (try simp only [List.map_toArray, List.map_cons, List.map_nil]); first | done | rfl | (simp only [List.length_drop, List.length_take]; rfl)) ?_; (with_reducible refine (skywaykeep1_jet.calls  t119 t120 t121 t122 t123 t124 t125 _ A1.out).mono ?_); rintro e wx3e661 ⟨rfl, hb⟩; refine ⟨_, rfl, ?_⟩; have n0_ := Aside0.mk (below_step (by repeat (first | (with_reducible first | exact HB.out | apply below_alloc | apply pw_below_drewN | apply below_drew1) | exact HB.out)) hb); clear HB; have HB := n0_; clear n0_; (try clear hb); (try clear hb2); (try clear hk); (try clear hi)) | ((with_reducible refine gate_callee (f := 12) rfl ?_); refine goesL_ (some 7) rfl rfl Tryd.func12 (by kernel_rfl) rfl #[.agg #[.string t119, .int .i64 t120, .int .i64 t121, .int .i64 t122, .int .i64 t123, .int .i64 t124, .int .i64 t125]] rfl (by (try simp only [List.map_toArray, List.map_cons, List.map_nil]); first | done | rfl | (simp only [List.length_drop, List.length_take]; rfl)) ?_; (with_reducible refine (aircraft_Text.calls k t119 t120 t121 t122 t123 t124 t125 t126 t127 _ A2.out).mono ?_); rintro e wxfaf11 ⟨rfl, hb⟩; refine ⟨_, rfl, ?_⟩; have n0_ := Aside0.mk (below_step (by repeat (first | (with_reducible first | exact HB.out | apply below_alloc | apply pw_below_drewN | apply below_drew1) | exact HB.out)) hb); clear HB; have HB := n0_; clear n0_; (try clear hb); (try clear hb2); (try clear hk); (try clear hi)) | ((with_reducible refine gate_callee (f := 20) rfl ?_); refine goesL_ (some 11) rfl rfl Tryd.func20 (by kernel_rfl) rfl #[] rfl (by (try simp only [List.map_toArray, List.map_cons, List.map_nil]); first | done | rfl | (simp only [List.length_drop, List.length_take]; rfl)) ?_; (with_reducible refine (skywaykeep1_jet.calls  t128 t129 t130 t131 t132 t133 t134 _ A3.out).mono ?_); rintro e wxb90e1 ⟨rfl, hb⟩; refine ⟨_, rfl, ?_⟩; have n0_ := Aside0.mk (below_step (by repeat (first | (with_reducible first | exact HB.out | apply below_alloc | apply pw_below_drewN | apply below_drew1) | exact HB.out)) hb); clear HB; have HB := n0_; clear n0_; (try clear hb); (try clear hb2); (try clear hk); (try clear hi)) | ((with_reducible refine gate_callee (f := 11) rfl ?_); refine goesL_ (some 12) rfl rfl Tryd.func11 (by kernel_rfl) rfl #[.agg #[.string t128, .int .i64 t129, .int .i64 t130, .int .i64 t131, .int .i64 t132, .int .i64 t133, .int .i64 t134], .int .i64 0, .int .i64 100] rfl (by (try simp only [List.map_toArray, List.map_cons, List.map_nil]); first | done | rfl | (simp only [List.length_drop, List.length_take]; rfl)) ?_; (with_reducible refine (aircraft_Climb.calls k t128 t129 t130 t131 t132 t133 t134 0 100 t135 t136 _ A4.out).mono ?_); rintro e wx3f331 ⟨rfl, hb⟩; refine ⟨_, rfl, ?_⟩; have n0_ := Aside0.mk (below_step (by repeat (first | (with_reducible first | exact HB.out | apply below_alloc | apply pw_below_drewN | apply below_drew1) | exact HB.out)) hb); clear HB; have HB := n0_; clear n0_; (try clear hb); (try clear hb2); (try clear hk); (try clear hi)))
  go_ret
  exact ⟨by first | rfl | (simp [errW_none, errW_some] <;> rfl) | (simp [*, errW_none, errW_some] <;> rfl), by repeat (first | (with_reducible first | exact HB.out | apply below_alloc | apply pw_below_drewN | apply below_drew1) | exact HB.out)⟩

/-! ### aircraft_Reach: function 10 -/
mutual
def aircraft_Reach.j0 : Nat → Int → Int → Int → Bool → ByteArray → Int → Int → Int → Int → Int → Int → Option (Int × Int × Int)
  | 0, _, _, _, _, _, _, _, _, _, _, _ => none
  | k + 1, x1, x2, x9, x19, x138000, x138001, x138002, x138003, x138004, x138005, x138006 => if x19 = true then (if x2 < 0 then (aircraft_Reach.j1 k x1 x2 x9 true x138000 x138001 x138002 x138003 x138004 x138005 x138006) else (aircraft_Reach.j1 k x1 x2 x9 (decide (x2 > 200000)) x138000 x138001 x138002 x138003 x138004 x138005 x138006)) else (if x9 = 0 then (some (mx 0 (wrap64 (x1 - (wrap64 (x2 * x138004)))), mn x138002 (wrap64 (x1 + (wrap64 (x2 * x138003)))), 0)) else (some (0, 0, x9)))
def aircraft_Reach.j1 : Nat → Int → Int → Int → Bool → ByteArray → Int → Int → Int → Int → Int → Int → Option (Int × Int × Int)
  | 0, _, _, _, _, _, _, _, _, _, _, _ => none
  | k + 1, x1, x2, x9, x25, x138000, x138001, x138002, x138003, x138004, x138005, x138006 => if x25 = true then (if 4 = 0 then (some (mx 0 (wrap64 (x1 - (wrap64 (x2 * x138004)))), mn x138002 (wrap64 (x1 + (wrap64 (x2 * x138003)))), 0)) else (some (0, 0, 4))) else (if x9 = 0 then (some (mx 0 (wrap64 (x1 - (wrap64 (x2 * x138004)))), mn x138002 (wrap64 (x1 + (wrap64 (x2 * x138003)))), 0)) else (some (0, 0, x9)))
end
def aircraft_Reach.f (k : Nat) (a0_0 : ByteArray) (a0_1 : Int) (a0_2 : Int) (a0_3 : Int) (a0_4 : Int) (a0_5 : Int) (a0_6 : Int) (a1 : Int) (a2 : Int) : Option (Int × Int × Int) := (aircraft_heights.f k a0_0 a0_1 a0_2 a0_3 a0_4 a0_5 a0_6 (([a1] : List Int))).bind fun t141 => (if t141 = 0 then (aircraft_Reach.j0 k a1 a2 t141 true a0_0 a0_1 a0_2 a0_3 a0_4 a0_5 a0_6) else (aircraft_Reach.j0 k a1 a2 t141 (t141 == 20) a0_0 a0_1 a0_2 a0_3 a0_4 a0_5 a0_6))
theorem aircraft_Reach.mono_l : ∀ k, (∀ y0 y1 y2 y3 y4 y5 y6 y7 y8 y9 y10, LeO (aircraft_Reach.j0 k y0 y1 y2 y3 y4 y5 y6 y7 y8 y9 y10) (aircraft_Reach.j0 (k + 1) y0 y1 y2 y3 y4 y5 y6 y7 y8 y9 y10)) ∧ (∀ y0 y1 y2 y3 y4 y5 y6 y7 y8 y9 y10, LeO (aircraft_Reach.j1 k y0 y1 y2 y3 y4 y5 y6 y7 y8 y9 y10) (aircraft_Reach.j1 (k + 1) y0 y1 y2 y3 y4 y5 y6 y7 y8 y9 y10))
  | 0 => ⟨fun _ _ _ _ _ _ _ _ _ _ _ r h => by simp [aircraft_Reach.j0] at h, fun _ _ _ _ _ _ _ _ _ _ _ r h => by simp [aircraft_Reach.j1] at h⟩
  | k + 1 => by
    obtain ⟨ih0, ih1⟩ := aircraft_Reach.mono_l k
    refine ⟨?_, ?_⟩
    · intro y0 y1 y2 y3 y4 y5 y6 y7 y8 y9 y10
      unfold aircraft_Reach.j0
      repeat' first
      | (with_reducible exact ih0 _ _ _ _ _ _ _ _ _ _ _)
      | (with_reducible exact ih1 _ _ _ _ _ _ _ _ _ _ _)
      | (with_reducible exact aircraft_heights.mono _ _ _ _ _ _ _ _ _)
      | (with_reducible exact LeO.refl _)
      | (with_reducible exact LeO.none _)
      | (with_reducible refine LeO.ite ?_ ?_)
      | (with_reducible refine LeO.bind ?_ (fun _ => ?_))
      | exact ih0 _ _ _ _ _ _ _ _ _ _ _
      | exact ih1 _ _ _ _ _ _ _ _ _ _ _
      | exact aircraft_heights.mono _ _ _ _ _ _ _ _ _
      | exact LeO.none _
      | refine LeO.ite ?_ ?_
      | refine LeO.bind ?_ (fun _ => ?_)
    · intro y0 y1 y2 y3 y4 y5 y6 y7 y8 y9 y10
      unfold aircraft_Reach.j1
      repeat' first
      | (with_reducible exact ih0 _ _ _ _ _ _ _ _ _ _ _)
      | (with_reducible exact ih1 _ _ _ _ _ _ _ _ _ _ _)
      | (with_reducible exact aircraft_heights.mono _ _ _ _ _ _ _ _ _)
      | (with_reducible exact LeO.refl _)
      | (with_reducible exact LeO.none _)
      | (with_reducible refine LeO.ite ?_ ?_)
      | (with_reducible refine LeO.bind ?_ (fun _ => ?_))
      | exact ih0 _ _ _ _ _ _ _ _ _ _ _
      | exact ih1 _ _ _ _ _ _ _ _ _ _ _
      | exact aircraft_heights.mono _ _ _ _ _ _ _ _ _
      | exact LeO.none _
      | refine LeO.ite ?_ ?_
      | refine LeO.bind ?_ (fun _ => ?_)
theorem aircraft_Reach.mono : ∀ a0 a1 a2 a3 a4 a5 a6 a7 a8 k, LeO (aircraft_Reach.f k a0 a1 a2 a3 a4 a5 a6 a7 a8) (aircraft_Reach.f (k + 1) a0 a1 a2 a3 a4 a5 a6 a7 a8) := by
  intro a0 a1 a2 a3 a4 a5 a6 a7 a8 k
  obtain ⟨ih0, ih1⟩ := aircraft_Reach.mono_l k
  unfold aircraft_Reach.f
  repeat' first
      | (with_reducible exact ih0 _ _ _ _ _ _ _ _ _ _ _)
      | (with_reducible exact ih1 _ _ _ _ _ _ _ _ _ _ _)
      | (with_reducible exact aircraft_heights.mono _ _ _ _ _ _ _ _ _)
      | (with_reducible exact LeO.refl _)
      | (with_reducible exact LeO.none _)
      | (with_reducible refine LeO.ite ?_ ?_)
      | (with_reducible refine LeO.bind ?_ (fun _ => ?_))
      | exact ih0 _ _ _ _ _ _ _ _ _ _ _
      | exact ih1 _ _ _ _ _ _ _ _ _ _ _
      | exact aircraft_heights.mono _ _ _ _ _ _ _ _ _
      | exact LeO.none _
      | refine LeO.ite ?_ ?_
      | refine LeO.bind ?_ (fun _ => ?_)
set_option maxHeartbeats 8000000 in
set_option maxRecDepth 100000 in
theorem aircraft_Reach.calls (k : Nat) (a0_0 : ByteArray) (a0_1 : Int) (a0_2 : Int) (a0_3 : Int) (a0_4 : Int) (a0_5 : Int) (a0_6 : Int) (a1 : Int) (a2 : Int) (r1 : Int) (r2 : Int) (r3 : Int) (w : World) (h : aircraft_Reach.f k a0_0 a0_1 a0_2 a0_3 a0_4 a0_5 a0_6 a1 a2 = some (r1, r2, r3)) :
    Calls Tryd.prog 10 #[.agg #[.string a0_0, .int .i64 a0_1, .int .i64 a0_2, .int .i64 a0_3, .int .i64 a0_4, .int .i64 a0_5, .int .i64 a0_6], .int .i64 a1, .int .i64 a2] w fun e w' => e = .returned (.tuple #[.int .i64 r1, .int .i64 r2, .int .i64 r3]) ∧ Below w.heap.size w w' := by
 have hu23 := Tryd.underlying23
 have HB := Aside0.mk (Below.refl w.heap.size w)
 have H : ((aircraft_heights.f k a0_0 a0_1 a0_2 a0_3 a0_4 a0_5 a0_6 (([a1] : List Int))).bind fun t141 => (if t141 = 0 then (aircraft_Reach.j0 k a1 a2 t141 true a0_0 a0_1 a0_2 a0_3 a0_4 a0_5 a0_6) else (aircraft_Reach.j0 k a1 a2 t141 (t141 == 20) a0_0 a0_1 a0_2 a0_3 a0_4 a0_5 a0_6))) = some (r1, r2, r3) := h
 clear h
 obtain ⟨y138, hy138⟩ : ∃ y_ : List Int, y_ = (([a1] : List Int)) := ⟨_, rfl⟩
 replace H : ((aircraft_heights.f k a0_0 a0_1 a0_2 a0_3 a0_4 a0_5 a0_6 y138).bind fun t141 => (if t141 = 0 then (aircraft_Reach.j0 k a1 a2 t141 true a0_0 a0_1 a0_2 a0_3 a0_4 a0_5 a0_6) else (aircraft_Reach.j0 k a1 a2 t141 (t141 == 20) a0_0 a0_1 a0_2 a0_3 a0_4 a0_5 a0_6))) = some (r1, r2, r3) := by first | (rw [hy138]; with_reducible exact H) | (have H2_ := (Option.bind_some _ _).symm.trans H; rw [hy138]; with_reducible exact H2_) | (have H2_ := (Option.bind_some _ _).symm.trans H; with_reducible exact H2_) | with_reducible exact H | (rw [hy138]; exact H) | exact H
 have Ny138 := Aside0.mk hy138
 clear hy138
 replace H := Option.bind_eq_some_iff.mp H
 obtain ⟨t141, A40, H⟩ := H
 replace H : (if t141 = 0 then (aircraft_Reach.j0 k a1 a2 t141 true a0_0 a0_1 a0_2 a0_3 a0_4 a0_5 a0_6) else (aircraft_Reach.j0 k a1 a2 t141 (t141 == 20) a0_0 a0_1 a0_2 a0_3 a0_4 a0_5 a0_6)) = some (r1, r2, r3) := H
 have A4 := Aside0.mk A40
 clear A40
 have HC5 := Aside0.mk H
 clear H
 go_enter Tryd.func10, Tryd.ntmps10
 go_upto_region 2 with (first | ((with_reducible refine gate_dst (N := 3) rfl ?_); refine box_event ?hg (N := 3) ?hd (cs := #[.string a0_0, .int .i64 a0_1, .int .i64 a0_2, .int .i64 a0_3, .int .i64 a0_4, .int .i64 a0_5, .int .i64 a0_6]) (t := 23) ?hr ?_; (case hd => rfl); (case hg => rfl); (case hr => first | (go_simp; done) | (go_simp; rfl)); intro gb137 hg w6 hbox hb; have n0_ := Aside0.mk (below_step (by repeat (first | (with_reducible first | exact HB.out | apply below_alloc | apply pw_below_drewN | apply below_drew1) | exact HB.out)) hb); have n1_ := Aside0.mk (hbox); have n2_ := Aside0.mk ((by rw [hg]; exact (below_size (by repeat (first | (with_reducible first | exact HB.out | apply below_alloc | apply pw_below_drewN | apply below_drew1) | exact HB.out))) : w.heap.size ≤ gb137)); have n3_ := Aside0.mk ((by rw [hg]; exact (below_size (by repeat (first | (with_reducible first | exact HB.out | apply below_alloc | apply pw_below_drewN | apply below_drew1) | exact HB.out))) : w.heap.size ≤ gb137)); clear HB; have HB := n0_; have BK137 := n1_; have GW137 := n2_; have GE137 := n3_; clear n0_ n1_ n2_ n3_; clear hb hbox hg; have hcz7_0 : w6.cell? ⟨gb137, 0, none⟩ = some (.string a0_0) := (blk_cell BK137.out 0).trans rfl; have hcz7_1 : w6.cell? ⟨gb137, 1, none⟩ = some (.int .i64 a0_1) := (blk_cell BK137.out 1).trans rfl; have hcz7_2 : w6.cell? ⟨gb137, 2, none⟩ = some (.int .i64 a0_2) := (blk_cell BK137.out 2).trans rfl; have hcz7_3 : w6.cell? ⟨gb137, 3, none⟩ = some (.int .i64 a0_3) := (blk_cell BK137.out 3).trans rfl; have hcz7_4 : w6.cell? ⟨gb137, 4, none⟩ = some (.int .i64 a0_4) := (blk_cell BK137.out 4).trans rfl; have hcz7_5 : w6.cell? ⟨gb137, 5, none⟩ = some (.int .i64 a0_5) := (blk_cell BK137.out 5).trans rfl; have hcz7_6 : w6.cell? ⟨gb137, 6, none⟩ = some (.int .i64 a0_6) := (blk_cell BK137.out 6).trans rfl; have hfz7_0 := blk_frozen BK137.out 0; have hfz7_1 := blk_frozen BK137.out 1; have hfz7_2 := blk_frozen BK137.out 2; have hfz7_3 := blk_frozen BK137.out 3; have hfz7_4 := blk_frozen BK137.out 4; have hfz7_5 := blk_frozen BK137.out 5; have hfz7_6 := blk_frozen BK137.out 6) | ((with_reducible refine gate_dst (N := 12) rfl ?_); refine Kd.R_lit (Kd.int .i64) _ 3 ?hg (N := 12) ?hd (xs := ([a1] : List Int)) (inner := [.int .i64 a1]) (ok := fun _ => True) (okp := fun _ => True) ?hr ?hp (fun _ hk => hk) trivial (Below.refl _ _) (Nat.le_refl _) (by simp) ?_; (case hd => rfl); (case hg => rfl); (case hr => first | (go_simp; done) | (go_simp; rfl)); (case hp => exact (Reps.one (show Kd.M (Kd.int .i64) _ _ _ a1 [.int .i64 a1] from rfl) (Reps.none _ _))); intro v139 w8 ho9 hb hg_ hnew_; clear hg_ hnew_; (first | rw [← Ny138.out] at ho9 | (simp only [Int.reduceToNat] at ho9; rw [← Ny138.out] at ho9)); have n0_ := Aside0.mk (Kd.R_lower ho9 (below_size (by repeat (first | (with_reducible first | exact HB.out | apply below_alloc | apply pw_below_drewN | apply below_drew1 | refine below_set ?_ GE137.out) | exact HB.out)))); have n1_ := Aside0.mk (blk_below (g := gb137) (o := .cells #[.string a0_0, .int .i64 a0_1, .int .i64 a0_2, .int .i64 a0_3, .int .i64 a0_4, .int .i64 a0_5, .int .i64 a0_6] 23 (0, 0)) (by (with_reducible repeat (first | refine blk_drewN ?_ _ | refine blk_drew ?_ | refine blk_alloc ?_ _)); exact BK137.out) hb); have n2_ := Aside0.mk (below_step (by repeat (first | (with_reducible first | exact HB.out | apply below_alloc | apply pw_below_drewN | apply below_drew1 | refine below_set ?_ GE137.out) | exact HB.out)) hb); clear BK137; clear HB; have HO140 := n0_; have BK137 := n1_; have HB := n2_; clear n0_ n1_ n2_; clear hb ho9; obtain ⟨Ao10, co10, eo10⟩ := Kd.R_slice HO140.out; subst eo10) | (go_at_call 21; (with_reducible refine (aircraft_heights.calls k a0_0 a0_1 a0_2 a0_3 a0_4 a0_5 a0_6 _ _ y138 t141 _ ?side1 ?side2 A4.out).mono ?_); (case side1 => repeat (first | exact (Kd.R_reads' HO140.out).2.2 | (with_reducible refine Kd.C_alloc ?_ _) | (with_reducible refine Kd.C_drewN ?_ _) | (with_reducible refine Kd.C_drew ?_))); (case side2 => exact (Kd.R_reads' HO140.out).2.1); rintro e w11 ⟨rfl, hb⟩; have n0_ := Aside0.mk (Kd.R_below (by (with_reducible repeat (first | apply Kd.R_alloc | apply Kd.R_drewN | apply Kd.R_drew)); exact HO140.out) hb); have n1_ := Aside0.mk (blk_below (g := gb137) (o := .cells #[.string a0_0, .int .i64 a0_1, .int .i64 a0_2, .int .i64 a0_3, .int .i64 a0_4, .int .i64 a0_5, .int .i64 a0_6] 23 (0, 0)) (by (with_reducible repeat (first | refine blk_drewN ?_ _ | refine blk_drew ?_ | refine blk_alloc ?_ _)); exact BK137.out) hb); have n2_ := Aside0.mk (below_step (by repeat (first | (with_reducible first | exact HB.out | apply below_alloc | apply pw_below_drewN | apply below_drew1 | refine below_set ?_ GE137.out) | exact HB.out)) hb); clear HO140; clear BK137; clear HB; have HO140 := n0_; have BK137 := n1_; have HB := n2_; clear n0_ n1_ n2_; (try clear hb); (try clear hb2); (try clear hk); (try clear hi)))
 repeat (go_quiet (first | ((with_reducible refine gate_dst (N := 3) rfl ?_); refine box_event ?hg (N := 3) ?hd (cs := #[.string a0_0, .int .i64 a0_1, .int .i64 a0_2, .int .i64 a0_3, .int .i64 a0_4, .int .i64 a0_5, .int .i64 a0_6]) (t := 23) ?hr ?_; (case hd => rfl); (case hg => rfl); (case hr => first | (go_simp; done) | (go_simp; rfl)); intro gb137 hg w6 hbox hb; have n0_ := Aside0.mk (below_step (by repeat (first | (with_reducible first | exact HB.out | apply below_alloc | apply pw_below_drewN | apply below_drew1) | exact HB.out)) hb); have n1_ := Aside0.mk (hbox); have n2_ := Aside0.mk ((by rw [hg]; exact (below_size (by repeat (first | (with_reducible first | exact HB.out | apply below_alloc | apply pw_below_drewN | apply below_drew1) | exact HB.out))) : w.heap.size ≤ gb137)); have n3_ := Aside0.mk ((by rw [hg]; exact (below_size (by repeat (first | (with_reducible first | exact HB.out | apply below_alloc | apply pw_below_drewN | apply below_drew1) | exact HB.out))) : w.heap.size ≤ gb137)); clear HB; have HB := n0_; have BK137 := n1_; have GW137 := n2_; have GE137 := n3_; clear n0_ n1_ n2_ n3_; clear hb hbox hg; have hcz7_0 : w6.cell? ⟨gb137, 0, none⟩ = some (.string a0_0) := (blk_cell BK137.out 0).trans rfl; have hcz7_1 : w6.cell? ⟨gb137, 1, none⟩ = some (.int .i64 a0_1) := (blk_cell BK137.out 1).trans rfl; have hcz7_2 : w6.cell? ⟨gb137, 2, none⟩ = some (.int .i64 a0_2) := (blk_cell BK137.out 2).trans rfl; have hcz7_3 : w6.cell? ⟨gb137, 3, none⟩ = some (.int .i64 a0_3) := (blk_cell BK137.out 3).trans rfl; have hcz7_4 : w6.cell? ⟨gb137, 4, none⟩ = some (.int .i64 a0_4) := (blk_cell BK137.out 4).trans rfl; have hcz7_5 : w6.cell? ⟨gb137, 5, none⟩ = some (.int .i64 a0_5) := (blk_cell BK137.out 5).trans rfl; have hcz7_6 : w6.cell? ⟨gb137, 6, none⟩ = some (.int .i64 a0_6) := (blk_cell BK137.out 6).trans rfl; have hfz7_0 := blk_frozen BK137.out 0; have hfz7_1 := blk_frozen BK137.out 1; have hfz7_2 := blk_frozen BK137.out 2; have hfz7_3 := blk_frozen BK137.out 3; have hfz7_4 := blk_frozen BK137.out 4; have hfz7_5 := blk_frozen BK137.out 5; have hfz7_6 := blk_frozen BK137.out 6) | ((with_reducible refine gate_dst (N := 12) rfl ?_); refine Kd.R_lit (Kd.int .i64) _ 3 ?hg (N := 12) ?hd (xs := ([a1] : List Int)) (inner := [.int .i64 a1]) (ok := fun _ => True) (okp := fun _ => True) ?hr ?hp (fun _ hk => hk) trivial (Below.refl _ _) (Nat.le_refl _) (by simp) ?_; (case hd => rfl); (case hg => rfl); (case hr => first | (go_simp; done) | (go_simp; rfl)); (case hp => exact (Reps.one (show Kd.M (Kd.int .i64) _ _ _ a1 [.int .i64 a1] from rfl) (Reps.none _ _))); intro v139 w8 ho9 hb hg_ hnew_; clear hg_ hnew_; (first | rw [← Ny138.out] at ho9 | (simp only [Int.reduceToNat] at ho9; rw [← Ny138.out] at ho9)); have n0_ := Aside0.mk (Kd.R_lower ho9 (below_size (by repeat (first | (with_reducible first | exact HB.out | apply below_alloc | apply pw_below_drewN | apply below_drew1 | refine below_set ?_ GE137.out) | exact HB.out)))); have n1_ := Aside0.mk (blk_below (g := gb137) (o := .cells #[.string a0_0, .int .i64 a0_1, .int .i64 a0_2, .int .i64 a0_3, .int .i64 a0_4, .int .i64 a0_5, .int .i64 a0_6] 23 (0, 0)) (by (with_reducible repeat (first | refine blk_drewN ?_ _ | refine blk_drew ?_ | refine blk_alloc ?_ _)); exact BK137.out) hb); have n2_ := Aside0.mk (below_step (by repeat (first | (with_reducible first | exact HB.out | apply below_alloc | apply pw_below_drewN | apply below_drew1 | refine below_set ?_ GE137.out) | exact HB.out)) hb); clear BK137; clear HB; have HO140 := n0_; have BK137 := n1_; have HB := n2_; clear n0_ n1_ n2_; clear hb ho9; obtain ⟨Ao10, co10, eo10⟩ := Kd.R_slice HO140.out; subst eo10) | (go_at_call 21; (with_reducible refine (aircraft_heights.calls k a0_0 a0_1 a0_2 a0_3 a0_4 a0_5 a0_6 _ _ y138 t141 _ ?side1 ?side2 A4.out).mono ?_); (case side1 => repeat (first | exact (Kd.R_reads' HO140.out).2.2 | (with_reducible refine Kd.C_alloc ?_ _) | (with_reducible refine Kd.C_drewN ?_ _) | (with_reducible refine Kd.C_drew ?_))); (case side2 => exact (Kd.R_reads' HO140.out).2.1); rintro e w11 ⟨rfl, hb⟩; have n0_ := Aside0.mk (Kd.R_below (by (with_reducible repeat (first | apply Kd.R_alloc | apply Kd.R_drewN | apply Kd.R_drew)); exact HO140.out) hb); have n1_ := Aside0.mk (blk_below (g := gb137) (o := .cells #[.string a0_0, .int .i64 a0_1, .int .i64 a0_2, .int .i64 a0_3, .int .i64 a0_4, .int .i64 a0_5, .int .i64 a0_6] 23 (0, 0)) (by (with_reducible repeat (first | refine blk_drewN ?_ _ | refine blk_drew ?_ | refine blk_alloc ?_ _)); exact BK137.out) hb); have n2_ := Aside0.mk (below_step (by repeat (first | (with_reducible first | exact HB.out | apply below_alloc | apply pw_below_drewN | apply below_drew1 | refine below_set ?_ GE137.out) | exact HB.out)) hb); clear HO140; clear BK137; clear HB; have HO140 := n0_; have BK137 := n1_; have HB := n2_; clear n0_ n1_ n2_; (try clear hb); (try clear hb2); (try clear hk); (try clear hi))); go_upto_region 2 with (first | ((with_reducible refine gate_dst (N := 3) rfl ?_); refine box_event ?hg (N := 3) ?hd (cs := #[.string a0_0, .int .i64 a0_1, .int .i64 a0_2, .int .i64 a0_3, .int .i64 a0_4, .int .i64 a0_5, .int .i64 a0_6]) (t := 23) ?hr ?_; (case hd => rfl); (case hg => rfl); (case hr => first | (go_simp; done) | (go_simp; rfl)); intro gb137 hg w6 hbox hb; have n0_ := Aside0.mk (below_step (by repeat (first | (with_reducible first | exact HB.out | apply below_alloc | apply pw_below_drewN | apply below_drew1) | exact HB.out)) hb); have n1_ := Aside0.mk (hbox); have n2_ := Aside0.mk ((by rw [hg]; exact (below_size (by repeat (first | (with_reducible first | exact HB.out | apply below_alloc | apply pw_below_drewN | apply below_drew1) | exact HB.out))) : w.heap.size ≤ gb137)); have n3_ := Aside0.mk ((by rw [hg]; exact (below_size (by repeat (first | (with_reducible first | exact HB.out | apply below_alloc | apply pw_below_drewN | apply below_drew1) | exact HB.out))) : w.heap.size ≤ gb137)); clear HB; have HB := n0_; have BK137 := n1_; have GW137 := n2_; have GE137 := n3_; clear n0_ n1_ n2_ n3_; clear hb hbox hg; have hcz7_0 : w6.cell? ⟨gb137, 0, none⟩ = some (.string a0_0) := (blk_cell BK137.out 0).trans rfl; have hcz7_1 : w6.cell? ⟨gb137, 1, none⟩ = some (.int .i64 a0_1) := (blk_cell BK137.out 1).trans rfl; have hcz7_2 : w6.cell? ⟨gb137, 2, none⟩ = some (.int .i64 a0_2) := (blk_cell BK137.out 2).trans rfl; have hcz7_3 : w6.cell? ⟨gb137, 3, none⟩ = some (.int .i64 a0_3) := (blk_cell BK137.out 3).trans rfl; have hcz7_4 : w6.cell? ⟨gb137, 4, none⟩ = some (.int .i64 a0_4) := (blk_cell BK137.out 4).trans rfl; have hcz7_5 : w6.cell? ⟨gb137, 5, none⟩ = some (.int .i64 a0_5) := (blk_cell BK137.out 5).trans rfl; have hcz7_6 : w6.cell? ⟨gb137, 6, none⟩ = some (.int .i64 a0_6) := (blk_cell BK137.out 6).trans rfl; have hfz7_0 := blk_frozen BK137.out 0; have hfz7_1 := blk_frozen BK137.out 1; have hfz7_2 := blk_frozen BK137.out 2; have hfz7_3 := blk_frozen BK137.out 3; have hfz7_4 := blk_frozen BK137.out 4; have hfz7_5 := blk_frozen BK137.out 5; have hfz7_6 := blk_frozen BK137.out 6) | ((with_reducible refine gate_dst (N := 12) rfl ?_); refine Kd.R_lit (Kd.int .i64) _ 3 ?hg (N := 12) ?hd (xs := ([a1] : List Int)) (inner := [.int .i64 a1]) (ok := fun _ => True) (okp := fun _ => True) ?hr ?hp (fun _ hk => hk) trivial (Below.refl _ _) (Nat.le_refl _) (by simp) ?_; (case hd => rfl); (case hg => rfl); (case hr => first | (go_simp; done) | (go_simp; rfl)); (case hp => exact (Reps.one (show Kd.M (Kd.int .i64) _ _ _ a1 [.int .i64 a1] from rfl) (Reps.none _ _))); intro v139 w8 ho9 hb hg_ hnew_; clear hg_ hnew_; (first | rw [← Ny138.out] at ho9 | (simp only [Int.reduceToNat] at ho9; rw [← Ny138.out] at ho9)); have n0_ := Aside0.mk (Kd.R_lower ho9 (below_size (by repeat (first | (with_reducible first | exact HB.out | apply below_alloc | apply pw_below_drewN | apply below_drew1 | refine below_set ?_ GE137.out) | exact HB.out)))); have n1_ := Aside0.mk (blk_below (g := gb137) (o := .cells #[.string a0_0, .int .i64 a0_1, .int .i64 a0_2, .int .i64 a0_3, .int .i64 a0_4, .int .i64 a0_5, .int .i64 a0_6] 23 (0, 0)) (by (with_reducible repeat (first | refine blk_drewN ?_ _ | refine blk_drew ?_ | refine blk_alloc ?_ _)); exact BK137.out) hb); have n2_ := Aside0.mk (below_step (by repeat (first | (with_reducible first | exact HB.out | apply below_alloc | apply pw_below_drewN | apply below_drew1 | refine below_set ?_ GE137.out) | exact HB.out)) hb); clear BK137; clear HB; have HO140 := n0_; have BK137 := n1_; have HB := n2_; clear n0_ n1_ n2_; clear hb ho9; obtain ⟨Ao10, co10, eo10⟩ := Kd.R_slice HO140.out; subst eo10) | (go_at_call 21; (with_reducible refine (aircraft_heights.calls k a0_0 a0_1 a0_2 a0_3 a0_4 a0_5 a0_6 _ _ y138 t141 _ ?side1 ?side2 A4.out).mono ?_); (case side1 => repeat (first | exact (Kd.R_reads' HO140.out).2.2 | (with_reducible refine Kd.C_alloc ?_ _) | (with_reducible refine Kd.C_drewN ?_ _) | (with_reducible refine Kd.C_drew ?_))); (case side2 => exact (Kd.R_reads' HO140.out).2.1); rintro e w11 ⟨rfl, hb⟩; have n0_ := Aside0.mk (Kd.R_below (by (with_reducible repeat (first | apply Kd.R_alloc | apply Kd.R_drewN | apply Kd.R_drew)); exact HO140.out) hb); have n1_ := Aside0.mk (blk_below (g := gb137) (o := .cells #[.string a0_0, .int .i64 a0_1, .int .i64 a0_2, .int .i64 a0_3, .int .i64 a0_4, .int .i64 a0_5, .int .i64 a0_6] 23 (0, 0)) (by (with_reducible repeat (first | refine blk_drewN ?_ _ | refine blk_drew ?_ | refine blk_alloc ?_ _)); exact BK137.out) hb); have n2_ := Aside0.mk (below_step (by repeat (first | (with_reducible first | exact HB.out | apply below_alloc | apply pw_below_drewN | apply below_drew1 | refine below_set ?_ GE137.out) | exact HB.out)) hb); clear HO140; clear BK137; clear HB; have HO140 := n0_; have BK137 := n1_; have HB := n2_; clear n0_ n1_ n2_; (try clear hb); (try clear hb2); (try clear hk); (try clear hi))))
 (try simp only [Act.put, List.setIfInBounds_toArray, List.set_cons_zero, List.set_cons_succ])
 go_cut [19] (fun v19 wc => ∃ (kq : Nat) (x19_4 : Bool), v19 = .bool x19_4 ∧ Aside0 (aircraft_Reach.j0 kq a1 a2 t141 x19_4 a0_0 a0_1 a0_2 a0_3 a0_4 a0_5 a0_6 = some (r1, r2, r3)) ∧ Aside0 (kq ≤ k) ∧ Aside0 (wc.heap[gb137]? = some (.cells #[.string a0_0, .int .i64 a0_1, .int .i64 a0_2, .int .i64 a0_3, .int .i64 a0_4, .int .i64 a0_5, .int .i64 a0_6] 23 (0, 0))) ∧ Aside0 (Below w.heap.size w wc))
 case first =>
  have H := HC5.out
  clear HC5
  by_cases c12 : t141 = 0
  · rw [if_pos c12] at H
    have c12b0 : (t141 == 0) = true := beq_iff_eq.mpr c12
    have c12b1 : (t141 != 0) = false := bne_eq_false_iff_eq.mpr c12
    clear c12
    (first | rw [c12b0] | (simp only [i64_w, i32_w]; rw [c12b0]) | skip)
    have H' := Aside0.mk H
    clear H
    go_wp2
    repeat (go_quiet (fail); try go_wp2)
    go_meet
    case rel => exact ⟨_, (true), (by first | rfl | (simp; done) | (simp [*]; done)), H', ⟨by first | omega | exact Nat.le_refl _⟩, ⟨by (with_reducible repeat (first | refine blk_drewN ?_ _ | refine blk_drew ?_ | refine blk_alloc ?_ _)); exact BK137.out⟩, ⟨by repeat (first | (with_reducible first | exact HB.out | apply below_alloc | apply pw_below_drewN | apply below_drew1 | refine below_set ?_ GE137.out) | exact HB.out)⟩⟩
  · rw [if_neg c12] at H
    have c12b0 : (t141 == 0) = false := beq_eq_false_iff_ne.mpr c12
    have c12b1 : (t141 != 0) = true := bne_iff_ne.mpr c12
    (first | rw [c12b0] | (simp only [i64_w, i32_w]; rw [c12b0]) | skip)
    have H' := Aside0.mk H
    clear H
    go_wp2
    repeat (go_quiet (fail); try go_wp2)
    go_meet
    case rel => exact ⟨_, ((t141 == 20)), (by first | rfl | (simp; done) | (simp [*]; done)), H', ⟨by first | omega | exact Nat.le_refl _⟩, ⟨by (with_reducible repeat (first | refine blk_drewN ?_ _ | refine blk_drew ?_ | refine blk_alloc ?_ _)); exact BK137.out⟩, ⟨by repeat (first | (with_reducible first | exact HB.out | apply below_alloc | apply pw_below_drewN | apply below_drew1 | refine below_set ?_ GE137.out) | exact HB.out)⟩⟩
 case rest =>
  clear HC5
  (try clear c1); (try clear p2); (try clear c10); (try clear c12); (try clear c12b0); (try clear c12b1); (try clear hcz7_0); (try clear hcz7_1); (try clear hcz7_2); (try clear hcz7_3); (try clear hcz7_4); (try clear hcz7_5); (try clear hcz7_6); (try clear hfz7_0); (try clear hfz7_1); (try clear hfz7_2); (try clear hfz7_3); (try clear hfz7_4); (try clear hfz7_5); (try clear hfz7_6)
  obtain ⟨kq, x19_4, rfl, HA, HJ4, BK137, HB⟩ := hcut
  cases kq with
  | zero => exact absurd HA.out (by simp [aircraft_Reach.j0])
  | succ kj4 =>
   have H := HA.out
   clear HA
   simp only [aircraft_Reach.j0] at H
   by_cases c13 : x19_4 = true
   · subst c13
     have H1 : (if a2 < 0 then (aircraft_Reach.j1 kj4 a1 a2 t141 true a0_0 a0_1 a0_2 a0_3 a0_4 a0_5 a0_6) else (aircraft_Reach.j1 kj4 a1 a2 t141 (decide (a2 > 200000)) a0_0 a0_1 a0_2 a0_3 a0_4 a0_5 a0_6)) = some (r1, r2, r3) := by rw [if_pos rfl] at H; exact H
     clear H
     have H := H1
     clear H1
     have HC14 := Aside0.mk H
     clear H
     go_upto_region 3 with (fail)
     repeat (go_quiet (fail); go_upto_region 3 with (fail))
     go_cut [25] (fun v25 wc => ∃ (kq : Nat) (x25_13 : Bool), v25 = .bool x25_13 ∧ Aside0 (aircraft_Reach.j1 kq a1 a2 t141 x25_13 a0_0 a0_1 a0_2 a0_3 a0_4 a0_5 a0_6 = some (r1, r2, r3)) ∧ Aside0 (kq ≤ kj4) ∧ Aside0 (wc.heap[gb137]? = some (.cells #[.string a0_0, .int .i64 a0_1, .int .i64 a0_2, .int .i64 a0_3, .int .i64 a0_4, .int .i64 a0_5, .int .i64 a0_6] 23 (0, 0))) ∧ Aside0 (Below w.heap.size w wc))
     case first =>
      have H := HC14.out
      clear HC14
      by_cases c15 : a2 < 0
      · rw [if_pos c15] at H
        have c15b0 : decide (a2 < 0) = true := decide_eq_true c15
        clear c15
        (first | rw [c15b0] | (simp only [i64_w, i32_w]; rw [c15b0]) | skip)
        have H' := Aside0.mk H
        clear H
        go_wp2
        repeat (go_quiet (fail); try go_wp2)
        go_meet
        case rel => exact ⟨_, (true), (by first | rfl | (simp; done) | (simp [*]; done)), H', ⟨by have := HJ4.out; first | omega | exact Nat.le_refl _⟩, ⟨by (with_reducible repeat (first | refine blk_drewN ?_ _ | refine blk_drew ?_ | refine blk_alloc ?_ _)); exact BK137.out⟩, ⟨by repeat (first | (with_reducible first | exact HB.out | apply below_alloc | apply pw_below_drewN | apply below_drew1 | refine below_set ?_ GE137.out) | exact HB.out)⟩⟩
      · rw [if_neg c15] at H
        have c15b0 : decide (a2 < 0) = false := decide_eq_false c15
        clear c15
        (first | rw [c15b0] | (simp only [i64_w, i32_w]; rw [c15b0]) | skip)
        have H' := Aside0.mk H
        clear H
        go_wp2
        repeat (go_quiet (fail); try go_wp2)
        go_meet
        case rel => exact ⟨_, (decide (a2 > 200000)), (by first | rfl | (simp; done) | (simp [*]; done)), H', ⟨by have := HJ4.out; first | omega | exact Nat.le_refl _⟩, ⟨by (with_reducible repeat (first | refine blk_drewN ?_ _ | refine blk_drew ?_ | refine blk_alloc ?_ _)); exact BK137.out⟩, ⟨by repeat (first | (with_reducible first | exact HB.out | apply below_alloc | apply pw_below_drewN | apply below_drew1 | refine below_set ?_ GE137.out) | exact HB.out)⟩⟩
     case rest =>
      clear HC14
      (try clear c1); (try clear p2); (try clear c10); (try clear c12); (try clear c12b0); (try clear c12b1); (try clear c13); (try clear c15); (try clear c15b0); (try clear hcz7_0); (try clear hcz7_1); (try clear hcz7_2); (try clear hcz7_3); (try clear hcz7_4); (try clear hcz7_5); (try clear hcz7_6); (try clear hfz7_0); (try clear hfz7_1); (try clear hfz7_2); (try clear hfz7_3); (try clear hfz7_4); (try clear hfz7_5); (try clear hfz7_6); (try clear p2)
      obtain ⟨kq, x25_13, rfl, HA, HJ13, BK137, HB⟩ := hcut
      cases kq with
      | zero => exact absurd HA.out (by simp [aircraft_Reach.j1])
      | succ kj13 =>
       have H := HA.out
       clear HA
       simp only [aircraft_Reach.j1] at H
       by_cases c16 : x25_13 = true
       · subst c16
         have H1 : (if 4 = 0 then (some (mx 0 (wrap64 (a1 - (wrap64 (a2 * a0_4)))), mn a0_2 (wrap64 (a1 + (wrap64 (a2 * a0_3)))), 0)) else (some (0, 0, 4))) = some (r1, r2, r3) := by rw [if_pos rfl] at H; exact H
         clear H
         have H := H1
         clear H1
         by_cases c17 : 4 = 0
         · exact absurd c17 (by decide)
         · rw [if_neg c17] at H
           have c17b0 : (4 == 0) = false := beq_eq_false_iff_ne.mpr c17
           have c17b1 : (4 != 0) = true := bne_iff_ne.mpr c17
           simp only [Option.some.injEq, Prod.mk.injEq] at H
           obtain ⟨rfl, rfl, rfl⟩ := H
           go_wp2
           repeat (go_quiet (fail); try go_wp2)
           go_ret3
           exact ⟨by first | rfl | (simp [errW_none, errW_some] <;> rfl) | (simp [*, errW_none, errW_some] <;> rfl), by repeat (first | (with_reducible first | exact HB.out | apply below_alloc | apply pw_below_drewN | apply below_drew1 | refine below_set ?_ GE137.out) | exact HB.out)⟩
       · replace c16 := Bool.eq_false_iff.mpr c16
         subst c16
         have H1 : (if t141 = 0 then (some (mx 0 (wrap64 (a1 - (wrap64 (a2 * a0_4)))), mn a0_2 (wrap64 (a1 + (wrap64 (a2 * a0_3)))), 0)) else (some (0, 0, t141))) = some (r1, r2, r3) := by rw [if_neg (show ¬ (false = true) by decide)] at H; exact H
         clear H
         have H := H1
         clear H1
         by_cases c21 : t141 = 0
         · rw [if_pos c21] at H
           have c21b0 : (t141 == 0) = true := beq_iff_eq.mpr c21
           have c21b1 : (t141 != 0) = false := bne_eq_false_iff_eq.mpr c21
           clear c21
           obtain ⟨ji22, hji22⟩ : ∃ j_ : Int, (mx 0 (wrap64 (a1 - (wrap64 (a2 * a0_4))))) = j_ := ⟨_, rfl⟩
           replace H : (some (ji22, mn a0_2 (wrap64 (a1 + (wrap64 (a2 * a0_3)))), 0)) = some (r1, r2, r3) := by first | (rw [hji22] at H; exact H) | (simp only [hji22] at H ⊢; exact H)
           have hji22_ : (if 0 < (wrap64 (a1 - (wrap64 (a2 * a0_4)))) then (wrap64 (a1 - (wrap64 (a2 * a0_4)))) else 0) = ji22 := hji22
           obtain ⟨ji23, hji23⟩ : ∃ j_ : Int, (mn a0_2 (wrap64 (a1 + (wrap64 (a2 * a0_3))))) = j_ := ⟨_, rfl⟩
           replace H : (some (ji22, ji23, 0)) = some (r1, r2, r3) := by first | (rw [hji23] at H; exact H) | (simp only [hji23] at H ⊢; exact H)
           have hji23_ : (if (wrap64 (a1 + (wrap64 (a2 * a0_3)))) < a0_2 then (wrap64 (a1 + (wrap64 (a2 * a0_3)))) else a0_2) = ji23 := hji23
           simp only [Option.some.injEq, Prod.mk.injEq] at H
           obtain ⟨rfl, rfl, rfl⟩ := H
           have hcz24_0 : wc.cell? ⟨gb137, 0, none⟩ = some (.string a0_0) := (blk_cell BK137.out 0).trans rfl
           have hcz24_1 : wc.cell? ⟨gb137, 1, none⟩ = some (.int .i64 a0_1) := (blk_cell BK137.out 1).trans rfl
           have hcz24_2 : wc.cell? ⟨gb137, 2, none⟩ = some (.int .i64 a0_2) := (blk_cell BK137.out 2).trans rfl
           have hcz24_3 : wc.cell? ⟨gb137, 3, none⟩ = some (.int .i64 a0_3) := (blk_cell BK137.out 3).trans rfl
           have hcz24_4 : wc.cell? ⟨gb137, 4, none⟩ = some (.int .i64 a0_4) := (blk_cell BK137.out 4).trans rfl
           have hcz24_5 : wc.cell? ⟨gb137, 5, none⟩ = some (.int .i64 a0_5) := (blk_cell BK137.out 5).trans rfl
           have hcz24_6 : wc.cell? ⟨gb137, 6, none⟩ = some (.int .i64 a0_6) := (blk_cell BK137.out 6).trans rfl
           have hfz24_0 := blk_frozen BK137.out 0
           have hfz24_1 := blk_frozen BK137.out 1
           have hfz24_2 := blk_frozen BK137.out 2
           have hfz24_3 := blk_frozen BK137.out 3
           have hfz24_4 := blk_frozen BK137.out 4
           have hfz24_5 := blk_frozen BK137.out 5
           have hfz24_6 := blk_frozen BK137.out 6
           go_wp2
           repeat (go_quiet (fail); try go_wp2)
           go_ret3
           exact ⟨by first | rfl | (simp [errW_none, errW_some] <;> rfl) | (simp only [← hji22, ← hji23]; first | rfl | (simp [errW_none, errW_some] <;> rfl)) | (simp [*, errW_none, errW_some] <;> rfl), by repeat (first | (with_reducible first | exact HB.out | apply below_alloc | apply pw_below_drewN | apply below_drew1 | refine below_set ?_ GE137.out) | exact HB.out)⟩
         · rw [if_neg c21] at H
           have c21b0 : (t141 == 0) = false := beq_eq_false_iff_ne.mpr c21
           have c21b1 : (t141 != 0) = true := bne_iff_ne.mpr c21
           simp only [Option.some.injEq, Prod.mk.injEq] at H
           obtain ⟨rfl, rfl, rfl⟩ := H
           go_wp2
           repeat (go_quiet (fail); try go_wp2)
           go_ret3
           exact ⟨by first | rfl | (simp [errW_none, errW_some] <;> rfl) | (simp [*, errW_none, errW_some] <;> rfl), by repeat (first | (with_reducible first | exact HB.out | apply below_alloc | apply pw_below_drewN | apply below_drew1 | refine below_set ?_ GE137.out) | exact HB.out)⟩
   · replace c13 := Bool.eq_false_iff.mpr c13
     subst c13
     have H1 : (if t141 = 0 then (some (mx 0 (wrap64 (a1 - (wrap64 (a2 * a0_4)))), mn a0_2 (wrap64 (a1 + (wrap64 (a2 * a0_3)))), 0)) else (some (0, 0, t141))) = some (r1, r2, r3) := by rw [if_neg (show ¬ (false = true) by decide)] at H; exact H
     clear H
     have H := H1
     clear H1
     by_cases c25 : t141 = 0
     · rw [if_pos c25] at H
       have c25b0 : (t141 == 0) = true := beq_iff_eq.mpr c25
       have c25b1 : (t141 != 0) = false := bne_eq_false_iff_eq.mpr c25
       clear c25
       obtain ⟨ji26, hji26⟩ : ∃ j_ : Int, (mx 0 (wrap64 (a1 - (wrap64 (a2 * a0_4))))) = j_ := ⟨_, rfl⟩
       replace H : (some (ji26, mn a0_2 (wrap64 (a1 + (wrap64 (a2 * a0_3)))), 0)) = some (r1, r2, r3) := by first | (rw [hji26] at H; exact H) | (simp only [hji26] at H ⊢; exact H)
       have hji26_ : (if 0 < (wrap64 (a1 - (wrap64 (a2 * a0_4)))) then (wrap64 (a1 - (wrap64 (a2 * a0_4)))) else 0) = ji26 := hji26
       obtain ⟨ji27, hji27⟩ : ∃ j_ : Int, (mn a0_2 (wrap64 (a1 + (wrap64 (a2 * a0_3))))) = j_ := ⟨_, rfl⟩
       replace H : (some (ji26, ji27, 0)) = some (r1, r2, r3) := by first | (rw [hji27] at H; exact H) | (simp only [hji27] at H ⊢; exact H)
       have hji27_ : (if (wrap64 (a1 + (wrap64 (a2 * a0_3)))) < a0_2 then (wrap64 (a1 + (wrap64 (a2 * a0_3)))) else a0_2) = ji27 := hji27
       simp only [Option.some.injEq, Prod.mk.injEq] at H
       obtain ⟨rfl, rfl, rfl⟩ := H
       have hcz28_0 : wc.cell? ⟨gb137, 0, none⟩ = some (.string a0_0) := (blk_cell BK137.out 0).trans rfl
       have hcz28_1 : wc.cell? ⟨gb137, 1, none⟩ = some (.int .i64 a0_1) := (blk_cell BK137.out 1).trans rfl
       have hcz28_2 : wc.cell? ⟨gb137, 2, none⟩ = some (.int .i64 a0_2) := (blk_cell BK137.out 2).trans rfl
       have hcz28_3 : wc.cell? ⟨gb137, 3, none⟩ = some (.int .i64 a0_3) := (blk_cell BK137.out 3).trans rfl
       have hcz28_4 : wc.cell? ⟨gb137, 4, none⟩ = some (.int .i64 a0_4) := (blk_cell BK137.out 4).trans rfl
       have hcz28_5 : wc.cell? ⟨gb137, 5, none⟩ = some (.int .i64 a0_5) := (blk_cell BK137.out 5).trans rfl
       have hcz28_6 : wc.cell? ⟨gb137, 6, none⟩ = some (.int .i64 a0_6) := (blk_cell BK137.out 6).trans rfl
       have hfz28_0 := blk_frozen BK137.out 0
       have hfz28_1 := blk_frozen BK137.out 1
       have hfz28_2 := blk_frozen BK137.out 2
       have hfz28_3 := blk_frozen BK137.out 3
       have hfz28_4 := blk_frozen BK137.out 4
       have hfz28_5 := blk_frozen BK137.out 5
       have hfz28_6 := blk_frozen BK137.out 6
       go_wp2
       repeat (go_quiet (fail); try go_wp2)
       go_ret3
       exact ⟨by first | rfl | (simp [errW_none, errW_some] <;> rfl) | (simp only [← hji26, ← hji27]; first | rfl | (simp [errW_none, errW_some] <;> rfl)) | (simp [*, errW_none, errW_some] <;> rfl), by repeat (first | (with_reducible first | exact HB.out | apply below_alloc | apply pw_below_drewN | apply below_drew1 | refine below_set ?_ GE137.out) | exact HB.out)⟩
     · rw [if_neg c25] at H
       have c25b0 : (t141 == 0) = false := beq_eq_false_iff_ne.mpr c25
       have c25b1 : (t141 != 0) = true := bne_iff_ne.mpr c25
       simp only [Option.some.injEq, Prod.mk.injEq] at H
       obtain ⟨rfl, rfl, rfl⟩ := H
       go_wp2
       repeat (go_quiet (fail); try go_wp2)
       go_ret3
       exact ⟨by first | rfl | (simp [errW_none, errW_some] <;> rfl) | (simp [*, errW_none, errW_some] <;> rfl), by repeat (first | (with_reducible first | exact HB.out | apply below_alloc | apply pw_below_drewN | apply below_drew1 | refine below_set ?_ GE137.out) | exact HB.out)⟩

/-! ### skywaykeep1_AircraftReach: function 3 -/
def skywaykeep1_AircraftReach.f (k : Nat) (a0_0 : ByteArray) (a0_1 : Int) (a0_2 : Int) (a0_3 : Int) (a0_4 : Int) (a0_5 : Int) (a0_6 : Int) (a1 : Int) (a2 : Int) (a3 : Int) : Option (Bool) := (skywaykeep1_aircraftWorks.f k).bind fun t143 => (if t143 = true then ((aircraft_Reach.f k a0_0 a0_1 a0_2 a0_3 a0_4 a0_5 a0_6 a1 a3).bind fun bt144 => ((aircraft_Climb.f k a0_0 a0_1 a0_2 a0_3 a0_4 a0_5 a0_6 a1 a2).bind fun bt147 => (if bt144.2.2 = 0 then (if bt147.2 = 0 then (if bt144.1 ≤ a1 then (if a1 ≤ bt144.2.1 then (if bt144.1 ≤ a2 then (some ((decide (bt147.1 ≤ a3)) == (decide (a2 ≤ bt144.2.1)))) else (some ((decide (bt147.1 ≤ a3)) == false))) else (some false)) else (some false)) else (some (bt147.1 == 0))) else (if bt144.1 = 0 then (if bt144.2.1 = 0 then (if bt147.2 = 0 then (some true) else (some (bt147.1 == 0))) else (some false)) else (some false))))) else (some false))
theorem skywaykeep1_AircraftReach.mono : ∀ a0 a1 a2 a3 a4 a5 a6 a7 a8 a9 k, LeO (skywaykeep1_AircraftReach.f k a0 a1 a2 a3 a4 a5 a6 a7 a8 a9) (skywaykeep1_AircraftReach.f (k + 1) a0 a1 a2 a3 a4 a5 a6 a7 a8 a9) := by
  intro a0 a1 a2 a3 a4 a5 a6 a7 a8 a9 k
  unfold skywaykeep1_AircraftReach.f
  repeat' first
      | (with_reducible exact aircraft_Climb.mono _ _ _ _ _ _ _ _ _ _)
      | (with_reducible exact aircraft_Reach.mono _ _ _ _ _ _ _ _ _ _)
      | (with_reducible exact skywaykeep1_aircraftWorks.mono _)
      | (with_reducible exact LeO.refl _)
      | (with_reducible exact LeO.none _)
      | (with_reducible refine LeO.ite ?_ ?_)
      | (with_reducible refine LeO.bind ?_ (fun _ => ?_))
      | exact aircraft_Climb.mono _ _ _ _ _ _ _ _ _ _
      | exact aircraft_Reach.mono _ _ _ _ _ _ _ _ _ _
      | exact skywaykeep1_aircraftWorks.mono _
      | exact LeO.none _
      | refine LeO.ite ?_ ?_
      | refine LeO.bind ?_ (fun _ => ?_)
set_option maxHeartbeats 8000000 in
set_option maxRecDepth 100000 in
theorem skywaykeep1_AircraftReach.calls (k : Nat) (a0_0 : ByteArray) (a0_1 : Int) (a0_2 : Int) (a0_3 : Int) (a0_4 : Int) (a0_5 : Int) (a0_6 : Int) (a1 : Int) (a2 : Int) (a3 : Int) (r : Bool) (w : World) (h : skywaykeep1_AircraftReach.f k a0_0 a0_1 a0_2 a0_3 a0_4 a0_5 a0_6 a1 a2 a3 = some r) (hT0 : Ang.Tab w := by exact Ang.Tab.below hT0 (by repeat (first | (with_reducible first | exact HB.out | apply below_alloc | apply pw_below_drewN | apply below_drew1) | exact HB.out | (refine Below.setCell ?_ (by dsimp only; exact Aside0.out (by assumption)) _)))) :
    Calls Tryd.prog 3 #[.agg #[.string a0_0, .int .i64 a0_1, .int .i64 a0_2, .int .i64 a0_3, .int .i64 a0_4, .int .i64 a0_5, .int .i64 a0_6], .int .i64 a1, .int .i64 a2, .int .i64 a3] w fun e w' => e = .returned (.bool r) ∧ Below w.heap.size w w' := by
 have hu23 := Tryd.underlying23
 have HB := Aside0.mk (Below.refl w.heap.size w)
 have H : ((skywaykeep1_aircraftWorks.f k).bind fun t143 => (if t143 = true then ((aircraft_Reach.f k a0_0 a0_1 a0_2 a0_3 a0_4 a0_5 a0_6 a1 a3).bind fun bt144 => ((aircraft_Climb.f k a0_0 a0_1 a0_2 a0_3 a0_4 a0_5 a0_6 a1 a2).bind fun bt147 => (if bt144.2.2 = 0 then (if bt147.2 = 0 then (if bt144.1 ≤ a1 then (if a1 ≤ bt144.2.1 then (if bt144.1 ≤ a2 then (some ((decide (bt147.1 ≤ a3)) == (decide (a2 ≤ bt144.2.1)))) else (some ((decide (bt147.1 ≤ a3)) == false))) else (some false)) else (some false)) else (some (bt147.1 == 0))) else (if bt144.1 = 0 then (if bt144.2.1 = 0 then (if bt147.2 = 0 then (some true) else (some (bt147.1 == 0))) else (some false)) else (some false))))) else (some false))) = some r := h
 clear h
 replace H := Option.bind_eq_some_iff.mp H
 obtain ⟨t143, A50, H⟩ := H
 replace H : (if t143 = true then ((aircraft_Reach.f k a0_0 a0_1 a0_2 a0_3 a0_4 a0_5 a0_6 a1 a3).bind fun bt144 => ((aircraft_Climb.f k a0_0 a0_1 a0_2 a0_3 a0_4 a0_5 a0_6 a1 a2).bind fun bt147 => (if bt144.2.2 = 0 then (if bt147.2 = 0 then (if bt144.1 ≤ a1 then (if a1 ≤ bt144.2.1 then (if bt144.1 ≤ a2 then (some ((decide (bt147.1 ≤ a3)) == (decide (a2 ≤ bt144.2.1)))) else (some ((decide (bt147.1 ≤ a3)) == false))) else (some false)) else (some false)) else (some (bt147.1 == 0))) else (if bt144.1 = 0 then (if bt144.2.1 = 0 then (if bt147.2 = 0 then (some true) else (some (bt147.1 == 0))) else (some false)) else (some false))))) else (some false)) = some r := H
 have A5 := Aside0.mk A50
 clear A50
 refine Or.elim (Classical.em (t143 = true)) (fun c6 => ?p2_) (fun c6 => ?n2_)
 case' p2_ =>
  subst c6
  have H1 : ((aircraft_Reach.f k a0_0 a0_1 a0_2 a0_3 a0_4 a0_5 a0_6 a1 a3).bind fun bt144 => ((aircraft_Climb.f k a0_0 a0_1 a0_2 a0_3 a0_4 a0_5 a0_6 a1 a2).bind fun bt147 => (if bt144.2.2 = 0 then (if bt147.2 = 0 then (if bt144.1 ≤ a1 then (if a1 ≤ bt144.2.1 then (if bt144.1 ≤ a2 then (some ((decide (bt147.1 ≤ a3)) == (decide (a2 ≤ bt144.2.1)))) else (some ((decide (bt147.1 ≤ a3)) == false))) else (some false)) else (some false)) else (some (bt147.1 == 0))) else (if bt144.1 = 0 then (if bt144.2.1 = 0 then (if bt147.2 = 0 then (some true) else (some (bt147.1 == 0))) else (some false)) else (some false))))) = some r := by rw [if_pos rfl] at H; exact H
  clear H
  have H := H1
  clear H1
  replace H := Option.bind_eq_some_iff.mp H
  obtain ⟨⟨t144, t145, t146⟩, A70, H⟩ := H
  replace H : ((aircraft_Climb.f k a0_0 a0_1 a0_2 a0_3 a0_4 a0_5 a0_6 a1 a2).bind fun bt147 => (if t146 = 0 then (if bt147.2 = 0 then (if t144 ≤ a1 then (if a1 ≤ t145 then (if t144 ≤ a2 then (some ((decide (bt147.1 ≤ a3)) == (decide (a2 ≤ t145)))) else (some ((decide (bt147.1 ≤ a3)) == false))) else (some false)) else (some false)) else (some (bt147.1 == 0))) else (if t144 = 0 then (if t145 = 0 then (if bt147.2 = 0 then (some true) else (some (bt147.1 == 0))) else (some false)) else (some false)))) = some r := H
  have A7 := Aside0.mk A70
  clear A70
  replace H := Option.bind_eq_some_iff.mp H
  obtain ⟨⟨t147, t148⟩, A80, H⟩ := H
  replace H : (if t146 = 0 then (if t148 = 0 then (if t144 ≤ a1 then (if a1 ≤ t145 then (if t144 ≤ a2 then (some ((decide (t147 ≤ a3)) == (decide (a2 ≤ t145)))) else (some ((decide (t147 ≤ a3)) == false))) else (some false)) else (some false)) else (some (t147 == 0))) else (if t144 = 0 then (if t145 = 0 then (if t148 = 0 then (some true) else (some (t147 == 0))) else (some false)) else (some false))) = some r := H
  have A8 := Aside0.mk A80
  clear A80
  refine Or.elim (Classical.em (t146 = 0)) (fun c9 => ?p3_) (fun c9 => ?n3_)
  case' p3_ =>
   rw [if_pos c9] at H
   have c9b0 : (t146 == 0) = true := beq_iff_eq.mpr c9
   have c9b1 : (t146 != 0) = false := bne_eq_false_iff_eq.mpr c9
   clear c9
   refine Or.elim (Classical.em (t148 = 0)) (fun c10 => ?p4_) (fun c10 => ?n4_)
   case' p4_ =>
    rw [if_pos c10] at H
    have c10b0 : (t148 == 0) = true := beq_iff_eq.mpr c10
    have c10b1 : (t148 != 0) = false := bne_eq_false_iff_eq.mpr c10
    clear c10
    refine Or.elim (Classical.em (t144 ≤ a1)) (fun c11 => ?p5_) (fun c11 => ?n5_)
    case' p5_ =>
     rw [if_pos c11] at H
     have c11b0 : decide (t144 ≤ a1) = true := decide_eq_true c11
     clear c11
     refine Or.elim (Classical.em (a1 ≤ t145)) (fun c12 => ?p6_) (fun c12 => ?n6_)
     case' p6_ =>
      rw [if_pos c12] at H
      have c12b0 : decide (a1 ≤ t145) = true := decide_eq_true c12
      clear c12
      refine Or.elim (Classical.em (t144 ≤ a2)) (fun c13 => ?p7_) (fun c13 => ?n7_)
      case' p7_ =>
       rw [if_pos c13] at H
       have c13b0 : decide (t144 ≤ a2) = true := decide_eq_true c13
       clear c13
      case' n7_ =>
       rw [if_neg c13] at H
       have c13b0 : decide (t144 ≤ a2) = false := decide_eq_false c13
       clear c13
     case' n6_ =>
      rw [if_neg c12] at H
      have c12b0 : decide (a1 ≤ t145) = false := decide_eq_false c12
      clear c12
    case' n5_ =>
     rw [if_neg c11] at H
     have c11b0 : decide (t144 ≤ a1) = false := decide_eq_false c11
     clear c11
   case' n4_ =>
    rw [if_neg c10] at H
    have c10b0 : (t148 == 0) = false := beq_eq_false_iff_ne.mpr c10
    have c10b1 : (t148 != 0) = true := bne_iff_ne.mpr c10
  case' n3_ =>
   rw [if_neg c9] at H
   have c9b0 : (t146 == 0) = false := beq_eq_false_iff_ne.mpr c9
   have c9b1 : (t146 != 0) = true := bne_iff_ne.mpr c9
   refine Or.elim (Classical.em (t144 = 0)) (fun c44 => ?p8_) (fun c44 => ?n8_)
   case' p8_ =>
    rw [if_pos c44] at H
    have c44b0 : (t144 == 0) = true := beq_iff_eq.mpr c44
    have c44b1 : (t144 != 0) = false := bne_eq_false_iff_eq.mpr c44
    clear c44
    refine Or.elim (Classical.em (t145 = 0)) (fun c45 => ?p9_) (fun c45 => ?n9_)
    case' p9_ =>
     rw [if_pos c45] at H
     have c45b0 : (t145 == 0) = true := beq_iff_eq.mpr c45
     have c45b1 : (t145 != 0) = false := bne_eq_false_iff_eq.mpr c45
     clear c45
     refine Or.elim (Classical.em (t148 = 0)) (fun c46 => ?p10_) (fun c46 => ?n10_)
     case' p10_ =>
      rw [if_pos c46] at H
      have c46b0 : (t148 == 0) = true := beq_iff_eq.mpr c46
      have c46b1 : (t148 != 0) = false := bne_eq_false_iff_eq.mpr c46
      clear c46
     case' n10_ =>
      rw [if_neg c46] at H
      have c46b0 : (t148 == 0) = false := beq_eq_false_iff_ne.mpr c46
      have c46b1 : (t148 != 0) = true := bne_iff_ne.mpr c46
    case' n9_ =>
     rw [if_neg c45] at H
     have c45b0 : (t145 == 0) = false := beq_eq_false_iff_ne.mpr c45
     have c45b1 : (t145 != 0) = true := bne_iff_ne.mpr c45
   case' n8_ =>
    rw [if_neg c44] at H
    have c44b0 : (t144 == 0) = false := beq_eq_false_iff_ne.mpr c44
    have c44b1 : (t144 != 0) = true := bne_iff_ne.mpr c44
 case' n2_ =>
  replace c6 := Bool.eq_false_iff.mpr c6
  subst c6
  have H1 : (some false) = some r := by rw [if_neg (show ¬ (false = true) by decide)] at H; exact H
  clear H
  have H := H1
  clear H1
 all_goals
  obtain rfl := Option.some.inj H
  go_enter Tryd.func3, Tryd.ntmps3
  go_wp2_with (first | ((with_reducible refine gate_dst (N := 4) rfl ?_); refine box_event ?hg (N := 4) ?hd (cs := #[.string a0_0, .int .i64 a0_1, .int .i64 a0_2, .int .i64 a0_3, .int .i64 a0_4, .int .i64 a0_5, .int .i64 a0_6]) (t := 23) ?hr ?_; (case hd => rfl); (case hg => rfl); (case hr => first | (go_simp; done) | (go_simp; rfl)); intro gb142 hg wx16ef1 hbox hb; have n0_ := Aside0.mk (below_step (by repeat (first | (with_reducible first | exact HB.out | apply below_alloc | apply pw_below_drewN | apply below_drew1) | exact HB.out)) hb); have n1_ := Aside0.mk (hbox); have n2_ := Aside0.mk ((by rw [hg]; exact (below_size (by repeat (first | (with_reducible first | exact HB.out | apply below_alloc | apply pw_below_drewN | apply below_drew1) | exact HB.out))) : w.heap.size ≤ gb142)); have n3_ := Aside0.mk ((by rw [hg]; exact (below_size (by repeat (first | (with_reducible first | exact HB.out | apply below_alloc | apply pw_below_drewN | apply below_drew1) | exact HB.out))) : w.heap.size ≤ gb142)); clear HB; have HB := n0_; have BK142 := n1_; have GW142 := n2_; have GE142 := n3_; clear n0_ n1_ n2_ n3_; clear hb hbox hg) | ((with_reducible refine gate_callee (f := 9) rfl ?_); refine goesL_ (some 14) rfl rfl Tryd.func9 (by kernel_rfl) rfl #[] rfl (by (try simp only [List.map_toArray, List.map_cons, List.map_nil]); first | done | rfl | (simp only [List.length_drop, List.length_take]; rfl)) ?_; (with_reducible refine (skywaykeep1_aircraftWorks.calls k  true _ A5.out).mono ?_); rintro e wx970b1 ⟨rfl, hb⟩; refine ⟨_, rfl, ?_⟩; have n0_ := Aside0.mk (blk_below (g := gb142) (o := .cells #[.string a0_0, .int .i64 a0_1, .int .i64 a0_2, .int .i64 a0_3, .int .i64 a0_4, .int .i64 a0_5, .int .i64 a0_6] 23 (0, 0)) (by (with_reducible repeat (first | refine blk_drewN ?_ _ | refine blk_drew ?_ | refine blk_alloc ?_ _)); exact BK142.out) hb); have n1_ := Aside0.mk (below_step (by repeat (first | (with_reducible first | exact HB.out | apply below_alloc | apply pw_below_drewN | apply below_drew1 | refine below_set ?_ GE142.out) | exact HB.out)) hb); clear BK142; clear HB; have BK142 := n0_; have HB := n1_; clear n0_ n1_; (try clear hb); (try clear hb2); (try clear hk); (try clear hi); have hczx970b1 : wx970b1.cell? ⟨gb142, 0, none⟩ = some (.string a0_0) := (blk_cell BK142.out 0).trans rfl; have hczx970b2 : wx970b1.cell? ⟨gb142, 1, none⟩ = some (.int .i64 a0_1) := (blk_cell BK142.out 1).trans rfl; have hczx970b3 : wx970b1.cell? ⟨gb142, 2, none⟩ = some (.int .i64 a0_2) := (blk_cell BK142.out 2).trans rfl; have hczx970b4 : wx970b1.cell? ⟨gb142, 3, none⟩ = some (.int .i64 a0_3) := (blk_cell BK142.out 3).trans rfl; have hczx970b5 : wx970b1.cell? ⟨gb142, 4, none⟩ = some (.int .i64 a0_4) := (blk_cell BK142.out 4).trans rfl; have hczx970b6 : wx970b1.cell? ⟨gb142, 5, none⟩ = some (.int .i64 a0_5) := (blk_cell BK142.out 5).trans rfl; have hczx970b7 : wx970b1.cell? ⟨gb142, 6, none⟩ = some (.int .i64 a0_6) := (blk_cell BK142.out 6).trans rfl; have hfzx970b1 := blk_frozen BK142.out 0; have hfzx970b2 := blk_frozen BK142.out 1; have hfzx970b3 := blk_frozen BK142.out 2; have hfzx970b4 := blk_frozen BK142.out 3; have hfzx970b5 := blk_frozen BK142.out 4; have hfzx970b6 := blk_frozen BK142.out 5; have hfzx970b7 := blk_frozen BK142.out 6) | ((with_reducible refine gate_callee (f := 9) rfl ?_); refine goesL_ (some 14) rfl rfl Tryd.func9 (by kernel_rfl) rfl #[] rfl (by (try simp only [List.map_toArray, List.map_cons, List.map_nil]); first | done | rfl | (simp only [List.length_drop, List.length_take]; rfl)) ?_; (with_reducible refine (skywaykeep1_aircraftWorks.calls k  false _ A5.out).mono ?_); rintro e wxb8eb1 ⟨rfl, hb⟩; refine ⟨_, rfl, ?_⟩; have n0_ := Aside0.mk (blk_below (g := gb142) (o := .cells #[.string a0_0, .int .i64 a0_1, .int .i64 a0_2, .int .i64 a0_3, .int .i64 a0_4, .int .i64 a0_5, .int .i64 a0_6] 23 (0, 0)) (by (with_reducible repeat (first | refine blk_drewN ?_ _ | refine blk_drew ?_ | refine blk_alloc ?_ _)); exact BK142.out) hb); have n1_ := Aside0.mk (below_step (by repeat (first | (with_reducible first | exact HB.out | apply below_alloc | apply pw_below_drewN | apply below_drew1 | refine below_set ?_ GE142.out) | exact HB.out)) hb); clear BK142; clear HB; have BK142 := n0_; have HB := n1_; clear n0_ n1_; (try clear hb); (try clear hb2); (try clear hk); (try clear hi)) | ((with_reducible refine gate_callee (f := 10) rfl ?_); refine goesL_ (some 20) rfl rfl Tryd.func10 (by kernel_rfl) rfl #[.agg #[.string a0_0, .int .i64 a0_1, .int .i64 a0_2, .int .i64 a0_3, .int .i64 a0_4, .int .i64 a0_5, .int .i64 a0_6], .int .i64 a1, .int .i64 a3] rfl (by (try simp only [List.map_toArray, List.map_cons, List.map_nil]); first | done | rfl | (simp only [List.length_drop, List.length_take]; rfl)) ?_; (with_reducible refine (aircraft_Reach.calls k a0_0 a0_1 a0_2 a0_3 a0_4 a0_5 a0_6 a1 a3 t144 t145 t146 _ A7.out).mono ?_); rintro e wxd50c1 ⟨rfl, hb⟩; refine ⟨_, rfl, ?_⟩; have n0_ := Aside0.mk (blk_below (g := gb142) (o := .cells #[.string a0_0, .int .i64 a0_1, .int .i64 a0_2, .int .i64 a0_3, .int .i64 a0_4, .int .i64 a0_5, .int .i64 a0_6] 23 (0, 0)) (by (with_reducible repeat (first | refine blk_drewN ?_ _ | refine blk_drew ?_ | refine blk_alloc ?_ _)); exact BK142.out) hb); have n1_ := Aside0.mk (below_step (by repeat (first | (with_reducible first | exact HB.out | apply below_alloc | apply pw_below_drewN | apply below_drew1 | refine below_set ?_ GE142.out) | exact HB.out)) hb); clear BK142; clear HB; have BK142 := n0_; have HB := n1_; clear n0_ n1_; (try clear hb); (try clear hb2); (try clear hk); (try clear hi); have hczxd50c1 : wxd50c1.cell? ⟨gb142, 0, none⟩ = some (.string a0_0) := (blk_cell BK142.out 0).trans rfl; have hczxd50c2 : wxd50c1.cell? ⟨gb142, 1, none⟩ = some (.int .i64 a0_1) := (blk_cell BK142.out 1).trans rfl; have hczxd50c3 : wxd50c1.cell? ⟨gb142, 2, none⟩ = some (.int .i64 a0_2) := (blk_cell BK142.out 2).trans rfl; have hczxd50c4 : wxd50c1.cell? ⟨gb142, 3, none⟩ = some (.int .i64 a0_3) := (blk_cell BK142.out 3).trans rfl; have hczxd50c5 : wxd50c1.cell? ⟨gb142, 4, none⟩ = some (.int .i64 a0_4) := (blk_cell BK142.out 4).trans rfl; have hczxd50c6 : wxd50c1.cell? ⟨gb142, 5, none⟩ = some (.int .i64 a0_5) := (blk_cell BK142.out 5).trans rfl; have hczxd50c7 : wxd50c1.cell? ⟨gb142, 6, none⟩ = some (.int .i64 a0_6) := (blk_cell BK142.out 6).trans rfl; have hfzxd50c1 := blk_frozen BK142.out 0; have hfzxd50c2 := blk_frozen BK142.out 1; have hfzxd50c3 := blk_frozen BK142.out 2; have hfzxd50c4 := blk_frozen BK142.out 3; have hfzxd50c5 := blk_frozen BK142.out 4; have hfzxd50c6 := blk_frozen BK142.out 5; have hfzxd50c7 := blk_frozen BK142.out 6) | ((with_reducible refine gate_callee (f := 11) rfl ?_); refine goesL_ (some 28) rfl rfl Tryd.func11 (by kernel_rfl) rfl #[.agg #[.string a0_0, .int .i64 a0_1, .int .i64 a0_2, .int .i64 a0_3, .int .i64 a0_4, .int .i64 a0_5, .int .i64 a0_6], .int .i64 a1, .int .i64 a2] rfl (by (try simp only [List.map_toArray, List.map_cons, List.map_nil]); first | done | rfl | (simp only [List.length_drop, List.length_take]; rfl)) ?_; (with_reducible refine (aircraft_Climb.calls k a0_0 a0_1 a0_2 a0_3 a0_4 a0_5 a0_6 a1 a2 t147 t148 _ A8.out).mono ?_); rintro e wx1c341 ⟨rfl, hb⟩; refine ⟨_, rfl, ?_⟩; have n0_ := Aside0.mk (blk_below (g := gb142) (o := .cells #[.string a0_0, .int .i64 a0_1, .int .i64 a0_2, .int .i64 a0_3, .int .i64 a0_4, .int .i64 a0_5, .int .i64 a0_6] 23 (0, 0)) (by (with_reducible repeat (first | refine blk_drewN ?_ _ | refine blk_drew ?_ | refine blk_alloc ?_ _)); exact BK142.out) hb); have n1_ := Aside0.mk (below_step (by repeat (first | (with_reducible first | exact HB.out | apply below_alloc | apply pw_below_drewN | apply below_drew1 | refine below_set ?_ GE142.out) | exact HB.out)) hb); clear BK142; clear HB; have BK142 := n0_; have HB := n1_; clear n0_ n1_; (try clear hb); (try clear hb2); (try clear hk); (try clear hi)))
  go_ret
  exact ⟨by first | rfl | (simp [errW_none, errW_some] <;> rfl) | (simp [*, errW_none, errW_some] <;> rfl), by repeat (first | (with_reducible first | exact HB.out | apply below_alloc | apply pw_below_drewN | apply below_drew1 | refine below_set ?_ GE142.out) | exact HB.out)⟩

/-- What is told of a value of struct type 23 that came in. -/
def good23 (x : S23) : Prop := (x.f0.size ≤ 140737488351232) ∧ ((Lit.int .i64 x.f1).wf = true) ∧ ((Lit.int .i64 x.f2).wf = true) ∧ ((Lit.int .i64 x.f3).wf = true) ∧ ((Lit.int .i64 x.f4).wf = true) ∧ ((Lit.int .i64 x.f5).wf = true) ∧ (Lit.int .i64 x.f6).wf = true
/-- THE ONE PURE STATEMENT of skywaykeep1_AircraftReach. -/
def skywaykeep1_AircraftReach.Pure : Prop := ∀ (a0_0 : ByteArray) (a0_1 : Int) (a0_2 : Int) (a0_3 : Int) (a0_4 : Int) (a0_5 : Int) (a0_6 : Int) (a1 : Int) (a2 : Int) (a3 : Int), (a0_0.size ≤ 140737488351232) → ((Lit.int .i64 a0_1).wf = true) → ((Lit.int .i64 a0_2).wf = true) → ((Lit.int .i64 a0_3).wf = true) → ((Lit.int .i64 a0_4).wf = true) → ((Lit.int .i64 a0_5).wf = true) → ((Lit.int .i64 a0_6).wf = true) → ((Lit.int .i64 a1).wf = true) → ((Lit.int .i64 a2).wf = true) → ((Lit.int .i64 a3).wf = true) → ∃ k, skywaykeep1_AircraftReach.f k a0_0 a0_1 a0_2 a0_3 a0_4 a0_5 a0_6 a1 a2 a3 = some true

end Go.Proofs.YtfchcleochphoaaDoor.PAircraftReach
