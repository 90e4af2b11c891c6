/- Made by a program of this session (wip/tools/myprint.py, over the kit's printer): that the Go functions answer as the Lean functions printed beside them. -/
import Derived.Test.YteaddpieonkboabPProbeSafex0
import Derived.Test.YteaddpieonkboabPProbeSafex4
import Derived.Test.YteaddpieonkboabPProbeSafex5
namespace Go.Proofs.Yteaddpieonkboab.PProbeSafe
open Go.RowKit Go.Proofs.YteaddpieonkboabW.PrintWords Go.Proofs.YteaddpieonkboabW.PrintLast Go.Proofs.YteaddpieonkboabW.PrintMore
attribute [local go_sem] max2_int min2_int max_two min_two max_three min_three max_four min_four   -- for this text's walks alone
set_option linter.unusedVariables false
set_option linter.unusedSimpArgs false

/-! ### skywaykeep1_probeWorks: function 30 -/
def skywaykeep1_probeWorks.f (k : Nat)  : Option (Bool) := (skywaykeep1_node.f 0 0 0 0 1 0).bind fun bt236 => ((skywaykeep1_node.f 0 8 0 0 2 0).bind fun bt242 => ((probe_Separated.f k bt236.1 bt236.2.1 bt236.2.2.1 bt236.2.2.2.1 bt236.2.2.2.2.1 bt236.2.2.2.2.2 bt242.1 bt242.2.1 bt242.2.2.1 bt242.2.2.2.1 bt242.2.2.2.2.1 bt242.2.2.2.2.2 5 10).bind fun bt248 => ((skywaykeep1_node.f 0 0 0 0 1 0).bind fun bt250 => ((skywaykeep1_node.f 0 3 5 0 1 0).bind fun bt259 => ((probe_Margin.f k (([(⟨(⟨bt250.1, (⟨bt250.2.1, bt250.2.2.1⟩ : S26), bt250.2.2.2.1⟩ : S28), bt250.2.2.2.2.1, bt250.2.2.2.2.2⟩ : S30)] : List (S30))) (([(⟨(⟨bt259.1, (⟨bt259.2.1, bt259.2.2.1⟩ : S26), bt259.2.2.2.1⟩ : S28), bt259.2.2.2.2.1, bt259.2.2.2.2.2⟩ : S30)] : List (S30)))).bind fun bt268 => (if bt248.2 = 0 then (if bt248.1 = true then (if bt268.2 = 0 then (some (bt268.1 == 3)) else (some false)) else (some false)) else (some false)))))))
theorem skywaykeep1_probeWorks.mono : ∀ k, LeO (skywaykeep1_probeWorks.f k ) (skywaykeep1_probeWorks.f (k + 1) ) := by
  intro  k
  unfold skywaykeep1_probeWorks.f
  repeat' first
      | (with_reducible exact probe_Margin.mono _ _ _)
      | (with_reducible exact probe_Separated.mono _ _ _ _ _ _ _ _ _ _ _ _ _ _ _)
      | (with_reducible exact LeO.refl _)
      | (with_reducible exact LeO.none _)
      | (with_reducible refine LeO.ite ?_ ?_)
      | (with_reducible refine LeO.bind ?_ (fun _ => ?_))
      | exact probe_Margin.mono _ _ _
      | exact probe_Separated.mono _ _ _ _ _ _ _ _ _ _ _ _ _ _ _
      | exact LeO.none _
      | refine LeO.ite ?_ ?_
      | refine LeO.bind ?_ (fun _ => ?_)
set_option maxHeartbeats 8000000 in
set_option maxRecDepth 100000 in
theorem skywaykeep1_probeWorks.calls (k : Nat)  (r : Bool) (w : World) (h : skywaykeep1_probeWorks.f k  = some r) :
    Calls Try.prog 30 #[] w fun e w' => e = .returned (.bool r) ∧ Below w.heap.size w w' := by
 have hu61 := Try.underlying61
 have HB := Aside0.mk (Below.refl w.heap.size w)
 have H : ((skywaykeep1_node.f 0 0 0 0 1 0).bind fun bt236 => ((skywaykeep1_node.f 0 8 0 0 2 0).bind fun bt242 => ((probe_Separated.f k bt236.1 bt236.2.1 bt236.2.2.1 bt236.2.2.2.1 bt236.2.2.2.2.1 bt236.2.2.2.2.2 bt242.1 bt242.2.1 bt242.2.2.1 bt242.2.2.2.1 bt242.2.2.2.2.1 bt242.2.2.2.2.2 5 10).bind fun bt248 => ((skywaykeep1_node.f 0 0 0 0 1 0).bind fun bt250 => ((skywaykeep1_node.f 0 3 5 0 1 0).bind fun bt259 => ((probe_Margin.f k (([(⟨(⟨bt250.1, (⟨bt250.2.1, bt250.2.2.1⟩ : S26), bt250.2.2.2.1⟩ : S28), bt250.2.2.2.2.1, bt250.2.2.2.2.2⟩ : S30)] : List (S30))) (([(⟨(⟨bt259.1, (⟨bt259.2.1, bt259.2.2.1⟩ : S26), bt259.2.2.2.1⟩ : S28), bt259.2.2.2.2.1, bt259.2.2.2.2.2⟩ : S30)] : List (S30)))).bind fun bt268 => (if bt248.2 = 0 then (if bt248.1 = true then (if bt268.2 = 0 then (some (bt268.1 == 3)) else (some false)) else (some false)) else (some false)))))))) = some r := h
 clear h
 replace H := Option.bind_eq_some_iff.mp H
 obtain ⟨⟨t236, t237, t238, t239, t240, t241⟩, A10, H⟩ := H
 replace H : ((skywaykeep1_node.f 0 8 0 0 2 0).bind fun bt242 => ((probe_Separated.f k t236 t237 t238 t239 t240 t241 bt242.1 bt242.2.1 bt242.2.2.1 bt242.2.2.2.1 bt242.2.2.2.2.1 bt242.2.2.2.2.2 5 10).bind fun bt248 => ((skywaykeep1_node.f 0 0 0 0 1 0).bind fun bt250 => ((skywaykeep1_node.f 0 3 5 0 1 0).bind fun bt259 => ((probe_Margin.f k (([(⟨(⟨bt250.1, (⟨bt250.2.1, bt250.2.2.1⟩ : S26), bt250.2.2.2.1⟩ : S28), bt250.2.2.2.2.1, bt250.2.2.2.2.2⟩ : S30)] : List (S30))) (([(⟨(⟨bt259.1, (⟨bt259.2.1, bt259.2.2.1⟩ : S26), bt259.2.2.2.1⟩ : S28), bt259.2.2.2.2.1, bt259.2.2.2.2.2⟩ : S30)] : List (S30)))).bind fun bt268 => (if bt248.2 = 0 then (if bt248.1 = true then (if bt268.2 = 0 then (some (bt268.1 == 3)) else (some false)) else (some false)) else (some false))))))) = some r := H
 have A1 := Aside0.mk A10
 clear A10
 replace H := Option.bind_eq_some_iff.mp H
 obtain ⟨⟨t242, t243, t244, t245, t246, t247⟩, A20, H⟩ := H
 replace H : ((probe_Separated.f k t236 t237 t238 t239 t240 t241 t242 t243 t244 t245 t246 t247 5 10).bind fun bt248 => ((skywaykeep1_node.f 0 0 0 0 1 0).bind fun bt250 => ((skywaykeep1_node.f 0 3 5 0 1 0).bind fun bt259 => ((probe_Margin.f k (([(⟨(⟨bt250.1, (⟨bt250.2.1, bt250.2.2.1⟩ : S26), bt250.2.2.2.1⟩ : S28), bt250.2.2.2.2.1, bt250.2.2.2.2.2⟩ : S30)] : List (S30))) (([(⟨(⟨bt259.1, (⟨bt259.2.1, bt259.2.2.1⟩ : S26), bt259.2.2.2.1⟩ : S28), bt259.2.2.2.2.1, bt259.2.2.2.2.2⟩ : S30)] : List (S30)))).bind fun bt268 => (if bt248.2 = 0 then (if bt248.1 = true then (if bt268.2 = 0 then (some (bt268.1 == 3)) else (some false)) else (some false)) else (some false)))))) = some r := H
 have A2 := Aside0.mk A20
 clear A20
 replace H := Option.bind_eq_some_iff.mp H
 obtain ⟨⟨t248, t249⟩, A30, H⟩ := H
 replace H : ((skywaykeep1_node.f 0 0 0 0 1 0).bind fun bt250 => ((skywaykeep1_node.f 0 3 5 0 1 0).bind fun bt259 => ((probe_Margin.f k (([(⟨(⟨bt250.1, (⟨bt250.2.1, bt250.2.2.1⟩ : S26), bt250.2.2.2.1⟩ : S28), bt250.2.2.2.2.1, bt250.2.2.2.2.2⟩ : S30)] : List (S30))) (([(⟨(⟨bt259.1, (⟨bt259.2.1, bt259.2.2.1⟩ : S26), bt259.2.2.2.1⟩ : S28), bt259.2.2.2.2.1, bt259.2.2.2.2.2⟩ : S30)] : List (S30)))).bind fun bt268 => (if t249 = 0 then (if t248 = true then (if bt268.2 = 0 then (some (bt268.1 == 3)) else (some false)) else (some false)) else (some false))))) = some r := H
 have A3 := Aside0.mk A30
 clear A30
 replace H := Option.bind_eq_some_iff.mp H
 obtain ⟨⟨t250, t251, t252, t253, t254, t255⟩, A40, H⟩ := H
 replace H : ((skywaykeep1_node.f 0 3 5 0 1 0).bind fun bt259 => ((probe_Margin.f k (([(⟨(⟨t250, (⟨t251, t252⟩ : S26), t253⟩ : S28), t254, t255⟩ : S30)] : List (S30))) (([(⟨(⟨bt259.1, (⟨bt259.2.1, bt259.2.2.1⟩ : S26), bt259.2.2.2.1⟩ : S28), bt259.2.2.2.2.1, bt259.2.2.2.2.2⟩ : S30)] : List (S30)))).bind fun bt268 => (if t249 = 0 then (if t248 = true then (if bt268.2 = 0 then (some (bt268.1 == 3)) else (some false)) else (some false)) else (some false)))) = some r := H
 have A4 := Aside0.mk A40
 clear A40
 obtain ⟨y256, hy256⟩ : ∃ y_ : List (S30), y_ = (([(⟨(⟨t250, (⟨t251, t252⟩ : S26), t253⟩ : S28), t254, t255⟩ : S30)] : List (S30))) := ⟨_, rfl⟩
 replace H : ((skywaykeep1_node.f 0 3 5 0 1 0).bind fun bt259 => ((probe_Margin.f k y256 (([(⟨(⟨bt259.1, (⟨bt259.2.1, bt259.2.2.1⟩ : S26), bt259.2.2.2.1⟩ : S28), bt259.2.2.2.2.1, bt259.2.2.2.2.2⟩ : S30)] : List (S30)))).bind fun bt268 => (if t249 = 0 then (if t248 = true then (if bt268.2 = 0 then (some (bt268.1 == 3)) else (some false)) else (some false)) else (some false)))) = some r := by first | (rw [hy256]; with_reducible exact H) | (have H2_ := (Option.bind_some _ _).symm.trans H; rw [hy256]; with_reducible exact H2_) | (have H2_ := (Option.bind_some _ _).symm.trans H; with_reducible exact H2_) | with_reducible exact H | (rw [hy256]; exact H) | exact H
 have Ny256 := Aside0.mk hy256
 clear hy256
 replace H := Option.bind_eq_some_iff.mp H
 obtain ⟨⟨t259, t260, t261, t262, t263, t264⟩, A50, H⟩ := H
 replace H : ((probe_Margin.f k y256 (([(⟨(⟨t259, (⟨t260, t261⟩ : S26), t262⟩ : S28), t263, t264⟩ : S30)] : List (S30)))).bind fun bt268 => (if t249 = 0 then (if t248 = true then (if bt268.2 = 0 then (some (bt268.1 == 3)) else (some false)) else (some false)) else (some false))) = some r := H
 have A5 := Aside0.mk A50
 clear A50
 obtain ⟨y265, hy265⟩ : ∃ y_ : List (S30), y_ = (([(⟨(⟨t259, (⟨t260, t261⟩ : S26), t262⟩ : S28), t263, t264⟩ : S30)] : List (S30))) := ⟨_, rfl⟩
 replace H : ((probe_Margin.f k y256 y265).bind fun bt268 => (if t249 = 0 then (if t248 = true then (if bt268.2 = 0 then (some (bt268.1 == 3)) else (some false)) else (some false)) else (some false))) = some r := by first | (rw [hy265]; with_reducible exact H) | (have H2_ := (Option.bind_some _ _).symm.trans H; rw [hy265]; with_reducible exact H2_) | (have H2_ := (Option.bind_some _ _).symm.trans H; with_reducible exact H2_) | with_reducible exact H | (rw [hy265]; exact H) | exact H
 have Ny265 := Aside0.mk hy265
 clear hy265
 replace H := Option.bind_eq_some_iff.mp H
 obtain ⟨⟨t268, t269⟩, A60, H⟩ := H
 replace H : (if t249 = 0 then (if t248 = true then (if t269 = 0 then (some (t268 == 3)) else (some false)) else (some false)) else (some false)) = some r := H
 have A6 := Aside0.mk A60
 clear A60
 refine Or.elim (Classical.em (t249 = 0)) (fun c7 => ?p2_) (fun c7 => ?n2_)
 case' p2_ =>
  rw [if_pos c7] at H
  have c7b0 : (t249 == 0) = true := beq_iff_eq.mpr c7
  have c7b1 : (t249 != 0) = false := bne_eq_false_iff_eq.mpr c7
  clear c7
  refine Or.elim (Classical.em (t248 = true)) (fun c8 => ?p3_) (fun c8 => ?n3_)
  case' p3_ =>
   subst c8
   have H1 : (if t269 = 0 then (some (t268 == 3)) else (some false)) = some r := by rw [if_pos rfl] at H; exact H
   clear H
   have H := H1
   clear H1
   refine Or.elim (Classical.em (t269 = 0)) (fun c9 => ?p4_) (fun c9 => ?n4_)
   case' p4_ =>
    rw [if_pos c9] at H
    have c9b0 : (t269 == 0) = true := beq_iff_eq.mpr c9
    have c9b1 : (t269 != 0) = false := bne_eq_false_iff_eq.mpr c9
    clear c9
   case' n4_ =>
    rw [if_neg c9] at H
    have c9b0 : (t269 == 0) = false := beq_eq_false_iff_ne.mpr c9
    have c9b1 : (t269 != 0) = true := bne_iff_ne.mpr c9
  case' n3_ =>
   replace c8 := Bool.eq_false_iff.mpr c8
   subst c8
   have H1 : (some false) = some r := by rw [if_neg (show ¬ (false = true) by decide)] at H; exact H
   clear H
   have H := H1
   clear H1
 case' n2_ =>
  rw [if_neg c7] at H
  have c7b0 : (t249 == 0) = false := beq_eq_false_iff_ne.mpr c7
  have c7b1 : (t249 != 0) = true := bne_iff_ne.mpr c7
 all_goals
  obtain rfl := Option.some.inj H
  go_enter Try.func30, Try.ntmps30
  go_wp2_with (first | ((with_reducible refine gate_callee (f := 39) rfl ?_); refine goesL_ (some 6) rfl rfl Try.func39 (by kernel_rfl) rfl #[.int .i64 0, .int .i64 0, .int .i64 0, .int .i64 0, .int .i64 1, .int .i64 0] rfl (by (try simp only [List.map_toArray, List.map_cons, List.map_nil]); first | done | rfl | (simp only [List.length_drop, List.length_take]; rfl)) ?_; (with_reducible refine (skywaykeep1_node.calls 0 0 0 0 1 0 t236 t237 t238 t239 t240 t241 _ A1.out).mono ?_); rintro e wx4b451 ⟨rfl, hb⟩; refine ⟨_, rfl, ?_⟩; have n0_ := Aside0.mk (below_step (by repeat (first | (with_reducible first | exact HB.out | apply below_alloc | apply pw_below_drewN | apply below_drew1) | exact HB.out)) hb); clear HB; have HB := n0_; clear n0_; (try clear hb); (try clear hb2); (try clear hk); (try clear hi)) | ((with_reducible refine gate_callee (f := 39) rfl ?_); refine goesL_ (some 7) rfl rfl Try.func39 (by kernel_rfl) rfl #[.int .i64 0, .int .i64 8, .int .i64 0, .int .i64 0, .int .i64 2, .int .i64 0] rfl (by (try simp only [List.map_toArray, List.map_cons, List.map_nil]); first | done | rfl | (simp only [List.length_drop, List.length_take]; rfl)) ?_; (with_reducible refine (skywaykeep1_node.calls 0 8 0 0 2 0 t242 t243 t244 t245 t246 t247 _ A2.out).mono ?_); rintro e wxeabb1 ⟨rfl, hb⟩; refine ⟨_, rfl, ?_⟩; have n0_ := Aside0.mk (below_step (by repeat (first | (with_reducible first | exact HB.out | apply below_alloc | apply pw_below_drewN | apply below_drew1) | exact HB.out)) hb); clear HB; have HB := n0_; clear n0_; (try clear hb); (try clear hb2); (try clear hk); (try clear hi)) | ((with_reducible refine gate_callee (f := 31) rfl ?_); refine goesL_ (some 9) rfl rfl Try.func31 (by kernel_rfl) rfl #[.agg #[.int .i64 t236, .int .i64 t237, .int .i64 t238, .int .i64 t239, .int .i64 t240, .int .i64 t241], .agg #[.int .i64 t242, .int .i64 t243, .int .i64 t244, .int .i64 t245, .int .i64 t246, .int .i64 t247], .agg #[.int .i64 5, .int .i64 10]] rfl (by (try simp only [List.map_toArray, List.map_cons, List.map_nil]); first | done | rfl | (simp only [List.length_drop, List.length_take]; rfl)) ?_; (with_reducible refine (probe_Separated.calls k t236 t237 t238 t239 t240 t241 t242 t243 t244 t245 t246 t247 5 10 false t249 _ A3.out).mono ?_); rintro e wx0b431 ⟨rfl, hb⟩; refine ⟨_, rfl, ?_⟩; have n0_ := Aside0.mk (below_step (by repeat (first | (with_reducible first | exact HB.out | apply below_alloc | apply pw_below_drewN | apply below_drew1) | exact HB.out)) hb); clear HB; have HB := n0_; clear n0_; (try clear hb); (try clear hb2); (try clear hk); (try clear hi)) | ((with_reducible refine gate_callee (f := 31) rfl ?_); refine goesL_ (some 9) rfl rfl Try.func31 (by kernel_rfl) rfl #[.agg #[.int .i64 t236, .int .i64 t237, .int .i64 t238, .int .i64 t239, .int .i64 t240, .int .i64 t241], .agg #[.int .i64 t242, .int .i64 t243, .int .i64 t244, .int .i64 t245, .int .i64 t246, .int .i64 t247], .agg #[.int .i64 5, .int .i64 10]] rfl (by (try simp only [List.map_toArray, List.map_cons, List.map_nil]); first | done | rfl | (simp only [List.length_drop, List.length_take]; rfl)) ?_; (with_reducible refine (probe_Separated.calls k t236 t237 t238 t239 t240 t241 t242 t243 t244 t245 t246 t247 5 10 true t249 _ A3.out).mono ?_); rintro e wx7cb01 ⟨rfl, hb⟩; refine ⟨_, rfl, ?_⟩; have n0_ := Aside0.mk (below_step (by repeat (first | (with_reducible first | exact HB.out | apply below_alloc | apply pw_below_drewN | apply below_drew1) | exact HB.out)) hb); clear HB; have HB := n0_; clear n0_; (try clear hb); (try clear hb2); (try clear hk); (try clear hi)) | ((with_reducible refine gate_callee (f := 31) rfl ?_); refine goesL_ (some 9) rfl rfl Try.func31 (by kernel_rfl) rfl #[.agg #[.int .i64 t236, .int .i64 t237, .int .i64 t238, .int .i64 t239, .int .i64 t240, .int .i64 t241], .agg #[.int .i64 t242, .int .i64 t243, .int .i64 t244, .int .i64 t245, .int .i64 t246, .int .i64 t247], .agg #[.int .i64 5, .int .i64 10]] rfl (by (try simp only [List.map_toArray, List.map_cons, List.map_nil]); first | done | rfl | (simp only [List.length_drop, List.length_take]; rfl)) ?_; (with_reducible refine (probe_Separated.calls k t236 t237 t238 t239 t240 t241 t242 t243 t244 t245 t246 t247 5 10 t248 t249 _ A3.out).mono ?_); rintro e wx459c1 ⟨rfl, hb⟩; refine ⟨_, rfl, ?_⟩; have n0_ := Aside0.mk (below_step (by repeat (first | (with_reducible first | exact HB.out | apply below_alloc | apply pw_below_drewN | apply below_drew1) | exact HB.out)) hb); clear HB; have HB := n0_; clear n0_; (try clear hb); (try clear hb2); (try clear hk); (try clear hi)) | ((with_reducible refine gate_callee (f := 39) rfl ?_); refine goesL_ (some 13) rfl rfl Try.func39 (by kernel_rfl) rfl #[.int .i64 0, .int .i64 0, .int .i64 0, .int .i64 0, .int .i64 1, .int .i64 0] rfl (by (try simp only [List.map_toArray, List.map_cons, List.map_nil]); first | done | rfl | (simp only [List.length_drop, List.length_take]; rfl)) ?_; (with_reducible refine (skywaykeep1_node.calls 0 0 0 0 1 0 t250 t251 t252 t253 t254 t255 _ A4.out).mono ?_); rintro e wxb3f71 ⟨rfl, hb⟩; refine ⟨_, rfl, ?_⟩; have n0_ := Aside0.mk (below_step (by repeat (first | (with_reducible first | exact HB.out | apply below_alloc | apply pw_below_drewN | apply below_drew1) | exact HB.out)) hb); clear HB; have HB := n0_; clear n0_; (try clear hb); (try clear hb2); (try clear hk); (try clear hi)) | ((with_reducible refine gate_dst (N := 14) rfl ?_); refine Kd.R_lit k30 _ 30 ?hg (N := 14) ?hd (xs := ([(⟨(⟨t250, (⟨t251, t252⟩ : S26), t253⟩ : S28), t254, t255⟩ : S30)] : List (S30))) (inner := [.int .i64 t250, .int .i64 t251, .int .i64 t252, .int .i64 t253, .int .i64 t254, .int .i64 t255]) (ok := fun _ => True) (okp := fun _ => True) ?hr ?hp (fun _ hk => hk) trivial (Below.refl _ _) (Nat.le_refl _) (by simp) ?_; (case hd => rfl); (case hg => rfl); (case hr => first | (go_simp; done) | (go_simp; rfl)); (case hp => exact (Reps.c6 (show Kd.M k30 _ _ _ (⟨(⟨t250, (⟨t251, t252⟩ : S26), t253⟩ : S28), t254, t255⟩ : S30) [.int .i64 t250, .int .i64 t251, .int .i64 t252, .int .i64 t253, .int .i64 t254, .int .i64 t255] from (k30_mkM _ _ _ (⟨(⟨t250, (⟨t251, t252⟩ : S26), t253⟩ : S28), t254, t255⟩ : S30) )) (Reps.none _ _))); intro v257 wxa1da1 hoxa1da1 hb hg_ hnew_; clear hg_ hnew_; (first | rw [← Ny256.out] at hoxa1da1 | (simp only [Int.reduceToNat] at hoxa1da1; rw [← Ny256.out] at hoxa1da1)); have n0_ := Aside0.mk (Kd.R_lower hoxa1da1 (below_size (by repeat (first | (with_reducible first | exact HB.out | apply below_alloc | apply pw_below_drewN | apply below_drew1) | exact HB.out)))); have n1_ := Aside0.mk (below_step (by repeat (first | (with_reducible first | exact HB.out | apply below_alloc | apply pw_below_drewN | apply below_drew1) | exact HB.out)) hb); clear HB; have HO258 := n0_; have HB := n1_; clear n0_ n1_; clear hb hoxa1da1) | ((with_reducible refine gate_callee (f := 39) rfl ?_); refine goesL_ (some 15) rfl rfl Try.func39 (by kernel_rfl) rfl #[.int .i64 0, .int .i64 3, .int .i64 5, .int .i64 0, .int .i64 1, .int .i64 0] rfl (by (try simp only [List.map_toArray, List.map_cons, List.map_nil]); first | done | rfl | (simp only [List.length_drop, List.length_take]; rfl)) ?_; (with_reducible refine (skywaykeep1_node.calls 0 3 5 0 1 0 t259 t260 t261 t262 t263 t264 _ A5.out).mono ?_); rintro e wxfdf61 ⟨rfl, hb⟩; refine ⟨_, rfl, ?_⟩; have n0_ := Aside0.mk (Kd.R_below (by (with_reducible repeat (first | apply Kd.R_alloc | apply Kd.R_drewN | apply Kd.R_drew)); exact HO258.out) hb); have n1_ := Aside0.mk (below_step (by repeat (first | (with_reducible first | exact HB.out | apply below_alloc | apply pw_below_drewN | apply below_drew1) | exact HB.out)) hb); clear HO258; clear HB; have HO258 := n0_; have HB := n1_; clear n0_ n1_; (try clear hb); (try clear hb2); (try clear hk); (try clear hi)) | ((with_reducible refine gate_dst (N := 16) rfl ?_); refine Kd.R_lit k30 _ 30 ?hg (N := 16) ?hd (xs := ([(⟨(⟨t259, (⟨t260, t261⟩ : S26), t262⟩ : S28), t263, t264⟩ : S30)] : List (S30))) (inner := [.int .i64 t259, .int .i64 t260, .int .i64 t261, .int .i64 t262, .int .i64 t263, .int .i64 t264]) (ok := fun _ => True) (okp := fun _ => True) ?hr ?hp (fun _ hk => hk) trivial (Below.refl _ _) (Nat.le_refl _) (by simp) ?_; (case hd => rfl); (case hg => rfl); (case hr => first | (go_simp; done) | (go_simp; rfl)); (case hp => exact (Reps.c6 (show Kd.M k30 _ _ _ (⟨(⟨t259, (⟨t260, t261⟩ : S26), t262⟩ : S28), t263, t264⟩ : S30) [.int .i64 t259, .int .i64 t260, .int .i64 t261, .int .i64 t262, .int .i64 t263, .int .i64 t264] from (k30_mkM _ _ _ (⟨(⟨t259, (⟨t260, t261⟩ : S26), t262⟩ : S28), t263, t264⟩ : S30) )) (Reps.none _ _))); intro v266 wxe0811 hoxe0811 hb hg_ hnew_; clear hg_ hnew_; (first | rw [← Ny265.out] at hoxe0811 | (simp only [Int.reduceToNat] at hoxe0811; rw [← Ny265.out] at hoxe0811)); have n0_ := Aside0.mk (Kd.R_elder' (by (with_reducible repeat (first | apply Kd.R_alloc | apply Kd.R_drewN | apply Kd.R_drew)); exact HO258.out) (Kd.R_base hoxe0811) hb); have n1_ := Aside0.mk (Kd.R_lower (Kd.R_new' hoxe0811 (Kd.R_lt (by (with_reducible repeat (first | apply Kd.R_alloc | apply Kd.R_drewN | apply Kd.R_drew)); exact HO258.out))) (below_size (by repeat (first | (with_reducible first | exact HB.out | apply below_alloc | apply pw_below_drewN | apply below_drew1) | exact HB.out)))); have n2_ := Aside0.mk (below_step (by repeat (first | (with_reducible first | exact HB.out | apply below_alloc | apply pw_below_drewN | apply below_drew1) | exact HB.out)) hb); clear HO258; clear HB; have HO258 := n0_; have HO267 := n1_; have HB := n2_; clear n0_ n1_ n2_; clear hb hoxe0811; obtain ⟨Aoxe0811, coxe0811, eoxe0811⟩ := Kd.R_slice HO258.out; subst eoxe0811; obtain ⟨Aoxe0812, coxe0812, eoxe0812⟩ := Kd.R_slice HO267.out; subst eoxe0812) | ((with_reducible refine gate_callee (f := 35) rfl ?_); refine goesL_ (some 17) rfl rfl Try.func35 (by kernel_rfl) rfl #[.slice Aoxe0811 y256.length coxe0811, .slice Aoxe0812 y265.length coxe0812] rfl (by (try simp only [List.map_toArray, List.map_cons, List.map_nil]); first | done | rfl | (simp only [List.length_drop, List.length_take]; rfl)) ?_; (with_reducible refine (probe_Margin.calls k (fun k_ => some k_ = (.slice Aoxe0811 y256.length coxe0811 : Value).ownBlock) _ _ y256 (fun k_ => some k_ = (.slice Aoxe0812 y265.length coxe0812 : Value).ownBlock) _ _ y265 t268 t269 _ ?side1 ?side2 A6.out).mono ?_); (case side1 => exact Kd.R_V (Kd.R_tight rfl (HO258.out))); (case side2 => exact Kd.R_V (Kd.R_tight rfl (HO267.out))); rintro e wx6c1b1 ⟨rfl, hb⟩; refine ⟨_, rfl, ?_⟩; have n0_ := Aside0.mk (Kd.R_below (by (with_reducible repeat (first | apply Kd.R_alloc | apply Kd.R_drewN | apply Kd.R_drew)); exact HO258.out) hb); have n1_ := Aside0.mk (Kd.R_below (by (with_reducible repeat (first | apply Kd.R_alloc | apply Kd.R_drewN | apply Kd.R_drew)); exact HO267.out) hb); have n2_ := Aside0.mk (below_step (by repeat (first | (with_reducible first | exact HB.out | apply below_alloc | apply pw_below_drewN | apply below_drew1) | exact HB.out)) hb); clear HO258; clear HO267; clear HB; have HO258 := n0_; have HO267 := n1_; have HB := n2_; clear n0_ n1_ n2_; (try clear hb); (try clear hb2); (try clear hk); (try clear hi)))
  go_ret
  exact ⟨by first | rfl | (simp [errW_none, errW_some] <;> rfl) | (simp [*, errW_none, errW_some] <;> rfl), by repeat (first | (with_reducible first | exact HB.out | apply below_alloc | apply pw_below_drewN | apply below_drew1) | exact HB.out)⟩

/-! ### skywayref1_Abs: function 33 -/
def skywayref1_Abs.f (a0 : Int) : Option (Int) := if a0 < 0 then (some (wrap64 (-a0))) else (some a0)
set_option maxHeartbeats 8000000 in
set_option maxRecDepth 100000 in
theorem skywayref1_Abs.calls (a0 : Int) (r : Int) (w : World) (h : skywayref1_Abs.f a0 = some r) :
    Calls Try.prog 33 #[.int .i64 a0] w fun e w' => e = .returned (.int .i64 r) ∧ Below w.heap.size w w' := by
 have HB := Aside0.mk (Below.refl w.heap.size w)
 have H : (if a0 < 0 then (some (wrap64 (-a0))) else (some a0)) = some r := h
 clear h
 refine Or.elim (Classical.em (a0 < 0)) (fun c2 => ?p2_) (fun c2 => ?n2_)
 case' p2_ =>
  rw [if_pos c2] at H
  have c2b0 : decide (a0 < 0) = true := decide_eq_true c2
  clear c2
 case' n2_ =>
  rw [if_neg c2] at H
  have c2b0 : decide (a0 < 0) = false := decide_eq_false c2
  clear c2
 all_goals
  obtain rfl := Option.some.inj H
  go_enter Try.func33, Try.ntmps33
  go_wp2
  go_ret
  exact ⟨by first | rfl | (simp [errW_none, errW_some] <;> rfl) | (simp [*, errW_none, errW_some] <;> rfl), by repeat (first | (with_reducible first | exact HB.out | apply below_alloc | apply pw_below_drewN | apply below_drew1) | exact HB.out)⟩

/-! ### skywaykeep1_ProbeSafe: function 10 -/
mutual
def skywaykeep1_ProbeSafe.j0 : Nat → Int → Int → Bool → Bool → Int → Int → Int → Int → Int → Int → Int → Int → Int → Int → Int → Int → Int → Int → Int → Int → Int → Int → Option (Bool)
  | 0, _, _, _, _, _, _, _, _, _, _, _, _, _, _, _, _, _, _, _, _, _, _ => none
  | k + 1, x5, x6, x15, x35, x271000, x271001, x271002, x271003, x271004, x271005, x272000, x272001, x272002, x272003, x272004, x272005, x273000, x273001, x274000, x274001, x275000, x275001 => if x35 = true then (some (!x15)) else ((tube_Has.f k (([(⟨(⟨x271000, (⟨x271001, x271002⟩ : S26), x271003⟩ : S28), x271004, x271005⟩ : S30)] : List (S30))) x271000 x274000 x274001 x5).bind fun bt281 => ((tube_Has.f k (([(⟨(⟨x272000, (⟨x272001, x272002⟩ : S26), x272003⟩ : S28), x272004, x272005⟩ : S30)] : List (S30))) x272000 x275000 x275001 x6).bind fun bt286 => (if bt281.2 = 0 then (if bt286.2 = 0 then (if bt281.1 = true then (skywaykeep1_ProbeSafe.j1 k x5 x6 (!bt286.1) x273000 x273001 x274000 x274001 x275000 x275001) else (skywaykeep1_ProbeSafe.j1 k x5 x6 true x273000 x273001 x274000 x274001 x275000 x275001)) else (skywaykeep1_ProbeSafe.j1 k x5 x6 true x273000 x273001 x274000 x274001 x275000 x275001)) else (skywaykeep1_ProbeSafe.j1 k x5 x6 true x273000 x273001 x274000 x274001 x275000 x275001))))
def skywaykeep1_ProbeSafe.j1 : Nat → Int → Int → Bool → Int → Int → Int → Int → Int → Int → Option (Bool)
  | 0, _, _, _, _, _, _, _, _, _ => none
  | k + 1, x5, x6, x73, x273000, x273001, x274000, x274001, x275000, x275001 => if x73 = true then (some true) else ((plane_Square.f x274000 x274001 x275000 x275001).bind fun t288 => (if t288 ≥ (wrap64 (x273000 * x273000)) then (some true) else ((skywayref1_Abs.f (wrap64 (x5 - x6))).bind fun t289 => (some (decide (t289 ≥ x273001))))))
end
def skywaykeep1_ProbeSafe.f (k : Nat) (a0_0 : Int) (a0_1 : Int) (a0_2 : Int) (a0_3 : Int) (a0_4 : Int) (a0_5 : Int) (a1_0 : Int) (a1_1 : Int) (a1_2 : Int) (a1_3 : Int) (a1_4 : Int) (a1_5 : Int) (a2_0 : Int) (a2_1 : Int) (a3_0 : Int) (a3_1 : Int) (a4_0 : Int) (a4_1 : Int) (a5 : Int) (a6 : Int) : Option (Bool) := (skywaykeep1_probeWorks.f k).bind fun t275 => (if t275 = true then ((probe_Separated.f k a0_0 a0_1 a0_2 a0_3 a0_4 a0_5 a1_0 a1_1 a1_2 a1_3 a1_4 a1_5 a2_0 a2_1).bind fun bt276 => (if bt276.2 = 0 then (skywaykeep1_ProbeSafe.j0 k a5 a6 bt276.1 (!bt276.1) a0_0 a0_1 a0_2 a0_3 a0_4 a0_5 a1_0 a1_1 a1_2 a1_3 a1_4 a1_5 a2_0 a2_1 a3_0 a3_1 a4_0 a4_1) else (skywaykeep1_ProbeSafe.j0 k a5 a6 bt276.1 true a0_0 a0_1 a0_2 a0_3 a0_4 a0_5 a1_0 a1_1 a1_2 a1_3 a1_4 a1_5 a2_0 a2_1 a3_0 a3_1 a4_0 a4_1))) else (some false))
theorem skywaykeep1_ProbeSafe.mono_l : ∀ k, (∀ y0 y1 y2 y3 y4 y5 y6 y7 y8 y9 y10 y11 y12 y13 y14 y15 y16 y17 y18 y19 y20 y21, LeO (skywaykeep1_ProbeSafe.j0 k y0 y1 y2 y3 y4 y5 y6 y7 y8 y9 y10 y11 y12 y13 y14 y15 y16 y17 y18 y19 y20 y21) (skywaykeep1_ProbeSafe.j0 (k + 1) y0 y1 y2 y3 y4 y5 y6 y7 y8 y9 y10 y11 y12 y13 y14 y15 y16 y17 y18 y19 y20 y21)) ∧ (∀ y0 y1 y2 y3 y4 y5 y6 y7 y8, LeO (skywaykeep1_ProbeSafe.j1 k y0 y1 y2 y3 y4 y5 y6 y7 y8) (skywaykeep1_ProbeSafe.j1 (k + 1) y0 y1 y2 y3 y4 y5 y6 y7 y8))
  | 0 => ⟨fun _ _ _ _ _ _ _ _ _ _ _ _ _ _ _ _ _ _ _ _ _ _ r h => by simp [skywaykeep1_ProbeSafe.j0] at h, fun _ _ _ _ _ _ _ _ _ r h => by simp [skywaykeep1_ProbeSafe.j1] at h⟩
  | k + 1 => by
    obtain ⟨ih0, ih1⟩ := skywaykeep1_ProbeSafe.mono_l k
    refine ⟨?_, ?_⟩
    · intro y0 y1 y2 y3 y4 y5 y6 y7 y8 y9 y10 y11 y12 y13 y14 y15 y16 y17 y18 y19 y20 y21
      unfold skywaykeep1_ProbeSafe.j0
      repeat' first
      | (with_reducible exact ih0 _ _ _ _ _ _ _ _ _ _ _ _ _ _ _ _ _ _ _ _ _ _)
      | (with_reducible exact ih1 _ _ _ _ _ _ _ _ _)
      | (with_reducible exact probe_Separated.mono _ _ _ _ _ _ _ _ _ _ _ _ _ _ _)
      | (with_reducible exact skywaykeep1_probeWorks.mono _)
      | (with_reducible exact tube_Has.mono _ _ _ _ _ _)
      | (with_reducible exact LeO.refl _)
      | (with_reducible exact LeO.none _)
      | (with_reducible refine LeO.ite ?_ ?_)
      | (with_reducible refine LeO.bind ?_ (fun _ => ?_))
      | exact ih0 _ _ _ _ _ _ _ _ _ _ _ _ _ _ _ _ _ _ _ _ _ _
      | exact ih1 _ _ _ _ _ _ _ _ _
      | exact probe_Separated.mono _ _ _ _ _ _ _ _ _ _ _ _ _ _ _
      | exact skywaykeep1_probeWorks.mono _
      | exact tube_Has.mono _ _ _ _ _ _
      | exact LeO.none _
      | refine LeO.ite ?_ ?_
      | refine LeO.bind ?_ (fun _ => ?_)
    · intro y0 y1 y2 y3 y4 y5 y6 y7 y8
      unfold skywaykeep1_ProbeSafe.j1
      repeat' first
      | (with_reducible exact ih0 _ _ _ _ _ _ _ _ _ _ _ _ _ _ _ _ _ _ _ _ _ _)
      | (with_reducible exact ih1 _ _ _ _ _ _ _ _ _)
      | (with_reducible exact probe_Separated.mono _ _ _ _ _ _ _ _ _ _ _ _ _ _ _)
      | (with_reducible exact skywaykeep1_probeWorks.mono _)
      | (with_reducible exact tube_Has.mono _ _ _ _ _ _)
      | (with_reducible exact LeO.refl _)
      | (with_reducible exact LeO.none _)
      | (with_reducible refine LeO.ite ?_ ?_)
      | (with_reducible refine LeO.bind ?_ (fun _ => ?_))
      | exact ih0 _ _ _ _ _ _ _ _ _ _ _ _ _ _ _ _ _ _ _ _ _ _
      | exact ih1 _ _ _ _ _ _ _ _ _
      | exact probe_Separated.mono _ _ _ _ _ _ _ _ _ _ _ _ _ _ _
      | exact skywaykeep1_probeWorks.mono _
      | exact tube_Has.mono _ _ _ _ _ _
      | exact LeO.none _
      | refine LeO.ite ?_ ?_
      | refine LeO.bind ?_ (fun _ => ?_)
theorem skywaykeep1_ProbeSafe.mono : ∀ a0 a1 a2 a3 a4 a5 a6 a7 a8 a9 a10 a11 a12 a13 a14 a15 a16 a17 a18 a19 k, LeO (skywaykeep1_ProbeSafe.f k a0 a1 a2 a3 a4 a5 a6 a7 a8 a9 a10 a11 a12 a13 a14 a15 a16 a17 a18 a19) (skywaykeep1_ProbeSafe.f (k + 1) a0 a1 a2 a3 a4 a5 a6 a7 a8 a9 a10 a11 a12 a13 a14 a15 a16 a17 a18 a19) := by
  intro a0 a1 a2 a3 a4 a5 a6 a7 a8 a9 a10 a11 a12 a13 a14 a15 a16 a17 a18 a19 k
  obtain ⟨ih0, ih1⟩ := skywaykeep1_ProbeSafe.mono_l k
  unfold skywaykeep1_ProbeSafe.f
  repeat' first
      | (with_reducible exact ih0 _ _ _ _ _ _ _ _ _ _ _ _ _ _ _ _ _ _ _ _ _ _)
      | (with_reducible exact ih1 _ _ _ _ _ _ _ _ _)
      | (with_reducible exact probe_Separated.mono _ _ _ _ _ _ _ _ _ _ _ _ _ _ _)
      | (with_reducible exact skywaykeep1_probeWorks.mono _)
      | (with_reducible exact tube_Has.mono _ _ _ _ _ _)
      | (with_reducible exact LeO.refl _)
      | (with_reducible exact LeO.none _)
      | (with_reducible refine LeO.ite ?_ ?_)
      | (with_reducible refine LeO.bind ?_ (fun _ => ?_))
      | exact ih0 _ _ _ _ _ _ _ _ _ _ _ _ _ _ _ _ _ _ _ _ _ _
      | exact ih1 _ _ _ _ _ _ _ _ _
      | exact probe_Separated.mono _ _ _ _ _ _ _ _ _ _ _ _ _ _ _
      | exact skywaykeep1_probeWorks.mono _
      | exact tube_Has.mono _ _ _ _ _ _
      | exact LeO.none _
      | refine LeO.ite ?_ ?_
      | refine LeO.bind ?_ (fun _ => ?_)
def skywaykeep1_ProbeSafe.T10 : Bool × List (List Nat × List Nat) := (true, [([], []), ([], []), ([0, 1], [0, 1]), ([], []), ([3], [3]), ([], []), ([5], [5]), ([4, 6], [4, 6]), ([2, 7], [2, 7]), ([8, 2], [8]), ([9], [9]), ([9], [9]), ([10, 11, 9], [9, 10, 11]), ([12, 9, 9], [9, 12]), ([9], [9]), ([14, 9], [9, 14]), ([13, 15, 9], [9, 13, 15]), ([9, 16], [9, 16]), ([17, 13, 0, 1, 2, 3, 4, 5, 6, 7, 8, 9, 10, 11, 12, 13, 14, 15, 16, 17], [17])])
def skywaykeep1_ProbeSafe.B10 : List Nat := [0, 0, 3, 0, 8, 0, 32, 120, 255, 511, 1023, 1023, 4095, 8191, 1023, 17407, 65535, 131071, 262143]
theorem skywaykeep1_ProbeSafe.tab10 : rtab .any (opsOf Try.f10 10) = skywaykeep1_ProbeSafe.T10 := by kernel_rfl
theorem skywaykeep1_ProbeSafe.bits10 : waitsOk skywaykeep1_ProbeSafe.T10.2 skywaykeep1_ProbeSafe.B10 = true := by kernel_rfl
set_option maxHeartbeats 8000000 in
set_option maxRecDepth 100000 in
theorem skywaykeep1_ProbeSafe.calls (k : Nat) (a0_0 : Int) (a0_1 : Int) (a0_2 : Int) (a0_3 : Int) (a0_4 : Int) (a0_5 : Int) (a1_0 : Int) (a1_1 : Int) (a1_2 : Int) (a1_3 : Int) (a1_4 : Int) (a1_5 : Int) (a2_0 : Int) (a2_1 : Int) (a3_0 : Int) (a3_1 : Int) (a4_0 : Int) (a4_1 : Int) (a5 : Int) (a6 : Int) (r : Bool) (w : World) (h : skywaykeep1_ProbeSafe.f k a0_0 a0_1 a0_2 a0_3 a0_4 a0_5 a1_0 a1_1 a1_2 a1_3 a1_4 a1_5 a2_0 a2_1 a3_0 a3_1 a4_0 a4_1 a5 a6 = some r) :
    Calls Try.prog 10 #[.agg #[.int .i64 a0_0, .int .i64 a0_1, .int .i64 a0_2, .int .i64 a0_3, .int .i64 a0_4, .int .i64 a0_5], .agg #[.int .i64 a1_0, .int .i64 a1_1, .int .i64 a1_2, .int .i64 a1_3, .int .i64 a1_4, .int .i64 a1_5], .agg #[.int .i64 a2_0, .int .i64 a2_1], .agg #[.int .i64 a3_0, .int .i64 a3_1], .agg #[.int .i64 a4_0, .int .i64 a4_1], .int .i64 a5, .int .i64 a6] w fun e w' => e = .returned (.bool r) ∧ Below w.heap.size w w' := by
 have hu30 := Try.underlying30
 have hu61 := Try.underlying61
 have hu26 := Try.underlying26
 have HB := Aside0.mk (Below.refl w.heap.size w)
 have H : ((skywaykeep1_probeWorks.f k).bind fun t275 => (if t275 = true then ((probe_Separated.f k a0_0 a0_1 a0_2 a0_3 a0_4 a0_5 a1_0 a1_1 a1_2 a1_3 a1_4 a1_5 a2_0 a2_1).bind fun bt276 => (if bt276.2 = 0 then (skywaykeep1_ProbeSafe.j0 k a5 a6 bt276.1 (!bt276.1) a0_0 a0_1 a0_2 a0_3 a0_4 a0_5 a1_0 a1_1 a1_2 a1_3 a1_4 a1_5 a2_0 a2_1 a3_0 a3_1 a4_0 a4_1) else (skywaykeep1_ProbeSafe.j0 k a5 a6 bt276.1 true a0_0 a0_1 a0_2 a0_3 a0_4 a0_5 a1_0 a1_1 a1_2 a1_3 a1_4 a1_5 a2_0 a2_1 a3_0 a3_1 a4_0 a4_1))) else (some false))) = some r := h
 clear h
 replace H := Option.bind_eq_some_iff.mp H
 obtain ⟨t275, A80, H⟩ := H
 replace H : (if t275 = true then ((probe_Separated.f k a0_0 a0_1 a0_2 a0_3 a0_4 a0_5 a1_0 a1_1 a1_2 a1_3 a1_4 a1_5 a2_0 a2_1).bind fun bt276 => (if bt276.2 = 0 then (skywaykeep1_ProbeSafe.j0 k a5 a6 bt276.1 (!bt276.1) a0_0 a0_1 a0_2 a0_3 a0_4 a0_5 a1_0 a1_1 a1_2 a1_3 a1_4 a1_5 a2_0 a2_1 a3_0 a3_1 a4_0 a4_1) else (skywaykeep1_ProbeSafe.j0 k a5 a6 bt276.1 true a0_0 a0_1 a0_2 a0_3 a0_4 a0_5 a1_0 a1_1 a1_2 a1_3 a1_4 a1_5 a2_0 a2_1 a3_0 a3_1 a4_0 a4_1))) else (some false)) = some r := H
 have A8 := Aside0.mk A80
 clear A80
 by_cases c9 : t275 = true
 · subst c9
   have H1 : ((probe_Separated.f k a0_0 a0_1 a0_2 a0_3 a0_4 a0_5 a1_0 a1_1 a1_2 a1_3 a1_4 a1_5 a2_0 a2_1).bind fun bt276 => (if bt276.2 = 0 then (skywaykeep1_ProbeSafe.j0 k a5 a6 bt276.1 (!bt276.1) a0_0 a0_1 a0_2 a0_3 a0_4 a0_5 a1_0 a1_1 a1_2 a1_3 a1_4 a1_5 a2_0 a2_1 a3_0 a3_1 a4_0 a4_1) else (skywaykeep1_ProbeSafe.j0 k a5 a6 bt276.1 true a0_0 a0_1 a0_2 a0_3 a0_4 a0_5 a1_0 a1_1 a1_2 a1_3 a1_4 a1_5 a2_0 a2_1 a3_0 a3_1 a4_0 a4_1))) = some r := by rw [if_pos rfl] at H; exact H
   clear H
   have H := H1
   clear H1
   replace H := Option.bind_eq_some_iff.mp H
   obtain ⟨⟨t276, t277⟩, A100, H⟩ := H
   replace H : (if t277 = 0 then (skywaykeep1_ProbeSafe.j0 k a5 a6 t276 (!t276) a0_0 a0_1 a0_2 a0_3 a0_4 a0_5 a1_0 a1_1 a1_2 a1_3 a1_4 a1_5 a2_0 a2_1 a3_0 a3_1 a4_0 a4_1) else (skywaykeep1_ProbeSafe.j0 k a5 a6 t276 true a0_0 a0_1 a0_2 a0_3 a0_4 a0_5 a1_0 a1_1 a1_2 a1_3 a1_4 a1_5 a2_0 a2_1 a3_0 a3_1 a4_0 a4_1)) = some r := H
   have A10 := Aside0.mk A100
   clear A100
   have HC11 := Aside0.mk H
   clear H
   go_enter Try.func10, Try.ntmps10
   go_upto_region 4 with (first | ((with_reducible refine gate_dst (N := 7) rfl ?_); refine box_event ?hg (N := 7) ?hd (cs := #[.int .i64 a0_0, .int .i64 a0_1, .int .i64 a0_2, .int .i64 a0_3, .int .i64 a0_4, .int .i64 a0_5]) (t := 30) ?hr ?_; (case hd => rfl); (case hg => rfl); (case hr => first | (go_simp; done) | (go_simp; rfl)); intro gb270 hg wx11aa1 hbox hb; have n0_ := Aside0.mk (below_step (by repeat (first | (with_reducible first | exact HB.out | apply below_alloc | apply pw_below_drewN | apply below_drew1) | exact HB.out)) hb); have n1_ := Aside0.mk (hbox); have n2_ := Aside0.mk ((by rw [hg]; exact (below_size (by repeat (first | (with_reducible first | exact HB.out | apply below_alloc | apply pw_below_drewN | apply below_drew1) | exact HB.out))) : w.heap.size ≤ gb270)); have n3_ := Aside0.mk ((by rw [hg]; exact (below_size (by repeat (first | (with_reducible first | exact HB.out | apply below_alloc | apply pw_below_drewN | apply below_drew1) | exact HB.out))) : w.heap.size ≤ gb270)); clear HB; have HB := n0_; have BK270 := n1_; have GW270 := n2_; have GE270 := n3_; clear n0_ n1_ n2_ n3_; clear hb hbox hg) | ((with_reducible refine gate_dst (N := 8) rfl ?_); refine box_event ?hg (N := 8) ?hd (cs := #[.int .i64 a1_0, .int .i64 a1_1, .int .i64 a1_2, .int .i64 a1_3, .int .i64 a1_4, .int .i64 a1_5]) (t := 30) ?hr ?_; (case hd => rfl); (case hg => rfl); (case hr => first | (go_simp; done) | (go_simp; rfl)); intro gb271 hg wx07ff1 hbox hb; have n0_ := Aside0.mk (blk_below (g := gb270) (o := .cells #[.int .i64 a0_0, .int .i64 a0_1, .int .i64 a0_2, .int .i64 a0_3, .int .i64 a0_4, .int .i64 a0_5] 30 (0, 0)) (by (with_reducible repeat (first | refine blk_drewN ?_ _ | refine blk_drew ?_ | refine blk_alloc ?_ _)); exact BK270.out) hb); have n1_ := Aside0.mk (below_step (by repeat (first | (with_reducible first | exact HB.out | apply below_alloc | apply pw_below_drewN | apply below_drew1 | refine below_set ?_ GE270.out) | exact HB.out)) hb); have n2_ := Aside0.mk (hbox); have n3_ := Aside0.mk ((by rw [hg]; exact (below_size (by repeat (first | (with_reducible first | exact HB.out | apply below_alloc | apply pw_below_drewN | apply below_drew1 | refine below_set ?_ GE270.out) | exact HB.out))) : w.heap.size ≤ gb271)); have n4_ := Aside0.mk ((by rw [hg]; exact (below_size (by repeat (first | (with_reducible first | exact HB.out | apply below_alloc | apply pw_below_drewN | apply below_drew1 | refine below_set ?_ GE270.out) | exact HB.out))) : w.heap.size ≤ gb271)); have n5_ := Aside0.mk ((by rw [hg]; exact Nat.ne_of_lt (blk_lt (g := gb270) (o := .cells #[.int .i64 a0_0, .int .i64 a0_1, .int .i64 a0_2, .int .i64 a0_3, .int .i64 a0_4, .int .i64 a0_5] 30 (0, 0)) (by (with_reducible repeat (first | refine blk_drewN ?_ _ | refine blk_drew ?_ | refine blk_alloc ?_ _)); exact BK270.out)) : gb270 ≠ gb271)); have n6_ := Aside0.mk ((by rw [hg]; exact Nat.ne_of_gt (blk_lt (g := gb270) (o := .cells #[.int .i64 a0_0, .int .i64 a0_1, .int .i64 a0_2, .int .i64 a0_3, .int .i64 a0_4, .int .i64 a0_5] 30 (0, 0)) (by (with_reducible repeat (first | refine blk_drewN ?_ _ | refine blk_drew ?_ | refine blk_alloc ?_ _)); exact BK270.out)) : gb271 ≠ gb270)); clear BK270; clear HB; have BK270 := n0_; have HB := n1_; have BK271 := n2_; have GW271 := n3_; have GE271 := n4_; have NB270_271 := n5_; have NB271_270 := n6_; clear n0_ n1_ n2_ n3_ n4_ n5_ n6_; clear hb hbox hg) | ((with_reducible refine gate_dst (N := 9) rfl ?_); refine box_event ?hg (N := 9) ?hd (cs := #[.int .i64 a2_0, .int .i64 a2_1]) (t := 61) ?hr ?_; (case hd => rfl); (case hg => rfl); (case hr => first | (go_simp; done) | (go_simp; rfl)); intro gb272 hg wx4c9c1 hbox hb; have n0_ := Aside0.mk (blk_below (g := gb270) (o := .cells #[.int .i64 a0_0, .int .i64 a0_1, .int .i64 a0_2, .int .i64 a0_3, .int .i64 a0_4, .int .i64 a0_5] 30 (0, 0)) (by (with_reducible repeat (first | refine blk_drewN ?_ _ | refine blk_drew ?_ | refine blk_alloc ?_ _)); exact BK270.out) hb); have n1_ := Aside0.mk (blk_below (g := gb271) (o := .cells #[.int .i64 a1_0, .int .i64 a1_1, .int .i64 a1_2, .int .i64 a1_3, .int .i64 a1_4, .int .i64 a1_5] 30 (0, 0)) (by (with_reducible repeat (first | refine blk_drewN ?_ _ | refine blk_drew ?_ | refine blk_alloc ?_ _)); exact BK271.out) hb); have n2_ := Aside0.mk (below_step (by repeat (first | (with_reducible first | exact HB.out | apply below_alloc | apply pw_below_drewN | apply below_drew1 | refine below_set ?_ GE270.out | refine below_set ?_ GE271.out) | exact HB.out)) hb); have n3_ := Aside0.mk (hbox); have n4_ := Aside0.mk ((by rw [hg]; exact (below_size (by repeat (first | (with_reducible first | exact HB.out | apply below_alloc | apply pw_below_drewN | apply below_drew1 | refine below_set ?_ GE270.out | refine below_set ?_ GE271.out) | exact HB.out))) : w.heap.size ≤ gb272)); have n5_ := Aside0.mk ((by rw [hg]; exact (below_size (by repeat (first | (with_reducible first | exact HB.out | apply below_alloc | apply pw_below_drewN | apply below_drew1 | refine below_set ?_ GE270.out | refine below_set ?_ GE271.out) | exact HB.out))) : w.heap.size ≤ gb272)); have n6_ := Aside0.mk ((by rw [hg]; exact Nat.ne_of_lt (blk_lt (g := gb270) (o := .cells #[.int .i64 a0_0, .int .i64 a0_1, .int .i64 a0_2, .int .i64 a0_3, .int .i64 a0_4, .int .i64 a0_5] 30 (0, 0)) (by (with_reducible repeat (first | refine blk_drewN ?_ _ | refine blk_drew ?_ | refine blk_alloc ?_ _)); exact BK270.out)) : gb270 ≠ gb272)); have n7_ := Aside0.mk ((by rw [hg]; exact Nat.ne_of_gt (blk_lt (g := gb270) (o := .cells #[.int .i64 a0_0, .int .i64 a0_1, .int .i64 a0_2, .int .i64 a0_3, .int .i64 a0_4, .int .i64 a0_5] 30 (0, 0)) (by (with_reducible repeat (first | refine blk_drewN ?_ _ | refine blk_drew ?_ | refine blk_alloc ?_ _)); exact BK270.out)) : gb272 ≠ gb270)); have n8_ := Aside0.mk ((by rw [hg]; exact Nat.ne_of_lt (blk_lt (g := gb271) (o := .cells #[.int .i64 a1_0, .int .i64 a1_1, .int .i64 a1_2, .int .i64 a1_3, .int .i64 a1_4, .int .i64 a1_5] 30 (0, 0)) (by (with_reducible repeat (first | refine blk_drewN ?_ _ | refine blk_drew ?_ | refine blk_alloc ?_ _)); exact BK271.out)) : gb271 ≠ gb272)); have n9_ := Aside0.mk ((by rw [hg]; exact Nat.ne_of_gt (blk_lt (g := gb271) (o := .cells #[.int .i64 a1_0, .int .i64 a1_1, .int .i64 a1_2, .int .i64 a1_3, .int .i64 a1_4, .int .i64 a1_5] 30 (0, 0)) (by (with_reducible repeat (first | refine blk_drewN ?_ _ | refine blk_drew ?_ | refine blk_alloc ?_ _)); exact BK271.out)) : gb272 ≠ gb271)); clear BK270; clear BK271; clear HB; have BK270 := n0_; have BK271 := n1_; have HB := n2_; have BK272 := n3_; have GW272 := n4_; have GE272 := n5_; have NB270_272 := n6_; have NB272_270 := n7_; have NB271_272 := n8_; have NB272_271 := n9_; clear n0_ n1_ n2_ n3_ n4_ n5_ n6_ n7_ n8_ n9_; clear hb hbox hg) | ((with_reducible refine gate_dst (N := 10) rfl ?_); refine box_event ?hg (N := 10) ?hd (cs := #[.int .i64 a3_0, .int .i64 a3_1]) (t := 26) ?hr ?_; (case hd => rfl); (case hg => rfl); (case hr => first | (go_simp; done) | (go_simp; rfl)); intro gb273 hg wxea6c1 hbox hb; have n0_ := Aside0.mk (blk_below (g := gb270) (o := .cells #[.int .i64 a0_0, .int .i64 a0_1, .int .i64 a0_2, .int .i64 a0_3, .int .i64 a0_4, .int .i64 a0_5] 30 (0, 0)) (by (with_reducible repeat (first | refine blk_drewN ?_ _ | refine blk_drew ?_ | refine blk_alloc ?_ _)); exact BK270.out) hb); have n1_ := Aside0.mk (blk_below (g := gb271) (o := .cells #[.int .i64 a1_0, .int .i64 a1_1, .int .i64 a1_2, .int .i64 a1_3, .int .i64 a1_4, .int .i64 a1_5] 30 (0, 0)) (by (with_reducible repeat (first | refine blk_drewN ?_ _ | refine blk_drew ?_ | refine blk_alloc ?_ _)); exact BK271.out) hb); have n2_ := Aside0.mk (blk_below (g := gb272) (o := .cells #[.int .i64 a2_0, .int .i64 a2_1] 61 (0, 0)) (by (with_reducible repeat (first | refine blk_drewN ?_ _ | refine blk_drew ?_ | refine blk_alloc ?_ _)); exact BK272.out) hb); have n3_ := Aside0.mk (below_step (by repeat (first | (with_reducible first | exact HB.out | apply below_alloc | apply pw_below_drewN | apply below_drew1 | refine below_set ?_ GE270.out | refine below_set ?_ GE271.out | refine below_set ?_ GE272.out) | exact HB.out)) hb); have n4_ := Aside0.mk (hbox); have n5_ := Aside0.mk ((by rw [hg]; exact (below_size (by repeat (first | (with_reducible first | exact HB.out | apply below_alloc | apply pw_below_drewN | apply below_drew1 | refine below_set ?_ GE270.out | refine below_set ?_ GE271.out | refine below_set ?_ GE272.out) | exact HB.out))) : w.heap.size ≤ gb273)); have n6_ := Aside0.mk ((by rw [hg]; exact (below_size (by repeat (first | (with_reducible first | exact HB.out | apply below_alloc | apply pw_below_drewN | apply below_drew1 | refine below_set ?_ GE270.out | refine below_set ?_ GE271.out | refine below_set ?_ GE272.out) | exact HB.out))) : w.heap.size ≤ gb273)); have n7_ := Aside0.mk ((by rw [hg]; exact Nat.ne_of_lt (blk_lt (g := gb270) (o := .cells #[.int .i64 a0_0, .int .i64 a0_1, .int .i64 a0_2, .int .i64 a0_3, .int .i64 a0_4, .int .i64 a0_5] 30 (0, 0)) (by (with_reducible repeat (first | refine blk_drewN ?_ _ | refine blk_drew ?_ | refine blk_alloc ?_ _)); exact BK270.out)) : gb270 ≠ gb273)); have n8_ := Aside0.mk ((by rw [hg]; exact Nat.ne_of_gt (blk_lt (g := gb270) (o := .cells #[.int .i64 a0_0, .int .i64 a0_1, .int .i64 a0_2, .int .i64 a0_3, .int .i64 a0_4, .int .i64 a0_5] 30 (0, 0)) (by (with_reducible repeat (first | refine blk_drewN ?_ _ | refine blk_drew ?_ | refine blk_alloc ?_ _)); exact BK270.out)) : gb273 ≠ gb270)); have n9_ := Aside0.mk ((by rw [hg]; exact Nat.ne_of_lt (blk_lt (g := gb271) (o := .cells #[.int .i64 a1_0, .int .i64 a1_1, .int .i64 a1_2, .int .i64 a1_3, .int .i64 a1_4, .int .i64 a1_5] 30 (0, 0)) (by (with_reducible repeat (first | refine blk_drewN ?_ _ | refine blk_drew ?_ | refine blk_alloc ?_ _)); exact BK271.out)) : gb271 ≠ gb273)); have n10_ := Aside0.mk ((by rw [hg]; exact Nat.ne_of_gt (blk_lt (g := gb271) (o := .cells #[.int .i64 a1_0, .int .i64 a1_1, .int .i64 a1_2, .int .i64 a1_3, .int .i64 a1_4, .int .i64 a1_5] 30 (0, 0)) (by (with_reducible repeat (first | refine blk_drewN ?_ _ | refine blk_drew ?_ | refine blk_alloc ?_ _)); exact BK271.out)) : gb273 ≠ gb271)); have n11_ := Aside0.mk ((by rw [hg]; exact Nat.ne_of_lt (blk_lt (g := gb272) (o := .cells #[.int .i64 a2_0, .int .i64 a2_1] 61 (0, 0)) (by (with_reducible repeat (first | refine blk_drewN ?_ _ | refine blk_drew ?_ | refine blk_alloc ?_ _)); exact BK272.out)) : gb272 ≠ gb273)); have n12_ := Aside0.mk ((by rw [hg]; exact Nat.ne_of_gt (blk_lt (g := gb272) (o := .cells #[.int .i64 a2_0, .int .i64 a2_1] 61 (0, 0)) (by (with_reducible repeat (first | refine blk_drewN ?_ _ | refine blk_drew ?_ | refine blk_alloc ?_ _)); exact BK272.out)) : gb273 ≠ gb272)); clear BK270; clear BK271; clear BK272; clear HB; have BK270 := n0_; have BK271 := n1_; have BK272 := n2_; have HB := n3_; have BK273 := n4_; have GW273 := n5_; have GE273 := n6_; have NB270_273 := n7_; have NB273_270 := n8_; have NB271_273 := n9_; have NB273_271 := n10_; have NB272_273 := n11_; have NB273_272 := n12_; clear n0_ n1_ n2_ n3_ n4_ n5_ n6_ n7_ n8_ n9_ n10_ n11_ n12_; clear hb hbox hg) | ((with_reducible refine gate_dst (N := 11) rfl ?_); refine box_event ?hg (N := 11) ?hd (cs := #[.int .i64 a4_0, .int .i64 a4_1]) (t := 26) ?hr ?_; (case hd => rfl); (case hg => rfl); (case hr => first | (go_simp; done) | (go_simp; rfl)); intro gb274 hg wxa3611 hbox hb; have n0_ := Aside0.mk (blk_below (g := gb270) (o := .cells #[.int .i64 a0_0, .int .i64 a0_1, .int .i64 a0_2, .int .i64 a0_3, .int .i64 a0_4, .int .i64 a0_5] 30 (0, 0)) (by (with_reducible repeat (first | refine blk_drewN ?_ _ | refine blk_drew ?_ | refine blk_alloc ?_ _)); exact BK270.out) hb); have n1_ := Aside0.mk (blk_below (g := gb271) (o := .cells #[.int .i64 a1_0, .int .i64 a1_1, .int .i64 a1_2, .int .i64 a1_3, .int .i64 a1_4, .int .i64 a1_5] 30 (0, 0)) (by (with_reducible repeat (first | refine blk_drewN ?_ _ | refine blk_drew ?_ | refine blk_alloc ?_ _)); exact BK271.out) hb); have n2_ := Aside0.mk (blk_below (g := gb272) (o := .cells #[.int .i64 a2_0, .int .i64 a2_1] 61 (0, 0)) (by (with_reducible repeat (first | refine blk_drewN ?_ _ | refine blk_drew ?_ | refine blk_alloc ?_ _)); exact BK272.out) hb); have n3_ := Aside0.mk (blk_below (g := gb273) (o := .cells #[.int .i64 a3_0, .int .i64 a3_1] 26 (0, 0)) (by (with_reducible repeat (first | refine blk_drewN ?_ _ | refine blk_drew ?_ | refine blk_alloc ?_ _)); exact BK273.out) hb); have n4_ := Aside0.mk (below_step (by repeat (first | (with_reducible first | exact HB.out | apply below_alloc | apply pw_below_drewN | apply below_drew1 | refine below_set ?_ GE270.out | refine below_set ?_ GE271.out | refine below_set ?_ GE272.out | refine below_set ?_ GE273.out) | exact HB.out)) hb); have n5_ := Aside0.mk (hbox); have n6_ := Aside0.mk ((by rw [hg]; exact (below_size (by repeat (first | (with_reducible first | exact HB.out | apply below_alloc | apply pw_below_drewN | apply below_drew1 | refine below_set ?_ GE270.out | refine below_set ?_ GE271.out | refine below_set ?_ GE272.out | refine below_set ?_ GE273.out) | exact HB.out))) : w.heap.size ≤ gb274)); have n7_ := Aside0.mk ((by rw [hg]; exact (below_size (by repeat (first | (with_reducible first | exact HB.out | apply below_alloc | apply pw_below_drewN | apply below_drew1 | refine below_set ?_ GE270.out | refine below_set ?_ GE271.out | refine below_set ?_ GE272.out | refine below_set ?_ GE273.out) | exact HB.out))) : w.heap.size ≤ gb274)); have n8_ := Aside0.mk ((by rw [hg]; exact Nat.ne_of_lt (blk_lt (g := gb270) (o := .cells #[.int .i64 a0_0, .int .i64 a0_1, .int .i64 a0_2, .int .i64 a0_3, .int .i64 a0_4, .int .i64 a0_5] 30 (0, 0)) (by (with_reducible repeat (first | refine blk_drewN ?_ _ | refine blk_drew ?_ | refine blk_alloc ?_ _)); exact BK270.out)) : gb270 ≠ gb274)); have n9_ := Aside0.mk ((by rw [hg]; exact Nat.ne_of_gt (blk_lt (g := gb270) (o := .cells #[.int .i64 a0_0, .int .i64 a0_1, .int .i64 a0_2, .int .i64 a0_3, .int .i64 a0_4, .int .i64 a0_5] 30 (0, 0)) (by (with_reducible repeat (first | refine blk_drewN ?_ _ | refine blk_drew ?_ | refine blk_alloc ?_ _)); exact BK270.out)) : gb274 ≠ gb270)); have n10_ := Aside0.mk ((by rw [hg]; exact Nat.ne_of_lt (blk_lt (g := gb271) (o := .cells #[.int .i64 a1_0, .int .i64 a1_1, .int .i64 a1_2, .int .i64 a1_3, .int .i64 a1_4, .int .i64 a1_5] 30 (0, 0)) (by (with_reducible repeat (first | refine blk_drewN ?_ _ | refine blk_drew ?_ | refine blk_alloc ?_ _)); exact BK271.out)) : gb271 ≠ gb274)); have n11_ := Aside0.mk ((by rw [hg]; exact Nat.ne_of_gt (blk_lt (g := gb271) (o := .cells #[.int .i64 a1_0, .int .i64 a1_1, .int .i64 a1_2, .int .i64 a1_3, .int .i64 a1_4, .int .i64 a1_5] 30 (0, 0)) (by (with_reducible repeat (first | refine blk_drewN ?_ _ | refine blk_drew ?_ | refine blk_alloc ?_ _)); exact BK271.out)) : gb274 ≠ gb271)); have n12_ := Aside0.mk ((by rw [hg]; exact Nat.ne_of_lt (blk_lt (g := gb272) (o := .cells #[.int .i64 a2_0, .int .i64 a2_1] 61 (0, 0)) (by (with_reducible repeat (first | refine blk_drewN ?_ _ | refine blk_drew ?_ | refine blk_alloc ?_ _)); exact BK272.out)) : gb272 ≠ gb274)); have n13_ := Aside0.mk ((by rw [hg]; exact Nat.ne_of_gt (blk_lt (g := gb272) (o := .cells #[.int .i64 a2_0, .int .i64 a2_1] 61 (0, 0)) (by (with_reducible repeat (first | refine blk_drewN ?_ _ | refine blk_drew ?_ | refine blk_alloc ?_ _)); exact BK272.out)) : gb274 ≠ gb272)); have n14_ := Aside0.mk ((by rw [hg]; exact Nat.ne_of_lt (blk_lt (g := gb273) (o := .cells #[.int .i64 a3_0, .int .i64 a3_1] 26 (0, 0)) (by (with_reducible repeat (first | refine blk_drewN ?_ _ | refine blk_drew ?_ | refine blk_alloc ?_ _)); exact BK273.out)) : gb273 ≠ gb274)); have n15_ := Aside0.mk ((by rw [hg]; exact Nat.ne_of_gt (blk_lt (g := gb273) (o := .cells #[.int .i64 a3_0, .int .i64 a3_1] 26 (0, 0)) (by (with_reducible repeat (first | refine blk_drewN ?_ _ | refine blk_drew ?_ | refine blk_alloc ?_ _)); exact BK273.out)) : gb274 ≠ gb273)); clear BK270; clear BK271; clear BK272; clear BK273; clear HB; have BK270 := n0_; have BK271 := n1_; have BK272 := n2_; have BK273 := n3_; have HB := n4_; have BK274 := n5_; have GW274 := n6_; have GE274 := n7_; have NB270_274 := n8_; have NB274_270 := n9_; have NB271_274 := n10_; have NB274_271 := n11_; have NB272_274 := n12_; have NB274_272 := n13_; have NB273_274 := n14_; have NB274_273 := n15_; clear n0_ n1_ n2_ n3_ n4_ n5_ n6_ n7_ n8_ n9_ n10_ n11_ n12_ n13_ n14_ n15_; clear hb hbox hg) | ((with_reducible refine gate_callee (f := 30) rfl ?_); refine goesL_ (some 21) rfl rfl Try.func30 (by kernel_rfl) rfl #[] rfl (by (try simp only [List.map_toArray, List.map_cons, List.map_nil]); first | done | rfl | (simp only [List.length_drop, List.length_take]; rfl)) ?_; (with_reducible refine (skywaykeep1_probeWorks.calls k  true _ A8.out).mono ?_); rintro e wx34721 ⟨rfl, hb⟩; refine ⟨_, rfl, ?_⟩; have n0_ := Aside0.mk (blk_below (g := gb270) (o := .cells #[.int .i64 a0_0, .int .i64 a0_1, .int .i64 a0_2, .int .i64 a0_3, .int .i64 a0_4, .int .i64 a0_5] 30 (0, 0)) (by (with_reducible repeat (first | refine blk_drewN ?_ _ | refine blk_drew ?_ | refine blk_alloc ?_ _)); exact BK270.out) hb); have n1_ := Aside0.mk (blk_below (g := gb271) (o := .cells #[.int .i64 a1_0, .int .i64 a1_1, .int .i64 a1_2, .int .i64 a1_3, .int .i64 a1_4, .int .i64 a1_5] 30 (0, 0)) (by (with_reducible repeat (first | refine blk_drewN ?_ _ | refine blk_drew ?_ | refine blk_alloc ?_ _)); exact BK271.out) hb); have n2_ := Aside0.mk (blk_below (g := gb272) (o := .cells #[.int .i64 a2_0, .int .i64 a2_1] 61 (0, 0)) (by (with_reducible repeat (first | refine blk_drewN ?_ _ | refine blk_drew ?_ | refine blk_alloc ?_ _)); exact BK272.out) hb); have n3_ := Aside0.mk (blk_below (g := gb273) (o := .cells #[.int .i64 a3_0, .int .i64 a3_1] 26 (0, 0)) (by (with_reducible repeat (first | refine blk_drewN ?_ _ | refine blk_drew ?_ | refine blk_alloc ?_ _)); exact BK273.out) hb); have n4_ := Aside0.mk (blk_below (g := gb274) (o := .cells #[.int .i64 a4_0, .int .i64 a4_1] 26 (0, 0)) (by (with_reducible repeat (first | refine blk_drewN ?_ _ | refine blk_drew ?_ | refine blk_alloc ?_ _)); exact BK274.out) hb); have n5_ := Aside0.mk (below_step (by repeat (first | (with_reducible first | exact HB.out | apply below_alloc | apply pw_below_drewN | apply below_drew1 | refine below_set ?_ GE270.out | refine below_set ?_ GE271.out | refine below_set ?_ GE272.out | refine below_set ?_ GE273.out | refine below_set ?_ GE274.out) | exact HB.out)) hb); clear BK270; clear BK271; clear BK272; clear BK273; clear BK274; clear HB; have BK270 := n0_; have BK271 := n1_; have BK272 := n2_; have BK273 := n3_; have BK274 := n4_; have HB := n5_; clear n0_ n1_ n2_ n3_ n4_ n5_; (try clear hb); (try clear hb2); (try clear hk); (try clear hi); have hnbx34721 := NB270_271.out; have hncx34721 := NB271_270.out; have hnbx34722 := NB270_272.out; have hncx34722 := NB272_270.out; have hnbx34723 := NB270_273.out; have hncx34723 := NB273_270.out; have hnbx34724 := NB270_274.out; have hncx34724 := NB274_270.out; have hczx34721 : wx34721.cell? ⟨gb270, 0, none⟩ = some (.int .i64 a0_0) := (blk_cell BK270.out 0).trans rfl; have hczx34722 : wx34721.cell? ⟨gb270, 1, none⟩ = some (.int .i64 a0_1) := (blk_cell BK270.out 1).trans rfl; have hczx34723 : wx34721.cell? ⟨gb270, 2, none⟩ = some (.int .i64 a0_2) := (blk_cell BK270.out 2).trans rfl; have hczx34724 : wx34721.cell? ⟨gb270, 3, none⟩ = some (.int .i64 a0_3) := (blk_cell BK270.out 3).trans rfl; have hczx34725 : wx34721.cell? ⟨gb270, 4, none⟩ = some (.int .i64 a0_4) := (blk_cell BK270.out 4).trans rfl; have hczx34726 : wx34721.cell? ⟨gb270, 5, none⟩ = some (.int .i64 a0_5) := (blk_cell BK270.out 5).trans rfl; have hfzx34721 := blk_frozen BK270.out 0; have hfzx34722 := blk_frozen BK270.out 1; have hfzx34723 := blk_frozen BK270.out 2; have hfzx34724 := blk_frozen BK270.out 3; have hfzx34725 := blk_frozen BK270.out 4; have hfzx34726 := blk_frozen BK270.out 5; have hnbx34725 := NB271_272.out; have hncx34725 := NB272_271.out; have hnbx34726 := NB271_273.out; have hncx34726 := NB273_271.out; have hnbx34727 := NB271_274.out; have hncx34727 := NB274_271.out; have hczx34727 : wx34721.cell? ⟨gb271, 0, none⟩ = some (.int .i64 a1_0) := (blk_cell BK271.out 0).trans rfl; have hczx34728 : wx34721.cell? ⟨gb271, 1, none⟩ = some (.int .i64 a1_1) := (blk_cell BK271.out 1).trans rfl; have hczx34729 : wx34721.cell? ⟨gb271, 2, none⟩ = some (.int .i64 a1_2) := (blk_cell BK271.out 2).trans rfl; have hczx347210 : wx34721.cell? ⟨gb271, 3, none⟩ = some (.int .i64 a1_3) := (blk_cell BK271.out 3).trans rfl; have hczx347211 : wx34721.cell? ⟨gb271, 4, none⟩ = some (.int .i64 a1_4) := (blk_cell BK271.out 4).trans rfl; have hczx347212 : wx34721.cell? ⟨gb271, 5, none⟩ = some (.int .i64 a1_5) := (blk_cell BK271.out 5).trans rfl; have hfzx34727 := blk_frozen BK271.out 0; have hfzx34728 := blk_frozen BK271.out 1; have hfzx34729 := blk_frozen BK271.out 2; have hfzx347210 := blk_frozen BK271.out 3; have hfzx347211 := blk_frozen BK271.out 4; have hfzx347212 := blk_frozen BK271.out 5; have hnbx34728 := NB272_273.out; have hncx34728 := NB273_272.out; have hnbx34729 := NB272_274.out; have hncx34729 := NB274_272.out; have hczx347213 : wx34721.cell? ⟨gb272, 0, none⟩ = some (.int .i64 a2_0) := (blk_cell BK272.out 0).trans rfl; have hczx347214 : wx34721.cell? ⟨gb272, 1, none⟩ = some (.int .i64 a2_1) := (blk_cell BK272.out 1).trans rfl; have hfzx347213 := blk_frozen BK272.out 0; have hfzx347214 := blk_frozen BK272.out 1) | ((with_reducible refine gate_callee (f := 31) rfl ?_); refine goesL_ (some 27) rfl rfl Try.func31 (by kernel_rfl) rfl #[.agg #[.int .i64 a0_0, .int .i64 a0_1, .int .i64 a0_2, .int .i64 a0_3, .int .i64 a0_4, .int .i64 a0_5], .agg #[.int .i64 a1_0, .int .i64 a1_1, .int .i64 a1_2, .int .i64 a1_3, .int .i64 a1_4, .int .i64 a1_5], .agg #[.int .i64 a2_0, .int .i64 a2_1]] rfl (by (try simp only [List.map_toArray, List.map_cons, List.map_nil]); first | done | rfl | (simp only [List.length_drop, List.length_take]; rfl)) ?_; (with_reducible refine (probe_Separated.calls k a0_0 a0_1 a0_2 a0_3 a0_4 a0_5 a1_0 a1_1 a1_2 a1_3 a1_4 a1_5 a2_0 a2_1 t276 t277 _ A10.out).mono ?_); rintro e wxaae21 ⟨rfl, hb⟩; refine ⟨_, rfl, ?_⟩; have n0_ := Aside0.mk (blk_below (g := gb270) (o := .cells #[.int .i64 a0_0, .int .i64 a0_1, .int .i64 a0_2, .int .i64 a0_3, .int .i64 a0_4, .int .i64 a0_5] 30 (0, 0)) (by (with_reducible repeat (first | refine blk_drewN ?_ _ | refine blk_drew ?_ | refine blk_alloc ?_ _)); exact BK270.out) hb); have n1_ := Aside0.mk (blk_below (g := gb271) (o := .cells #[.int .i64 a1_0, .int .i64 a1_1, .int .i64 a1_2, .int .i64 a1_3, .int .i64 a1_4, .int .i64 a1_5] 30 (0, 0)) (by (with_reducible repeat (first | refine blk_drewN ?_ _ | refine blk_drew ?_ | refine blk_alloc ?_ _)); exact BK271.out) hb); have n2_ := Aside0.mk (blk_below (g := gb272) (o := .cells #[.int .i64 a2_0, .int .i64 a2_1] 61 (0, 0)) (by (with_reducible repeat (first | refine blk_drewN ?_ _ | refine blk_drew ?_ | refine blk_alloc ?_ _)); exact BK272.out) hb); have n3_ := Aside0.mk (blk_below (g := gb273) (o := .cells #[.int .i64 a3_0, .int .i64 a3_1] 26 (0, 0)) (by (with_reducible repeat (first | refine blk_drewN ?_ _ | refine blk_drew ?_ | refine blk_alloc ?_ _)); exact BK273.out) hb); have n4_ := Aside0.mk (blk_below (g := gb274) (o := .cells #[.int .i64 a4_0, .int .i64 a4_1] 26 (0, 0)) (by (with_reducible repeat (first | refine blk_drewN ?_ _ | refine blk_drew ?_ | refine blk_alloc ?_ _)); exact BK274.out) hb); have n5_ := Aside0.mk (below_step (by repeat (first | (with_reducible first | exact HB.out | apply below_alloc | apply pw_below_drewN | apply below_drew1 | refine below_set ?_ GE270.out | refine below_set ?_ GE271.out | refine below_set ?_ GE272.out | refine below_set ?_ GE273.out | refine below_set ?_ GE274.out) | exact HB.out)) hb); clear BK270; clear BK271; clear BK272; clear BK273; clear BK274; clear HB; have BK270 := n0_; have BK271 := n1_; have BK272 := n2_; have BK273 := n3_; have BK274 := n4_; have HB := n5_; clear n0_ n1_ n2_ n3_ n4_ n5_; (try clear hb); (try clear hb2); (try clear hk); (try clear hi)))
   (try simp only [Act.put, List.setIfInBounds_toArray, List.set_cons_zero, List.set_cons_succ])
   go_cut [35] (fun v35 wc => ∃ (kq : Nat) (x35_10 : Bool), v35 = .bool x35_10 ∧ Aside0 (skywaykeep1_ProbeSafe.j0 kq a5 a6 t276 x35_10 a0_0 a0_1 a0_2 a0_3 a0_4 a0_5 a1_0 a1_1 a1_2 a1_3 a1_4 a1_5 a2_0 a2_1 a3_0 a3_1 a4_0 a4_1 = some r) ∧ Aside0 (kq ≤ k) ∧ Aside0 (wc.heap[gb270]? = some (.cells #[.int .i64 a0_0, .int .i64 a0_1, .int .i64 a0_2, .int .i64 a0_3, .int .i64 a0_4, .int .i64 a0_5] 30 (0, 0))) ∧ Aside0 (wc.heap[gb271]? = some (.cells #[.int .i64 a1_0, .int .i64 a1_1, .int .i64 a1_2, .int .i64 a1_3, .int .i64 a1_4, .int .i64 a1_5] 30 (0, 0))) ∧ Aside0 (wc.heap[gb272]? = some (.cells #[.int .i64 a2_0, .int .i64 a2_1] 61 (0, 0))) ∧ Aside0 (wc.heap[gb273]? = some (.cells #[.int .i64 a3_0, .int .i64 a3_1] 26 (0, 0))) ∧ Aside0 (wc.heap[gb274]? = some (.cells #[.int .i64 a4_0, .int .i64 a4_1] 26 (0, 0))) ∧ Aside0 (Below w.heap.size w wc))
   case first =>
    have H := HC11.out
    clear HC11
    refine Or.elim (Classical.em (t277 = 0)) (fun c31 => ?p2_) (fun c31 => ?n2_)
    case' p2_ =>
     rw [if_pos c31] at H
     have c31b0 : (t277 == 0) = true := beq_iff_eq.mpr c31
     have c31b1 : (t277 != 0) = false := bne_eq_false_iff_eq.mpr c31
     clear c31
     (first | rw [c31b0] | (simp only [i64_w, i32_w]; rw [c31b0]) | skip)
    case' n2_ =>
     rw [if_neg c31] at H
     have c31b0 : (t277 == 0) = false := beq_eq_false_iff_ne.mpr c31
     have c31b1 : (t277 != 0) = true := bne_iff_ne.mpr c31
     (first | rw [c31b0] | (simp only [i64_w, i32_w]; rw [c31b0]) | skip)
    all_goals
     have H' := Aside0.mk H
     clear H
     go_wp2
     go_meet
     case rel => first | (exact ⟨_, (!t276), (by first | rfl | (simp; done) | (simp [*]; done)), H', ⟨by first | omega | exact Nat.le_refl _⟩, ⟨by (with_reducible repeat (first | refine blk_drewN ?_ _ | refine blk_drew ?_ | refine blk_alloc ?_ _)); exact BK270.out⟩, ⟨by (with_reducible repeat (first | refine blk_drewN ?_ _ | refine blk_drew ?_ | refine blk_alloc ?_ _)); exact BK271.out⟩, ⟨by (with_reducible repeat (first | refine blk_drewN ?_ _ | refine blk_drew ?_ | refine blk_alloc ?_ _)); exact BK272.out⟩, ⟨by (with_reducible repeat (first | refine blk_drewN ?_ _ | refine blk_drew ?_ | refine blk_alloc ?_ _)); exact BK273.out⟩, ⟨by (with_reducible repeat (first | refine blk_drewN ?_ _ | refine blk_drew ?_ | refine blk_alloc ?_ _)); exact BK274.out⟩, ⟨by repeat (first | (with_reducible first | exact HB.out | apply below_alloc | apply pw_below_drewN | apply below_drew1 | refine below_set ?_ GE270.out | refine below_set ?_ GE271.out | refine below_set ?_ GE272.out | refine below_set ?_ GE273.out | refine below_set ?_ GE274.out) | exact HB.out)⟩⟩) | (exact ⟨_, (true), (by first | rfl | (simp; done) | (simp [*]; done)), H', ⟨by first | omega | exact Nat.le_refl _⟩, ⟨by (with_reducible repeat (first | refine blk_drewN ?_ _ | refine blk_drew ?_ | refine blk_alloc ?_ _)); exact BK270.out⟩, ⟨by (with_reducible repeat (first | refine blk_drewN ?_ _ | refine blk_drew ?_ | refine blk_alloc ?_ _)); exact BK271.out⟩, ⟨by (with_reducible repeat (first | refine blk_drewN ?_ _ | refine blk_drew ?_ | refine blk_alloc ?_ _)); exact BK272.out⟩, ⟨by (with_reducible repeat (first | refine blk_drewN ?_ _ | refine blk_drew ?_ | refine blk_alloc ?_ _)); exact BK273.out⟩, ⟨by (with_reducible repeat (first | refine blk_drewN ?_ _ | refine blk_drew ?_ | refine blk_alloc ?_ _)); exact BK274.out⟩, ⟨by repeat (first | (with_reducible first | exact HB.out | apply below_alloc | apply pw_below_drewN | apply below_drew1 | refine below_set ?_ GE270.out | refine below_set ?_ GE271.out | refine below_set ?_ GE272.out | refine below_set ?_ GE273.out | refine below_set ?_ GE274.out) | exact HB.out)⟩⟩)
   case rest =>
    clear HC11
    (try clear c1); (try clear p1); (try clear c2); (try clear p2); (try clear c3); (try clear c9); (try clear c10); (try clear c18); (try clear c19); (try clear c20); (try clear c21); (try clear c23); (try clear c24); (try clear c25); (try clear c27); (try clear c28); (try clear c30); (try clear c31); (try clear c31b0); (try clear c31b1); (try clear hczx34721); (try clear hczx34722); (try clear hczx34723); (try clear hczx34724); (try clear hczx34725); (try clear hczx34726); (try clear hczx34727); (try clear hczx34728); (try clear hczx34729); (try clear hczx347210); (try clear hczx347211); (try clear hczx347212); (try clear hczx347213); (try clear hczx347214); (try clear hfzx34721); (try clear hfzx34722); (try clear hfzx34723); (try clear hfzx34724); (try clear hfzx34725); (try clear hfzx34726)
    (try clear hfzx34727); (try clear hfzx34728); (try clear hfzx34729); (try clear hfzx347210); (try clear hfzx347211); (try clear hfzx347212); (try clear hfzx347213); (try clear hfzx347214)
    obtain ⟨kq, x35_10, rfl, HA, HJ10, BK270, BK271, BK272, BK273, BK274, HB⟩ := hcut
    cases kq with
    | zero => exact absurd HA.out (by simp [skywaykeep1_ProbeSafe.j0])
    | succ kj10 =>
     have H := HA.out
     clear HA
     simp only [skywaykeep1_ProbeSafe.j0] at H
     by_cases c32 : x35_10 = true
     · subst c32
       have H1 : (some (!t276)) = some r := by rw [if_pos rfl] at H; exact H
       clear H
       have H := H1
       clear H1
       obtain rfl := Option.some.inj H
       go_wp2
       go_ret
       exact ⟨by first | rfl | (simp [errW_none, errW_some] <;> rfl) | (simp [*, errW_none, errW_some] <;> rfl), by repeat (first | (with_reducible first | exact HB.out | apply below_alloc | apply pw_below_drewN | apply below_drew1 | refine below_set ?_ GE270.out | refine below_set ?_ GE271.out | refine below_set ?_ GE272.out | refine below_set ?_ GE273.out | refine below_set ?_ GE274.out) | exact HB.out)⟩
     · replace c32 := Bool.eq_false_iff.mpr c32
       subst c32
       have H1 : ((tube_Has.f kj10 (([(⟨(⟨a0_0, (⟨a0_1, a0_2⟩ : S26), a0_3⟩ : S28), a0_4, a0_5⟩ : S30)] : List (S30))) a0_0 a3_0 a3_1 a5).bind fun bt281 => ((tube_Has.f kj10 (([(⟨(⟨a1_0, (⟨a1_1, a1_2⟩ : S26), a1_3⟩ : S28), a1_4, a1_5⟩ : S30)] : List (S30))) a1_0 a4_0 a4_1 a6).bind fun bt286 => (if bt281.2 = 0 then (if bt286.2 = 0 then (if bt281.1 = true then (skywaykeep1_ProbeSafe.j1 kj10 a5 a6 (!bt286.1) a2_0 a2_1 a3_0 a3_1 a4_0 a4_1) else (skywaykeep1_ProbeSafe.j1 kj10 a5 a6 true a2_0 a2_1 a3_0 a3_1 a4_0 a4_1)) else (skywaykeep1_ProbeSafe.j1 kj10 a5 a6 true a2_0 a2_1 a3_0 a3_1 a4_0 a4_1)) else (skywaykeep1_ProbeSafe.j1 kj10 a5 a6 true a2_0 a2_1 a3_0 a3_1 a4_0 a4_1)))) = some r := by rw [if_neg (show ¬ (false = true) by decide)] at H; exact H
       clear H
       have H := H1
       clear H1
       obtain ⟨y278, hy278⟩ : ∃ y_ : List (S30), y_ = (([(⟨(⟨a0_0, (⟨a0_1, a0_2⟩ : S26), a0_3⟩ : S28), a0_4, a0_5⟩ : S30)] : List (S30))) := ⟨_, rfl⟩
       replace H : ((tube_Has.f kj10 y278 a0_0 a3_0 a3_1 a5).bind fun bt281 => ((tube_Has.f kj10 (([(⟨(⟨a1_0, (⟨a1_1, a1_2⟩ : S26), a1_3⟩ : S28), a1_4, a1_5⟩ : S30)] : List (S30))) a1_0 a4_0 a4_1 a6).bind fun bt286 => (if bt281.2 = 0 then (if bt286.2 = 0 then (if bt281.1 = true then (skywaykeep1_ProbeSafe.j1 kj10 a5 a6 (!bt286.1) a2_0 a2_1 a3_0 a3_1 a4_0 a4_1) else (skywaykeep1_ProbeSafe.j1 kj10 a5 a6 true a2_0 a2_1 a3_0 a3_1 a4_0 a4_1)) else (skywaykeep1_ProbeSafe.j1 kj10 a5 a6 true a2_0 a2_1 a3_0 a3_1 a4_0 a4_1)) else (skywaykeep1_ProbeSafe.j1 kj10 a5 a6 true a2_0 a2_1 a3_0 a3_1 a4_0 a4_1)))) = some r := by first | (rw [hy278]; with_reducible exact H) | (have H2_ := (Option.bind_some _ _).symm.trans H; rw [hy278]; with_reducible exact H2_) | (have H2_ := (Option.bind_some _ _).symm.trans H; with_reducible exact H2_) | with_reducible exact H | (rw [hy278]; exact H) | exact H
       have Ny278 := Aside0.mk hy278
       clear hy278
       replace H := Option.bind_eq_some_iff.mp H
       obtain ⟨⟨t281, t282⟩, A330, H⟩ := H
       replace H : ((tube_Has.f kj10 (([(⟨(⟨a1_0, (⟨a1_1, a1_2⟩ : S26), a1_3⟩ : S28), a1_4, a1_5⟩ : S30)] : List (S30))) a1_0 a4_0 a4_1 a6).bind fun bt286 => (if t282 = 0 then (if bt286.2 = 0 then (if t281 = true then (skywaykeep1_ProbeSafe.j1 kj10 a5 a6 (!bt286.1) a2_0 a2_1 a3_0 a3_1 a4_0 a4_1) else (skywaykeep1_ProbeSafe.j1 kj10 a5 a6 true a2_0 a2_1 a3_0 a3_1 a4_0 a4_1)) else (skywaykeep1_ProbeSafe.j1 kj10 a5 a6 true a2_0 a2_1 a3_0 a3_1 a4_0 a4_1)) else (skywaykeep1_ProbeSafe.j1 kj10 a5 a6 true a2_0 a2_1 a3_0 a3_1 a4_0 a4_1))) = some r := H
       have A33 := Aside0.mk A330
       clear A330
       obtain ⟨y283, hy283⟩ : ∃ y_ : List (S30), y_ = (([(⟨(⟨a1_0, (⟨a1_1, a1_2⟩ : S26), a1_3⟩ : S28), a1_4, a1_5⟩ : S30)] : List (S30))) := ⟨_, rfl⟩
       replace H : ((tube_Has.f kj10 y283 a1_0 a4_0 a4_1 a6).bind fun bt286 => (if t282 = 0 then (if bt286.2 = 0 then (if t281 = true then (skywaykeep1_ProbeSafe.j1 kj10 a5 a6 (!bt286.1) a2_0 a2_1 a3_0 a3_1 a4_0 a4_1) else (skywaykeep1_ProbeSafe.j1 kj10 a5 a6 true a2_0 a2_1 a3_0 a3_1 a4_0 a4_1)) else (skywaykeep1_ProbeSafe.j1 kj10 a5 a6 true a2_0 a2_1 a3_0 a3_1 a4_0 a4_1)) else (skywaykeep1_ProbeSafe.j1 kj10 a5 a6 true a2_0 a2_1 a3_0 a3_1 a4_0 a4_1))) = some r := by first | (rw [hy283]; with_reducible exact H) | (have H2_ := (Option.bind_some _ _).symm.trans H; rw [hy283]; with_reducible exact H2_) | (have H2_ := (Option.bind_some _ _).symm.trans H; with_reducible exact H2_) | with_reducible exact H | (rw [hy283]; exact H) | exact H
       have Ny283 := Aside0.mk hy283
       clear hy283
       replace H := Option.bind_eq_some_iff.mp H
       obtain ⟨⟨t286, t287⟩, A340, H⟩ := H
       replace H : (if t282 = 0 then (if t287 = 0 then (if t281 = true then (skywaykeep1_ProbeSafe.j1 kj10 a5 a6 (!t286) a2_0 a2_1 a3_0 a3_1 a4_0 a4_1) else (skywaykeep1_ProbeSafe.j1 kj10 a5 a6 true a2_0 a2_1 a3_0 a3_1 a4_0 a4_1)) else (skywaykeep1_ProbeSafe.j1 kj10 a5 a6 true a2_0 a2_1 a3_0 a3_1 a4_0 a4_1)) else (skywaykeep1_ProbeSafe.j1 kj10 a5 a6 true a2_0 a2_1 a3_0 a3_1 a4_0 a4_1)) = some r := H
       have A34 := Aside0.mk A340
       clear A340
       have HC35 := Aside0.mk H
       clear H
       have hnbza1 := NB270_271.out
       have hncza1 := NB271_270.out
       have hnbza2 := NB270_272.out
       have hncza2 := NB272_270.out
       have hnbza3 := NB270_273.out
       have hncza3 := NB273_270.out
       have hnbza4 := NB270_274.out
       have hncza4 := NB274_270.out
       have hczza1 : wc.cell? ⟨gb270, 0, none⟩ = some (.int .i64 a0_0) := (blk_cell BK270.out 0).trans rfl
       have hczza2 : wc.cell? ⟨gb270, 1, none⟩ = some (.int .i64 a0_1) := (blk_cell BK270.out 1).trans rfl
       have hczza3 : wc.cell? ⟨gb270, 2, none⟩ = some (.int .i64 a0_2) := (blk_cell BK270.out 2).trans rfl
       have hczza4 : wc.cell? ⟨gb270, 3, none⟩ = some (.int .i64 a0_3) := (blk_cell BK270.out 3).trans rfl
       have hczza5 : wc.cell? ⟨gb270, 4, none⟩ = some (.int .i64 a0_4) := (blk_cell BK270.out 4).trans rfl
       have hczza6 : wc.cell? ⟨gb270, 5, none⟩ = some (.int .i64 a0_5) := (blk_cell BK270.out 5).trans rfl
       have hfzza1 := blk_frozen BK270.out 0
       have hfzza2 := blk_frozen BK270.out 1
       have hfzza3 := blk_frozen BK270.out 2
       have hfzza4 := blk_frozen BK270.out 3
       have hfzza5 := blk_frozen BK270.out 4
       have hfzza6 := blk_frozen BK270.out 5
       go_upto_region 8 with (first | ((with_reducible refine gate_dst (N := 40) rfl ?_); refine Kd.R_lit k30 _ 30 ?hg (N := 40) ?hd (xs := ([(⟨(⟨a0_0, (⟨a0_1, a0_2⟩ : S26), a0_3⟩ : S28), a0_4, a0_5⟩ : S30)] : List (S30))) (inner := [.int .i64 a0_0, .int .i64 a0_1, .int .i64 a0_2, .int .i64 a0_3, .int .i64 a0_4, .int .i64 a0_5]) (ok := fun _ => True) (okp := fun _ => True) ?hr ?hp (fun _ hk => hk) trivial (Below.refl _ _) (Nat.le_refl _) (by simp) ?_; (case hd => rfl); (case hg => rfl); (case hr => first | (go_simp; done) | (go_simp; rfl)); (case hp => exact (Reps.c6 (show Kd.M k30 _ _ _ (⟨(⟨a0_0, (⟨a0_1, a0_2⟩ : S26), a0_3⟩ : S28), a0_4, a0_5⟩ : S30) [.int .i64 a0_0, .int .i64 a0_1, .int .i64 a0_2, .int .i64 a0_3, .int .i64 a0_4, .int .i64 a0_5] from (k30_mkM _ _ _ (⟨(⟨a0_0, (⟨a0_1, a0_2⟩ : S26), a0_3⟩ : S28), a0_4, a0_5⟩ : S30) )) (Reps.none _ _))); intro v279 wx53191 hox53191 hb hg_ hnew_; clear hg_ hnew_; (first | rw [← Ny278.out] at hox53191 | (simp only [Int.reduceToNat] at hox53191; rw [← Ny278.out] at hox53191)); have n0_ := Aside0.mk (Kd.R_lower (Kd.R_newB (Kd.R_newB hox53191 (g := gb270) (o := .cells #[.int .i64 a0_0, .int .i64 a0_1, .int .i64 a0_2, .int .i64 a0_3, .int .i64 a0_4, .int .i64 a0_5] 30 (0, 0)) (by (with_reducible repeat (first | refine blk_drewN ?_ _ | refine blk_drew ?_ | refine blk_alloc ?_ _)); exact BK270.out)) (g := gb271) (o := .cells #[.int .i64 a1_0, .int .i64 a1_1, .int .i64 a1_2, .int .i64 a1_3, .int .i64 a1_4, .int .i64 a1_5] 30 (0, 0)) (by (with_reducible repeat (first | refine blk_drewN ?_ _ | refine blk_drew ?_ | refine blk_alloc ?_ _)); exact BK271.out)) (below_size (by repeat (first | (with_reducible first | exact HB.out | apply below_alloc | apply pw_below_drewN | apply below_drew1 | refine below_set ?_ GE270.out | refine below_set ?_ GE271.out | refine below_set ?_ GE272.out | refine below_set ?_ GE273.out | refine below_set ?_ GE274.out) | exact HB.out)))); have n1_ := Aside0.mk (blk_below (g := gb270) (o := .cells #[.int .i64 a0_0, .int .i64 a0_1, .int .i64 a0_2, .int .i64 a0_3, .int .i64 a0_4, .int .i64 a0_5] 30 (0, 0)) (by (with_reducible repeat (first | refine blk_drewN ?_ _ | refine blk_drew ?_ | refine blk_alloc ?_ _)); exact BK270.out) hb); have n2_ := Aside0.mk (blk_below (g := gb271) (o := .cells #[.int .i64 a1_0, .int .i64 a1_1, .int .i64 a1_2, .int .i64 a1_3, .int .i64 a1_4, .int .i64 a1_5] 30 (0, 0)) (by (with_reducible repeat (first | refine blk_drewN ?_ _ | refine blk_drew ?_ | refine blk_alloc ?_ _)); exact BK271.out) hb); have n3_ := Aside0.mk (blk_below (g := gb272) (o := .cells #[.int .i64 a2_0, .int .i64 a2_1] 61 (0, 0)) (by (with_reducible repeat (first | refine blk_drewN ?_ _ | refine blk_drew ?_ | refine blk_alloc ?_ _)); exact BK272.out) hb); have n4_ := Aside0.mk (blk_below (g := gb273) (o := .cells #[.int .i64 a3_0, .int .i64 a3_1] 26 (0, 0)) (by (with_reducible repeat (first | refine blk_drewN ?_ _ | refine blk_drew ?_ | refine blk_alloc ?_ _)); exact BK273.out) hb); have n5_ := Aside0.mk (blk_below (g := gb274) (o := .cells #[.int .i64 a4_0, .int .i64 a4_1] 26 (0, 0)) (by (with_reducible repeat (first | refine blk_drewN ?_ _ | refine blk_drew ?_ | refine blk_alloc ?_ _)); exact BK274.out) hb); have n6_ := Aside0.mk (below_step (by repeat (first | (with_reducible first | exact HB.out | apply below_alloc | apply pw_below_drewN | apply below_drew1 | refine below_set ?_ GE270.out | refine below_set ?_ GE271.out | refine below_set ?_ GE272.out | refine below_set ?_ GE273.out | refine below_set ?_ GE274.out) | exact HB.out)) hb); clear BK270; clear BK271; clear BK272; clear BK273; clear BK274; clear HB; have HO280 := n0_; have BK270 := n1_; have BK271 := n2_; have BK272 := n3_; have BK273 := n4_; have BK274 := n5_; have HB := n6_; clear n0_ n1_ n2_ n3_ n4_ n5_ n6_; clear hb hox53191; have hczx53191 : wx53191.cell? ⟨gb270, 0, none⟩ = some (.int .i64 a0_0) := (blk_cell BK270.out 0).trans rfl; have hczx53192 : wx53191.cell? ⟨gb270, 1, none⟩ = some (.int .i64 a0_1) := (blk_cell BK270.out 1).trans rfl; have hczx53193 : wx53191.cell? ⟨gb270, 2, none⟩ = some (.int .i64 a0_2) := (blk_cell BK270.out 2).trans rfl; have hczx53194 : wx53191.cell? ⟨gb270, 3, none⟩ = some (.int .i64 a0_3) := (blk_cell BK270.out 3).trans rfl; have hczx53195 : wx53191.cell? ⟨gb270, 4, none⟩ = some (.int .i64 a0_4) := (blk_cell BK270.out 4).trans rfl; have hczx53196 : wx53191.cell? ⟨gb270, 5, none⟩ = some (.int .i64 a0_5) := (blk_cell BK270.out 5).trans rfl; have hfzx53191 := blk_frozen BK270.out 0; have hfzx53192 := blk_frozen BK270.out 1; have hfzx53193 := blk_frozen BK270.out 2; have hfzx53194 := blk_frozen BK270.out 3; have hfzx53195 := blk_frozen BK270.out 4; have hfzx53196 := blk_frozen BK270.out 5; have hnbx53191 := NB273_271.out; have hncx53191 := NB271_273.out; have hnbx53192 := NB273_272.out; have hncx53192 := NB272_273.out; have hnbx53193 := NB273_274.out; have hncx53193 := NB274_273.out; have hczx53197 : wx53191.cell? ⟨gb273, 0, none⟩ = some (.int .i64 a3_0) := (blk_cell BK273.out 0).trans rfl; have hczx53198 : wx53191.cell? ⟨gb273, 1, none⟩ = some (.int .i64 a3_1) := (blk_cell BK273.out 1).trans rfl; have hfzx53197 := blk_frozen BK273.out 0; have hfzx53198 := blk_frozen BK273.out 1; obtain ⟨Aox53191, cox53191, eox53191⟩ := Kd.R_slice HO280.out; subst eox53191) | ((with_reducible refine gate_callee (f := 27) rfl ?_); refine goesL_ (some 46) rfl rfl Try.func27 (by kernel_rfl) rfl #[.slice Aox53191 y278.length cox53191, .int .i64 a0_0, .agg #[.int .i64 a3_0, .int .i64 a3_1], .int .i64 a5] rfl (by (try simp only [List.map_toArray, List.map_cons, List.map_nil]); first | done | rfl | (simp only [List.length_drop, List.length_take]; rfl)) ?_; (with_reducible refine (tube_Has.calls kj10 _ _ y278 a0_0 a3_0 a3_1 a5 t281 t282 _ ?side1 ?side2 A33.out).mono ?_); (case side1 => repeat (first | exact (Kd.R_reads' HO280.out).2.2 | (with_reducible refine Kd.C_alloc ?_ _) | (with_reducible refine Kd.C_drewN ?_ _) | (with_reducible refine Kd.C_drew ?_))); (case side2 => exact (Kd.R_reads' HO280.out).2.1); rintro e wxf7f71 ⟨rfl, hb⟩; refine ⟨_, rfl, ?_⟩; have n0_ := Aside0.mk (Kd.R_below (by (with_reducible repeat (first | apply Kd.R_alloc | apply Kd.R_drewN | apply Kd.R_drew)); exact HO280.out) hb); have n1_ := Aside0.mk (blk_below (g := gb270) (o := .cells #[.int .i64 a0_0, .int .i64 a0_1, .int .i64 a0_2, .int .i64 a0_3, .int .i64 a0_4, .int .i64 a0_5] 30 (0, 0)) (by (with_reducible repeat (first | refine blk_drewN ?_ _ | refine blk_drew ?_ | refine blk_alloc ?_ _)); exact BK270.out) hb); have n2_ := Aside0.mk (blk_below (g := gb271) (o := .cells #[.int .i64 a1_0, .int .i64 a1_1, .int .i64 a1_2, .int .i64 a1_3, .int .i64 a1_4, .int .i64 a1_5] 30 (0, 0)) (by (with_reducible repeat (first | refine blk_drewN ?_ _ | refine blk_drew ?_ | refine blk_alloc ?_ _)); exact BK271.out) hb); have n3_ := Aside0.mk (blk_below (g := gb272) (o := .cells #[.int .i64 a2_0, .int .i64 a2_1] 61 (0, 0)) (by (with_reducible repeat (first | refine blk_drewN ?_ _ | refine blk_drew ?_ | refine blk_alloc ?_ _)); exact BK272.out) hb); have n4_ := Aside0.mk (blk_below (g := gb273) (o := .cells #[.int .i64 a3_0, .int .i64 a3_1] 26 (0, 0)) (by (with_reducible repeat (first | refine blk_drewN ?_ _ | refine blk_drew ?_ | refine blk_alloc ?_ _)); exact BK273.out) hb); have n5_ := Aside0.mk (blk_below (g := gb274) (o := .cells #[.int .i64 a4_0, .int .i64 a4_1] 26 (0, 0)) (by (with_reducible repeat (first | refine blk_drewN ?_ _ | refine blk_drew ?_ | refine blk_alloc ?_ _)); exact BK274.out) hb); have n6_ := Aside0.mk (below_step (by repeat (first | (with_reducible first | exact HB.out | apply below_alloc | apply pw_below_drewN | apply below_drew1 | refine below_set ?_ GE270.out | refine below_set ?_ GE271.out | refine below_set ?_ GE272.out | refine below_set ?_ GE273.out | refine below_set ?_ GE274.out) | exact HB.out)) hb); clear HO280; clear BK270; clear BK271; clear BK272; clear BK273; clear BK274; clear HB; have HO280 := n0_; have BK270 := n1_; have BK271 := n2_; have BK272 := n3_; have BK273 := n4_; have BK274 := n5_; have HB := n6_; clear n0_ n1_ n2_ n3_ n4_ n5_ n6_; (try clear hb); (try clear hb2); (try clear hk); (try clear hi); have hnbxf7f71 := NB271_272.out; have hncxf7f71 := NB272_271.out; have hnbxf7f72 := NB271_274.out; have hncxf7f72 := NB274_271.out; have hczxf7f71 : wxf7f71.cell? ⟨gb271, 0, none⟩ = some (.int .i64 a1_0) := (blk_cell BK271.out 0).trans rfl; have hczxf7f72 : wxf7f71.cell? ⟨gb271, 1, none⟩ = some (.int .i64 a1_1) := (blk_cell BK271.out 1).trans rfl; have hczxf7f73 : wxf7f71.cell? ⟨gb271, 2, none⟩ = some (.int .i64 a1_2) := (blk_cell BK271.out 2).trans rfl; have hczxf7f74 : wxf7f71.cell? ⟨gb271, 3, none⟩ = some (.int .i64 a1_3) := (blk_cell BK271.out 3).trans rfl; have hczxf7f75 : wxf7f71.cell? ⟨gb271, 4, none⟩ = some (.int .i64 a1_4) := (blk_cell BK271.out 4).trans rfl; have hczxf7f76 : wxf7f71.cell? ⟨gb271, 5, none⟩ = some (.int .i64 a1_5) := (blk_cell BK271.out 5).trans rfl; have hfzxf7f71 := blk_frozen BK271.out 0; have hfzxf7f72 := blk_frozen BK271.out 1; have hfzxf7f73 := blk_frozen BK271.out 2; have hfzxf7f74 := blk_frozen BK271.out 3; have hfzxf7f75 := blk_frozen BK271.out 4; have hfzxf7f76 := blk_frozen BK271.out 5) | ((with_reducible refine gate_dst (N := 51) rfl ?_); refine Kd.R_lit k30 _ 30 ?hg (N := 51) ?hd (xs := ([(⟨(⟨a1_0, (⟨a1_1, a1_2⟩ : S26), a1_3⟩ : S28), a1_4, a1_5⟩ : S30)] : List (S30))) (inner := [.int .i64 a1_0, .int .i64 a1_1, .int .i64 a1_2, .int .i64 a1_3, .int .i64 a1_4, .int .i64 a1_5]) (ok := fun _ => True) (okp := fun _ => True) ?hr ?hp (fun _ hk => hk) trivial (Below.refl _ _) (Nat.le_refl _) (by simp) ?_; (case hd => rfl); (case hg => rfl); (case hr => first | (go_simp; done) | (go_simp; rfl)); (case hp => exact (Reps.c6 (show Kd.M k30 _ _ _ (⟨(⟨a1_0, (⟨a1_1, a1_2⟩ : S26), a1_3⟩ : S28), a1_4, a1_5⟩ : S30) [.int .i64 a1_0, .int .i64 a1_1, .int .i64 a1_2, .int .i64 a1_3, .int .i64 a1_4, .int .i64 a1_5] from (k30_mkM _ _ _ (⟨(⟨a1_0, (⟨a1_1, a1_2⟩ : S26), a1_3⟩ : S28), a1_4, a1_5⟩ : S30) )) (Reps.none _ _))); intro v284 wx65191 hox65191 hb hg_ hnew_; clear hg_ hnew_; (first | rw [← Ny283.out] at hox65191 | (simp only [Int.reduceToNat] at hox65191; rw [← Ny283.out] at hox65191)); have n0_ := Aside0.mk (Kd.R_elder' (by (with_reducible repeat (first | apply Kd.R_alloc | apply Kd.R_drewN | apply Kd.R_drew)); exact HO280.out) (Kd.R_base hox65191) hb); have n1_ := Aside0.mk (Kd.R_lower (Kd.R_newB (Kd.R_newB (Kd.R_new' hox65191 (Kd.R_lt (by (with_reducible repeat (first | apply Kd.R_alloc | apply Kd.R_drewN | apply Kd.R_drew)); exact HO280.out))) (g := gb270) (o := .cells #[.int .i64 a0_0, .int .i64 a0_1, .int .i64 a0_2, .int .i64 a0_3, .int .i64 a0_4, .int .i64 a0_5] 30 (0, 0)) (by (with_reducible repeat (first | refine blk_drewN ?_ _ | refine blk_drew ?_ | refine blk_alloc ?_ _)); exact BK270.out)) (g := gb271) (o := .cells #[.int .i64 a1_0, .int .i64 a1_1, .int .i64 a1_2, .int .i64 a1_3, .int .i64 a1_4, .int .i64 a1_5] 30 (0, 0)) (by (with_reducible repeat (first | refine blk_drewN ?_ _ | refine blk_drew ?_ | refine blk_alloc ?_ _)); exact BK271.out)) (below_size (by repeat (first | (with_reducible first | exact HB.out | apply below_alloc | apply pw_below_drewN | apply below_drew1 | refine below_set ?_ GE270.out | refine below_set ?_ GE271.out | refine below_set ?_ GE272.out | refine below_set ?_ GE273.out | refine below_set ?_ GE274.out) | exact HB.out)))); have n2_ := Aside0.mk (blk_below (g := gb270) (o := .cells #[.int .i64 a0_0, .int .i64 a0_1, .int .i64 a0_2, .int .i64 a0_3, .int .i64 a0_4, .int .i64 a0_5] 30 (0, 0)) (by (with_reducible repeat (first | refine blk_drewN ?_ _ | refine blk_drew ?_ | refine blk_alloc ?_ _)); exact BK270.out) hb); have n3_ := Aside0.mk (blk_below (g := gb271) (o := .cells #[.int .i64 a1_0, .int .i64 a1_1, .int .i64 a1_2, .int .i64 a1_3, .int .i64 a1_4, .int .i64 a1_5] 30 (0, 0)) (by (with_reducible repeat (first | refine blk_drewN ?_ _ | refine blk_drew ?_ | refine blk_alloc ?_ _)); exact BK271.out) hb); have n4_ := Aside0.mk (blk_below (g := gb272) (o := .cells #[.int .i64 a2_0, .int .i64 a2_1] 61 (0, 0)) (by (with_reducible repeat (first | refine blk_drewN ?_ _ | refine blk_drew ?_ | refine blk_alloc ?_ _)); exact BK272.out) hb); have n5_ := Aside0.mk (blk_below (g := gb273) (o := .cells #[.int .i64 a3_0, .int .i64 a3_1] 26 (0, 0)) (by (with_reducible repeat (first | refine blk_drewN ?_ _ | refine blk_drew ?_ | refine blk_alloc ?_ _)); exact BK273.out) hb); have n6_ := Aside0.mk (blk_below (g := gb274) (o := .cells #[.int .i64 a4_0, .int .i64 a4_1] 26 (0, 0)) (by (with_reducible repeat (first | refine blk_drewN ?_ _ | refine blk_drew ?_ | refine blk_alloc ?_ _)); exact BK274.out) hb); have n7_ := Aside0.mk (below_step (by repeat (first | (with_reducible first | exact HB.out | apply below_alloc | apply pw_below_drewN | apply below_drew1 | refine below_set ?_ GE270.out | refine below_set ?_ GE271.out | refine below_set ?_ GE272.out | refine below_set ?_ GE273.out | refine below_set ?_ GE274.out) | exact HB.out)) hb); clear HO280; clear BK270; clear BK271; clear BK272; clear BK273; clear BK274; clear HB; have HO280 := n0_; have HO285 := n1_; have BK270 := n2_; have BK271 := n3_; have BK272 := n4_; have BK273 := n5_; have BK274 := n6_; have HB := n7_; clear n0_ n1_ n2_ n3_ n4_ n5_ n6_ n7_; clear hb hox65191; have hczx65191 : wx65191.cell? ⟨gb271, 0, none⟩ = some (.int .i64 a1_0) := (blk_cell BK271.out 0).trans rfl; have hczx65192 : wx65191.cell? ⟨gb271, 1, none⟩ = some (.int .i64 a1_1) := (blk_cell BK271.out 1).trans rfl; have hczx65193 : wx65191.cell? ⟨gb271, 2, none⟩ = some (.int .i64 a1_2) := (blk_cell BK271.out 2).trans rfl; have hczx65194 : wx65191.cell? ⟨gb271, 3, none⟩ = some (.int .i64 a1_3) := (blk_cell BK271.out 3).trans rfl; have hczx65195 : wx65191.cell? ⟨gb271, 4, none⟩ = some (.int .i64 a1_4) := (blk_cell BK271.out 4).trans rfl; have hczx65196 : wx65191.cell? ⟨gb271, 5, none⟩ = some (.int .i64 a1_5) := (blk_cell BK271.out 5).trans rfl; have hfzx65191 := blk_frozen BK271.out 0; have hfzx65192 := blk_frozen BK271.out 1; have hfzx65193 := blk_frozen BK271.out 2; have hfzx65194 := blk_frozen BK271.out 3; have hfzx65195 := blk_frozen BK271.out 4; have hfzx65196 := blk_frozen BK271.out 5; have hnbx65191 := NB274_272.out; have hncx65191 := NB272_274.out; have hczx65197 : wx65191.cell? ⟨gb274, 0, none⟩ = some (.int .i64 a4_0) := (blk_cell BK274.out 0).trans rfl; have hczx65198 : wx65191.cell? ⟨gb274, 1, none⟩ = some (.int .i64 a4_1) := (blk_cell BK274.out 1).trans rfl; have hfzx65197 := blk_frozen BK274.out 0; have hfzx65198 := blk_frozen BK274.out 1; obtain ⟨Aox65191, cox65191, eox65191⟩ := Kd.R_slice HO285.out; subst eox65191) | ((with_reducible refine gate_callee (f := 27) rfl ?_); refine goesL_ (some 57) rfl rfl Try.func27 (by kernel_rfl) rfl #[.slice Aox65191 y283.length cox65191, .int .i64 a1_0, .agg #[.int .i64 a4_0, .int .i64 a4_1], .int .i64 a6] rfl (by (try simp only [List.map_toArray, List.map_cons, List.map_nil]); first | done | rfl | (simp only [List.length_drop, List.length_take]; rfl)) ?_; (with_reducible refine (tube_Has.calls kj10 _ _ y283 a1_0 a4_0 a4_1 a6 t286 t287 _ ?side1 ?side2 A34.out).mono ?_); (case side1 => repeat (first | exact (Kd.R_reads' HO285.out).2.2 | (with_reducible refine Kd.C_alloc ?_ _) | (with_reducible refine Kd.C_drewN ?_ _) | (with_reducible refine Kd.C_drew ?_))); (case side2 => exact (Kd.R_reads' HO285.out).2.1); rintro e wxc7421 ⟨rfl, hb⟩; refine ⟨_, rfl, ?_⟩; have n0_ := Aside0.mk (Kd.R_below (by (with_reducible repeat (first | apply Kd.R_alloc | apply Kd.R_drewN | apply Kd.R_drew)); exact HO280.out) hb); have n1_ := Aside0.mk (Kd.R_below (by (with_reducible repeat (first | apply Kd.R_alloc | apply Kd.R_drewN | apply Kd.R_drew)); exact HO285.out) hb); have n2_ := Aside0.mk (blk_below (g := gb270) (o := .cells #[.int .i64 a0_0, .int .i64 a0_1, .int .i64 a0_2, .int .i64 a0_3, .int .i64 a0_4, .int .i64 a0_5] 30 (0, 0)) (by (with_reducible repeat (first | refine blk_drewN ?_ _ | refine blk_drew ?_ | refine blk_alloc ?_ _)); exact BK270.out) hb); have n3_ := Aside0.mk (blk_below (g := gb271) (o := .cells #[.int .i64 a1_0, .int .i64 a1_1, .int .i64 a1_2, .int .i64 a1_3, .int .i64 a1_4, .int .i64 a1_5] 30 (0, 0)) (by (with_reducible repeat (first | refine blk_drewN ?_ _ | refine blk_drew ?_ | refine blk_alloc ?_ _)); exact BK271.out) hb); have n4_ := Aside0.mk (blk_below (g := gb272) (o := .cells #[.int .i64 a2_0, .int .i64 a2_1] 61 (0, 0)) (by (with_reducible repeat (first | refine blk_drewN ?_ _ | refine blk_drew ?_ | refine blk_alloc ?_ _)); exact BK272.out) hb); have n5_ := Aside0.mk (blk_below (g := gb273) (o := .cells #[.int .i64 a3_0, .int .i64 a3_1] 26 (0, 0)) (by (with_reducible repeat (first | refine blk_drewN ?_ _ | refine blk_drew ?_ | refine blk_alloc ?_ _)); exact BK273.out) hb); have n6_ := Aside0.mk (blk_below (g := gb274) (o := .cells #[.int .i64 a4_0, .int .i64 a4_1] 26 (0, 0)) (by (with_reducible repeat (first | refine blk_drewN ?_ _ | refine blk_drew ?_ | refine blk_alloc ?_ _)); exact BK274.out) hb); have n7_ := Aside0.mk (below_step (by repeat (first | (with_reducible first | exact HB.out | apply below_alloc | apply pw_below_drewN | apply below_drew1 | refine below_set ?_ GE270.out | refine below_set ?_ GE271.out | refine below_set ?_ GE272.out | refine below_set ?_ GE273.out | refine below_set ?_ GE274.out) | exact HB.out)) hb); clear HO280; clear HO285; clear BK270; clear BK271; clear BK272; clear BK273; clear BK274; clear HB; have HO280 := n0_; have HO285 := n1_; have BK270 := n2_; have BK271 := n3_; have BK272 := n4_; have BK273 := n5_; have BK274 := n6_; have HB := n7_; clear n0_ n1_ n2_ n3_ n4_ n5_ n6_ n7_; (try clear hb); (try clear hb2); (try clear hk); (try clear hi)))
       (try simp only [Act.put, List.setIfInBounds_toArray, List.set_cons_zero, List.set_cons_succ])
       go_cut [73] (fun v73 wc => ∃ (kq : Nat) (x73_34 : Bool), v73 = .bool x73_34 ∧ Aside0 (skywaykeep1_ProbeSafe.j1 kq a5 a6 x73_34 a2_0 a2_1 a3_0 a3_1 a4_0 a4_1 = some r) ∧ Aside0 (kq ≤ kj10) ∧ Aside0 (wc.heap[gb270]? = some (.cells #[.int .i64 a0_0, .int .i64 a0_1, .int .i64 a0_2, .int .i64 a0_3, .int .i64 a0_4, .int .i64 a0_5] 30 (0, 0))) ∧ Aside0 (wc.heap[gb271]? = some (.cells #[.int .i64 a1_0, .int .i64 a1_1, .int .i64 a1_2, .int .i64 a1_3, .int .i64 a1_4, .int .i64 a1_5] 30 (0, 0))) ∧ Aside0 (wc.heap[gb272]? = some (.cells #[.int .i64 a2_0, .int .i64 a2_1] 61 (0, 0))) ∧ Aside0 (wc.heap[gb273]? = some (.cells #[.int .i64 a3_0, .int .i64 a3_1] 26 (0, 0))) ∧ Aside0 (wc.heap[gb274]? = some (.cells #[.int .i64 a4_0, .int .i64 a4_1] 26 (0, 0))) ∧ Aside0 (Below w.heap.size w wc))
       case first =>
        have H := HC35.out
        clear HC35
        refine Or.elim (Classical.em (t282 = 0)) (fun c60 => ?p4_) (fun c60 => ?n4_)
        case' p4_ =>
         rw [if_pos c60] at H
         have c60b0 : (t282 == 0) = true := beq_iff_eq.mpr c60
         have c60b1 : (t282 != 0) = false := bne_eq_false_iff_eq.mpr c60
         clear c60
         (first | rw [c60b0] | (simp only [i64_w, i32_w]; rw [c60b0]) | skip)
         refine Or.elim (Classical.em (t287 = 0)) (fun c61 => ?p5_) (fun c61 => ?n5_)
         case' p5_ =>
          rw [if_pos c61] at H
          have c61b0 : (t287 == 0) = true := beq_iff_eq.mpr c61
          have c61b1 : (t287 != 0) = false := bne_eq_false_iff_eq.mpr c61
          clear c61
          refine Or.elim (Classical.em (t281 = true)) (fun c62 => ?p6_) (fun c62 => ?n6_)
          case' p6_ =>
           subst c62
           have H1 : (skywaykeep1_ProbeSafe.j1 kj10 a5 a6 (!t286) a2_0 a2_1 a3_0 a3_1 a4_0 a4_1) = some r := by rw [if_pos rfl] at H; exact H
           clear H
           have H := H1
           clear H1
          case' n6_ =>
           replace c62 := Bool.eq_false_iff.mpr c62
           subst c62
           have H1 : (skywaykeep1_ProbeSafe.j1 kj10 a5 a6 true a2_0 a2_1 a3_0 a3_1 a4_0 a4_1) = some r := by rw [if_neg (show ¬ (false = true) by decide)] at H; exact H
           clear H
           have H := H1
           clear H1
         case' n5_ =>
          rw [if_neg c61] at H
          have c61b0 : (t287 == 0) = false := beq_eq_false_iff_ne.mpr c61
          have c61b1 : (t287 != 0) = true := bne_iff_ne.mpr c61
        case' n4_ =>
         rw [if_neg c60] at H
         have c60b0 : (t282 == 0) = false := beq_eq_false_iff_ne.mpr c60
         have c60b1 : (t282 != 0) = true := bne_iff_ne.mpr c60
         (first | rw [c60b0] | (simp only [i64_w, i32_w]; rw [c60b0]) | skip)
        all_goals
         have H' := Aside0.mk H
         clear H
         go_wp2
         go_meet
         case rel => first | (exact ⟨_, (!t286), (by first | rfl | (simp; done) | (simp [*]; done)), H', ⟨by have := HJ10.out; first | omega | exact Nat.le_refl _⟩, ⟨by (with_reducible repeat (first | refine blk_drewN ?_ _ | refine blk_drew ?_ | refine blk_alloc ?_ _)); exact BK270.out⟩, ⟨by (with_reducible repeat (first | refine blk_drewN ?_ _ | refine blk_drew ?_ | refine blk_alloc ?_ _)); exact BK271.out⟩, ⟨by (with_reducible repeat (first | refine blk_drewN ?_ _ | refine blk_drew ?_ | refine blk_alloc ?_ _)); exact BK272.out⟩, ⟨by (with_reducible repeat (first | refine blk_drewN ?_ _ | refine blk_drew ?_ | refine blk_alloc ?_ _)); exact BK273.out⟩, ⟨by (with_reducible repeat (first | refine blk_drewN ?_ _ | refine blk_drew ?_ | refine blk_alloc ?_ _)); exact BK274.out⟩, ⟨by repeat (first | (with_reducible first | exact HB.out | apply below_alloc | apply pw_below_drewN | apply below_drew1 | refine below_set ?_ GE270.out | refine below_set ?_ GE271.out | refine below_set ?_ GE272.out | refine below_set ?_ GE273.out | refine below_set ?_ GE274.out) | exact HB.out)⟩⟩) | (exact ⟨_, (true), (by first | rfl | (simp; done) | (simp [*]; done)), H', ⟨by have := HJ10.out; first | omega | exact Nat.le_refl _⟩, ⟨by (with_reducible repeat (first | refine blk_drewN ?_ _ | refine blk_drew ?_ | refine blk_alloc ?_ _)); exact BK270.out⟩, ⟨by (with_reducible repeat (first | refine blk_drewN ?_ _ | refine blk_drew ?_ | refine blk_alloc ?_ _)); exact BK271.out⟩, ⟨by (with_reducible repeat (first | refine blk_drewN ?_ _ | refine blk_drew ?_ | refine blk_alloc ?_ _)); exact BK272.out⟩, ⟨by (with_reducible repeat (first | refine blk_drewN ?_ _ | refine blk_drew ?_ | refine blk_alloc ?_ _)); exact BK273.out⟩, ⟨by (with_reducible repeat (first | refine blk_drewN ?_ _ | refine blk_drew ?_ | refine blk_alloc ?_ _)); exact BK274.out⟩, ⟨by repeat (first | (with_reducible first | exact HB.out | apply below_alloc | apply pw_below_drewN | apply below_drew1 | refine below_set ?_ GE270.out | refine below_set ?_ GE271.out | refine below_set ?_ GE272.out | refine below_set ?_ GE273.out | refine below_set ?_ GE274.out) | exact HB.out)⟩⟩)
       case rest =>
        clear HC35
        (try clear c1); (try clear p1); (try clear c2); (try clear p2); (try clear c3); (try clear c4); (try clear c5); (try clear c6); (try clear c9); (try clear c10); (try clear c18); (try clear c19); (try clear c20); (try clear c21); (try clear c23); (try clear c24); (try clear c25); (try clear c27); (try clear c28); (try clear c30); (try clear c31); (try clear c31b0); (try clear c31b1); (try clear c32); (try clear c36); (try clear c37); (try clear c38); (try clear c39); (try clear c44); (try clear c45); (try clear c46); (try clear c50); (try clear c51); (try clear c56); (try clear c60); (try clear c60b0); (try clear c60b1); (try clear c61); (try clear c61b0); (try clear c61b1)
        (try clear c62); (try clear hczx34721); (try clear hczx34722); (try clear hczx34723); (try clear hczx34724); (try clear hczx34725); (try clear hczx34726); (try clear hczx34727); (try clear hczx34728); (try clear hczx34729); (try clear hczx347210); (try clear hczx347211); (try clear hczx347212); (try clear hczx347213); (try clear hczx347214); (try clear hczza1); (try clear hczza2); (try clear hczza3); (try clear hczza4); (try clear hczza5); (try clear hczza6); (try clear hczx53191); (try clear hczx53192); (try clear hczx53193); (try clear hczx53194); (try clear hczx53195); (try clear hczx53196); (try clear hczx53197); (try clear hczx53198); (try clear hczxf7f71); (try clear hczxf7f72); (try clear hczxf7f73); (try clear hczxf7f74); (try clear hczxf7f75); (try clear hczxf7f76); (try clear hczx65191); (try clear hczx65192); (try clear hczx65193); (try clear hczx65194); (try clear hczx65195)
        (try clear hczx65196); (try clear hczx65197); (try clear hczx65198); (try clear hfzx34721); (try clear hfzx34722); (try clear hfzx34723); (try clear hfzx34724); (try clear hfzx34725); (try clear hfzx34726); (try clear hfzx34727); (try clear hfzx34728); (try clear hfzx34729); (try clear hfzx347210); (try clear hfzx347211); (try clear hfzx347212); (try clear hfzx347213); (try clear hfzx347214); (try clear hfzza1); (try clear hfzza2); (try clear hfzza3); (try clear hfzza4); (try clear hfzza5); (try clear hfzza6); (try clear hfzx53191); (try clear hfzx53192); (try clear hfzx53193); (try clear hfzx53194); (try clear hfzx53195); (try clear hfzx53196); (try clear hfzx53197); (try clear hfzx53198); (try clear hfzxf7f71); (try clear hfzxf7f72); (try clear hfzxf7f73); (try clear hfzxf7f74); (try clear hfzxf7f75); (try clear hfzxf7f76); (try clear hfzx65191); (try clear hfzx65192); (try clear hfzx65193)
        (try clear hfzx65194); (try clear hfzx65195); (try clear hfzx65196); (try clear hfzx65197); (try clear hfzx65198); (try clear p1); (try clear p2)
        obtain ⟨kq, x73_34, rfl, HA, HJ34, BK270, BK271, BK272, BK273, BK274, HB⟩ := hcut
        cases kq with
        | zero => exact absurd HA.out (by simp [skywaykeep1_ProbeSafe.j1])
        | succ kj34 =>
         have H := HA.out
         clear HA
         simp only [skywaykeep1_ProbeSafe.j1] at H
         refine Or.elim (Classical.em (x73_34 = true)) (fun c63 => ?p8_) (fun c63 => ?n8_)
         case' p8_ =>
          subst c63
          have H1 : (some true) = some r := by rw [if_pos rfl] at H; exact H
          clear H
          have H := H1
          clear H1
          have hm7_0 := Aside0.mk trivial
         case' n8_ =>
          replace c63 := Bool.eq_false_iff.mpr c63
          subst c63
          have H1 : ((plane_Square.f a3_0 a3_1 a4_0 a4_1).bind fun t288 => (if t288 ≥ (wrap64 (a2_0 * a2_0)) then (some true) else ((skywayref1_Abs.f (wrap64 (a5 - a6))).bind fun t289 => (some (decide (t289 ≥ a2_1)))))) = some r := by rw [if_neg (show ¬ (false = true) by decide)] at H; exact H
          clear H
          have H := H1
          clear H1
          replace H := Option.bind_eq_some_iff.mp H
          obtain ⟨t288, A640, H⟩ := H
          replace H : (if t288 ≥ (wrap64 (a2_0 * a2_0)) then (some true) else ((skywayref1_Abs.f (wrap64 (a5 - a6))).bind fun t289 => (some (decide (t289 ≥ a2_1))))) = some r := H
          have A64 := Aside0.mk A640
          clear A640
          refine Or.elim (Classical.em (t288 ≥ (wrap64 (a2_0 * a2_0)))) (fun c65 => ?p9_) (fun c65 => ?n9_)
          case' p9_ =>
           rw [if_pos c65] at H
           have c65b0 : decide ((wrap64 (a2_0 * a2_0)) ≤ t288) = true := decide_eq_true c65
           clear c65
           have hm7_1 := Aside0.mk trivial
          case' n9_ =>
           rw [if_neg c65] at H
           have c65b0 : decide ((wrap64 (a2_0 * a2_0)) ≤ t288) = false := decide_eq_false c65
           clear c65
           replace H := Option.bind_eq_some_iff.mp H
           obtain ⟨t289, A680, H⟩ := H
           replace H : (some (decide (t289 ≥ a2_1))) = some r := H
           have A68 := Aside0.mk A680
           clear A680
           have hm7_2 := Aside0.mk trivial
         all_goals
          obtain rfl := Option.some.inj H
          first
           | clear hm7_0
             go_wp2
             go_ret
             exact ⟨by first | rfl | (simp [errW_none, errW_some] <;> rfl) | (simp [*, errW_none, errW_some] <;> rfl), by repeat (first | (with_reducible first | exact HB.out | apply below_alloc | apply pw_below_drewN | apply below_drew1 | refine below_set ?_ GE270.out | refine below_set ?_ GE271.out | refine below_set ?_ GE272.out | refine below_set ?_ GE273.out | refine below_set ?_ GE274.out) | exact HB.out)⟩
           | (first | (have _hm := hm7_1) | (have _hm := hm7_2))
             try go_wp2
             have n0_ := Aside0.mk (blk_drew BK270.out)
             have n1_ := Aside0.mk (blk_drew BK271.out)
             have n2_ := Aside0.mk (blk_drew BK272.out)
             have n3_ := Aside0.mk (blk_drew BK273.out)
             have n4_ := Aside0.mk (blk_drew BK274.out)
             have n5_ := Aside0.mk (below_drew1 HB.out)
             clear BK270
             clear BK271
             clear BK272
             clear BK273
             clear BK274
             clear HB
             have BK270 := n0_
             have BK271 := n1_
             have BK272 := n2_
             have BK273 := n3_
             have BK274 := n4_
             have HB := n5_
             clear n0_ n1_ n2_ n3_ n4_ n5_
             refine start_ (n := 19) (S := fun w' => w'.cell? ⟨gb273, 0, none⟩ = some (.int .i64 a3_0) ∧ w'.cell? ⟨gb273, 1, none⟩ = some (.int .i64 a3_1) ∧ w'.cell? ⟨gb274, 0, none⟩ = some (.int .i64 a4_0) ∧ w'.cell? ⟨gb274, 1, none⟩ = some (.int .i64 a4_1) ∧ w'.cell? ⟨gb272, 0, none⟩ = some (.int .i64 a2_0) ∧ w'.cell? ⟨gb272, 1, none⟩ = some (.int .i64 a2_1)) (ds := []) #[false, false, false, false, false, false, false, false, false, false, false, false, false, false, false, false, false, false, false] (by kernel_rfl) rfl rfl ⟨(blk_cell BK273.out 0).trans rfl, (blk_cell BK273.out 1).trans rfl, (blk_cell BK274.out 0).trans rfl, (blk_cell BK274.out 1).trans rfl, (blk_cell BK272.out 0).trans rfl, (blk_cell BK272.out 1).trans rfl⟩ (fun hHeld => ?_); refine with_tabW skywaykeep1_ProbeSafe.tab10 skywaykeep1_ProbeSafe.bits10 (fun HT_ HW_ => ?_)
             generalize wc.drew = wze1 at BK270 BK271 BK272 BK273 BK274 HB hHeld ⊢
             refine pure_ (i := 3) (N := some 77) (v := ?_) (a' := ?_) #[false, false, false, true, false, false, false, false, false, false, false, false, false, false, false, false, false, false, false] rfl rfl (any_of HT_.out (by kernel_rfl)) (fun _ _ _ h => h) (Or.inl ⟨by rfl, ?_⟩) ?_ ?_
             rotate_left
             · intro w'
               go_simp
               with_reducible rfl
             rotate_left
             · simp only [Act.put, List.setIfInBounds_toArray, List.set_cons_zero, List.set_cons_succ, i64_w, i32_w]
               rfl
             refine pure_ (i := 5) (N := some 79) (v := ?_) (a' := ?_) #[false, false, false, true, false, true, false, false, false, false, false, false, false, false, false, false, false, false, false] rfl rfl (any_of HT_.out (by kernel_rfl)) (fun _ _ _ h => h) (Or.inl ⟨by rfl, ?_⟩) ?_ ?_
             rotate_left
             · intro w'
               go_simp
               with_reducible rfl
             rotate_left
             · simp only [Act.put, List.setIfInBounds_toArray, List.set_cons_zero, List.set_cons_succ, i64_w, i32_w]
               rfl
             refine take_ (i := 0) (N := some 74) (v := ?_) (a' := ?_) #[true, false, false, true, false, true, false, false, false, false, false, false, false, false, false, false, false, false, false] rfl rfl (take_ofW HT_.out HW_.out (by kernel_rfl)) (fun _ _ _ h => h) (Or.inl ⟨by rfl, ?_⟩) hHeld ?_ ?_
             rotate_left
             · rintro w' ⟨s0, s1, s2, s3, s4, s5⟩
               go_simp
               with_reducible rfl
             rotate_left
             · simp only [Act.put, List.setIfInBounds_toArray, List.set_cons_zero, List.set_cons_succ, i64_w, i32_w]
               rfl
             refine take_ (i := 1) (N := some 75) (v := ?_) (a' := ?_) #[true, true, false, true, false, true, false, false, false, false, false, false, false, false, false, false, false, false, false] rfl rfl (take_ofW HT_.out HW_.out (by kernel_rfl)) (fun _ _ _ h => h) (Or.inl ⟨by rfl, ?_⟩) hHeld ?_ ?_
             rotate_left
             · rintro w' ⟨s0, s1, s2, s3, s4, s5⟩
               go_simp
               with_reducible rfl
             rotate_left
             · simp only [Act.put, List.setIfInBounds_toArray, List.set_cons_zero, List.set_cons_succ, i64_w, i32_w]
               rfl
             refine take_ (i := 4) (N := some 78) (v := ?_) (a' := ?_) #[true, true, false, true, true, true, false, false, false, false, false, false, false, false, false, false, false, false, false] rfl rfl (take_ofW HT_.out HW_.out (by kernel_rfl)) (fun _ _ _ h => h) (Or.inl ⟨by rfl, ?_⟩) hHeld ?_ ?_
             rotate_left
             · rintro w' ⟨s0, s1, s2, s3, s4, s5⟩
               go_simp
               with_reducible rfl
             rotate_left
             · simp only [Act.put, List.setIfInBounds_toArray, List.set_cons_zero, List.set_cons_succ, i64_w, i32_w]
               rfl
             refine take_ (i := 6) (N := some 80) (v := ?_) (a' := ?_) #[true, true, false, true, true, true, true, false, false, false, false, false, false, false, false, false, false, false, false] rfl rfl (take_ofW HT_.out HW_.out (by kernel_rfl)) (fun _ _ _ h => h) (Or.inl ⟨by rfl, ?_⟩) hHeld ?_ ?_
             rotate_left
             · rintro w' ⟨s0, s1, s2, s3, s4, s5⟩
               go_simp
               with_reducible rfl
             rotate_left
             · simp only [Act.put, List.setIfInBounds_toArray, List.set_cons_zero, List.set_cons_succ, i64_w, i32_w]
               rfl
             refine pure_ (i := 7) (N := some 81) (v := ?_) (a' := ?_) #[true, true, false, true, true, true, true, true, false, false, false, false, false, false, false, false, false, false, false] rfl rfl (any_of HT_.out (by kernel_rfl)) (fun _ _ _ h => h) (Or.inl ⟨by rfl, ?_⟩) ?_ ?_
             rotate_left
             · intro w'
               go_simp
               with_reducible rfl
             rotate_left
             · simp only [Act.put, List.setIfInBounds_toArray, List.set_cons_zero, List.set_cons_succ, i64_w, i32_w]
               rfl
             refine one_ (i := 2) (N := some 76) #[true, true, true, true, true, true, true, true, false, false, false, false, false, false, false, false, false, false, false] rfl rfl (one_of HT_.out (by kernel_rfl)) (by decide) (fun K hK => ?_)
             refine goes_ Try.func32 (by kernel_rfl) rfl #[.agg #[.int .i64 a3_0, .int .i64 a3_1], .agg #[.int .i64 a4_0, .int .i64 a4_1]] (by rfl) rfl rfl (by (try simp only [List.map_toArray, List.map_cons, List.map_nil]); first | done | rfl | (simp only [List.length_drop, List.length_take]; rfl)) ?_
             with_reducible refine (plane_Square.calls a3_0 a3_1 a4_0 a4_1 t288 _ A64.out).mono ?_
             rintro e wze2 ⟨rfl, hb⟩
             refine ⟨_, rfl, ?_⟩
             have n0_ := Aside0.mk (blk_below (g := gb270) (o := .cells #[.int .i64 a0_0, .int .i64 a0_1, .int .i64 a0_2, .int .i64 a0_3, .int .i64 a0_4, .int .i64 a0_5] 30 (0, 0)) (by (with_reducible repeat (first | refine blk_drewN ?_ _ | refine blk_drew ?_ | refine blk_alloc ?_ _)); exact BK270.out) hb)
             have n1_ := Aside0.mk (blk_below (g := gb271) (o := .cells #[.int .i64 a1_0, .int .i64 a1_1, .int .i64 a1_2, .int .i64 a1_3, .int .i64 a1_4, .int .i64 a1_5] 30 (0, 0)) (by (with_reducible repeat (first | refine blk_drewN ?_ _ | refine blk_drew ?_ | refine blk_alloc ?_ _)); exact BK271.out) hb)
             have n2_ := Aside0.mk (blk_below (g := gb272) (o := .cells #[.int .i64 a2_0, .int .i64 a2_1] 61 (0, 0)) (by (with_reducible repeat (first | refine blk_drewN ?_ _ | refine blk_drew ?_ | refine blk_alloc ?_ _)); exact BK272.out) hb)
             have n3_ := Aside0.mk (blk_below (g := gb273) (o := .cells #[.int .i64 a3_0, .int .i64 a3_1] 26 (0, 0)) (by (with_reducible repeat (first | refine blk_drewN ?_ _ | refine blk_drew ?_ | refine blk_alloc ?_ _)); exact BK273.out) hb)
             have n4_ := Aside0.mk (blk_below (g := gb274) (o := .cells #[.int .i64 a4_0, .int .i64 a4_1] 26 (0, 0)) (by (with_reducible repeat (first | refine blk_drewN ?_ _ | refine blk_drew ?_ | refine blk_alloc ?_ _)); exact BK274.out) hb)
             have n5_ := Aside0.mk (below_step (by repeat (first | (with_reducible first | exact HB.out | apply below_alloc | apply pw_below_drewN | apply below_drew1 | refine below_set ?_ GE270.out | refine below_set ?_ GE271.out | refine below_set ?_ GE272.out | refine below_set ?_ GE273.out | refine below_set ?_ GE274.out) | exact HB.out)) hb)
             clear BK270
             clear BK271
             clear BK272
             clear BK273
             clear BK274
             clear HB
             have BK270 := n0_
             have BK271 := n1_
             have BK272 := n2_
             have BK273 := n3_
             have BK274 := n4_
             have HB := n5_
             clear n0_ n1_ n2_ n3_ n4_ n5_
             (try clear hb)
             (try clear hb2)
             (try clear hk)
             (try clear hi)
             refine hK.out _ _ ⟨(blk_cell BK273.out 0).trans rfl, (blk_cell BK273.out 1).trans rfl, (blk_cell BK274.out 0).trans rfl, (blk_cell BK274.out 1).trans rfl, (blk_cell BK272.out 0).trans rfl, (blk_cell BK272.out 1).trans rfl⟩ (fun hHeld => ?_)
             clear hK K
             refine norm_ (a' := ?_) ?_ ?_
             rotate_left
             · show Act.put _ (some 76) _ = _
               simp only [Act.put, List.setIfInBounds_toArray, List.set_cons_zero, List.set_cons_succ, i64_w, i32_w]
               rfl
             refine pure_ (i := 8) (N := some 82) (v := ?_) (a' := ?_) #[true, true, true, true, true, true, true, true, true, false, false, false, false, false, false, false, false, false, false] rfl rfl (any_of HT_.out (by kernel_rfl)) (fun _ _ _ h => h) (Or.inl ⟨by rfl, ?_⟩) ?_ ?_
             rotate_left
             · intro w'
               go_simp
               with_reducible rfl
             rotate_left
             · simp only [Act.put, List.setIfInBounds_toArray, List.set_cons_zero, List.set_cons_succ, i64_w, i32_w]
               rfl
             refine pure_ (i := 9) (N := some 83) (v := ?_) (a' := ?_) #[true, true, true, true, true, true, true, true, true, true, false, false, false, false, false, false, false, false, false] rfl rfl (any_of HT_.out (by kernel_rfl)) (fun _ _ _ h => h) (Or.inl ⟨by rfl, ?_⟩) ?_ ?_
             rotate_left
             · intro w'
               go_simp
               with_reducible rfl
             rotate_left
             · simp only [Act.put, List.setIfInBounds_toArray, List.set_cons_zero, List.set_cons_succ, i64_w, i32_w]
               rfl
             first
              | clear hm7_1
                refine pure_ (i := 10) (N := some 84) (v := undef) (a' := ?_) #[true, true, true, true, true, true, true, true, true, true, true, false, false, false, false, false, false, false, false] rfl rfl (any_of HT_.out (by kernel_rfl)) (fun _ _ _ h => h) (Or.inr ⟨by rfl, rfl⟩) ?_ ?_
                rotate_left
                · simp only [Act.put, List.setIfInBounds_toArray, List.set_cons_zero, List.set_cons_succ, i64_w, i32_w]
                  rfl
                refine pure_ (i := 11) (N := some 85) (v := undef) (a' := ?_) #[true, true, true, true, true, true, true, true, true, true, true, true, false, false, false, false, false, false, false] rfl rfl (any_of HT_.out (by kernel_rfl)) (fun _ _ _ h => h) (Or.inr ⟨by rfl, rfl⟩) ?_ ?_
                rotate_left
                · simp only [Act.put, List.setIfInBounds_toArray, List.set_cons_zero, List.set_cons_succ, i64_w, i32_w]
                  rfl
                refine pure_ (i := 12) (N := some 86) (v := undef) (a' := ?_) #[true, true, true, true, true, true, true, true, true, true, true, true, true, false, false, false, false, false, false] rfl rfl (any_of HT_.out (by kernel_rfl)) (fun _ _ _ h => h) (Or.inr ⟨by rfl, rfl⟩) ?_ ?_
                rotate_left
                · simp only [Act.put, List.setIfInBounds_toArray, List.set_cons_zero, List.set_cons_succ, i64_w, i32_w]
                  rfl
                refine pure_ (i := 13) (N := some 87) (v := undef) (a' := ?_) #[true, true, true, true, true, true, true, true, true, true, true, true, true, true, false, false, false, false, false] rfl rfl (any_of HT_.out (by kernel_rfl)) (fun _ _ _ h => h) (Or.inr ⟨by rfl, rfl⟩) ?_ ?_
                rotate_left
                · simp only [Act.put, List.setIfInBounds_toArray, List.set_cons_zero, List.set_cons_succ, i64_w, i32_w]
                  rfl
                refine pure_ (i := 14) (N := some 88) (v := undef) (a' := ?_) #[true, true, true, true, true, true, true, true, true, true, true, true, true, true, true, false, false, false, false] rfl rfl (any_of HT_.out (by kernel_rfl)) (fun _ _ _ h => h) (Or.inr ⟨by rfl, rfl⟩) ?_ ?_
                rotate_left
                · simp only [Act.put, List.setIfInBounds_toArray, List.set_cons_zero, List.set_cons_succ, i64_w, i32_w]
                  rfl
                refine pure_ (i := 15) (N := some 89) (v := undef) (a' := ?_) #[true, true, true, true, true, true, true, true, true, true, true, true, true, true, true, true, false, false, false] rfl rfl (any_of HT_.out (by kernel_rfl)) (fun _ _ _ h => h) (Or.inr ⟨by rfl, rfl⟩) ?_ ?_
                rotate_left
                · simp only [Act.put, List.setIfInBounds_toArray, List.set_cons_zero, List.set_cons_succ, i64_w, i32_w]
                  rfl
                refine pure_ (i := 16) (N := some 90) (v := undef) (a' := ?_) #[true, true, true, true, true, true, true, true, true, true, true, true, true, true, true, true, true, false, false] rfl rfl (any_of HT_.out (by kernel_rfl)) (fun _ _ _ h => h) (Or.inr ⟨by rfl, rfl⟩) ?_ ?_
                rotate_left
                · simp only [Act.put, List.setIfInBounds_toArray, List.set_cons_zero, List.set_cons_succ, i64_w, i32_w]
                  rfl
                refine pure_ (i := 17) (N := some 91) (v := ?_) (a' := ?_) #[true, true, true, true, true, true, true, true, true, true, true, true, true, true, true, true, true, true, false] rfl rfl (any_of HT_.out (by kernel_rfl)) (fun _ _ _ h => h) (Or.inl ⟨by rfl, ?_⟩) ?_ ?_
                rotate_left
                · intro w'
                  go_simp
                  with_reducible rfl
                rotate_left
                · simp only [Act.put, List.setIfInBounds_toArray, List.set_cons_zero, List.set_cons_succ, i64_w, i32_w]
                  rfl
                refine pure_ (i := 18) (N := some 14) (v := ?_) (a' := ?_) #[true, true, true, true, true, true, true, true, true, true, true, true, true, true, true, true, true, true, true] rfl rfl (any_of HT_.out (by kernel_rfl)) (fun _ _ _ h => h) (Or.inl ⟨by rfl, ?_⟩) ?_ ?_
                rotate_left
                · intro w'
                  go_simp
                  with_reducible rfl
                rotate_left
                · simp only [Act.put, List.setIfInBounds_toArray, List.set_cons_zero, List.set_cons_succ, i64_w, i32_w]
                  rfl
                refine done_ (done_of HT_.out (by kernel_rfl)) ?_
                try go_wp2
                go_ret
                exact ⟨by first | rfl | (simp [errW_none, errW_some] <;> rfl) | (simp [*, errW_none, errW_some] <;> rfl), by repeat (first | (with_reducible first | exact HB.out | apply below_alloc | apply pw_below_drewN | apply below_drew1 | refine below_set ?_ GE270.out | refine below_set ?_ GE271.out | refine below_set ?_ GE272.out | refine below_set ?_ GE273.out | refine below_set ?_ GE274.out) | exact HB.out)⟩
              | clear hm7_2
                refine pure_ (i := 10) (N := some 84) (v := ?_) (a' := ?_) #[true, true, true, true, true, true, true, true, true, true, true, false, false, false, false, false, false, false, false] rfl rfl (any_of HT_.out (by kernel_rfl)) (fun _ _ _ h => h) (Or.inl ⟨by rfl, ?_⟩) ?_ ?_
                rotate_left
                · intro w'
                  go_simp
                  with_reducible rfl
                rotate_left
                · simp only [Act.put, List.setIfInBounds_toArray, List.set_cons_zero, List.set_cons_succ, i64_w, i32_w]
                  rfl
                refine pure_ (i := 11) (N := some 85) (v := ?_) (a' := ?_) #[true, true, true, true, true, true, true, true, true, true, true, true, false, false, false, false, false, false, false] rfl rfl (any_of HT_.out (by kernel_rfl)) (fun _ _ _ h => h) (Or.inl ⟨by rfl, ?_⟩) ?_ ?_
                rotate_left
                · intro w'
                  go_simp
                  with_reducible rfl
                rotate_left
                · simp only [Act.put, List.setIfInBounds_toArray, List.set_cons_zero, List.set_cons_succ, i64_w, i32_w]
                  rfl
                refine pure_ (i := 12) (N := some 86) (v := ?_) (a' := ?_) #[true, true, true, true, true, true, true, true, true, true, true, true, true, false, false, false, false, false, false] rfl rfl (any_of HT_.out (by kernel_rfl)) (fun _ _ _ h => h) (Or.inl ⟨by rfl, ?_⟩) ?_ ?_
                rotate_left
                · intro w'
                  go_simp
                  with_reducible rfl
                rotate_left
                · simp only [Act.put, List.setIfInBounds_toArray, List.set_cons_zero, List.set_cons_succ, i64_w, i32_w]
                  rfl
                refine pure_ (i := 14) (N := some 88) (v := ?_) (a' := ?_) #[true, true, true, true, true, true, true, true, true, true, true, true, true, false, true, false, false, false, false] rfl rfl (any_of HT_.out (by kernel_rfl)) (fun _ _ _ h => h) (Or.inl ⟨by rfl, ?_⟩) ?_ ?_
                rotate_left
                · intro w'
                  go_simp
                  with_reducible rfl
                rotate_left
                · simp only [Act.put, List.setIfInBounds_toArray, List.set_cons_zero, List.set_cons_succ, i64_w, i32_w]
                  rfl
                refine take_ (i := 15) (N := some 89) (v := ?_) (a' := ?_) #[true, true, true, true, true, true, true, true, true, true, true, true, true, false, true, true, false, false, false] rfl rfl (take_ofW HT_.out HW_.out (by kernel_rfl)) (fun _ _ _ h => h) (Or.inl ⟨by rfl, ?_⟩) hHeld ?_ ?_
                rotate_left
                · rintro w' ⟨s0, s1, s2, s3, s4, s5⟩
                  go_simp
                  with_reducible rfl
                rotate_left
                · simp only [Act.put, List.setIfInBounds_toArray, List.set_cons_zero, List.set_cons_succ, i64_w, i32_w]
                  rfl
                refine one_ (i := 13) (N := some 87) #[true, true, true, true, true, true, true, true, true, true, true, true, true, true, true, true, false, false, false] rfl rfl (one_of HT_.out (by kernel_rfl)) (by decide) (fun K hK => ?_)
                refine goes_ Try.func33 (by kernel_rfl) rfl #[.int .i64 (wrap64 (a5 - a6))] (by rfl) rfl rfl (by (try simp only [List.map_toArray, List.map_cons, List.map_nil]); first | done | rfl | (simp only [List.length_drop, List.length_take]; rfl)) ?_
                with_reducible refine (skywayref1_Abs.calls (wrap64 (a5 - a6)) t289 _ A68.out).mono ?_
                rintro e wze3 ⟨rfl, hb⟩
                refine ⟨_, rfl, ?_⟩
                have n0_ := Aside0.mk (blk_below (g := gb270) (o := .cells #[.int .i64 a0_0, .int .i64 a0_1, .int .i64 a0_2, .int .i64 a0_3, .int .i64 a0_4, .int .i64 a0_5] 30 (0, 0)) (by (with_reducible repeat (first | refine blk_drewN ?_ _ | refine blk_drew ?_ | refine blk_alloc ?_ _)); exact BK270.out) hb)
                have n1_ := Aside0.mk (blk_below (g := gb271) (o := .cells #[.int .i64 a1_0, .int .i64 a1_1, .int .i64 a1_2, .int .i64 a1_3, .int .i64 a1_4, .int .i64 a1_5] 30 (0, 0)) (by (with_reducible repeat (first | refine blk_drewN ?_ _ | refine blk_drew ?_ | refine blk_alloc ?_ _)); exact BK271.out) hb)
                have n2_ := Aside0.mk (blk_below (g := gb272) (o := .cells #[.int .i64 a2_0, .int .i64 a2_1] 61 (0, 0)) (by (with_reducible repeat (first | refine blk_drewN ?_ _ | refine blk_drew ?_ | refine blk_alloc ?_ _)); exact BK272.out) hb)
                have n3_ := Aside0.mk (blk_below (g := gb273) (o := .cells #[.int .i64 a3_0, .int .i64 a3_1] 26 (0, 0)) (by (with_reducible repeat (first | refine blk_drewN ?_ _ | refine blk_drew ?_ | refine blk_alloc ?_ _)); exact BK273.out) hb)
                have n4_ := Aside0.mk (blk_below (g := gb274) (o := .cells #[.int .i64 a4_0, .int .i64 a4_1] 26 (0, 0)) (by (with_reducible repeat (first | refine blk_drewN ?_ _ | refine blk_drew ?_ | refine blk_alloc ?_ _)); exact BK274.out) hb)
                have n5_ := Aside0.mk (below_step (by repeat (first | (with_reducible first | exact HB.out | apply below_alloc | apply pw_below_drewN | apply below_drew1 | refine below_set ?_ GE270.out | refine below_set ?_ GE271.out | refine below_set ?_ GE272.out | refine below_set ?_ GE273.out | refine below_set ?_ GE274.out) | exact HB.out)) hb)
                clear BK270
                clear BK271
                clear BK272
                clear BK273
                clear BK274
                clear HB
                have BK270 := n0_
                have BK271 := n1_
                have BK272 := n2_
                have BK273 := n3_
                have BK274 := n4_
                have HB := n5_
                clear n0_ n1_ n2_ n3_ n4_ n5_
                (try clear hb)
                (try clear hb2)
                (try clear hk)
                (try clear hi)
                refine hK.out _ _ ⟨(blk_cell BK273.out 0).trans rfl, (blk_cell BK273.out 1).trans rfl, (blk_cell BK274.out 0).trans rfl, (blk_cell BK274.out 1).trans rfl, (blk_cell BK272.out 0).trans rfl, (blk_cell BK272.out 1).trans rfl⟩ (fun hHeld => ?_)
                clear hK K
                refine norm_ (a' := ?_) ?_ ?_
                rotate_left
                · show Act.put _ (some 87) _ = _
                  simp only [Act.put, List.setIfInBounds_toArray, List.set_cons_zero, List.set_cons_succ, i64_w, i32_w]
                  rfl
                refine pure_ (i := 16) (N := some 90) (v := ?_) (a' := ?_) #[true, true, true, true, true, true, true, true, true, true, true, true, true, true, true, true, true, false, false] rfl rfl (any_of HT_.out (by kernel_rfl)) (fun _ _ _ h => h) (Or.inl ⟨by rfl, ?_⟩) ?_ ?_
                rotate_left
                · intro w'
                  go_simp
                  with_reducible rfl
                rotate_left
                · simp only [Act.put, List.setIfInBounds_toArray, List.set_cons_zero, List.set_cons_succ, i64_w, i32_w]
                  rfl
                refine pure_ (i := 17) (N := some 91) (v := ?_) (a' := ?_) #[true, true, true, true, true, true, true, true, true, true, true, true, true, true, true, true, true, true, false] rfl rfl (any_of HT_.out (by kernel_rfl)) (fun _ _ _ h => h) (Or.inl ⟨by rfl, ?_⟩) ?_ ?_
                rotate_left
                · intro w'
                  go_simp
                  with_reducible rfl
                rotate_left
                · simp only [Act.put, List.setIfInBounds_toArray, List.set_cons_zero, List.set_cons_succ, i64_w, i32_w]
                  rfl
                refine pure_ (i := 18) (N := some 14) (v := ?_) (a' := ?_) #[true, true, true, true, true, true, true, true, true, true, true, true, true, true, true, true, true, true, true] rfl rfl (any_of HT_.out (by kernel_rfl)) (fun _ _ _ h => h) (Or.inl ⟨by rfl, ?_⟩) ?_ ?_
                rotate_left
                · intro w'
                  go_simp
                  with_reducible rfl
                rotate_left
                · simp only [Act.put, List.setIfInBounds_toArray, List.set_cons_zero, List.set_cons_succ, i64_w, i32_w]
                  rfl
                refine done_ (done_of HT_.out (by kernel_rfl)) ?_
                try go_wp2
                go_ret
                exact ⟨by first | rfl | (simp [errW_none, errW_some] <;> rfl) | (simp [*, errW_none, errW_some] <;> rfl), by repeat (first | (with_reducible first | exact HB.out | apply below_alloc | apply pw_below_drewN | apply below_drew1 | refine below_set ?_ GE270.out | refine below_set ?_ GE271.out | refine below_set ?_ GE272.out | refine below_set ?_ GE273.out | refine below_set ?_ GE274.out) | exact HB.out)⟩
 · replace c9 := Bool.eq_false_iff.mpr c9
   subst c9
   have H1 : (some false) = some r := by rw [if_neg (show ¬ (false = true) by decide)] at H; exact H
   clear H
   have H := H1
   clear H1
   obtain rfl := Option.some.inj H
   go_enter Try.func10, Try.ntmps10
   go_wp2_with (first | ((with_reducible refine gate_dst (N := 7) rfl ?_); refine box_event ?hg (N := 7) ?hd (cs := #[.int .i64 a0_0, .int .i64 a0_1, .int .i64 a0_2, .int .i64 a0_3, .int .i64 a0_4, .int .i64 a0_5]) (t := 30) ?hr ?_; (case hd => rfl); (case hg => rfl); (case hr => first | (go_simp; done) | (go_simp; rfl)); intro gb270 hg wx11aa1 hbox hb; have n0_ := Aside0.mk (below_step (by repeat (first | (with_reducible first | exact HB.out | apply below_alloc | apply pw_below_drewN | apply below_drew1) | exact HB.out)) hb); have n1_ := Aside0.mk (hbox); have n2_ := Aside0.mk ((by rw [hg]; exact (below_size (by repeat (first | (with_reducible first | exact HB.out | apply below_alloc | apply pw_below_drewN | apply below_drew1) | exact HB.out))) : w.heap.size ≤ gb270)); have n3_ := Aside0.mk ((by rw [hg]; exact (below_size (by repeat (first | (with_reducible first | exact HB.out | apply below_alloc | apply pw_below_drewN | apply below_drew1) | exact HB.out))) : w.heap.size ≤ gb270)); clear HB; have HB := n0_; have BK270 := n1_; have GW270 := n2_; have GE270 := n3_; clear n0_ n1_ n2_ n3_; clear hb hbox hg) | ((with_reducible refine gate_dst (N := 8) rfl ?_); refine box_event ?hg (N := 8) ?hd (cs := #[.int .i64 a1_0, .int .i64 a1_1, .int .i64 a1_2, .int .i64 a1_3, .int .i64 a1_4, .int .i64 a1_5]) (t := 30) ?hr ?_; (case hd => rfl); (case hg => rfl); (case hr => first | (go_simp; done) | (go_simp; rfl)); intro gb271 hg wx07ff1 hbox hb; have n0_ := Aside0.mk (blk_below (g := gb270) (o := .cells #[.int .i64 a0_0, .int .i64 a0_1, .int .i64 a0_2, .int .i64 a0_3, .int .i64 a0_4, .int .i64 a0_5] 30 (0, 0)) (by (with_reducible repeat (first | refine blk_drewN ?_ _ | refine blk_drew ?_ | refine blk_alloc ?_ _)); exact BK270.out) hb); have n1_ := Aside0.mk (below_step (by repeat (first | (with_reducible first | exact HB.out | apply below_alloc | apply pw_below_drewN | apply below_drew1 | refine below_set ?_ GE270.out) | exact HB.out)) hb); have n2_ := Aside0.mk (hbox); have n3_ := Aside0.mk ((by rw [hg]; exact (below_size (by repeat (first | (with_reducible first | exact HB.out | apply below_alloc | apply pw_below_drewN | apply below_drew1 | refine below_set ?_ GE270.out) | exact HB.out))) : w.heap.size ≤ gb271)); have n4_ := Aside0.mk ((by rw [hg]; exact (below_size (by repeat (first | (with_reducible first | exact HB.out | apply below_alloc | apply pw_below_drewN | apply below_drew1 | refine below_set ?_ GE270.out) | exact HB.out))) : w.heap.size ≤ gb271)); have n5_ := Aside0.mk ((by rw [hg]; exact Nat.ne_of_lt (blk_lt (g := gb270) (o := .cells #[.int .i64 a0_0, .int .i64 a0_1, .int .i64 a0_2, .int .i64 a0_3, .int .i64 a0_4, .int .i64 a0_5] 30 (0, 0)) (by (with_reducible repeat (first | refine blk_drewN ?_ _ | refine blk_drew ?_ | refine blk_alloc ?_ _)); exact BK270.out)) : gb270 ≠ gb271)); have n6_ := Aside0.mk ((by rw [hg]; exact Nat.ne_of_gt (blk_lt (g := gb270) (o := .cells #[.int .i64 a0_0, .int .i64 a0_1, .int .i64 a0_2, .int .i64 a0_3, .int .i64 a0_4, .int .i64 a0_5] 30 (0, 0)) (by (with_reducible repeat (first | refine blk_drewN ?_ _ | refine blk_drew ?_ | refine blk_alloc ?_ _)); exact BK270.out)) : gb271 ≠ gb270)); clear BK270; clear HB; have BK270 := n0_; have HB := n1_; have BK271 := n2_; have GW271 := n3_; have GE271 := n4_; have NB270_271 := n5_; have NB271_270 := n6_; clear n0_ n1_ n2_ n3_ n4_ n5_ n6_; clear hb hbox hg) | ((with_reducible refine gate_dst (N := 9) rfl ?_); refine box_event ?hg (N := 9) ?hd (cs := #[.int .i64 a2_0, .int .i64 a2_1]) (t := 61) ?hr ?_; (case hd => rfl); (case hg => rfl); (case hr => first | (go_simp; done) | (go_simp; rfl)); intro gb272 hg wx4c9c1 hbox hb; have n0_ := Aside0.mk (blk_below (g := gb270) (o := .cells #[.int .i64 a0_0, .int .i64 a0_1, .int .i64 a0_2, .int .i64 a0_3, .int .i64 a0_4, .int .i64 a0_5] 30 (0, 0)) (by (with_reducible repeat (first | refine blk_drewN ?_ _ | refine blk_drew ?_ | refine blk_alloc ?_ _)); exact BK270.out) hb); have n1_ := Aside0.mk (blk_below (g := gb271) (o := .cells #[.int .i64 a1_0, .int .i64 a1_1, .int .i64 a1_2, .int .i64 a1_3, .int .i64 a1_4, .int .i64 a1_5] 30 (0, 0)) (by (with_reducible repeat (first | refine blk_drewN ?_ _ | refine blk_drew ?_ | refine blk_alloc ?_ _)); exact BK271.out) hb); have n2_ := Aside0.mk (below_step (by repeat (first | (with_reducible first | exact HB.out | apply below_alloc | apply pw_below_drewN | apply below_drew1 | refine below_set ?_ GE270.out | refine below_set ?_ GE271.out) | exact HB.out)) hb); have n3_ := Aside0.mk (hbox); have n4_ := Aside0.mk ((by rw [hg]; exact (below_size (by repeat (first | (with_reducible first | exact HB.out | apply below_alloc | apply pw_below_drewN | apply below_drew1 | refine below_set ?_ GE270.out | refine below_set ?_ GE271.out) | exact HB.out))) : w.heap.size ≤ gb272)); have n5_ := Aside0.mk ((by rw [hg]; exact (below_size (by repeat (first | (with_reducible first | exact HB.out | apply below_alloc | apply pw_below_drewN | apply below_drew1 | refine below_set ?_ GE270.out | refine below_set ?_ GE271.out) | exact HB.out))) : w.heap.size ≤ gb272)); have n6_ := Aside0.mk ((by rw [hg]; exact Nat.ne_of_lt (blk_lt (g := gb270) (o := .cells #[.int .i64 a0_0, .int .i64 a0_1, .int .i64 a0_2, .int .i64 a0_3, .int .i64 a0_4, .int .i64 a0_5] 30 (0, 0)) (by (with_reducible repeat (first | refine blk_drewN ?_ _ | refine blk_drew ?_ | refine blk_alloc ?_ _)); exact BK270.out)) : gb270 ≠ gb272)); have n7_ := Aside0.mk ((by rw [hg]; exact Nat.ne_of_gt (blk_lt (g := gb270) (o := .cells #[.int .i64 a0_0, .int .i64 a0_1, .int .i64 a0_2, .int .i64 a0_3, .int .i64 a0_4, .int .i64 a0_5] 30 (0, 0)) (by (with_reducible repeat (first | refine blk_drewN ?_ _ | refine blk_drew ?_ | refine blk_alloc ?_ _)); exact BK270.out)) : gb272 ≠ gb270)); have n8_ := Aside0.mk ((by rw [hg]; exact Nat.ne_of_lt (blk_lt (g := gb271) (o := .cells #[.int .i64 a1_0, .int .i64 a1_1, .int .i64 a1_2, .int .i64 a1_3, .int .i64 a1_4, .int .i64 a1_5] 30 (0, 0)) (by (with_reducible repeat (first | refine blk_drewN ?_ _ | refine blk_drew ?_ | refine blk_alloc ?_ _)); exact BK271.out)) : gb271 ≠ gb272)); have n9_ := Aside0.mk ((by rw [hg]; exact Nat.ne_of_gt (blk_lt (g := gb271) (o := .cells #[.int .i64 a1_0, .int .i64 a1_1, .int .i64 a1_2, .int .i64 a1_3, .int .i64 a1_4, .int .i64 a1_5] 30 (0, 0)) (by (with_reducible repeat (first | refine blk_drewN ?_ _ | refine blk_drew ?_ | refine blk_alloc ?_ _)); exact BK271.out)) : gb272 ≠ gb271)); clear BK270; clear BK271; clear HB; have BK270 := n0_; have BK271 := n1_; have HB := n2_; have BK272 := n3_; have GW272 := n4_; have GE272 := n5_; have NB270_272 := n6_; have NB272_270 := n7_; have NB271_272 := n8_; have NB272_271 := n9_; clear n0_ n1_ n2_ n3_ n4_ n5_ n6_ n7_ n8_ n9_; clear hb hbox hg) | ((with_reducible refine gate_dst (N := 10) rfl ?_); refine box_event ?hg (N := 10) ?hd (cs := #[.int .i64 a3_0, .int .i64 a3_1]) (t := 26) ?hr ?_; (case hd => rfl); (case hg => rfl); (case hr => first | (go_simp; done) | (go_simp; rfl)); intro gb273 hg wxea6c1 hbox hb; have n0_ := Aside0.mk (blk_below (g := gb270) (o := .cells #[.int .i64 a0_0, .int .i64 a0_1, .int .i64 a0_2, .int .i64 a0_3, .int .i64 a0_4, .int .i64 a0_5] 30 (0, 0)) (by (with_reducible repeat (first | refine blk_drewN ?_ _ | refine blk_drew ?_ | refine blk_alloc ?_ _)); exact BK270.out) hb); have n1_ := Aside0.mk (blk_below (g := gb271) (o := .cells #[.int .i64 a1_0, .int .i64 a1_1, .int .i64 a1_2, .int .i64 a1_3, .int .i64 a1_4, .int .i64 a1_5] 30 (0, 0)) (by (with_reducible repeat (first | refine blk_drewN ?_ _ | refine blk_drew ?_ | refine blk_alloc ?_ _)); exact BK271.out) hb); have n2_ := Aside0.mk (blk_below (g := gb272) (o := .cells #[.int .i64 a2_0, .int .i64 a2_1] 61 (0, 0)) (by (with_reducible repeat (first | refine blk_drewN ?_ _ | refine blk_drew ?_ | refine blk_alloc ?_ _)); exact BK272.out) hb); have n3_ := Aside0.mk (below_step (by repeat (first | (with_reducible first | exact HB.out | apply below_alloc | apply pw_below_drewN | apply below_drew1 | refine below_set ?_ GE270.out | refine below_set ?_ GE271.out | refine below_set ?_ GE272.out) | exact HB.out)) hb); have n4_ := Aside0.mk (hbox); have n5_ := Aside0.mk ((by rw [hg]; exact (below_size (by repeat (first | (with_reducible first | exact HB.out | apply below_alloc | apply pw_below_drewN | apply below_drew1 | refine below_set ?_ GE270.out | refine below_set ?_ GE271.out | refine below_set ?_ GE272.out) | exact HB.out))) : w.heap.size ≤ gb273)); have n6_ := Aside0.mk ((by rw [hg]; exact (below_size (by repeat (first | (with_reducible first | exact HB.out | apply below_alloc | apply pw_below_drewN | apply below_drew1 | refine below_set ?_ GE270.out | refine below_set ?_ GE271.out | refine below_set ?_ GE272.out) | exact HB.out))) : w.heap.size ≤ gb273)); have n7_ := Aside0.mk ((by rw [hg]; exact Nat.ne_of_lt (blk_lt (g := gb270) (o := .cells #[.int .i64 a0_0, .int .i64 a0_1, .int .i64 a0_2, .int .i64 a0_3, .int .i64 a0_4, .int .i64 a0_5] 30 (0, 0)) (by (with_reducible repeat (first | refine blk_drewN ?_ _ | refine blk_drew ?_ | refine blk_alloc ?_ _)); exact BK270.out)) : gb270 ≠ gb273)); have n8_ := Aside0.mk ((by rw [hg]; exact Nat.ne_of_gt (blk_lt (g := gb270) (o := .cells #[.int .i64 a0_0, .int .i64 a0_1, .int .i64 a0_2, .int .i64 a0_3, .int .i64 a0_4, .int .i64 a0_5] 30 (0, 0)) (by (with_reducible repeat (first | refine blk_drewN ?_ _ | refine blk_drew ?_ | refine blk_alloc ?_ _)); exact BK270.out)) : gb273 ≠ gb270)); have n9_ := Aside0.mk ((by rw [hg]; exact Nat.ne_of_lt (blk_lt (g := gb271) (o := .cells #[.int .i64 a1_0, .int .i64 a1_1, .int .i64 a1_2, .int .i64 a1_3, .int .i64 a1_4, .int .i64 a1_5] 30 (0, 0)) (by (with_reducible repeat (first | refine blk_drewN ?_ _ | refine blk_drew ?_ | refine blk_alloc ?_ _)); exact BK271.out)) : gb271 ≠ gb273)); have n10_ := Aside0.mk ((by rw [hg]; exact Nat.ne_of_gt (blk_lt (g := gb271) (o := .cells #[.int .i64 a1_0, .int .i64 a1_1, .int .i64 a1_2, .int .i64 a1_3, .int .i64 a1_4, .int .i64 a1_5] 30 (0, 0)) (by (with_reducible repeat (first | refine blk_drewN ?_ _ | refine blk_drew ?_ | refine blk_alloc ?_ _)); exact BK271.out)) : gb273 ≠ gb271)); have n11_ := Aside0.mk ((by rw [hg]; exact Nat.ne_of_lt (blk_lt (g := gb272) (o := .cells #[.int .i64 a2_0, .int .i64 a2_1] 61 (0, 0)) (by (with_reducible repeat (first | refine blk_drewN ?_ _ | refine blk_drew ?_ | refine blk_alloc ?_ _)); exact BK272.out)) : gb272 ≠ gb273)); have n12_ := Aside0.mk ((by rw [hg]; exact Nat.ne_of_gt (blk_lt (g := gb272) (o := .cells #[.int .i64 a2_0, .int .i64 a2_1] 61 (0, 0)) (by (with_reducible repeat (first | refine blk_drewN ?_ _ | refine blk_drew ?_ | refine blk_alloc ?_ _)); exact BK272.out)) : gb273 ≠ gb272)); clear BK270; clear BK271; clear BK272; clear HB; have BK270 := n0_; have BK271 := n1_; have BK272 := n2_; have HB := n3_; have BK273 := n4_; have GW273 := n5_; have GE273 := n6_; have NB270_273 := n7_; have NB273_270 := n8_; have NB271_273 := n9_; have NB273_271 := n10_; have NB272_273 := n11_; have NB273_272 := n12_; clear n0_ n1_ n2_ n3_ n4_ n5_ n6_ n7_ n8_ n9_ n10_ n11_ n12_; clear hb hbox hg) | ((with_reducible refine gate_dst (N := 11) rfl ?_); refine box_event ?hg (N := 11) ?hd (cs := #[.int .i64 a4_0, .int .i64 a4_1]) (t := 26) ?hr ?_; (case hd => rfl); (case hg => rfl); (case hr => first | (go_simp; done) | (go_simp; rfl)); intro gb274 hg wxa3611 hbox hb; have n0_ := Aside0.mk (blk_below (g := gb270) (o := .cells #[.int .i64 a0_0, .int .i64 a0_1, .int .i64 a0_2, .int .i64 a0_3, .int .i64 a0_4, .int .i64 a0_5] 30 (0, 0)) (by (with_reducible repeat (first | refine blk_drewN ?_ _ | refine blk_drew ?_ | refine blk_alloc ?_ _)); exact BK270.out) hb); have n1_ := Aside0.mk (blk_below (g := gb271) (o := .cells #[.int .i64 a1_0, .int .i64 a1_1, .int .i64 a1_2, .int .i64 a1_3, .int .i64 a1_4, .int .i64 a1_5] 30 (0, 0)) (by (with_reducible repeat (first | refine blk_drewN ?_ _ | refine blk_drew ?_ | refine blk_alloc ?_ _)); exact BK271.out) hb); have n2_ := Aside0.mk (blk_below (g := gb272) (o := .cells #[.int .i64 a2_0, .int .i64 a2_1] 61 (0, 0)) (by (with_reducible repeat (first | refine blk_drewN ?_ _ | refine blk_drew ?_ | refine blk_alloc ?_ _)); exact BK272.out) hb); have n3_ := Aside0.mk (blk_below (g := gb273) (o := .cells #[.int .i64 a3_0, .int .i64 a3_1] 26 (0, 0)) (by (with_reducible repeat (first | refine blk_drewN ?_ _ | refine blk_drew ?_ | refine blk_alloc ?_ _)); exact BK273.out) hb); have n4_ := Aside0.mk (below_step (by repeat (first | (with_reducible first | exact HB.out | apply below_alloc | apply pw_below_drewN | apply below_drew1 | refine below_set ?_ GE270.out | refine below_set ?_ GE271.out | refine below_set ?_ GE272.out | refine below_set ?_ GE273.out) | exact HB.out)) hb); have n5_ := Aside0.mk (hbox); have n6_ := Aside0.mk ((by rw [hg]; exact (below_size (by repeat (first | (with_reducible first | exact HB.out | apply below_alloc | apply pw_below_drewN | apply below_drew1 | refine below_set ?_ GE270.out | refine below_set ?_ GE271.out | refine below_set ?_ GE272.out | refine below_set ?_ GE273.out) | exact HB.out))) : w.heap.size ≤ gb274)); have n7_ := Aside0.mk ((by rw [hg]; exact (below_size (by repeat (first | (with_reducible first | exact HB.out | apply below_alloc | apply pw_below_drewN | apply below_drew1 | refine below_set ?_ GE270.out | refine below_set ?_ GE271.out | refine below_set ?_ GE272.out | refine below_set ?_ GE273.out) | exact HB.out))) : w.heap.size ≤ gb274)); have n8_ := Aside0.mk ((by rw [hg]; exact Nat.ne_of_lt (blk_lt (g := gb270) (o := .cells #[.int .i64 a0_0, .int .i64 a0_1, .int .i64 a0_2, .int .i64 a0_3, .int .i64 a0_4, .int .i64 a0_5] 30 (0, 0)) (by (with_reducible repeat (first | refine blk_drewN ?_ _ | refine blk_drew ?_ | refine blk_alloc ?_ _)); exact BK270.out)) : gb270 ≠ gb274)); have n9_ := Aside0.mk ((by rw [hg]; exact Nat.ne_of_gt (blk_lt (g := gb270) (o := .cells #[.int .i64 a0_0, .int .i64 a0_1, .int .i64 a0_2, .int .i64 a0_3, .int .i64 a0_4, .int .i64 a0_5] 30 (0, 0)) (by (with_reducible repeat (first | refine blk_drewN ?_ _ | refine blk_drew ?_ | refine blk_alloc ?_ _)); exact BK270.out)) : gb274 ≠ gb270)); have n10_ := Aside0.mk ((by rw [hg]; exact Nat.ne_of_lt (blk_lt (g := gb271) (o := .cells #[.int .i64 a1_0, .int .i64 a1_1, .int .i64 a1_2, .int .i64 a1_3, .int .i64 a1_4, .int .i64 a1_5] 30 (0, 0)) (by (with_reducible repeat (first | refine blk_drewN ?_ _ | refine blk_drew ?_ | refine blk_alloc ?_ _)); exact BK271.out)) : gb271 ≠ gb274)); have n11_ := Aside0.mk ((by rw [hg]; exact Nat.ne_of_gt (blk_lt (g := gb271) (o := .cells #[.int .i64 a1_0, .int .i64 a1_1, .int .i64 a1_2, .int .i64 a1_3, .int .i64 a1_4, .int .i64 a1_5] 30 (0, 0)) (by (with_reducible repeat (first | refine blk_drewN ?_ _ | refine blk_drew ?_ | refine blk_alloc ?_ _)); exact BK271.out)) : gb274 ≠ gb271)); have n12_ := Aside0.mk ((by rw [hg]; exact Nat.ne_of_lt (blk_lt (g := gb272) (o := .cells #[.int .i64 a2_0, .int .i64 a2_1] 61 (0, 0)) (by (with_reducible repeat (first | refine blk_drewN ?_ _ | refine blk_drew ?_ | refine blk_alloc ?_ _)); exact BK272.out)) : gb272 ≠ gb274)); have n13_ := Aside0.mk ((by rw [hg]; exact Nat.ne_of_gt (blk_lt (g := gb272) (o := .cells #[.int .i64 a2_0, .int .i64 a2_1] 61 (0, 0)) (by (with_reducible repeat (first | refine blk_drewN ?_ _ | refine blk_drew ?_ | refine blk_alloc ?_ _)); exact BK272.out)) : gb274 ≠ gb272)); have n14_ := Aside0.mk ((by rw [hg]; exact Nat.ne_of_lt (blk_lt (g := gb273) (o := .cells #[.int .i64 a3_0, .int .i64 a3_1] 26 (0, 0)) (by (with_reducible repeat (first | refine blk_drewN ?_ _ | refine blk_drew ?_ | refine blk_alloc ?_ _)); exact BK273.out)) : gb273 ≠ gb274)); have n15_ := Aside0.mk ((by rw [hg]; exact Nat.ne_of_gt (blk_lt (g := gb273) (o := .cells #[.int .i64 a3_0, .int .i64 a3_1] 26 (0, 0)) (by (with_reducible repeat (first | refine blk_drewN ?_ _ | refine blk_drew ?_ | refine blk_alloc ?_ _)); exact BK273.out)) : gb274 ≠ gb273)); clear BK270; clear BK271; clear BK272; clear BK273; clear HB; have BK270 := n0_; have BK271 := n1_; have BK272 := n2_; have BK273 := n3_; have HB := n4_; have BK274 := n5_; have GW274 := n6_; have GE274 := n7_; have NB270_274 := n8_; have NB274_270 := n9_; have NB271_274 := n10_; have NB274_271 := n11_; have NB272_274 := n12_; have NB274_272 := n13_; have NB273_274 := n14_; have NB274_273 := n15_; clear n0_ n1_ n2_ n3_ n4_ n5_ n6_ n7_ n8_ n9_ n10_ n11_ n12_ n13_ n14_ n15_; clear hb hbox hg) | ((with_reducible refine gate_callee (f := 30) rfl ?_); refine goesL_ (some 21) rfl rfl Try.func30 (by kernel_rfl) rfl #[] rfl (by (try simp only [List.map_toArray, List.map_cons, List.map_nil]); first | done | rfl | (simp only [List.length_drop, List.length_take]; rfl)) ?_; (with_reducible refine (skywaykeep1_probeWorks.calls k  false _ A8.out).mono ?_); rintro e wx2f301 ⟨rfl, hb⟩; refine ⟨_, rfl, ?_⟩; have n0_ := Aside0.mk (blk_below (g := gb270) (o := .cells #[.int .i64 a0_0, .int .i64 a0_1, .int .i64 a0_2, .int .i64 a0_3, .int .i64 a0_4, .int .i64 a0_5] 30 (0, 0)) (by (with_reducible repeat (first | refine blk_drewN ?_ _ | refine blk_drew ?_ | refine blk_alloc ?_ _)); exact BK270.out) hb); have n1_ := Aside0.mk (blk_below (g := gb271) (o := .cells #[.int .i64 a1_0, .int .i64 a1_1, .int .i64 a1_2, .int .i64 a1_3, .int .i64 a1_4, .int .i64 a1_5] 30 (0, 0)) (by (with_reducible repeat (first | refine blk_drewN ?_ _ | refine blk_drew ?_ | refine blk_alloc ?_ _)); exact BK271.out) hb); have n2_ := Aside0.mk (blk_below (g := gb272) (o := .cells #[.int .i64 a2_0, .int .i64 a2_1] 61 (0, 0)) (by (with_reducible repeat (first | refine blk_drewN ?_ _ | refine blk_drew ?_ | refine blk_alloc ?_ _)); exact BK272.out) hb); have n3_ := Aside0.mk (blk_below (g := gb273) (o := .cells #[.int .i64 a3_0, .int .i64 a3_1] 26 (0, 0)) (by (with_reducible repeat (first | refine blk_drewN ?_ _ | refine blk_drew ?_ | refine blk_alloc ?_ _)); exact BK273.out) hb); have n4_ := Aside0.mk (blk_below (g := gb274) (o := .cells #[.int .i64 a4_0, .int .i64 a4_1] 26 (0, 0)) (by (with_reducible repeat (first | refine blk_drewN ?_ _ | refine blk_drew ?_ | refine blk_alloc ?_ _)); exact BK274.out) hb); have n5_ := Aside0.mk (below_step (by repeat (first | (with_reducible first | exact HB.out | apply below_alloc | apply pw_below_drewN | apply below_drew1 | refine below_set ?_ GE270.out | refine below_set ?_ GE271.out | refine below_set ?_ GE272.out | refine below_set ?_ GE273.out | refine below_set ?_ GE274.out) | exact HB.out)) hb); clear BK270; clear BK271; clear BK272; clear BK273; clear BK274; clear HB; have BK270 := n0_; have BK271 := n1_; have BK272 := n2_; have BK273 := n3_; have BK274 := n4_; have HB := n5_; clear n0_ n1_ n2_ n3_ n4_ n5_; (try clear hb); (try clear hb2); (try clear hk); (try clear hi)))
   go_ret
   exact ⟨by first | rfl | (simp [errW_none, errW_some] <;> rfl) | (simp [*, errW_none, errW_some] <;> rfl), by repeat (first | (with_reducible first | exact HB.out | apply below_alloc | apply pw_below_drewN | apply below_drew1 | refine below_set ?_ GE270.out | refine below_set ?_ GE271.out | refine below_set ?_ GE272.out | refine below_set ?_ GE273.out | refine below_set ?_ GE274.out) | exact HB.out)⟩

/-- What is told of a value of struct type 26 that came in. -/
def good26 (x : S26) : Prop := ((Lit.int .i64 x.f0).wf = true) ∧ (Lit.int .i64 x.f1).wf = true
/-- What is told of a value of struct type 28 that came in. -/
def good28 (x : S28) : Prop := ((Lit.int .i64 x.f0).wf = true) ∧ (good26 x.f1) ∧ (Lit.int .i64 x.f2).wf = true
/-- What is told of a value of struct type 30 that came in. -/
def good30 (x : S30) : Prop := (good28 x.f0) ∧ ((Lit.int .i64 x.f1).wf = true) ∧ (Lit.int .i64 x.f2).wf = true
/-- What is told of a value of struct type 61 that came in. -/
def good61 (x : S61) : Prop := ((Lit.int .i64 x.f0).wf = true) ∧ (Lit.int .i64 x.f1).wf = true
/-- THE ONE PURE STATEMENT of skywaykeep1_ProbeSafe. -/
def skywaykeep1_ProbeSafe.Pure : Prop := ∀ (a0_0 : Int) (a0_1 : Int) (a0_2 : Int) (a0_3 : Int) (a0_4 : Int) (a0_5 : Int) (a1_0 : Int) (a1_1 : Int) (a1_2 : Int) (a1_3 : Int) (a1_4 : Int) (a1_5 : Int) (a2_0 : Int) (a2_1 : Int) (a3_0 : Int) (a3_1 : Int) (a4_0 : Int) (a4_1 : Int) (a5 : Int) (a6 : Int), ((Lit.int .i64 a0_0).wf = true) → ((Lit.int .i64 a0_1).wf = true) → ((Lit.int .i64 a0_2).wf = true) → ((Lit.int .i64 a0_3).wf = true) → ((Lit.int .i64 a0_4).wf = true) → ((Lit.int .i64 a0_5).wf = true) → ((Lit.int .i64 a1_0).wf = true) → ((Lit.int .i64 a1_1).wf = true) → ((Lit.int .i64 a1_2).wf = true) → ((Lit.int .i64 a1_3).wf = true) → ((Lit.int .i64 a1_4).wf = true) → ((Lit.int .i64 a1_5).wf = true) → ((Lit.int .i64 a2_0).wf = true) → ((Lit.int .i64 a2_1).wf = true) → ((Lit.int .i64 a3_0).wf = true) → ((Lit.int .i64 a3_1).wf = true) → ((Lit.int .i64 a4_0).wf = true) → ((Lit.int .i64 a4_1).wf = true) → ((Lit.int .i64 a5).wf = true) → ((Lit.int .i64 a6).wf = true) → ∃ k, skywaykeep1_ProbeSafe.f k a0_0 a0_1 a0_2 a0_3 a0_4 a0_5 a1_0 a1_1 a1_2 a1_3 a1_4 a1_5 a2_0 a2_1 a3_0 a3_1 a4_0 a4_1 a5 a6 = some true

end Go.Proofs.Yteaddpieonkboab.PProbeSafe
