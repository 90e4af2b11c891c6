/- Made by wip/tools/myprint.py (over the kit's printer). -/
import Derived.Test.YthpbpdobghceeaaGreatDoorTSq3
import Derived.Test.YthpbpdobghceeaaGreatDoorPFlyWindsx0
import Derived.Test.YthpbpdobghceeaaGreatDoorPFlyWindsx1
import Derived.Test.YthpbpdobghceeaaGreatDoorPFlyWindsx3
import Derived.Test.YthpbpdobghceeaaGreatDoorPFlyWindsx11
import Derived.Test.YthpbpdobghceeaaGreatDoorPFlyWindsx12
import Derived.Test.YthpbpdobghceeaaGreatDoorPFlyWindsx13
import Derived.Test.YthpbpdobghceeaaGreatDoorPFlyWindsx14
namespace Go.Proofs.YthpbpdobghceeaaGreatDoor.PFlyWinds
open Go.RowKit Go.Proofs.YthpbpdobghceeaaGreatDoorW.PrintWords Go.Proofs.YthpbpdobghceeaaGreatDoorW.PrintLast Go.Proofs.YthpbpdobghceeaaGreatDoorW.PrintMore
attribute [local go_sem] max2_int min2_int max_two min_two max_three min_three max_four min_four
set_option linter.unusedVariables false
set_option maxRecDepth 100000
set_option maxHeartbeats 8000000
set_option linter.unusedSimpArgs false
attribute [local go_sem high] eqA54
def wind_ground.f (k : Nat) (a0 : Int) (a1 : Int) (a2_0 : Int) (a2_1 : Int) (a2_2 : Int) (a2_3 : Int) (a2_4 : Int) : Option (Int × Int) := (angle_Sin.f a1).bind fun t265 => ((angle_Cos.f a1).bind fun t266 => ((num_DivDown.f k (wrap64 ((wrap64 ((wrap64 (a2_2 * t265)) + (wrap64 (a2_3 * t266)))) - (wrap64 (a2_4 * (wrap64 ((mx t265 (wrap64 (-t265))) + (mx t266 (wrap64 (-t266))))))))) 16384).bind fun bt267 => ((num_DivUp.f k (wrap64 ((wrap64 ((wrap64 (a2_2 * t265)) + (wrap64 (a2_3 * t266)))) + (wrap64 (a2_4 * (wrap64 ((mx t265 (wrap64 (-t265))) + (mx t266 (wrap64 (-t266))))))))) 16384).bind fun bt269 => (some (mx 1 (wrap64 (a0 + bt267.1)), mx 1 (wrap64 (a0 + bt269.1)))))))
theorem wind_ground.mono : ∀ a0 a1 a2 a3 a4 a5 a6 k, LeO (wind_ground.f k a0 a1 a2 a3 a4 a5 a6) (wind_ground.f (k + 1) a0 a1 a2 a3 a4 a5 a6) := by
  intro a0 a1 a2 a3 a4 a5 a6 k; unfold wind_ground.f
  repeat' with_reducible first | apply num_DivDown.mono | apply num_DivUp.mono | apply LeO.refl | apply LeO.none | apply LeO.ite | refine LeO.bind ?_ (fun _ => ?_)
theorem wind_ground.calls (k : Nat) (a0 : Int) (a1 : Int) (a2_0 : Int) (a2_1 : Int) (a2_2 : Int) (a2_3 : Int) (a2_4 : Int) (r1 : Int) (r2 : Int) (w : World) (h : wind_ground.f k a0 a1 a2_0 a2_1 a2_2 a2_3 a2_4 = some (r1, r2)) (hT0 : Ang.Tab w := by exact Ang.Tab.below hT0 (by repeat (first | (with_reducible first | exact HB.out | apply below_alloc | apply pw_below_drewN | apply below_drew1) | exact HB.out | (refine Below.setCell ?_ (by dsimp only; exact Aside0.out (by assumption)) _)))) :
    Calls Tryz.prog 63 #[.int .i64 a0, .int .i64 a1, .agg #[.int .i64 a2_0, .int .i64 a2_1, .int .i64 a2_2, .int .i64 a2_3, .int .i64 a2_4]] w fun e w' => e = .returned (.tuple #[.int .i64 r1, .int .i64 r2]) ∧ Below w.heap.size w w' := by
 have hu131 := Tryz.underlying131; have HB := Aside0.mk (Below.refl w.heap.size w); have H := h; unfold wind_ground.f at H; clear h; replace H := Option.bind_eq_some_iff.mp H; obtain ⟨t265, A40, H⟩ := H; (try dsimp only at H); have A4 := Aside0.mk A40; clear A40; replace H := Option.bind_eq_some_iff.mp H; obtain ⟨t266, A50, H⟩ := H; (try dsimp only at H); have A5 := Aside0.mk A50; clear A50; obtain ⟨ji6, hji6⟩ : ∃ j_ : Int, (mx t265 (wrap64 (-t265))) = j_ := ⟨_, rfl⟩
 (first | rw [hji6] at H | simp only [hji6] at H)
 (try rw [hji6] at A4)
 (try rw [hji6] at A5)
 have hji6_ : (if t265 < (wrap64 (-t265)) then (wrap64 (-t265)) else t265) = ji6 := hji6; obtain ⟨ji7, hji7⟩ : ∃ j_ : Int, (mx t266 (wrap64 (-t266))) = j_ := ⟨_, rfl⟩
 (first | rw [hji7] at H | simp only [hji7] at H)
 (try rw [hji7] at A4)
 (try rw [hji7] at A5)
 have hji7_ : (if t266 < (wrap64 (-t266)) then (wrap64 (-t266)) else t266) = ji7 := hji7; replace H := Option.bind_eq_some_iff.mp H; obtain ⟨⟨t267, t268⟩, A80, H⟩ := H; (try dsimp only at H); have A8 := Aside0.mk A80; clear A80; replace H := Option.bind_eq_some_iff.mp H; obtain ⟨⟨t269, t270⟩, A90, H⟩ := H; (try dsimp only at H); have A9 := Aside0.mk A90; clear A90; obtain ⟨ji10, hji10⟩ : ∃ j_ : Int, (mx 1 (wrap64 (a0 + t267))) = j_ := ⟨_, rfl⟩
 (first | rw [hji10] at H | simp only [hji10] at H)
 (try rw [hji10] at A4)
 (try rw [hji10] at A5)
 (try rw [hji10] at A8)
 (try rw [hji10] at A9)
 (try (have hji10l : 1 ≤ ji10 := by (rw [← hji10]; unfold mx; (repeat' split) <;> omega)))
 (try (have hji10m : 0 ≤ ji10 := by omega))
 have hji10_ : (if 1 < (wrap64 (a0 + t267)) then (wrap64 (a0 + t267)) else 1) = ji10 := hji10; obtain ⟨ji11, hji11⟩ : ∃ j_ : Int, (mx 1 (wrap64 (a0 + t269))) = j_ := ⟨_, rfl⟩
 (first | rw [hji11] at H | simp only [hji11] at H)
 (try rw [hji11] at A4)
 (try rw [hji11] at A5)
 (try rw [hji11] at A8)
 (try rw [hji11] at A9)
 (try (have hji11l : 1 ≤ ji11 := by (rw [← hji11]; unfold mx; (repeat' split) <;> omega)))
 (try (have hji11m : 0 ≤ ji11 := by omega))
 have hji11_ : (if 1 < (wrap64 (a0 + t269)) then (wrap64 (a0 + t269)) else 1) = ji11 := hji11; simp only [Option.some.injEq, Prod.mk.injEq] at H; obtain ⟨rfl, rfl⟩ := H; go_enter Tryz.func63, Tryz.ntmps63
 go_wp2_with (first | ((with_reducible refine gate_dst (N := 5) rfl ?_); refine box_s #[.int .i64 a2_0, .int .i64 a2_1, .int .i64 a2_2, .int .i64 a2_3, .int .i64 a2_4] 131 ?_; intro gb264 hg w12 hbox hb; have BK264 := Aside0.mk (hbox); have GW264 := ge HB hg; have GE264 := ge HB hg; replace HB := st HB hb; clear hb hbox hg) | ((with_reducible refine gate_callee (f := 99) rfl ?_); refine goesL_ (some 17) rfl rfl Tryz.func99 (by kernel_rfl) rfl #[.int .i64 a1] rfl any_s ?_; (with_reducible refine (angle_Sin.calls a1 t265 _ A4.out).mono ?_); rintro e w13 ⟨rfl, hb⟩; refine ⟨_, rfl, ?_⟩; replace BK264 := kp BK264 hb; replace HB := st HB hb) | ((with_reducible refine gate_callee (f := 100) rfl ?_); refine goesL_ (some 19) rfl rfl Tryz.func100 (by kernel_rfl) rfl #[.int .i64 a1] rfl any_s ?_; (with_reducible refine (angle_Cos.calls a1 t266 _ A5.out).mono ?_); rintro e w14 ⟨rfl, hb⟩; refine ⟨_, rfl, ?_⟩; replace BK264 := kp BK264 hb; replace HB := st HB hb; obtain ⟨hcz15_0, hcz15_1, hcz15_2, hcz15_3, hcz15_4, hfz15_0, hfz15_1, hfz15_2, hfz15_3, hfz15_4⟩ := bq5 BK264) | ((with_reducible refine gate_callee (f := 85) rfl ?_); refine goesL_ (some 47) rfl rfl Tryz.func85 (by kernel_rfl) rfl #[.int .i64 (wrap64 ((wrap64 ((wrap64 (a2_2 * t265)) + (wrap64 (a2_3 * t266)))) - (wrap64 (a2_4 * (wrap64 ((ji6) + (ji7))))))), .int .i64 16384] rfl (by (try simp only [List.map_toArray, List.map_cons, List.map_nil]); first | done | (simp only [hji6, hji7]; rfl) | rfl | (simp only [List.length_drop, List.length_take]; rfl)) ?_; (with_reducible refine (num_DivDown.calls k (wrap64 ((wrap64 ((wrap64 (a2_2 * t265)) + (wrap64 (a2_3 * t266)))) - (wrap64 (a2_4 * (wrap64 ((ji6) + (ji7))))))) 16384 t267 t268 _ A8.out).mono ?_); rintro e w16 ⟨rfl, hb⟩; refine ⟨_, rfl, ?_⟩; replace BK264 := kp BK264 hb; replace HB := st HB hb) | ((with_reducible refine gate_callee (f := 40) rfl ?_); refine goesL_ (some 54) rfl rfl Tryz.func40 (by kernel_rfl) rfl #[.int .i64 (wrap64 ((wrap64 ((wrap64 (a2_2 * t265)) + (wrap64 (a2_3 * t266)))) + (wrap64 (a2_4 * (wrap64 ((ji6) + (ji7))))))), .int .i64 16384] rfl (by (try simp only [List.map_toArray, List.map_cons, List.map_nil]); first | done | (simp only [hji6, hji7]; rfl) | rfl | (simp only [List.length_drop, List.length_take]; rfl)) ?_; (with_reducible refine (num_DivUp.calls k (wrap64 ((wrap64 ((wrap64 (a2_2 * t265)) + (wrap64 (a2_3 * t266)))) + (wrap64 (a2_4 * (wrap64 ((ji6) + (ji7))))))) 16384 t269 t270 _ A9.out).mono ?_); rintro e w17 ⟨rfl, hb⟩; refine ⟨_, rfl, ?_⟩; replace BK264 := kp BK264 hb; replace HB := st HB hb))
 go_ret2
 exact ⟨by first | rfl | (simp [errW_none, errW_some] <;> rfl) | (simp only [← hji6, ← hji7, ← hji10, ← hji11]; first | rfl | (simp [errW_none, errW_some] <;> rfl)) | (simp [*, errW_none, errW_some] <;> rfl), bel_s⟩
def wind_at.l0 : Nat → Int → List (S131) → Int → Int → Option (Int × Int × Int × Int × Int)
  | 0, _, _, _, _ => none
  | k + 1, x1, x7, x8, x9 => if x9 < x8 then (if 0 ≤ x9 then (if x9 < (x7.length : Int) then (if x1 ≥ ((rd_T131 x7 x9).f0) then (if x1 < ((rd_T131 x7 x9).f1) then (some ((rd_T131 x7 x9).f0, (rd_T131 x7 x9).f1, (rd_T131 x7 x9).f2.f0, (rd_T131 x7 x9).f2.f1, (rd_T131 x7 x9).f3)) else (wind_at.l0 k x1 x7 x8 (wrap64 (x9 + 1)))) else (wind_at.l0 k x1 x7 x8 (wrap64 (x9 + 1)))) else (none)) else (none)) else (some (0, 60001, 0, 0, 0))
def wind_at.f (k : Nat) (l0 : List (S131)) (a1 : Int) : Option (Int × Int × Int × Int × Int) := wind_at.l0 k a1 l0 (l0.length : Int) 0
theorem wind_at.mono_l : ∀ k, (∀ y0 y1 y2 y3, LeO (wind_at.l0 k y0 y1 y2 y3) (wind_at.l0 (k + 1) y0 y1 y2 y3))
  | 0 => fun _ _ _ _ r h => by simp [wind_at.l0] at h
  | k + 1 => by
    have ih0 := wind_at.mono_l k
    · intro y0 y1 y2 y3; unfold wind_at.l0
      repeat' with_reducible first | apply ih0 | apply LeO.refl | apply LeO.none | apply LeO.ite | refine LeO.bind ?_ (fun _ => ?_)
theorem wind_at.mono : ∀ a0 a1 k, LeO (wind_at.f k a0 a1) (wind_at.f (k + 1) a0 a1) := by
  intro a0 a1 k; have ih0 := wind_at.mono_l k; unfold wind_at.f
  repeat' with_reducible first | apply ih0 | apply LeO.refl | apply LeO.none | apply LeO.ite | refine LeO.bind ?_ (fun _ => ?_)
theorem wind_at.calls (k : Nat) (A0 : Option Addr) (c0 : Nat) (l0 : List (S131)) (a1 : Int) (r1 : Int) (r2 : Int) (r3 : Int) (r4 : Int) (r5 : Int) (w : World) (hr0 : Kd.C k131 w A0 l0.length l0) (hc0 : l0.length ≤ c0) (h : wind_at.f k l0 a1 = some (r1, r2, r3, r4, r5)) :
    Calls Tryz.prog 64 #[.slice A0 l0.length c0, .int .i64 a1] w fun e w' => e = .returned (.agg #[.int .i64 r1, .int .i64 r2, .int .i64 r3, .int .i64 r4, .int .i64 r5]) ∧ Below w.heap.size w w' := by
 have hu131 := Tryz.underlying131; have HR0 := Aside0.mk hr0; have HC0 := Aside0.mk hc0; clear hr0 hc0; have HB := Aside0.mk (Below.refl w.heap.size w); have H := h; unfold wind_at.f at H; clear h; have H' := Aside0.mk H; clear H; go_enter Tryz.func64, Tryz.ntmps64
 go_wp2_with (first | ((with_reducible refine gate_dst (N := 4) rfl ?_); refine box_s #[.int .i64 0, .int .i64 0, .int .i64 0, .int .i64 0, .int .i64 0] 131 ?_; intro gb271 hg w3 hbox hb; have BK271 := Aside0.mk (hbox); have GW271 := ge HB hg; have GE271 := ge HB hg; replace HB := st HB hb; clear hb hbox hg))
 go_loopg [9] k (fun kq v9 w' => ∃ (x9_1 : Int) (x272000_1 : Int) (x272001_1 : Int) (x272002_1 : Int) (x272003_1 : Int) (x272004_1 : Int), v9 = .int .i64 x9_1 ∧ Aside0 (wind_at.l0 kq a1 l0 (l0.length : Int) x9_1 = some (r1, r2, r3, r4, r5)) ∧ Aside0 (kq ≤ k) ∧ Aside0 (w'.heap[gb271]? = some (.cells #[.int .i64 x272000_1, .int .i64 x272001_1, .int .i64 x272002_1, .int .i64 x272003_1, .int .i64 x272004_1] 131 (0, 0))) ∧ Aside0 (Below w.heap.size w w'))
 case atStart => exact ⟨(0), (0), (0), (0), (0), (0), rs_, H', ⟨Nat.le_refl _⟩, ⟨blk_s⟩, ⟨bel_s⟩⟩
 case round =>
  clear H'
  obtain ⟨x9_1, x272000_1, x272001_1, x272002_1, x272003_1, x272004_1, rfl, HA, HK1, BK271, HB⟩ := hrel
  cases gk with
  | zero => exact absurd HA.out (by simp [wind_at.l0])
  | succ k1 =>
   have H := HA.out; clear HA; simp only [wind_at.l0] at H; refine Or.elim (Classical.em (x9_1 < (l0.length : Int))) (fun c4 => ?p2_) (fun c4 => ?n2_)
   case' p2_ =>
    rw [if_pos c4] at H; have c4b0 := decide_eq_true c4; clear c4; obtain ⟨c5b0, H⟩ := ip_ H; obtain ⟨c6b0, H⟩ := ip_ H; refine Or.elim (Classical.em (a1 ≥ ((rd_T131 l0 x9_1).f0))) (fun c7 => ?p5_) (fun c7 => ?n5_)
    case' p5_ =>
     rw [if_pos c7] at H; have c7b0 := decide_eq_true c7; clear c7; refine Or.elim (Classical.em (a1 < ((rd_T131 l0 x9_1).f1))) (fun c8 => ?p6_) (fun c8 => ?n6_)
     case' p6_ =>
      rw [if_pos c8] at H; have c8b0 := decide_eq_true c8; clear c8; simp only [Option.some.injEq, Prod.mk.injEq] at H; obtain ⟨rfl, rfl, rfl, rfl, rfl⟩ := H
      have p272 : 0 ≤ (x9_1 : Int) := od_
      have q272 : x9_1 < (l0.length : Int) := od_
      obtain ⟨ad272, e272, hx272_0, hx272_1, hx272_2, hx272_3, hx272_4⟩ := at_T131 HR0.out x9_1 p272 q272; cases e272; replace hx272_0 := cl HB hx272_0; replace hx272_1 := cl HB hx272_1; replace hx272_2 := cl HB hx272_2; replace hx272_3 := cl HB hx272_3; replace hx272_4 := cl HB hx272_4; replace p272 := eq_true p272; replace q272 := eq_true q272; have hm1_0 := Aside0.mk trivial
     case' n6_ =>
      rw [if_neg c8] at H; have c8b0 := decide_eq_false c8; clear c8; have hm1_1 := Aside0.mk trivial
    case' n5_ =>
     rw [if_neg c7] at H; have c7b0 := decide_eq_false c7; clear c7; have hm1_1 := Aside0.mk trivial
   case' n2_ =>
    rw [if_neg c4] at H; have c4b0 := decide_eq_false c4; clear c4; simp only [Option.some.injEq, Prod.mk.injEq] at H; obtain ⟨rfl, rfl, rfl, rfl, rfl⟩ := H; have hm1_2 := Aside0.mk trivial
   all_goals
    first
     | clear hm1_0
       go_wp2_with (first | ((with_reducible refine gate_dst (N := 6) rfl ?_); refine box_s #[.int .i64 0, .int .i64 0, .int .i64 0, .int .i64 0, .int .i64 0] 131 ?_; intro gb273 hg wx6aae1 hbox hb; have BK273 := Aside0.mk (hbox); have GW273 := ge HB hg; have GE273 := ge HB hg; replace HB := st HB hb; have NB271_273 := nl BK271 hg; have NB273_271 := nr BK271 hg; replace BK271 := kp BK271 hb; clear hb hbox hg; have hnbx6aae1 := NB273_271.out; have hncx6aae1 := NB271_273.out; obtain ⟨hczx6aae1, hczx6aae2, hczx6aae3, hczx6aae4, hczx6aae5, hfzx6aae1, hfzx6aae2, hfzx6aae3, hfzx6aae4, hfzx6aae5⟩ := bq5 BK273; obtain ⟨hczx6aae6, hczx6aae7, hczx6aae8, hczx6aae9, hczx6aae10, hfzx6aae6, hfzx6aae7, hfzx6aae8, hfzx6aae9, hfzx6aae10⟩ := bq5 BK271))
       refine bodyPost_ret (results_cell_row rfl _ _ gb271 131 #[.int .i64 ((rd_T131 l0 x9_1).f0), .int .i64 ((rd_T131 l0 x9_1).f1), .int .i64 ((rd_T131 l0 x9_1).f2.f0), .int .i64 ((rd_T131 l0 x9_1).f2.f1), .int .i64 ((rd_T131 l0 x9_1).f3)] (0, 0) _ rfl (by (with_reducible repeat (first | refine blk_drewN ?_ _ | refine blk_drew ?_ | refine blk_alloc ?_ _)); refine blk_put (cs := #[.int .i64 ((rd_T131 l0 x9_1).f0), .int .i64 ((rd_T131 l0 x9_1).f1), .int .i64 ((rd_T131 l0 x9_1).f2.f0), .int .i64 ((rd_T131 l0 x9_1).f2.f1), .int .i64 x272004_1]) ?_ 4 _ rfl; (with_reducible repeat (first | refine blk_drewN ?_ _ | refine blk_drew ?_ | refine blk_alloc ?_ _)); refine blk_put (cs := #[.int .i64 ((rd_T131 l0 x9_1).f0), .int .i64 ((rd_T131 l0 x9_1).f1), .int .i64 ((rd_T131 l0 x9_1).f2.f0), .int .i64 x272003_1, .int .i64 x272004_1]) ?_ 3 _ rfl; (with_reducible repeat (first | refine blk_drewN ?_ _ | refine blk_drew ?_ | refine blk_alloc ?_ _)); refine blk_put (cs := #[.int .i64 ((rd_T131 l0 x9_1).f0), .int .i64 ((rd_T131 l0 x9_1).f1), .int .i64 x272002_1, .int .i64 x272003_1, .int .i64 x272004_1]) ?_ 2 _ rfl; (with_reducible repeat (first | refine blk_drewN ?_ _ | refine blk_drew ?_ | refine blk_alloc ?_ _)); refine blk_put (cs := #[.int .i64 ((rd_T131 l0 x9_1).f0), .int .i64 x272001_1, .int .i64 x272002_1, .int .i64 x272003_1, .int .i64 x272004_1]) ?_ 1 _ rfl; (with_reducible repeat (first | refine blk_drewN ?_ _ | refine blk_drew ?_ | refine blk_alloc ?_ _)); refine blk_put (cs := #[.int .i64 x272000_1, .int .i64 x272001_1, .int .i64 x272002_1, .int .i64 x272003_1, .int .i64 x272004_1]) ?_ 0 _ rfl; (with_reducible repeat (first | refine blk_drewN ?_ _ | refine blk_drew ?_ | refine blk_alloc ?_ _)); refine blk_far ?_ NB271_273.out _; (with_reducible repeat (first | refine blk_drewN ?_ _ | refine blk_drew ?_ | refine blk_alloc ?_ _)); refine blk_far ?_ NB271_273.out _; (with_reducible repeat (first | refine blk_drewN ?_ _ | refine blk_drew ?_ | refine blk_alloc ?_ _)); refine blk_far ?_ NB271_273.out _; (with_reducible repeat (first | refine blk_drewN ?_ _ | refine blk_drew ?_ | refine blk_alloc ?_ _)); refine blk_far ?_ NB271_273.out _; (with_reducible repeat (first | refine blk_drewN ?_ _ | refine blk_drew ?_ | refine blk_alloc ?_ _)); refine blk_far ?_ NB271_273.out _; (with_reducible repeat (first | refine blk_drewN ?_ _ | refine blk_drew ?_ | refine blk_alloc ?_ _)); exact BK271.out) Tryz.underlying131 rfl (by kernel_rfl)) rfl ?_
       exact ⟨er_, bel_s⟩
     | clear hm1_1; have H' := Aside0.mk H; clear H
       have p272 : 0 ≤ (x9_1 : Int) := od_
       have q272 : x9_1 < (l0.length : Int) := od_
       obtain ⟨ad272, e272, hx272_0, hx272_1, hx272_2, hx272_3, hx272_4⟩ := at_T131 HR0.out x9_1 p272 q272; cases e272; replace hx272_0 := cl HB hx272_0; replace hx272_1 := cl HB hx272_1; replace hx272_2 := cl HB hx272_2; replace hx272_3 := cl HB hx272_3; replace hx272_4 := cl HB hx272_4; replace p272 := eq_true p272; replace q272 := eq_true q272
       go_wp2_with (first | ((with_reducible refine gate_dst (N := 6) rfl ?_); refine box_s #[.int .i64 0, .int .i64 0, .int .i64 0, .int .i64 0, .int .i64 0] 131 ?_; intro gb273 hg wx3eb21 hbox hb; have BK273 := Aside0.mk (hbox); have GW273 := ge HB hg; have GE273 := ge HB hg; replace HB := st HB hb; have NB271_273 := nl BK271 hg; have NB273_271 := nr BK271 hg; replace BK271 := kp BK271 hb; clear hb hbox hg; have hnbx3eb21 := NB273_271.out; have hncx3eb21 := NB271_273.out; obtain ⟨hczx3eb21, hczx3eb22, hczx3eb23, hczx3eb24, hczx3eb25, hfzx3eb21, hfzx3eb22, hfzx3eb23, hfzx3eb24, hfzx3eb25⟩ := bq5 BK273))
       go_roundg k1
       case measure => have := HK1.out; omega
       case rel => exact ⟨(wrap64 (x9_1 + 1)), (x272000_1), (x272001_1), (x272002_1), (x272003_1), (x272004_1), rs_, H', ⟨by have := HK1.out; omega⟩, ⟨blk_s⟩, ⟨bel_s⟩⟩
     | clear hm1_2; obtain ⟨hczzc1, hczzc2, hczzc3, hczzc4, hczzc5, hfzzc1, hfzzc2, hfzzc3, hfzzc4, hfzzc5⟩ := bq5 BK271; go_wp2; refine bodyPost_ret (results_cell_row rfl _ _ gb271 131 #[.int .i64 0, .int .i64 60001, .int .i64 0, .int .i64 0, .int .i64 0] (0, 0) _ rfl (by (with_reducible repeat (first | refine blk_drewN ?_ _ | refine blk_drew ?_ | refine blk_alloc ?_ _)); refine blk_put (cs := #[.int .i64 0, .int .i64 60001, .int .i64 0, .int .i64 0, .int .i64 x272004_1]) ?_ 4 _ rfl; (with_reducible repeat (first | refine blk_drewN ?_ _ | refine blk_drew ?_ | refine blk_alloc ?_ _)); refine blk_put (cs := #[.int .i64 0, .int .i64 60001, .int .i64 0, .int .i64 x272003_1, .int .i64 x272004_1]) ?_ 3 _ rfl; (with_reducible repeat (first | refine blk_drewN ?_ _ | refine blk_drew ?_ | refine blk_alloc ?_ _)); refine blk_put (cs := #[.int .i64 0, .int .i64 60001, .int .i64 x272002_1, .int .i64 x272003_1, .int .i64 x272004_1]) ?_ 2 _ rfl; (with_reducible repeat (first | refine blk_drewN ?_ _ | refine blk_drew ?_ | refine blk_alloc ?_ _)); refine blk_put (cs := #[.int .i64 0, .int .i64 x272001_1, .int .i64 x272002_1, .int .i64 x272003_1, .int .i64 x272004_1]) ?_ 1 _ rfl; (with_reducible repeat (first | refine blk_drewN ?_ _ | refine blk_drew ?_ | refine blk_alloc ?_ _)); refine blk_put (cs := #[.int .i64 x272000_1, .int .i64 x272001_1, .int .i64 x272002_1, .int .i64 x272003_1, .int .i64 x272004_1]) ?_ 0 _ rfl; (with_reducible repeat (first | refine blk_drewN ?_ _ | refine blk_drew ?_ | refine blk_alloc ?_ _)); exact BK271.out) Tryz.underlying131 rfl (by kernel_rfl)) rfl ?_
       exact ⟨er_, bel_s⟩
mutual
def wind_Leg.j0 : Nat → List (S131) → Int → Int → Bool → Int → Int → Int → Int → Option (Int × Int × Int)
  | 0, _, _, _, _, _, _, _, _ => none
  | k + 1, x0, x1, x2, x43, x275000, x275001, x276000, x276001 => if x43 = true then (some (0, 0, 4)) else ((some (([(⟨x275000, x275001⟩ : S54), (⟨x276000, x276001⟩ : S54)] : List (S54)) : List (S54))).bind fun y277 => (wind_Leg.l0 k x0 x1 x2 y277 (y277.length : Int) 0 x275000 x275001 x276000 x276001))
def wind_Leg.l0 : Nat → List (S131) → Int → Int → List (S54) → Int → Int → Int → Int → Int → Int → Option (Int × Int × Int)
  | 0, _, _, _, _, _, _, _, _, _, _ => none
  | k + 1, x0, x1, x2, x46, x47, x48, x275000, x275001, x276000, x276001 => if x48 < x47 then (if 0 ≤ x48 then (if x48 < (x46.length : Int) then ((plane_Check.f ((rd_T54 x46 x48).f0) ((rd_T54 x46 x48).f1)).bind fun t282 => (if t282 = 0 then (wind_Leg.l0 k x0 x1 x2 x46 x47 (wrap64 (x48 + 1)) x275000 x275001 x276000 x276001) else (some (0, 0, t282)))) else (none)) else (none)) else (if (x275000 == x276000 && (x275001 == x276001)) = true then (some (0, 0, 0)) else ((plane_Sub.f x276000 x276001 x275000 x275001).bind fun bt283 => ((angle_Of.f bt283.1 bt283.2).bind fun bt285 => ((wind_at.f k x0 x2).bind fun bt287 => ((wind_ground.f k x1 bt285.1 bt287.1 bt287.2.1 bt287.2.2.1 bt287.2.2.2.1 bt287.2.2.2.2).bind fun bt292 => ((plane_Distance.f x275000 x275001 x276000 x276001).bind fun bt294 => ((num_DivUp.f k bt294.2 bt292.1).bind fun bt296 => (if bt292.2 = 0 then (none) else (some (wrap64 (Int.tdiv bt294.1 bt292.2), bt296.1, 0))))))))))
end
def wind_Leg.f (k : Nat) (l0 : List (S131)) (a1 : Int) (a2 : Int) (a3_0 : Int) (a3_1 : Int) (a4_0 : Int) (a4_1 : Int) : Option (Int × Int × Int) := (wind_Check.f k l0).bind fun t276 => (if t276 = 0 then (if a1 < 1 then (wind_Leg.j0 k l0 a1 a2 true a3_0 a3_1 a4_0 a4_1) else (if a1 > 400 then (wind_Leg.j0 k l0 a1 a2 true a3_0 a3_1 a4_0 a4_1) else (if a2 < 0 then (wind_Leg.j0 k l0 a1 a2 true a3_0 a3_1 a4_0 a4_1) else (wind_Leg.j0 k l0 a1 a2 (decide (a2 > 60000)) a3_0 a3_1 a4_0 a4_1)))) else (some (0, 0, t276)))
theorem wind_Leg.mono_l : ∀ k, (∀ y0 y1 y2 y3 y4 y5 y6 y7, LeO (wind_Leg.j0 k y0 y1 y2 y3 y4 y5 y6 y7) (wind_Leg.j0 (k + 1) y0 y1 y2 y3 y4 y5 y6 y7)) ∧ (∀ y0 y1 y2 y3 y4 y5 y6 y7 y8 y9, LeO (wind_Leg.l0 k y0 y1 y2 y3 y4 y5 y6 y7 y8 y9) (wind_Leg.l0 (k + 1) y0 y1 y2 y3 y4 y5 y6 y7 y8 y9))
  | 0 => ⟨fun _ _ _ _ _ _ _ _ r h => by simp [wind_Leg.j0] at h, fun _ _ _ _ _ _ _ _ _ _ r h => by simp [wind_Leg.l0] at h⟩
  | k + 1 => by
    obtain ⟨ih0, ih1⟩ := wind_Leg.mono_l k; refine ⟨?_, ?_⟩
    · intro y0 y1 y2 y3 y4 y5 y6 y7; unfold wind_Leg.j0
      repeat' with_reducible first | apply ih0 | apply ih1 | apply num_DivUp.mono | apply wind_Check.mono | apply wind_at.mono | apply wind_ground.mono | apply LeO.refl | apply LeO.none | apply LeO.ite | refine LeO.bind ?_ (fun _ => ?_)
    · intro y0 y1 y2 y3 y4 y5 y6 y7 y8 y9; unfold wind_Leg.l0
      repeat' with_reducible first | apply ih0 | apply ih1 | apply num_DivUp.mono | apply wind_Check.mono | apply wind_at.mono | apply wind_ground.mono | apply LeO.refl | apply LeO.none | apply LeO.ite | refine LeO.bind ?_ (fun _ => ?_)
theorem wind_Leg.mono : ∀ a0 a1 a2 a3 a4 a5 a6 k, LeO (wind_Leg.f k a0 a1 a2 a3 a4 a5 a6) (wind_Leg.f (k + 1) a0 a1 a2 a3 a4 a5 a6) := by
  intro a0 a1 a2 a3 a4 a5 a6 k; obtain ⟨ih0, ih1⟩ := wind_Leg.mono_l k; unfold wind_Leg.f
  repeat' with_reducible first | apply ih0 | apply ih1 | apply num_DivUp.mono | apply wind_Check.mono | apply wind_at.mono | apply wind_ground.mono | apply LeO.refl | apply LeO.none | apply LeO.ite | refine LeO.bind ?_ (fun _ => ?_)
theorem wind_Leg.calls (k : Nat) (A0 : Option Addr) (c0 : Nat) (l0 : List (S131)) (a1 : Int) (a2 : Int) (a3_0 : Int) (a3_1 : Int) (a4_0 : Int) (a4_1 : Int) (r1 : Int) (r2 : Int) (r3 : Int) (w : World) (hr0 : Kd.C k131 w A0 l0.length l0) (hc0 : l0.length ≤ c0) (h : wind_Leg.f k l0 a1 a2 a3_0 a3_1 a4_0 a4_1 = some (r1, r2, r3)) (hT0 : Ang.Tab w := by exact Ang.Tab.below hT0 (by repeat (first | (with_reducible first | exact HB.out | apply below_alloc | apply pw_below_drewN | apply below_drew1) | exact HB.out | (refine Below.setCell ?_ (by dsimp only; exact Aside0.out (by assumption)) _)))) :
    Calls Tryz.prog 21 #[.slice A0 l0.length c0, .int .i64 a1, .int .i64 a2, .agg #[.int .i64 a3_0, .int .i64 a3_1], .agg #[.int .i64 a4_0, .int .i64 a4_1]] w fun e w' => e = .returned (.tuple #[.int .i64 r1, .int .i64 r2, .int .i64 r3]) ∧ Below w.heap.size w w' := by
 have hu54 := Tryz.underlying54; have HR0 := Aside0.mk hr0; have HC0 := Aside0.mk hc0; clear hr0 hc0; have HB := Aside0.mk (Below.refl w.heap.size w); have H := h; unfold wind_Leg.f at H; clear h; replace H := Option.bind_eq_some_iff.mp H; obtain ⟨t276, A60, H⟩ := H; (try dsimp only at H); have A6 := Aside0.mk A60; clear A60; refine Or.elim (Classical.em (t276 = 0)) (fun c7 => ?p2_) (fun c7 => ?n2_)
 case' p2_ =>
  rw [if_pos c7] at H; have c7b0 := beq_iff_eq.mpr c7; have c7b1 := bne_eq_false_iff_eq.mpr c7; clear c7; have HC8 := Aside0.mk H; clear H; have hm1_0 := Aside0.mk trivial
 case' n2_ =>
  rw [if_neg c7] at H; have c7b0 := beq_eq_false_iff_ne.mpr c7; have c7b1 := bne_iff_ne.mpr c7; simp only [Option.some.injEq, Prod.mk.injEq] at H; obtain ⟨rfl, rfl, rfl⟩ := H; have hm1_1 := Aside0.mk trivial
 all_goals
  go_enter Tryz.func21, Tryz.ntmps21
  first
   | clear hm1_0
     go_upto_region 4 with (first | ((with_reducible refine gate_dst (N := 8) rfl ?_); refine box_s #[.int .i64 a3_0, .int .i64 a3_1] 54 ?_; intro gb274 hg wx50ba1 hbox hb; have BK274 := Aside0.mk (hbox); have GW274 := ge HB hg; have GE274 := ge HB hg; replace HB := st HB hb; clear hb hbox hg) | ((with_reducible refine gate_dst (N := 9) rfl ?_); refine box_s #[.int .i64 a4_0, .int .i64 a4_1] 54 ?_; intro gb275 hg wx05aa1 hbox hb; have BK275 := Aside0.mk (hbox); have GW275 := ge HB hg; have GE275 := ge HB hg; replace HB := st HB hb; have NB274_275 := nl BK274 hg; have NB275_274 := nr BK274 hg; replace BK274 := kp BK274 hb; clear hb hbox hg) | ((with_reducible refine gate_callee (f := 61) rfl ?_); refine goesL_ (some 26) rfl rfl Tryz.func61 (by kernel_rfl) rfl #[.slice A0 l0.length c0] rfl any_s ?_; (with_reducible refine (wind_Check.calls k _ _ l0 t276 _ ?side1 ?side2 A6.out).mono ?_); (case side1 => exact cb_s (Kd.C_below HR0.out HB.out)); (case side2 => exact HC0.out); rintro e wx08501 ⟨rfl, hb⟩; refine ⟨_, rfl, ?_⟩; replace BK274 := kp BK274 hb; replace BK275 := kp BK275 hb; replace HB := st HB hb))
     (try simp only [Act.put, List.setIfInBounds_toArray, List.set_cons_zero, List.set_cons_succ])
     go_cut [43] (fun v43 wc => ∃ (kq : Nat) (x43_7 : Bool), v43 = .bool x43_7 ∧ Aside0 (wind_Leg.j0 kq l0 a1 a2 x43_7 a3_0 a3_1 a4_0 a4_1 = some (r1, r2, r3)) ∧ Aside0 (kq ≤ k) ∧ Aside0 (wc.heap[gb274]? = some (.cells #[.int .i64 a3_0, .int .i64 a3_1] 54 (0, 0))) ∧ Aside0 (wc.heap[gb275]? = some (.cells #[.int .i64 a4_0, .int .i64 a4_1] 54 (0, 0))) ∧ Aside0 (Below w.heap.size w wc))
     case first =>
      have H := HC8.out; clear HC8; refine Or.elim (Classical.em (a1 < 1)) (fun c12 => ?p4_) (fun c12 => ?n4_)
      case' p4_ =>
       rw [if_pos c12] at H; have c12b0 := decide_eq_true c12; clear c12
       (first | rw [c12b0] | (simp only [i64_w, i32_w]; rw [c12b0]) | skip)
      case' n4_ =>
       rw [if_neg c12] at H; have c12b0 := decide_eq_false c12; clear c12
       (first | rw [c12b0] | (simp only [i64_w, i32_w]; rw [c12b0]) | skip)
       refine Or.elim (Classical.em (a1 > 400)) (fun c13 => ?p5_) (fun c13 => ?n5_)
       case' p5_ =>
        rw [if_pos c13] at H; have c13b0 := decide_eq_true c13; clear c13
       case' n5_ =>
        rw [if_neg c13] at H; have c13b0 := decide_eq_false c13; clear c13; refine Or.elim (Classical.em (a2 < 0)) (fun c14 => ?p6_) (fun c14 => ?n6_)
        case' p6_ =>
         rw [if_pos c14] at H; have c14b0 := decide_eq_true c14; clear c14
        case' n6_ =>
         rw [if_neg c14] at H; have c14b0 := decide_eq_false c14; clear c14
      all_goals
       have H' := Aside0.mk H; clear H; go_wp2; go_meet
       case rel => first | (exact ⟨_, (true), rs_, H', ⟨by first | omega | exact Nat.le_refl _⟩, ⟨blk_s⟩, ⟨blk_s⟩, ⟨bel_s⟩⟩) | (exact ⟨_, (decide (a2 > 60000)), rs_, H', ⟨by first | omega | exact Nat.le_refl _⟩, ⟨blk_s⟩, ⟨blk_s⟩, ⟨bel_s⟩⟩)
     case rest =>
      clear HC8
      obtain ⟨kq, x43_7, rfl, HA, HJ7, BK274, BK275, HB⟩ := hcut
      cases kq with
      | zero => exact absurd HA.out (by simp [wind_Leg.j0])
      | succ kj7 =>
       have H := HA.out; clear HA; simp only [wind_Leg.j0] at H
       by_cases c15 : x43_7 = true
       · subst c15
         rw [if_pos rfl] at H; (try dsimp only at H); simp only [Option.some.injEq, Prod.mk.injEq] at H; obtain ⟨rfl, rfl, rfl⟩ := H; go_wp2; go_ret3
         exact ⟨er_, bel_s⟩
       · replace c15 := Bool.eq_false_iff.mpr c15; subst c15
         rw [if_neg (show ¬ (false = true) by decide)] at H; (try dsimp only at H); obtain ⟨y277, hy277⟩ : ∃ y_ : List (S54), y_ = (([(⟨a3_0, a3_1⟩ : S54), (⟨a4_0, a4_1⟩ : S54)] : List (S54))) := ⟨_, rfl⟩
         replace H : (wind_Leg.l0 kj7 l0 a1 a2 y277 (y277.length : Int) 0 a3_0 a3_1 a4_0 a4_1) = some (r1, r2, r3) := by first | (rw [hy277]; with_reducible exact H) | (have H2_ := (Option.bind_some _ _).symm.trans H; rw [hy277]; with_reducible exact H2_) | (have H2_ := (Option.bind_some _ _).symm.trans H; with_reducible exact H2_) | with_reducible exact H | (rw [hy277]; exact H) | exact H
         have Ny277 := Aside0.mk hy277; clear hy277; have H' := Aside0.mk H; clear H; have hnbzc1 := NB274_275.out; have hnczc1 := NB275_274.out; obtain ⟨hczzc1, hczzc2, hfzzc1, hfzzc2⟩ := bq2 BK274; obtain ⟨hczzc3, hczzc4, hfzzc3, hfzzc4⟩ := bq2 BK275
         go_wp2_with (first | ((with_reducible refine gate_dst (N := 46) rfl ?_); refine Kd.R_lit k54 _ 54 ?hg (N := 46) ?hd (xs := ([(⟨a3_0, a3_1⟩ : S54), (⟨a4_0, a4_1⟩ : S54)] : List (S54))) (inner := [.int .i64 a3_0, .int .i64 a3_1, .int .i64 a4_0, .int .i64 a4_1]) (ok := fun _ => True) (okp := fun _ => True) ?hr ?hp (fun _ hk => hk) trivial (Below.refl _ _) (Nat.le_refl _) (by simp) ?_; (case hd => rfl); (case hg => rfl); (case hr => first | (go_simp; done) | (go_simp; rfl)); (case hp => exact (Reps.c2 (show Kd.M k54 _ _ _ (⟨a3_0, a3_1⟩ : S54) [.int .i64 a3_0, .int .i64 a3_1] from (k54_mkM _ _ _ (⟨a3_0, a3_1⟩ : S54) )) (Reps.c2 (show Kd.M k54 _ _ _ (⟨a4_0, a4_1⟩ : S54) [.int .i64 a4_0, .int .i64 a4_1] from (k54_mkM _ _ _ (⟨a4_0, a4_1⟩ : S54) )) (Reps.none _ _)))); intro v278 wxd3651 hoxd3651 hb hg_ hnew_; clear hg_ hnew_; (first | rw [← Ny277.out] at hoxd3651 | (simp only [Int.reduceToNat] at hoxd3651; rw [← Ny277.out] at hoxd3651)); have HO279 := Aside0.mk (Kd.R_lower (Kd.R_newB (Kd.R_newB hoxd3651 (g := gb274) (o := .cells #[.int .i64 a3_0, .int .i64 a3_1] 54 (0, 0)) blk_s) (g := gb275) (o := .cells #[.int .i64 a4_0, .int .i64 a4_1] 54 (0, 0)) blk_s) bz_s); replace BK274 := kp BK274 hb; replace BK275 := kp BK275 hb; replace HB := st HB hb; clear hb hoxd3651; obtain ⟨Aoxd3651, coxd3651, eoxd3651⟩ := Kd.R_slice HO279.out; subst eoxd3651))
         go_loopg [48] kj7 (fun kq v48 w' => ∃ (x48_2 : Int), v48 = .int .i64 x48_2 ∧ Aside0 (wind_Leg.l0 kq l0 a1 a2 y277 (y277.length : Int) x48_2 a3_0 a3_1 a4_0 a4_1 = some (r1, r2, r3)) ∧ Aside0 (kq ≤ kj7) ∧ Aside0 (Kd.R k54 54 w' w.heap.size (fun k_ => k_ ≠ gb274 ∧ k_ ≠ gb275) (.slice Aoxd3651 y277.length coxd3651) y277) ∧ Aside0 (w'.heap[gb274]? = some (.cells #[.int .i64 a3_0, .int .i64 a3_1] 54 (0, 0))) ∧ Aside0 (w'.heap[gb275]? = some (.cells #[.int .i64 a4_0, .int .i64 a4_1] 54 (0, 0))) ∧ Aside0 (Below w.heap.size w w'))
         case atStart => exact ⟨(0), rs_, H', ⟨Nat.le_refl _⟩, ⟨by (with_reducible repeat (first | apply Kd.R_alloc | apply Kd.R_drewN | apply Kd.R_drew)); exact Kd.R_mono HO279.out (fun _ hk => ⟨hk.1.2, hk.2⟩)⟩, ⟨blk_s⟩, ⟨blk_s⟩, ⟨bel_s⟩⟩
         case round =>
          clear H'
          obtain ⟨x48_2, rfl, HA, HK2, HO_46, BK274, BK275, HB⟩ := hrel
          cases gk with
          | zero => exact absurd HA.out (by simp [wind_Leg.l0])
          | succ k2 =>
           have H := HA.out; clear HA; simp only [wind_Leg.l0] at H; refine Or.elim (Classical.em (x48_2 < (y277.length : Int))) (fun c22 => ?p8_) (fun c22 => ?n8_)
           case' p8_ =>
            rw [if_pos c22] at H; have c22b0 := decide_eq_true c22; clear c22; obtain ⟨c23b0, H⟩ := ip_ H; obtain ⟨c24b0, H⟩ := ip_ H; replace H := Option.bind_eq_some_iff.mp H; obtain ⟨t282, A250, H⟩ := H; (try dsimp only at H); have A25 := Aside0.mk A250; clear A250; refine Or.elim (Classical.em (t282 = 0)) (fun c26 => ?p11_) (fun c26 => ?n11_)
            case' p11_ =>
             rw [if_pos c26] at H; have c26b0 := beq_iff_eq.mpr c26; have c26b1 := bne_eq_false_iff_eq.mpr c26; clear c26; have hm7_0 := Aside0.mk trivial
            case' n11_ =>
             rw [if_neg c26] at H; have c26b0 := beq_eq_false_iff_ne.mpr c26; have c26b1 := bne_iff_ne.mpr c26; simp only [Option.some.injEq, Prod.mk.injEq] at H; obtain ⟨rfl, rfl, rfl⟩ := H
             have p280 : 0 ≤ (x48_2 : Int) := od_
             have q280 : x48_2 < (y277.length : Int) := od_
             obtain ⟨ad280, e280, hx280_0, hx280_1⟩ := at_T54 (Kd.R_reads' HO_46.out).2.2 x48_2 p280 q280; cases e280; replace p280 := eq_true p280; replace q280 := eq_true q280; have hm7_1 := Aside0.mk trivial
           case' n8_ =>
            rw [if_neg c22] at H; have c22b0 := decide_eq_false c22; clear c22; refine Or.elim (Classical.em ((a3_0 == a4_0 && (a3_1 == a4_1)) = true)) (fun c37 => ?p12_) (fun c37 => ?n12_)
            case' p12_ =>
             rw [if_pos c37] at H; have c37b0 : (a3_0 == a4_0 && (a3_1 == a4_1)) = true := c37
             (try (have c37b1 : decide (a3_0 = a4_0 && (a3_1 == a4_1)) = true := by simpa using c37))
             (try (have c37b2 : (a3_0 == a4_0 && (a3_1 == a4_1)) = true := by simpa using c37))
             (try (have c37b3 : (!(a3_0 == a4_0) || (!(a3_1 == a4_1))) = false := by have h_ := c37; revert h_; cases (a3_0 == a4_0) <;> cases (a3_1 == a4_1) <;> decide))
             clear c37; simp only [Option.some.injEq, Prod.mk.injEq] at H; obtain ⟨rfl, rfl, rfl⟩ := H; have hnbzc2 := NB274_275.out; have hnczc2 := NB275_274.out; obtain ⟨hczzc5, hczzc6, hfzzc5, hfzzc6⟩ := bq2 BK274; obtain ⟨hczzc7, hczzc8, hfzzc7, hfzzc8⟩ := bq2 BK275; have hm7_2 := Aside0.mk trivial
            case' n12_ =>
             rw [if_neg c37] at H
             have c37b0 : (a3_0 == a4_0 && (a3_1 == a4_1)) = false := by simpa using c37
             (try (have c37b1 : decide (a3_0 = a4_0 && (a3_1 == a4_1)) = false := by simpa using c37))
             (try (have c37b2 : (a3_0 == a4_0 && (a3_1 == a4_1)) = false := by simpa using c37))
             (try (have c37b3 : ¬ (a3_0 = a4_0 && (a3_1 == a4_1)) := by simpa using c37))
             (try (have c37b4 : (!(a3_0 == a4_0) || (!(a3_1 == a4_1))) = true := by have h_ := c37; revert h_; cases (a3_0 == a4_0) <;> cases (a3_1 == a4_1) <;> decide))
             clear c37; replace H := Option.bind_eq_some_iff.mp H; obtain ⟨⟨t283, t284⟩, A410, H⟩ := H; (try dsimp only at H); have A41 := Aside0.mk A410; clear A410; replace H := Option.bind_eq_some_iff.mp H; obtain ⟨⟨t285, t286⟩, A420, H⟩ := H; (try dsimp only at H); have A42 := Aside0.mk A420; clear A420; replace H := Option.bind_eq_some_iff.mp H; obtain ⟨⟨t287, t288, t289, t290, t291⟩, A430, H⟩ := H; (try dsimp only at H); have A43 := Aside0.mk A430; clear A430; replace H := Option.bind_eq_some_iff.mp H; obtain ⟨⟨t292, t293⟩, A440, H⟩ := H; (try dsimp only at H); have A44 := Aside0.mk A440; clear A440; replace H := Option.bind_eq_some_iff.mp H; obtain ⟨⟨t294, t295⟩, A450, H⟩ := H; (try dsimp only at H); have A45 := Aside0.mk A450; clear A450; replace H := Option.bind_eq_some_iff.mp H; obtain ⟨⟨t296, t297⟩, A460, H⟩ := H; (try dsimp only at H); have A46 := Aside0.mk A460; clear A460; refine Or.elim (Classical.em (t293 = 0)) (fun c47 => ?p13_) (fun c47 => ?n13_)
             case' p13_ =>
              rw [if_pos c47] at H; exact absurd H (by simp)
             case' n13_ =>
              rw [if_neg c47] at H; have c47b0 := beq_eq_false_iff_ne.mpr c47; have c47b1 := bne_iff_ne.mpr c47; simp only [Option.some.injEq, Prod.mk.injEq] at H; obtain ⟨rfl, rfl, rfl⟩ := H; have hnbzc3 := NB274_275.out; have hnczc3 := NB275_274.out; obtain ⟨hczzc9, hczzc10, hfzzc9, hfzzc10⟩ := bq2 BK274; obtain ⟨hczzc11, hczzc12, hfzzc11, hfzzc12⟩ := bq2 BK275; have hm7_3 := Aside0.mk trivial
           all_goals
            first
             | clear hm7_0; have H' := Aside0.mk H; clear H
               have p280 : 0 ≤ (x48_2 : Int) := od_
               have q280 : x48_2 < (y277.length : Int) := od_
               obtain ⟨ad280, e280, hx280_0, hx280_1⟩ := at_T54 (Kd.R_reads' HO_46.out).2.2 x48_2 p280 q280; cases e280; replace p280 := eq_true p280; replace q280 := eq_true q280
               go_wp2_with (first | ((with_reducible refine gate_dst (N := 15) rfl ?_); refine box_s #[.int .i64 0, .int .i64 0] 54 ?_; intro gb281 hg wxb0541 hbox hb; replace HO_46 := Aside0.mk (Kd.R_below (Kd.R_elderB (by (with_reducible repeat (first | apply Kd.R_alloc | apply Kd.R_drewN | apply Kd.R_drew)); exact HO_46.out) gb281 (Nat.le_of_eq hg.symm)) hb); have BK281 := Aside0.mk (hbox); have GW281 := ge HB hg; have GE281 := ge HB hg; replace HB := st HB hb; have NB274_281 := nl BK274 hg; have NB281_274 := nr BK274 hg; replace BK274 := kp BK274 hb; have NB275_281 := nl BK275 hg; have NB281_275 := nr BK275 hg; replace BK275 := kp BK275 hb; clear hb hbox hg; have hnbxb0541 := NB281_274.out; have hncxb0541 := NB274_281.out; have hnbxb0542 := NB281_275.out; have hncxb0542 := NB275_281.out; obtain ⟨hczxb0541, hczxb0542, hfzxb0541, hfzxb0542⟩ := bq2 BK281) | ((with_reducible refine gate_callee (f := 50) rfl ?_); refine goesL_ (some 53) rfl rfl Tryz.func50 (by kernel_rfl) rfl #[.agg #[.int .i64 ((rd_T54 y277 x48_2).f0), .int .i64 ((rd_T54 y277 x48_2).f1)]] rfl any_s ?_; (with_reducible refine (plane_Check.calls ((rd_T54 y277 x48_2).f0) ((rd_T54 y277 x48_2).f1) t282 _ A25.out).mono ?_); rintro e wx2f4a1 ⟨rfl, hb⟩; refine ⟨_, rfl, ?_⟩; replace HO_46 := Aside0.mk (Kd.R_below (by (with_reducible repeat (first | apply Kd.R_alloc | apply Kd.R_drewN | apply Kd.R_drew)); exact (Kd.R_mono (Kd.R_far (p := ⟨gb281, 1, none⟩) (Kd.R_far (p := ⟨gb281, 0, none⟩) (Kd.R_mono HO_46.out (fun k_ hk => (⟨hk, hk.2⟩ : _ ∧ k_ ≠ gb281))) (fun _ hk => hk.2) (.int .i64 ((rd_T54 y277 x48_2).f0))) (fun _ hk => hk.2) (.int .i64 ((rd_T54 y277 x48_2).f1))) (fun _ h_ => h_.1))) hb); replace BK274 := kp BK274 hb; replace BK275 := kp BK275 hb; replace BK281 := Aside0.mk (blk_below (g := gb281) (o := .cells #[.int .i64 ((rd_T54 y277 x48_2).f0), .int .i64 ((rd_T54 y277 x48_2).f1)] 54 (0, 0)) (by (with_reducible repeat (first | refine blk_drewN ?_ _ | refine blk_drew ?_ | refine blk_alloc ?_ _)); refine blk_put (cs := #[.int .i64 ((rd_T54 y277 x48_2).f0), .int .i64 0]) ?_ 1 _ rfl; (with_reducible repeat (first | refine blk_drewN ?_ _ | refine blk_drew ?_ | refine blk_alloc ?_ _)); refine blk_put (cs := #[.int .i64 0, .int .i64 0]) ?_ 0 _ rfl; (with_reducible repeat (first | refine blk_drewN ?_ _ | refine blk_drew ?_ | refine blk_alloc ?_ _)); exact BK281.out) hb); replace HB := st HB hb))
               go_roundg k2
               case measure => have := HJ7.out; have := HK2.out; omega
               case rel => exact ⟨(wrap64 (x48_2 + 1)), rs_, H', ⟨by have := HJ7.out; have := HK2.out; omega⟩, ⟨by (with_reducible repeat (first | apply Kd.R_alloc | apply Kd.R_drewN | apply Kd.R_drew)); exact Kd.R_mono HO_46.out (fun _ hk => ⟨hk.1.1, hk.1.2⟩)⟩, ⟨blk_s⟩, ⟨blk_s⟩, ⟨bel_s⟩⟩
             | (first | (have _hm := hm7_1) | (have _hm := hm7_3))
               go_wp2_with (first | ((with_reducible refine gate_dst (N := 15) rfl ?_); refine box_s #[.int .i64 0, .int .i64 0] 54 ?_; intro gb281 hg wxb0541 hbox hb; replace HO_46 := Aside0.mk (Kd.R_below (Kd.R_elderB (by (with_reducible repeat (first | apply Kd.R_alloc | apply Kd.R_drewN | apply Kd.R_drew)); exact HO_46.out) gb281 (Nat.le_of_eq hg.symm)) hb); have BK281 := Aside0.mk (hbox); have GW281 := ge HB hg; have GE281 := ge HB hg; replace HB := st HB hb; have NB274_281 := nl BK274 hg; have NB281_274 := nr BK274 hg; replace BK274 := kp BK274 hb; have NB275_281 := nl BK275 hg; have NB281_275 := nr BK275 hg; replace BK275 := kp BK275 hb; clear hb hbox hg; have hnbxb0541 := NB281_274.out; have hncxb0541 := NB274_281.out; have hnbxb0542 := NB281_275.out; have hncxb0542 := NB275_281.out; obtain ⟨hczxb0541, hczxb0542, hfzxb0541, hfzxb0542⟩ := bq2 BK281) | ((with_reducible refine gate_callee (f := 50) rfl ?_); refine goesL_ (some 53) rfl rfl Tryz.func50 (by kernel_rfl) rfl #[.agg #[.int .i64 ((rd_T54 y277 x48_2).f0), .int .i64 ((rd_T54 y277 x48_2).f1)]] rfl any_s ?_; (with_reducible refine (plane_Check.calls ((rd_T54 y277 x48_2).f0) ((rd_T54 y277 x48_2).f1) t282 _ A25.out).mono ?_); rintro e wx2f4a1 ⟨rfl, hb⟩; refine ⟨_, rfl, ?_⟩; replace HO_46 := Aside0.mk (Kd.R_below (by (with_reducible repeat (first | apply Kd.R_alloc | apply Kd.R_drewN | apply Kd.R_drew)); exact (Kd.R_mono (Kd.R_far (p := ⟨gb281, 1, none⟩) (Kd.R_far (p := ⟨gb281, 0, none⟩) (Kd.R_mono HO_46.out (fun k_ hk => (⟨hk, hk.2⟩ : _ ∧ k_ ≠ gb281))) (fun _ hk => hk.2) (.int .i64 ((rd_T54 y277 x48_2).f0))) (fun _ hk => hk.2) (.int .i64 ((rd_T54 y277 x48_2).f1))) (fun _ h_ => h_.1))) hb); replace BK274 := kp BK274 hb; replace BK275 := kp BK275 hb; replace BK281 := Aside0.mk (blk_below (g := gb281) (o := .cells #[.int .i64 ((rd_T54 y277 x48_2).f0), .int .i64 ((rd_T54 y277 x48_2).f1)] 54 (0, 0)) (by (with_reducible repeat (first | refine blk_drewN ?_ _ | refine blk_drew ?_ | refine blk_alloc ?_ _)); refine blk_put (cs := #[.int .i64 ((rd_T54 y277 x48_2).f0), .int .i64 0]) ?_ 1 _ rfl; (with_reducible repeat (first | refine blk_drewN ?_ _ | refine blk_drew ?_ | refine blk_alloc ?_ _)); refine blk_put (cs := #[.int .i64 0, .int .i64 0]) ?_ 0 _ rfl; (with_reducible repeat (first | refine blk_drewN ?_ _ | refine blk_drew ?_ | refine blk_alloc ?_ _)); exact BK281.out) hb); replace HB := st HB hb) | ((with_reducible refine gate_callee (f := 57) rfl ?_); refine goesL_ (some 64) rfl rfl Tryz.func57 (by kernel_rfl) rfl #[.agg #[.int .i64 a4_0, .int .i64 a4_1], .agg #[.int .i64 a3_0, .int .i64 a3_1]] rfl any_s ?_; (with_reducible refine (plane_Sub.calls a4_0 a4_1 a3_0 a3_1 t283 t284 _ A41.out).mono ?_); rintro e wx56641 ⟨rfl, hb⟩; refine ⟨_, rfl, ?_⟩; replace HO_46 := Aside0.mk (Kd.R_below (by (with_reducible repeat (first | apply Kd.R_alloc | apply Kd.R_drewN | apply Kd.R_drew)); exact HO_46.out) hb); replace BK274 := kp BK274 hb; replace BK275 := kp BK275 hb; replace HB := st HB hb) | ((with_reducible refine gate_callee (f := 62) rfl ?_); refine goesL_ (some 65) rfl rfl Tryz.func62 (by kernel_rfl) rfl #[.agg #[.int .i64 t283, .int .i64 t284]] rfl any_s ?_; (with_reducible refine (angle_Of.calls t283 t284 t285 t286 _ A42.out).mono ?_); rintro e wx65a71 ⟨rfl, hb⟩; refine ⟨_, rfl, ?_⟩; replace HO_46 := Aside0.mk (Kd.R_below (by (with_reducible repeat (first | apply Kd.R_alloc | apply Kd.R_drewN | apply Kd.R_drew)); exact HO_46.out) hb); replace BK274 := kp BK274 hb; replace BK275 := kp BK275 hb; replace HB := st HB hb) | ((with_reducible refine gate_callee (f := 64) rfl ?_); refine goesL_ (some 73) rfl rfl Tryz.func64 (by kernel_rfl) rfl #[.slice A0 l0.length c0, .int .i64 a2] rfl any_s ?_; (with_reducible refine (wind_at.calls k2 _ _ l0 a2 t287 t288 t289 t290 t291 _ ?side1 ?side2 A43.out).mono ?_); (case side1 => exact cb_s (Kd.C_below HR0.out HB.out)); (case side2 => exact HC0.out); rintro e wx11391 ⟨rfl, hb⟩; refine ⟨_, rfl, ?_⟩; replace HO_46 := Aside0.mk (Kd.R_below (by (with_reducible repeat (first | apply Kd.R_alloc | apply Kd.R_drewN | apply Kd.R_drew)); exact HO_46.out) hb); replace BK274 := kp BK274 hb; replace BK275 := kp BK275 hb; replace HB := st HB hb) | ((with_reducible refine gate_callee (f := 63) rfl ?_); refine goesL_ (some 74) rfl rfl Tryz.func63 (by kernel_rfl) rfl #[.int .i64 a1, .int .i64 t285, .agg #[.int .i64 t287, .int .i64 t288, .int .i64 t289, .int .i64 t290, .int .i64 t291]] rfl any_s ?_; (with_reducible refine (wind_ground.calls k2 a1 t285 t287 t288 t289 t290 t291 t292 t293 _ A44.out).mono ?_); rintro e wx9fc81 ⟨rfl, hb⟩; refine ⟨_, rfl, ?_⟩; replace HO_46 := Aside0.mk (Kd.R_below (by (with_reducible repeat (first | apply Kd.R_alloc | apply Kd.R_drewN | apply Kd.R_drew)); exact HO_46.out) hb); replace BK274 := kp BK274 hb; replace BK275 := kp BK275 hb; replace HB := st HB hb; obtain ⟨hczx9fc81, hczx9fc82, hfzx9fc81, hfzx9fc82⟩ := bq2 BK274; obtain ⟨hczx9fc83, hczx9fc84, hfzx9fc83, hfzx9fc84⟩ := bq2 BK275) | ((with_reducible refine gate_callee (f := 29) rfl ?_); refine goesL_ (some 80) rfl rfl Tryz.func29 (by kernel_rfl) rfl #[.agg #[.int .i64 a3_0, .int .i64 a3_1], .agg #[.int .i64 a4_0, .int .i64 a4_1]] rfl any_s ?_; (with_reducible refine (plane_Distance.calls a3_0 a3_1 a4_0 a4_1 t294 t295 _ A45.out).mono ?_); rintro e wx369c1 ⟨rfl, hb⟩; refine ⟨_, rfl, ?_⟩; replace HO_46 := Aside0.mk (Kd.R_below (by (with_reducible repeat (first | apply Kd.R_alloc | apply Kd.R_drewN | apply Kd.R_drew)); exact HO_46.out) hb); replace BK274 := kp BK274 hb; replace BK275 := kp BK275 hb; replace HB := st HB hb) | ((with_reducible refine gate_callee (f := 40) rfl ?_); refine goesL_ (some 86) rfl rfl Tryz.func40 (by kernel_rfl) rfl #[.int .i64 t295, .int .i64 t292] rfl any_s ?_; (with_reducible refine (num_DivUp.calls k2 t295 t292 t296 t297 _ A46.out).mono ?_); rintro e wxb5c01 ⟨rfl, hb⟩; refine ⟨_, rfl, ?_⟩; replace HO_46 := Aside0.mk (Kd.R_below (by (with_reducible repeat (first | apply Kd.R_alloc | apply Kd.R_drewN | apply Kd.R_drew)); exact HO_46.out) hb); replace BK274 := kp BK274 hb; replace BK275 := kp BK275 hb; replace HB := st HB hb))
               go_ret3
               first
                | clear hm7_1
                  exact ⟨er_, bel_s⟩
                | clear hm7_3
                  exact ⟨er_, bel_s⟩
             | clear hm7_2; go_wp2; go_ret3
               exact ⟨er_, bel_s⟩
   | clear hm1_1
     go_wp2_with (first | ((with_reducible refine gate_dst (N := 8) rfl ?_); refine box_s #[.int .i64 a3_0, .int .i64 a3_1] 54 ?_; intro gb274 hg wx50ba1 hbox hb; have BK274 := Aside0.mk (hbox); have GW274 := ge HB hg; have GE274 := ge HB hg; replace HB := st HB hb; clear hb hbox hg) | ((with_reducible refine gate_dst (N := 9) rfl ?_); refine box_s #[.int .i64 a4_0, .int .i64 a4_1] 54 ?_; intro gb275 hg wx05aa1 hbox hb; have BK275 := Aside0.mk (hbox); have GW275 := ge HB hg; have GE275 := ge HB hg; replace HB := st HB hb; have NB274_275 := nl BK274 hg; have NB275_274 := nr BK274 hg; replace BK274 := kp BK274 hb; clear hb hbox hg) | ((with_reducible refine gate_callee (f := 61) rfl ?_); refine goesL_ (some 26) rfl rfl Tryz.func61 (by kernel_rfl) rfl #[.slice A0 l0.length c0] rfl any_s ?_; (with_reducible refine (wind_Check.calls k _ _ l0 t276 _ ?side1 ?side2 A6.out).mono ?_); (case side1 => exact cb_s (Kd.C_below HR0.out HB.out)); (case side2 => exact HC0.out); rintro e wx08501 ⟨rfl, hb⟩; refine ⟨_, rfl, ?_⟩; replace BK274 := kp BK274 hb; replace BK275 := kp BK275 hb; replace HB := st HB hb))
     go_ret3
     exact ⟨er_, bel_s⟩
end Go.Proofs.YthpbpdobghceeaaGreatDoor.PFlyWinds
