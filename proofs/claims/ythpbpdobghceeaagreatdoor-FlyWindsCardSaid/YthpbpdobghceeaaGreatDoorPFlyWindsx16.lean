/- Made by wip/tools/myprint.py (over the kit's printer). -/
import Derived.Test.YthpbpdobghceeaaGreatDoorTSq3
import Derived.Test.YthpbpdobghceeaaGreatDoorPFlyWindsx0
import Derived.Test.YthpbpdobghceeaaGreatDoorPFlyWindsx3
import Derived.Test.YthpbpdobghceeaaGreatDoorPFlyWindsx11
namespace Go.Proofs.YthpbpdobghceeaaGreatDoor.PFlyWinds
open Go.RowKit Go.Proofs.YthpbpdobghceeaaGreatDoorW.PrintWords Go.Proofs.YthpbpdobghceeaaGreatDoorW.PrintLast Go.Proofs.YthpbpdobghceeaaGreatDoorW.PrintMore
attribute [local go_sem] max2_int min2_int max_two min_two max_three min_three max_four min_four
set_option linter.unusedVariables false
set_option maxRecDepth 100000
set_option maxHeartbeats 8000000
set_option linter.unusedSimpArgs false
mutual
def aircraft_Check.j0 : Nat → Bool → ByteArray → Int → Int → Int → Int → Int → Int → Option (Int)
  | 0, _, _, _, _, _, _, _, _ => none
  | k + 1, x8, x299000, x299001, x299002, x299003, x299004, x299005, x299006 => if x8 = true then (some 1) else (if x299002 < 1 then (aircraft_Check.j1 k true x299000 x299001 x299002 x299003 x299004 x299005 x299006) else (aircraft_Check.j1 k (decide (x299002 > 60000)) x299000 x299001 x299002 x299003 x299004 x299005 x299006))
def aircraft_Check.j1 : Nat → Bool → ByteArray → Int → Int → Int → Int → Int → Int → Option (Int)
  | 0, _, _, _, _, _, _, _, _ => none
  | k + 1, x17, x299000, x299001, x299002, x299003, x299004, x299005, x299006 => if x17 = true then (aircraft_Check.j2 k x17 x299000 x299001 x299002 x299003 x299004 x299005 x299006) else (if x299003 < 1 then (aircraft_Check.j2 k true x299000 x299001 x299002 x299003 x299004 x299005 x299006) else (if x299003 > 200 then (aircraft_Check.j2 k (decide (x299003 > 200)) x299000 x299001 x299002 x299003 x299004 x299005 x299006) else (if x299004 < 1 then (aircraft_Check.j2 k true x299000 x299001 x299002 x299003 x299004 x299005 x299006) else (aircraft_Check.j2 k (decide (x299004 > 200)) x299000 x299001 x299002 x299003 x299004 x299005 x299006))))
def aircraft_Check.j2 : Nat → Bool → ByteArray → Int → Int → Int → Int → Int → Int → Option (Int)
  | 0, _, _, _, _, _, _, _, _ => none
  | k + 1, x17, x299000, x299001, x299002, x299003, x299004, x299005, x299006 => if x17 = true then (some 4) else (if x299005 < 1 then (aircraft_Check.j3 k true x299000 x299001 x299002 x299003 x299004 x299005 x299006) else (if x299005 > 400 then (aircraft_Check.j3 k true x299000 x299001 x299002 x299003 x299004 x299005 x299006) else (if x299006 < 1 then (aircraft_Check.j3 k true x299000 x299001 x299002 x299003 x299004 x299005 x299006) else (aircraft_Check.j3 k (decide (x299006 > 400)) x299000 x299001 x299002 x299003 x299004 x299005 x299006))))
def aircraft_Check.j3 : Nat → Bool → ByteArray → Int → Int → Int → Int → Int → Int → Option (Int)
  | 0, _, _, _, _, _, _, _, _ => none
  | k + 1, x42, x299000, x299001, x299002, x299003, x299004, x299005, x299006 => if x42 = true then (some 4) else (if x299005 > x299006 then (some 3) else (some 0))
end
def aircraft_Check.f (k : Nat) (a0_0 : ByteArray) (a0_1 : Int) (a0_2 : Int) (a0_3 : Int) (a0_4 : Int) (a0_5 : Int) (a0_6 : Int) : Option (Int) := (chart_Name.f k a0_0).bind fun t299 => (if t299 = true then (if a0_1 < 0 then (aircraft_Check.j0 k true a0_0 a0_1 a0_2 a0_3 a0_4 a0_5 a0_6) else (aircraft_Check.j0 k (decide (a0_1 > 3)) a0_0 a0_1 a0_2 a0_3 a0_4 a0_5 a0_6)) else (some 5))
theorem aircraft_Check.mono_l : ∀ k, (∀ y0 y1 y2 y3 y4 y5 y6 y7, LeO (aircraft_Check.j0 k y0 y1 y2 y3 y4 y5 y6 y7) (aircraft_Check.j0 (k + 1) y0 y1 y2 y3 y4 y5 y6 y7)) ∧ (∀ y0 y1 y2 y3 y4 y5 y6 y7, LeO (aircraft_Check.j1 k y0 y1 y2 y3 y4 y5 y6 y7) (aircraft_Check.j1 (k + 1) y0 y1 y2 y3 y4 y5 y6 y7)) ∧ (∀ y0 y1 y2 y3 y4 y5 y6 y7, LeO (aircraft_Check.j2 k y0 y1 y2 y3 y4 y5 y6 y7) (aircraft_Check.j2 (k + 1) y0 y1 y2 y3 y4 y5 y6 y7)) ∧ (∀ y0 y1 y2 y3 y4 y5 y6 y7, LeO (aircraft_Check.j3 k y0 y1 y2 y3 y4 y5 y6 y7) (aircraft_Check.j3 (k + 1) y0 y1 y2 y3 y4 y5 y6 y7))
  | 0 => ⟨fun _ _ _ _ _ _ _ _ r h => by simp [aircraft_Check.j0] at h, fun _ _ _ _ _ _ _ _ r h => by simp [aircraft_Check.j1] at h, fun _ _ _ _ _ _ _ _ r h => by simp [aircraft_Check.j2] at h, fun _ _ _ _ _ _ _ _ r h => by simp [aircraft_Check.j3] at h⟩
  | k + 1 => by
    obtain ⟨ih0, ih1, ih2, ih3⟩ := aircraft_Check.mono_l k; refine ⟨?_, ?_, ?_, ?_⟩
    · intro y0 y1 y2 y3 y4 y5 y6 y7; unfold aircraft_Check.j0
      repeat' with_reducible first | apply ih0 | apply ih1 | apply ih2 | apply ih3 | apply chart_Name.mono | apply LeO.refl | apply LeO.none | apply LeO.ite | refine LeO.bind ?_ (fun _ => ?_)
    · intro y0 y1 y2 y3 y4 y5 y6 y7; unfold aircraft_Check.j1
      repeat' with_reducible first | apply ih0 | apply ih1 | apply ih2 | apply ih3 | apply chart_Name.mono | apply LeO.refl | apply LeO.none | apply LeO.ite | refine LeO.bind ?_ (fun _ => ?_)
    · intro y0 y1 y2 y3 y4 y5 y6 y7; unfold aircraft_Check.j2
      repeat' with_reducible first | apply ih0 | apply ih1 | apply ih2 | apply ih3 | apply chart_Name.mono | apply LeO.refl | apply LeO.none | apply LeO.ite | refine LeO.bind ?_ (fun _ => ?_)
    · intro y0 y1 y2 y3 y4 y5 y6 y7; unfold aircraft_Check.j3
      repeat' with_reducible first | apply ih0 | apply ih1 | apply ih2 | apply ih3 | apply chart_Name.mono | apply LeO.refl | apply LeO.none | apply LeO.ite | refine LeO.bind ?_ (fun _ => ?_)
theorem aircraft_Check.mono : ∀ a0 a1 a2 a3 a4 a5 a6 k, LeO (aircraft_Check.f k a0 a1 a2 a3 a4 a5 a6) (aircraft_Check.f (k + 1) a0 a1 a2 a3 a4 a5 a6) := by
  intro a0 a1 a2 a3 a4 a5 a6 k; obtain ⟨ih0, ih1, ih2, ih3⟩ := aircraft_Check.mono_l k; unfold aircraft_Check.f
  repeat' with_reducible first | apply ih0 | apply ih1 | apply ih2 | apply ih3 | apply chart_Name.mono | apply LeO.refl | apply LeO.none | apply LeO.ite | refine LeO.bind ?_ (fun _ => ?_)
theorem aircraft_Check.calls (k : Nat) (a0_0 : ByteArray) (a0_1 : Int) (a0_2 : Int) (a0_3 : Int) (a0_4 : Int) (a0_5 : Int) (a0_6 : Int) (r : Int) (w : World) (h : aircraft_Check.f k a0_0 a0_1 a0_2 a0_3 a0_4 a0_5 a0_6 = some r) :
    Calls Tryz.prog 84 #[.agg #[.string a0_0, .int .i64 a0_1, .int .i64 a0_2, .int .i64 a0_3, .int .i64 a0_4, .int .i64 a0_5, .int .i64 a0_6]] w fun e w' => e = .returned (.int .i64 r) ∧ Below w.heap.size w w' := by
 have hu45 := Tryz.underlying45; have HB := Aside0.mk (Below.refl w.heap.size w); have H := h; unfold aircraft_Check.f at H; clear h; replace H := Option.bind_eq_some_iff.mp H; obtain ⟨t299, A20, H⟩ := H; (try dsimp only at H); have A2 := Aside0.mk A20; clear A20
 by_cases c3 : t299 = true
 · subst c3
   rw [if_pos rfl] at H; (try dsimp only at H); have HC4 := Aside0.mk H; clear H; go_enter Tryz.func84, Tryz.ntmps84
   go_upto_region 3 with (first | ((with_reducible refine gate_dst (N := 1) rfl ?_); refine box_s #[.string a0_0, .int .i64 a0_1, .int .i64 a0_2, .int .i64 a0_3, .int .i64 a0_4, .int .i64 a0_5, .int .i64 a0_6] 45 ?_; intro gb298 hg wx48ed1 hbox hb; have BK298 := Aside0.mk (hbox); have GW298 := ge HB hg; have GE298 := ge HB hg; replace HB := st HB hb; clear hb hbox hg; obtain ⟨hczx48ed1, hczx48ed2, hczx48ed3, hczx48ed4, hczx48ed5, hczx48ed6, hczx48ed7, hfzx48ed1, hfzx48ed2, hfzx48ed3, hfzx48ed4, hfzx48ed5, hfzx48ed6, hfzx48ed7⟩ := bq7 BK298) | ((with_reducible refine gate_callee (f := 74) rfl ?_); refine goesL_ (some 6) rfl rfl Tryz.func74 (by kernel_rfl) rfl #[.string a0_0] rfl any_s ?_; (with_reducible refine (chart_Name.calls k a0_0 true _ A2.out).mono ?_); rintro e wxeb471 ⟨rfl, hb⟩; refine ⟨_, rfl, ?_⟩; replace BK298 := kp BK298 hb; replace HB := st HB hb))
   (try simp only [Act.put, List.setIfInBounds_toArray, List.set_cons_zero, List.set_cons_succ])
   go_cut [8] (fun v8 wc => ∃ (kq : Nat) (x8_3 : Bool), v8 = .bool x8_3 ∧ Aside0 (aircraft_Check.j0 kq x8_3 a0_0 a0_1 a0_2 a0_3 a0_4 a0_5 a0_6 = some r) ∧ Aside0 (kq ≤ k) ∧ Aside0 (wc.heap[gb298]? = some (.cells #[.string a0_0, .int .i64 a0_1, .int .i64 a0_2, .int .i64 a0_3, .int .i64 a0_4, .int .i64 a0_5, .int .i64 a0_6] 45 (0, 0))) ∧ Aside0 (Below w.heap.size w wc))
   case first =>
    have H := HC4.out; clear HC4; refine Or.elim (Classical.em (a0_1 < 0)) (fun c8 => ?p2_) (fun c8 => ?n2_)
    case' p2_ =>
     rw [if_pos c8] at H; have c8b0 := decide_eq_true c8; clear c8
     (first | rw [c8b0] | (simp only [i64_w, i32_w]; rw [c8b0]) | skip)
    case' n2_ =>
     rw [if_neg c8] at H; have c8b0 := decide_eq_false c8; clear c8
     (first | rw [c8b0] | (simp only [i64_w, i32_w]; rw [c8b0]) | skip)
    all_goals
     have H' := Aside0.mk H; clear H; obtain ⟨hczzb1, hczzb2, hczzb3, hczzb4, hczzb5, hczzb6, hczzb7, hfzzb1, hfzzb2, hfzzb3, hfzzb4, hfzzb5, hfzzb6, hfzzb7⟩ := bq7 BK298; go_wp2; go_meet
     case rel => first | (exact ⟨_, (true), rs_, H', ⟨by first | omega | exact Nat.le_refl _⟩, ⟨blk_s⟩, ⟨bel_s⟩⟩) | (exact ⟨_, (decide (a0_1 > 3)), rs_, H', ⟨by first | omega | exact Nat.le_refl _⟩, ⟨blk_s⟩, ⟨bel_s⟩⟩)
   case rest =>
    clear HC4
    obtain ⟨kq, x8_3, rfl, HA, HJ3, BK298, HB⟩ := hcut
    cases kq with
    | zero => exact absurd HA.out (by simp [aircraft_Check.j0])
    | succ kj3 =>
     have H := HA.out; clear HA; simp only [aircraft_Check.j0] at H
     by_cases c11 : x8_3 = true
     · subst c11
       rw [if_pos rfl] at H; (try dsimp only at H); obtain rfl := Option.some.inj H; go_wp2; go_ret
       exact ⟨er_, bel_s⟩
     · replace c11 := Bool.eq_false_iff.mpr c11; subst c11
       rw [if_neg (show ¬ (false = true) by decide)] at H; (try dsimp only at H); have HC12 := Aside0.mk H; clear H
       go_upto_region 5 with (fail)
       go_cut [17] (fun v17 wc => ∃ (kq : Nat) (x17_11 : Bool), v17 = .bool x17_11 ∧ Aside0 (aircraft_Check.j1 kq x17_11 a0_0 a0_1 a0_2 a0_3 a0_4 a0_5 a0_6 = some r) ∧ Aside0 (kq ≤ kj3) ∧ Aside0 (wc.heap[gb298]? = some (.cells #[.string a0_0, .int .i64 a0_1, .int .i64 a0_2, .int .i64 a0_3, .int .i64 a0_4, .int .i64 a0_5, .int .i64 a0_6] 45 (0, 0))) ∧ Aside0 (Below w.heap.size w wc))
       case first =>
        have H := HC12.out; clear HC12; refine Or.elim (Classical.em (a0_2 < 1)) (fun c13 => ?p4_) (fun c13 => ?n4_)
        case' p4_ =>
         rw [if_pos c13] at H; have c13b0 := decide_eq_true c13; clear c13
         (first | rw [c13b0] | (simp only [i64_w, i32_w]; rw [c13b0]) | skip)
        case' n4_ =>
         rw [if_neg c13] at H; have c13b0 := decide_eq_false c13; clear c13
         (first | rw [c13b0] | (simp only [i64_w, i32_w]; rw [c13b0]) | skip)
        all_goals
         have H' := Aside0.mk H; clear H; obtain ⟨hczzd1, hczzd2, hczzd3, hczzd4, hczzd5, hczzd6, hczzd7, hfzzd1, hfzzd2, hfzzd3, hfzzd4, hfzzd5, hfzzd6, hfzzd7⟩ := bq7 BK298; go_wp2; go_meet
         case rel => first | (exact ⟨_, (true), rs_, H', ⟨by have := HJ3.out; first | omega | exact Nat.le_refl _⟩, ⟨blk_s⟩, ⟨bel_s⟩⟩) | (exact ⟨_, (decide (a0_2 > 60000)), rs_, H', ⟨by have := HJ3.out; first | omega | exact Nat.le_refl _⟩, ⟨blk_s⟩, ⟨bel_s⟩⟩)
       case rest =>
        clear HC12
        obtain ⟨kq, x17_11, rfl, HA, HJ11, BK298, HB⟩ := hcut
        cases kq with
        | zero => exact absurd HA.out (by simp [aircraft_Check.j1])
        | succ kj11 =>
         have H := HA.out; clear HA; simp only [aircraft_Check.j1] at H; have HC16 := Aside0.mk H; clear H
         go_upto_if 17 with (fail)
         go_cut [17] (fun v17 wc => ∃ (kq : Nat) (x17_15 : Bool), v17 = .bool x17_15 ∧ Aside0 (aircraft_Check.j2 kq x17_15 a0_0 a0_1 a0_2 a0_3 a0_4 a0_5 a0_6 = some r) ∧ Aside0 (kq ≤ kj11) ∧ Aside0 (wc.heap[gb298]? = some (.cells #[.string a0_0, .int .i64 a0_1, .int .i64 a0_2, .int .i64 a0_3, .int .i64 a0_4, .int .i64 a0_5, .int .i64 a0_6] 45 (0, 0))) ∧ Aside0 (Below w.heap.size w wc))
         case first =>
          have H := HC16.out; clear HC16; refine Or.elim (Classical.em (x17_11 = true)) (fun c17 => ?p6_) (fun c17 => ?n6_)
          case' p6_ =>
           subst c17
           rw [if_pos rfl] at H; (try dsimp only at H); have hm5_0 := Aside0.mk trivial
          case' n6_ =>
           replace c17 := Bool.eq_false_iff.mpr c17; subst c17
           rw [if_neg (show ¬ (false = true) by decide)] at H; (try dsimp only at H); refine Or.elim (Classical.em (a0_3 < 1)) (fun c18 => ?p7_) (fun c18 => ?n7_)
           case' p7_ =>
            rw [if_pos c18] at H; have c18b0 := decide_eq_true c18; clear c18
            (first | rw [c18b0] | (simp only [i64_w, i32_w]; rw [c18b0]) | skip)
            have hm5_1 := Aside0.mk trivial
           case' n7_ =>
            rw [if_neg c18] at H; have c18b0 := decide_eq_false c18; clear c18
            (first | rw [c18b0] | (simp only [i64_w, i32_w]; rw [c18b0]) | skip)
            refine Or.elim (Classical.em (a0_3 > 200)) (fun c20 => ?p8_) (fun c20 => ?n8_)
            case' p8_ =>
             rw [if_pos c20] at H; have c20b0 := decide_eq_true c20; clear c20; have hm5_1 := Aside0.mk trivial
            case' n8_ =>
             rw [if_neg c20] at H; have c20b0 := decide_eq_false c20; clear c20; refine Or.elim (Classical.em (a0_4 < 1)) (fun c22 => ?p9_) (fun c22 => ?n9_)
             case' p9_ =>
              rw [if_pos c22] at H; have c22b0 := decide_eq_true c22; clear c22; have hm5_1 := Aside0.mk trivial
             case' n9_ =>
              rw [if_neg c22] at H; have c22b0 := decide_eq_false c22; clear c22; have hm5_1 := Aside0.mk trivial
          all_goals
           have H' := Aside0.mk H; clear H
           first
            | clear hm5_0; go_wp2; go_meet
              case rel => exact ⟨_, (true), rs_, H', ⟨by have := HJ3.out; have := HJ11.out; first | omega | exact Nat.le_refl _⟩, ⟨blk_s⟩, ⟨bel_s⟩⟩
            | clear hm5_1; obtain ⟨hczzf1, hczzf2, hczzf3, hczzf4, hczzf5, hczzf6, hczzf7, hfzzf1, hfzzf2, hfzzf3, hfzzf4, hfzzf5, hfzzf6, hfzzf7⟩ := bq7 BK298; go_wp2; go_meet
              case rel => first | (exact ⟨_, (true), rs_, H', ⟨by have := HJ3.out; have := HJ11.out; first | omega | exact Nat.le_refl _⟩, ⟨blk_s⟩, ⟨bel_s⟩⟩) | (exact ⟨_, (decide (a0_3 > 200)), rs_, H', ⟨by have := HJ3.out; have := HJ11.out; first | omega | exact Nat.le_refl _⟩, ⟨blk_s⟩, ⟨bel_s⟩⟩) | (exact ⟨_, (decide (a0_4 > 200)), rs_, H', ⟨by have := HJ3.out; have := HJ11.out; first | omega | exact Nat.le_refl _⟩, ⟨blk_s⟩, ⟨bel_s⟩⟩)
         case rest =>
          clear HC16
          obtain ⟨kq, x17_15, rfl, HA, HJ15, BK298, HB⟩ := hcut
          cases kq with
          | zero => exact absurd HA.out (by simp [aircraft_Check.j2])
          | succ kj15 =>
           have H := HA.out; clear HA; simp only [aircraft_Check.j2] at H
           by_cases c25 : x17_15 = true
           · subst c25
             rw [if_pos rfl] at H; (try dsimp only at H); obtain rfl := Option.some.inj H; go_wp2; go_ret
             exact ⟨er_, bel_s⟩
           · replace c25 := Bool.eq_false_iff.mpr c25; subst c25
             rw [if_neg (show ¬ (false = true) by decide)] at H; (try dsimp only at H); have HC26 := Aside0.mk H; clear H
             go_upto_region 9 with (fail)
             go_cut [42] (fun v42 wc => ∃ (kq : Nat) (x42_25 : Bool), v42 = .bool x42_25 ∧ Aside0 (aircraft_Check.j3 kq x42_25 a0_0 a0_1 a0_2 a0_3 a0_4 a0_5 a0_6 = some r) ∧ Aside0 (kq ≤ kj15) ∧ Aside0 (wc.heap[gb298]? = some (.cells #[.string a0_0, .int .i64 a0_1, .int .i64 a0_2, .int .i64 a0_3, .int .i64 a0_4, .int .i64 a0_5, .int .i64 a0_6] 45 (0, 0))) ∧ Aside0 (Below w.heap.size w wc))
             case first =>
              have H := HC26.out; clear HC26; refine Or.elim (Classical.em (a0_5 < 1)) (fun c27 => ?p11_) (fun c27 => ?n11_)
              case' p11_ =>
               rw [if_pos c27] at H; have c27b0 := decide_eq_true c27; clear c27
               (first | rw [c27b0] | (simp only [i64_w, i32_w]; rw [c27b0]) | skip)
              case' n11_ =>
               rw [if_neg c27] at H; have c27b0 := decide_eq_false c27; clear c27
               (first | rw [c27b0] | (simp only [i64_w, i32_w]; rw [c27b0]) | skip)
               refine Or.elim (Classical.em (a0_5 > 400)) (fun c29 => ?p12_) (fun c29 => ?n12_)
               case' p12_ =>
                rw [if_pos c29] at H; have c29b0 := decide_eq_true c29; clear c29
               case' n12_ =>
                rw [if_neg c29] at H; have c29b0 := decide_eq_false c29; clear c29; refine Or.elim (Classical.em (a0_6 < 1)) (fun c31 => ?p13_) (fun c31 => ?n13_)
                case' p13_ =>
                 rw [if_pos c31] at H; have c31b0 := decide_eq_true c31; clear c31
                case' n13_ =>
                 rw [if_neg c31] at H; have c31b0 := decide_eq_false c31; clear c31
              all_goals
               have H' := Aside0.mk H; clear H; obtain ⟨hczzh1, hczzh2, hczzh3, hczzh4, hczzh5, hczzh6, hczzh7, hfzzh1, hfzzh2, hfzzh3, hfzzh4, hfzzh5, hfzzh6, hfzzh7⟩ := bq7 BK298; go_wp2; go_meet
               case rel => first | (exact ⟨_, (true), rs_, H', ⟨by have := HJ3.out; have := HJ11.out; have := HJ15.out; first | omega | exact Nat.le_refl _⟩, ⟨blk_s⟩, ⟨bel_s⟩⟩) | (exact ⟨_, (decide (a0_6 > 400)), rs_, H', ⟨by have := HJ3.out; have := HJ11.out; have := HJ15.out; first | omega | exact Nat.le_refl _⟩, ⟨blk_s⟩, ⟨bel_s⟩⟩)
             case rest =>
              clear HC26
              obtain ⟨kq, x42_25, rfl, HA, HJ25, BK298, HB⟩ := hcut
              cases kq with
              | zero => exact absurd HA.out (by simp [aircraft_Check.j3])
              | succ kj25 =>
               have H := HA.out; clear HA; simp only [aircraft_Check.j3] at H; refine Or.elim (Classical.em (x42_25 = true)) (fun c34 => ?p15_) (fun c34 => ?n15_)
               case' p15_ =>
                subst c34
                rw [if_pos rfl] at H; (try dsimp only at H); have hm14_0 := Aside0.mk trivial
               case' n15_ =>
                replace c34 := Bool.eq_false_iff.mpr c34; subst c34
                rw [if_neg (show ¬ (false = true) by decide)] at H; (try dsimp only at H); refine Or.elim (Classical.em (a0_5 > a0_6)) (fun c35 => ?p16_) (fun c35 => ?n16_)
                case' p16_ =>
                 rw [if_pos c35] at H; have c35b0 := decide_eq_true c35; clear c35; have hm14_1 := Aside0.mk trivial
                case' n16_ =>
                 rw [if_neg c35] at H; have c35b0 := decide_eq_false c35; clear c35; have hm14_1 := Aside0.mk trivial
               all_goals
                obtain rfl := Option.some.inj H
                first
                 | clear hm14_0; go_wp2; go_ret
                   exact ⟨er_, bel_s⟩
                 | clear hm14_1; obtain ⟨hczzi1, hczzi2, hczzi3, hczzi4, hczzi5, hczzi6, hczzi7, hfzzi1, hfzzi2, hfzzi3, hfzzi4, hfzzi5, hfzzi6, hfzzi7⟩ := bq7 BK298; go_wp2; go_ret
                   exact ⟨er_, bel_s⟩
 · replace c3 := Bool.eq_false_iff.mpr c3; subst c3
   rw [if_neg (show ¬ (false = true) by decide)] at H; (try dsimp only at H); obtain rfl := Option.some.inj H; go_enter Tryz.func84, Tryz.ntmps84
   go_wp2_with (first | ((with_reducible refine gate_dst (N := 1) rfl ?_); refine box_s #[.string a0_0, .int .i64 a0_1, .int .i64 a0_2, .int .i64 a0_3, .int .i64 a0_4, .int .i64 a0_5, .int .i64 a0_6] 45 ?_; intro gb298 hg wx48ed1 hbox hb; have BK298 := Aside0.mk (hbox); have GW298 := ge HB hg; have GE298 := ge HB hg; replace HB := st HB hb; clear hb hbox hg; obtain ⟨hczx48ed1, hczx48ed2, hczx48ed3, hczx48ed4, hczx48ed5, hczx48ed6, hczx48ed7, hfzx48ed1, hfzx48ed2, hfzx48ed3, hfzx48ed4, hfzx48ed5, hfzx48ed6, hfzx48ed7⟩ := bq7 BK298) | ((with_reducible refine gate_callee (f := 74) rfl ?_); refine goesL_ (some 6) rfl rfl Tryz.func74 (by kernel_rfl) rfl #[.string a0_0] rfl any_s ?_; (with_reducible refine (chart_Name.calls k a0_0 false _ A2.out).mono ?_); rintro e wxcbba1 ⟨rfl, hb⟩; refine ⟨_, rfl, ?_⟩; replace BK298 := kp BK298 hb; replace HB := st HB hb))
   go_ret
   exact ⟨er_, bel_s⟩
def fly_check.l0 : Nat → List (S131) → List (S84) → Int → Int → ByteArray → ByteArray → ByteArray → ByteArray → Int → Int → Int → List ByteArray → ByteArray → Int → Int → Int → Int → Int → Int → Option (Int)
  | 0, _, _, _, _, _, _, _, _, _, _, _, _, _, _, _, _, _, _, _ => none
  | k + 1, x3, x22, x23, x24, x301000, x301001, x301002, x301003, x301004, x301005, x301006, x301007, x302000, x302001, x302002, x302003, x302004, x302005, x302006 => if x24 < x23 then (if 0 ≤ x24 then (if x24 < (x22.length : Int) then ((plane_Check.f ((rd_T84 x22 x24).f1.f0) ((rd_T84 x22 x24).f1.f1)).bind fun t304 => (if t304 = 0 then (fly_check.l0 k x3 x22 x23 (wrap64 (x24 + 1)) x301000 x301001 x301002 x301003 x301004 x301005 x301006 x301007 x302000 x302001 x302002 x302003 x302004 x302005 x302006) else (some t304))) else (none)) else (none)) else ((plantext_Check.f k x301000 x301001 x301002 x301003 x301004 x301005 x301006 x301007).bind fun t305 => (if t305 = 0 then ((aircraft_Check.f k x302000 x302001 x302002 x302003 x302004 x302005 x302006).bind fun t306 => (if t306 = 0 then (if x301006 > x302002 then (some 20) else (if x301005 < x302005 then (some 4) else (if x301005 > x302006 then (some 4) else ((wind_Check.f k x3).bind fun t307 => (some t307))))) else (some t306))) else (some t305)))
def fly_check.f (k : Nat) (l0 : List (S84)) (a1_0 : ByteArray) (a1_1 : ByteArray) (a1_2 : ByteArray) (a1_3 : ByteArray) (a1_4 : Int) (a1_5 : Int) (a1_6 : Int) (l1_7 : List ByteArray) (a2_0 : ByteArray) (a2_1 : Int) (a2_2 : Int) (a2_3 : Int) (a2_4 : Int) (a2_5 : Int) (a2_6 : Int) (l3 : List (S131)) : Option (Int) := if (l0.length : Int) < 2 then (some 3) else (if (l0.length : Int) > 62 then (some 2) else (fly_check.l0 k l3 l0 (l0.length : Int) 0 a1_0 a1_1 a1_2 a1_3 a1_4 a1_5 a1_6 l1_7 a2_0 a2_1 a2_2 a2_3 a2_4 a2_5 a2_6))
theorem fly_check.mono_l : ∀ k, (∀ y0 y1 y2 y3 y4 y5 y6 y7 y8 y9 y10 y11 y12 y13 y14 y15 y16 y17 y18, LeO (fly_check.l0 k y0 y1 y2 y3 y4 y5 y6 y7 y8 y9 y10 y11 y12 y13 y14 y15 y16 y17 y18) (fly_check.l0 (k + 1) y0 y1 y2 y3 y4 y5 y6 y7 y8 y9 y10 y11 y12 y13 y14 y15 y16 y17 y18))
  | 0 => fun _ _ _ _ _ _ _ _ _ _ _ _ _ _ _ _ _ _ _ r h => by simp [fly_check.l0] at h
  | k + 1 => by
    have ih0 := fly_check.mono_l k
    · intro y0 y1 y2 y3 y4 y5 y6 y7 y8 y9 y10 y11 y12 y13 y14 y15 y16 y17 y18; unfold fly_check.l0
      repeat' with_reducible first | apply ih0 | apply aircraft_Check.mono | apply plantext_Check.mono | apply wind_Check.mono | apply LeO.refl | apply LeO.none | apply LeO.ite | refine LeO.bind ?_ (fun _ => ?_)
theorem fly_check.mono : ∀ a0 a1 a2 a3 a4 a5 a6 a7 a8 a9 a10 a11 a12 a13 a14 a15 a16 k, LeO (fly_check.f k a0 a1 a2 a3 a4 a5 a6 a7 a8 a9 a10 a11 a12 a13 a14 a15 a16) (fly_check.f (k + 1) a0 a1 a2 a3 a4 a5 a6 a7 a8 a9 a10 a11 a12 a13 a14 a15 a16) := by
  intro a0 a1 a2 a3 a4 a5 a6 a7 a8 a9 a10 a11 a12 a13 a14 a15 a16 k; have ih0 := fly_check.mono_l k; unfold fly_check.f
  repeat' with_reducible first | apply ih0 | apply aircraft_Check.mono | apply plantext_Check.mono | apply wind_Check.mono | apply LeO.refl | apply LeO.none | apply LeO.ite | refine LeO.bind ?_ (fun _ => ?_)
theorem fly_check.calls (k : Nat) (A0 : Option Addr) (c0 : Nat) (l0 : List (S84)) (a1_0 : ByteArray) (a1_1 : ByteArray) (a1_2 : ByteArray) (a1_3 : ByteArray) (a1_4 : Int) (a1_5 : Int) (a1_6 : Int) (A1_7 : Option Addr) (c1_7 : Nat) (l1_7 : List ByteArray) (a2_0 : ByteArray) (a2_1 : Int) (a2_2 : Int) (a2_3 : Int) (a2_4 : Int) (a2_5 : Int) (a2_6 : Int) (A3 : Option Addr) (c3 : Nat) (l3 : List (S131)) (r : Int) (w : World) (hr0 : Kd.C k84 w A0 l0.length l0) (hc0 : l0.length ≤ c0) (hr1_7 : Kd.C Kd.string w A1_7 l1_7.length l1_7) (hc1_7 : l1_7.length ≤ c1_7) (hr3 : Kd.C k131 w A3 l3.length l3) (hc3 : l3.length ≤ c3) (h : fly_check.f k l0 a1_0 a1_1 a1_2 a1_3 a1_4 a1_5 a1_6 l1_7 a2_0 a2_1 a2_2 a2_3 a2_4 a2_5 a2_6 l3 = some r) :
    Calls Tryz.prog 39 #[.slice A0 l0.length c0, .agg #[.string a1_0, .string a1_1, .string a1_2, .string a1_3, .int .i64 a1_4, .int .i64 a1_5, .int .i64 a1_6, .slice A1_7 l1_7.length c1_7], .agg #[.string a2_0, .int .i64 a2_1, .int .i64 a2_2, .int .i64 a2_3, .int .i64 a2_4, .int .i64 a2_5, .int .i64 a2_6], .slice A3 l3.length c3] w fun e w' => e = .returned (.int .i64 r) ∧ Below w.heap.size w w' := by
 have hu39 := Tryz.underlying39; have hu45 := Tryz.underlying45; have hu84 := Tryz.underlying84; have hu54 := Tryz.underlying54; have HR0 := Aside0.mk hr0; have HC0 := Aside0.mk hc0; clear hr0 hc0; have HR1_7 := Aside0.mk hr1_7; have HC1_7 := Aside0.mk hc1_7; clear hr1_7 hc1_7; have HR3 := Aside0.mk hr3; have HC3 := Aside0.mk hc3; clear hr3 hc3; have HB := Aside0.mk (Below.refl w.heap.size w); have H := h; unfold fly_check.f at H; clear h; refine Or.elim (Classical.em ((l0.length : Int) < 2)) (fun c5 => ?p2_) (fun c5 => ?n2_)
 case' p2_ =>
  rw [if_pos c5] at H; have c5b0 := decide_eq_true c5; have c5b1 : decide (l0.length < 2) = true := decide_eq_true (by omega); clear c5; have hm1_0 := Aside0.mk trivial
 case' n2_ =>
  rw [if_neg c5] at H; have c5b0 := decide_eq_false c5; have c5b1 : decide (l0.length < 2) = false := decide_eq_false (by omega); clear c5; refine Or.elim (Classical.em ((l0.length : Int) > 62)) (fun c8 => ?p3_) (fun c8 => ?n3_)
  case' p3_ =>
   rw [if_pos c8] at H; have c8b0 := decide_eq_true c8; have c8b1 : decide (62 < l0.length) = true := decide_eq_true (by omega); clear c8; have hm1_0 := Aside0.mk trivial
  case' n3_ =>
   rw [if_neg c8] at H; have c8b0 := decide_eq_false c8; have c8b1 : decide (62 < l0.length) = false := decide_eq_false (by omega); clear c8; have hm1_1 := Aside0.mk trivial
 all_goals
  first
   | clear hm1_0; obtain rfl := Option.some.inj H; go_enter Tryz.func39, Tryz.ntmps39
     go_wp2_with (first | ((with_reducible refine gate_dst (N := 5) rfl ?_); refine box_s #[.string a1_0, .string a1_1, .string a1_2, .string a1_3, .int .i64 a1_4, .int .i64 a1_5, .int .i64 a1_6, .slice A1_7 l1_7.length c1_7] 39 ?_; intro gb300 hg wx60f91 hbox hb; have BK300 := Aside0.mk (hbox); have GW300 := ge HB hg; have GE300 := ge HB hg; replace HB := st HB hb; clear hb hbox hg) | ((with_reducible refine gate_dst (N := 6) rfl ?_); refine box_s #[.string a2_0, .int .i64 a2_1, .int .i64 a2_2, .int .i64 a2_3, .int .i64 a2_4, .int .i64 a2_5, .int .i64 a2_6] 45 ?_; intro gb301 hg wxf0431 hbox hb; have BK301 := Aside0.mk (hbox); have GW301 := ge HB hg; have GE301 := ge HB hg; replace HB := st HB hb; have NB300_301 := nl BK300 hg; have NB301_300 := nr BK300 hg; replace BK300 := kp BK300 hb; clear hb hbox hg))
     go_ret
     exact ⟨er_, bel_s⟩
   | clear hm1_1; have H' := Aside0.mk H; clear H; go_enter Tryz.func39, Tryz.ntmps39
     go_wp2_with (first | ((with_reducible refine gate_dst (N := 5) rfl ?_); refine box_s #[.string a1_0, .string a1_1, .string a1_2, .string a1_3, .int .i64 a1_4, .int .i64 a1_5, .int .i64 a1_6, .slice A1_7 l1_7.length c1_7] 39 ?_; intro gb300 hg wx60f91 hbox hb; have BK300 := Aside0.mk (hbox); have GW300 := ge HB hg; have GE300 := ge HB hg; replace HB := st HB hb; clear hb hbox hg) | ((with_reducible refine gate_dst (N := 6) rfl ?_); refine box_s #[.string a2_0, .int .i64 a2_1, .int .i64 a2_2, .int .i64 a2_3, .int .i64 a2_4, .int .i64 a2_5, .int .i64 a2_6] 45 ?_; intro gb301 hg wxf0431 hbox hb; have BK301 := Aside0.mk (hbox); have GW301 := ge HB hg; have GE301 := ge HB hg; replace HB := st HB hb; have NB300_301 := nl BK300 hg; have NB301_300 := nr BK300 hg; replace BK300 := kp BK300 hb; clear hb hbox hg))
     go_loopg [24] k (fun kq v24 w' => ∃ (x24_1 : Int), v24 = .int .i64 x24_1 ∧ Aside0 (fly_check.l0 kq l3 l0 (l0.length : Int) x24_1 a1_0 a1_1 a1_2 a1_3 a1_4 a1_5 a1_6 l1_7 a2_0 a2_1 a2_2 a2_3 a2_4 a2_5 a2_6 = some r) ∧ Aside0 (kq ≤ k) ∧ Aside0 (w'.heap[gb300]? = some (.cells #[.string a1_0, .string a1_1, .string a1_2, .string a1_3, .int .i64 a1_4, .int .i64 a1_5, .int .i64 a1_6, (.slice A1_7 l1_7.length c1_7)] 39 (0, 0))) ∧ Aside0 (w'.heap[gb301]? = some (.cells #[.string a2_0, .int .i64 a2_1, .int .i64 a2_2, .int .i64 a2_3, .int .i64 a2_4, .int .i64 a2_5, .int .i64 a2_6] 45 (0, 0))) ∧ Aside0 (Below w.heap.size w w'))
     case atStart => exact ⟨(0), rs_, H', ⟨Nat.le_refl _⟩, ⟨blk_s⟩, ⟨blk_s⟩, ⟨bel_s⟩⟩
     case round =>
      clear H'
      obtain ⟨x24_1, rfl, HA, HK1, BK300, BK301, HB⟩ := hrel
      cases gk with
      | zero => exact absurd HA.out (by simp [fly_check.l0])
      | succ k1 =>
       have H := HA.out; clear HA; simp only [fly_check.l0] at H; refine Or.elim (Classical.em (x24_1 < (l0.length : Int))) (fun c13 => ?p5_) (fun c13 => ?n5_)
       case' p5_ =>
        rw [if_pos c13] at H; have c13b0 := decide_eq_true c13; clear c13; obtain ⟨c14b0, H⟩ := ip_ H; obtain ⟨c15b0, H⟩ := ip_ H; replace H := Option.bind_eq_some_iff.mp H; obtain ⟨t304, A160, H⟩ := H; (try dsimp only at H); have A16 := Aside0.mk A160; clear A160; refine Or.elim (Classical.em (t304 = 0)) (fun c17 => ?p8_) (fun c17 => ?n8_)
        case' p8_ =>
         rw [if_pos c17] at H; have c17b0 := beq_iff_eq.mpr c17; have c17b1 := bne_eq_false_iff_eq.mpr c17; clear c17; have hm4_0 := Aside0.mk trivial
        case' n8_ =>
         rw [if_neg c17] at H; have c17b0 := beq_eq_false_iff_ne.mpr c17; have c17b1 := bne_iff_ne.mpr c17; have hm4_1 := Aside0.mk trivial
       case' n5_ =>
        rw [if_neg c13] at H; have c13b0 := decide_eq_false c13; clear c13; replace H := Option.bind_eq_some_iff.mp H; obtain ⟨t305, A280, H⟩ := H; (try dsimp only at H); have A28 := Aside0.mk A280; clear A280; refine Or.elim (Classical.em (t305 = 0)) (fun c29 => ?p9_) (fun c29 => ?n9_)
        case' p9_ =>
         rw [if_pos c29] at H; have c29b0 := beq_iff_eq.mpr c29; have c29b1 := bne_eq_false_iff_eq.mpr c29; clear c29; replace H := Option.bind_eq_some_iff.mp H; obtain ⟨t306, A300, H⟩ := H; (try dsimp only at H); have A30 := Aside0.mk A300; clear A300; refine Or.elim (Classical.em (t306 = 0)) (fun c31 => ?p10_) (fun c31 => ?n10_)
         case' p10_ =>
          rw [if_pos c31] at H; have c31b0 := beq_iff_eq.mpr c31; have c31b1 := bne_eq_false_iff_eq.mpr c31; clear c31; refine Or.elim (Classical.em (a1_6 > a2_2)) (fun c32 => ?p11_) (fun c32 => ?n11_)
          case' p11_ =>
           rw [if_pos c32] at H; have c32b0 := decide_eq_true c32; clear c32; have hm4_2 := Aside0.mk trivial
          case' n11_ =>
           rw [if_neg c32] at H; have c32b0 := decide_eq_false c32; clear c32; refine Or.elim (Classical.em (a1_5 < a2_5)) (fun c40 => ?p12_) (fun c40 => ?n12_)
           case' p12_ =>
            rw [if_pos c40] at H; have c40b0 := decide_eq_true c40; clear c40; have hm4_2 := Aside0.mk trivial
           case' n12_ =>
            rw [if_neg c40] at H; have c40b0 := decide_eq_false c40; clear c40; refine Or.elim (Classical.em (a1_5 > a2_6)) (fun c48 => ?p13_) (fun c48 => ?n13_)
            case' p13_ =>
             rw [if_pos c48] at H; have c48b0 := decide_eq_true c48; clear c48; have hm4_2 := Aside0.mk trivial
            case' n13_ =>
             rw [if_neg c48] at H; have c48b0 := decide_eq_false c48; clear c48; replace H := Option.bind_eq_some_iff.mp H; obtain ⟨t307, A560, H⟩ := H; (try dsimp only at H); have A56 := Aside0.mk A560; clear A560; have hm4_2 := Aside0.mk trivial
         case' n10_ =>
          rw [if_neg c31] at H; have c31b0 := beq_eq_false_iff_ne.mpr c31; have c31b1 := bne_iff_ne.mpr c31; have hm4_2 := Aside0.mk trivial
        case' n9_ =>
         rw [if_neg c29] at H; have c29b0 := beq_eq_false_iff_ne.mpr c29; have c29b1 := bne_iff_ne.mpr c29; have hm4_2 := Aside0.mk trivial
       all_goals
        first
         | clear hm4_0; have H' := Aside0.mk H; clear H
           have p302 : 0 ≤ (x24_1 : Int) := od_
           have q302 : x24_1 < (l0.length : Int) := od_
           obtain ⟨ad302, e302, hx302_0, hx302_1, hx302_2⟩ := at_T84 HR0.out x24_1 p302 q302; cases e302; replace hx302_0 := cl HB hx302_0; replace hx302_1 := cl HB hx302_1; replace hx302_2 := cl HB hx302_2; replace p302 := eq_true p302; replace q302 := eq_true q302
           go_wp2_with (first | ((with_reducible refine gate_dst (N := 10) rfl ?_); refine box_s #[.string (⟨#[]⟩ : ByteArray), .int .i64 0, .int .i64 0] 84 ?_; intro gb303 hg wx5f7e1 hbox hb; have BK303 := Aside0.mk (hbox); have GW303 := ge HB hg; have GE303 := ge HB hg; replace HB := st HB hb; have NB300_303 := nl BK300 hg; have NB303_300 := nr BK300 hg; replace BK300 := kp BK300 hb; have NB301_303 := nl BK301 hg; have NB303_301 := nr BK301 hg; replace BK301 := kp BK301 hb; clear hb hbox hg; have hnbx5f7e1 := NB303_300.out; have hncx5f7e1 := NB300_303.out; have hnbx5f7e2 := NB303_301.out; have hncx5f7e2 := NB301_303.out; obtain ⟨hczx5f7e1, hczx5f7e2, hczx5f7e3, hfzx5f7e1, hfzx5f7e2, hfzx5f7e3⟩ := bq3 BK303) | ((with_reducible refine gate_callee (f := 50) rfl ?_); refine goesL_ (some 30) rfl rfl Tryz.func50 (by kernel_rfl) rfl #[.agg #[.int .i64 ((rd_T84 l0 x24_1).f1.f0), .int .i64 ((rd_T84 l0 x24_1).f1.f1)]] rfl any_s ?_; (with_reducible refine (plane_Check.calls ((rd_T84 l0 x24_1).f1.f0) ((rd_T84 l0 x24_1).f1.f1) t304 _ A16.out).mono ?_); rintro e wx63041 ⟨rfl, hb⟩; refine ⟨_, rfl, ?_⟩; replace BK300 := kp BK300 hb; replace BK301 := kp BK301 hb; replace BK303 := Aside0.mk (blk_below (g := gb303) (o := .cells #[.string ((rd_T84 l0 x24_1).f0), .int .i64 ((rd_T84 l0 x24_1).f1.f0), .int .i64 ((rd_T84 l0 x24_1).f1.f1)] 84 (0, 0)) (by (with_reducible repeat (first | refine blk_drewN ?_ _ | refine blk_drew ?_ | refine blk_alloc ?_ _)); refine blk_put (cs := #[.string ((rd_T84 l0 x24_1).f0), .int .i64 ((rd_T84 l0 x24_1).f1.f0), .int .i64 0]) ?_ 2 _ rfl; (with_reducible repeat (first | refine blk_drewN ?_ _ | refine blk_drew ?_ | refine blk_alloc ?_ _)); refine blk_put (cs := #[.string ((rd_T84 l0 x24_1).f0), .int .i64 0, .int .i64 0]) ?_ 1 _ rfl; (with_reducible repeat (first | refine blk_drewN ?_ _ | refine blk_drew ?_ | refine blk_alloc ?_ _)); refine blk_put (cs := #[.string (⟨#[]⟩ : ByteArray), .int .i64 0, .int .i64 0]) ?_ 0 _ rfl; (with_reducible repeat (first | refine blk_drewN ?_ _ | refine blk_drew ?_ | refine blk_alloc ?_ _)); exact BK303.out) hb); replace HB := st HB hb))
           go_roundg k1
           case measure => have := HK1.out; omega
           case rel => exact ⟨(wrap64 (x24_1 + 1)), rs_, H', ⟨by have := HK1.out; omega⟩, ⟨blk_s⟩, ⟨blk_s⟩, ⟨bel_s⟩⟩
         | (first | (have _hm := hm4_1) | (have _hm := hm4_2))
           obtain rfl := Option.some.inj H
           first
            | clear hm4_1
              have p302 : 0 ≤ (x24_1 : Int) := od_
              have q302 : x24_1 < (l0.length : Int) := od_
              obtain ⟨ad302, e302, hx302_0, hx302_1, hx302_2⟩ := at_T84 HR0.out x24_1 p302 q302; cases e302; replace hx302_0 := cl HB hx302_0; replace hx302_1 := cl HB hx302_1; replace hx302_2 := cl HB hx302_2; replace p302 := eq_true p302; replace q302 := eq_true q302
              go_wp2_with (first | ((with_reducible refine gate_dst (N := 10) rfl ?_); refine box_s #[.string (⟨#[]⟩ : ByteArray), .int .i64 0, .int .i64 0] 84 ?_; intro gb303 hg wx5f7e1 hbox hb; have BK303 := Aside0.mk (hbox); have GW303 := ge HB hg; have GE303 := ge HB hg; replace HB := st HB hb; have NB300_303 := nl BK300 hg; have NB303_300 := nr BK300 hg; replace BK300 := kp BK300 hb; have NB301_303 := nl BK301 hg; have NB303_301 := nr BK301 hg; replace BK301 := kp BK301 hb; clear hb hbox hg; have hnbx5f7e1 := NB303_300.out; have hncx5f7e1 := NB300_303.out; have hnbx5f7e2 := NB303_301.out; have hncx5f7e2 := NB301_303.out; obtain ⟨hczx5f7e1, hczx5f7e2, hczx5f7e3, hfzx5f7e1, hfzx5f7e2, hfzx5f7e3⟩ := bq3 BK303) | ((with_reducible refine gate_callee (f := 50) rfl ?_); refine goesL_ (some 30) rfl rfl Tryz.func50 (by kernel_rfl) rfl #[.agg #[.int .i64 ((rd_T84 l0 x24_1).f1.f0), .int .i64 ((rd_T84 l0 x24_1).f1.f1)]] rfl any_s ?_; (with_reducible refine (plane_Check.calls ((rd_T84 l0 x24_1).f1.f0) ((rd_T84 l0 x24_1).f1.f1) t304 _ A16.out).mono ?_); rintro e wx63041 ⟨rfl, hb⟩; refine ⟨_, rfl, ?_⟩; replace BK300 := kp BK300 hb; replace BK301 := kp BK301 hb; replace BK303 := Aside0.mk (blk_below (g := gb303) (o := .cells #[.string ((rd_T84 l0 x24_1).f0), .int .i64 ((rd_T84 l0 x24_1).f1.f0), .int .i64 ((rd_T84 l0 x24_1).f1.f1)] 84 (0, 0)) (by (with_reducible repeat (first | refine blk_drewN ?_ _ | refine blk_drew ?_ | refine blk_alloc ?_ _)); refine blk_put (cs := #[.string ((rd_T84 l0 x24_1).f0), .int .i64 ((rd_T84 l0 x24_1).f1.f0), .int .i64 0]) ?_ 2 _ rfl; (with_reducible repeat (first | refine blk_drewN ?_ _ | refine blk_drew ?_ | refine blk_alloc ?_ _)); refine blk_put (cs := #[.string ((rd_T84 l0 x24_1).f0), .int .i64 0, .int .i64 0]) ?_ 1 _ rfl; (with_reducible repeat (first | refine blk_drewN ?_ _ | refine blk_drew ?_ | refine blk_alloc ?_ _)); refine blk_put (cs := #[.string (⟨#[]⟩ : ByteArray), .int .i64 0, .int .i64 0]) ?_ 0 _ rfl; (with_reducible repeat (first | refine blk_drewN ?_ _ | refine blk_drew ?_ | refine blk_alloc ?_ _)); exact BK303.out) hb); replace HB := st HB hb))
              go_ret
              exact ⟨er_, bel_s⟩
            | clear hm4_2; have hnbzc1 := NB300_301.out; have hnczc1 := NB301_300.out; obtain ⟨hczzc1, hczzc2, hczzc3, hczzc4, hczzc5, hczzc6, hczzc7, hczzc8, hfzzc1, hfzzc2, hfzzc3, hfzzc4, hfzzc5, hfzzc6, hfzzc7, hfzzc8⟩ := bq8 BK300
              go_wp2_with (first | ((with_reducible refine gate_callee (f := 32) rfl ?_); refine goesL_ (some 36) rfl rfl Tryz.func32 (by kernel_rfl) rfl #[.agg #[.string a1_0, .string a1_1, .string a1_2, .string a1_3, .int .i64 a1_4, .int .i64 a1_5, .int .i64 a1_6, .slice A1_7 l1_7.length c1_7]] rfl any_s ?_; (with_reducible refine (plantext_Check.calls k1 a1_0 a1_1 a1_2 a1_3 a1_4 a1_5 a1_6 _ _ l1_7 t305 _ ?side1 ?side2 A28.out).mono ?_); (case side1 => exact cb_s (Kd.C_below HR1_7.out HB.out)); (case side2 => exact HC1_7.out); rintro e wx474b1 ⟨rfl, hb⟩; refine ⟨_, rfl, ?_⟩; replace BK300 := kp BK300 hb; replace BK301 := kp BK301 hb; replace HB := st HB hb; obtain ⟨hczx474b1, hczx474b2, hczx474b3, hczx474b4, hczx474b5, hczx474b6, hczx474b7, hfzx474b1, hfzx474b2, hfzx474b3, hfzx474b4, hfzx474b5, hfzx474b6, hfzx474b7⟩ := bq7 BK301) | ((with_reducible refine gate_callee (f := 32) rfl ?_); refine goesL_ (some 36) rfl rfl Tryz.func32 (by kernel_rfl) rfl #[.agg #[.string a1_0, .string a1_1, .string a1_2, .string a1_3, .int .i64 a1_4, .int .i64 a1_5, .int .i64 a1_6, .slice A1_7 l1_7.length c1_7]] rfl any_s ?_; (with_reducible refine (plantext_Check.calls k1 a1_0 a1_1 a1_2 a1_3 a1_4 a1_5 a1_6 _ _ l1_7 t305 _ ?side1 ?side2 A28.out).mono ?_); (case side1 => exact cb_s (Kd.C_below HR1_7.out HB.out)); (case side2 => exact HC1_7.out); rintro e wx7d931 ⟨rfl, hb⟩; refine ⟨_, rfl, ?_⟩; replace BK300 := kp BK300 hb; replace BK301 := kp BK301 hb; replace HB := st HB hb) | ((with_reducible refine gate_callee (f := 84) rfl ?_); refine goesL_ (some 41) rfl rfl Tryz.func84 (by kernel_rfl) rfl #[.agg #[.string a2_0, .int .i64 a2_1, .int .i64 a2_2, .int .i64 a2_3, .int .i64 a2_4, .int .i64 a2_5, .int .i64 a2_6]] rfl any_s ?_; (with_reducible refine (aircraft_Check.calls k1 a2_0 a2_1 a2_2 a2_3 a2_4 a2_5 a2_6 t306 _ A30.out).mono ?_); rintro e wx4d821 ⟨rfl, hb⟩; refine ⟨_, rfl, ?_⟩; replace BK300 := kp BK300 hb; replace BK301 := kp BK301 hb; replace HB := st HB hb; obtain ⟨hczx4d821, hczx4d822, hczx4d823, hczx4d824, hczx4d825, hczx4d826, hczx4d827, hczx4d828, hfzx4d821, hfzx4d822, hfzx4d823, hfzx4d824, hfzx4d825, hfzx4d826, hfzx4d827, hfzx4d828⟩ := bq8 BK300; obtain ⟨hczx4d829, hczx4d8210, hczx4d8211, hczx4d8212, hczx4d8213, hczx4d8214, hczx4d8215, hfzx4d829, hfzx4d8210, hfzx4d8211, hfzx4d8212, hfzx4d8213, hfzx4d8214, hfzx4d8215⟩ := bq7 BK301) | ((with_reducible refine gate_callee (f := 84) rfl ?_); refine goesL_ (some 41) rfl rfl Tryz.func84 (by kernel_rfl) rfl #[.agg #[.string a2_0, .int .i64 a2_1, .int .i64 a2_2, .int .i64 a2_3, .int .i64 a2_4, .int .i64 a2_5, .int .i64 a2_6]] rfl any_s ?_; (with_reducible refine (aircraft_Check.calls k1 a2_0 a2_1 a2_2 a2_3 a2_4 a2_5 a2_6 t306 _ A30.out).mono ?_); rintro e wx69971 ⟨rfl, hb⟩; refine ⟨_, rfl, ?_⟩; replace BK300 := kp BK300 hb; replace BK301 := kp BK301 hb; replace HB := st HB hb) | ((with_reducible refine gate_callee (f := 61) rfl ?_); refine goesL_ (some 65) rfl rfl Tryz.func61 (by kernel_rfl) rfl #[.slice A3 l3.length c3] rfl any_s ?_; (with_reducible refine (wind_Check.calls k1 _ _ l3 t307 _ ?side1 ?side2 A56.out).mono ?_); (case side1 => exact cb_s (Kd.C_below HR3.out HB.out)); (case side2 => exact HC3.out); rintro e wxd8741 ⟨rfl, hb⟩; refine ⟨_, rfl, ?_⟩; replace BK300 := kp BK300 hb; replace BK301 := kp BK301 hb; replace HB := st HB hb))
              go_ret
              exact ⟨er_, bel_s⟩
end Go.Proofs.YthpbpdobghceeaaGreatDoor.PFlyWinds
