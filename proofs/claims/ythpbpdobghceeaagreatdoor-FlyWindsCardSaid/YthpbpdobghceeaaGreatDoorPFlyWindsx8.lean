/- Made by wip/tools/myprint.py (over the kit's printer). -/
import Derived.Test.YthpbpdobghceeaaGreatDoorTSq3
import Derived.Test.YthpbpdobghceeaaGreatDoorPFlyWindsx0
import Derived.Test.YthpbpdobghceeaaGreatDoorPFlyWindsx6
import Derived.Test.YthpbpdobghceeaaGreatDoorPFlyWindsx7
namespace Go.Proofs.YthpbpdobghceeaaGreatDoor.PFlyWinds
open Go.RowKit Go.Proofs.YthpbpdobghceeaaGreatDoorW.PrintWords Go.Proofs.YthpbpdobghceeaaGreatDoorW.PrintLast Go.Proofs.YthpbpdobghceeaaGreatDoorW.PrintMore
attribute [local go_sem] max2_int min2_int max_two min_two max_three min_three max_four min_four
set_option linter.unusedVariables false
set_option maxRecDepth 100000
set_option maxHeartbeats 8000000
set_option linter.unusedSimpArgs false
mutual
def route_names.l0 : Nat → List ByteArray → List ByteArray → Int → Int → List (S84) → List (S139) → Option (List ByteArray × Int)
  | 0, _, _, _, _, _, _ => none
  | k + 1, x0, x14, x15, x16, x172000, x172001 => if x16 < x15 then (if 0 ≤ x16 then (if x16 < (x14.length : Int) then ((route_isFix.f x172000 x172001 (rdOf ByteArray.empty x14 x16)).bind fun t173 => (if t173 = true then (route_names.l0 k x0 x14 x15 (wrap64 (x16 + 1)) x172000 x172001) else ((route_isAirway.f x172000 x172001 (rdOf ByteArray.empty x14 x16)).bind fun t174 => (if t174 = true then (route_names.l0 k x0 x14 x15 (wrap64 (x16 + 1)) x172000 x172001) else (some (([] : List ByteArray), 6)))))) else (none)) else (none)) else (route_names.l1 k x0 1 x172000 x172001)
def route_names.l1 : Nat → List ByteArray → Int → List (S84) → List (S139) → Option (List ByteArray × Int)
  | 0, _, _, _, _ => none
  | k + 1, x0, x8, x172000, x172001 => if x8 < (x0.length : Int) then (if 0 ≤ (wrap64 (x8 - 1)) then (if (wrap64 (x8 - 1)) < (x0.length : Int) then ((route_isAirway.f x172000 x172001 (rdOf ByteArray.empty x0 (wrap64 (x8 - 1)))).bind fun t176 => (if t176 = true then (if 0 ≤ x8 then ((route_isAirway.f x172000 x172001 (rdOf ByteArray.empty x0 x8)).bind fun t178 => (if t178 = true then (some (([] : List ByteArray), 3)) else (route_names.l1 k x0 (wrap64 (x8 + 1)) x172000 x172001))) else (none)) else (route_names.l1 k x0 (wrap64 (x8 + 1)) x172000 x172001))) else (none)) else (none)) else (route_names.l2 k x0 ([] : List ByteArray) x0 (x0.length : Int) 0 x172000 x172001)
def route_names.l2 : Nat → List ByteArray → List ByteArray → List ByteArray → Int → Int → List (S84) → List (S139) → Option (List ByteArray × Int)
  | 0, _, _, _, _, _, _, _ => none
  | k + 1, x0, x9, x52, x53, x54, x172000, x172001 => if x54 < x53 then (if 0 ≤ x54 then (if x54 < (x52.length : Int) then ((route_isAirway.f x172000 x172001 (rdOf ByteArray.empty x52 x54)).bind fun t180 => (if t180 = true then (if 0 ≤ (wrap64 (x54 - 1)) then (if (wrap64 (x54 - 1)) < (x0.length : Int) then (if 0 ≤ (wrap64 (x54 + 1)) then (if (wrap64 (x54 + 1)) < (x0.length : Int) then ((chart_Between.f k x172000 x172001 (rdOf ByteArray.empty x52 x54) (rdOf ByteArray.empty x0 (wrap64 (x54 - 1))) (rdOf ByteArray.empty x0 (wrap64 (x54 + 1)))).bind fun bt183 => (if bt183.2 = 0 then (if 1 ≤ (mx 1 (wrap64 ((bt183.1.length : Int) - 1))) then (if (mx 1 (wrap64 ((bt183.1.length : Int) - 1))) ≤ (bt183.1.length : Int) then ((some ((bt183.1.take ((mx 1 (wrap64 ((bt183.1.length : Int) - 1))) : Int).toNat).drop 1 : List ByteArray)).bind fun y187 => (if x9.length + y187.length < 8796093022208 then (route_names.l2 k x0 (x9 ++ y187) x52 x53 (wrap64 (x54 + 1)) x172000 x172001) else (none))) else (none)) else (none)) else (some (([] : List ByteArray), bt183.2)))) else (none)) else (none)) else (none)) else (none)) else (if x9.length < 8796093022208 then (route_names.l2 k x0 (x9 ++ [rdOf ByteArray.empty x52 x54]) x52 x53 (wrap64 (x54 + 1)) x172000 x172001) else (none)))) else (none)) else (none)) else (some (x9, 0))
end
def route_names.f (k : Nat) (l0 : List ByteArray) (l1_0 : List (S84)) (l1_1 : List (S139)) : Option (List ByteArray × Int) := route_names.l0 k l0 l0 (l0.length : Int) 0 l1_0 l1_1
theorem route_names.mono_l : ∀ k, (∀ y0 y1 y2 y3 y4 y5, LeO (route_names.l0 k y0 y1 y2 y3 y4 y5) (route_names.l0 (k + 1) y0 y1 y2 y3 y4 y5)) ∧ (∀ y0 y1 y2 y3, LeO (route_names.l1 k y0 y1 y2 y3) (route_names.l1 (k + 1) y0 y1 y2 y3)) ∧ (∀ y0 y1 y2 y3 y4 y5 y6, LeO (route_names.l2 k y0 y1 y2 y3 y4 y5 y6) (route_names.l2 (k + 1) y0 y1 y2 y3 y4 y5 y6))
  | 0 => ⟨fun _ _ _ _ _ _ r h => by simp [route_names.l0] at h, fun _ _ _ _ r h => by simp [route_names.l1] at h, fun _ _ _ _ _ _ _ r h => by simp [route_names.l2] at h⟩
  | k + 1 => by
    obtain ⟨ih0, ih1, ih2⟩ := route_names.mono_l k; refine ⟨?_, ?_, ?_⟩
    · intro y0 y1 y2 y3 y4 y5; unfold route_names.l0
      repeat' with_reducible first | apply ih0 | apply ih1 | apply ih2 | apply chart_Between.mono | apply LeO.refl | apply LeO.none | apply LeO.ite | refine LeO.bind ?_ (fun _ => ?_)
    · intro y0 y1 y2 y3; unfold route_names.l1
      repeat' with_reducible first | apply ih0 | apply ih1 | apply ih2 | apply chart_Between.mono | apply LeO.refl | apply LeO.none | apply LeO.ite | refine LeO.bind ?_ (fun _ => ?_)
    · intro y0 y1 y2 y3 y4 y5 y6; unfold route_names.l2
      repeat' with_reducible first | apply ih0 | apply ih1 | apply ih2 | apply chart_Between.mono | apply LeO.refl | apply LeO.none | apply LeO.ite | refine LeO.bind ?_ (fun _ => ?_)
theorem route_names.mono : ∀ a0 a1 a2 k, LeO (route_names.f k a0 a1 a2) (route_names.f (k + 1) a0 a1 a2) := by
  intro a0 a1 a2 k; obtain ⟨ih0, ih1, ih2⟩ := route_names.mono_l k; unfold route_names.f
  repeat' with_reducible first | apply ih0 | apply ih1 | apply ih2 | apply chart_Between.mono | apply LeO.refl | apply LeO.none | apply LeO.ite | refine LeO.bind ?_ (fun _ => ?_)
def route_names.T10 : Bool × List (List Nat × List Nat) := (true, [([], []), ([], []), ([], []), ([2], [2]), ([1, 3], [1, 3]), ([4], [4]), ([0, 5], [0, 5]), ([6, 6], [6]), ([7], [7]), ([7], [7]), ([7], [7]), ([9, 10, 7], [7, 9, 10]), ([11, 7], [7, 11]), ([8, 12, 7, 7], [7, 8, 12]), ([7, 13], [7, 13])])
def route_names.B10 : List Nat := [0, 0, 0, 4, 14, 30, 63, 127, 255, 255, 255, 1791, 3839, 8191, 16383]
theorem route_names.tab10 : rtab .any (opsOf Tryz.f35 10) = route_names.T10 := by kernel_rfl
theorem route_names.bits10 : waitsOk route_names.T10.2 route_names.B10 = true := by kernel_rfl
def route_names.T18 : Bool × List (List Nat × List Nat) := (true, [([], []), ([], []), ([], []), ([], []), ([3], [3]), ([2, 4], [2, 4]), ([5], [5]), ([], []), ([], []), ([8], [8]), ([7, 9], [7, 9]), ([10], [10]), ([0, 1, 6, 11], [0, 1, 6, 11]), ([12], [12]), ([13], [13]), ([13], [13]), ([14, 12, 0, 1, 2, 3, 4, 5, 6, 7, 8, 9, 10, 11, 12, 13, 14], [14]), ([15, 16, 0, 1, 2, 3, 4, 5, 6, 7, 8, 9, 10, 11, 12, 13, 14, 15, 16], [15])])
def route_names.B18 : List Nat := [0, 0, 0, 0, 8, 28, 60, 0, 0, 256, 896, 1920, 4095, 8191, 16383, 16383, 32767, 131071]
theorem route_names.tab18 : rtab .any (opsOf Tryz.f35 18) = route_names.T18 := by kernel_rfl
theorem route_names.bits18 : waitsOk route_names.T18.2 route_names.B18 = true := by kernel_rfl
theorem route_names.calls (k : Nat) (A0 : Option Addr) (c0 : Nat) (l0 : List ByteArray) (A1_0 : Option Addr) (c1_0 : Nat) (l1_0 : List (S84)) (A1_1 : Option Addr) (c1_1 : Nat) (l1_1 : List (S139)) (r1 : List ByteArray) (r2 : Int) (w : World) (hr0 : Kd.C Kd.string w A0 l0.length l0) (hc0 : l0.length ≤ c0) (hr1_0 : Kd.C k84 w A1_0 l1_0.length l1_0) (hc1_0 : l1_0.length ≤ c1_0) (hr1_1 : Kd.C k139 w A1_1 l1_1.length l1_1) (hc1_1 : l1_1.length ≤ c1_1) (h : route_names.f k l0 l1_0 l1_1 = some (r1, r2)) :
    Calls Tryz.prog 35 #[.slice A0 l0.length c0, .agg #[.slice A1_0 l1_0.length c1_0, .slice A1_1 l1_1.length c1_1]] w fun e w' => ∃ v0_ : Value, e = .returned (.tuple #[v0_, .int .i64 r2]) ∧ Kd.R Kd.string 9 w' w.heap.size (fun _ => True) v0_ r1 ∧ Below w.heap.size w w' := by
 have hu43 := Tryz.underlying43; have HR0 := Aside0.mk hr0; have HC0 := Aside0.mk hc0; clear hr0 hc0; have HR1_0 := Aside0.mk hr1_0; have HC1_0 := Aside0.mk hc1_0; clear hr1_0 hc1_0; have HR1_1 := Aside0.mk hr1_1; have HC1_1 := Aside0.mk hc1_1; clear hr1_1 hc1_1; have HB := Aside0.mk (Below.refl w.heap.size w); have H := h; unfold route_names.f at H; clear h; have H' := Aside0.mk H; clear H; go_enter Tryz.func35, Tryz.ntmps35
 go_wp2_with (first | ((with_reducible refine gate_dst (N := 3) rfl ?_); refine box_s #[.slice A1_0 l1_0.length c1_0, .slice A1_1 l1_1.length c1_1] 43 ?_; intro gb171 hg w3 hbox hb; have BK171 := Aside0.mk (hbox); have GW171 := ge HB hg; have GE171 := ge HB hg; replace HB := st HB hb; clear hb hbox hg))
 go_loopg [16] k (fun kq v16 w' => ∃ (x16_1 : Int), v16 = .int .i64 x16_1 ∧ Aside0 (route_names.l0 kq l0 l0 (l0.length : Int) x16_1 l1_0 l1_1 = some (r1, r2)) ∧ Aside0 (kq ≤ k) ∧ Aside0 (w'.heap[gb171]? = some (.cells #[(.slice A1_0 l1_0.length c1_0), (.slice A1_1 l1_1.length c1_1)] 43 (0, 0))) ∧ Aside0 (Below w.heap.size w w'))
 case atStart => exact ⟨(0), rs_, H', ⟨Nat.le_refl _⟩, ⟨blk_s⟩, ⟨bel_s⟩⟩
 case round =>
  clear H'
  obtain ⟨x16_1, rfl, HA, HK1, BK171, HB⟩ := hrel
  cases gk with
  | zero => exact absurd HA.out (by simp [route_names.l0])
  | succ k1 =>
   have H := HA.out; clear HA; simp only [route_names.l0] at H; refine Or.elim (Classical.em (x16_1 < (l0.length : Int))) (fun c4 => ?p2_) (fun c4 => ?n2_)
   case' p2_ =>
    rw [if_pos c4] at H; have c4b0 := decide_eq_true c4; clear c4; obtain ⟨c5b0, H⟩ := ip_ H; obtain ⟨c6b0, H⟩ := ip_ H; replace H := Option.bind_eq_some_iff.mp H; obtain ⟨t173, A70, H⟩ := H; (try dsimp only at H); have A7 := Aside0.mk A70; clear A70; refine Or.elim (Classical.em (t173 = true)) (fun c8 => ?p5_) (fun c8 => ?n5_)
    case' p5_ =>
     subst c8
     rw [if_pos rfl] at H; (try dsimp only at H); have hm1_0 := Aside0.mk trivial
    case' n5_ =>
     replace c8 := Bool.eq_false_iff.mpr c8; subst c8
     rw [if_neg (show ¬ (false = true) by decide)] at H; (try dsimp only at H); replace H := Option.bind_eq_some_iff.mp H; obtain ⟨t174, A110, H⟩ := H; (try dsimp only at H); have A11 := Aside0.mk A110; clear A110; refine Or.elim (Classical.em (t174 = true)) (fun c12 => ?p6_) (fun c12 => ?n6_)
     case' p6_ =>
      subst c12
      rw [if_pos rfl] at H; (try dsimp only at H); have hm1_0 := Aside0.mk trivial
     case' n6_ =>
      replace c12 := Bool.eq_false_iff.mpr c12; subst c12
      rw [if_neg (show ¬ (false = true) by decide)] at H; (try dsimp only at H); simp only [Option.some.injEq, Prod.mk.injEq] at H; obtain ⟨rfl, rfl⟩ := H
      have p172 : 0 ≤ (x16_1 : Int) := od_
      have q172 : x16_1 < (l0.length : Int) := od_
      obtain ⟨ad172, e172, hx172_0⟩ := Kd.at_string HR0.out x16_1 p172 q172; cases e172; replace hx172_0 := cl HB hx172_0; replace p172 := eq_true p172; replace q172 := eq_true q172; have hm1_1 := Aside0.mk trivial
   case' n2_ =>
    rw [if_neg c4] at H; have c4b0 := decide_eq_false c4; clear c4; have hm1_2 := Aside0.mk trivial
   all_goals
    first
     | (first | (have _hm := hm1_0) | (have _hm := hm1_2))
       have H' := Aside0.mk H; clear H
       first
        | clear hm1_0
          have p172 : 0 ≤ (x16_1 : Int) := od_
          have q172 : x16_1 < (l0.length : Int) := od_
          obtain ⟨ad172, e172, hx172_0⟩ := Kd.at_string HR0.out x16_1 p172 q172; cases e172; replace hx172_0 := cl HB hx172_0; replace p172 := eq_true p172; replace q172 := eq_true q172; obtain ⟨hczzc1, hczzc2, hfzzc1, hfzzc2⟩ := bq2 BK171
          go_wp2_with (first | ((with_reducible refine gate_callee (f := 34) rfl ?_); refine goesL_ (some 22) rfl rfl Tryz.func34 (by kernel_rfl) rfl #[.agg #[.slice A1_0 l1_0.length c1_0, .slice A1_1 l1_1.length c1_1], .string (rdOf ByteArray.empty l0 x16_1)] rfl any_s ?_; (with_reducible refine (route_isFix.calls _ _ l1_0 _ _ l1_1 (rdOf ByteArray.empty l0 x16_1) false _ ?side1 ?side2 ?side3 ?side4 A7.out).mono ?_); (case side1 => exact cb_s (Kd.C_below HR1_0.out HB.out)); (case side2 => exact HC1_0.out); (case side3 => exact cb_s (Kd.C_below HR1_1.out HB.out)); (case side4 => exact HC1_1.out); rintro e wx29f71 ⟨rfl, hb⟩; refine ⟨_, rfl, ?_⟩; replace BK171 := kp BK171 hb; replace HB := st HB hb; obtain ⟨hczx29f71, hczx29f72, hfzx29f71, hfzx29f72⟩ := bq2 BK171) | ((with_reducible refine gate_callee (f := 34) rfl ?_); refine goesL_ (some 22) rfl rfl Tryz.func34 (by kernel_rfl) rfl #[.agg #[.slice A1_0 l1_0.length c1_0, .slice A1_1 l1_1.length c1_1], .string (rdOf ByteArray.empty l0 x16_1)] rfl any_s ?_; (with_reducible refine (route_isFix.calls _ _ l1_0 _ _ l1_1 (rdOf ByteArray.empty l0 x16_1) true _ ?side1 ?side2 ?side3 ?side4 A7.out).mono ?_); (case side1 => exact cb_s (Kd.C_below HR1_0.out HB.out)); (case side2 => exact HC1_0.out); (case side3 => exact cb_s (Kd.C_below HR1_1.out HB.out)); (case side4 => exact HC1_1.out); rintro e wx9a951 ⟨rfl, hb⟩; refine ⟨_, rfl, ?_⟩; replace BK171 := kp BK171 hb; replace HB := st HB hb) | (go_at_call 81; (with_reducible refine (route_isAirway.calls _ _ l1_0 _ _ l1_1 (rdOf ByteArray.empty l0 x16_1) true _ ?side1 ?side2 ?side3 ?side4 A11.out).mono ?_); (case side1 => exact cb_s (Kd.C_below HR1_0.out HB.out)); (case side2 => exact HC1_0.out); (case side3 => exact cb_s (Kd.C_below HR1_1.out HB.out)); (case side4 => exact HC1_1.out); rintro e wxaa151 ⟨rfl, hb⟩; replace BK171 := kp BK171 hb; replace HB := st HB hb))
          go_roundg k1
          case measure => have := HK1.out; omega
          case rel => exact ⟨(wrap64 (x16_1 + 1)), rs_, H', ⟨by have := HK1.out; omega⟩, ⟨blk_s⟩, ⟨bel_s⟩⟩
        | clear hm1_2; go_wp2; go_loopg [8] k1 (fun kq v8 w' => ∃ (x8_2 : Int), v8 = .int .i64 x8_2 ∧ Aside0 (route_names.l1 kq l0 x8_2 l1_0 l1_1 = some (r1, r2)) ∧ Aside0 (kq ≤ k1) ∧ Aside0 (w'.heap[gb171]? = some (.cells #[(.slice A1_0 l1_0.length c1_0), (.slice A1_1 l1_1.length c1_1)] 43 (0, 0))) ∧ Aside0 (Below w.heap.size w w'))
          case atStart => exact ⟨(1), rs_, H', ⟨Nat.le_refl _⟩, ⟨blk_s⟩, ⟨bel_s⟩⟩
          case round =>
           clear H'
           obtain ⟨x8_2, rfl, HA, HK2, BK171, HB⟩ := hrel
           cases gk with
           | zero => exact absurd HA.out (by simp [route_names.l1])
           | succ k2 =>
            have H := HA.out; clear HA; simp only [route_names.l1] at H; refine Or.elim (Classical.em (x8_2 < (l0.length : Int))) (fun c21 => ?p8_) (fun c21 => ?n8_)
            case' p8_ =>
             rw [if_pos c21] at H; have c21b0 := decide_eq_true c21; clear c21; obtain ⟨ji22, hji22⟩ : ∃ j_ : Int, (wrap64 (x8_2 - 1)) = j_ := ⟨_, rfl⟩
             (first | rw [hji22] at H | simp only [hji22] at H)
             have hji22w : (IntKind.i64.wrap (x8_2 - 1)) = ji22 := (i64_w _).trans hji22; obtain ⟨c23b0, H⟩ := ip_ H; obtain ⟨c24b0, H⟩ := ip_ H; replace H := Option.bind_eq_some_iff.mp H; obtain ⟨t176, A250, H⟩ := H; (try dsimp only at H); have A25 := Aside0.mk A250; clear A250; refine Or.elim (Classical.em (t176 = true)) (fun c26 => ?p11_) (fun c26 => ?n11_)
             case' p11_ =>
              subst c26
              rw [if_pos rfl] at H; (try dsimp only at H); obtain ⟨c27b0, H⟩ := ip_ H; replace H := Option.bind_eq_some_iff.mp H; obtain ⟨t178, A280, H⟩ := H; (try dsimp only at H); have A28 := Aside0.mk A280; clear A280; refine Or.elim (Classical.em (t178 = true)) (fun c29 => ?p13_) (fun c29 => ?n13_)
              case' p13_ =>
               subst c29
               rw [if_pos rfl] at H; (try dsimp only at H); simp only [Option.some.injEq, Prod.mk.injEq] at H; obtain ⟨rfl, rfl⟩ := H; have hm7_0 := Aside0.mk trivial
              case' n13_ =>
               replace c29 := Bool.eq_false_iff.mpr c29; subst c29
               rw [if_neg (show ¬ (false = true) by decide)] at H; (try dsimp only at H); have hm7_1 := Aside0.mk trivial
             case' n11_ =>
              replace c26 := Bool.eq_false_iff.mpr c26; subst c26
              rw [if_neg (show ¬ (false = true) by decide)] at H; (try dsimp only at H); have hm7_2 := Aside0.mk trivial
            case' n8_ =>
             rw [if_neg c21] at H; have c21b0 := decide_eq_false c21; clear c21; have hm7_3 := Aside0.mk trivial
            all_goals
             first
              | clear hm7_0
                try go_wp2
                replace BK171 := Aside0.mk (blk_drew BK171.out); replace HB := Aside0.mk (below_drew1 HB.out)
                have p175 : 0 ≤ ((ji22) : Int) := od_
                have q175 : (ji22) < (l0.length : Int) := od_
                obtain ⟨ad175, e175, hx175_0⟩ := Kd.at_string HR0.out (ji22) p175 q175; have hw175_0 := hx175_0; cases e175; replace hx175_0 := cl HB hx175_0; replace p175 := eq_true p175; replace q175 := eq_true q175
                have p177 : 0 ≤ (x8_2 : Int) := od_
                have q177 : x8_2 < (l0.length : Int) := od_
                obtain ⟨ad177, e177, hx177_0⟩ := Kd.at_string HR0.out x8_2 p177 q177; have hw177_0 := hx177_0; obtain rfl : ad175 = ad177 := (by injection e177); replace hx177_0 := cl HB hx177_0; replace p177 := eq_true p177; replace q177 := eq_true q177; refine start_ (n := 15) (S := fun w' => w'.cell? ⟨gb171, 0, none⟩ = some (.slice A1_0 l1_0.length c1_0) ∧ w'.cell? ⟨gb171, 1, none⟩ = some (.slice A1_1 l1_1.length c1_1) ∧ w'.cell? (ad175.add ((ji22)).toNat) = some (.string (rdOf ByteArray.empty l0 (ji22))) ∧ w'.cell? (ad175.add (x8_2).toNat) = some (.string (rdOf ByteArray.empty l0 x8_2))) (ds := []) #[false, false, false, false, false, false, false, false, false, false, false, false, false, false, false] (by kernel_rfl) rfl rfl ⟨(blk_cell BK171.out 0).trans rfl, (blk_cell BK171.out 1).trans rfl, (cl HB hw175_0), (cl HB hw177_0)⟩ (fun hHeld => ?_); refine with_tabW route_names.tab10 route_names.bits10 (fun HT_ HW_ => ?_); generalize wr.drew = wze1 at BK171 HB hx175_0 hx177_0 hHeld ⊢; refine pu_ 1 38 HT_ (h := ?_); refine pu_ 2 39 HT_ (h := ?_); refine pu_ 3 40 HT_ (h := ?_); refine pu_ 4 41 HT_ (h := ?_); refine tk_ 0 37 HT_ HW_ hHeld (h := ?_); refine tk_ 5 42 HT_ HW_ hHeld (h := ?_); refine one_ (i := 6) (N := some 43) #[true, true, true, true, true, true, true, false, false, false, false, false, false, false, false] rfl rfl (one_of HT_.out (by kernel_rfl)) (by decide) (fun K hK => ?_)
                refine goes_ Tryz.func81 (by kernel_rfl) rfl #[.agg #[.slice A1_0 l1_0.length c1_0, .slice A1_1 l1_1.length c1_1], .string (rdOf ByteArray.empty l0 (ji22))] (by rfl) rfl rfl (by (try simp only [List.map_toArray, List.map_cons, List.map_nil]); first | done | (simp only [hji22]; rfl) | rfl | (simp only [List.length_drop, List.length_take]; rfl)) ?_
                with_reducible refine (route_isAirway.calls _ _ l1_0 _ _ l1_1 (rdOf ByteArray.empty l0 (ji22)) true _ ?side1 ?side2 ?side3 ?side4 A25.out).mono ?_
                (case side1 => exact cb_s (Kd.C_below HR1_0.out HB.out))
                (case side2 => exact HC1_0.out)
                (case side3 => exact cb_s (Kd.C_below HR1_1.out HB.out))
                (case side4 => exact HC1_1.out)
                rintro e wze2 ⟨rfl, hb⟩; refine ⟨_, rfl, ?_⟩; replace BK171 := kp BK171 hb; replace HB := st HB hb
                refine hK.out _ _ ⟨(blk_cell BK171.out 0).trans rfl, (blk_cell BK171.out 1).trans rfl, (cl HB hw175_0), (cl HB hw177_0)⟩ (fun hHeld => ?_); clear hK K; refine norm_ (a' := ?_) ?_ ?_; rotate_left
                · show Act.put _ (some 43) _ = _; simp only [Act.put, List.setIfInBounds_toArray, List.set_cons_zero, List.set_cons_succ, i64_w, i32_w]; rfl
                refine pu_ 7 44 HT_ (h := ?_); refine pu_ 9 46 HT_ (h := ?_); refine pu_ 10 47 HT_ (h := ?_); refine pu_ 11 48 HT_ (h := ?_); refine tk_ 8 45 HT_ HW_ hHeld (h := ?_); refine tk_ 12 49 HT_ HW_ hHeld (h := ?_); refine one_ (i := 13) (N := some 50) #[true, true, true, true, true, true, true, true, true, true, true, true, true, true, false] rfl rfl (one_of HT_.out (by kernel_rfl)) (by decide) (fun K hK => ?_); refine goes_ Tryz.func81 (by kernel_rfl) rfl #[.agg #[.slice A1_0 l1_0.length c1_0, .slice A1_1 l1_1.length c1_1], .string (rdOf ByteArray.empty l0 x8_2)] (by rfl) rfl rfl any_s ?_; with_reducible refine (route_isAirway.calls _ _ l1_0 _ _ l1_1 (rdOf ByteArray.empty l0 x8_2) true _ ?side1 ?side2 ?side3 ?side4 A28.out).mono ?_
                (case side1 => exact cb_s (Kd.C_below HR1_0.out HB.out))
                (case side2 => exact HC1_0.out)
                (case side3 => exact cb_s (Kd.C_below HR1_1.out HB.out))
                (case side4 => exact HC1_1.out)
                rintro e wze3 ⟨rfl, hb⟩; refine ⟨_, rfl, ?_⟩; replace BK171 := kp BK171 hb; replace HB := st HB hb
                refine hK.out _ _ ⟨(blk_cell BK171.out 0).trans rfl, (blk_cell BK171.out 1).trans rfl, (cl HB hw175_0), (cl HB hw177_0)⟩ (fun hHeld => ?_); clear hK K; refine norm_ (a' := ?_) ?_ ?_; rotate_left
                · show Act.put _ (some 50) _ = _; simp only [Act.put, List.setIfInBounds_toArray, List.set_cons_zero, List.set_cons_succ, i64_w, i32_w]; rfl
                refine pu_ 14 51 HT_ (h := ?_); refine done_ (done_of HT_.out (by kernel_rfl)) ?_
                try go_wp2
                go_ret2
                exact ⟨_, by first | rfl | (simp [errW_none, errW_some] <;> rfl) | (simp only [← hji22]; first | rfl | (simp [errW_none, errW_some] <;> rfl)) | (simp [*, errW_none, errW_some] <;> rfl), by first | exact Kd.R_nil _ _ _ _ _ | exact Kd.N_nil _ _ _ _ _ | exact Kd.V_nil _ _ _ _ _ | exact Kd.Q_nil _ _ _ _ _ | exact Kd.S_nil _ _ _ _ _, bel_s⟩
              | (first | (have _hm := hm7_1) | (have _hm := hm7_2) | (have _hm := hm7_3))
                have H' := Aside0.mk H; clear H
                first
                 | (first | (have _hm := hm7_1) | (have _hm := hm7_2))
                   try go_wp2
                   replace BK171 := Aside0.mk (blk_drew BK171.out); replace HB := Aside0.mk (below_drew1 HB.out)
                   have p175 : 0 ≤ ((ji22) : Int) := od_
                   have q175 : (ji22) < (l0.length : Int) := od_
                   obtain ⟨ad175, e175, hx175_0⟩ := Kd.at_string HR0.out (ji22) p175 q175; have hw175_0 := hx175_0; cases e175; replace hx175_0 := cl HB hx175_0; replace p175 := eq_true p175; replace q175 := eq_true q175
                   first
                    | clear hm7_1
                      have p177 : 0 ≤ (x8_2 : Int) := od_
                      have q177 : x8_2 < (l0.length : Int) := od_
                      obtain ⟨ad177, e177, hx177_0⟩ := Kd.at_string HR0.out x8_2 p177 q177; have hw177_0 := hx177_0; obtain rfl : ad175 = ad177 := (by injection e177); replace hx177_0 := cl HB hx177_0; replace p177 := eq_true p177; replace q177 := eq_true q177; refine start_ (n := 15) (S := fun w' => w'.cell? ⟨gb171, 0, none⟩ = some (.slice A1_0 l1_0.length c1_0) ∧ w'.cell? ⟨gb171, 1, none⟩ = some (.slice A1_1 l1_1.length c1_1) ∧ w'.cell? (ad175.add ((ji22)).toNat) = some (.string (rdOf ByteArray.empty l0 (ji22))) ∧ w'.cell? (ad175.add (x8_2).toNat) = some (.string (rdOf ByteArray.empty l0 x8_2))) (ds := []) #[false, false, false, false, false, false, false, false, false, false, false, false, false, false, false] (by kernel_rfl) rfl rfl ⟨(blk_cell BK171.out 0).trans rfl, (blk_cell BK171.out 1).trans rfl, (cl HB hw175_0), (cl HB hw177_0)⟩ (fun hHeld => ?_); refine with_tabW route_names.tab10 route_names.bits10 (fun HT_ HW_ => ?_); generalize wr.drew = wze1 at BK171 HB hx175_0 hx177_0 hHeld ⊢; refine pu_ 1 38 HT_ (h := ?_); refine pu_ 2 39 HT_ (h := ?_); refine pu_ 3 40 HT_ (h := ?_); refine pu_ 4 41 HT_ (h := ?_); refine tk_ 0 37 HT_ HW_ hHeld (h := ?_); refine tk_ 5 42 HT_ HW_ hHeld (h := ?_); refine one_ (i := 6) (N := some 43) #[true, true, true, true, true, true, true, false, false, false, false, false, false, false, false] rfl rfl (one_of HT_.out (by kernel_rfl)) (by decide) (fun K hK => ?_)
                      refine goes_ Tryz.func81 (by kernel_rfl) rfl #[.agg #[.slice A1_0 l1_0.length c1_0, .slice A1_1 l1_1.length c1_1], .string (rdOf ByteArray.empty l0 (ji22))] (by rfl) rfl rfl (by (try simp only [List.map_toArray, List.map_cons, List.map_nil]); first | done | (simp only [hji22]; rfl) | rfl | (simp only [List.length_drop, List.length_take]; rfl)) ?_
                      with_reducible refine (route_isAirway.calls _ _ l1_0 _ _ l1_1 (rdOf ByteArray.empty l0 (ji22)) true _ ?side1 ?side2 ?side3 ?side4 A25.out).mono ?_
                      (case side1 => exact cb_s (Kd.C_below HR1_0.out HB.out))
                      (case side2 => exact HC1_0.out)
                      (case side3 => exact cb_s (Kd.C_below HR1_1.out HB.out))
                      (case side4 => exact HC1_1.out)
                      rintro e wze2 ⟨rfl, hb⟩; refine ⟨_, rfl, ?_⟩; replace BK171 := kp BK171 hb; replace HB := st HB hb
                      refine hK.out _ _ ⟨(blk_cell BK171.out 0).trans rfl, (blk_cell BK171.out 1).trans rfl, (cl HB hw175_0), (cl HB hw177_0)⟩ (fun hHeld => ?_); clear hK K; refine norm_ (a' := ?_) ?_ ?_; rotate_left
                      · show Act.put _ (some 43) _ = _; simp only [Act.put, List.setIfInBounds_toArray, List.set_cons_zero, List.set_cons_succ, i64_w, i32_w]; rfl
                      refine pu_ 7 44 HT_ (h := ?_); refine pu_ 9 46 HT_ (h := ?_); refine pu_ 10 47 HT_ (h := ?_); refine pu_ 11 48 HT_ (h := ?_); refine tk_ 8 45 HT_ HW_ hHeld (h := ?_); refine tk_ 12 49 HT_ HW_ hHeld (h := ?_); refine one_ (i := 13) (N := some 50) #[true, true, true, true, true, true, true, true, true, true, true, true, true, true, false] rfl rfl (one_of HT_.out (by kernel_rfl)) (by decide) (fun K hK => ?_); refine goes_ Tryz.func81 (by kernel_rfl) rfl #[.agg #[.slice A1_0 l1_0.length c1_0, .slice A1_1 l1_1.length c1_1], .string (rdOf ByteArray.empty l0 x8_2)] (by rfl) rfl rfl any_s ?_; with_reducible refine (route_isAirway.calls _ _ l1_0 _ _ l1_1 (rdOf ByteArray.empty l0 x8_2) false _ ?side1 ?side2 ?side3 ?side4 A28.out).mono ?_
                      (case side1 => exact cb_s (Kd.C_below HR1_0.out HB.out))
                      (case side2 => exact HC1_0.out)
                      (case side3 => exact cb_s (Kd.C_below HR1_1.out HB.out))
                      (case side4 => exact HC1_1.out)
                      rintro e wze3 ⟨rfl, hb⟩; refine ⟨_, rfl, ?_⟩; replace BK171 := kp BK171 hb; replace HB := st HB hb
                      refine hK.out _ _ ⟨(blk_cell BK171.out 0).trans rfl, (blk_cell BK171.out 1).trans rfl, (cl HB hw175_0), (cl HB hw177_0)⟩ (fun hHeld => ?_); clear hK K; refine norm_ (a' := ?_) ?_ ?_; rotate_left
                      · show Act.put _ (some 50) _ = _; simp only [Act.put, List.setIfInBounds_toArray, List.set_cons_zero, List.set_cons_succ, i64_w, i32_w]; rfl
                      refine pu_ 14 51 HT_ (h := ?_); refine done_ (done_of HT_.out (by kernel_rfl)) ?_
                      try go_wp2
                      first | go_roundg k2 | (subst hji22; go_roundg k2)
                      case measure => have := HK1.out; have := HK2.out; omega
                      case rel => exact ⟨(wrap64 (x8_2 + 1)), rs_, H', ⟨by have := HK1.out; have := HK2.out; omega⟩, ⟨blk_s⟩, ⟨bel_s⟩⟩
                    | clear hm7_2; refine start_ (n := 15) (S := fun w' => w'.cell? ⟨gb171, 0, none⟩ = some (.slice A1_0 l1_0.length c1_0) ∧ w'.cell? ⟨gb171, 1, none⟩ = some (.slice A1_1 l1_1.length c1_1) ∧ w'.cell? (ad175.add ((ji22)).toNat) = some (.string (rdOf ByteArray.empty l0 (ji22)))) (ds := []) #[false, false, false, false, false, false, false, false, false, false, false, false, false, false, false] (by kernel_rfl) rfl rfl ⟨(blk_cell BK171.out 0).trans rfl, (blk_cell BK171.out 1).trans rfl, (cl HB hw175_0)⟩ (fun hHeld => ?_); refine with_tabW route_names.tab10 route_names.bits10 (fun HT_ HW_ => ?_); generalize wr.drew = wze1 at BK171 HB hx175_0 hHeld ⊢; refine pu_ 1 38 HT_ (h := ?_); refine pu_ 2 39 HT_ (h := ?_); refine pu_ 3 40 HT_ (h := ?_); refine pu_ 4 41 HT_ (h := ?_); refine tk_ 0 37 HT_ HW_ hHeld (h := ?_); refine tk_ 5 42 HT_ HW_ hHeld (h := ?_); refine one_ (i := 6) (N := some 43) #[true, true, true, true, true, true, true, false, false, false, false, false, false, false, false] rfl rfl (one_of HT_.out (by kernel_rfl)) (by decide) (fun K hK => ?_)
                      refine goes_ Tryz.func81 (by kernel_rfl) rfl #[.agg #[.slice A1_0 l1_0.length c1_0, .slice A1_1 l1_1.length c1_1], .string (rdOf ByteArray.empty l0 (ji22))] (by rfl) rfl rfl (by (try simp only [List.map_toArray, List.map_cons, List.map_nil]); first | done | (simp only [hji22]; rfl) | rfl | (simp only [List.length_drop, List.length_take]; rfl)) ?_
                      with_reducible refine (route_isAirway.calls _ _ l1_0 _ _ l1_1 (rdOf ByteArray.empty l0 (ji22)) false _ ?side1 ?side2 ?side3 ?side4 A25.out).mono ?_
                      (case side1 => exact cb_s (Kd.C_below HR1_0.out HB.out))
                      (case side2 => exact HC1_0.out)
                      (case side3 => exact cb_s (Kd.C_below HR1_1.out HB.out))
                      (case side4 => exact HC1_1.out)
                      rintro e wze2 ⟨rfl, hb⟩; refine ⟨_, rfl, ?_⟩; replace BK171 := kp BK171 hb; replace HB := st HB hb
                      refine hK.out _ _ ⟨(blk_cell BK171.out 0).trans rfl, (blk_cell BK171.out 1).trans rfl, (cl HB hw175_0)⟩ (fun hHeld => ?_); clear hK K; refine norm_ (a' := ?_) ?_ ?_; rotate_left
                      · show Act.put _ (some 43) _ = _; simp only [Act.put, List.setIfInBounds_toArray, List.set_cons_zero, List.set_cons_succ, i64_w, i32_w]; rfl
                      refine pu_ 7 44 HT_ (h := ?_); refine pv_ 8 45 HT_ (h := ?_); refine pv_ 9 46 HT_ (h := ?_); refine pv_ 10 47 HT_ (h := ?_); refine pv_ 11 48 HT_ (h := ?_); refine pv_ 12 49 HT_ (h := ?_); refine pv_ 13 50 HT_ (h := ?_); refine pu_ 14 51 HT_ (h := ?_); refine done_ (done_of HT_.out (by kernel_rfl)) ?_
                      try go_wp2
                      first | go_roundg k2 | (subst hji22; go_roundg k2)
                      case measure => have := HK1.out; have := HK2.out; omega
                      case rel => exact ⟨(wrap64 (x8_2 + 1)), rs_, H', ⟨by have := HK1.out; have := HK2.out; omega⟩, ⟨blk_s⟩, ⟨bel_s⟩⟩
                 | clear hm7_3; go_wp2; go_loopg [9, 54] k2 (fun kq v9 v54 w' => ∃ (x9_3 : List ByteArray) (x54_3 : Int), v54 = .int .i64 x54_3 ∧ Aside0 (route_names.l2 kq l0 x9_3 l0 (l0.length : Int) x54_3 l1_0 l1_1 = some (r1, r2)) ∧ Aside0 (kq ≤ k2) ∧ Aside0 (Kd.R Kd.string 9 w' w.heap.size (fun _ => True) v9 x9_3) ∧ Aside0 (w'.heap[gb171]? = some (.cells #[(.slice A1_0 l1_0.length c1_0), (.slice A1_1 l1_1.length c1_1)] 43 (0, 0))) ∧ Aside0 (Below w.heap.size w w'))
                   case atStart => exact ⟨(([] : List ByteArray)), (0), rs_, H', ⟨Nat.le_refl _⟩, ⟨by first | exact Kd.R_nil _ _ _ _ _ | exact Kd.N_nil _ _ _ _ _ | exact Kd.V_nil _ _ _ _ _ | exact Kd.Q_nil _ _ _ _ _ | exact Kd.S_nil _ _ _ _ _⟩, ⟨blk_s⟩, ⟨bel_s⟩⟩
                   case round =>
                    clear H'
                    obtain ⟨x9_3, x54_3, rfl, HA, HK3, HO_9, BK171, HB⟩ := hrel
                    cases gk with
                    | zero => exact absurd HA.out (by simp [route_names.l2])
                    | succ k3 =>
                     have H := HA.out; clear HA; simp only [route_names.l2] at H; refine Or.elim (Classical.em (x54_3 < (l0.length : Int))) (fun c38 => ?p15_) (fun c38 => ?n15_)
                     case' p15_ =>
                      rw [if_pos c38] at H; have c38b0 := decide_eq_true c38; clear c38; obtain ⟨c39b0, H⟩ := ip_ H; obtain ⟨c40b0, H⟩ := ip_ H; replace H := Option.bind_eq_some_iff.mp H; obtain ⟨t180, A410, H⟩ := H; (try dsimp only at H); have A41 := Aside0.mk A410; clear A410; refine Or.elim (Classical.em (t180 = true)) (fun c42 => ?p18_) (fun c42 => ?n18_)
                      case' p18_ =>
                       subst c42
                       rw [if_pos rfl] at H; (try dsimp only at H); obtain ⟨ji43, hji43⟩ : ∃ j_ : Int, (wrap64 (x54_3 - 1)) = j_ := ⟨_, rfl⟩
                       (first | rw [hji43] at H | simp only [hji43] at H)
                       (try rw [hji43] at A41)
                       have hji43w : (IntKind.i64.wrap (x54_3 - 1)) = ji43 := (i64_w _).trans hji43; obtain ⟨c44b0, H⟩ := ip_ H; obtain ⟨c45b0, H⟩ := ip_ H; obtain ⟨ji46, hji46⟩ : ∃ j_ : Int, (wrap64 (x54_3 + 1)) = j_ := ⟨_, rfl⟩
                       (first | rw [hji46] at H | simp only [hji46] at H)
                       (try rw [hji46] at A41)
                       have hji46w : (IntKind.i64.wrap (x54_3 + 1)) = ji46 := (i64_w _).trans hji46; obtain ⟨c47b0, H⟩ := ip_ H; obtain ⟨c48b0, H⟩ := ip_ H; replace H := Option.bind_eq_some_iff.mp H; obtain ⟨⟨t183, t186⟩, A490, H⟩ := H; (try dsimp only at H); have A49 := Aside0.mk A490; clear A490; refine Or.elim (Classical.em (t186 = 0)) (fun c50 => ?p23_) (fun c50 => ?n23_)
                       case' p23_ =>
                        rw [if_pos c50] at H; have c50b0 := beq_iff_eq.mpr c50; have c50b1 := bne_eq_false_iff_eq.mpr c50; clear c50; obtain ⟨ji51, hji51⟩ : ∃ j_ : Int, (mx 1 (wrap64 ((t183.length : Int) - 1))) = j_ := ⟨_, rfl⟩
                        (first | rw [hji51] at H | simp only [hji51] at H)
                        (try rw [hji51] at A41)
                        (try rw [hji51] at A49)
                        (try (have hji51l : 1 ≤ ji51 := by (rw [← hji51]; unfold mx; (repeat' split) <;> omega)))
                        (try (have hji51m : 0 ≤ ji51 := by omega))
                        have hji51_ : (if 1 < (wrap64 ((t183.length : Int) - 1)) then (wrap64 ((t183.length : Int) - 1)) else 1) = ji51 := hji51; refine Or.elim (Classical.em (1 ≤ (ji51))) (fun c52 => ?p24_) (fun c52 => ?n24_)
                        case' p24_ =>
                         rw [if_pos c52] at H; have c52b0 := eq_true c52; have c52b1 := decide_eq_true c52; clear c52; refine Or.elim (Classical.em ((ji51) ≤ (t183.length : Int))) (fun c53 => ?p25_) (fun c53 => ?n25_)
                         case' p25_ =>
                          rw [if_pos c53] at H; have c53b0 := eq_true c53; have c53b1 := decide_eq_true c53; clear c53; obtain ⟨y187, hy187⟩ : ∃ y_ : List ByteArray, y_ = ((t183.take ((ji51) : Int).toNat).drop 1) := ⟨_, rfl⟩
                          replace H : (if x9_3.length + y187.length < 8796093022208 then (route_names.l2 k3 l0 (x9_3 ++ y187) l0 (l0.length : Int) ji46 l1_0 l1_1) else (none)) = some (r1, r2) := by first | (rw [hy187]; with_reducible exact H) | (have H2_ := (Option.bind_some _ _).symm.trans H; rw [hy187]; with_reducible exact H2_) | (have H2_ := (Option.bind_some _ _).symm.trans H; with_reducible exact H2_) | with_reducible exact H | (rw [hy187]; exact H) | exact H
                          have Ny187 := Aside0.mk hy187; clear hy187; refine Or.elim (Classical.em (x9_3.length + y187.length < 8796093022208)) (fun c54 => ?p26_) (fun c54 => ?n26_)
                          case' p26_ =>
                           rw [if_pos c54] at H; have LMc54 := Aside0.mk c54; clear c54; obtain ⟨y191, hy191⟩ : ∃ y_ : List ByteArray, y_ = (x9_3 ++ y187) := ⟨_, rfl⟩
                           replace H : (route_names.l2 k3 l0 y191 l0 (l0.length : Int) ji46 l1_0 l1_1) = some (r1, r2) := by first | (rw [hy191]; with_reducible exact H) | (have H2_ := (Option.bind_some _ _).symm.trans H; rw [hy191]; with_reducible exact H2_) | (have H2_ := (Option.bind_some _ _).symm.trans H; with_reducible exact H2_) | with_reducible exact H | (rw [hy191]; exact H) | exact H
                           have Ny191 := Aside0.mk hy191; clear hy191; have hm14_0 := Aside0.mk trivial
                          case' n26_ =>
                           rw [if_neg c54] at H; exact absurd H (by simp)
                         case' n25_ =>
                          rw [if_neg c53] at H; exact absurd H (by simp)
                        case' n24_ =>
                         rw [if_neg c52] at H; exact absurd H (by simp)
                       case' n23_ =>
                        rw [if_neg c50] at H; have c50b0 := beq_eq_false_iff_ne.mpr c50; have c50b1 := bne_iff_ne.mpr c50; simp only [Option.some.injEq, Prod.mk.injEq] at H; obtain ⟨rfl, rfl⟩ := H
                        have p179 : 0 ≤ (x54_3 : Int) := od_
                        have q179 : x54_3 < (l0.length : Int) := od_
                        obtain ⟨ad179, e179, hx179_0⟩ := Kd.at_string HR0.out x54_3 p179 q179; cases e179; replace hx179_0 := cl HB hx179_0; replace p179 := eq_true p179; replace q179 := eq_true q179; obtain ⟨hczze3, hczze4, hfzze3, hfzze4⟩ := bq2 BK171; have hm14_1 := Aside0.mk trivial
                      case' n18_ =>
                       replace c42 := Bool.eq_false_iff.mpr c42; subst c42
                       rw [if_neg (show ¬ (false = true) by decide)] at H; (try dsimp only at H); refine Or.elim (Classical.em (x9_3.length < 8796093022208)) (fun c66 => ?p27_) (fun c66 => ?n27_)
                       case' p27_ =>
                        rw [if_pos c66] at H; have LMc66 := Aside0.mk c66; clear c66; obtain ⟨y194, hy194⟩ : ∃ y_ : List ByteArray, y_ = (x9_3 ++ [rdOf ByteArray.empty l0 x54_3]) := ⟨_, rfl⟩
                        replace H : (route_names.l2 k3 l0 y194 l0 (l0.length : Int) (wrap64 (x54_3 + 1)) l1_0 l1_1) = some (r1, r2) := by first | (rw [hy194]; with_reducible exact H) | (have H2_ := (Option.bind_some _ _).symm.trans H; rw [hy194]; with_reducible exact H2_) | (have H2_ := (Option.bind_some _ _).symm.trans H; with_reducible exact H2_) | with_reducible exact H | (rw [hy194]; exact H) | exact H
                        have Ny194 := Aside0.mk hy194; clear hy194; have hm14_2 := Aside0.mk trivial
                       case' n27_ =>
                        rw [if_neg c66] at H; exact absurd H (by simp)
                     case' n15_ =>
                      rw [if_neg c38] at H; have c38b0 := decide_eq_false c38; clear c38; simp only [Option.some.injEq, Prod.mk.injEq] at H; obtain ⟨rfl, rfl⟩ := H; have hm14_3 := Aside0.mk trivial
                     all_goals
                      first
                       | (first | (have _hm := hm14_0) | (have _hm := hm14_2))
                         have H' := Aside0.mk H; clear H
                         have p179 : 0 ≤ (x54_3 : Int) := od_
                         have q179 : x54_3 < (l0.length : Int) := od_
                         obtain ⟨ad179, e179, hx179_0⟩ := Kd.at_string HR0.out x54_3 p179 q179; cases e179; replace hx179_0 := cl HB hx179_0; replace p179 := eq_true p179; replace q179 := eq_true q179; obtain ⟨hczzg1, hczzg2, hfzzg1, hfzzg2⟩ := bq2 BK171
                         first
                          | clear hm14_0
                            try go_wp2_with (first | ((with_reducible refine gate_callee (f := 81) rfl ?_); refine goesL_ (some 61) rfl rfl Tryz.func81 (by kernel_rfl) rfl #[.agg #[.slice A1_0 l1_0.length c1_0, .slice A1_1 l1_1.length c1_1], .string (rdOf ByteArray.empty l0 x54_3)] rfl any_s ?_; (with_reducible refine (route_isAirway.calls _ _ l1_0 _ _ l1_1 (rdOf ByteArray.empty l0 x54_3) true _ ?side1 ?side2 ?side3 ?side4 A41.out).mono ?_); (case side1 => exact cb_s (Kd.C_below HR1_0.out HB.out)); (case side2 => exact HC1_0.out); (case side3 => exact cb_s (Kd.C_below HR1_1.out HB.out)); (case side4 => exact HC1_1.out); rintro e wxaa591 ⟨rfl, hb⟩; refine ⟨_, rfl, ?_⟩; replace HO_9 := Aside0.mk (Kd.R_below (by (with_reducible repeat (first | apply Kd.R_alloc | apply Kd.R_drewN | apply Kd.R_drew)); exact HO_9.out) hb); replace BK171 := kp BK171 hb; replace HB := st HB hb))
                            replace HO_9 := Aside0.mk (Kd.R_drew HO_9.out); replace BK171 := Aside0.mk (blk_drew BK171.out); replace HB := Aside0.mk (below_drew1 HB.out)
                            have p181 : 0 ≤ ((ji43) : Int) := od_
                            have q181 : (ji43) < (l0.length : Int) := od_
                            obtain ⟨ad181, e181, hx181_0⟩ := Kd.at_string HR0.out (ji43) p181 q181; have hw181_0 := hx181_0; obtain rfl : ad179 = ad181 := (by injection e181); replace hx181_0 := cl HB hx181_0; replace p181 := eq_true p181; replace q181 := eq_true q181
                            have p182 : 0 ≤ ((ji46) : Int) := od_
                            have q182 : (ji46) < (l0.length : Int) := od_
                            obtain ⟨ad182, e182, hx182_0⟩ := Kd.at_string HR0.out (ji46) p182 q182; have hw182_0 := hx182_0; obtain rfl : ad179 = ad182 := (by injection e182); replace hx182_0 := cl HB hx182_0; replace p182 := eq_true p182; replace q182 := eq_true q182; refine start_ (n := 18) (S := fun w' => w'.cell? ⟨gb171, 0, none⟩ = some (.slice A1_0 l1_0.length c1_0) ∧ w'.cell? ⟨gb171, 1, none⟩ = some (.slice A1_1 l1_1.length c1_1) ∧ w'.cell? (ad179.add ((ji43)).toNat) = some (.string (rdOf ByteArray.empty l0 (ji43))) ∧ w'.cell? (ad179.add ((ji46)).toNat) = some (.string (rdOf ByteArray.empty l0 (ji46)))) (ds := []) #[false, false, false, false, false, false, false, false, false, false, false, false, false, false, false, false, false, false] (by kernel_rfl) rfl rfl ⟨(blk_cell BK171.out 0).trans rfl, (blk_cell BK171.out 1).trans rfl, (cl HB hw181_0), (cl HB hw182_0)⟩ (fun hHeld => ?_); refine with_tabW route_names.tab18 route_names.bits18 (fun HT_ HW_ => ?_); generalize wxaa591.drew = wzg1 at HO_9 BK171 HB hx181_0 hx182_0 hHeld ⊢; refine pu_ 1 69 HT_ (h := ?_); refine pu_ 2 70 HT_ (h := ?_); refine pu_ 3 71 HT_ (h := ?_); refine pu_ 4 72 HT_ (h := ?_); refine pu_ 5 73 HT_ (h := ?_); refine pu_ 7 75 HT_ (h := ?_); refine pu_ 8 76 HT_ (h := ?_); refine pu_ 9 77 HT_ (h := ?_); refine pu_ 10 78 HT_ (h := ?_); refine tk_ 0 68 HT_ HW_ hHeld (h := ?_); refine tk_ 6 74 HT_ HW_ hHeld (h := ?_); refine tk_ 11 79 HT_ HW_ hHeld (h := ?_); refine one_ (i := 12) (N := some 80) #[true, true, true, true, true, true, true, true, true, true, true, true, true, false, false, false, false, false] rfl rfl (one_of HT_.out (by kernel_rfl)) (by decide) (fun K hK => ?_)
                            refine goes_ Tryz.func82 (by kernel_rfl) rfl #[.agg #[.slice A1_0 l1_0.length c1_0, .slice A1_1 l1_1.length c1_1], .string (rdOf ByteArray.empty l0 x54_3), .string (rdOf ByteArray.empty l0 (ji43)), .string (rdOf ByteArray.empty l0 (ji46))] (by rfl) rfl rfl (by (try simp only [List.map_toArray, List.map_cons, List.map_nil]); first | done | (simp only [hji43, hji46]; rfl) | rfl | (simp only [List.length_drop, List.length_take]; rfl)) ?_
                            with_reducible refine (chart_Between.calls k3 _ _ l1_0 _ _ l1_1 (rdOf ByteArray.empty l0 x54_3) (rdOf ByteArray.empty l0 (ji43)) (rdOf ByteArray.empty l0 (ji46)) t183 t186 _ ?side1 ?side2 ?side3 ?side4 A49.out).mono ?_
                            (case side1 => exact cb_s (Kd.C_below HR1_0.out HB.out))
                            (case side2 => exact HC1_0.out)
                            (case side3 => exact cb_s (Kd.C_below HR1_1.out HB.out))
                            (case side4 => exact HC1_1.out)
                            rintro e wzg2 ⟨v184, rfl, hozg1, hb⟩; refine ⟨_, rfl, ?_⟩; have HO185 := Aside0.mk (Kd.R_lower (Kd.R_new' hozg1 (Kd.R_lt (by (with_reducible repeat (first | apply Kd.R_alloc | apply Kd.R_drewN | apply Kd.R_drew)); exact HO_9.out))) bz_s); replace HO_9 := Aside0.mk (Kd.R_elder' (by (with_reducible repeat (first | apply Kd.R_alloc | apply Kd.R_drewN | apply Kd.R_drew)); exact HO_9.out) (Kd.R_base hozg1) hb); replace BK171 := kp BK171 hb; replace HB := st HB hb
                            refine hK.out _ _ ⟨(blk_cell BK171.out 0).trans rfl, (blk_cell BK171.out 1).trans rfl, (cl HB hw181_0), (cl HB hw182_0)⟩ (fun hHeld => ?_); clear hK K; refine norm_ (a' := ?_) ?_ ?_; rotate_left
                            · show Act.put _ (some 80) _ = _; simp only [Act.put, List.setIfInBounds_toArray, List.set_cons_zero, List.set_cons_succ, i64_w, i32_w]; rfl
                            refine pu_ 13 67 HT_ (h := ?_); refine pu_ 14 81 HT_ (h := ?_); refine pu_ 15 82 HT_ (h := ?_); refine pu_ 16 12 HT_ (h := ?_); refine pu_ 17 13 HT_ (h := ?_); refine done_ (done_of HT_.out (by kernel_rfl)) ?_; obtain ⟨Aozg1, cozg1, eozg1⟩ := Kd.R_slice HO185.out; subst eozg1
                            have q60 : ((ji51) : Int) ≤ ((t183.length : Int) : Int) := od_
                            obtain ⟨i060, hi060, _, hsz60, _⟩ := info_parts info9; have hroom60 : t183.length ≤ cozg1 := (Kd.R_reads' HO185.out).2.1; have hC60 : Kd.C Kd.string _ Aozg1 t183.length t183 := (Kd.R_reads' HO185.out).2.2
                            have ql60 : (1 : Int) ≤ ((ji51) : Int) := od_
                            have hcut60 := cut_mid (P := Tryz.prog) 37 9 .i64 .i64 Tryz.underlying37 hi060 1 hsz60 Aozg1 t183.length cozg1 1 (ji51) (by omega) ql60 q60 hroom60; have hr60 := Kd.C_mid (lo := (1 : Int).toNat) (hi := ((ji51) : Int).toNat) (c := cozg1) hC60 (by omega) (by omega) hroom60; obtain ⟨A60, hA60⟩ : ∃ A1, A1 = (if cozg1 = (1 : Int).toNat then Aozg1 else (Aozg1 : Option Addr).map (·.add ((1 : Int).toNat * 1))) := ⟨_, rfl⟩; obtain ⟨c60, hc60⟩ : ∃ c1, c1 = cozg1 - (1 : Int).toNat := ⟨_, rfl⟩
                            have hy60 : y187.length = ((ji51) : Int).toNat - (1 : Int).toNat := (by rw [Ny187.out, List.length_drop, List.length_take] <;> omega)
                            rw [show ((t183).take ((ji51) : Int).toNat).drop (1 : Int).toNat = y187 from Ny187.out.symm] at hr60; replace hr60 : Kd.C Kd.string _ A60 y187.length y187 := (by rw [hA60]; exact hr60); rw [← hy60, ← hA60, ← hc60] at hcut60; have HR190 := Aside0.mk hr60; have HC190 := Aside0.mk (show y187.length ≤ c60 from by rw [hy60, hc60]; exact Nat.sub_le_sub_right (Nat.le_trans (by omega) hroom60) _); clear hr60 hC60 hroom60 hi060 hsz60 hc60; have KY60 := Aside0.mk hy60; have KA60 := Aside0.mk hA60; clear hy60 hA60; have KL60 := Aside0.mk (show ((ji51) : Int).toNat ≤ t183.length from by omega); have KM60 := Aside0.mk (show 1 ≤ ((ji51) : Int).toNat from by omega); replace q60 := eq_true q60
                            try go_wp2_with (first | ((with_reducible refine gate_builtin (b := .append) (xs := #[.tmp 86, .tmp 92]) rfl ?_); at_builtin; refine Kd.R_append_rows Kd.string (w0 := w) w.heap.size rfl (.tmp 86) (.tmp 92) 37 9 (.string ⟨#[]⟩) 16 rfl Tryz.underlying37 info9 rfl (by decide) (by omega) u9 x9_3 y187 _ _ _ (fun k_ => some k_ ≠ (.slice Aozg1 t183.length cozg1 : Value).ownBlock) (fun _ => False) rfl rfl ?aO ?aR (fun _ _ h => h) (fun _ h => h.elim) ?aF ?aB ?aS ?aL ?_; (case aR => repeat (first | exact (by repeat (first | (with_reducible exact HR190.out) | (with_reducible refine Kd.C_alloc ?_ _) | (with_reducible refine Kd.C_drewN ?_ _) | (with_reducible refine Kd.C_drew ?_) | exact HR190.out)) | (with_reducible refine Kd.C_alloc ?_ _) | (with_reducible refine Kd.C_drewN ?_ _) | (with_reducible refine Kd.C_drew ?_))); (case aB => exact bel_s); (case aF => exact (fun k_ hk => Kd.fresh' (Kd.R_lt (by (with_reducible repeat (first | apply Kd.R_alloc | apply Kd.R_drewN | apply Kd.R_drew)); exact HO185.out)) k_ hk)); (case aO => exact (by (with_reducible repeat (first | apply Kd.R_alloc | apply Kd.R_drewN | apply Kd.R_drew)); exact Kd.R_mono HO_9.out (fun _ hk => hk.2))); (case aS => exact bz_s); (case aL => have := LMc54.out; omega); intro v192 wxaad51 ho hb hg hat; rw [← Ny191.out] at ho; replace BK171 := Aside0.mk (blk_grown (g := gb171) (o := .cells #[.slice A1_0 l1_0.length c1_0, .slice A1_1 l1_1.length c1_1] 43 (0, 0)) blk_s hg (Kd.R_ne HO_9.out BK171.out (by decide))); replace HB := Aside0.mk (hb); replace HR190 := Aside0.mk ((show Kd.C Kd.string wxaad51 A60 y187.length y187 from by rw [Ny187.out, KA60.out]; exact Kd.C_mid (lo := 1) (hi := ((ji51) : Int).toNat) (c := cozg1) ((Kd.R_reads' (Kd.R_after (ok := (fun _ => True)) (by (with_reducible repeat (first | apply Kd.R_alloc | apply Kd.R_drewN | apply Kd.R_drew)); exact HO185.out) hg hat)).2.2) KM60.out KL60.out ((Kd.R_reads' (Kd.R_after (ok := (fun _ => True)) (by (with_reducible repeat (first | apply Kd.R_alloc | apply Kd.R_drewN | apply Kd.R_drew)); exact HO185.out) hg hat)).2.1))); replace HO185 := Aside0.mk (Kd.R_after (ok := (fun _ => True)) (by (with_reducible repeat (first | apply Kd.R_alloc | apply Kd.R_drewN | apply Kd.R_drew)); exact HO185.out) hg hat); have HO193 := Aside0.mk (ho); clear HO_9; clear ho hb hg hat))
                            first | go_roundg k3 | (subst hji43; subst hji46; subst hji51; go_roundg k3)
                            case measure => have := HK1.out; have := HK2.out; have := HK3.out; omega
                            case rel => exact ⟨(y191), (ji46), (by first | rfl | (simp; done) | (simp only [← hji46] <;> (first | rfl | (simp; done))) | (simp [*]; done) | (refine congrArg Value.bool ?_; rw [Bool.eq_iff_iff]; simp only [beq_iff_eq, decide_eq_true_eq, List.length_take]; omega)), H', ⟨by have := HK1.out; have := HK2.out; have := HK3.out; omega⟩, ⟨by (with_reducible repeat (first | apply Kd.R_alloc | apply Kd.R_drewN | apply Kd.R_drew)); exact Kd.R_mono HO193.out (fun _ hk => trivial)⟩, ⟨blk_s⟩, ⟨bel_s⟩⟩
                          | clear hm14_2
                            go_wp2_with (first | ((with_reducible refine gate_callee (f := 81) rfl ?_); refine goesL_ (some 61) rfl rfl Tryz.func81 (by kernel_rfl) rfl #[.agg #[.slice A1_0 l1_0.length c1_0, .slice A1_1 l1_1.length c1_1], .string (rdOf ByteArray.empty l0 x54_3)] rfl any_s ?_; (with_reducible refine (route_isAirway.calls _ _ l1_0 _ _ l1_1 (rdOf ByteArray.empty l0 x54_3) false _ ?side1 ?side2 ?side3 ?side4 A41.out).mono ?_); (case side1 => exact cb_s (Kd.C_below HR1_0.out HB.out)); (case side2 => exact HC1_0.out); (case side3 => exact cb_s (Kd.C_below HR1_1.out HB.out)); (case side4 => exact HC1_1.out); rintro e wxdfdb1 ⟨rfl, hb⟩; refine ⟨_, rfl, ?_⟩; replace HO_9 := Aside0.mk (Kd.R_below (by (with_reducible repeat (first | apply Kd.R_alloc | apply Kd.R_drewN | apply Kd.R_drew)); exact HO_9.out) hb); replace BK171 := kp BK171 hb; replace HB := st HB hb) | ((with_reducible refine gate_builtin (b := .append) (xs := #[.tmp 63, .tmp 65]) rfl ?_); at_builtin; refine Kd.R_append Kd.string (w0 := w) w.heap.size rfl (.tmp 63) (.tmp 65) 37 9 (.string ⟨#[]⟩) 16 rfl Tryz.underlying37 info9 rfl (by decide) (by omega) u9 x9_3 (rdOf ByteArray.empty l0 x54_3) [.string (rdOf ByteArray.empty l0 x54_3)] (fun _ => True) (fun _ => False) rfl rfl ?aP (fun _ hk => hk.elim) ?aF ?aO ?aB ?aS ?aL ?_; (case aP => exact rfl); (case aB => exact bel_s); (case aF => exact (fun _ _ => trivial)); (case aO => exact (by (with_reducible repeat (first | apply Kd.R_alloc | apply Kd.R_drewN | apply Kd.R_drew)); exact HO_9.out)); (case aS => exact bz_s); (case aL => have := LMc66.out; omega); intro v195 wxd45c1 ho hb hg hat; rw [← Ny194.out] at ho; replace BK171 := Aside0.mk (blk_grown (g := gb171) (o := .cells #[.slice A1_0 l1_0.length c1_0, .slice A1_1 l1_1.length c1_1] 43 (0, 0)) blk_s hg (Kd.R_ne HO_9.out BK171.out (by decide))); replace HB := Aside0.mk (hb); have HO196 := Aside0.mk (ho); clear HO_9; clear ho hb hg hat))
                            go_roundg k3
                            case measure => have := HK1.out; have := HK2.out; have := HK3.out; omega
                            case rel => exact ⟨(y194), (wrap64 (x54_3 + 1)), rs_, H', ⟨by have := HK1.out; have := HK2.out; have := HK3.out; omega⟩, ⟨ro_ HO196⟩, ⟨blk_s⟩, ⟨bel_s⟩⟩
                       | clear hm14_1
                         try go_wp2_with (first | ((with_reducible refine gate_callee (f := 81) rfl ?_); refine goesL_ (some 61) rfl rfl Tryz.func81 (by kernel_rfl) rfl #[.agg #[.slice A1_0 l1_0.length c1_0, .slice A1_1 l1_1.length c1_1], .string (rdOf ByteArray.empty l0 x54_3)] rfl any_s ?_; (with_reducible refine (route_isAirway.calls _ _ l1_0 _ _ l1_1 (rdOf ByteArray.empty l0 x54_3) true _ ?side1 ?side2 ?side3 ?side4 A41.out).mono ?_); (case side1 => exact cb_s (Kd.C_below HR1_0.out HB.out)); (case side2 => exact HC1_0.out); (case side3 => exact cb_s (Kd.C_below HR1_1.out HB.out)); (case side4 => exact HC1_1.out); rintro e wxaa591 ⟨rfl, hb⟩; refine ⟨_, rfl, ?_⟩; replace HO_9 := Aside0.mk (Kd.R_below (by (with_reducible repeat (first | apply Kd.R_alloc | apply Kd.R_drewN | apply Kd.R_drew)); exact HO_9.out) hb); replace BK171 := kp BK171 hb; replace HB := st HB hb))
                         replace HO_9 := Aside0.mk (Kd.R_drew HO_9.out); replace BK171 := Aside0.mk (blk_drew BK171.out); replace HB := Aside0.mk (below_drew1 HB.out)
                         have p181 : 0 ≤ ((ji43) : Int) := od_
                         have q181 : (ji43) < (l0.length : Int) := od_
                         obtain ⟨ad181, e181, hx181_0⟩ := Kd.at_string HR0.out (ji43) p181 q181; have hw181_0 := hx181_0; obtain rfl : ad179 = ad181 := (by injection e181); replace hx181_0 := cl HB hx181_0; replace p181 := eq_true p181; replace q181 := eq_true q181
                         have p182 : 0 ≤ ((ji46) : Int) := od_
                         have q182 : (ji46) < (l0.length : Int) := od_
                         obtain ⟨ad182, e182, hx182_0⟩ := Kd.at_string HR0.out (ji46) p182 q182; have hw182_0 := hx182_0; obtain rfl : ad179 = ad182 := (by injection e182); replace hx182_0 := cl HB hx182_0; replace p182 := eq_true p182; replace q182 := eq_true q182; refine start_ (n := 18) (S := fun w' => w'.cell? ⟨gb171, 0, none⟩ = some (.slice A1_0 l1_0.length c1_0) ∧ w'.cell? ⟨gb171, 1, none⟩ = some (.slice A1_1 l1_1.length c1_1) ∧ w'.cell? (ad179.add ((ji43)).toNat) = some (.string (rdOf ByteArray.empty l0 (ji43))) ∧ w'.cell? (ad179.add ((ji46)).toNat) = some (.string (rdOf ByteArray.empty l0 (ji46)))) (ds := []) #[false, false, false, false, false, false, false, false, false, false, false, false, false, false, false, false, false, false] (by kernel_rfl) rfl rfl ⟨(blk_cell BK171.out 0).trans rfl, (blk_cell BK171.out 1).trans rfl, (cl HB hw181_0), (cl HB hw182_0)⟩ (fun hHeld => ?_); refine with_tabW route_names.tab18 route_names.bits18 (fun HT_ HW_ => ?_); generalize wxaa591.drew = wzg1 at HO_9 BK171 HB hx181_0 hx182_0 hHeld ⊢; refine pu_ 1 69 HT_ (h := ?_); refine pu_ 2 70 HT_ (h := ?_); refine pu_ 3 71 HT_ (h := ?_); refine pu_ 4 72 HT_ (h := ?_); refine pu_ 5 73 HT_ (h := ?_); refine pu_ 7 75 HT_ (h := ?_); refine pu_ 8 76 HT_ (h := ?_); refine pu_ 9 77 HT_ (h := ?_); refine pu_ 10 78 HT_ (h := ?_); refine tk_ 0 68 HT_ HW_ hHeld (h := ?_); refine tk_ 6 74 HT_ HW_ hHeld (h := ?_); refine tk_ 11 79 HT_ HW_ hHeld (h := ?_); refine one_ (i := 12) (N := some 80) #[true, true, true, true, true, true, true, true, true, true, true, true, true, false, false, false, false, false] rfl rfl (one_of HT_.out (by kernel_rfl)) (by decide) (fun K hK => ?_)
                         refine goes_ Tryz.func82 (by kernel_rfl) rfl #[.agg #[.slice A1_0 l1_0.length c1_0, .slice A1_1 l1_1.length c1_1], .string (rdOf ByteArray.empty l0 x54_3), .string (rdOf ByteArray.empty l0 (ji43)), .string (rdOf ByteArray.empty l0 (ji46))] (by rfl) rfl rfl (by (try simp only [List.map_toArray, List.map_cons, List.map_nil]); first | done | (simp only [hji43, hji46]; rfl) | rfl | (simp only [List.length_drop, List.length_take]; rfl)) ?_
                         with_reducible refine (chart_Between.calls k3 _ _ l1_0 _ _ l1_1 (rdOf ByteArray.empty l0 x54_3) (rdOf ByteArray.empty l0 (ji43)) (rdOf ByteArray.empty l0 (ji46)) t183 t186 _ ?side1 ?side2 ?side3 ?side4 A49.out).mono ?_
                         (case side1 => exact cb_s (Kd.C_below HR1_0.out HB.out))
                         (case side2 => exact HC1_0.out)
                         (case side3 => exact cb_s (Kd.C_below HR1_1.out HB.out))
                         (case side4 => exact HC1_1.out)
                         rintro e wzg2 ⟨v184, rfl, hozg1, hb⟩; refine ⟨_, rfl, ?_⟩; have HO185 := Aside0.mk (Kd.R_lower (Kd.R_new' hozg1 (Kd.R_lt (by (with_reducible repeat (first | apply Kd.R_alloc | apply Kd.R_drewN | apply Kd.R_drew)); exact HO_9.out))) bz_s); replace HO_9 := Aside0.mk (Kd.R_elder' (by (with_reducible repeat (first | apply Kd.R_alloc | apply Kd.R_drewN | apply Kd.R_drew)); exact HO_9.out) (Kd.R_base hozg1) hb); replace BK171 := kp BK171 hb; replace HB := st HB hb
                         refine hK.out _ _ ⟨(blk_cell BK171.out 0).trans rfl, (blk_cell BK171.out 1).trans rfl, (cl HB hw181_0), (cl HB hw182_0)⟩ (fun hHeld => ?_); clear hK K; refine norm_ (a' := ?_) ?_ ?_; rotate_left
                         · show Act.put _ (some 80) _ = _; simp only [Act.put, List.setIfInBounds_toArray, List.set_cons_zero, List.set_cons_succ, i64_w, i32_w]; rfl
                         refine pu_ 13 67 HT_ (h := ?_); refine pu_ 14 81 HT_ (h := ?_); refine pu_ 15 82 HT_ (h := ?_); refine pu_ 16 12 HT_ (h := ?_); refine pu_ 17 13 HT_ (h := ?_); refine done_ (done_of HT_.out (by kernel_rfl)) ?_
                         try go_wp2
                         go_ret2
                         exact ⟨_, by first | rfl | (simp [errW_none, errW_some] <;> rfl) | (simp only [← hji43, ← hji46]; first | rfl | (simp [errW_none, errW_some] <;> rfl)) | (simp [*, errW_none, errW_some] <;> rfl), by first | exact Kd.R_nil _ _ _ _ _ | exact Kd.N_nil _ _ _ _ _ | exact Kd.V_nil _ _ _ _ _ | exact Kd.Q_nil _ _ _ _ _ | exact Kd.S_nil _ _ _ _ _, bel_s⟩
                       | clear hm14_3; go_wp2; go_ret2
                         exact ⟨_, er_, by (with_reducible repeat (first | apply Kd.R_alloc | apply Kd.R_drewN | apply Kd.R_drew)); exact HO_9.out, bel_s⟩
     | clear hm1_1; obtain ⟨hczzc1, hczzc2, hfzzc1, hfzzc2⟩ := bq2 BK171
       go_wp2_with (first | ((with_reducible refine gate_callee (f := 34) rfl ?_); refine goesL_ (some 22) rfl rfl Tryz.func34 (by kernel_rfl) rfl #[.agg #[.slice A1_0 l1_0.length c1_0, .slice A1_1 l1_1.length c1_1], .string (rdOf ByteArray.empty l0 x16_1)] rfl any_s ?_; (with_reducible refine (route_isFix.calls _ _ l1_0 _ _ l1_1 (rdOf ByteArray.empty l0 x16_1) false _ ?side1 ?side2 ?side3 ?side4 A7.out).mono ?_); (case side1 => exact cb_s (Kd.C_below HR1_0.out HB.out)); (case side2 => exact HC1_0.out); (case side3 => exact cb_s (Kd.C_below HR1_1.out HB.out)); (case side4 => exact HC1_1.out); rintro e wx29f71 ⟨rfl, hb⟩; refine ⟨_, rfl, ?_⟩; replace BK171 := kp BK171 hb; replace HB := st HB hb; obtain ⟨hczx29f71, hczx29f72, hfzx29f71, hfzx29f72⟩ := bq2 BK171) | (go_at_call 81; (with_reducible refine (route_isAirway.calls _ _ l1_0 _ _ l1_1 (rdOf ByteArray.empty l0 x16_1) false _ ?side1 ?side2 ?side3 ?side4 A11.out).mono ?_); (case side1 => exact cb_s (Kd.C_below HR1_0.out HB.out)); (case side2 => exact HC1_0.out); (case side3 => exact cb_s (Kd.C_below HR1_1.out HB.out)); (case side4 => exact HC1_1.out); rintro e wx92ce1 ⟨rfl, hb⟩; replace BK171 := kp BK171 hb; replace HB := st HB hb))
       go_ret2
       exact ⟨_, er_, by first | exact Kd.R_nil _ _ _ _ _ | exact Kd.N_nil _ _ _ _ _ | exact Kd.V_nil _ _ _ _ _ | exact Kd.Q_nil _ _ _ _ _ | exact Kd.S_nil _ _ _ _ _, bel_s⟩
end Go.Proofs.YthpbpdobghceeaaGreatDoor.PFlyWinds
