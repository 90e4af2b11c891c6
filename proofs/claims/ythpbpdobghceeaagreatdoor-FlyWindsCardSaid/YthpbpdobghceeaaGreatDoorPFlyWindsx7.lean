/- Made by wip/tools/myprint.py (over the kit's printer). -/
import Derived.Test.YthpbpdobghceeaaGreatDoorTSq3
import Derived.Test.YthpbpdobghceeaaGreatDoorPFlyWindsx0
import Derived.Test.YthpbpdobghceeaaGreatDoorPFlyWindsx4
import Derived.Test.YthpbpdobghceeaaGreatDoorPFlyWindsx6
namespace Go.Proofs.YthpbpdobghceeaaGreatDoor.PFlyWinds
open Go.RowKit Go.Proofs.YthpbpdobghceeaaGreatDoorW.PrintWords Go.Proofs.YthpbpdobghceeaaGreatDoorW.PrintLast Go.Proofs.YthpbpdobghceeaaGreatDoorW.PrintMore
attribute [local go_sem] max2_int min2_int max_two min_two max_three min_three max_four min_four
set_option linter.unusedVariables false
set_option maxRecDepth 100000
set_option maxHeartbeats 8000000
set_option linter.unusedSimpArgs false
def chart_Between.j0 : Nat → List ByteArray → Int → Int → Bool → Option (List ByteArray × Int)
  | 0, _, _, _, _ => none
  | k + 1, x12, x13, x14, x39 => if x39 = true then (some (([] : List ByteArray), 6)) else (if x13 ≤ x14 then (if 0 ≤ x13 then (if x13 ≤ (wrap64 (x14 + 1)) then (if (wrap64 (x14 + 1)) ≤ (x12.length : Int) then ((slices_Clone_string_string.f ((x12.take ((wrap64 (x14 + 1)) : Int).toNat).drop (x13 : Int).toNat)).bind fun t163 => (some (t163, 0))) else (none)) else (none)) else (none)) else (if 0 ≤ x14 then (if x14 ≤ (wrap64 (x13 + 1)) then (if (wrap64 (x13 + 1)) ≤ (x12.length : Int) then ((slices_Clone_string_string.f ((x12.take ((wrap64 (x13 + 1)) : Int).toNat).drop (x14 : Int).toNat)).bind fun t167 => ((slices_Reverse_string_string.f k t167).bind fun t170 => (some (t170, 0)))) else (none)) else (none)) else (none)))
def chart_Between.f (k : Nat) (l0_0 : List (S84)) (l0_1 : List (S139)) (a1 : ByteArray) (a2 : ByteArray) (a3 : ByteArray) : Option (List ByteArray × Int) := (chart_Check.f k l0_0 l0_1).bind fun t157 => (if t157 = 0 then ((api_Airway_109.f l0_1 (chart_Between_1.p a1)).bind fun t158 => (if t158 < 0 then (some (([] : List ByteArray), 6)) else (if 0 ≤ t158 then (if t158 < (l0_1.length : Int) then ((slices_Index_string_string.f k ((rd_T139 l0_1 t158).f1) a2).bind fun t160 => ((slices_Index_string_string.f k ((rd_T139 l0_1 t158).f1) a3).bind fun t161 => (if t160 < 0 then (chart_Between.j0 k ((rd_T139 l0_1 t158).f1) t160 t161 true) else (chart_Between.j0 k ((rd_T139 l0_1 t158).f1) t160 t161 (decide (t161 < 0)))))) else (none)) else (none)))) else (some (([] : List ByteArray), t157)))
theorem chart_Between.mono_l : ∀ k, (∀ y0 y1 y2 y3, LeO (chart_Between.j0 k y0 y1 y2 y3) (chart_Between.j0 (k + 1) y0 y1 y2 y3))
  | 0 => fun _ _ _ _ r h => by simp [chart_Between.j0] at h
  | k + 1 => by
    have ih0 := chart_Between.mono_l k
    · intro y0 y1 y2 y3; unfold chart_Between.j0
      repeat' with_reducible first | apply ih0 | apply chart_Check.mono | apply slices_Index_string_string.mono | apply slices_Reverse_string_string.mono | apply LeO.refl | apply LeO.none | apply LeO.ite | refine LeO.bind ?_ (fun _ => ?_)
theorem chart_Between.mono : ∀ a0 a1 a2 a3 a4 k, LeO (chart_Between.f k a0 a1 a2 a3 a4) (chart_Between.f (k + 1) a0 a1 a2 a3 a4) := by
  intro a0 a1 a2 a3 a4 k; have ih0 := chart_Between.mono_l k; unfold chart_Between.f
  repeat' with_reducible first | apply ih0 | apply chart_Check.mono | apply slices_Index_string_string.mono | apply slices_Reverse_string_string.mono | apply LeO.refl | apply LeO.none | apply LeO.ite | refine LeO.bind ?_ (fun _ => ?_)
theorem chart_Between.calls (k : Nat) (A0_0 : Option Addr) (c0_0 : Nat) (l0_0 : List (S84)) (A0_1 : Option Addr) (c0_1 : Nat) (l0_1 : List (S139)) (a1 : ByteArray) (a2 : ByteArray) (a3 : ByteArray) (r1 : List ByteArray) (r2 : Int) (w : World) (hr0_0 : Kd.C k84 w A0_0 l0_0.length l0_0) (hc0_0 : l0_0.length ≤ c0_0) (hr0_1 : Kd.C k139 w A0_1 l0_1.length l0_1) (hc0_1 : l0_1.length ≤ c0_1) (h : chart_Between.f k l0_0 l0_1 a1 a2 a3 = some (r1, r2)) :
    Calls Tryz.prog 82 #[.agg #[.slice A0_0 l0_0.length c0_0, .slice A0_1 l0_1.length c0_1], .string a1, .string a2, .string a3] w fun e w' => ∃ v0_ : Value, e = .returned (.tuple #[v0_, .int .i64 r2]) ∧ Kd.R Kd.string 9 w' w.heap.size (fun _ => True) v0_ r1 ∧ Below w.heap.size w w' := by
 have hu43 := Tryz.underlying43; have HR0_0 := Aside0.mk hr0_0; have HC0_0 := Aside0.mk hc0_0; clear hr0_0 hc0_0; have HR0_1 := Aside0.mk hr0_1; have HC0_1 := Aside0.mk hc0_1; clear hr0_1 hc0_1; have HB := Aside0.mk (Below.refl w.heap.size w); have H := h; unfold chart_Between.f at H; clear h; replace H := Option.bind_eq_some_iff.mp H; obtain ⟨t157, A50, H⟩ := H; (try dsimp only at H); have A5 := Aside0.mk A50; clear A50; refine Or.elim (Classical.em (t157 = 0)) (fun c6 => ?p2_) (fun c6 => ?n2_)
 case' p2_ =>
  rw [if_pos c6] at H; have c6b0 := beq_iff_eq.mpr c6; have c6b1 := bne_eq_false_iff_eq.mpr c6; clear c6; replace H := Option.bind_eq_some_iff.mp H; obtain ⟨t158, A70, H⟩ := H; (try dsimp only at H); have A7 := Aside0.mk A70; clear A70; refine Or.elim (Classical.em (t158 < 0)) (fun c8 => ?p3_) (fun c8 => ?n3_)
  case' p3_ =>
   rw [if_pos c8] at H; have c8b0 := decide_eq_true c8; clear c8; simp only [Option.some.injEq, Prod.mk.injEq] at H; obtain ⟨rfl, rfl⟩ := H; have hm1_0 := Aside0.mk trivial
  case' n3_ =>
   rw [if_neg c8] at H; have c8b0 := decide_eq_false c8; clear c8; obtain ⟨c16b0, H⟩ := ip_ H; obtain ⟨c17b0, H⟩ := ip_ H; replace H := Option.bind_eq_some_iff.mp H; obtain ⟨t160, A180, H⟩ := H; (try dsimp only at H); have A18 := Aside0.mk A180; clear A180; replace H := Option.bind_eq_some_iff.mp H; obtain ⟨t161, A190, H⟩ := H; (try dsimp only at H); have A19 := Aside0.mk A190; clear A190; have HC20 := Aside0.mk H; clear H; have hm1_1 := Aside0.mk trivial
 case' n2_ =>
  rw [if_neg c6] at H; have c6b0 := beq_eq_false_iff_ne.mpr c6; have c6b1 := bne_iff_ne.mpr c6; simp only [Option.some.injEq, Prod.mk.injEq] at H; obtain ⟨rfl, rfl⟩ := H; have hm1_0 := Aside0.mk trivial
 all_goals
  go_enter Tryz.func82, Tryz.ntmps82
  first
   | clear hm1_0
     go_wp2_with (first | ((with_reducible refine gate_dst (N := 4) rfl ?_); refine box_s #[.slice A0_0 l0_0.length c0_0, .slice A0_1 l0_1.length c0_1] 43 ?_; intro gb155 hg wx4f281 hbox hb; have BK155 := Aside0.mk (hbox); have GW155 := ge HB hg; have GE155 := ge HB hg; replace HB := st HB hb; clear hb hbox hg) | ((with_reducible refine gate_dst (N := 5) rfl ?_); refine box_s #[.string a1] 9 ?_; intro gb156 hg wx03bd1 hbox hb; have BK156 := Aside0.mk (hbox); have GW156 := ge HB hg; have GE156 := ge HB hg; replace HB := st HB hb; have NB155_156 := nl BK155 hg; have NB156_155 := nr BK155 hg; replace BK155 := kp BK155 hb; clear hb hbox hg; have hnbx03bd1 := NB155_156.out; have hncx03bd1 := NB156_155.out; obtain ⟨hczx03bd1, hczx03bd2, hfzx03bd1, hfzx03bd2⟩ := bq2 BK155) | ((with_reducible refine gate_callee (f := 33) rfl ?_); refine goesL_ (some 17) rfl rfl Tryz.func33 (by kernel_rfl) rfl #[.agg #[.slice A0_0 l0_0.length c0_0, .slice A0_1 l0_1.length c0_1]] rfl any_s ?_; (with_reducible refine (chart_Check.calls k _ _ l0_0 _ _ l0_1 t157 _ ?side1 ?side2 ?side3 ?side4 A5.out).mono ?_); (case side1 => exact cb_s (Kd.C_below HR0_0.out HB.out)); (case side2 => exact HC0_0.out); (case side3 => exact cb_s (Kd.C_below HR0_1.out HB.out)); (case side4 => exact HC0_1.out); rintro e wxafd91 ⟨rfl, hb⟩; refine ⟨_, rfl, ?_⟩; replace BK155 := kp BK155 hb; replace BK156 := kp BK156 hb; replace HB := st HB hb; obtain ⟨hczxafd91, hczxafd92, hfzxafd91, hfzxafd92⟩ := bq2 BK155) | ((with_reducible refine gate_callee (f := 33) rfl ?_); refine goesL_ (some 17) rfl rfl Tryz.func33 (by kernel_rfl) rfl #[.agg #[.slice A0_0 l0_0.length c0_0, .slice A0_1 l0_1.length c0_1]] rfl any_s ?_; (with_reducible refine (chart_Check.calls k _ _ l0_0 _ _ l0_1 t157 _ ?side1 ?side2 ?side3 ?side4 A5.out).mono ?_); (case side1 => exact cb_s (Kd.C_below HR0_0.out HB.out)); (case side2 => exact HC0_0.out); (case side3 => exact cb_s (Kd.C_below HR0_1.out HB.out)); (case side4 => exact HC0_1.out); rintro e wx12ab1 ⟨rfl, hb⟩; refine ⟨_, rfl, ?_⟩; replace BK155 := kp BK155 hb; replace BK156 := kp BK156 hb; replace HB := st HB hb) | ((with_reducible refine gate_callee (f := 109) rfl ?_); refine goesL_ (some 24) rfl rfl Tryz.func109 (by kernel_rfl) rfl #[.slice A0_1 l0_1.length c0_1, .func (.func 110) #[] #[.pointer (some ⟨gb156, 0, none⟩)]] rfl any_s ?_; (with_reducible refine (api_Airway_109.calls _ _ l0_1 (chart_Between_1.p a1) t158 _ ?side1 ?side2 ?side3 A7.out).mono ?_); (case side1 => exact cb_s (Kd.C_below HR0_1.out HB.out)); (case side2 => exact HC0_1.out); (case side3 => exact chart_Between_1.pred blk_s); rintro e wx088b1 ⟨rfl, hb⟩; refine ⟨_, rfl, ?_⟩; replace BK155 := kp BK155 hb; replace BK156 := kp BK156 hb; replace HB := st HB hb))
     go_ret2
     exact ⟨_, er_, by first | exact Kd.R_nil _ _ _ _ _ | exact Kd.N_nil _ _ _ _ _ | exact Kd.V_nil _ _ _ _ _ | exact Kd.Q_nil _ _ _ _ _ | exact Kd.S_nil _ _ _ _ _, bel_s⟩
   | clear hm1_1
     go_upto_region 9 with (first | ((with_reducible refine gate_dst (N := 4) rfl ?_); refine box_s #[.slice A0_0 l0_0.length c0_0, .slice A0_1 l0_1.length c0_1] 43 ?_; intro gb155 hg wx4f281 hbox hb; have BK155 := Aside0.mk (hbox); have GW155 := ge HB hg; have GE155 := ge HB hg; replace HB := st HB hb; clear hb hbox hg) | ((with_reducible refine gate_dst (N := 5) rfl ?_); refine box_s #[.string a1] 9 ?_; intro gb156 hg wx03bd1 hbox hb; have BK156 := Aside0.mk (hbox); have GW156 := ge HB hg; have GE156 := ge HB hg; replace HB := st HB hb; have NB155_156 := nl BK155 hg; have NB156_155 := nr BK155 hg; replace BK155 := kp BK155 hb; clear hb hbox hg; have hnbx03bd1 := NB155_156.out; have hncx03bd1 := NB156_155.out; obtain ⟨hczx03bd1, hczx03bd2, hfzx03bd1, hfzx03bd2⟩ := bq2 BK155) | ((with_reducible refine gate_callee (f := 33) rfl ?_); refine goesL_ (some 17) rfl rfl Tryz.func33 (by kernel_rfl) rfl #[.agg #[.slice A0_0 l0_0.length c0_0, .slice A0_1 l0_1.length c0_1]] rfl any_s ?_; (with_reducible refine (chart_Check.calls k _ _ l0_0 _ _ l0_1 t157 _ ?side1 ?side2 ?side3 ?side4 A5.out).mono ?_); (case side1 => exact cb_s (Kd.C_below HR0_0.out HB.out)); (case side2 => exact HC0_0.out); (case side3 => exact cb_s (Kd.C_below HR0_1.out HB.out)); (case side4 => exact HC0_1.out); rintro e wxafd91 ⟨rfl, hb⟩; refine ⟨_, rfl, ?_⟩; replace BK155 := kp BK155 hb; replace BK156 := kp BK156 hb; replace HB := st HB hb; obtain ⟨hczxafd91, hczxafd92, hfzxafd91, hfzxafd92⟩ := bq2 BK155) | ((with_reducible refine gate_callee (f := 109) rfl ?_); refine goesL_ (some 24) rfl rfl Tryz.func109 (by kernel_rfl) rfl #[.slice A0_1 l0_1.length c0_1, .func (.func 110) #[] #[.pointer (some ⟨gb156, 0, none⟩)]] rfl any_s ?_; (with_reducible refine (api_Airway_109.calls _ _ l0_1 (chart_Between_1.p a1) t158 _ ?side1 ?side2 ?side3 A7.out).mono ?_); (case side1 => exact cb_s (Kd.C_below HR0_1.out HB.out)); (case side2 => exact HC0_1.out); (case side3 => exact chart_Between_1.pred blk_s); rintro e wx3aa21 ⟨rfl, hb⟩; refine ⟨_, rfl, ?_⟩; replace BK155 := kp BK155 hb; replace BK156 := kp BK156 hb; replace HB := st HB hb; obtain ⟨hczx3aa21, hczx3aa22, hfzx3aa21, hfzx3aa22⟩ := bq2 BK155; have p159 : 0 ≤ (t158 : Int) := od_; have q159 : t158 < (l0_1.length : Int) := od_; obtain ⟨ad159, A159_1, c159_1, e159, hx159_0, hx159_1, hl159_1, hi159_1⟩ := at_T139 HR0_1.out t158 p159 q159; cases e159; replace hx159_0 := cl HB hx159_0; replace hx159_1 := cl HB hx159_1; have HR159_1 := Aside0.mk hi159_1; have HC159_1 := Aside0.mk hl159_1; clear hi159_1 hl159_1; replace p159 := eq_true p159; replace q159 := eq_true q159) | ((with_reducible refine gate_callee (f := 111) rfl ?_); refine goesL_ (some 35) rfl rfl Tryz.func111 (by kernel_rfl) rfl #[.slice A159_1 ((rd_T139 l0_1 t158).f1).length c159_1, .string a2] rfl any_s ?_; (with_reducible refine (slices_Index_string_string.calls k _ _ ((rd_T139 l0_1 t158).f1) a2 t160 _ ?side1 ?side2 A18.out).mono ?_); (case side1 => exact cb_s (Kd.C_below HR159_1.out HB.out)); (case side2 => exact HC159_1.out); rintro e wx364b1 ⟨rfl, hb⟩; refine ⟨_, rfl, ?_⟩; replace BK155 := kp BK155 hb; replace BK156 := kp BK156 hb; replace HB := st HB hb) | ((with_reducible refine gate_callee (f := 111) rfl ?_); refine goesL_ (some 38) rfl rfl Tryz.func111 (by kernel_rfl) rfl #[.slice A159_1 ((rd_T139 l0_1 t158).f1).length c159_1, .string a3] rfl any_s ?_; (with_reducible refine (slices_Index_string_string.calls k _ _ ((rd_T139 l0_1 t158).f1) a3 t161 _ ?side1 ?side2 A19.out).mono ?_); (case side1 => exact cb_s (Kd.C_below HR159_1.out HB.out)); (case side2 => exact HC159_1.out); rintro e wxceb01 ⟨rfl, hb⟩; refine ⟨_, rfl, ?_⟩; replace BK155 := kp BK155 hb; replace BK156 := kp BK156 hb; replace HB := st HB hb))
     (try simp only [Act.put, List.setIfInBounds_toArray, List.set_cons_zero, List.set_cons_succ])
     go_cut [39] (fun v39 wc => ∃ (kq : Nat) (x39_19 : Bool), v39 = .bool x39_19 ∧ Aside0 (chart_Between.j0 kq ((rd_T139 l0_1 t158).f1) t160 t161 x39_19 = some (r1, r2)) ∧ Aside0 (kq ≤ k) ∧ Aside0 (wc.heap[gb155]? = some (.cells #[(.slice A0_0 l0_0.length c0_0), (.slice (some ad159) l0_1.length c0_1)] 43 (0, 0))) ∧ Aside0 (wc.heap[gb156]? = some (.cells #[.string a1] 9 (0, 0))) ∧ Aside0 (Below w.heap.size w wc))
     case first =>
      have H := HC20.out; clear HC20; refine Or.elim (Classical.em (t160 < 0)) (fun c31 => ?p7_) (fun c31 => ?n7_)
      case' p7_ =>
       rw [if_pos c31] at H; have c31b0 := decide_eq_true c31; clear c31
       (first | rw [c31b0] | (simp only [i64_w, i32_w]; rw [c31b0]) | skip)
      case' n7_ =>
       rw [if_neg c31] at H; have c31b0 := decide_eq_false c31; clear c31
       (first | rw [c31b0] | (simp only [i64_w, i32_w]; rw [c31b0]) | skip)
      all_goals
       have H' := Aside0.mk H; clear H; go_wp2; go_meet
       case rel => first | (exact ⟨_, (true), rs_, H', ⟨by first | omega | exact Nat.le_refl _⟩, ⟨blk_s⟩, ⟨blk_s⟩, ⟨bel_s⟩⟩) | (exact ⟨_, (decide (t161 < 0)), rs_, H', ⟨by first | omega | exact Nat.le_refl _⟩, ⟨blk_s⟩, ⟨blk_s⟩, ⟨bel_s⟩⟩)
     case rest =>
      clear HC20
      obtain ⟨kq, x39_19, rfl, HA, HJ19, BK155, BK156, HB⟩ := hcut
      cases kq with
      | zero => exact absurd HA.out (by simp [chart_Between.j0])
      | succ kj19 =>
       have H := HA.out; clear HA; simp only [chart_Between.j0] at H; refine Or.elim (Classical.em (x39_19 = true)) (fun c32 => ?p9_) (fun c32 => ?n9_)
       case' p9_ =>
        subst c32
        rw [if_pos rfl] at H; (try dsimp only at H); simp only [Option.some.injEq, Prod.mk.injEq] at H; obtain ⟨rfl, rfl⟩ := H; have hm8_0 := Aside0.mk trivial
       case' n9_ =>
        replace c32 := Bool.eq_false_iff.mpr c32; subst c32
        rw [if_neg (show ¬ (false = true) by decide)] at H; (try dsimp only at H); refine Or.elim (Classical.em (t160 ≤ t161)) (fun c33 => ?p10_) (fun c33 => ?n10_)
        case' p10_ =>
         rw [if_pos c33] at H; have c33b0 := decide_eq_true c33; clear c33; refine Or.elim (Classical.em (0 ≤ t160)) (fun c34 => ?p11_) (fun c34 => ?n11_)
         case' p11_ =>
          rw [if_pos c34] at H; have c34b0 := eq_true c34; have c34b1 := decide_eq_true c34; clear c34; refine Or.elim (Classical.em (t160 ≤ (wrap64 (t161 + 1)))) (fun c35 => ?p12_) (fun c35 => ?n12_)
          case' p12_ =>
           rw [if_pos c35] at H; have c35b0 := eq_true c35; have c35b1 := decide_eq_true c35; refine Or.elim (Classical.em ((wrap64 (t161 + 1)) ≤ (((rd_T139 l0_1 t158).f1).length : Int))) (fun c36 => ?p13_) (fun c36 => ?n13_)
           case' p13_ =>
            rw [if_pos c36] at H; have c36b0 := eq_true c36; have c36b1 := decide_eq_true c36; replace H := Option.bind_eq_some_iff.mp H; obtain ⟨t163, A370, H⟩ := H; (try dsimp only at H); have A37 := Aside0.mk A370; clear A370; simp only [Option.some.injEq, Prod.mk.injEq] at H; obtain ⟨rfl, rfl⟩ := H; obtain ⟨i038, hi038, _, hsz38, _⟩ := info_parts info9
            obtain ⟨A38, hcut38, hA38, hC38⟩ := print_mid_of (P := Tryz.prog) Value.string (⟨#[]⟩ : ByteArray) 37 9 .i64 .i64 Tryz.underlying37 hi038 hsz38 A159_1 c159_1 ((rd_T139 l0_1 t158).f1) t160 (wrap64 (t161 + 1)) (od_) (by first | omega | exact od_) (od_) HC159_1.out
            have HR162 := Aside0.mk (Kd.C_of_reads (h1 := fun _ => rfl) (hA38 _ (Kd.reads_of_C HR159_1.out))); have HC162 := Aside0.mk hC38; clear hA38 hC38 hi038 hsz38; have hm8_1 := Aside0.mk trivial
           case' n13_ =>
            rw [if_neg c36] at H; exact absurd H (by simp)
          case' n12_ =>
           rw [if_neg c35] at H; exact absurd H (by simp)
         case' n11_ =>
          rw [if_neg c34] at H; exact absurd H (by simp)
        case' n10_ =>
         rw [if_neg c33] at H; have c33b0 := decide_eq_false c33; clear c33; refine Or.elim (Classical.em (0 ≤ t161)) (fun c40 => ?p14_) (fun c40 => ?n14_)
         case' p14_ =>
          rw [if_pos c40] at H; have c40b0 := eq_true c40; have c40b1 := decide_eq_true c40; clear c40; refine Or.elim (Classical.em (t161 ≤ (wrap64 (t160 + 1)))) (fun c41 => ?p15_) (fun c41 => ?n15_)
          case' p15_ =>
           rw [if_pos c41] at H; have c41b0 := eq_true c41; have c41b1 := decide_eq_true c41; refine Or.elim (Classical.em ((wrap64 (t160 + 1)) ≤ (((rd_T139 l0_1 t158).f1).length : Int))) (fun c42 => ?p16_) (fun c42 => ?n16_)
           case' p16_ =>
            rw [if_pos c42] at H; have c42b0 := eq_true c42; have c42b1 := decide_eq_true c42; replace H := Option.bind_eq_some_iff.mp H; obtain ⟨t167, A430, H⟩ := H; (try dsimp only at H); have A43 := Aside0.mk A430; clear A430; replace H := Option.bind_eq_some_iff.mp H; obtain ⟨t170, A440, H⟩ := H; (try dsimp only at H); have A44 := Aside0.mk A440; clear A440; simp only [Option.some.injEq, Prod.mk.injEq] at H; obtain ⟨rfl, rfl⟩ := H; obtain ⟨i045, hi045, _, hsz45, _⟩ := info_parts info9
            obtain ⟨A45, hcut45, hA45, hC45⟩ := print_mid_of (P := Tryz.prog) Value.string (⟨#[]⟩ : ByteArray) 37 9 .i64 .i64 Tryz.underlying37 hi045 hsz45 A159_1 c159_1 ((rd_T139 l0_1 t158).f1) t161 (wrap64 (t160 + 1)) (od_) (by first | omega | exact od_) (od_) HC159_1.out
            have HR166 := Aside0.mk (Kd.C_of_reads (h1 := fun _ => rfl) (hA45 _ (Kd.reads_of_C HR159_1.out))); have HC166 := Aside0.mk hC45; clear hA45 hC45 hi045 hsz45; have hm8_2 := Aside0.mk trivial
           case' n16_ =>
            rw [if_neg c42] at H; exact absurd H (by simp)
          case' n15_ =>
           rw [if_neg c41] at H; exact absurd H (by simp)
         case' n14_ =>
          rw [if_neg c40] at H; exact absurd H (by simp)
       all_goals
        first
         | clear hm8_0; go_wp2; go_ret2
           exact ⟨_, er_, by first | exact Kd.R_nil _ _ _ _ _ | exact Kd.N_nil _ _ _ _ _ | exact Kd.V_nil _ _ _ _ _ | exact Kd.Q_nil _ _ _ _ _ | exact Kd.S_nil _ _ _ _ _, bel_s⟩
         | (first | (have _hm := hm8_1) | (have _hm := hm8_2))
           go_wp2_with (first | ((with_reducible refine gate_callee (f := 112) rfl ?_); refine goesL_ (some 55) rfl rfl Tryz.func112 (by kernel_rfl) rfl #[.slice A38 ((((rd_T139 l0_1 t158).f1).take ((wrap64 (t161 + 1)) : Int).toNat).drop (t160 : Int).toNat).length (c159_1 - t160.toNat)] rfl (by (try simp only [List.map_toArray, List.map_cons, List.map_nil]); first | done | (rw [show ((((rd_T139 l0_1 t158).f1).take ((wrap64 (t161 + 1)) : Int).toNat).drop (t160 : Int).toNat).length = ((wrap64 (t161 + 1)).toNat - t160.toNat) from (by rw [List.length_drop, List.length_take]; have h_ : ((wrap64 (t161 + 1)) : Int) ≤ (((rd_T139 l0_1 t158).f1).length : Int) := od_; omega)] <;> rfl) | rfl | (simp only [List.length_drop, List.length_take]; rfl)) ?_; (with_reducible refine (slices_Clone_string_string.calls _ _ ((((rd_T139 l0_1 t158).f1).take ((wrap64 (t161 + 1)) : Int).toNat).drop (t160 : Int).toNat) t163 _ ?side1 ?side2 A37.out).mono ?_); (case side1 => exact cb_s (Kd.C_below HR162.out HB.out)); (case side2 => exact HC162.out); rintro e wx84dc1 ⟨v164, rfl, hox84dc1, hb⟩; refine ⟨_, rfl, ?_⟩; have HO165 := Aside0.mk (Kd.R_lower (Kd.R_newB hox84dc1 (g := gb156) (o := .cells #[.string a1] 9 (0, 0)) blk_s) bz_s); replace BK155 := kp BK155 hb; replace BK156 := kp BK156 hb; replace HB := st HB hb) | ((with_reducible refine gate_callee (f := 112) rfl ?_); refine goesL_ (some 61) rfl rfl Tryz.func112 (by kernel_rfl) rfl #[.slice A45 ((((rd_T139 l0_1 t158).f1).take ((wrap64 (t160 + 1)) : Int).toNat).drop (t161 : Int).toNat).length (c159_1 - t161.toNat)] rfl (by (try simp only [List.map_toArray, List.map_cons, List.map_nil]); first | done | (rw [show ((((rd_T139 l0_1 t158).f1).take ((wrap64 (t160 + 1)) : Int).toNat).drop (t161 : Int).toNat).length = ((wrap64 (t160 + 1)).toNat - t161.toNat) from (by rw [List.length_drop, List.length_take]; have h_ : ((wrap64 (t160 + 1)) : Int) ≤ (((rd_T139 l0_1 t158).f1).length : Int) := od_; omega)] <;> rfl) | rfl | (simp only [List.length_drop, List.length_take]; rfl)) ?_; (with_reducible refine (slices_Clone_string_string.calls _ _ ((((rd_T139 l0_1 t158).f1).take ((wrap64 (t160 + 1)) : Int).toNat).drop (t161 : Int).toNat) t167 _ ?side1 ?side2 A43.out).mono ?_); (case side1 => exact cb_s (Kd.C_below HR166.out HB.out)); (case side2 => exact HC166.out); rintro e wxd5d01 ⟨v168, rfl, hoxd5d01, hb⟩; refine ⟨_, rfl, ?_⟩; have HO169 := Aside0.mk (Kd.R_lower (Kd.R_newB hoxd5d01 (g := gb156) (o := .cells #[.string a1] 9 (0, 0)) blk_s) bz_s); replace BK155 := kp BK155 hb; replace BK156 := kp BK156 hb; replace HB := st HB hb; obtain ⟨Aoxd5d01, coxd5d01, eoxd5d01⟩ := Kd.R_slice HO169.out; subst eoxd5d01) | ((with_reducible refine gate_callee (f := 113) rfl ?_); refine goesL_ (some 63) rfl rfl Tryz.func113 (by kernel_rfl) rfl #[.slice Aoxd5d01 t167.length coxd5d01] rfl any_s ?_; (with_reducible refine (slices_Reverse_string_string.calls kj19 (fun k_ => some k_ = (.slice Aoxd5d01 t167.length coxd5d01 : Value).ownBlock) (.slice Aoxd5d01 t167.length coxd5d01) t167 t170 w _ ?side1 ?side2 A44.out).mono ?_); (case side1 => repeat (first | (with_reducible first | exact HB.out | apply below_alloc | apply pw_below_drewN | apply below_drew1 | refine below_set ?_ GE155.out | refine below_set ?_ GE156.out) | exact HB.out)); (case side2 => exact Kd.R_tight rfl HO169.out); rintro e wx129f1 ⟨rfl, hy0, hb, hkp⟩; refine ⟨_, rfl, ?_⟩; have n0_ := Aside0.mk (blk_kept blk_s hkp (fun hs_ => (fun e_ => (Kd.R_ne HO169.out BK155.out (by decide)) e_) hs_)); have n1_ := Aside0.mk (blk_kept blk_s hkp (fun hs_ => (fun e_ => (Kd.R_away HO169.out (fun _ hk => hk.2)) e_) hs_)); have n2_ := Aside0.mk (Kd.R_reok rfl hy0 (fun k_ e_ => HO169.out.1 k_ e_)); have n3_ := Aside0.mk (hb); clear BK155; clear BK156; clear HO169; clear HB; have BK155 := n0_; have BK156 := n1_; have HO169 := n2_; have HB := n3_; clear n0_ n1_ n2_ n3_))
           go_ret2
           first
            | clear hm8_1
              exact ⟨_, er_, by (with_reducible repeat (first | apply Kd.R_alloc | apply Kd.R_drewN | apply Kd.R_drew)); exact Kd.R_mono HO165.out (fun _ hk => trivial), bel_s⟩
            | clear hm8_2
              exact ⟨_, er_, by (with_reducible repeat (first | apply Kd.R_alloc | apply Kd.R_drewN | apply Kd.R_drew)); exact Kd.R_mono HO169.out (fun _ hk => trivial), bel_s⟩
end Go.Proofs.YthpbpdobghceeaaGreatDoor.PFlyWinds
