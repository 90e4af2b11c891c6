/- Made by wip/tools/myprint.py (over the kit's printer). -/
import Derived.Test.YthpbpdobghceeaaGreatDoorTSq3
import Derived.Test.YthpbpdobghceeaaGreatDoorPFlyWindsx0
namespace Go.Proofs.YthpbpdobghceeaaGreatDoor.PFlyWinds
open Go.RowKit Go.Proofs.YthpbpdobghceeaaGreatDoorW.PrintWords Go.Proofs.YthpbpdobghceeaaGreatDoorW.PrintLast Go.Proofs.YthpbpdobghceeaaGreatDoorW.PrintMore
attribute [local go_sem] max2_int min2_int max_two min_two max_three min_three max_four min_four
set_option linter.unusedVariables false
set_option maxRecDepth 100000
set_option maxHeartbeats 8000000
set_option linter.unusedSimpArgs false
mutual
def chart_Name.j0 : Nat → ByteArray → Bool → Option (Bool)
  | 0, _, _ => none
  | k + 1, x0, x22 => if x22 = true then (some false) else (chart_Name.l0 k x0 (x0.size : Int) 0)
def chart_Name.l0 : Nat → ByteArray → Int → Int → Option (Bool)
  | 0, _, _, _ => none
  | k + 1, x0, x24, x25 => if x25 < x24 then (if 0 ≤ x25 then (if x25 < (x0.size : Int) then (if (bt x0 x25) < 65 then (if (bt x0 x25) < 48 then (some false) else (if (bt x0 x25) > 57 then (some false) else (chart_Name.l0 k x0 x24 (wrap64 (x25 + 1))))) else (if (bt x0 x25) > 90 then (if (bt x0 x25) < 48 then (some false) else (if (bt x0 x25) > 57 then (some false) else (chart_Name.l0 k x0 x24 (wrap64 (x25 + 1))))) else (chart_Name.l0 k x0 x24 (wrap64 (x25 + 1))))) else (none)) else (none)) else (some true)
end
def chart_Name.f (k : Nat) (a0 : ByteArray) : Option (Bool) := if (a0.size : Int) = 0 then (chart_Name.j0 k a0 true) else (if (a0.size : Int) > 8 then (chart_Name.j0 k a0 true) else (if 0 < (a0.size : Int) then (if (bt a0 0) < 65 then (chart_Name.j0 k a0 true) else (chart_Name.j0 k a0 (decide ((bt a0 0) > 90)))) else (none)))
theorem chart_Name.mono_l : ∀ k, (∀ y0 y1, LeO (chart_Name.j0 k y0 y1) (chart_Name.j0 (k + 1) y0 y1)) ∧ (∀ y0 y1 y2, LeO (chart_Name.l0 k y0 y1 y2) (chart_Name.l0 (k + 1) y0 y1 y2))
  | 0 => ⟨fun _ _ r h => by simp [chart_Name.j0] at h, fun _ _ _ r h => by simp [chart_Name.l0] at h⟩
  | k + 1 => by
    obtain ⟨ih0, ih1⟩ := chart_Name.mono_l k; refine ⟨?_, ?_⟩
    · intro y0 y1; unfold chart_Name.j0
      repeat' with_reducible first | apply ih0 | apply ih1 | apply LeO.refl | apply LeO.none | apply LeO.ite | refine LeO.bind ?_ (fun _ => ?_)
    · intro y0 y1 y2; unfold chart_Name.l0
      repeat' with_reducible first | apply ih0 | apply ih1 | apply LeO.refl | apply LeO.none | apply LeO.ite | refine LeO.bind ?_ (fun _ => ?_)
theorem chart_Name.mono : ∀ a0 k, LeO (chart_Name.f k a0) (chart_Name.f (k + 1) a0) := by
  intro a0 k; obtain ⟨ih0, ih1⟩ := chart_Name.mono_l k; unfold chart_Name.f
  repeat' with_reducible first | apply ih0 | apply ih1 | apply LeO.refl | apply LeO.none | apply LeO.ite | refine LeO.bind ?_ (fun _ => ?_)
theorem chart_Name.calls (k : Nat) (a0 : ByteArray) (r : Bool) (w : World) (h : chart_Name.f k a0 = some r) :
    Calls Tryz.prog 74 #[.string a0] w fun e w' => e = .returned (.bool r) ∧ Below w.heap.size w w' := by
 have HB := Aside0.mk (Below.refl w.heap.size w); have H := h; unfold chart_Name.f at H; clear h; have HC2 := Aside0.mk H; clear H; go_enter Tryz.func74, Tryz.ntmps74
 go_upto_region 1 with (fail)
 go_cut [22] (fun v22 wc => ∃ (kq : Nat) (x22_1 : Bool), v22 = .bool x22_1 ∧ Aside0 (chart_Name.j0 kq a0 x22_1 = some r) ∧ Aside0 (kq ≤ k) ∧ Aside0 (Below w.heap.size w wc))
 case first =>
  have H := HC2.out; clear HC2; refine Or.elim (Classical.em ((a0.size : Int) = 0)) (fun c3 => ?p2_) (fun c3 => ?n2_)
  case' p2_ =>
   rw [if_pos c3] at H; have c3b0 := beq_iff_eq.mpr c3; have c3b1 := bne_eq_false_iff_eq.mpr c3; clear c3
   (first | rw [c3b0] | (simp only [i64_w, i32_w]; rw [c3b0]) | skip)
   have hm1_0 := Aside0.mk trivial
  case' n2_ =>
   rw [if_neg c3] at H; have c3b0 := beq_eq_false_iff_ne.mpr c3; have c3b1 := bne_iff_ne.mpr c3
   (first | rw [c3b0] | (simp only [i64_w, i32_w]; rw [c3b0]) | skip)
   refine Or.elim (Classical.em ((a0.size : Int) > 8)) (fun c4 => ?p3_) (fun c4 => ?n3_)
   case' p3_ =>
    rw [if_pos c4] at H; have c4b0 := decide_eq_true c4; have c4b1 : decide (8 < a0.size) = true := decide_eq_true (by omega); clear c4; have hm1_0 := Aside0.mk trivial
   case' n3_ =>
    rw [if_neg c4] at H; have c4b0 := decide_eq_false c4; have c4b1 : decide (8 < a0.size) = false := decide_eq_false (by omega); clear c4; refine Or.elim (Classical.em (0 < (a0.size : Int))) (fun c5 => ?p4_) (fun c5 => ?n4_)
    case' p4_ =>
     rw [if_pos c5] at H; have c5b0 := decide_eq_true c5; have c5b1 : decide (0 < a0.size) = true := decide_eq_true (by omega); clear c5; refine Or.elim (Classical.em ((bt a0 0) < 65)) (fun c7 => ?p5_) (fun c7 => ?n5_)
     case' p5_ =>
      rw [if_pos c7] at H; have c7b0 := decide_eq_true c7; clear c7; have hm1_1 := Aside0.mk trivial
     case' n5_ =>
      rw [if_neg c7] at H; have c7b0 := decide_eq_false c7; clear c7; have hm1_2 := Aside0.mk trivial
    case' n4_ =>
     rw [if_neg c5] at H; exact absurd H (by simp)
  all_goals
   have H' := Aside0.mk H; clear H
   first
    | clear hm1_0; go_wp2; go_meet
      case rel => exact ⟨_, (true), rs_, H', ⟨by first | omega | exact Nat.le_refl _⟩, ⟨bel_s⟩⟩
    | (first | (have _hm := hm1_1) | (have _hm := hm1_2))
      have p6 : 0 ≤ (0 : Int) := (by omega)
      have q6 : 0 < a0.size := (by have : (0 : Int) < (a0.size : Int) := od_; omega)
      have hx6 : ∀ h : 0 < a0.size, ((a0[0]'h).toNat : Int) = bt a0 0 := bt_at a0 0; clear p6
      have qi6 : (0 < (a0.size : Int)) = True := eq_true (od_)
      replace q6 := eq_true q6
      first
       | clear hm1_1; go_wp2; go_meet
         case rel => exact ⟨_, (true), rs_, H', ⟨by first | omega | exact Nat.le_refl _⟩, ⟨bel_s⟩⟩
       | clear hm1_2; have p8 : 0 ≤ (0 : Int) := (by omega)
         have q8 : 0 < a0.size := (by have : (0 : Int) < (a0.size : Int) := od_; omega)
         have hx8 : ∀ h : 0 < a0.size, ((a0[0]'h).toNat : Int) = bt a0 0 := bt_at a0 0; clear p8
         have qi8 : (0 < (a0.size : Int)) = True := eq_true (od_)
         replace q8 := eq_true q8; go_wp2; go_meet
         case rel => exact ⟨_, (decide ((bt a0 0) > 90)), rs_, H', ⟨by first | omega | exact Nat.le_refl _⟩, ⟨bel_s⟩⟩
 case rest =>
  clear HC2
  obtain ⟨kq, x22_1, rfl, HA, HJ1, HB⟩ := hcut
  cases kq with
  | zero => exact absurd HA.out (by simp [chart_Name.j0])
  | succ kj1 =>
   have H := HA.out; clear HA; simp only [chart_Name.j0] at H
   by_cases c9 : x22_1 = true
   · subst c9
     rw [if_pos rfl] at H; (try dsimp only at H); obtain rfl := Option.some.inj H; go_wp2; go_ret
     exact ⟨er_, bel_s⟩
   · replace c9 := Bool.eq_false_iff.mpr c9; subst c9
     rw [if_neg (show ¬ (false = true) by decide)] at H; (try dsimp only at H); have H' := Aside0.mk H; clear H; go_wp2; go_loopg [25] kj1 (fun kq v25 w' => ∃ (x25_2 : Int), v25 = .int .i64 x25_2 ∧ Aside0 (chart_Name.l0 kq a0 (a0.size : Int) x25_2 = some r) ∧ Aside0 (kq ≤ kj1) ∧ Aside0 (Below w.heap.size w w'))
     case atStart => exact ⟨(0), rs_, H', ⟨Nat.le_refl _⟩, ⟨bel_s⟩⟩
     case round =>
      clear H'
      obtain ⟨x25_2, rfl, HA, HK2, HB⟩ := hrel
      cases gk with
      | zero => exact absurd HA.out (by simp [chart_Name.l0])
      | succ k2 =>
       have H := HA.out; clear HA; simp only [chart_Name.l0] at H; refine Or.elim (Classical.em (x25_2 < (a0.size : Int))) (fun c10 => ?p7_) (fun c10 => ?n7_)
       case' p7_ =>
        rw [if_pos c10] at H; have c10b0 := decide_eq_true c10; clear c10; obtain ⟨c11b0, H⟩ := ip_ H; obtain ⟨c12b0, H⟩ := ip_ H; refine Or.elim (Classical.em ((bt a0 x25_2) < 65)) (fun c14 => ?p10_) (fun c14 => ?n10_)
        case' p10_ =>
         rw [if_pos c14] at H; have c14b0 := decide_eq_true c14; clear c14; refine Or.elim (Classical.em ((bt a0 x25_2) < 48)) (fun c15 => ?p11_) (fun c15 => ?n11_)
         case' p11_ =>
          rw [if_pos c15] at H; have c15b0 := decide_eq_true c15; clear c15; have hm6_0 := Aside0.mk trivial
         case' n11_ =>
          rw [if_neg c15] at H; have c15b0 := decide_eq_false c15; clear c15; refine Or.elim (Classical.em ((bt a0 x25_2) > 57)) (fun c16 => ?p12_) (fun c16 => ?n12_)
          case' p12_ =>
           rw [if_pos c16] at H; have c16b0 := decide_eq_true c16; clear c16; have hm6_0 := Aside0.mk trivial
          case' n12_ =>
           rw [if_neg c16] at H; have c16b0 := decide_eq_false c16; clear c16; have hm6_1 := Aside0.mk trivial
        case' n10_ =>
         rw [if_neg c14] at H; have c14b0 := decide_eq_false c14; clear c14; refine Or.elim (Classical.em ((bt a0 x25_2) > 90)) (fun c17 => ?p13_) (fun c17 => ?n13_)
         case' p13_ =>
          rw [if_pos c17] at H; have c17b0 := decide_eq_true c17; clear c17; refine Or.elim (Classical.em ((bt a0 x25_2) < 48)) (fun c18 => ?p14_) (fun c18 => ?n14_)
          case' p14_ =>
           rw [if_pos c18] at H; have c18b0 := decide_eq_true c18; clear c18; have hm6_0 := Aside0.mk trivial
          case' n14_ =>
           rw [if_neg c18] at H; have c18b0 := decide_eq_false c18; clear c18; refine Or.elim (Classical.em ((bt a0 x25_2) > 57)) (fun c19 => ?p15_) (fun c19 => ?n15_)
           case' p15_ =>
            rw [if_pos c19] at H; have c19b0 := decide_eq_true c19; clear c19; have hm6_0 := Aside0.mk trivial
           case' n15_ =>
            rw [if_neg c19] at H; have c19b0 := decide_eq_false c19; clear c19; have hm6_1 := Aside0.mk trivial
         case' n13_ =>
          rw [if_neg c17] at H; have c17b0 := decide_eq_false c17; clear c17; have hm6_1 := Aside0.mk trivial
       case' n7_ =>
        rw [if_neg c10] at H; have c10b0 := decide_eq_false c10; clear c10; have hm6_2 := Aside0.mk trivial
       all_goals
        first
         | (first | (have _hm := hm6_0) | (have _hm := hm6_2))
           obtain rfl := Option.some.inj H
           first
            | clear hm6_0
              have p13 : 0 ≤ (x25_2 : Int) := od_
              have q13 : x25_2 < (a0.size : Int) := od_
              have hx13 := bt_at a0 x25_2; replace p13 := eq_true p13; replace q13 := eq_true q13; go_wp2; go_ret
              exact ⟨er_, bel_s⟩
            | clear hm6_2; go_wp2; go_ret
              exact ⟨er_, bel_s⟩
         | clear hm6_1; have H' := Aside0.mk H; clear H
           have p13 : 0 ≤ (x25_2 : Int) := od_
           have q13 : x25_2 < (a0.size : Int) := od_
           have hx13 := bt_at a0 x25_2; replace p13 := eq_true p13; replace q13 := eq_true q13; go_wp2; go_roundg k2
           case measure => have := HJ1.out; have := HK2.out; omega
           case rel => exact ⟨(wrap64 (x25_2 + 1)), rs_, H', ⟨by have := HJ1.out; have := HK2.out; omega⟩, ⟨bel_s⟩⟩
def slices_IndexFunc_string_string.f (l0 : List (ByteArray)) (p : (ByteArray) → Bool) : Option Int := some (IdxF.idx p l0)
theorem slices_IndexFunc_string_string.calls (A0 : Option Addr) (c0 : Nat) (l0 : List (ByteArray)) (p : (ByteArray) → Bool) {F : Value} (r : Int) (w : World) (hr0 : Kd.C Kd.string w A0 l0.length l0) (hc0 : l0.length ≤ c0) (hp : IdxF.Pred Tryz.prog Kd.string false F p w) (h : slices_IndexFunc_string_string.f l0 p = some r) :
    Calls Tryz.prog 103 #[.slice A0 l0.length c0, F] w fun e w' => e = .returned (.int .i64 r) ∧ Below w.heap.size w w' := by
  obtain ⟨g, lb, rfl, eg, hp⟩ := hp; obtain rfl := Option.some.inj h; clear h; have hbig := hr0.2.1; go_enter Tryz.func103, Tryz.ntmps103; go_wp2; go_loopg [5, 8] l0.length (fun gg _ s8 wr => ∃ kk : Nat, kk ≤ l0.length ∧ l0.length - kk ≤ gg ∧ s8 = .int .i64 kk ∧ Aside0 (Below w.heap.size w wr) ∧ Aside0 (∀ j (h : j < l0.length), j < kk → p l0[j] = false))
  case atStart => exact ⟨0, Nat.zero_le _, by omega, rfl, ⟨Below.refl _ w⟩, ⟨fun j _ hj => absurd hj (Nat.not_lt_zero _)⟩⟩
  case round =>
    obtain ⟨kk, hkk, hg, rfl, BW, AJ⟩ := hrel
    by_cases hlt : kk < l0.length
    · have hltz : (kk : Int) < (l0.length : Int) := by omega
      obtain ⟨ad, cs, rfl, hlen, hK, hcell⟩ := Kd.C_get (Kd.C_below hr0 BW.out) (⟨#[]⟩ : ByteArray) (kk : Int) (by omega) hltz
      have hx : l0.getD (kk : Int).toNat (⟨#[]⟩ : ByteArray) = l0[kk] := by rw [Int.toNat_natCast, List.getD_eq_getElem?_getD, List.getElem?_eq_getElem hlt]; rfl
      rw [hx] at hK; obtain ⟨v0_, rfl⟩ := IdxF.len1 hlen
      have hx0_ : wr.cell? (ad.add kk) = some v0_ := by first | exact hcell 0 v0_ rfl | simpa using hcell 0 v0_ rfl | (have h_ := hcell 0 v0_ rfl; rw [show Kd.string.sz = 1 from rfl, Nat.mul_one] at h_; simpa using h_)
      have hcall : Calls Tryz.prog g (#[v0_] ++ lb) wr fun e w' => e = .returned (.bool (p l0[kk])) ∧ Below wr.heap.size wr w' := by have h_ := hp wr l0[kk] [v0_] BW.out hK; exact h_
      clear hcell hx hp hK hlen
      cases hq : p l0[kk] with
      | true =>
        rw [hq] at hcall; go_wp2_with (go_at_fn g; refine hcall.mono ?_; rintro e w' ⟨rfl, hb'⟩); go_ret; refine ⟨?_, below_step BW.out hb'⟩; rw [IdxF.idx_hit p l0 hlt hq (fun j h => AJ.out j _ h)]; rfl
      | false =>
        rw [hq] at hcall; go_wp2_with (go_at_fn g; refine hcall.mono ?_; rintro e w' ⟨rfl, hb'⟩); go_roundg (l0.length - (kk + 1))
        case measure => omega
        case rel =>
          refine ⟨kk + 1, by omega, by omega, by go_num, ⟨below_step BW.out hb'⟩, ⟨fun j h hj => ?_⟩⟩
          by_cases e : j = kk
          · subst e; exact hq
          · exact AJ.out j h (by omega)
    · have hltz : ¬ (kk : Int) < (l0.length : Int) := by omega
      go_wp2; go_ret; refine ⟨?_, BW.out⟩; rw [IdxF.idx_miss p l0 (fun j h => AJ.out j h (by omega))]; rfl
def slices_ContainsFunc_string_string.f (l0 : List (ByteArray)) (p : (ByteArray) → Bool) : Option Bool := some (l0.any p)
theorem slices_ContainsFunc_string_string.calls (A0 : Option Addr) (c0 : Nat) (l0 : List (ByteArray)) (p : (ByteArray) → Bool) {F : Value} (r : Bool) (w : World) (hr0 : Kd.C Kd.string w A0 l0.length l0) (hc0 : l0.length ≤ c0) (hp : IdxF.Pred Tryz.prog Kd.string false F p w) (h : slices_ContainsFunc_string_string.f l0 p = some r) :
    Calls Tryz.prog 75 #[.slice A0 l0.length c0, F] w fun e w' => e = .returned (.bool r) ∧ Below w.heap.size w w' := by
  obtain rfl := Option.some.inj h; clear h; rw [← IdxF.idx_any]; have hi := slices_IndexFunc_string_string.calls A0 c0 l0 p (IdxF.idx p l0) w hr0 hc0 hp rfl; obtain ⟨g, lb, rfl, eg, hp⟩ := hp; have e6 : ∀ args w, (callFunc 103 args).run Tryz.prog w = .ok (.enter 103 args) w := enters_of Tryz.func103 (by kernel_rfl) rfl; go_enter Tryz.func75, Tryz.ntmps75; go_wp2_with (go_at_call 103; refine hi.mono ?_; rintro e w' ⟨rfl, hb'⟩); go_ret; exact ⟨rfl, hb'⟩
section
open Go
theorem plantext_Check_1.l0 (s : ByteArray) : ∀ (d k i : Nat), i + d = s.size → s.size ≤ 8 → d < k → ∃ b, chart_Name.l0 k s (s.size : Int) (i : Int) = some b
  | 0, k, i, h, _, hk => by
    obtain ⟨k, rfl⟩ : ∃ m, k = m + 1 := ⟨k - 1, by omega⟩; exact ⟨true, by rw [chart_Name.l0, if_neg (by omega)]⟩
  | d + 1, k, i, h, h8, hk => by
    obtain ⟨k, rfl⟩ : ∃ m, k = m + 1 := ⟨k - 1, by omega⟩; obtain ⟨b, hb⟩ := plantext_Check_1.l0 s d k (i + 1) (by omega) h8 (by omega)
    have hw : wrap64 ((i : Int) + 1) = ((i + 1 : Nat) : Int) := by unfold wrap64; omega
    rw [chart_Name.l0, if_pos (by omega), if_pos (by omega), if_pos (by omega), hw, hb]
    (repeat' split) <;> exact ⟨_, rfl⟩
theorem plantext_Check_1.name (s : ByteArray) : chart_Name.f 10 s = some ((chart_Name.f 10 s).getD false) := by
  have key : ∃ b, chart_Name.f 10 s = some b := by
    unfold chart_Name.f
    by_cases h0 : (s.size : Int) = 0
    · rw [if_pos h0, chart_Name.j0, if_pos rfl]; exact ⟨_, rfl⟩
    · rw [if_neg h0]
      by_cases h8 : (s.size : Int) > 8
      · rw [if_pos h8, chart_Name.j0, if_pos rfl]; exact ⟨_, rfl⟩
      · rw [if_neg h8, if_pos (by omega)]; obtain ⟨b, hb⟩ := plantext_Check_1.l0 s s.size 9 0 (by omega) (by omega) (by omega); have hb' : chart_Name.l0 9 s (s.size : Int) 0 = some b := hb; rw [chart_Name.j0, chart_Name.j0, hb']
        (repeat' split) <;> exact ⟨_, rfl⟩
  obtain ⟨b, hb⟩ := key; rw [hb]; rfl
def plantext_Check_1.p (s : ByteArray) : Bool := !((chart_Name.f 10 s).getD false)
theorem plantext_Check_1.pred {w : World} : IdxF.Pred Tryz.prog Kd.string false (.func (.func 76) #[] #[]) plantext_Check_1.p w := by
  refine ⟨76, _, rfl, enters_of Tryz.func76 (by kernel_rfl) rfl, fun W x cs hW hK => ?_⟩; obtain rfl : cs = [.string x] := hK; unfold plantext_Check_1.p; have h := plantext_Check_1.name x; generalize (chart_Name.f 10 x).getD false = b at *; change Calls Tryz.prog 76 #[.string x] W _; clear hW; go_enter Tryz.func76, Tryz.ntmps76; go_wp2_with (go_at_call 74; refine (chart_Name.calls 10 x b W h).mono ?_; rintro e w' ⟨rfl, hb⟩); go_ret; exact ⟨rfl, hb⟩
end
mutual
def plantext_Check.l0 : Nat → List ByteArray → Int → Int → ByteArray → ByteArray → ByteArray → ByteArray → Int → Int → Int → List ByteArray → Option (Int)
  | 0, _, _, _, _, _, _, _, _, _, _, _ => none
  | k + 1, x13, x14, x15, x102000, x102001, x102002, x102003, x102004, x102005, x102006, x102007 => if x15 < x14 then (if 0 ≤ x15 then (if x15 < (x13.length : Int) then ((chart_Name.f k (rdOf ByteArray.empty x13 x15)).bind fun t106 => (if t106 = true then (plantext_Check.l0 k x13 x14 (wrap64 (x15 + 1)) x102000 x102001 x102002 x102003 x102004 x102005 x102006 x102007) else (some 5))) else (none)) else (none)) else (if x102004 < 0 then (plantext_Check.j1 k true x102000 x102001 x102002 x102003 x102004 x102005 x102006 x102007) else (plantext_Check.j1 k (decide (x102004 > 200000)) x102000 x102001 x102002 x102003 x102004 x102005 x102006 x102007))
def plantext_Check.j1 : Nat → Bool → ByteArray → ByteArray → ByteArray → ByteArray → Int → Int → Int → List ByteArray → Option (Int)
  | 0, _, _, _, _, _, _, _, _, _ => none
  | k + 1, x23, x102000, x102001, x102002, x102003, x102004, x102005, x102006, x102007 => if x23 = true then (some 12) else (if x102005 < 1 then (plantext_Check.j2 k true x102000 x102001 x102002 x102003 x102004 x102005 x102006 x102007) else (if x102005 > 400 then (plantext_Check.j2 k true x102000 x102001 x102002 x102003 x102004 x102005 x102006 x102007) else (if x102006 < 1 then (plantext_Check.j2 k true x102000 x102001 x102002 x102003 x102004 x102005 x102006 x102007) else (plantext_Check.j2 k (decide (x102006 > 60000)) x102000 x102001 x102002 x102003 x102004 x102005 x102006 x102007))))
def plantext_Check.j2 : Nat → Bool → ByteArray → ByteArray → ByteArray → ByteArray → Int → Int → Int → List ByteArray → Option (Int)
  | 0, _, _, _, _, _, _, _, _, _ => none
  | k + 1, x32, x102000, x102001, x102002, x102003, x102004, x102005, x102006, x102007 => if x32 = true then (some 4) else (if (x102007.length : Int) > 24 then (some 2) else ((slices_ContainsFunc_string_string.f x102007 (plantext_Check_1.p)).bind fun t107 => (if t107 = true then (some 5) else (some 0))))
end
def plantext_Check.f (k : Nat) (a0_0 : ByteArray) (a0_1 : ByteArray) (a0_2 : ByteArray) (a0_3 : ByteArray) (a0_4 : Int) (a0_5 : Int) (a0_6 : Int) (l0_7 : List ByteArray) : Option (Int) := (some (([a0_0, a0_1, a0_2, a0_3] : List ByteArray) : List ByteArray)).bind fun y102 => (plantext_Check.l0 k y102 (y102.length : Int) 0 a0_0 a0_1 a0_2 a0_3 a0_4 a0_5 a0_6 l0_7)
theorem plantext_Check.mono_l : ∀ k, (∀ y0 y1 y2 y3 y4 y5 y6 y7 y8 y9 y10, LeO (plantext_Check.l0 k y0 y1 y2 y3 y4 y5 y6 y7 y8 y9 y10) (plantext_Check.l0 (k + 1) y0 y1 y2 y3 y4 y5 y6 y7 y8 y9 y10)) ∧ (∀ y0 y1 y2 y3 y4 y5 y6 y7 y8, LeO (plantext_Check.j1 k y0 y1 y2 y3 y4 y5 y6 y7 y8) (plantext_Check.j1 (k + 1) y0 y1 y2 y3 y4 y5 y6 y7 y8)) ∧ (∀ y0 y1 y2 y3 y4 y5 y6 y7 y8, LeO (plantext_Check.j2 k y0 y1 y2 y3 y4 y5 y6 y7 y8) (plantext_Check.j2 (k + 1) y0 y1 y2 y3 y4 y5 y6 y7 y8))
  | 0 => ⟨fun _ _ _ _ _ _ _ _ _ _ _ r h => by simp [plantext_Check.l0] at h, fun _ _ _ _ _ _ _ _ _ r h => by simp [plantext_Check.j1] at h, fun _ _ _ _ _ _ _ _ _ r h => by simp [plantext_Check.j2] at h⟩
  | k + 1 => by
    obtain ⟨ih0, ih1, ih2⟩ := plantext_Check.mono_l k; refine ⟨?_, ?_, ?_⟩
    · intro y0 y1 y2 y3 y4 y5 y6 y7 y8 y9 y10; unfold plantext_Check.l0
      repeat' with_reducible first | apply ih0 | apply ih1 | apply ih2 | apply chart_Name.mono | apply LeO.refl | apply LeO.none | apply LeO.ite | refine LeO.bind ?_ (fun _ => ?_)
    · intro y0 y1 y2 y3 y4 y5 y6 y7 y8; unfold plantext_Check.j1
      repeat' with_reducible first | apply ih0 | apply ih1 | apply ih2 | apply chart_Name.mono | apply LeO.refl | apply LeO.none | apply LeO.ite | refine LeO.bind ?_ (fun _ => ?_)
    · intro y0 y1 y2 y3 y4 y5 y6 y7 y8; unfold plantext_Check.j2
      repeat' with_reducible first | apply ih0 | apply ih1 | apply ih2 | apply chart_Name.mono | apply LeO.refl | apply LeO.none | apply LeO.ite | refine LeO.bind ?_ (fun _ => ?_)
theorem plantext_Check.mono : ∀ a0 a1 a2 a3 a4 a5 a6 a7 k, LeO (plantext_Check.f k a0 a1 a2 a3 a4 a5 a6 a7) (plantext_Check.f (k + 1) a0 a1 a2 a3 a4 a5 a6 a7) := by
  intro a0 a1 a2 a3 a4 a5 a6 a7 k; obtain ⟨ih0, ih1, ih2⟩ := plantext_Check.mono_l k; unfold plantext_Check.f
  repeat' with_reducible first | apply ih0 | apply ih1 | apply ih2 | apply chart_Name.mono | apply LeO.refl | apply LeO.none | apply LeO.ite | refine LeO.bind ?_ (fun _ => ?_)
theorem plantext_Check.calls (k : Nat) (a0_0 : ByteArray) (a0_1 : ByteArray) (a0_2 : ByteArray) (a0_3 : ByteArray) (a0_4 : Int) (a0_5 : Int) (a0_6 : Int) (A0_7 : Option Addr) (c0_7 : Nat) (l0_7 : List ByteArray) (r : Int) (w : World) (hr0_7 : Kd.C Kd.string w A0_7 l0_7.length l0_7) (hc0_7 : l0_7.length ≤ c0_7) (h : plantext_Check.f k a0_0 a0_1 a0_2 a0_3 a0_4 a0_5 a0_6 l0_7 = some r) :
    Calls Tryz.prog 32 #[.agg #[.string a0_0, .string a0_1, .string a0_2, .string a0_3, .int .i64 a0_4, .int .i64 a0_5, .int .i64 a0_6, .slice A0_7 l0_7.length c0_7]] w fun e w' => e = .returned (.int .i64 r) ∧ Below w.heap.size w w' := by
 have hu39 := Tryz.underlying39; have HR0_7 := Aside0.mk hr0_7; have HC0_7 := Aside0.mk hc0_7; clear hr0_7 hc0_7; have HB := Aside0.mk (Below.refl w.heap.size w); have H := h; unfold plantext_Check.f at H; clear h; obtain ⟨y102, hy102⟩ : ∃ y_ : List ByteArray, y_ = (([a0_0, a0_1, a0_2, a0_3] : List ByteArray)) := ⟨_, rfl⟩
 replace H : (plantext_Check.l0 k y102 (y102.length : Int) 0 a0_0 a0_1 a0_2 a0_3 a0_4 a0_5 a0_6 l0_7) = some r := by first | (rw [hy102]; with_reducible exact H) | (have H2_ := (Option.bind_some _ _).symm.trans H; rw [hy102]; with_reducible exact H2_) | (have H2_ := (Option.bind_some _ _).symm.trans H; with_reducible exact H2_) | with_reducible exact H | (rw [hy102]; exact H) | exact H
 have Ny102 := Aside0.mk hy102; clear hy102; have H' := Aside0.mk H; clear H; go_enter Tryz.func32, Tryz.ntmps32
 go_wp2_with (first | ((with_reducible refine gate_dst (N := 1) rfl ?_); refine box_s #[.string a0_0, .string a0_1, .string a0_2, .string a0_3, .int .i64 a0_4, .int .i64 a0_5, .int .i64 a0_6, .slice A0_7 l0_7.length c0_7] 39 ?_; intro gb101 hg w2 hbox hb; have BK101 := Aside0.mk (hbox); have GW101 := ge HB hg; have GE101 := ge HB hg; replace HB := st HB hb; clear hb hbox hg; obtain ⟨hcz3_0, hcz3_1, hcz3_2, hcz3_3, hcz3_4, hcz3_5, hcz3_6, hcz3_7, hfz3_0, hfz3_1, hfz3_2, hfz3_3, hfz3_4, hfz3_5, hfz3_6, hfz3_7⟩ := bq8 BK101) | ((with_reducible refine gate_dst (N := 13) rfl ?_); refine Kd.R_lit Kd.string _ 9 ?hg (N := 13) ?hd (xs := ([a0_0, a0_1, a0_2, a0_3] : List ByteArray)) (inner := [.string a0_0, .string a0_1, .string a0_2, .string a0_3]) (ok := fun _ => True) (okp := fun _ => True) ?hr ?hp (fun _ hk => hk) trivial (Below.refl _ _) (Nat.le_refl _) (by simp) ?_; (case hd => rfl); (case hg => rfl); (case hr => first | (go_simp; done) | (go_simp; rfl)); (case hp => exact (Reps.one (show Kd.M Kd.string _ _ _ a0_0 [.string a0_0] from rfl) (Reps.one (show Kd.M Kd.string _ _ _ a0_1 [.string a0_1] from rfl) (Reps.one (show Kd.M Kd.string _ _ _ a0_2 [.string a0_2] from rfl) (Reps.one (show Kd.M Kd.string _ _ _ a0_3 [.string a0_3] from rfl) (Reps.none _ _)))))); intro v103 w4 ho5 hb hg_ hnew_; clear hg_ hnew_; (first | rw [← Ny102.out] at ho5 | (simp only [Int.reduceToNat] at ho5; rw [← Ny102.out] at ho5)); have HO104 := Aside0.mk (Kd.R_lower ho5 bz_s); replace BK101 := kp BK101 hb; replace HB := st HB hb; clear hb ho5; obtain ⟨Ao6, co6, eo6⟩ := Kd.R_slice HO104.out; subst eo6))
 go_loopg [15] k (fun kq v15 w' => ∃ (x15_1 : Int), v15 = .int .i64 x15_1 ∧ Aside0 (plantext_Check.l0 kq y102 (y102.length : Int) x15_1 a0_0 a0_1 a0_2 a0_3 a0_4 a0_5 a0_6 l0_7 = some r) ∧ Aside0 (kq ≤ k) ∧ Aside0 (Kd.R Kd.string 9 w' w.heap.size (fun _ => True) (.slice Ao6 y102.length co6) y102) ∧ Aside0 (w'.heap[gb101]? = some (.cells #[.string a0_0, .string a0_1, .string a0_2, .string a0_3, .int .i64 a0_4, .int .i64 a0_5, .int .i64 a0_6, (.slice A0_7 l0_7.length c0_7)] 39 (0, 0))) ∧ Aside0 (Below w.heap.size w w'))
 case atStart => exact ⟨(0), rs_, H', ⟨Nat.le_refl _⟩, ⟨ro_ HO104⟩, ⟨blk_s⟩, ⟨bel_s⟩⟩
 case round =>
  clear H'
  obtain ⟨x15_1, rfl, HA, HK1, HO_13, BK101, HB⟩ := hrel
  cases gk with
  | zero => exact absurd HA.out (by simp [plantext_Check.l0])
  | succ k1 =>
   have H := HA.out; clear HA; simp only [plantext_Check.l0] at H
   by_cases c7 : x15_1 < (y102.length : Int)
   · rw [if_pos c7] at H; have c7b0 := decide_eq_true c7; clear c7
     obtain ⟨c8b0, H⟩ := ip_ H
     obtain ⟨c9b0, H⟩ := ip_ H; replace H := Option.bind_eq_some_iff.mp H; obtain ⟨t106, A100, H⟩ := H; (try dsimp only at H); have A10 := Aside0.mk A100; clear A100
     by_cases c11 : t106 = true
     · subst c11
       rw [if_pos rfl] at H; (try dsimp only at H); have H' := Aside0.mk H; clear H
       have p105 : 0 ≤ (x15_1 : Int) := od_
       have q105 : x15_1 < (y102.length : Int) := od_
       obtain ⟨ad105, e105, hx105_0⟩ := Kd.at_string (Kd.R_reads' HO_13.out).2.2 x15_1 p105 q105; cases e105; replace p105 := eq_true p105; replace q105 := eq_true q105
       go_wp2_with (first | ((with_reducible refine gate_callee (f := 74) rfl ?_); refine goesL_ (some 20) rfl rfl Tryz.func74 (by kernel_rfl) rfl #[.string (rdOf ByteArray.empty y102 x15_1)] rfl any_s ?_; (with_reducible refine (chart_Name.calls k1 (rdOf ByteArray.empty y102 x15_1) true _ A10.out).mono ?_); rintro e wx3cef1 ⟨rfl, hb⟩; refine ⟨_, rfl, ?_⟩; replace HO_13 := Aside0.mk (Kd.R_below (by (with_reducible repeat (first | apply Kd.R_alloc | apply Kd.R_drewN | apply Kd.R_drew)); exact HO_13.out) hb); replace BK101 := kp BK101 hb; replace HB := st HB hb))
       go_roundg k1
       case measure => have := HK1.out; omega
       case rel => exact ⟨(wrap64 (x15_1 + 1)), rs_, H', ⟨by have := HK1.out; omega⟩, ⟨ro_ HO_13⟩, ⟨blk_s⟩, ⟨bel_s⟩⟩
     · replace c11 := Bool.eq_false_iff.mpr c11; subst c11
       rw [if_neg (show ¬ (false = true) by decide)] at H; (try dsimp only at H); obtain rfl := Option.some.inj H
       have p105 : 0 ≤ (x15_1 : Int) := od_
       have q105 : x15_1 < (y102.length : Int) := od_
       obtain ⟨ad105, e105, hx105_0⟩ := Kd.at_string (Kd.R_reads' HO_13.out).2.2 x15_1 p105 q105; cases e105; replace p105 := eq_true p105; replace q105 := eq_true q105
       go_wp2_with (first | ((with_reducible refine gate_callee (f := 74) rfl ?_); refine goesL_ (some 20) rfl rfl Tryz.func74 (by kernel_rfl) rfl #[.string (rdOf ByteArray.empty y102 x15_1)] rfl any_s ?_; (with_reducible refine (chart_Name.calls k1 (rdOf ByteArray.empty y102 x15_1) false _ A10.out).mono ?_); rintro e wxab171 ⟨rfl, hb⟩; refine ⟨_, rfl, ?_⟩; replace HO_13 := Aside0.mk (Kd.R_below (by (with_reducible repeat (first | apply Kd.R_alloc | apply Kd.R_drewN | apply Kd.R_drew)); exact HO_13.out) hb); replace BK101 := kp BK101 hb; replace HB := st HB hb))
       go_ret
       exact ⟨er_, bel_s⟩
   · rw [if_neg c7] at H; have c7b0 := decide_eq_false c7; clear c7; have HC14 := Aside0.mk H; clear H
     go_upto_region 7 with (fail)
     go_cut [23] (fun v23 wc => ∃ (kq : Nat) (x23_13 : Bool), v23 = .bool x23_13 ∧ Aside0 (plantext_Check.j1 kq x23_13 a0_0 a0_1 a0_2 a0_3 a0_4 a0_5 a0_6 l0_7 = some r) ∧ Aside0 (kq ≤ k1) ∧ Aside0 (wc.heap[gb101]? = some (.cells #[.string a0_0, .string a0_1, .string a0_2, .string a0_3, .int .i64 a0_4, .int .i64 a0_5, .int .i64 a0_6, (.slice A0_7 l0_7.length c0_7)] 39 (0, 0))) ∧ Aside0 (Below w.heap.size w wc))
     case first =>
      have H := HC14.out; clear HC14; refine Or.elim (Classical.em (a0_4 < 0)) (fun c15 => ?p2_) (fun c15 => ?n2_)
      case' p2_ =>
       rw [if_pos c15] at H; have c15b0 := decide_eq_true c15; clear c15
       (first | rw [c15b0] | (simp only [i64_w, i32_w]; rw [c15b0]) | skip)
      case' n2_ =>
       rw [if_neg c15] at H; have c15b0 := decide_eq_false c15; clear c15
       (first | rw [c15b0] | (simp only [i64_w, i32_w]; rw [c15b0]) | skip)
      all_goals
       have H' := Aside0.mk H; clear H; obtain ⟨hczzd1, hczzd2, hczzd3, hczzd4, hczzd5, hczzd6, hczzd7, hczzd8, hfzzd1, hfzzd2, hfzzd3, hfzzd4, hfzzd5, hfzzd6, hfzzd7, hfzzd8⟩ := bq8 BK101; go_wp2; go_meet
       case rel => first | (exact ⟨_, (true), rs_, H', ⟨by have := HK1.out; first | omega | exact Nat.le_refl _⟩, ⟨blk_s⟩, ⟨bel_s⟩⟩) | (exact ⟨_, (decide (a0_4 > 200000)), rs_, H', ⟨by have := HK1.out; first | omega | exact Nat.le_refl _⟩, ⟨blk_s⟩, ⟨bel_s⟩⟩)
     case rest =>
      clear HC14
      obtain ⟨kq, x23_13, rfl, HA, HJ13, BK101, HB⟩ := hcut
      cases kq with
      | zero => exact absurd HA.out (by simp [plantext_Check.j1])
      | succ kj13 =>
       have H := HA.out; clear HA; simp only [plantext_Check.j1] at H
       by_cases c18 : x23_13 = true
       · subst c18
         rw [if_pos rfl] at H; (try dsimp only at H); obtain rfl := Option.some.inj H; go_wp2; go_ret
         exact ⟨er_, bel_s⟩
       · replace c18 := Bool.eq_false_iff.mpr c18; subst c18
         rw [if_neg (show ¬ (false = true) by decide)] at H; (try dsimp only at H); have HC19 := Aside0.mk H; clear H
         go_upto_region 9 with (fail)
         go_cut [32] (fun v32 wc => ∃ (kq : Nat) (x32_18 : Bool), v32 = .bool x32_18 ∧ Aside0 (plantext_Check.j2 kq x32_18 a0_0 a0_1 a0_2 a0_3 a0_4 a0_5 a0_6 l0_7 = some r) ∧ Aside0 (kq ≤ kj13) ∧ Aside0 (wc.heap[gb101]? = some (.cells #[.string a0_0, .string a0_1, .string a0_2, .string a0_3, .int .i64 a0_4, .int .i64 a0_5, .int .i64 a0_6, (.slice A0_7 l0_7.length c0_7)] 39 (0, 0))) ∧ Aside0 (Below w.heap.size w wc))
         case first =>
          have H := HC19.out; clear HC19; refine Or.elim (Classical.em (a0_5 < 1)) (fun c20 => ?p4_) (fun c20 => ?n4_)
          case' p4_ =>
           rw [if_pos c20] at H; have c20b0 := decide_eq_true c20; clear c20
           (first | rw [c20b0] | (simp only [i64_w, i32_w]; rw [c20b0]) | skip)
          case' n4_ =>
           rw [if_neg c20] at H; have c20b0 := decide_eq_false c20; clear c20
           (first | rw [c20b0] | (simp only [i64_w, i32_w]; rw [c20b0]) | skip)
           refine Or.elim (Classical.em (a0_5 > 400)) (fun c22 => ?p5_) (fun c22 => ?n5_)
           case' p5_ =>
            rw [if_pos c22] at H; have c22b0 := decide_eq_true c22; clear c22
           case' n5_ =>
            rw [if_neg c22] at H; have c22b0 := decide_eq_false c22; clear c22; refine Or.elim (Classical.em (a0_6 < 1)) (fun c24 => ?p6_) (fun c24 => ?n6_)
            case' p6_ =>
             rw [if_pos c24] at H; have c24b0 := decide_eq_true c24; clear c24
            case' n6_ =>
             rw [if_neg c24] at H; have c24b0 := decide_eq_false c24; clear c24
          all_goals
           have H' := Aside0.mk H; clear H; obtain ⟨hczzf1, hczzf2, hczzf3, hczzf4, hczzf5, hczzf6, hczzf7, hczzf8, hfzzf1, hfzzf2, hfzzf3, hfzzf4, hfzzf5, hfzzf6, hfzzf7, hfzzf8⟩ := bq8 BK101; go_wp2; go_meet
           case rel => first | (exact ⟨_, (true), rs_, H', ⟨by have := HK1.out; have := HJ13.out; first | omega | exact Nat.le_refl _⟩, ⟨blk_s⟩, ⟨bel_s⟩⟩) | (exact ⟨_, (decide (a0_6 > 60000)), rs_, H', ⟨by have := HK1.out; have := HJ13.out; first | omega | exact Nat.le_refl _⟩, ⟨blk_s⟩, ⟨bel_s⟩⟩)
         case rest =>
          clear HC19
          obtain ⟨kq, x32_18, rfl, HA, HJ18, BK101, HB⟩ := hcut
          cases kq with
          | zero => exact absurd HA.out (by simp [plantext_Check.j2])
          | succ kj18 =>
           have H := HA.out; clear HA; simp only [plantext_Check.j2] at H; refine Or.elim (Classical.em (x32_18 = true)) (fun c27 => ?p8_) (fun c27 => ?n8_)
           case' p8_ =>
            subst c27
            rw [if_pos rfl] at H; (try dsimp only at H); have hm7_0 := Aside0.mk trivial
           case' n8_ =>
            replace c27 := Bool.eq_false_iff.mpr c27; subst c27
            rw [if_neg (show ¬ (false = true) by decide)] at H; (try dsimp only at H); refine Or.elim (Classical.em ((l0_7.length : Int) > 24)) (fun c28 => ?p9_) (fun c28 => ?n9_)
            case' p9_ =>
             rw [if_pos c28] at H; have c28b0 := decide_eq_true c28; have c28b1 : decide (24 < l0_7.length) = true := decide_eq_true (by omega); clear c28; have hm7_1 := Aside0.mk trivial
            case' n9_ =>
             rw [if_neg c28] at H; have c28b0 := decide_eq_false c28; have c28b1 : decide (24 < l0_7.length) = false := decide_eq_false (by omega); clear c28; replace H := Option.bind_eq_some_iff.mp H; obtain ⟨t107, A300, H⟩ := H; (try dsimp only at H); have A30 := Aside0.mk A300; clear A300; refine Or.elim (Classical.em (t107 = true)) (fun c31 => ?p10_) (fun c31 => ?n10_)
             case' p10_ =>
              subst c31
              rw [if_pos rfl] at H; (try dsimp only at H); have hm7_2 := Aside0.mk trivial
             case' n10_ =>
              replace c31 := Bool.eq_false_iff.mpr c31; subst c31
              rw [if_neg (show ¬ (false = true) by decide)] at H; (try dsimp only at H); have hm7_2 := Aside0.mk trivial
           all_goals
            obtain rfl := Option.some.inj H
            first
             | clear hm7_0; go_wp2; go_ret
               exact ⟨er_, bel_s⟩
             | (first | (have _hm := hm7_1) | (have _hm := hm7_2))
               obtain ⟨hczzg1, hczzg2, hczzg3, hczzg4, hczzg5, hczzg6, hczzg7, hczzg8, hfzzg1, hfzzg2, hfzzg3, hfzzg4, hfzzg5, hfzzg6, hfzzg7, hfzzg8⟩ := bq8 BK101
               first
                | clear hm7_1; go_wp2; go_ret
                  exact ⟨er_, bel_s⟩
                | clear hm7_2
                  go_wp2_with (first | ((with_reducible refine gate_callee (f := 75) rfl ?_); refine goesL_ (some 59) rfl rfl Tryz.func75 (by kernel_rfl) rfl #[.slice A0_7 l0_7.length c0_7, .func (.func 76) #[] #[]] rfl any_s ?_; (with_reducible refine (slices_ContainsFunc_string_string.calls _ _ l0_7 (plantext_Check_1.p) false _ ?side1 ?side2 ?side3 A30.out).mono ?_); (case side1 => exact cb_s (Kd.C_below HR0_7.out HB.out)); (case side2 => exact HC0_7.out); (case side3 => exact plantext_Check_1.pred ); rintro e wx8f071 ⟨rfl, hb⟩; refine ⟨_, rfl, ?_⟩; replace BK101 := kp BK101 hb; replace HB := st HB hb) | ((with_reducible refine gate_callee (f := 75) rfl ?_); refine goesL_ (some 59) rfl rfl Tryz.func75 (by kernel_rfl) rfl #[.slice A0_7 l0_7.length c0_7, .func (.func 76) #[] #[]] rfl any_s ?_; (with_reducible refine (slices_ContainsFunc_string_string.calls _ _ l0_7 (plantext_Check_1.p) true _ ?side1 ?side2 ?side3 A30.out).mono ?_); (case side1 => exact cb_s (Kd.C_below HR0_7.out HB.out)); (case side2 => exact HC0_7.out); (case side3 => exact plantext_Check_1.pred ); rintro e wxabb91 ⟨rfl, hb⟩; refine ⟨_, rfl, ?_⟩; replace BK101 := kp BK101 hb; replace HB := st HB hb))
                  go_ret
                  exact ⟨er_, bel_s⟩
def plane_Check.f (a0_0 : Int) (a0_1 : Int) : Option (Int) := if a0_0 < (-1000000) then (some 4) else (if a0_0 > 1000000 then (some 4) else (if a0_1 < (-1000000) then (some 4) else (if a0_1 > 1000000 then (some 4) else (some 0))))
theorem plane_Check.calls (a0_0 : Int) (a0_1 : Int) (r : Int) (w : World) (h : plane_Check.f a0_0 a0_1 = some r) :
    Calls Tryz.prog 50 #[.agg #[.int .i64 a0_0, .int .i64 a0_1]] w fun e w' => e = .returned (.int .i64 r) ∧ Below w.heap.size w w' := by
 have hu54 := Tryz.underlying54; have HB := Aside0.mk (Below.refl w.heap.size w); have H := h; unfold plane_Check.f at H; clear h; refine Or.elim (Classical.em (a0_0 < (-1000000))) (fun c2 => ?p2_) (fun c2 => ?n2_)
 case' p2_ =>
  rw [if_pos c2] at H; have c2b0 := decide_eq_true c2; clear c2
 case' n2_ =>
  rw [if_neg c2] at H; have c2b0 := decide_eq_false c2; clear c2; refine Or.elim (Classical.em (a0_0 > 1000000)) (fun c5 => ?p3_) (fun c5 => ?n3_)
  case' p3_ =>
   rw [if_pos c5] at H; have c5b0 := decide_eq_true c5; clear c5
  case' n3_ =>
   rw [if_neg c5] at H; have c5b0 := decide_eq_false c5; clear c5; refine Or.elim (Classical.em (a0_1 < (-1000000))) (fun c8 => ?p4_) (fun c8 => ?n4_)
   case' p4_ =>
    rw [if_pos c8] at H; have c8b0 := decide_eq_true c8; clear c8
   case' n4_ =>
    rw [if_neg c8] at H; have c8b0 := decide_eq_false c8; clear c8; refine Or.elim (Classical.em (a0_1 > 1000000)) (fun c11 => ?p5_) (fun c11 => ?n5_)
    case' p5_ =>
     rw [if_pos c11] at H; have c11b0 := decide_eq_true c11; clear c11
    case' n5_ =>
     rw [if_neg c11] at H; have c11b0 := decide_eq_false c11; clear c11
 all_goals
  obtain rfl := Option.some.inj H; go_enter Tryz.func50, Tryz.ntmps50
  go_wp2_with (first | ((with_reducible refine gate_dst (N := 1) rfl ?_); refine box_s #[.int .i64 a0_0, .int .i64 a0_1] 54 ?_; intro gb108 hg wxd9c71 hbox hb; have BK108 := Aside0.mk (hbox); have GW108 := ge HB hg; have GE108 := ge HB hg; replace HB := st HB hb; clear hb hbox hg; obtain ⟨hczxd9c71, hczxd9c72, hfzxd9c71, hfzxd9c72⟩ := bq2 BK108))
  go_ret
  exact ⟨er_, bel_s⟩
end Go.Proofs.YthpbpdobghceeaaGreatDoor.PFlyWinds
