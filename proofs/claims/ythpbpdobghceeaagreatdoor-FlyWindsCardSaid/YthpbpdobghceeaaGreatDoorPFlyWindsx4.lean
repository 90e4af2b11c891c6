/- Made by wip/tools/myprint.py (over the kit's printer). -/
import Derived.Test.YthpbpdobghceeaaGreatDoorTSq3
import Derived.Test.YthpbpdobghceeaaGreatDoorPFlyWindsx0
namespace Go.Proofs.YthpbpdobghceeaaGreatDoor.PFlyWinds
open Go.RowKit Go.Proofs.YthpbpdobghceeaaGreatDoorW.PrintWords Go.Proofs.YthpbpdobghceeaaGreatDoorW.PrintLast Go.Proofs.YthpbpdobghceeaaGreatDoorW.PrintMore
attribute [local go_sem] max2_int min2_int max_two min_two max_three min_three max_four min_four
set_option linter.unusedVariables false
set_option maxRecDepth 100000
set_option maxHeartbeats 8000000
set_option linter.unusedSimpArgs false
def api_Fix_37.f (l0 : List (S84)) (p : (S84) → Bool) : Option Int := some (IdxF.idx p l0)
theorem api_Fix_37.calls (A0 : Option Addr) (c0 : Nat) (l0 : List (S84)) (p : (S84) → Bool) {F : Value} (r : Int) (w : World) (hr0 : Kd.C k84 w A0 l0.length l0) (hc0 : l0.length ≤ c0) (hp : IdxF.Pred Tryz.prog k84 true F p w) (h : api_Fix_37.f l0 p = some r) :
    Calls Tryz.prog 37 #[.slice A0 l0.length c0, F] w fun e w' => e = .returned (.int .i64 r) ∧ Below w.heap.size w w' := by
  obtain ⟨g, lb, rfl, eg, hp⟩ := hp; obtain rfl := Option.some.inj h; clear h; have hbig := hr0.2.1; go_enter Tryz.func37, Tryz.ntmps37; go_wp2; go_loopg [5, 8] l0.length (fun gg _ s8 wr => ∃ kk : Nat, kk ≤ l0.length ∧ l0.length - kk ≤ gg ∧ s8 = .int .i64 kk ∧ Aside0 (Below w.heap.size w wr) ∧ Aside0 (∀ j (h : j < l0.length), j < kk → p l0[j] = false))
  case atStart => exact ⟨0, Nat.zero_le _, by omega, rfl, ⟨Below.refl _ w⟩, ⟨fun j _ hj => absurd hj (Nat.not_lt_zero _)⟩⟩
  case round =>
    obtain ⟨kk, hkk, hg, rfl, BW, AJ⟩ := hrel
    by_cases hlt : kk < l0.length
    · have hltz : (kk : Int) < (l0.length : Int) := by omega
      obtain ⟨ad, cs, rfl, hlen, hK, hcell⟩ := Kd.C_get (Kd.C_below hr0 BW.out) z84 (kk : Int) (by omega) hltz
      have hx : l0.getD (kk : Int).toNat z84 = l0[kk] := by rw [Int.toNat_natCast, List.getD_eq_getElem?_getD, List.getElem?_eq_getElem hlt]; rfl
      rw [hx] at hK; obtain ⟨v0_, v1_, v2_, rfl⟩ := IdxF.len3 hlen
      have hx0_ : wr.cell? (ad.add (kk * 3)) = some v0_ := by first | exact hcell 0 v0_ rfl | simpa using hcell 0 v0_ rfl | (have h_ := hcell 0 v0_ rfl; rw [show k84.sz = 1 from rfl, Nat.mul_one] at h_; simpa using h_)
      have hx1_ : wr.cell? ⟨(ad.add (kk * 3)).block, (ad.add (kk * 3)).off + 1, none⟩ = some v1_ := by rw [← add_field _ _ 1 (by omega)]; exact hcell 1 _ rfl
      have hx2_ : wr.cell? ⟨(ad.add (kk * 3)).block, (ad.add (kk * 3)).off + 2, none⟩ = some v2_ := by rw [← add_field _ _ 2 (by omega)]; exact hcell 2 _ rfl
      have hcall : Calls Tryz.prog g (#[.agg #[v0_, v1_, v2_]] ++ lb) wr fun e w' => e = .returned (.bool (p l0[kk])) ∧ Below wr.heap.size wr w' := by have h_ := hp wr l0[kk] [v0_, v1_, v2_] BW.out hK; exact h_
      clear hcell hx hp hK hlen
      cases hq : p l0[kk] with
      | true =>
        rw [hq] at hcall; go_wp2_with (go_at_fn g; refine hcall.mono ?_; rintro e w' ⟨rfl, hb'⟩); go_ret; refine ⟨?_, below_step BW.out hb'⟩; rw [IdxF.idx_hit p l0 hlt hq (fun j h => AJ.out j _ h)]; rfl
      | false =>
        rw [hq] at hcall; go_wp2_with (go_at_fn g; refine hcall.mono ?_; rintro e w' ⟨rfl, hb'⟩); go_roundg (l0.length - (kk + 1))
        case measure => omega
        case rel =>
          refine ⟨kk + 1, by omega, by omega, by go_num, ⟨below_step BW.out hb'⟩, ⟨fun j h hj => ?_⟩⟩
          by_cases e : j = kk
          · subst e; exact hq
          · exact AJ.out j h (by omega)
    · have hltz : ¬ (kk : Int) < (l0.length : Int) := by omega
      go_wp2; go_ret; refine ⟨?_, BW.out⟩; rw [IdxF.idx_miss p l0 (fun j h => AJ.out j h (by omega))]; rfl
def chart_find_1.p (s : ByteArray) (x : S84) : Bool := decide (x.f0 = s)
theorem chart_find_1.pred {s : ByteArray} {b ty : Nat} {w : World} (hb : w.heap[b]? = some (.cells #[.string s] ty (0, 0))) : IdxF.Pred Tryz.prog k84 true (.func (.func 104) #[] #[.pointer (some ⟨b, 0, none⟩)]) (chart_find_1.p s) w := by
  refine ⟨104, _, rfl, enters_of Tryz.func104 (by kernel_rfl) rfl, fun W x cs hW hK => ?_⟩; obtain rfl := k84_open hK; have hbW := blk_below hb hW; have hc : W.cell? ⟨b, 0, none⟩ = some (.string s) := (blk_cell hbW 0).trans rfl; have hlt := blk_lt hbW; clear hb hbW hW; unfold chart_find_1.p; change Calls Tryz.prog 104 #[.agg #[.string x.f0, .int .i64 x.f1.f0, .int .i64 x.f1.f1], .pointer (some ⟨b, 0, none⟩)] W _; generalize x.f0 = x0; go_enter Tryz.func104, Tryz.ntmps104; go_wp2; go_ret
  exact ⟨by first | rfl | (rw [IdxF.str_eq]; rfl), below_alloc (Below.refl _ _) _⟩
def chart_find.f (l0_0 : List (S84)) (l0_1 : List (S139)) (a1 : ByteArray) : Option (Int) := (api_Fix_37.f l0_0 (chart_find_1.p a1)).bind fun t111 => (some t111)
theorem chart_find.calls (A0_0 : Option Addr) (c0_0 : Nat) (l0_0 : List (S84)) (A0_1 : Option Addr) (c0_1 : Nat) (l0_1 : List (S139)) (a1 : ByteArray) (r : Int) (w : World) (hr0_0 : Kd.C k84 w A0_0 l0_0.length l0_0) (hc0_0 : l0_0.length ≤ c0_0) (hr0_1 : Kd.C k139 w A0_1 l0_1.length l0_1) (hc0_1 : l0_1.length ≤ c0_1) (h : chart_find.f l0_0 l0_1 a1 = some r) :
    Calls Tryz.prog 77 #[.agg #[.slice A0_0 l0_0.length c0_0, .slice A0_1 l0_1.length c0_1], .string a1] w fun e w' => e = .returned (.int .i64 r) ∧ Below w.heap.size w w' := by
 have hu43 := Tryz.underlying43; have HR0_0 := Aside0.mk hr0_0; have HC0_0 := Aside0.mk hc0_0; clear hr0_0 hc0_0; have HR0_1 := Aside0.mk hr0_1; have HC0_1 := Aside0.mk hc0_1; clear hr0_1 hc0_1; have HB := Aside0.mk (Below.refl w.heap.size w); have H := h; unfold chart_find.f at H; clear h; replace H := Option.bind_eq_some_iff.mp H; obtain ⟨t111, A30, H⟩ := H; (try dsimp only at H); have A3 := Aside0.mk A30; clear A30; obtain rfl := Option.some.inj H; go_enter Tryz.func77, Tryz.ntmps77
 go_wp2_with (first | ((with_reducible refine gate_dst (N := 2) rfl ?_); refine box_s #[.slice A0_0 l0_0.length c0_0, .slice A0_1 l0_1.length c0_1] 43 ?_; intro gb109 hg w4 hbox hb; have BK109 := Aside0.mk (hbox); have GW109 := ge HB hg; have GE109 := ge HB hg; replace HB := st HB hb; clear hb hbox hg) | ((with_reducible refine gate_dst (N := 3) rfl ?_); refine box_s #[.string a1] 9 ?_; intro gb110 hg w5 hbox hb; have BK110 := Aside0.mk (hbox); have GW110 := ge HB hg; have GE110 := ge HB hg; replace HB := st HB hb; have NB109_110 := nl BK109 hg; have NB110_109 := nr BK109 hg; replace BK109 := kp BK109 hb; clear hb hbox hg; have hnb6 := NB109_110.out; have hnc6 := NB110_109.out; obtain ⟨hcz7_0, hcz7_1, hfz7_0, hfz7_1⟩ := bq2 BK109) | ((with_reducible refine gate_callee (f := 37) rfl ?_); refine goesL_ (some 8) rfl rfl Tryz.func37 (by kernel_rfl) rfl #[.slice A0_0 l0_0.length c0_0, .func (.func 104) #[] #[.pointer (some ⟨gb110, 0, none⟩)]] rfl any_s ?_; (with_reducible refine (api_Fix_37.calls _ _ l0_0 (chart_find_1.p a1) t111 _ ?side1 ?side2 ?side3 A3.out).mono ?_); (case side1 => exact cb_s (Kd.C_below HR0_0.out HB.out)); (case side2 => exact HC0_0.out); (case side3 => exact chart_find_1.pred blk_s); rintro e w8 ⟨rfl, hb⟩; refine ⟨_, rfl, ?_⟩; replace BK109 := kp BK109 hb; replace BK110 := kp BK110 hb; replace HB := st HB hb))
 go_ret
 exact ⟨er_, bel_s⟩
def api_Airway_109.f (l0 : List (S139)) (p : (S139) → Bool) : Option Int := some (IdxF.idx p l0)
theorem api_Airway_109.calls (A0 : Option Addr) (c0 : Nat) (l0 : List (S139)) (p : (S139) → Bool) {F : Value} (r : Int) (w : World) (hr0 : Kd.C k139 w A0 l0.length l0) (hc0 : l0.length ≤ c0) (hp : IdxF.Pred Tryz.prog k139 true F p w) (h : api_Airway_109.f l0 p = some r) :
    Calls Tryz.prog 109 #[.slice A0 l0.length c0, F] w fun e w' => e = .returned (.int .i64 r) ∧ Below w.heap.size w w' := by
  obtain ⟨g, lb, rfl, eg, hp⟩ := hp; obtain rfl := Option.some.inj h; clear h; have hbig := hr0.2.1; go_enter Tryz.func109, Tryz.ntmps109; go_wp2; go_loopg [5, 8] l0.length (fun gg _ s8 wr => ∃ kk : Nat, kk ≤ l0.length ∧ l0.length - kk ≤ gg ∧ s8 = .int .i64 kk ∧ Aside0 (Below w.heap.size w wr) ∧ Aside0 (∀ j (h : j < l0.length), j < kk → p l0[j] = false))
  case atStart => exact ⟨0, Nat.zero_le _, by omega, rfl, ⟨Below.refl _ w⟩, ⟨fun j _ hj => absurd hj (Nat.not_lt_zero _)⟩⟩
  case round =>
    obtain ⟨kk, hkk, hg, rfl, BW, AJ⟩ := hrel
    by_cases hlt : kk < l0.length
    · have hltz : (kk : Int) < (l0.length : Int) := by omega
      obtain ⟨ad, cs, rfl, hlen, hK, hcell⟩ := Kd.C_get (Kd.C_below hr0 BW.out) z139 (kk : Int) (by omega) hltz
      have hx : l0.getD (kk : Int).toNat z139 = l0[kk] := by rw [Int.toNat_natCast, List.getD_eq_getElem?_getD, List.getElem?_eq_getElem hlt]; rfl
      rw [hx] at hK; obtain ⟨v0_, v1_, rfl⟩ := IdxF.len2 hlen
      have hx0_ : wr.cell? (ad.add (kk * 2)) = some v0_ := by first | exact hcell 0 v0_ rfl | simpa using hcell 0 v0_ rfl | (have h_ := hcell 0 v0_ rfl; rw [show k139.sz = 1 from rfl, Nat.mul_one] at h_; simpa using h_)
      have hx1_ : wr.cell? ⟨(ad.add (kk * 2)).block, (ad.add (kk * 2)).off + 1, none⟩ = some v1_ := by rw [← add_field _ _ 1 (by omega)]; exact hcell 1 _ rfl
      have hcall : Calls Tryz.prog g (#[.agg #[v0_, v1_]] ++ lb) wr fun e w' => e = .returned (.bool (p l0[kk])) ∧ Below wr.heap.size wr w' := by have h_ := hp wr l0[kk] [v0_, v1_] BW.out hK; exact h_
      clear hcell hx hp hK hlen
      cases hq : p l0[kk] with
      | true =>
        rw [hq] at hcall; go_wp2_with (go_at_fn g; refine hcall.mono ?_; rintro e w' ⟨rfl, hb'⟩); go_ret; refine ⟨?_, below_step BW.out hb'⟩; rw [IdxF.idx_hit p l0 hlt hq (fun j h => AJ.out j _ h)]; rfl
      | false =>
        rw [hq] at hcall; go_wp2_with (go_at_fn g; refine hcall.mono ?_; rintro e w' ⟨rfl, hb'⟩); go_roundg (l0.length - (kk + 1))
        case measure => omega
        case rel =>
          refine ⟨kk + 1, by omega, by omega, by go_num, ⟨below_step BW.out hb'⟩, ⟨fun j h hj => ?_⟩⟩
          by_cases e : j = kk
          · subst e; exact hq
          · exact AJ.out j h (by omega)
    · have hltz : ¬ (kk : Int) < (l0.length : Int) := by omega
      go_wp2; go_ret; refine ⟨?_, BW.out⟩; rw [IdxF.idx_miss p l0 (fun j h => AJ.out j h (by omega))]; rfl
def api_Airway_105.f (l0 : List (S139)) (p : (S139) → Bool) : Option Bool := some (l0.any p)
theorem api_Airway_105.calls (A0 : Option Addr) (c0 : Nat) (l0 : List (S139)) (p : (S139) → Bool) {F : Value} (r : Bool) (w : World) (hr0 : Kd.C k139 w A0 l0.length l0) (hc0 : l0.length ≤ c0) (hp : IdxF.Pred Tryz.prog k139 true F p w) (h : api_Airway_105.f l0 p = some r) :
    Calls Tryz.prog 105 #[.slice A0 l0.length c0, F] w fun e w' => e = .returned (.bool r) ∧ Below w.heap.size w w' := by
  obtain rfl := Option.some.inj h; clear h; rw [← IdxF.idx_any]; have hi := api_Airway_109.calls A0 c0 l0 p (IdxF.idx p l0) w hr0 hc0 hp rfl; obtain ⟨g, lb, rfl, eg, hp⟩ := hp; have e6 : ∀ args w, (callFunc 109 args).run Tryz.prog w = .ok (.enter 109 args) w := enters_of Tryz.func109 (by kernel_rfl) rfl; go_enter Tryz.func105, Tryz.ntmps105; go_wp2_with (go_at_call 109; refine hi.mono ?_; rintro e w' ⟨rfl, hb'⟩); go_ret; exact ⟨rfl, hb'⟩
def chart_airway_1.p (s : ByteArray) (_l : List ByteArray) (x : S139) : Bool := decide (x.f0 = s)
theorem chart_airway_1.pred {s : ByteArray} {l : List ByteArray} {v : Value} {b ty : Nat} {w : World} (hb : w.heap[b]? = some (.cells #[.string s, v] ty (0, 0))) : IdxF.Pred Tryz.prog k139 true (.func (.func 106) #[] #[.pointer (some ⟨b, 0, none⟩)]) (chart_airway_1.p s l) w := by
  refine ⟨106, _, rfl, enters_of Tryz.func106 (by kernel_rfl) rfl, fun W x cs hW hK => ?_⟩; obtain ⟨A1, c1, rfl, _⟩ := k139_open hK; have hbW := blk_below hb hW; have hc : W.cell? ⟨b, 0, none⟩ = some (.string s) := (blk_cell hbW 0).trans rfl; have hlt := blk_lt hbW; clear hb hbW hW; unfold chart_airway_1.p; change Calls Tryz.prog 106 #[.agg #[.string x.f0, .slice A1 x.f1.length c1], .pointer (some ⟨b, 0, none⟩)] W _; generalize x.f0 = x0; go_enter Tryz.func106, Tryz.ntmps106; go_wp2; go_ret
  exact ⟨by first | rfl | (rw [IdxF.str_eq]; rfl), below_alloc (Below.refl _ _) _⟩
def slices_Index_string_string.l0 : Nat → List ByteArray → ByteArray → Int → Int → Option (Int)
  | 0, _, _, _, _ => none
  | k + 1, x0, x1, x7, x8 => if x8 < x7 then (if 0 ≤ x8 then (if x8 < (x0.length : Int) then (if x1.toList = (rdOf ByteArray.empty x0 x8).toList then (some x8) else (slices_Index_string_string.l0 k x0 x1 x7 (wrap64 (x8 + 1)))) else (none)) else (none)) else (some (-1))
def slices_Index_string_string.f (k : Nat) (l0 : List ByteArray) (a1 : ByteArray) : Option (Int) := slices_Index_string_string.l0 k l0 a1 (l0.length : Int) 0
theorem slices_Index_string_string.mono_l : ∀ k, (∀ y0 y1 y2 y3, LeO (slices_Index_string_string.l0 k y0 y1 y2 y3) (slices_Index_string_string.l0 (k + 1) y0 y1 y2 y3))
  | 0 => fun _ _ _ _ r h => by simp [slices_Index_string_string.l0] at h
  | k + 1 => by
    have ih0 := slices_Index_string_string.mono_l k
    · intro y0 y1 y2 y3; unfold slices_Index_string_string.l0
      repeat' with_reducible first | apply ih0 | apply LeO.refl | apply LeO.none | apply LeO.ite | refine LeO.bind ?_ (fun _ => ?_)
theorem slices_Index_string_string.mono : ∀ a0 a1 k, LeO (slices_Index_string_string.f k a0 a1) (slices_Index_string_string.f (k + 1) a0 a1) := by
  intro a0 a1 k; have ih0 := slices_Index_string_string.mono_l k; unfold slices_Index_string_string.f
  repeat' with_reducible first | apply ih0 | apply LeO.refl | apply LeO.none | apply LeO.ite | refine LeO.bind ?_ (fun _ => ?_)
theorem slices_Index_string_string.calls (k : Nat) (A0 : Option Addr) (c0 : Nat) (l0 : List ByteArray) (a1 : ByteArray) (r : Int) (w : World) (hr0 : Kd.C Kd.string w A0 l0.length l0) (hc0 : l0.length ≤ c0) (h : slices_Index_string_string.f k l0 a1 = some r) :
    Calls Tryz.prog 111 #[.slice A0 l0.length c0, .string a1] w fun e w' => e = .returned (.int .i64 r) ∧ Below w.heap.size w w' := by
  have HR0 := Aside0.mk hr0; have HC0 := Aside0.mk hc0; clear hr0 hc0; have HB := Aside0.mk (Below.refl w.heap.size w); have H := h; unfold slices_Index_string_string.f at H; clear h; have H' := Aside0.mk H; clear H; go_enter Tryz.func111, Tryz.ntmps111; go_wp2; go_loopg [8] k (fun kq v8 w' => ∃ (x8_1 : Int), v8 = .int .i64 x8_1 ∧ Aside0 (slices_Index_string_string.l0 kq l0 a1 (l0.length : Int) x8_1 = some r) ∧ Aside0 (kq ≤ k) ∧ Aside0 (Below w.heap.size w w'))
  case atStart => exact ⟨(0), rs_, H', ⟨Nat.le_refl _⟩, ⟨bel_s⟩⟩
  case round =>
    clear H'
    try clear c1
    try clear p2
    obtain ⟨x8_1, rfl, HA, HK1, HB⟩ := hrel
    cases gk with
    | zero => exact absurd HA.out (by simp [slices_Index_string_string.l0])
    | succ k1 =>
      have H := HA.out; clear HA; simp only [slices_Index_string_string.l0] at H
      by_cases c3 : x8_1 < (l0.length : Int)
      · rw [if_pos c3] at H; have c3b0 := decide_eq_true c3; clear c3
        obtain ⟨c4b0, H⟩ := ip_ H
        obtain ⟨c5b0, H⟩ := ip_ H
        by_cases c6 : a1.toList = (rdOf ByteArray.empty l0 x8_1).toList
        · rw [if_pos c6] at H; have c6b0 := beq_iff_eq.mpr c6; have c6b1 := bne_eq_false_iff_eq.mpr c6; clear c6; obtain rfl := Option.some.inj H
          have p112 : 0 ≤ (x8_1 : Int) := od_
          have q112 : x8_1 < (l0.length : Int) := od_
          obtain ⟨ad112, e112, hx112_0⟩ := Kd.at_string HR0.out x8_1 p112 q112; cases e112; replace hx112_0 := cl HB hx112_0; replace p112 := eq_true p112; replace q112 := eq_true q112; go_wp2; go_ret
          exact ⟨er_, bel_s⟩
        · rw [if_neg c6] at H; have c6b0 := beq_eq_false_iff_ne.mpr c6; have c6b1 := bne_iff_ne.mpr c6; have H' := Aside0.mk H; clear H
          have p112 : 0 ≤ (x8_1 : Int) := od_
          have q112 : x8_1 < (l0.length : Int) := od_
          obtain ⟨ad112, e112, hx112_0⟩ := Kd.at_string HR0.out x8_1 p112 q112; cases e112; replace hx112_0 := cl HB hx112_0; replace p112 := eq_true p112; replace q112 := eq_true q112; go_wp2; go_roundg k1
          case measure => have := HK1.out; omega
          case rel => exact ⟨(wrap64 (x8_1 + 1)), rs_, H', ⟨by have := HK1.out; omega⟩, ⟨bel_s⟩⟩
      · rw [if_neg c3] at H; have c3b0 := decide_eq_false c3; clear c3; obtain rfl := Option.some.inj H; go_wp2; go_ret
        exact ⟨er_, bel_s⟩
def slices_Contains_string_string.f (k : Nat) (l0 : List ByteArray) (a1 : ByteArray) : Option (Bool) := (slices_Index_string_string.f k l0 a1).bind fun t113 => (some (decide (t113 ≥ 0)))
theorem slices_Contains_string_string.mono : ∀ a0 a1 k, LeO (slices_Contains_string_string.f k a0 a1) (slices_Contains_string_string.f (k + 1) a0 a1) := by
  intro a0 a1 k; unfold slices_Contains_string_string.f
  repeat' with_reducible first | apply slices_Index_string_string.mono | apply LeO.refl | apply LeO.none | apply LeO.ite | refine LeO.bind ?_ (fun _ => ?_)
theorem slices_Contains_string_string.calls (k : Nat) (A0 : Option Addr) (c0 : Nat) (l0 : List ByteArray) (a1 : ByteArray) (r : Bool) (w : World) (hr0 : Kd.C Kd.string w A0 l0.length l0) (hc0 : l0.length ≤ c0) (h : slices_Contains_string_string.f k l0 a1 = some r) :
    Calls Tryz.prog 107 #[.slice A0 l0.length c0, .string a1] w fun e w' => e = .returned (.bool r) ∧ Below w.heap.size w w' := by
 have HR0 := Aside0.mk hr0; have HC0 := Aside0.mk hc0; clear hr0 hc0; have HB := Aside0.mk (Below.refl w.heap.size w); have H := h; unfold slices_Contains_string_string.f at H; clear h; replace H := Option.bind_eq_some_iff.mp H; obtain ⟨t113, A30, H⟩ := H; (try dsimp only at H); have A3 := Aside0.mk A30; clear A30; obtain rfl := Option.some.inj H; go_enter Tryz.func107, Tryz.ntmps107
 go_wp2_with (first | ((with_reducible refine gate_callee (f := 111) rfl ?_); refine goesL_ (some 7) rfl rfl Tryz.func111 (by kernel_rfl) rfl #[.slice A0 l0.length c0, .string a1] rfl any_s ?_; (with_reducible refine (slices_Index_string_string.calls k _ _ l0 a1 t113 _ ?side1 ?side2 A3.out).mono ?_); (case side1 => repeat (first | exact HR0.out | (with_reducible refine Kd.C_alloc ?_ _) | (with_reducible refine Kd.C_drewN ?_ _) | (with_reducible refine Kd.C_drew ?_))); (case side2 => exact HC0.out); rintro e w4 ⟨rfl, hb⟩; refine ⟨_, rfl, ?_⟩; replace HB := st HB hb))
 go_ret
 exact ⟨er_, bel_s⟩
end Go.Proofs.YthpbpdobghceeaaGreatDoor.PFlyWinds
