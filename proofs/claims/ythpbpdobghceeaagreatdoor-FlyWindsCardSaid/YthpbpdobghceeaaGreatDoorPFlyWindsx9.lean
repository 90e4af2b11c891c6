/- Made by wip/tools/myprint.py (over the kit's printer). -/
import Derived.Test.YthpbpdobghceeaaGreatDoorTSq3
import Derived.Test.YthpbpdobghceeaaGreatDoorPFlyWindsx0
namespace Go.Proofs.YthpbpdobghceeaaGreatDoor.PFlyWinds
open Go.RowKit Go.Proofs.YthpbpdobghceeaaGreatDoorW.PrintWords Go.Proofs.YthpbpdobghceeaaGreatDoorW.PrintLast Go.Proofs.YthpbpdobghceeaaGreatDoorW.PrintMore
attribute [local go_sem] max2_int min2_int max_two min_two max_three min_three max_four min_four
set_option linter.unusedVariables false
set_option maxRecDepth 100000
set_option maxHeartbeats 8000000
set_option linter.unusedSimpArgs false
section
open Go
def slices_Grow_string_string.f (l0 : List ByteArray) (n : Int) : Option (List ByteArray) := if l0.length = 0 ∧ 0 ≤ n ∧ n ≤ 1000000 then some [] else none
theorem slices_Grow_string_string.calls (A0 : Option Addr) (c0 : Nat) (l0 : List ByteArray) (n : Int) (r : List ByteArray) (w : World) (_hr0 : Kd.C Kd.string w A0 l0.length l0) (_hc0 : l0.length ≤ c0) (h : slices_Grow_string_string.f l0 n = some r) (hn : A0 = none ∧ c0 = 0 := by exact ⟨rfl, rfl⟩) :
    Calls Tryz.prog 83 #[.slice A0 l0.length c0, .int .i64 n] w fun e w' => ∃ v0_ : Value, e = .returned v0_ ∧ Kd.R Kd.string 9 w' w.heap.size (fun _ => True) v0_ r ∧ Below w.heap.size w w' := by
  obtain ⟨rfl, rfl⟩ := hn; unfold slices_Grow_string_string.f at h
  by_cases c : l0.length = 0 ∧ 0 ≤ n ∧ n ≤ 1000000
  · rw [if_pos c] at h; obtain rfl := Option.some.inj h; obtain ⟨c1, c2, c3⟩ := c; rw [c1]; have hb : decide (n < 0) = false := decide_eq_false (by omega)
    have hw : IntKind.i64.wrap n = n := by rw [IntKind.wrap_i64]; omega
    by_cases c4 : 0 < n
    · have hb4 : decide (0 < n) = true := decide_eq_true c4; have C := Aside0.mk (And.intro c2 (And.intro c3 c4)); clear c1 c2 c3 c4 h; go_enter Tryz.func83, Tryz.ntmps83; go_wp2_with ((with_reducible refine gate_builtin (b := .append) (xs := #[.tmp 20, .tmp 21]) rfl ?_); at_builtin; refine Kd.R_append_zeros Kd.string (w0 := w) w.heap.size rfl (.tmp 20) (.tmp 21) 37 3 9 (.string ⟨#[]⟩) 16 rfl Tryz.underlying37 Tryz.underlying3 (by kernel_rfl) rfl (by decide) (by decide) (.slice none 0 0) [] (⟨#[]⟩ : ByteArray) n (fun _ => True) rfl rfl ?aZ (fun _ _ => trivial) (Kd.R_nil _ _ _ _ _) C.out.1 ?aB ?aS ?aL ?_; (case aZ => exact rfl); (case aB => exact Below.refl _ _); (case aS => exact Nat.le_refl _); (case aL => have := C.out; simp; omega); intro v1 w1 hR hB1 hg1 hat; obtain ⟨A1, q1, rfl⟩ := Kd.R_slice hR; have HR1 := Aside0.mk hR; have HB1 := Aside0.mk hB1; clear hR hB1 hg1 hat); go_ret; exact ⟨_, rfl, Kd.R_take (m := 0) HR1.out (Nat.zero_le _), HB1.out⟩
    · have hb4 : decide (0 < n) = false := decide_eq_false c4; clear c1 c2 c3 c4 h; go_enter Tryz.func83, Tryz.ntmps83; go_wp2; go_ret; exact ⟨_, rfl, Kd.R_nil _ _ _ _ _, Below.refl _ _⟩
  · rw [if_neg c] at h; cases h
end
mutual
def slices_Concat_string_string.l0 : Nat → List (List ByteArray) → Int → List (List ByteArray) → Int → Int → Option (List ByteArray)
  | 0, _, _, _, _, _ => none
  | k + 1, x0, x3, x9, x10, x11 => if x11 < x10 then (if 0 ≤ x11 then (if x11 < (x9.length : Int) then (if (wrap64 (x3 + ((rd_L5 x9 x11).length : Int))) < 0 then (none) else (slices_Concat_string_string.l0 k x0 (wrap64 (x3 + ((rd_L5 x9 x11).length : Int))) x9 x10 (wrap64 (x11 + 1)))) else (none)) else (none)) else ((slices_Grow_string_string.f ([] : List ByteArray) x3).bind fun t198 => (slices_Concat_string_string.l1 k t198 x0 (x0.length : Int) 0))
def slices_Concat_string_string.l1 : Nat → List ByteArray → List (List ByteArray) → Int → Int → Option (List ByteArray)
  | 0, _, _, _, _ => none
  | k + 1, x6, x25, x26, x27 => if x27 < x26 then (if 0 ≤ x27 then (if x27 < (x25.length : Int) then (if x6.length + (rd_L5 x25 x27).length < 8796093022208 then (slices_Concat_string_string.l1 k (x6 ++ (rd_L5 x25 x27)) x25 x26 (wrap64 (x27 + 1))) else (none)) else (none)) else (none)) else (some x6)
end
def slices_Concat_string_string.f (k : Nat) (l0 : List (List ByteArray)) : Option (List ByteArray) := slices_Concat_string_string.l0 k l0 0 l0 (l0.length : Int) 0
theorem slices_Concat_string_string.mono_l : ∀ k, (∀ y0 y1 y2 y3 y4, LeO (slices_Concat_string_string.l0 k y0 y1 y2 y3 y4) (slices_Concat_string_string.l0 (k + 1) y0 y1 y2 y3 y4)) ∧ (∀ y0 y1 y2 y3, LeO (slices_Concat_string_string.l1 k y0 y1 y2 y3) (slices_Concat_string_string.l1 (k + 1) y0 y1 y2 y3))
  | 0 => ⟨fun _ _ _ _ _ r h => by simp [slices_Concat_string_string.l0] at h, fun _ _ _ _ r h => by simp [slices_Concat_string_string.l1] at h⟩
  | k + 1 => by
    obtain ⟨ih0, ih1⟩ := slices_Concat_string_string.mono_l k; refine ⟨?_, ?_⟩
    · intro y0 y1 y2 y3 y4; unfold slices_Concat_string_string.l0
      repeat' with_reducible first | apply ih0 | apply ih1 | apply LeO.refl | apply LeO.none | apply LeO.ite | refine LeO.bind ?_ (fun _ => ?_)
    · intro y0 y1 y2 y3; unfold slices_Concat_string_string.l1
      repeat' with_reducible first | apply ih0 | apply ih1 | apply LeO.refl | apply LeO.none | apply LeO.ite | refine LeO.bind ?_ (fun _ => ?_)
theorem slices_Concat_string_string.mono : ∀ a0 k, LeO (slices_Concat_string_string.f k a0) (slices_Concat_string_string.f (k + 1) a0) := by
  intro a0 k; obtain ⟨ih0, ih1⟩ := slices_Concat_string_string.mono_l k; unfold slices_Concat_string_string.f
  repeat' with_reducible first | apply ih0 | apply ih1 | apply LeO.refl | apply LeO.none | apply LeO.ite | refine LeO.bind ?_ (fun _ => ?_)
theorem slices_Concat_string_string.calls (k : Nat) (A0 : Option Addr) (c0 : Nat) (l0 : List (List ByteArray)) (r : List ByteArray) (w : World) (hr0 : Kd.C (Kd.slice 9 Kd.string) w A0 l0.length l0) (hc0 : l0.length ≤ c0) (h : slices_Concat_string_string.f k l0 = some r) :
    Calls Tryz.prog 36 #[.slice A0 l0.length c0] w fun e w' => ∃ v0_ : Value, e = .returned (v0_) ∧ Kd.R Kd.string 9 w' w.heap.size (fun _ => True) v0_ r ∧ Below w.heap.size w w' := by
 have HR0 := Aside0.mk hr0; have HC0 := Aside0.mk hc0; clear hr0 hc0; have HB := Aside0.mk (Below.refl w.heap.size w); have H := h; unfold slices_Concat_string_string.f at H; clear h; have H' := Aside0.mk H; clear H; go_enter Tryz.func36, Tryz.ntmps36; go_wp2; go_loopg [3, 11] k (fun kq v3 v11 w' => ∃ (x3_1 : Int) (x11_1 : Int), v3 = .int .i64 x3_1 ∧ v11 = .int .i64 x11_1 ∧ Aside0 (slices_Concat_string_string.l0 kq l0 x3_1 l0 (l0.length : Int) x11_1 = some r) ∧ Aside0 (kq ≤ k) ∧ Aside0 (Below w.heap.size w w'))
 case atStart => exact ⟨(0), (0), rs_, rs_, H', ⟨Nat.le_refl _⟩, ⟨bel_s⟩⟩
 case round =>
  clear H'; obtain ⟨x3_1, x11_1, rfl, rfl, HA, HK1, HB⟩ := hrel
  cases gk with
  | zero => exact absurd HA.out (by simp [slices_Concat_string_string.l0])
  | succ k1 =>
   have H := HA.out; clear HA; simp only [slices_Concat_string_string.l0] at H; refine Or.elim (Classical.em (x11_1 < (l0.length : Int))) (fun c2 => ?p2_) (fun c2 => ?n2_)
   case' p2_ =>
    rw [if_pos c2] at H; have c2b0 := decide_eq_true c2; clear c2; obtain ⟨c3b0, H⟩ := ip_ H; obtain ⟨c4b0, H⟩ := ip_ H; refine Or.elim (Classical.em ((wrap64 (x3_1 + ((rd_L5 l0 x11_1).length : Int))) < 0)) (fun c5 => ?p5_) (fun c5 => ?n5_)
    case' p5_ =>
     rw [if_pos c5] at H; exact absurd H (by simp)
    case' n5_ =>
     rw [if_neg c5] at H; have c5b0 := decide_eq_false c5; clear c5; have hm1_0 := Aside0.mk trivial
   case' n2_ =>
    rw [if_neg c2] at H; have c2b0 := decide_eq_false c2; clear c2; replace H := Option.bind_eq_some_iff.mp H; obtain ⟨t198, A60, H⟩ := H; (try dsimp only at H); have A6 := Aside0.mk A60; clear A60; have hm1_1 := Aside0.mk trivial
   all_goals
    have H' := Aside0.mk H; clear H
    first
     | clear hm1_0
       have p197 : 0 ≤ (x11_1 : Int) := od_
       have q197 : x11_1 < (l0.length : Int) := od_
       obtain ⟨ad197, A197_0, c197_0, e197, hx197_0, hl197_0, hi197_0⟩ := at_L5 HR0.out x11_1 p197 q197; cases e197; replace hx197_0 := cl HB hx197_0; have HR197_0 := Aside0.mk hi197_0; have HC197_0 := Aside0.mk hl197_0; clear hi197_0 hl197_0; replace p197 := eq_true p197; replace q197 := eq_true q197; go_wp2; go_roundg k1
       case measure => have := HK1.out; omega
       case rel => exact ⟨(wrap64 (x3_1 + ((rd_L5 l0 x11_1).length : Int))), (wrap64 (x11_1 + 1)), rs_, rs_, H', ⟨by have := HK1.out; omega⟩, ⟨bel_s⟩⟩
     | clear hm1_1
       go_wp2_with (first | ((with_reducible refine gate_callee (f := 83) rfl ?_); refine goesL_ (some 24) rfl rfl Tryz.func83 (by kernel_rfl) rfl #[.slice none 0 0, .int .i64 x3_1] rfl any_s ?_; (refine (slices_Grow_string_string.calls _ _ ([] : List ByteArray) x3_1 t198 _ ?side1 ?side2 A6.out).mono ?_); (case side1 => exact Kd.C_nil _ _); (case side2 => exact Nat.le_refl _); rintro e wx056e1 ⟨v199, rfl, hox056e1, hb⟩; refine ⟨_, rfl, ?_⟩; have HO200 := Aside0.mk (Kd.R_lower hox056e1 bz_s); replace HB := st HB hb))
       go_loopg [6, 27] k1 (fun kq v6 v27 w' => ∃ (x6_2 : List ByteArray) (x27_2 : Int), v27 = .int .i64 x27_2 ∧ Aside0 (slices_Concat_string_string.l1 kq x6_2 l0 (l0.length : Int) x27_2 = some r) ∧ Aside0 (kq ≤ k1) ∧ Aside0 (Kd.R Kd.string 9 w' w.heap.size (fun _ => True) v6 x6_2) ∧ Aside0 (Below w.heap.size w w'))
       case atStart => exact ⟨(t198), (0), rs_, H', ⟨Nat.le_refl _⟩, ⟨ro_ HO200⟩, ⟨bel_s⟩⟩
       case round =>
        clear H'
        obtain ⟨x6_2, x27_2, rfl, HA, HK2, HO_6, HB⟩ := hrel
        cases gk with
        | zero => exact absurd HA.out (by simp [slices_Concat_string_string.l1])
        | succ k2 =>
         have H := HA.out; clear HA; simp only [slices_Concat_string_string.l1] at H
         by_cases c8 : x27_2 < (l0.length : Int)
         · rw [if_pos c8] at H; have c8b0 := decide_eq_true c8; clear c8
           obtain ⟨c9b0, H⟩ := ip_ H
           obtain ⟨c10b0, H⟩ := ip_ H
           by_cases c11 : x6_2.length + (rd_L5 l0 x27_2).length < 8796093022208
           · rw [if_pos c11] at H; have LMc11 := Aside0.mk c11; clear c11; obtain ⟨y202, hy202⟩ : ∃ y_ : List ByteArray, y_ = (x6_2 ++ (rd_L5 l0 x27_2)) := ⟨_, rfl⟩
             replace H : (slices_Concat_string_string.l1 k2 y202 l0 (l0.length : Int) (wrap64 (x27_2 + 1))) = some r := by first | (rw [hy202]; with_reducible exact H) | (have H2_ := (Option.bind_some _ _).symm.trans H; rw [hy202]; with_reducible exact H2_) | (have H2_ := (Option.bind_some _ _).symm.trans H; with_reducible exact H2_) | with_reducible exact H | (rw [hy202]; exact H) | exact H
             have Ny202 := Aside0.mk hy202; clear hy202; have H' := Aside0.mk H; clear H
             have p201 : 0 ≤ (x27_2 : Int) := od_
             have q201 : x27_2 < (l0.length : Int) := od_
             obtain ⟨ad201, A201_0, c201_0, e201, hx201_0, hl201_0, hi201_0⟩ := at_L5 HR0.out x27_2 p201 q201; cases e201; replace hx201_0 := cl HB hx201_0; have HR201_0 := Aside0.mk hi201_0; have HC201_0 := Aside0.mk hl201_0; clear hi201_0 hl201_0; replace p201 := eq_true p201; replace q201 := eq_true q201
             go_wp2_with (first | ((with_reducible refine gate_builtin (b := .append) (xs := #[.tmp 31, .tmp 32]) rfl ?_); at_builtin; refine Kd.R_append_rows Kd.string (w0 := w) w.heap.size rfl (.tmp 31) (.tmp 32) 37 9 (.string ⟨#[]⟩) 16 rfl Tryz.underlying37 info9 rfl (by decide) (by omega) u6 x6_2 (rd_L5 l0 x27_2) _ _ _ (fun _ => True) (fun _ => False) rfl rfl ?aO ?aR (fun _ _ h => h) (fun _ h => h.elim) ?aF ?aB ?aS ?aL ?_; (case aR => exact cb_s (Kd.C_below HR201_0.out HB.out)); (case aB => exact bel_s); (case aF => exact (fun _ _ => trivial)); (case aO => exact (by (with_reducible repeat (first | apply Kd.R_alloc | apply Kd.R_drewN | apply Kd.R_drew)); exact HO_6.out)); (case aS => exact bz_s); (case aL => have := LMc11.out; omega); intro v203 wxdf1e1 ho hb hg hat; rw [← Ny202.out] at ho; replace HB := Aside0.mk (hb); have HO204 := Aside0.mk (ho); clear HO_6; clear ho hb hg hat))
             go_roundg k2
             case measure => have := HK1.out; have := HK2.out; omega
             case rel => exact ⟨(y202), (wrap64 (x27_2 + 1)), rs_, H', ⟨by have := HK1.out; have := HK2.out; omega⟩, ⟨ro_ HO204⟩, ⟨bel_s⟩⟩
           · rw [if_neg c11] at H; exact absurd H (by simp)
         · rw [if_neg c8] at H; have c8b0 := decide_eq_false c8; clear c8; obtain rfl := Option.some.inj H; go_wp2; go_ret
           exact ⟨_, er_, by (with_reducible repeat (first | apply Kd.R_alloc | apply Kd.R_drewN | apply Kd.R_drew)); exact HO_6.out, bel_s⟩
def route_Expand_1.p (s : ByteArray) (x : S84) : Bool := decide (x.f0 = s)
theorem route_Expand_1.pred {s : ByteArray} {b : Nat} {w : World} (hb : w.heap[b]? = some (.cells #[.string s] 9 (0, 0))) : IdxF.Pred Tryz.prog k84 true (.func (.func 38) #[] #[.pointer (some ⟨b, 0, none⟩)]) (route_Expand_1.p s) w := by
  refine ⟨38, _, rfl, enters_of Tryz.func38 (by kernel_rfl) rfl, fun W x cs hW hK => ?_⟩; obtain rfl := k84_open hK; have hbW := blk_below hb hW; have hc : W.cell? ⟨b, 0, none⟩ = some (.string s) := (blk_cell hbW 0).trans rfl; have hlt := blk_lt hbW; clear hb hbW hW; unfold route_Expand_1.p; change Calls Tryz.prog 38 #[.agg #[.string x.f0, .int .i64 x.f1.f0, .int .i64 x.f1.f1], .pointer (some ⟨b, 0, none⟩)] W _; generalize x.f0 = x0; go_enter Tryz.func38, Tryz.ntmps38; go_wp2; go_ret
  exact ⟨by first | rfl | (rw [IdxF.str_eq]; rfl), below_alloc (Below.refl _ _) _⟩
end Go.Proofs.YthpbpdobghceeaaGreatDoor.PFlyWinds
