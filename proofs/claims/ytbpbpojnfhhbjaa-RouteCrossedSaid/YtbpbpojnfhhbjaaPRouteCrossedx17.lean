/- Made by a program of this session (wip/tools/myprint.py, over the kit's printer): that the Go functions answer as the Lean functions printed beside them. -/
import Derived.Test.YtbpbpojnfhhbjaaTSq2
import Derived.Test.YtbpbpojnfhhbjaaPRouteCrossedx0
import Derived.Test.YtbpbpojnfhhbjaaPRouteCrossedx2
import Derived.Test.YtbpbpojnfhhbjaaPRouteCrossedx9
import Derived.Test.YtbpbpojnfhhbjaaPRouteCrossedx13
import Derived.Test.YtbpbpojnfhhbjaaPRouteCrossedx14
import Derived.Test.YtbpbpojnfhhbjaaPRouteCrossedx15
import Derived.Test.YtbpbpojnfhhbjaaPRouteCrossedx16
namespace Go.Proofs.Ytbpbpojnfhhbjaa.PRouteCrossed
open Go.RowKit Go.Proofs.YtbpbpojnfhhbjaaW.PrintWords Go.Proofs.YtbpbpojnfhhbjaaW.PrintLast Go.Proofs.YtbpbpojnfhhbjaaW.PrintMore
attribute [local go_sem] max2_int min2_int max_two min_two max_three min_three max_four min_four   -- for this text's walks alone
set_option linter.unusedVariables false
set_option linter.unusedSimpArgs false

/-! ### route_Crossed: function 26 -/
mutual
def route_Crossed.l0 : Nat → List (S40) → List ByteArray → List (S65) → Int → Int → Option (List ByteArray × Int)
  | 0, _, _, _, _, _ => none
  | k + 1, x0, x8, x24, x25, x26 => if x26 < x25 then (if 0 ≤ x26 then (if x26 < (x24.length : Int) then (route_Crossed.l1 k x0 x8 1 x24 x25 x26 ((rd_T65 x24 x26).f0) ((rd_T65 x24 x26).f1.f0) ((rd_T65 x24 x26).f1.f1) ((rd_T65 x24 x26).f1.f2) ((rd_T65 x24 x26).f2)) else (none)) else (none)) else (some (x8, 0))
def route_Crossed.l1 : Nat → List (S40) → List ByteArray → Int → List (S65) → Int → Int → ByteArray → List (S36) → Int → Int → List (S140) → Option (List ByteArray × Int)
  | 0, _, _, _, _, _, _, _, _, _, _, _ => none
  | k + 1, x0, x8, x11, x24, x25, x26, x398000, x398001, x398002, x398003, x398004 => if x11 < (x0.length : Int) then (if 0 ≤ (wrap64 (x11 - 1)) then (if (wrap64 (x11 - 1)) < (x0.length : Int) then (if 0 ≤ x11 then ((polygon_Meets.f k x398001 ((rd_T40 x0 (wrap64 (x11 - 1))).f1.f0) ((rd_T40 x0 (wrap64 (x11 - 1))).f1.f1) ((rd_T40 x0 x11).f1.f0) ((rd_T40 x0 x11).f1.f1)).bind fun bt400 => (if bt400.1 = true then (if x8.length < 8796093022208 then (route_Crossed.l0 k x0 (x8 ++ [x398000]) x24 x25 (wrap64 (x26 + 1))) else (none)) else (route_Crossed.l1 k x0 x8 (wrap64 (x11 + 1)) x24 x25 x26 x398000 x398001 x398002 x398003 x398004))) else (none)) else (none)) else (none)) else (route_Crossed.l0 k x0 x8 x24 x25 (wrap64 (x26 + 1)))
end
def route_Crossed.f (k : Nat) (l0 : List (S40)) (l1 : List (S65)) : Option (List ByteArray × Int) := (route_checkFixes.f k l0).bind fun t394 => (if t394 = 0 then ((route_CheckVolumes.f k l1).bind fun t395 => (if t395 = 0 then (route_Crossed.l0 k l0 ([] : List ByteArray) l1 (l1.length : Int) 0) else (some (([] : List ByteArray), t395)))) else (some (([] : List ByteArray), t394)))
theorem route_Crossed.mono_l : ∀ k, (∀ y0 y1 y2 y3 y4, LeO (route_Crossed.l0 k y0 y1 y2 y3 y4) (route_Crossed.l0 (k + 1) y0 y1 y2 y3 y4)) ∧ (∀ y0 y1 y2 y3 y4 y5 y6 y7 y8 y9 y10, LeO (route_Crossed.l1 k y0 y1 y2 y3 y4 y5 y6 y7 y8 y9 y10) (route_Crossed.l1 (k + 1) y0 y1 y2 y3 y4 y5 y6 y7 y8 y9 y10))
  | 0 => ⟨fun _ _ _ _ _ r h => by simp [route_Crossed.l0] at h, fun _ _ _ _ _ _ _ _ _ _ _ r h => by simp [route_Crossed.l1] at h⟩
  | k + 1 => by
    obtain ⟨ih0, ih1⟩ := route_Crossed.mono_l k; refine ⟨?_, ?_⟩
    · intro y0 y1 y2 y3 y4; unfold route_Crossed.l0
      repeat' first
      | (with_reducible exact ih0 _ _ _ _ _)
      | (with_reducible exact ih1 _ _ _ _ _ _ _ _ _ _ _)
      | (with_reducible exact polygon_Meets.mono _ _ _ _ _ _)
      | (with_reducible exact route_CheckVolumes.mono _ _)
      | (with_reducible exact route_checkFixes.mono _ _)
      | (with_reducible exact LeO.refl _)
      | (with_reducible exact LeO.none _)
      | (with_reducible refine LeO.ite ?_ ?_)
      | (with_reducible refine LeO.bind ?_ (fun _ => ?_))
      | exact ih0 _ _ _ _ _
      | exact ih1 _ _ _ _ _ _ _ _ _ _ _
      | exact polygon_Meets.mono _ _ _ _ _ _
      | exact route_CheckVolumes.mono _ _
      | exact route_checkFixes.mono _ _
      | exact LeO.none _
      | refine LeO.ite ?_ ?_
      | refine LeO.bind ?_ (fun _ => ?_)
    · intro y0 y1 y2 y3 y4 y5 y6 y7 y8 y9 y10; unfold route_Crossed.l1
      repeat' first
      | (with_reducible exact ih0 _ _ _ _ _)
      | (with_reducible exact ih1 _ _ _ _ _ _ _ _ _ _ _)
      | (with_reducible exact polygon_Meets.mono _ _ _ _ _ _)
      | (with_reducible exact route_CheckVolumes.mono _ _)
      | (with_reducible exact route_checkFixes.mono _ _)
      | (with_reducible exact LeO.refl _)
      | (with_reducible exact LeO.none _)
      | (with_reducible refine LeO.ite ?_ ?_)
      | (with_reducible refine LeO.bind ?_ (fun _ => ?_))
      | exact ih0 _ _ _ _ _
      | exact ih1 _ _ _ _ _ _ _ _ _ _ _
      | exact polygon_Meets.mono _ _ _ _ _ _
      | exact route_CheckVolumes.mono _ _
      | exact route_checkFixes.mono _ _
      | exact LeO.none _
      | refine LeO.ite ?_ ?_
      | refine LeO.bind ?_ (fun _ => ?_)
theorem route_Crossed.mono : ∀ a0 a1 k, LeO (route_Crossed.f k a0 a1) (route_Crossed.f (k + 1) a0 a1) := by
  intro a0 a1 k; obtain ⟨ih0, ih1⟩ := route_Crossed.mono_l k; unfold route_Crossed.f
  repeat' first
      | (with_reducible exact ih0 _ _ _ _ _)
      | (with_reducible exact ih1 _ _ _ _ _ _ _ _ _ _ _)
      | (with_reducible exact polygon_Meets.mono _ _ _ _ _ _)
      | (with_reducible exact route_CheckVolumes.mono _ _)
      | (with_reducible exact route_checkFixes.mono _ _)
      | (with_reducible exact LeO.refl _)
      | (with_reducible exact LeO.none _)
      | (with_reducible refine LeO.ite ?_ ?_)
      | (with_reducible refine LeO.bind ?_ (fun _ => ?_))
      | exact ih0 _ _ _ _ _
      | exact ih1 _ _ _ _ _ _ _ _ _ _ _
      | exact polygon_Meets.mono _ _ _ _ _ _
      | exact route_CheckVolumes.mono _ _
      | exact route_checkFixes.mono _ _
      | exact LeO.none _
      | refine LeO.ite ?_ ?_
      | refine LeO.bind ?_ (fun _ => ?_)
def route_Crossed.T14 : Bool × List (List Nat × List Nat) := (true, [([], []), ([0], [0]), ([1], [1]), ([], []), ([], []), ([4], [4]), ([3, 5], [3, 5]), ([6], [6]), ([7], [7]), ([], []), ([], []), ([9, 10], [9, 10]), ([11], [11]), ([12], [12]), ([2, 8, 13], [2, 8, 13]), ([14], [14]), ([15], [15]), ([15], [15]), ([16, 14, 0, 1, 2, 3, 4, 5, 6, 7, 8, 9, 10, 11, 12, 13, 14, 15, 16], [16]), ([17, 18, 0, 1, 2, 3, 4, 5, 6, 7, 8, 9, 10, 11, 12, 13, 14, 15, 16, 17, 18], [17])])
def route_Crossed.B14 : List Nat := [0, 1, 3, 0, 0, 16, 56, 120, 248, 0, 0, 1536, 3584, 7680, 16383, 32767, 65535, 65535, 131071, 524287]
theorem route_Crossed.tab14 : rtab .any (opsOf Try.f26 14) = route_Crossed.T14 := by kernel_rfl
theorem route_Crossed.bits14 : waitsOk route_Crossed.T14.2 route_Crossed.B14 = true := by kernel_rfl
set_option maxHeartbeats 8000000 in
set_option maxRecDepth 100000 in
theorem route_Crossed.calls (k : Nat) (A0 : Option Addr) (c0 : Nat) (l0 : List (S40)) (A1 : Option Addr) (c1 : Nat) (l1 : List (S65)) (r1 : List ByteArray) (r2 : Int) (w : World) (hr0 : Kd.C k40 w A0 l0.length l0) (hc0 : l0.length ≤ c0) (hr1 : Kd.C k65 w A1 l1.length l1) (hc1 : l1.length ≤ c1) (h : route_Crossed.f k l0 l1 = some (r1, r2)) :
    Calls Try.prog 26 #[.slice A0 l0.length c0, .slice A1 l1.length c1] w fun e w' => ∃ v0_ : Value, e = .returned (.tuple #[v0_, .int .i64 r2]) ∧ Kd.R Kd.string 9 w' w.heap.size (fun _ => True) v0_ r1 ∧ Below w.heap.size w w' := by
 have hu65 := Try.underlying65; have hu36 := Try.underlying36; have HR0 := Aside0.mk hr0; have HC0 := Aside0.mk hc0; clear hr0 hc0; have HR1 := Aside0.mk hr1; have HC1 := Aside0.mk hc1; clear hr1 hc1; have HB := Aside0.mk (Below.refl w.heap.size w); have H : ((route_checkFixes.f k l0).bind fun t394 => (if t394 = 0 then ((route_CheckVolumes.f k l1).bind fun t395 => (if t395 = 0 then (route_Crossed.l0 k l0 ([] : List ByteArray) l1 (l1.length : Int) 0) else (some (([] : List ByteArray), t395)))) else (some (([] : List ByteArray), t394)))) = some (r1, r2) := h; clear h; replace H := Option.bind_eq_some_iff.mp H; obtain ⟨t394, A30, H⟩ := H; replace H : (if t394 = 0 then ((route_CheckVolumes.f k l1).bind fun t395 => (if t395 = 0 then (route_Crossed.l0 k l0 ([] : List ByteArray) l1 (l1.length : Int) 0) else (some (([] : List ByteArray), t395)))) else (some (([] : List ByteArray), t394))) = some (r1, r2) := H; have A3 := Aside0.mk A30; clear A30; refine Or.elim (Classical.em (t394 = 0)) (fun c4 => ?p2_) (fun c4 => ?n2_)
 case' p2_ =>
  rw [if_pos c4] at H; have c4b0 : (t394 == 0) = true := beq_iff_eq.mpr c4; have c4b1 : (t394 != 0) = false := bne_eq_false_iff_eq.mpr c4; clear c4; replace H := Option.bind_eq_some_iff.mp H; obtain ⟨t395, A50, H⟩ := H; replace H : (if t395 = 0 then (route_Crossed.l0 k l0 ([] : List ByteArray) l1 (l1.length : Int) 0) else (some (([] : List ByteArray), t395))) = some (r1, r2) := H; have A5 := Aside0.mk A50; clear A50; refine Or.elim (Classical.em (t395 = 0)) (fun c6 => ?p3_) (fun c6 => ?n3_)
  case' p3_ =>
   rw [if_pos c6] at H; have c6b0 : (t395 == 0) = true := beq_iff_eq.mpr c6; have c6b1 : (t395 != 0) = false := bne_eq_false_iff_eq.mpr c6; clear c6; have hm1_0 := Aside0.mk trivial
  case' n3_ =>
   rw [if_neg c6] at H; have c6b0 : (t395 == 0) = false := beq_eq_false_iff_ne.mpr c6; have c6b1 : (t395 != 0) = true := bne_iff_ne.mpr c6; simp only [Option.some.injEq, Prod.mk.injEq] at H; obtain ⟨rfl, rfl⟩ := H; have hm1_1 := Aside0.mk trivial
 case' n2_ =>
  rw [if_neg c4] at H; have c4b0 : (t394 == 0) = false := beq_eq_false_iff_ne.mpr c4; have c4b1 : (t394 != 0) = true := bne_iff_ne.mpr c4; simp only [Option.some.injEq, Prod.mk.injEq] at H; obtain ⟨rfl, rfl⟩ := H; have hm1_1 := Aside0.mk trivial
 all_goals
  first
   | clear hm1_0; have H' := Aside0.mk H; clear H; go_enter Try.func26, Try.ntmps26
     go_wp2_with (first | ((with_reducible refine gate_callee (f := 69) rfl ?_); refine goesL_ (some 15) rfl rfl Try.func69 (by kernel_rfl) rfl #[.slice A0 l0.length c0] rfl any_s ?_; (with_reducible refine (route_checkFixes.calls k _ _ l0 t394 _ ?side1 ?side2 A3.out).mono ?_); (case side1 => repeat (first | exact HR0.out | (with_reducible refine Kd.C_alloc ?_ _) | (with_reducible refine Kd.C_drewN ?_ _) | (with_reducible refine Kd.C_drew ?_))); (case side2 => exact HC0.out); rintro e wx242b1 ⟨rfl, hb⟩; refine ⟨_, rfl, ?_⟩; have n0_ := st HB hb; clear HB; have HB := n0_; clear n0_; (try clear hb); (try clear hb2); (try clear hk); (try clear hi)) | ((with_reducible refine gate_callee (f := 70) rfl ?_); refine goesL_ (some 20) rfl rfl Try.func70 (by kernel_rfl) rfl #[.slice A1 l1.length c1] rfl any_s ?_; (with_reducible refine (route_CheckVolumes.calls k _ _ l1 t395 _ ?side1 ?side2 A5.out).mono ?_); (case side1 => exact cb_s (Kd.C_below HR1.out HB.out)); (case side2 => exact HC1.out); rintro e wx76001 ⟨rfl, hb⟩; refine ⟨_, rfl, ?_⟩; have n0_ := st HB hb; clear HB; have HB := n0_; clear n0_; (try clear hb); (try clear hb2); (try clear hk); (try clear hi)))
     go_loopg [8, 26] k (fun kq v8 v26 w' => ∃ (x8_1 : List ByteArray) (x26_1 : Int), v26 = .int .i64 x26_1 ∧ Aside0 (route_Crossed.l0 kq l0 x8_1 l1 (l1.length : Int) x26_1 = some (r1, r2)) ∧ Aside0 (kq ≤ k) ∧ Aside0 (Kd.R Kd.string 9 w' w.heap.size (fun _ => True) v8 x8_1) ∧ Aside0 (Below w.heap.size w w'))
     case atStart => exact ⟨(([] : List ByteArray)), (0), (by first | rfl | (simp; done) | (simp [*]; done)), H', ⟨Nat.le_refl _⟩, ⟨by first | exact Kd.R_nil _ _ _ _ _ | exact Kd.N_nil _ _ _ _ _ | exact Kd.V_nil _ _ _ _ _ | exact Kd.Q_nil _ _ _ _ _ | exact Kd.S_nil _ _ _ _ _⟩, ⟨by repeat (first | (with_reducible first | exact HB.out | apply below_alloc | apply pw_below_drewN | apply below_drew1) | exact HB.out)⟩⟩
     case round =>
      clear H'
      (try clear c1); (try clear c2); (try clear p2); (try clear c4); (try clear c4b0); (try clear c4b1); (try clear c6); (try clear c6b0); (try clear c6b1); (try clear c7)
      obtain ⟨x8_1, x26_1, rfl, HA, HK1, HO_8, HB⟩ := hrel
      cases gk with
      | zero => exact absurd HA.out (by simp [route_Crossed.l0])
      | succ k1 =>
       have H := HA.out; clear HA; simp only [route_Crossed.l0] at H
       by_cases c9 : x26_1 < (l1.length : Int)
       · rw [if_pos c9] at H; have c9b0 : decide (x26_1 < (l1.length : Int)) = true := decide_eq_true c9; clear c9
         by_cases c10 : 0 ≤ x26_1
         · rw [if_pos c10] at H; have c10b0 : decide (0 ≤ x26_1) = true := decide_eq_true c10; clear c10
           by_cases c11 : x26_1 < (l1.length : Int)
           · rw [if_pos c11] at H; have c11b0 : decide (x26_1 < (l1.length : Int)) = true := decide_eq_true c11; clear c11; have H' := Aside0.mk H; clear H
             have p396 : 0 ≤ (x26_1 : Int) := of_decide_eq_true (by first | (with_reducible assumption) | assumption)
             have q396 : x26_1 < (l1.length : Int) := of_decide_eq_true (by first | (with_reducible assumption) | assumption)
             obtain ⟨ad396, A396_1, c396_1, A396_4, c396_4, e396, hx396_0, hx396_1, hx396_2, hx396_3, hx396_4, hl396_1, hi396_1, hl396_4, hi396_4⟩ := at_T65 HR1.out x26_1 p396 q396; cases e396; replace hx396_0 := cl HB hx396_0; replace hx396_1 := cl HB hx396_1; replace hx396_2 := cl HB hx396_2; replace hx396_3 := cl HB hx396_3; replace hx396_4 := cl HB hx396_4; have HR396_1 := Aside0.mk hi396_1; have HC396_1 := Aside0.mk hl396_1; clear hi396_1 hl396_1; have HR396_4 := Aside0.mk hi396_4; have HC396_4 := Aside0.mk hl396_4; clear hi396_4 hl396_4; replace p396 := eq_true p396; replace q396 := eq_true q396
             go_wp2_with (first | ((with_reducible refine gate_dst (N := 10) rfl ?_); refine box_s #[.string (⟨#[]⟩ : ByteArray), .slice none 0 0, .int .i64 0, .int .i64 0, .slice none 0 0] 65 ?_; intro gb397 hg wx5afa1 hbox hb; have n0_ := Aside0.mk (Kd.R_below (by (with_reducible repeat (first | apply Kd.R_alloc | apply Kd.R_drewN | apply Kd.R_drew)); exact HO_8.out) hb); have n1_ := st HB hb; have n2_ := Aside0.mk (hbox); have n3_ := ge HB hg; have n4_ := ge HB hg; clear HO_8; clear HB; have HO_8 := n0_; have HB := n1_; have BK397 := n2_; have GW397 := n3_; have GE397 := n4_; clear n0_ n1_ n2_ n3_ n4_; clear hb hbox hg; have hczx5afa1 : wx5afa1.cell? ⟨gb397, 0, none⟩ = some (.string (⟨#[]⟩ : ByteArray)) := bc BK397 0; have hczx5afa2 : wx5afa1.cell? ⟨gb397, 1, none⟩ = some (.slice none 0 0) := bc BK397 1; have hczx5afa3 : wx5afa1.cell? ⟨gb397, 2, none⟩ = some (.int .i64 0) := bc BK397 2; have hczx5afa4 : wx5afa1.cell? ⟨gb397, 3, none⟩ = some (.int .i64 0) := bc BK397 3; have hczx5afa5 : wx5afa1.cell? ⟨gb397, 4, none⟩ = some (.slice none 0 0) := bc BK397 4; have hfzx5afa1 := blk_frozen BK397.out 0; have hfzx5afa2 := blk_frozen BK397.out 1; have hfzx5afa3 := blk_frozen BK397.out 2; have hfzx5afa4 := blk_frozen BK397.out 3; have hfzx5afa5 := blk_frozen BK397.out 4))
             go_loopg [8, 11] k1 (fun kq v8 v11 w' => ∃ (x8_2 : List ByteArray) (x11_2 : Int), v11 = .int .i64 x11_2 ∧ Aside0 (route_Crossed.l1 kq l0 x8_2 x11_2 l1 (l1.length : Int) x26_1 ((rd_T65 l1 x26_1).f0) ((rd_T65 l1 x26_1).f1.f0) ((rd_T65 l1 x26_1).f1.f1) ((rd_T65 l1 x26_1).f1.f2) ((rd_T65 l1 x26_1).f2) = some (r1, r2)) ∧ Aside0 (kq ≤ k1) ∧ Aside0 (Kd.R Kd.string 9 w' w.heap.size (fun _ => True) v8 x8_2) ∧ Aside0 (w'.heap[gb397]? = some (.cells #[.string ((rd_T65 l1 x26_1).f0), (.slice A396_1 ((rd_T65 l1 x26_1).f1.f0).length c396_1), .int .i64 ((rd_T65 l1 x26_1).f1.f1), .int .i64 ((rd_T65 l1 x26_1).f1.f2), (.slice A396_4 ((rd_T65 l1 x26_1).f2).length c396_4)] 65 (0, 0))) ∧ Aside0 (Below w.heap.size w w'))
             case atStart => exact ⟨(x8_1), (1), (by first | rfl | (simp; done) | (simp [*]; done)), H', ⟨Nat.le_refl _⟩, ⟨by (with_reducible repeat (first | apply Kd.R_alloc | apply Kd.R_drewN | apply Kd.R_drew)); exact Kd.R_mono (Kd.R_far (p := ⟨gb397, 4, none⟩) (Kd.R_far (p := ⟨gb397, 3, none⟩) (Kd.R_far (p := ⟨gb397, 2, none⟩) (Kd.R_far (p := ⟨gb397, 1, none⟩) (Kd.R_far (p := ⟨gb397, 0, none⟩) (Kd.R_types HO_8.out BK397.out (by decide)) (fun _ hk => hk.2) (.string ((rd_T65 l1 x26_1).f0))) (fun _ hk => hk.2) (.slice A396_1 ((rd_T65 l1 x26_1).f1.f0).length c396_1)) (fun _ hk => hk.2) (.int .i64 ((rd_T65 l1 x26_1).f1.f1))) (fun _ hk => hk.2) (.int .i64 ((rd_T65 l1 x26_1).f1.f2))) (fun _ hk => hk.2) (.slice A396_4 ((rd_T65 l1 x26_1).f2).length c396_4)) (fun _ hk => trivial)⟩, ⟨by (with_reducible repeat (first | refine blk_drewN ?_ _ | refine blk_drew ?_ | refine blk_alloc ?_ _)); refine blk_put (cs := #[.string ((rd_T65 l1 x26_1).f0), .slice A396_1 ((rd_T65 l1 x26_1).f1.f0).length c396_1, .int .i64 ((rd_T65 l1 x26_1).f1.f1), .int .i64 ((rd_T65 l1 x26_1).f1.f2), .slice none 0 0]) ?_ 4 _ rfl; (with_reducible repeat (first | refine blk_drewN ?_ _ | refine blk_drew ?_ | refine blk_alloc ?_ _)); refine blk_put (cs := #[.string ((rd_T65 l1 x26_1).f0), .slice A396_1 ((rd_T65 l1 x26_1).f1.f0).length c396_1, .int .i64 ((rd_T65 l1 x26_1).f1.f1), .int .i64 0, .slice none 0 0]) ?_ 3 _ rfl; (with_reducible repeat (first | refine blk_drewN ?_ _ | refine blk_drew ?_ | refine blk_alloc ?_ _)); refine blk_put (cs := #[.string ((rd_T65 l1 x26_1).f0), .slice A396_1 ((rd_T65 l1 x26_1).f1.f0).length c396_1, .int .i64 0, .int .i64 0, .slice none 0 0]) ?_ 2 _ rfl; (with_reducible repeat (first | refine blk_drewN ?_ _ | refine blk_drew ?_ | refine blk_alloc ?_ _)); refine blk_put (cs := #[.string ((rd_T65 l1 x26_1).f0), .slice none 0 0, .int .i64 0, .int .i64 0, .slice none 0 0]) ?_ 1 _ rfl; (with_reducible repeat (first | refine blk_drewN ?_ _ | refine blk_drew ?_ | refine blk_alloc ?_ _)); refine blk_put (cs := #[.string (⟨#[]⟩ : ByteArray), .slice none 0 0, .int .i64 0, .int .i64 0, .slice none 0 0]) ?_ 0 _ rfl; (with_reducible repeat (first | refine blk_drewN ?_ _ | refine blk_drew ?_ | refine blk_alloc ?_ _)); exact BK397.out⟩, ⟨by repeat (first | (with_reducible first | exact HB.out | apply below_alloc | apply pw_below_drewN | apply below_drew1 | refine below_set ?_ GE397.out) | exact HB.out)⟩⟩
             case round =>
              clear H'
              (try clear c1); (try clear c2); (try clear p2); (try clear c3); (try clear p3); (try clear q3); (try clear hx3); (try clear c4); (try clear c4b0); (try clear c4b1); (try clear c6); (try clear c6b0); (try clear c6b1); (try clear c7); (try clear c9); (try clear c9b0); (try clear c10); (try clear c10b0); (try clear c11); (try clear c11b0); (try clear hczx5afa1); (try clear hczx5afa2); (try clear hczx5afa3); (try clear hczx5afa4); (try clear hczx5afa5); (try clear hfzx5afa1); (try clear hfzx5afa2); (try clear hfzx5afa3); (try clear hfzx5afa4); (try clear hfzx5afa5); (try clear hx396_0); (try clear hx396_1); (try clear hx396_2); (try clear hx396_3); (try clear hx396_4); (try clear p2); (try clear p396); (try clear q396)
              obtain ⟨x8_2, x11_2, rfl, HA, HK2, HO_8, BK397, HB⟩ := hrel
              cases gk with
              | zero => exact absurd HA.out (by simp [route_Crossed.l1])
              | succ k2 =>
               have H := HA.out; clear HA; simp only [route_Crossed.l1] at H; refine Or.elim (Classical.em (x11_2 < (l0.length : Int))) (fun c14 => ?p5_) (fun c14 => ?n5_)
               case' p5_ =>
                rw [if_pos c14] at H; have c14b0 : decide (x11_2 < (l0.length : Int)) = true := decide_eq_true c14; clear c14; obtain ⟨ji15, hji15⟩ : ∃ j_ : Int, (wrap64 (x11_2 - 1)) = j_ := ⟨_, rfl⟩
                replace H : (if 0 ≤ (ji15) then (if (ji15) < (l0.length : Int) then (if 0 ≤ x11_2 then ((polygon_Meets.f k2 ((rd_T65 l1 x26_1).f1.f0) ((rd_T40 l0 (ji15)).f1.f0) ((rd_T40 l0 (ji15)).f1.f1) ((rd_T40 l0 x11_2).f1.f0) ((rd_T40 l0 x11_2).f1.f1)).bind fun bt400 => (if bt400.1 = true then (if x8_2.length < 8796093022208 then (route_Crossed.l0 k2 l0 (x8_2 ++ [((rd_T65 l1 x26_1).f0)]) l1 (l1.length : Int) (wrap64 (x26_1 + 1))) else (none)) else (route_Crossed.l1 k2 l0 x8_2 (wrap64 (x11_2 + 1)) l1 (l1.length : Int) x26_1 ((rd_T65 l1 x26_1).f0) ((rd_T65 l1 x26_1).f1.f0) ((rd_T65 l1 x26_1).f1.f1) ((rd_T65 l1 x26_1).f1.f2) ((rd_T65 l1 x26_1).f2)))) else (none)) else (none)) else (none)) = some (r1, r2) := by first | (rw [hji15] at H; exact H) | (simp only [hji15] at H ⊢; exact H)
                have hji15w : (IntKind.i64.wrap (x11_2 - 1)) = ji15 := (i64_w _).trans hji15; refine Or.elim (Classical.em (0 ≤ (ji15))) (fun c16 => ?p6_) (fun c16 => ?n6_)
                case' p6_ =>
                 rw [if_pos c16] at H; have c16b0 : decide (0 ≤ (ji15)) = true := decide_eq_true c16; clear c16; refine Or.elim (Classical.em ((ji15) < (l0.length : Int))) (fun c17 => ?p7_) (fun c17 => ?n7_)
                 case' p7_ =>
                  rw [if_pos c17] at H; have c17b0 : decide ((ji15) < (l0.length : Int)) = true := decide_eq_true c17; clear c17; refine Or.elim (Classical.em (0 ≤ x11_2)) (fun c18 => ?p8_) (fun c18 => ?n8_)
                  case' p8_ =>
                   rw [if_pos c18] at H; have c18b0 : decide (0 ≤ x11_2) = true := decide_eq_true c18; clear c18; replace H := Option.bind_eq_some_iff.mp H; obtain ⟨⟨t400, t401⟩, A190, H⟩ := H; replace H : (if t400 = true then (if x8_2.length < 8796093022208 then (route_Crossed.l0 k2 l0 (x8_2 ++ [((rd_T65 l1 x26_1).f0)]) l1 (l1.length : Int) (wrap64 (x26_1 + 1))) else (none)) else (route_Crossed.l1 k2 l0 x8_2 (wrap64 (x11_2 + 1)) l1 (l1.length : Int) x26_1 ((rd_T65 l1 x26_1).f0) ((rd_T65 l1 x26_1).f1.f0) ((rd_T65 l1 x26_1).f1.f1) ((rd_T65 l1 x26_1).f1.f2) ((rd_T65 l1 x26_1).f2))) = some (r1, r2) := H; have A19 := Aside0.mk A190; clear A190; refine Or.elim (Classical.em (t400 = true)) (fun c20 => ?p9_) (fun c20 => ?n9_)
                   case' p9_ =>
                    subst c20
                    have H1 : (if x8_2.length < 8796093022208 then (route_Crossed.l0 k2 l0 (x8_2 ++ [((rd_T65 l1 x26_1).f0)]) l1 (l1.length : Int) (wrap64 (x26_1 + 1))) else (none)) = some (r1, r2) := by rw [if_pos rfl] at H; exact H
                    clear H; have H := H1; clear H1; refine Or.elim (Classical.em (x8_2.length < 8796093022208)) (fun c21 => ?p10_) (fun c21 => ?n10_)
                    case' p10_ =>
                     rw [if_pos c21] at H; have LMc21 := Aside0.mk c21; clear c21; obtain ⟨y402, hy402⟩ : ∃ y_ : List ByteArray, y_ = (x8_2 ++ [((rd_T65 l1 x26_1).f0)]) := ⟨_, rfl⟩
                     replace H : (route_Crossed.l0 k2 l0 y402 l1 (l1.length : Int) (wrap64 (x26_1 + 1))) = some (r1, r2) := by first | (rw [hy402]; with_reducible exact H) | (have H2_ := (Option.bind_some _ _).symm.trans H; rw [hy402]; with_reducible exact H2_) | (have H2_ := (Option.bind_some _ _).symm.trans H; with_reducible exact H2_) | with_reducible exact H | (rw [hy402]; exact H) | exact H
                     have Ny402 := Aside0.mk hy402; clear hy402; have hm4_0 := Aside0.mk trivial
                    case' n10_ =>
                     rw [if_neg c21] at H; exact absurd H (by simp)
                   case' n9_ =>
                    replace c20 := Bool.eq_false_iff.mpr c20; subst c20
                    have H1 : (route_Crossed.l1 k2 l0 x8_2 (wrap64 (x11_2 + 1)) l1 (l1.length : Int) x26_1 ((rd_T65 l1 x26_1).f0) ((rd_T65 l1 x26_1).f1.f0) ((rd_T65 l1 x26_1).f1.f1) ((rd_T65 l1 x26_1).f1.f2) ((rd_T65 l1 x26_1).f2)) = some (r1, r2) := by rw [if_neg (show ¬ (false = true) by decide)] at H; exact H
                    clear H; have H := H1; clear H1; have hm4_1 := Aside0.mk trivial
                  case' n8_ =>
                   rw [if_neg c18] at H; exact absurd H (by simp)
                 case' n7_ =>
                  rw [if_neg c17] at H; exact absurd H (by simp)
                case' n6_ =>
                 rw [if_neg c16] at H; exact absurd H (by simp)
               case' n5_ =>
                rw [if_neg c14] at H; have c14b0 : decide (x11_2 < (l0.length : Int)) = false := decide_eq_false c14; clear c14; have hm4_2 := Aside0.mk trivial
               all_goals
                have H' := Aside0.mk H; clear H
                first
                 | (first | (have _hm := hm4_0) | (have _hm := hm4_1))
                   try go_wp2
                   have n0_ := Aside0.mk (Kd.R_drew HO_8.out); have n1_ := Aside0.mk (blk_drew BK397.out); have n2_ := Aside0.mk (below_drew1 HB.out); clear HO_8; clear BK397; clear HB; have HO_8 := n0_; have BK397 := n1_; have HB := n2_; clear n0_ n1_ n2_
                   have p398 : 0 ≤ ((ji15) : Int) := of_decide_eq_true (by first | (with_reducible assumption) | assumption)
                   have q398 : (ji15) < (l0.length : Int) := of_decide_eq_true (by first | (with_reducible assumption) | assumption)
                   obtain ⟨ad398, e398, hx398_0, hx398_1, hx398_2⟩ := at_T40 HR0.out (ji15) p398 q398; have hw398_2 := hx398_2; have hw398_1 := hx398_1; have hw398_0 := hx398_0; cases e398; replace hx398_0 := cl HB hx398_0; replace hx398_1 := cl HB hx398_1; replace hx398_2 := cl HB hx398_2; replace p398 := eq_true p398; replace q398 := eq_true q398
                   have p399 : 0 ≤ (x11_2 : Int) := of_decide_eq_true (by first | (with_reducible assumption) | assumption)
                   have q399 : x11_2 < (l0.length : Int) := of_decide_eq_true (by first | (with_reducible assumption) | assumption)
                   obtain ⟨ad399, e399, hx399_0, hx399_1, hx399_2⟩ := at_T40 HR0.out x11_2 p399 q399; have hw399_2 := hx399_2; have hw399_1 := hx399_1; have hw399_0 := hx399_0; obtain rfl : ad398 = ad399 := (by injection e399); replace hx399_0 := cl HB hx399_0; replace hx399_1 := cl HB hx399_1; replace hx399_2 := cl HB hx399_2; replace p399 := eq_true p399; replace q399 := eq_true q399; refine start_ (n := 20) (S := fun w' => w'.cell? ⟨gb397, 0, none⟩ = some (.string ((rd_T65 l1 x26_1).f0)) ∧ w'.cell? ⟨gb397, 1, none⟩ = some (.slice A396_1 ((rd_T65 l1 x26_1).f1.f0).length c396_1) ∧ w'.cell? ⟨gb397, 2, none⟩ = some (.int .i64 ((rd_T65 l1 x26_1).f1.f1)) ∧ w'.cell? ⟨gb397, 3, none⟩ = some (.int .i64 ((rd_T65 l1 x26_1).f1.f2)) ∧ w'.cell? ⟨gb397, 4, none⟩ = some (.slice A396_4 ((rd_T65 l1 x26_1).f2).length c396_4) ∧ w'.cell? (ad398.add (((ji15)).toNat * 3)) = some (.string ((rd_T40 l0 (ji15)).f0)) ∧ w'.cell? ⟨(ad398.add (((ji15)).toNat * 3)).block, (ad398.add (((ji15)).toNat * 3)).off + 1, none⟩ = some (.int .i64 ((rd_T40 l0 (ji15)).f1.f0)) ∧ w'.cell? ⟨(ad398.add (((ji15)).toNat * 3)).block, (ad398.add (((ji15)).toNat * 3)).off + 2, none⟩ = some (.int .i64 ((rd_T40 l0 (ji15)).f1.f1)) ∧ w'.cell? (ad398.add ((x11_2).toNat * 3)) = some (.string ((rd_T40 l0 x11_2).f0)) ∧ w'.cell? ⟨(ad398.add ((x11_2).toNat * 3)).block, (ad398.add ((x11_2).toNat * 3)).off + 1, none⟩ = some (.int .i64 ((rd_T40 l0 x11_2).f1.f0)) ∧ w'.cell? ⟨(ad398.add ((x11_2).toNat * 3)).block, (ad398.add ((x11_2).toNat * 3)).off + 2, none⟩ = some (.int .i64 ((rd_T40 l0 x11_2).f1.f1))) (ds := []) #[false, false, false, false, false, false, false, false, false, false, false, false, false, false, false, false, false, false, false, false] (by kernel_rfl) rfl rfl ⟨bc BK397 0, bc BK397 1, bc BK397 2, bc BK397 3, bc BK397 4, (cl HB hw398_0), (cl HB hw398_1), (cl HB hw398_2), (cl HB hw399_0), (cl HB hw399_1), (cl HB hw399_2)⟩ (fun hHeld => ?_); refine with_tabW route_Crossed.tab14 route_Crossed.bits14 (fun HT_ HW_ => ?_); generalize wr.drew = wze1 at HO_8 BK397 HB hx398_0 hx398_1 hx398_2 hx399_0 hx399_1 hx399_2 hHeld ⊢; refine pu_ 0 37 HT_ (h := ?_); refine pu_ 1 38 HT_ (h := ?_); refine pu_ 3 40 HT_ (h := ?_); refine pu_ 4 41 HT_ (h := ?_); refine pu_ 5 42 HT_ (h := ?_); refine pu_ 6 43 HT_ (h := ?_); refine pu_ 7 44 HT_ (h := ?_); refine pu_ 9 46 HT_ (h := ?_); refine pu_ 10 47 HT_ (h := ?_); refine pu_ 11 48 HT_ (h := ?_); refine pu_ 12 49 HT_ (h := ?_); refine tk_ 2 39 HT_ HW_ hHeld (h := ?_); refine tk_ 8 45 HT_ HW_ hHeld (h := ?_); refine tk_ 13 50 HT_ HW_ hHeld (h := ?_); refine one_ (i := 14) (N := some 51) #[true, true, true, true, true, true, true, true, true, true, true, true, true, true, true, false, false, false, false, false] rfl rfl (one_of HT_.out (by kernel_rfl)) (by decide) (fun K hK => ?_)
                   refine goes_ Try.func71 (by kernel_rfl) rfl #[.slice A396_1 ((rd_T65 l1 x26_1).f1.f0).length c396_1, .agg #[.int .i64 ((rd_T40 l0 (ji15)).f1.f0), .int .i64 ((rd_T40 l0 (ji15)).f1.f1)], .agg #[.int .i64 ((rd_T40 l0 x11_2).f1.f0), .int .i64 ((rd_T40 l0 x11_2).f1.f1)]] (by rfl) rfl rfl (by (try simp only [List.map_toArray, List.map_cons, List.map_nil]); first | done | (simp only [hji15]; rfl) | rfl | (simp only [List.length_drop, List.length_take]; rfl)) ?_
                   first
                    | clear hm4_0; with_reducible refine (polygon_Meets.calls k2 _ _ ((rd_T65 l1 x26_1).f1.f0) ((rd_T40 l0 (ji15)).f1.f0) ((rd_T40 l0 (ji15)).f1.f1) ((rd_T40 l0 x11_2).f1.f0) ((rd_T40 l0 x11_2).f1.f1) true t401 _ ?side1 ?side2 A19.out).mono ?_
                      (case side1 => exact cb_s (Kd.C_below HR396_1.out HB.out))
                      (case side2 => exact HC396_1.out)
                      rintro e wze2 ⟨rfl, hb⟩; refine ⟨_, rfl, ?_⟩; have n0_ := Aside0.mk (Kd.R_below (by (with_reducible repeat (first | apply Kd.R_alloc | apply Kd.R_drewN | apply Kd.R_drew)); exact HO_8.out) hb); have n1_ := kp BK397 hb; have n2_ := st HB hb; clear HO_8; clear BK397; clear HB; have HO_8 := n0_; have BK397 := n1_; have HB := n2_; clear n0_ n1_ n2_
                      (try clear hb)
                      (try clear hb2)
                      (try clear hk)
                      (try clear hi)
                      refine hK.out _ _ ⟨bc BK397 0, bc BK397 1, bc BK397 2, bc BK397 3, bc BK397 4, (cl HB hw398_0), (cl HB hw398_1), (cl HB hw398_2), (cl HB hw399_0), (cl HB hw399_1), (cl HB hw399_2)⟩ (fun hHeld => ?_); clear hK K; refine norm_ (a' := ?_) ?_ ?_; rotate_left
                      · show Act.put _ (some 51) _ = _; simp only [Act.put, List.setIfInBounds_toArray, List.set_cons_zero, List.set_cons_succ, i64_w, i32_w]; rfl
                      refine pu_ 15 36 HT_ (h := ?_); refine pu_ 16 52 HT_ (h := ?_); refine pu_ 17 53 HT_ (h := ?_); refine pu_ 18 12 HT_ (h := ?_); refine pu_ 19 13 HT_ (h := ?_); refine done_ (done_of HT_.out (by kernel_rfl)) ?_; have hczze1 : wze2.cell? ⟨gb397, 0, none⟩ = some (.string ((rd_T65 l1 x26_1).f0)) := bc BK397 0; have hczze2 : wze2.cell? ⟨gb397, 1, none⟩ = some (.slice A396_1 ((rd_T65 l1 x26_1).f1.f0).length c396_1) := bc BK397 1; have hczze3 : wze2.cell? ⟨gb397, 2, none⟩ = some (.int .i64 ((rd_T65 l1 x26_1).f1.f1)) := bc BK397 2; have hczze4 : wze2.cell? ⟨gb397, 3, none⟩ = some (.int .i64 ((rd_T65 l1 x26_1).f1.f2)) := bc BK397 3; have hczze5 : wze2.cell? ⟨gb397, 4, none⟩ = some (.slice A396_4 ((rd_T65 l1 x26_1).f2).length c396_4) := bc BK397 4; have hfzze1 := blk_frozen BK397.out 0; have hfzze2 := blk_frozen BK397.out 1; have hfzze3 := blk_frozen BK397.out 2; have hfzze4 := blk_frozen BK397.out 3; have hfzze5 := blk_frozen BK397.out 4
                      try go_wp2_with (first | ((with_reducible refine gate_builtin (b := .append) (xs := #[.tmp 55, .tmp 58]) rfl ?_); at_builtin; refine Kd.R_append Kd.string (w0 := w) w.heap.size rfl (.tmp 55) (.tmp 58) 27 9 (.string ⟨#[]⟩) 16 rfl Try.underlying27 info9 rfl (by decide) (by omega) u8 x8_2 ((rd_T65 l1 x26_1).f0) [.string ((rd_T65 l1 x26_1).f0)] (fun _ => True) (fun _ => False) rfl rfl ?aP (fun _ hk => hk.elim) ?aF ?aO ?aB ?aS ?aL ?_; (case aP => exact rfl); (case aB => exact bel_s); (case aF => exact (fun _ _ => trivial)); (case aO => exact (by (with_reducible repeat (first | apply Kd.R_alloc | apply Kd.R_drewN | apply Kd.R_drew)); exact HO_8.out)); (case aS => exact bz_s); (case aL => have := LMc21.out; omega); intro v403 wx2dab1 ho hb hg hat; rw [← Ny402.out] at ho; have n0_ := Aside0.mk (blk_grown (g := gb397) (o := .cells #[.string ((rd_T65 l1 x26_1).f0), .slice A396_1 ((rd_T65 l1 x26_1).f1.f0).length c396_1, .int .i64 ((rd_T65 l1 x26_1).f1.f1), .int .i64 ((rd_T65 l1 x26_1).f1.f2), .slice A396_4 ((rd_T65 l1 x26_1).f2).length c396_4] 65 (0, 0)) blk_s hg (Kd.R_ne HO_8.out BK397.out (by decide))); have n1_ := Aside0.mk (hb); have n2_ := Aside0.mk (ho); clear BK397; clear HB; clear HO_8; have BK397 := n0_; have HB := n1_; have HO404 := n2_; clear n0_ n1_ n2_; clear ho hb hg hat))
                      first | go_roundg k2 | (subst hji15; go_roundg k2)
                      case measure => have := HK1.out; have := HK2.out; omega
                      case rel => exact ⟨(y402), (wrap64 (x26_1 + 1)), (by first | rfl | (simp; done) | (simp [*]; done)), H', ⟨by have := HK1.out; have := HK2.out; omega⟩, ⟨by (with_reducible repeat (first | apply Kd.R_alloc | apply Kd.R_drewN | apply Kd.R_drew)); exact HO404.out⟩, ⟨by repeat (first | (with_reducible first | exact HB.out | apply below_alloc | apply pw_below_drewN | apply below_drew1 | refine below_set ?_ GE397.out) | exact HB.out)⟩⟩
                    | clear hm4_1; with_reducible refine (polygon_Meets.calls k2 _ _ ((rd_T65 l1 x26_1).f1.f0) ((rd_T40 l0 (ji15)).f1.f0) ((rd_T40 l0 (ji15)).f1.f1) ((rd_T40 l0 x11_2).f1.f0) ((rd_T40 l0 x11_2).f1.f1) false t401 _ ?side1 ?side2 A19.out).mono ?_
                      (case side1 => exact cb_s (Kd.C_below HR396_1.out HB.out))
                      (case side2 => exact HC396_1.out)
                      rintro e wze2 ⟨rfl, hb⟩; refine ⟨_, rfl, ?_⟩; have n0_ := Aside0.mk (Kd.R_below (by (with_reducible repeat (first | apply Kd.R_alloc | apply Kd.R_drewN | apply Kd.R_drew)); exact HO_8.out) hb); have n1_ := kp BK397 hb; have n2_ := st HB hb; clear HO_8; clear BK397; clear HB; have HO_8 := n0_; have BK397 := n1_; have HB := n2_; clear n0_ n1_ n2_
                      (try clear hb)
                      (try clear hb2)
                      (try clear hk)
                      (try clear hi)
                      refine hK.out _ _ ⟨bc BK397 0, bc BK397 1, bc BK397 2, bc BK397 3, bc BK397 4, (cl HB hw398_0), (cl HB hw398_1), (cl HB hw398_2), (cl HB hw399_0), (cl HB hw399_1), (cl HB hw399_2)⟩ (fun hHeld => ?_); clear hK K; refine norm_ (a' := ?_) ?_ ?_; rotate_left
                      · show Act.put _ (some 51) _ = _; simp only [Act.put, List.setIfInBounds_toArray, List.set_cons_zero, List.set_cons_succ, i64_w, i32_w]; rfl
                      refine pu_ 15 36 HT_ (h := ?_); refine pu_ 16 52 HT_ (h := ?_); refine pu_ 17 53 HT_ (h := ?_); refine pu_ 18 12 HT_ (h := ?_); refine pu_ 19 13 HT_ (h := ?_); refine done_ (done_of HT_.out (by kernel_rfl)) ?_
                      try go_wp2
                      first | go_roundg k2 | (subst hji15; go_roundg k2)
                      case measure => have := HK1.out; have := HK2.out; omega
                      case rel => exact ⟨(x8_2), (wrap64 (x11_2 + 1)), (by first | rfl | (simp; done) | (simp [*]; done)), H', ⟨by have := HK1.out; have := HK2.out; omega⟩, ⟨by (with_reducible repeat (first | apply Kd.R_alloc | apply Kd.R_drewN | apply Kd.R_drew)); exact HO_8.out⟩, ⟨by (with_reducible repeat (first | refine blk_drewN ?_ _ | refine blk_drew ?_ | refine blk_alloc ?_ _)); exact BK397.out⟩, ⟨by repeat (first | (with_reducible first | exact HB.out | apply below_alloc | apply pw_below_drewN | apply below_drew1 | refine below_set ?_ GE397.out) | exact HB.out)⟩⟩
                 | clear hm4_2; go_wp2; go_roundg k2
                   case measure => have := HK1.out; have := HK2.out; omega
                   case rel => exact ⟨(x8_2), (wrap64 (x26_1 + 1)), (by first | rfl | (simp; done) | (simp [*]; done)), H', ⟨by have := HK1.out; have := HK2.out; omega⟩, ⟨by (with_reducible repeat (first | apply Kd.R_alloc | apply Kd.R_drewN | apply Kd.R_drew)); exact HO_8.out⟩, ⟨by repeat (first | (with_reducible first | exact HB.out | apply below_alloc | apply pw_below_drewN | apply below_drew1 | refine below_set ?_ GE397.out) | exact HB.out)⟩⟩
           · rw [if_neg c11] at H; exact absurd H (by simp)
         · rw [if_neg c10] at H; exact absurd H (by simp)
       · rw [if_neg c9] at H; have c9b0 : decide (x26_1 < (l1.length : Int)) = false := decide_eq_false c9; clear c9; simp only [Option.some.injEq, Prod.mk.injEq] at H; obtain ⟨rfl, rfl⟩ := H; go_wp2; go_ret2
         exact ⟨_, by first | rfl | (simp [errW_none, errW_some] <;> rfl) | (simp [*, errW_none, errW_some] <;> rfl), by (with_reducible repeat (first | apply Kd.R_alloc | apply Kd.R_drewN | apply Kd.R_drew)); exact HO_8.out, by repeat (first | (with_reducible first | exact HB.out | apply below_alloc | apply pw_below_drewN | apply below_drew1) | exact HB.out)⟩
   | clear hm1_1; go_enter Try.func26, Try.ntmps26
     go_wp2_with (first | ((with_reducible refine gate_callee (f := 69) rfl ?_); refine goesL_ (some 15) rfl rfl Try.func69 (by kernel_rfl) rfl #[.slice A0 l0.length c0] rfl any_s ?_; (with_reducible refine (route_checkFixes.calls k _ _ l0 t394 _ ?side1 ?side2 A3.out).mono ?_); (case side1 => repeat (first | exact HR0.out | (with_reducible refine Kd.C_alloc ?_ _) | (with_reducible refine Kd.C_drewN ?_ _) | (with_reducible refine Kd.C_drew ?_))); (case side2 => exact HC0.out); rintro e wx242b1 ⟨rfl, hb⟩; refine ⟨_, rfl, ?_⟩; have n0_ := st HB hb; clear HB; have HB := n0_; clear n0_; (try clear hb); (try clear hb2); (try clear hk); (try clear hi)) | ((with_reducible refine gate_callee (f := 70) rfl ?_); refine goesL_ (some 20) rfl rfl Try.func70 (by kernel_rfl) rfl #[.slice A1 l1.length c1] rfl any_s ?_; (with_reducible refine (route_CheckVolumes.calls k _ _ l1 t395 _ ?side1 ?side2 A5.out).mono ?_); (case side1 => exact cb_s (Kd.C_below HR1.out HB.out)); (case side2 => exact HC1.out); rintro e wx76001 ⟨rfl, hb⟩; refine ⟨_, rfl, ?_⟩; have n0_ := st HB hb; clear HB; have HB := n0_; clear n0_; (try clear hb); (try clear hb2); (try clear hk); (try clear hi)))
     go_ret2
     exact ⟨_, by first | rfl | (simp [errW_none, errW_some] <;> rfl) | (simp [*, errW_none, errW_some] <;> rfl), by first | exact Kd.R_nil _ _ _ _ _ | exact Kd.N_nil _ _ _ _ _ | exact Kd.V_nil _ _ _ _ _ | exact Kd.Q_nil _ _ _ _ _ | exact Kd.S_nil _ _ _ _ _, by repeat (first | (with_reducible first | exact HB.out | apply below_alloc | apply pw_below_drewN | apply below_drew1) | exact HB.out)⟩

/-! ### skywayref1_SameTexts: function 27 -/
def skywayref1_SameTexts.l0 : Nat → List ByteArray → List ByteArray → Int → Int → Option (Bool)
  | 0, _, _, _, _ => none
  | k + 1, x0, x1, x12, x13 => if x13 < x12 then (if 0 ≤ x13 then (if x13 < (x0.length : Int) then (if x13 < (x1.length : Int) then (if (rdOf ByteArray.empty x0 x13).toList = (rdOf ByteArray.empty x1 x13).toList then (skywayref1_SameTexts.l0 k x0 x1 x12 (wrap64 (x13 + 1))) else (some false)) else (none)) else (none)) else (none)) else (some true)
def skywayref1_SameTexts.f (k : Nat) (l0 : List ByteArray) (l1 : List ByteArray) : Option (Bool) := if (l0.length : Int) = (l1.length : Int) then (skywayref1_SameTexts.l0 k l0 l1 (l0.length : Int) 0) else (some false)
theorem skywayref1_SameTexts.mono_l : ∀ k, (∀ y0 y1 y2 y3, LeO (skywayref1_SameTexts.l0 k y0 y1 y2 y3) (skywayref1_SameTexts.l0 (k + 1) y0 y1 y2 y3))
  | 0 => fun _ _ _ _ r h => by simp [skywayref1_SameTexts.l0] at h
  | k + 1 => by
    have ih0 := skywayref1_SameTexts.mono_l k
    · intro y0 y1 y2 y3; unfold skywayref1_SameTexts.l0
      repeat' first
      | (with_reducible exact ih0 _ _ _ _)
      | (with_reducible exact LeO.refl _)
      | (with_reducible exact LeO.none _)
      | (with_reducible refine LeO.ite ?_ ?_)
      | (with_reducible refine LeO.bind ?_ (fun _ => ?_))
      | exact ih0 _ _ _ _
      | exact LeO.none _
      | refine LeO.ite ?_ ?_
      | refine LeO.bind ?_ (fun _ => ?_)
theorem skywayref1_SameTexts.mono : ∀ a0 a1 k, LeO (skywayref1_SameTexts.f k a0 a1) (skywayref1_SameTexts.f (k + 1) a0 a1) := by
  intro a0 a1 k; have ih0 := skywayref1_SameTexts.mono_l k; unfold skywayref1_SameTexts.f
  repeat' first
      | (with_reducible exact ih0 _ _ _ _)
      | (with_reducible exact LeO.refl _)
      | (with_reducible exact LeO.none _)
      | (with_reducible refine LeO.ite ?_ ?_)
      | (with_reducible refine LeO.bind ?_ (fun _ => ?_))
      | exact ih0 _ _ _ _
      | exact LeO.none _
      | refine LeO.ite ?_ ?_
      | refine LeO.bind ?_ (fun _ => ?_)
set_option maxHeartbeats 8000000 in
set_option maxRecDepth 100000 in
theorem skywayref1_SameTexts.calls (k : Nat) (A0 : Option Addr) (c0 : Nat) (l0 : List ByteArray) (A1 : Option Addr) (c1 : Nat) (l1 : List ByteArray) (r : Bool) (w : World) (hr0 : Kd.C Kd.string w A0 l0.length l0) (hc0 : l0.length ≤ c0) (hr1 : Kd.C Kd.string w A1 l1.length l1) (hc1 : l1.length ≤ c1) (h : skywayref1_SameTexts.f k l0 l1 = some r) :
    Calls Try.prog 27 #[.slice A0 l0.length c0, .slice A1 l1.length c1] w fun e w' => e = .returned (.bool r) ∧ Below w.heap.size w w' := by
  have HR0 := Aside0.mk hr0; have HC0 := Aside0.mk hc0; clear hr0 hc0; have HR1 := Aside0.mk hr1; have HC1 := Aside0.mk hc1; clear hr1 hc1; have HB := Aside0.mk (Below.refl w.heap.size w); have H : (if (l0.length : Int) = (l1.length : Int) then (skywayref1_SameTexts.l0 k l0 l1 (l0.length : Int) 0) else (some false)) = some r := h; clear h
  by_cases c3 : (l0.length : Int) = (l1.length : Int)
  · rw [if_pos c3] at H; have c3b0 : ((l0.length : Int) == (l1.length : Int)) = true := beq_iff_eq.mpr c3; have c3b1 : ((l0.length : Int) != (l1.length : Int)) = false := bne_eq_false_iff_eq.mpr c3
    have c3b2 : (l0.length == l1.length) = true := by first | simpa using c3 | (simp at c3 ⊢; omega)
    clear c3; have H' := Aside0.mk H; clear H; go_enter Try.func27, Try.ntmps27; go_wp2
    repeat (go_quiet (fail); try go_wp2)
    go_loopg [13] k (fun kq v13 w' => ∃ (x13_1 : Int), v13 = .int .i64 x13_1 ∧ Aside0 (skywayref1_SameTexts.l0 kq l0 l1 (l0.length : Int) x13_1 = some r) ∧ Aside0 (kq ≤ k) ∧ Aside0 (Below w.heap.size w w'))
    case atStart => exact ⟨(0), (by first | rfl | (simp; done) | (simp [*]; done)), H', ⟨Nat.le_refl _⟩, ⟨by repeat (first | (with_reducible first | exact HB.out | apply below_alloc | apply pw_below_drewN | apply below_drew1) | exact HB.out)⟩⟩
    case round =>
      clear H'
      try clear c1
      try clear c2
      try clear p2
      try clear c3
      try clear c3b0
      try clear c3b1
      try clear c3b2
      obtain ⟨x13_1, rfl, HA, HK1, HB⟩ := hrel
      cases gk with
      | zero => exact absurd HA.out (by simp [skywayref1_SameTexts.l0])
      | succ k1 =>
        have H := HA.out; clear HA; simp only [skywayref1_SameTexts.l0] at H
        by_cases c4 : x13_1 < (l0.length : Int)
        · rw [if_pos c4] at H; have c4b0 : decide (x13_1 < (l0.length : Int)) = true := decide_eq_true c4; clear c4
          by_cases c5 : 0 ≤ x13_1
          · rw [if_pos c5] at H; have c5b0 : decide (0 ≤ x13_1) = true := decide_eq_true c5; clear c5
            by_cases c6 : x13_1 < (l0.length : Int)
            · rw [if_pos c6] at H; have c6b0 : decide (x13_1 < (l0.length : Int)) = true := decide_eq_true c6; clear c6
              by_cases c7 : x13_1 < (l1.length : Int)
              · rw [if_pos c7] at H; have c7b0 : decide (x13_1 < (l1.length : Int)) = true := decide_eq_true c7; clear c7
                by_cases c8 : (rdOf ByteArray.empty l0 x13_1).toList = (rdOf ByteArray.empty l1 x13_1).toList
                · rw [if_pos c8] at H; have c8b0 : ((rdOf ByteArray.empty l0 x13_1).toList == (rdOf ByteArray.empty l1 x13_1).toList) = true := beq_iff_eq.mpr c8; have c8b1 : ((rdOf ByteArray.empty l0 x13_1).toList != (rdOf ByteArray.empty l1 x13_1).toList) = false := bne_eq_false_iff_eq.mpr c8; clear c8; have H' := Aside0.mk H; clear H
                  have p405 : 0 ≤ (x13_1 : Int) := of_decide_eq_true (by first | (with_reducible assumption) | assumption)
                  have q405 : x13_1 < (l0.length : Int) := of_decide_eq_true (by first | (with_reducible assumption) | assumption)
                  obtain ⟨ad405, e405, hx405_0⟩ := Kd.at_string HR0.out x13_1 p405 q405; cases e405; replace hx405_0 := cl HB hx405_0; replace p405 := eq_true p405; replace q405 := eq_true q405
                  have p406 : 0 ≤ (x13_1 : Int) := of_decide_eq_true (by first | (with_reducible assumption) | assumption)
                  have q406 : x13_1 < (l1.length : Int) := of_decide_eq_true (by first | (with_reducible assumption) | assumption)
                  obtain ⟨ad406, e406, hx406_0⟩ := Kd.at_string HR1.out x13_1 p406 q406; cases e406; replace hx406_0 := cl HB hx406_0; replace p406 := eq_true p406; replace q406 := eq_true q406; go_wp2
                  repeat (go_quiet (fail); try go_wp2)
                  go_roundg k1
                  case measure => have := HK1.out; omega
                  case rel => exact ⟨(wrap64 (x13_1 + 1)), (by first | rfl | (simp; done) | (simp [*]; done)), H', ⟨by have := HK1.out; omega⟩, ⟨by repeat (first | (with_reducible first | exact HB.out | apply below_alloc | apply pw_below_drewN | apply below_drew1) | exact HB.out)⟩⟩
                · rw [if_neg c8] at H; have c8b0 : ((rdOf ByteArray.empty l0 x13_1).toList == (rdOf ByteArray.empty l1 x13_1).toList) = false := beq_eq_false_iff_ne.mpr c8; have c8b1 : ((rdOf ByteArray.empty l0 x13_1).toList != (rdOf ByteArray.empty l1 x13_1).toList) = true := bne_iff_ne.mpr c8; obtain rfl := Option.some.inj H
                  have p405 : 0 ≤ (x13_1 : Int) := of_decide_eq_true (by first | (with_reducible assumption) | assumption)
                  have q405 : x13_1 < (l0.length : Int) := of_decide_eq_true (by first | (with_reducible assumption) | assumption)
                  obtain ⟨ad405, e405, hx405_0⟩ := Kd.at_string HR0.out x13_1 p405 q405; cases e405; replace hx405_0 := cl HB hx405_0; replace p405 := eq_true p405; replace q405 := eq_true q405
                  have p406 : 0 ≤ (x13_1 : Int) := of_decide_eq_true (by first | (with_reducible assumption) | assumption)
                  have q406 : x13_1 < (l1.length : Int) := of_decide_eq_true (by first | (with_reducible assumption) | assumption)
                  obtain ⟨ad406, e406, hx406_0⟩ := Kd.at_string HR1.out x13_1 p406 q406; cases e406; replace hx406_0 := cl HB hx406_0; replace p406 := eq_true p406; replace q406 := eq_true q406; go_wp2
                  repeat (go_quiet (fail); try go_wp2)
                  go_ret
                  exact ⟨by first | rfl | (simp [errW_none, errW_some] <;> rfl) | (simp [*, errW_none, errW_some] <;> rfl), by repeat (first | (with_reducible first | exact HB.out | apply below_alloc | apply pw_below_drewN | apply below_drew1) | exact HB.out)⟩
              · rw [if_neg c7] at H; exact absurd H (by simp)
            · rw [if_neg c6] at H; exact absurd H (by simp)
          · rw [if_neg c5] at H; exact absurd H (by simp)
        · rw [if_neg c4] at H; have c4b0 : decide (x13_1 < (l0.length : Int)) = false := decide_eq_false c4; clear c4; obtain rfl := Option.some.inj H; go_wp2
          repeat (go_quiet (fail); try go_wp2)
          go_ret
          exact ⟨by first | rfl | (simp [errW_none, errW_some] <;> rfl) | (simp [*, errW_none, errW_some] <;> rfl), by repeat (first | (with_reducible first | exact HB.out | apply below_alloc | apply pw_below_drewN | apply below_drew1) | exact HB.out)⟩
  · rw [if_neg c3] at H; have c3b0 : ((l0.length : Int) == (l1.length : Int)) = false := beq_eq_false_iff_ne.mpr c3; have c3b1 : ((l0.length : Int) != (l1.length : Int)) = true := bne_iff_ne.mpr c3
    have c3b2 : (l0.length == l1.length) = false := by first | simpa using c3 | (simp at c3 ⊢; omega)
    obtain rfl := Option.some.inj H; go_enter Try.func27, Try.ntmps27; go_wp2
    repeat (go_quiet (fail); try go_wp2)
    go_ret
    exact ⟨by first | rfl | (simp [errW_none, errW_some] <;> rfl) | (simp [*, errW_none, errW_some] <;> rfl), by repeat (first | (with_reducible first | exact HB.out | apply below_alloc | apply pw_below_drewN | apply below_drew1) | exact HB.out)⟩

/-! ### polygon_Locate: function 28 -/
def polygon_Locate.f (k : Nat) (l0 : List (S36)) (a1_0 : Int) (a1_1 : Int) : Option (Int × Int) := (polygon_Check.f k l0).bind fun t408 => (if t408 = 0 then ((plane_Check.f a1_0 a1_1).bind fun t409 => (if t409 = 0 then ((polygon_locate.f k l0 a1_0 a1_1).bind fun t410 => (some (t410, 0))) else (some (0, t409)))) else (some (0, t408)))
theorem polygon_Locate.mono : ∀ a0 a1 a2 k, LeO (polygon_Locate.f k a0 a1 a2) (polygon_Locate.f (k + 1) a0 a1 a2) := by
  intro a0 a1 a2 k; unfold polygon_Locate.f
  repeat' first
      | (with_reducible exact polygon_Check.mono _ _)
      | (with_reducible exact polygon_locate.mono _ _ _ _)
      | (with_reducible exact LeO.refl _)
      | (with_reducible exact LeO.none _)
      | (with_reducible refine LeO.ite ?_ ?_)
      | (with_reducible refine LeO.bind ?_ (fun _ => ?_))
      | exact polygon_Check.mono _ _
      | exact polygon_locate.mono _ _ _ _
      | exact LeO.none _
      | refine LeO.ite ?_ ?_
      | refine LeO.bind ?_ (fun _ => ?_)
set_option maxHeartbeats 8000000 in
set_option maxRecDepth 100000 in
theorem polygon_Locate.calls (k : Nat) (A0 : Option Addr) (c0 : Nat) (l0 : List (S36)) (a1_0 : Int) (a1_1 : Int) (r1 : Int) (r2 : Int) (w : World) (hr0 : Kd.C k36 w A0 l0.length l0) (hc0 : l0.length ≤ c0) (h : polygon_Locate.f k l0 a1_0 a1_1 = some (r1, r2)) :
    Calls Try.prog 28 #[.slice A0 l0.length c0, .agg #[.int .i64 a1_0, .int .i64 a1_1]] w fun e w' => e = .returned (.tuple #[.int .i64 r1, .int .i64 r2]) ∧ Below w.heap.size w w' := by
 have hu36 := Try.underlying36; have HR0 := Aside0.mk hr0; have HC0 := Aside0.mk hc0; clear hr0 hc0; have HB := Aside0.mk (Below.refl w.heap.size w); have H : ((polygon_Check.f k l0).bind fun t408 => (if t408 = 0 then ((plane_Check.f a1_0 a1_1).bind fun t409 => (if t409 = 0 then ((polygon_locate.f k l0 a1_0 a1_1).bind fun t410 => (some (t410, 0))) else (some (0, t409)))) else (some (0, t408)))) = some (r1, r2) := h; clear h; replace H := Option.bind_eq_some_iff.mp H; obtain ⟨t408, A30, H⟩ := H; replace H : (if t408 = 0 then ((plane_Check.f a1_0 a1_1).bind fun t409 => (if t409 = 0 then ((polygon_locate.f k l0 a1_0 a1_1).bind fun t410 => (some (t410, 0))) else (some (0, t409)))) else (some (0, t408))) = some (r1, r2) := H; have A3 := Aside0.mk A30; clear A30; refine Or.elim (Classical.em (t408 = 0)) (fun c4 => ?p2_) (fun c4 => ?n2_)
 case' p2_ =>
  rw [if_pos c4] at H; have c4b0 : (t408 == 0) = true := beq_iff_eq.mpr c4; have c4b1 : (t408 != 0) = false := bne_eq_false_iff_eq.mpr c4; clear c4; replace H := Option.bind_eq_some_iff.mp H; obtain ⟨t409, A50, H⟩ := H; replace H : (if t409 = 0 then ((polygon_locate.f k l0 a1_0 a1_1).bind fun t410 => (some (t410, 0))) else (some (0, t409))) = some (r1, r2) := H; have A5 := Aside0.mk A50; clear A50; refine Or.elim (Classical.em (t409 = 0)) (fun c6 => ?p3_) (fun c6 => ?n3_)
  case' p3_ =>
   rw [if_pos c6] at H; have c6b0 : (t409 == 0) = true := beq_iff_eq.mpr c6; have c6b1 : (t409 != 0) = false := bne_eq_false_iff_eq.mpr c6; clear c6; replace H := Option.bind_eq_some_iff.mp H; obtain ⟨t410, A70, H⟩ := H; replace H : (some (t410, 0)) = some (r1, r2) := H; have A7 := Aside0.mk A70; clear A70; simp only [Option.some.injEq, Prod.mk.injEq] at H; obtain ⟨rfl, rfl⟩ := H
  case' n3_ =>
   rw [if_neg c6] at H; have c6b0 : (t409 == 0) = false := beq_eq_false_iff_ne.mpr c6; have c6b1 : (t409 != 0) = true := bne_iff_ne.mpr c6; simp only [Option.some.injEq, Prod.mk.injEq] at H; obtain ⟨rfl, rfl⟩ := H
 case' n2_ =>
  rw [if_neg c4] at H; have c4b0 : (t408 == 0) = false := beq_eq_false_iff_ne.mpr c4; have c4b1 : (t408 != 0) = true := bne_iff_ne.mpr c4; simp only [Option.some.injEq, Prod.mk.injEq] at H; obtain ⟨rfl, rfl⟩ := H
 all_goals
  go_enter Try.func28, Try.ntmps28
  go_wp2_with (first | ((with_reducible refine gate_dst (N := 3) rfl ?_); refine box_s #[.int .i64 a1_0, .int .i64 a1_1] 36 ?_; intro gb407 hg wxae701 hbox hb; have n0_ := st HB hb; have n1_ := Aside0.mk (hbox); have n2_ := ge HB hg; have n3_ := ge HB hg; clear HB; have HB := n0_; have BK407 := n1_; have GW407 := n2_; have GE407 := n3_; clear n0_ n1_ n2_ n3_; clear hb hbox hg) | ((with_reducible refine gate_callee (f := 72) rfl ?_); refine goesL_ (some 9) rfl rfl Try.func72 (by kernel_rfl) rfl #[.slice A0 l0.length c0] rfl any_s ?_; (with_reducible refine (polygon_Check.calls k _ _ l0 t408 _ ?side1 ?side2 A3.out).mono ?_); (case side1 => exact cb_s (Kd.C_below HR0.out HB.out)); (case side2 => exact HC0.out); rintro e wxdb5a1 ⟨rfl, hb⟩; refine ⟨_, rfl, ?_⟩; have n0_ := kp BK407 hb; have n1_ := st HB hb; clear BK407; clear HB; have BK407 := n0_; have HB := n1_; clear n0_ n1_; (try clear hb); (try clear hb2); (try clear hk); (try clear hi); have hczxdb5a1 : wxdb5a1.cell? ⟨gb407, 0, none⟩ = some (.int .i64 a1_0) := bc BK407 0; have hczxdb5a2 : wxdb5a1.cell? ⟨gb407, 1, none⟩ = some (.int .i64 a1_1) := bc BK407 1; have hfzxdb5a1 := blk_frozen BK407.out 0; have hfzxdb5a2 := blk_frozen BK407.out 1) | ((with_reducible refine gate_callee (f := 72) rfl ?_); refine goesL_ (some 9) rfl rfl Try.func72 (by kernel_rfl) rfl #[.slice A0 l0.length c0] rfl any_s ?_; (with_reducible refine (polygon_Check.calls k _ _ l0 t408 _ ?side1 ?side2 A3.out).mono ?_); (case side1 => exact cb_s (Kd.C_below HR0.out HB.out)); (case side2 => exact HC0.out); rintro e wxb2e81 ⟨rfl, hb⟩; refine ⟨_, rfl, ?_⟩; have n0_ := kp BK407 hb; have n1_ := st HB hb; clear BK407; clear HB; have BK407 := n0_; have HB := n1_; clear n0_ n1_; (try clear hb); (try clear hb2); (try clear hk); (try clear hi)) | ((with_reducible refine gate_callee (f := 57) rfl ?_); refine goesL_ (some 14) rfl rfl Try.func57 (by kernel_rfl) rfl #[.agg #[.int .i64 a1_0, .int .i64 a1_1]] rfl any_s ?_; (with_reducible refine (plane_Check.calls a1_0 a1_1 t409 _ A5.out).mono ?_); rintro e wx91db1 ⟨rfl, hb⟩; refine ⟨_, rfl, ?_⟩; have n0_ := kp BK407 hb; have n1_ := st HB hb; clear BK407; clear HB; have BK407 := n0_; have HB := n1_; clear n0_ n1_; (try clear hb); (try clear hb2); (try clear hk); (try clear hi); have hczx91db1 : wx91db1.cell? ⟨gb407, 0, none⟩ = some (.int .i64 a1_0) := bc BK407 0; have hczx91db2 : wx91db1.cell? ⟨gb407, 1, none⟩ = some (.int .i64 a1_1) := bc BK407 1; have hfzx91db1 := blk_frozen BK407.out 0; have hfzx91db2 := blk_frozen BK407.out 1) | ((with_reducible refine gate_callee (f := 57) rfl ?_); refine goesL_ (some 14) rfl rfl Try.func57 (by kernel_rfl) rfl #[.agg #[.int .i64 a1_0, .int .i64 a1_1]] rfl any_s ?_; (with_reducible refine (plane_Check.calls a1_0 a1_1 t409 _ A5.out).mono ?_); rintro e wx0e151 ⟨rfl, hb⟩; refine ⟨_, rfl, ?_⟩; have n0_ := kp BK407 hb; have n1_ := st HB hb; clear BK407; clear HB; have BK407 := n0_; have HB := n1_; clear n0_ n1_; (try clear hb); (try clear hb2); (try clear hk); (try clear hi)) | ((with_reducible refine gate_callee (f := 73) rfl ?_); refine goesL_ (some 20) rfl rfl Try.func73 (by kernel_rfl) rfl #[.slice A0 l0.length c0, .agg #[.int .i64 a1_0, .int .i64 a1_1]] rfl any_s ?_; (with_reducible refine (polygon_locate.calls k _ _ l0 a1_0 a1_1 t410 _ ?side1 ?side2 A7.out).mono ?_); (case side1 => exact cb_s (Kd.C_below HR0.out HB.out)); (case side2 => exact HC0.out); rintro e wx7ffa1 ⟨rfl, hb⟩; refine ⟨_, rfl, ?_⟩; have n0_ := kp BK407 hb; have n1_ := st HB hb; clear BK407; clear HB; have BK407 := n0_; have HB := n1_; clear n0_ n1_; (try clear hb); (try clear hb2); (try clear hk); (try clear hi)))
  go_ret2
  exact ⟨by first | rfl | (simp [errW_none, errW_some] <;> rfl) | (simp [*, errW_none, errW_some] <;> rfl), by repeat (first | (with_reducible first | exact HB.out | apply below_alloc | apply pw_below_drewN | apply below_drew1 | refine below_set ?_ GE407.out) | exact HB.out)⟩

end Go.Proofs.Ytbpbpojnfhhbjaa.PRouteCrossed
