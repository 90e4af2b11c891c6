/- Made by a program of this session (wip/tools/myprint.py, over the kit's printer): that the Go functions answer as the Lean functions printed beside them. -/
import Derived.Test.YtbpbpojnfhhbjaaTSq
import Derived.Test.YtbpbpojnfhhbjaaPRouteLengthx0
import Derived.Test.YtbpbpojnfhhbjaaPRouteLengthx6
import Derived.Test.YtbpbpojnfhhbjaaPRouteLengthx7
namespace Go.Proofs.Ytbpbpojnfhhbjaa.PRouteLength
open Go.RowKit Go.Proofs.YtbpbpojnfhhbjaaW.PrintWords Go.Proofs.YtbpbpojnfhhbjaaW.PrintLast Go.Proofs.YtbpbpojnfhhbjaaW.PrintMore
attribute [local go_sem] max2_int min2_int max_two min_two max_three min_three max_four min_four   -- for this text's walks alone
set_option linter.unusedVariables false
set_option linter.unusedSimpArgs false

/-! ### route_names: function 65 -/
mutual
def route_names.l0 : Nat → List ByteArray → List ByteArray → Int → Int → List (S40) → List (S48) → Option (List ByteArray × Int)
  | 0, _, _, _, _, _, _ => none
  | k + 1, x0, x14, x15, x16, x197000, x197001 => if x16 < x15 then (if 0 ≤ x16 then (if x16 < (x14.length : Int) then ((route_isFix.f x197000 x197001 (rdOf ByteArray.empty x14 x16)).bind fun t198 => (if t198 = true then (route_names.l0 k x0 x14 x15 (wrap64 (x16 + 1)) x197000 x197001) else ((route_isAirway.f x197000 x197001 (rdOf ByteArray.empty x14 x16)).bind fun t199 => (if t199 = true then (route_names.l0 k x0 x14 x15 (wrap64 (x16 + 1)) x197000 x197001) else (some (([] : List ByteArray), 6)))))) else (none)) else (none)) else (route_names.l1 k x0 1 x197000 x197001)
def route_names.l1 : Nat → List ByteArray → Int → List (S40) → List (S48) → Option (List ByteArray × Int)
  | 0, _, _, _, _ => none
  | k + 1, x0, x8, x197000, x197001 => if x8 < (x0.length : Int) then (if 0 ≤ (wrap64 (x8 - 1)) then (if (wrap64 (x8 - 1)) < (x0.length : Int) then ((route_isAirway.f x197000 x197001 (rdOf ByteArray.empty x0 (wrap64 (x8 - 1)))).bind fun t201 => (if t201 = true then (if 0 ≤ x8 then ((route_isAirway.f x197000 x197001 (rdOf ByteArray.empty x0 x8)).bind fun t203 => (if t203 = true then (some (([] : List ByteArray), 3)) else (route_names.l1 k x0 (wrap64 (x8 + 1)) x197000 x197001))) else (none)) else (route_names.l1 k x0 (wrap64 (x8 + 1)) x197000 x197001))) else (none)) else (none)) else (route_names.l2 k x0 ([] : List ByteArray) x0 (x0.length : Int) 0 x197000 x197001)
def route_names.l2 : Nat → List ByteArray → List ByteArray → List ByteArray → Int → Int → List (S40) → List (S48) → Option (List ByteArray × Int)
  | 0, _, _, _, _, _, _, _ => none
  | k + 1, x0, x9, x52, x53, x54, x197000, x197001 => if x54 < x53 then (if 0 ≤ x54 then (if x54 < (x52.length : Int) then ((route_isAirway.f x197000 x197001 (rdOf ByteArray.empty x52 x54)).bind fun t205 => (if t205 = true then (if 0 ≤ (wrap64 (x54 - 1)) then (if (wrap64 (x54 - 1)) < (x0.length : Int) then (if 0 ≤ (wrap64 (x54 + 1)) then (if (wrap64 (x54 + 1)) < (x0.length : Int) then ((chart_Between.f k x197000 x197001 (rdOf ByteArray.empty x52 x54) (rdOf ByteArray.empty x0 (wrap64 (x54 - 1))) (rdOf ByteArray.empty x0 (wrap64 (x54 + 1)))).bind fun bt208 => (if bt208.2 = 0 then (if 1 ≤ (mx 1 (wrap64 ((bt208.1.length : Int) - 1))) then (if (mx 1 (wrap64 ((bt208.1.length : Int) - 1))) ≤ (bt208.1.length : Int) then ((some ((bt208.1.take ((mx 1 (wrap64 ((bt208.1.length : Int) - 1))) : Int).toNat).drop 1 : List ByteArray)).bind fun y212 => (if x9.length + y212.length < 8796093022208 then (route_names.l2 k x0 (x9 ++ y212) x52 x53 (wrap64 (x54 + 1)) x197000 x197001) else (none))) else (none)) else (none)) else (some (([] : List ByteArray), bt208.2)))) else (none)) else (none)) else (none)) else (none)) else (if x9.length < 8796093022208 then (route_names.l2 k x0 (x9 ++ [rdOf ByteArray.empty x52 x54]) x52 x53 (wrap64 (x54 + 1)) x197000 x197001) else (none)))) else (none)) else (none)) else (some (x9, 0))
end
def route_names.f (k : Nat) (l0 : List ByteArray) (l1_0 : List (S40)) (l1_1 : List (S48)) : Option (List ByteArray × Int) := route_names.l0 k l0 l0 (l0.length : Int) 0 l1_0 l1_1
theorem route_names.mono_l : ∀ k, (∀ y0 y1 y2 y3 y4 y5, LeO (route_names.l0 k y0 y1 y2 y3 y4 y5) (route_names.l0 (k + 1) y0 y1 y2 y3 y4 y5)) ∧ (∀ y0 y1 y2 y3, LeO (route_names.l1 k y0 y1 y2 y3) (route_names.l1 (k + 1) y0 y1 y2 y3)) ∧ (∀ y0 y1 y2 y3 y4 y5 y6, LeO (route_names.l2 k y0 y1 y2 y3 y4 y5 y6) (route_names.l2 (k + 1) y0 y1 y2 y3 y4 y5 y6))
  | 0 => ⟨fun _ _ _ _ _ _ r h => by simp [route_names.l0] at h, fun _ _ _ _ r h => by simp [route_names.l1] at h, fun _ _ _ _ _ _ _ r h => by simp [route_names.l2] at h⟩
  | k + 1 => by
    obtain ⟨ih0, ih1, ih2⟩ := route_names.mono_l k
    refine ⟨?_, ?_, ?_⟩
    · intro y0 y1 y2 y3 y4 y5
      unfold route_names.l0
      repeat' first
      | (with_reducible exact ih0 _ _ _ _ _ _)
      | (with_reducible exact ih1 _ _ _ _)
      | (with_reducible exact ih2 _ _ _ _ _ _ _)
      | (with_reducible exact chart_Between.mono _ _ _ _ _ _)
      | (with_reducible exact LeO.refl _)
      | (with_reducible exact LeO.none _)
      | (with_reducible refine LeO.ite ?_ ?_)
      | (with_reducible refine LeO.bind ?_ (fun _ => ?_))
      | exact ih0 _ _ _ _ _ _
      | exact ih1 _ _ _ _
      | exact ih2 _ _ _ _ _ _ _
      | exact chart_Between.mono _ _ _ _ _ _
      | exact LeO.none _
      | refine LeO.ite ?_ ?_
      | refine LeO.bind ?_ (fun _ => ?_)
    · intro y0 y1 y2 y3
      unfold route_names.l1
      repeat' first
      | (with_reducible exact ih0 _ _ _ _ _ _)
      | (with_reducible exact ih1 _ _ _ _)
      | (with_reducible exact ih2 _ _ _ _ _ _ _)
      | (with_reducible exact chart_Between.mono _ _ _ _ _ _)
      | (with_reducible exact LeO.refl _)
      | (with_reducible exact LeO.none _)
      | (with_reducible refine LeO.ite ?_ ?_)
      | (with_reducible refine LeO.bind ?_ (fun _ => ?_))
      | exact ih0 _ _ _ _ _ _
      | exact ih1 _ _ _ _
      | exact ih2 _ _ _ _ _ _ _
      | exact chart_Between.mono _ _ _ _ _ _
      | exact LeO.none _
      | refine LeO.ite ?_ ?_
      | refine LeO.bind ?_ (fun _ => ?_)
    · intro y0 y1 y2 y3 y4 y5 y6
      unfold route_names.l2
      repeat' first
      | (with_reducible exact ih0 _ _ _ _ _ _)
      | (with_reducible exact ih1 _ _ _ _)
      | (with_reducible exact ih2 _ _ _ _ _ _ _)
      | (with_reducible exact chart_Between.mono _ _ _ _ _ _)
      | (with_reducible exact LeO.refl _)
      | (with_reducible exact LeO.none _)
      | (with_reducible refine LeO.ite ?_ ?_)
      | (with_reducible refine LeO.bind ?_ (fun _ => ?_))
      | exact ih0 _ _ _ _ _ _
      | exact ih1 _ _ _ _
      | exact ih2 _ _ _ _ _ _ _
      | exact chart_Between.mono _ _ _ _ _ _
      | exact LeO.none _
      | refine LeO.ite ?_ ?_
      | refine LeO.bind ?_ (fun _ => ?_)
theorem route_names.mono : ∀ a0 a1 a2 k, LeO (route_names.f k a0 a1 a2) (route_names.f (k + 1) a0 a1 a2) := by
  intro a0 a1 a2 k
  obtain ⟨ih0, ih1, ih2⟩ := route_names.mono_l k
  unfold route_names.f
  repeat' first
      | (with_reducible exact ih0 _ _ _ _ _ _)
      | (with_reducible exact ih1 _ _ _ _)
      | (with_reducible exact ih2 _ _ _ _ _ _ _)
      | (with_reducible exact chart_Between.mono _ _ _ _ _ _)
      | (with_reducible exact LeO.refl _)
      | (with_reducible exact LeO.none _)
      | (with_reducible refine LeO.ite ?_ ?_)
      | (with_reducible refine LeO.bind ?_ (fun _ => ?_))
      | exact ih0 _ _ _ _ _ _
      | exact ih1 _ _ _ _
      | exact ih2 _ _ _ _ _ _ _
      | exact chart_Between.mono _ _ _ _ _ _
      | exact LeO.none _
      | refine LeO.ite ?_ ?_
      | refine LeO.bind ?_ (fun _ => ?_)
def route_names.T10 : Bool × List (List Nat × List Nat) := (true, [([], []), ([], []), ([], []), ([2], [2]), ([1, 3], [1, 3]), ([4], [4]), ([0, 5], [0, 5]), ([6, 6], [6]), ([7], [7]), ([7], [7]), ([7], [7]), ([9, 10, 7], [7, 9, 10]), ([11, 7], [7, 11]), ([8, 12, 7, 7], [7, 8, 12]), ([7, 13], [7, 13])])
def route_names.B10 : List Nat := [0, 0, 0, 4, 14, 30, 63, 127, 255, 255, 255, 1791, 3839, 8191, 16383]
theorem route_names.tab10 : rtab .any (opsOf Try.f65 10) = route_names.T10 := by kernel_rfl
theorem route_names.bits10 : waitsOk route_names.T10.2 route_names.B10 = true := by kernel_rfl
def route_names.T18 : Bool × List (List Nat × List Nat) := (true, [([], []), ([], []), ([], []), ([], []), ([3], [3]), ([2, 4], [2, 4]), ([5], [5]), ([], []), ([], []), ([8], [8]), ([7, 9], [7, 9]), ([10], [10]), ([0, 1, 6, 11], [0, 1, 6, 11]), ([12], [12]), ([13], [13]), ([13], [13]), ([14, 12, 0, 1, 2, 3, 4, 5, 6, 7, 8, 9, 10, 11, 12, 13, 14], [14]), ([15, 16, 0, 1, 2, 3, 4, 5, 6, 7, 8, 9, 10, 11, 12, 13, 14, 15, 16], [15])])
def route_names.B18 : List Nat := [0, 0, 0, 0, 8, 28, 60, 0, 0, 256, 896, 1920, 4095, 8191, 16383, 16383, 32767, 131071]
theorem route_names.tab18 : rtab .any (opsOf Try.f65 18) = route_names.T18 := by kernel_rfl
theorem route_names.bits18 : waitsOk route_names.T18.2 route_names.B18 = true := by kernel_rfl
set_option maxHeartbeats 8000000 in
set_option maxRecDepth 100000 in
theorem route_names.calls (k : Nat) (A0 : Option Addr) (c0 : Nat) (l0 : List ByteArray) (A1_0 : Option Addr) (c1_0 : Nat) (l1_0 : List (S40)) (A1_1 : Option Addr) (c1_1 : Nat) (l1_1 : List (S48)) (r1 : List ByteArray) (r2 : Int) (w : World) (hr0 : Kd.C Kd.string w A0 l0.length l0) (hc0 : l0.length ≤ c0) (hr1_0 : Kd.C k40 w A1_0 l1_0.length l1_0) (hc1_0 : l1_0.length ≤ c1_0) (hr1_1 : Kd.C k48 w A1_1 l1_1.length l1_1) (hc1_1 : l1_1.length ≤ c1_1) (h : route_names.f k l0 l1_0 l1_1 = some (r1, r2)) :
    Calls Try.prog 65 #[.slice A0 l0.length c0, .agg #[.slice A1_0 l1_0.length c1_0, .slice A1_1 l1_1.length c1_1]] w fun e w' => ∃ v0_ : Value, e = .returned (.tuple #[v0_, .int .i64 r2]) ∧ Kd.R Kd.string 9 w' w.heap.size (fun _ => True) v0_ r1 ∧ Below w.heap.size w w' := by
 have hu25 := Try.underlying25
 have HR0 := Aside0.mk hr0
 have HC0 := Aside0.mk hc0
 clear hr0 hc0
 have HR1_0 := Aside0.mk hr1_0
 have HC1_0 := Aside0.mk hc1_0
 clear hr1_0 hc1_0
 have HR1_1 := Aside0.mk hr1_1
 have HC1_1 := Aside0.mk hc1_1
 clear hr1_1 hc1_1
 have HB := Aside0.mk (Below.refl w.heap.size w)
 have H : (route_names.l0 k l0 l0 (l0.length : Int) 0 l1_0 l1_1) = some (r1, r2) := h
 clear h
 have H' := Aside0.mk H
 clear H
 go_enter Try.func65, Try.ntmps65
 go_wp2_with (first | ((with_reducible refine gate_dst (N := 3) rfl ?_); refine box_event ?hg (N := 3) ?hd (cs := #[.slice A1_0 l1_0.length c1_0, .slice A1_1 l1_1.length c1_1]) (t := 25) ?hr ?_; (case hd => rfl); (case hg => rfl); (case hr => first | (go_simp; done) | (go_simp; rfl)); intro gb196 hg w3 hbox hb; have n0_ := Aside0.mk (below_step bel_s hb); have n1_ := Aside0.mk (hbox); have n2_ := Aside0.mk ((by rw [hg]; exact (below_size bel_s) : w.heap.size ≤ gb196)); have n3_ := Aside0.mk ((by rw [hg]; exact (below_size bel_s) : w.heap.size ≤ gb196)); clear HB; have HB := n0_; have BK196 := n1_; have GW196 := n2_; have GE196 := n3_; clear n0_ n1_ n2_ n3_; clear hb hbox hg))
 go_loopg [16] k (fun kq v16 w' => ∃ (x16_1 : Int), v16 = .int .i64 x16_1 ∧ Aside0 (route_names.l0 kq l0 l0 (l0.length : Int) x16_1 l1_0 l1_1 = some (r1, r2)) ∧ Aside0 (kq ≤ k) ∧ Aside0 (w'.heap[gb196]? = some (.cells #[(.slice A1_0 l1_0.length c1_0), (.slice A1_1 l1_1.length c1_1)] 25 (0, 0))) ∧ Aside0 (Below w.heap.size w w'))
 case atStart => exact ⟨(0), (by first | rfl | (simp; done) | (simp [*]; done)), H', ⟨Nat.le_refl _⟩, ⟨by (with_reducible repeat (first | refine blk_drewN ?_ _ | refine blk_drew ?_ | refine blk_alloc ?_ _)); exact BK196.out⟩, ⟨by repeat (first | (with_reducible first | exact HB.out | apply below_alloc | apply pw_below_drewN | apply below_drew1 | refine below_set ?_ GE196.out) | exact HB.out)⟩⟩
 case round =>
  clear H'
  (try clear c1); (try clear p2)
  obtain ⟨x16_1, rfl, HA, HK1, BK196, HB⟩ := hrel
  cases gk with
  | zero => exact absurd HA.out (by simp [route_names.l0])
  | succ k1 =>
   have H := HA.out
   clear HA
   simp only [route_names.l0] at H
   refine Or.elim (Classical.em (x16_1 < (l0.length : Int))) (fun c4 => ?p2_) (fun c4 => ?n2_)
   case' p2_ =>
    rw [if_pos c4] at H
    have c4b0 : decide (x16_1 < (l0.length : Int)) = true := decide_eq_true c4
    clear c4
    refine Or.elim (Classical.em (0 ≤ x16_1)) (fun c5 => ?p3_) (fun c5 => ?n3_)
    case' p3_ =>
     rw [if_pos c5] at H
     have c5b0 : decide (0 ≤ x16_1) = true := decide_eq_true c5
     clear c5
     refine Or.elim (Classical.em (x16_1 < (l0.length : Int))) (fun c6 => ?p4_) (fun c6 => ?n4_)
     case' p4_ =>
      rw [if_pos c6] at H
      have c6b0 : decide (x16_1 < (l0.length : Int)) = true := decide_eq_true c6
      clear c6
      replace H := Option.bind_eq_some_iff.mp H
      obtain ⟨t198, A70, H⟩ := H
      replace H : (if t198 = true then (route_names.l0 k1 l0 l0 (l0.length : Int) (wrap64 (x16_1 + 1)) l1_0 l1_1) else ((route_isAirway.f l1_0 l1_1 (rdOf ByteArray.empty l0 x16_1)).bind fun t199 => (if t199 = true then (route_names.l0 k1 l0 l0 (l0.length : Int) (wrap64 (x16_1 + 1)) l1_0 l1_1) else (some (([] : List ByteArray), 6))))) = some (r1, r2) := H
      have A7 := Aside0.mk A70
      clear A70
      refine Or.elim (Classical.em (t198 = true)) (fun c8 => ?p5_) (fun c8 => ?n5_)
      case' p5_ =>
       subst c8
       have H1 : (route_names.l0 k1 l0 l0 (l0.length : Int) (wrap64 (x16_1 + 1)) l1_0 l1_1) = some (r1, r2) := by rw [if_pos rfl] at H; exact H
       clear H
       have H := H1
       clear H1
       have hm1_0 := Aside0.mk trivial
      case' n5_ =>
       replace c8 := Bool.eq_false_iff.mpr c8
       subst c8
       have H1 : ((route_isAirway.f l1_0 l1_1 (rdOf ByteArray.empty l0 x16_1)).bind fun t199 => (if t199 = true then (route_names.l0 k1 l0 l0 (l0.length : Int) (wrap64 (x16_1 + 1)) l1_0 l1_1) else (some (([] : List ByteArray), 6)))) = some (r1, r2) := by rw [if_neg (show ¬ (false = true) by decide)] at H; exact H
       clear H
       have H := H1
       clear H1
       replace H := Option.bind_eq_some_iff.mp H
       obtain ⟨t199, A110, H⟩ := H
       replace H : (if t199 = true then (route_names.l0 k1 l0 l0 (l0.length : Int) (wrap64 (x16_1 + 1)) l1_0 l1_1) else (some (([] : List ByteArray), 6))) = some (r1, r2) := H
       have A11 := Aside0.mk A110
       clear A110
       refine Or.elim (Classical.em (t199 = true)) (fun c12 => ?p6_) (fun c12 => ?n6_)
       case' p6_ =>
        subst c12
        have H1 : (route_names.l0 k1 l0 l0 (l0.length : Int) (wrap64 (x16_1 + 1)) l1_0 l1_1) = some (r1, r2) := by rw [if_pos rfl] at H; exact H
        clear H
        have H := H1
        clear H1
        have hm1_0 := Aside0.mk trivial
       case' n6_ =>
        replace c12 := Bool.eq_false_iff.mpr c12
        subst c12
        have H1 : (some (([] : List ByteArray), 6)) = some (r1, r2) := by rw [if_neg (show ¬ (false = true) by decide)] at H; exact H
        clear H
        have H := H1
        clear H1
        simp only [Option.some.injEq, Prod.mk.injEq] at H
        obtain ⟨rfl, rfl⟩ := H
        have p197 : 0 ≤ (x16_1 : Int) := of_decide_eq_true (by first | (with_reducible assumption) | assumption)
        have q197 : x16_1 < (l0.length : Int) := of_decide_eq_true (by first | (with_reducible assumption) | assumption)
        obtain ⟨ad197, e197, hx197_0⟩ := Kd.at_string HR0.out x16_1 p197 q197
        cases e197
        replace hx197_0 := (HB.out.cell (World.block_lt_of_cell? w _ hx197_0)).trans hx197_0
        replace p197 := eq_true p197
        replace q197 := eq_true q197
        have hm1_1 := Aside0.mk trivial
     case' n4_ =>
      rw [if_neg c6] at H
      exact absurd H (by simp)
    case' n3_ =>
     rw [if_neg c5] at H
     exact absurd H (by simp)
   case' n2_ =>
    rw [if_neg c4] at H
    have c4b0 : decide (x16_1 < (l0.length : Int)) = false := decide_eq_false c4
    clear c4
    have hm1_2 := Aside0.mk trivial
   all_goals
    first
     | (first | (have _hm := hm1_0) | (have _hm := hm1_2))
       have H' := Aside0.mk H
       clear H
       first
        | clear hm1_0
          have p197 : 0 ≤ (x16_1 : Int) := of_decide_eq_true (by first | (with_reducible assumption) | assumption)
          have q197 : x16_1 < (l0.length : Int) := of_decide_eq_true (by first | (with_reducible assumption) | assumption)
          obtain ⟨ad197, e197, hx197_0⟩ := Kd.at_string HR0.out x16_1 p197 q197
          cases e197
          replace hx197_0 := (HB.out.cell (World.block_lt_of_cell? w _ hx197_0)).trans hx197_0
          replace p197 := eq_true p197
          replace q197 := eq_true q197
          have hczzc1 : wr.cell? ⟨gb196, 0, none⟩ = some (.slice A1_0 l1_0.length c1_0) := (blk_cell BK196.out 0).trans rfl
          have hczzc2 : wr.cell? ⟨gb196, 1, none⟩ = some (.slice A1_1 l1_1.length c1_1) := (blk_cell BK196.out 1).trans rfl
          have hfzzc1 := blk_frozen BK196.out 0
          have hfzzc2 := blk_frozen BK196.out 1
          go_wp2_with (first | ((with_reducible refine gate_callee (f := 64) rfl ?_); refine goesL_ (some 22) rfl rfl Try.func64 (by kernel_rfl) rfl #[.agg #[.slice A1_0 l1_0.length c1_0, .slice A1_1 l1_1.length c1_1], .string (rdOf ByteArray.empty l0 x16_1)] rfl any_s ?_; (with_reducible refine (route_isFix.calls _ _ l1_0 _ _ l1_1 (rdOf ByteArray.empty l0 x16_1) false _ ?side1 ?side2 ?side3 ?side4 A7.out).mono ?_); (case side1 => repeat (first | exact (Kd.C_below HR1_0.out HB.out) | (with_reducible refine Kd.C_alloc ?_ _) | (with_reducible refine Kd.C_drewN ?_ _) | (with_reducible refine Kd.C_drew ?_))); (case side2 => exact HC1_0.out); (case side3 => repeat (first | exact (Kd.C_below HR1_1.out HB.out) | (with_reducible refine Kd.C_alloc ?_ _) | (with_reducible refine Kd.C_drewN ?_ _) | (with_reducible refine Kd.C_drew ?_))); (case side4 => exact HC1_1.out); rintro e wxe8b31 ⟨rfl, hb⟩; refine ⟨_, rfl, ?_⟩; have n0_ := Aside0.mk (blk_below (g := gb196) (o := .cells #[.slice A1_0 l1_0.length c1_0, .slice A1_1 l1_1.length c1_1] 25 (0, 0)) blk_s hb); have n1_ := Aside0.mk (below_step bel_s hb); clear BK196; clear HB; have BK196 := n0_; have HB := n1_; clear n0_ n1_; (try clear hb); (try clear hb2); (try clear hk); (try clear hi); have hczxe8b31 : wxe8b31.cell? ⟨gb196, 0, none⟩ = some (.slice A1_0 l1_0.length c1_0) := (blk_cell BK196.out 0).trans rfl; have hczxe8b32 : wxe8b31.cell? ⟨gb196, 1, none⟩ = some (.slice A1_1 l1_1.length c1_1) := (blk_cell BK196.out 1).trans rfl; have hfzxe8b31 := blk_frozen BK196.out 0; have hfzxe8b32 := blk_frozen BK196.out 1) | ((with_reducible refine gate_callee (f := 64) rfl ?_); refine goesL_ (some 22) rfl rfl Try.func64 (by kernel_rfl) rfl #[.agg #[.slice A1_0 l1_0.length c1_0, .slice A1_1 l1_1.length c1_1], .string (rdOf ByteArray.empty l0 x16_1)] rfl any_s ?_; (with_reducible refine (route_isFix.calls _ _ l1_0 _ _ l1_1 (rdOf ByteArray.empty l0 x16_1) true _ ?side1 ?side2 ?side3 ?side4 A7.out).mono ?_); (case side1 => repeat (first | exact (Kd.C_below HR1_0.out HB.out) | (with_reducible refine Kd.C_alloc ?_ _) | (with_reducible refine Kd.C_drewN ?_ _) | (with_reducible refine Kd.C_drew ?_))); (case side2 => exact HC1_0.out); (case side3 => repeat (first | exact (Kd.C_below HR1_1.out HB.out) | (with_reducible refine Kd.C_alloc ?_ _) | (with_reducible refine Kd.C_drewN ?_ _) | (with_reducible refine Kd.C_drew ?_))); (case side4 => exact HC1_1.out); rintro e wxc6f71 ⟨rfl, hb⟩; refine ⟨_, rfl, ?_⟩; have n0_ := Aside0.mk (blk_below (g := gb196) (o := .cells #[.slice A1_0 l1_0.length c1_0, .slice A1_1 l1_1.length c1_1] 25 (0, 0)) blk_s hb); have n1_ := Aside0.mk (below_step bel_s hb); clear BK196; clear HB; have BK196 := n0_; have HB := n1_; clear n0_ n1_; (try clear hb); (try clear hb2); (try clear hk); (try clear hi)) | (go_at_call 101; (with_reducible refine (route_isAirway.calls _ _ l1_0 _ _ l1_1 (rdOf ByteArray.empty l0 x16_1) true _ ?side1 ?side2 ?side3 ?side4 A11.out).mono ?_); (case side1 => repeat (first | exact (Kd.C_below HR1_0.out HB.out) | (with_reducible refine Kd.C_alloc ?_ _) | (with_reducible refine Kd.C_drewN ?_ _) | (with_reducible refine Kd.C_drew ?_))); (case side2 => exact HC1_0.out); (case side3 => repeat (first | exact (Kd.C_below HR1_1.out HB.out) | (with_reducible refine Kd.C_alloc ?_ _) | (with_reducible refine Kd.C_drewN ?_ _) | (with_reducible refine Kd.C_drew ?_))); (case side4 => exact HC1_1.out); rintro e wxf99e1 ⟨rfl, hb⟩; have n0_ := Aside0.mk (blk_below (g := gb196) (o := .cells #[.slice A1_0 l1_0.length c1_0, .slice A1_1 l1_1.length c1_1] 25 (0, 0)) blk_s hb); have n1_ := Aside0.mk (below_step bel_s hb); clear BK196; clear HB; have BK196 := n0_; have HB := n1_; clear n0_ n1_; (try clear hb); (try clear hb2); (try clear hk); (try clear hi)))
          go_roundg k1
          case measure => have := HK1.out; omega
          case rel => exact ⟨(wrap64 (x16_1 + 1)), (by first | rfl | (simp; done) | (simp [*]; done)), H', ⟨by have := HK1.out; omega⟩, ⟨by (with_reducible repeat (first | refine blk_drewN ?_ _ | refine blk_drew ?_ | refine blk_alloc ?_ _)); exact BK196.out⟩, ⟨by repeat (first | (with_reducible first | exact HB.out | apply below_alloc | apply pw_below_drewN | apply below_drew1 | refine below_set ?_ GE196.out) | exact HB.out)⟩⟩
        | clear hm1_2
          go_wp2
          go_loopg [8] k1 (fun kq v8 w' => ∃ (x8_2 : Int), v8 = .int .i64 x8_2 ∧ Aside0 (route_names.l1 kq l0 x8_2 l1_0 l1_1 = some (r1, r2)) ∧ Aside0 (kq ≤ k1) ∧ Aside0 (w'.heap[gb196]? = some (.cells #[(.slice A1_0 l1_0.length c1_0), (.slice A1_1 l1_1.length c1_1)] 25 (0, 0))) ∧ Aside0 (Below w.heap.size w w'))
          case atStart => exact ⟨(1), (by first | rfl | (simp; done) | (simp [*]; done)), H', ⟨Nat.le_refl _⟩, ⟨by (with_reducible repeat (first | refine blk_drewN ?_ _ | refine blk_drew ?_ | refine blk_alloc ?_ _)); exact BK196.out⟩, ⟨by repeat (first | (with_reducible first | exact HB.out | apply below_alloc | apply pw_below_drewN | apply below_drew1 | refine below_set ?_ GE196.out) | exact HB.out)⟩⟩
          case round =>
           clear H'
           (try clear c1); (try clear p1); (try clear q1); (try clear hx1); (try clear p2); (try clear c4); (try clear c4b0); (try clear c5); (try clear c5b0); (try clear c6); (try clear c6b0); (try clear p6); (try clear c8); (try clear c12); (try clear p19); (try clear q19); (try clear hx19); (try clear hczzc1); (try clear hczzc2); (try clear hczzc3); (try clear hczzc4); (try clear hczzc5); (try clear hczzc6); (try clear hczzc7); (try clear hczzc8); (try clear hczzc9); (try clear hczzc10); (try clear hfzzc1); (try clear hfzzc2); (try clear hfzzc3); (try clear hfzzc4); (try clear hfzzc5); (try clear hfzzc6); (try clear hfzzc7); (try clear hfzzc8); (try clear hfzzc9); (try clear hfzzc10); (try clear hx197_0); (try clear p197); (try clear p2)
           (try clear q197)
           obtain ⟨x8_2, rfl, HA, HK2, BK196, HB⟩ := hrel
           cases gk with
           | zero => exact absurd HA.out (by simp [route_names.l1])
           | succ k2 =>
            have H := HA.out
            clear HA
            simp only [route_names.l1] at H
            refine Or.elim (Classical.em (x8_2 < (l0.length : Int))) (fun c21 => ?p8_) (fun c21 => ?n8_)
            case' p8_ =>
             rw [if_pos c21] at H
             have c21b0 : decide (x8_2 < (l0.length : Int)) = true := decide_eq_true c21
             clear c21
             obtain ⟨ji22, hji22⟩ : ∃ j_ : Int, (wrap64 (x8_2 - 1)) = j_ := ⟨_, rfl⟩
             replace H : (if 0 ≤ (ji22) then (if (ji22) < (l0.length : Int) then ((route_isAirway.f l1_0 l1_1 (rdOf ByteArray.empty l0 (ji22))).bind fun t201 => (if t201 = true then (if 0 ≤ x8_2 then ((route_isAirway.f l1_0 l1_1 (rdOf ByteArray.empty l0 x8_2)).bind fun t203 => (if t203 = true then (some (([] : List ByteArray), 3)) else (route_names.l1 k2 l0 (wrap64 (x8_2 + 1)) l1_0 l1_1))) else (none)) else (route_names.l1 k2 l0 (wrap64 (x8_2 + 1)) l1_0 l1_1))) else (none)) else (none)) = some (r1, r2) := by first | (rw [hji22] at H; exact H) | (simp only [hji22] at H ⊢; exact H)
             have hji22w : (IntKind.i64.wrap (x8_2 - 1)) = ji22 := (i64_w _).trans hji22
             refine Or.elim (Classical.em (0 ≤ (ji22))) (fun c23 => ?p9_) (fun c23 => ?n9_)
             case' p9_ =>
              rw [if_pos c23] at H
              have c23b0 : decide (0 ≤ (ji22)) = true := decide_eq_true c23
              clear c23
              refine Or.elim (Classical.em ((ji22) < (l0.length : Int))) (fun c24 => ?p10_) (fun c24 => ?n10_)
              case' p10_ =>
               rw [if_pos c24] at H
               have c24b0 : decide ((ji22) < (l0.length : Int)) = true := decide_eq_true c24
               clear c24
               replace H := Option.bind_eq_some_iff.mp H
               obtain ⟨t201, A250, H⟩ := H
               replace H : (if t201 = true then (if 0 ≤ x8_2 then ((route_isAirway.f l1_0 l1_1 (rdOf ByteArray.empty l0 x8_2)).bind fun t203 => (if t203 = true then (some (([] : List ByteArray), 3)) else (route_names.l1 k2 l0 (wrap64 (x8_2 + 1)) l1_0 l1_1))) else (none)) else (route_names.l1 k2 l0 (wrap64 (x8_2 + 1)) l1_0 l1_1)) = some (r1, r2) := H
               have A25 := Aside0.mk A250
               clear A250
               refine Or.elim (Classical.em (t201 = true)) (fun c26 => ?p11_) (fun c26 => ?n11_)
               case' p11_ =>
                subst c26
                have H1 : (if 0 ≤ x8_2 then ((route_isAirway.f l1_0 l1_1 (rdOf ByteArray.empty l0 x8_2)).bind fun t203 => (if t203 = true then (some (([] : List ByteArray), 3)) else (route_names.l1 k2 l0 (wrap64 (x8_2 + 1)) l1_0 l1_1))) else (none)) = some (r1, r2) := by rw [if_pos rfl] at H; exact H
                clear H
                have H := H1
                clear H1
                refine Or.elim (Classical.em (0 ≤ x8_2)) (fun c27 => ?p12_) (fun c27 => ?n12_)
                case' p12_ =>
                 rw [if_pos c27] at H
                 have c27b0 : decide (0 ≤ x8_2) = true := decide_eq_true c27
                 clear c27
                 replace H := Option.bind_eq_some_iff.mp H
                 obtain ⟨t203, A280, H⟩ := H
                 replace H : (if t203 = true then (some (([] : List ByteArray), 3)) else (route_names.l1 k2 l0 (wrap64 (x8_2 + 1)) l1_0 l1_1)) = some (r1, r2) := H
                 have A28 := Aside0.mk A280
                 clear A280
                 refine Or.elim (Classical.em (t203 = true)) (fun c29 => ?p13_) (fun c29 => ?n13_)
                 case' p13_ =>
                  subst c29
                  have H1 : (some (([] : List ByteArray), 3)) = some (r1, r2) := by rw [if_pos rfl] at H; exact H
                  clear H
                  have H := H1
                  clear H1
                  simp only [Option.some.injEq, Prod.mk.injEq] at H
                  obtain ⟨rfl, rfl⟩ := H
                  have hm7_0 := Aside0.mk trivial
                 case' n13_ =>
                  replace c29 := Bool.eq_false_iff.mpr c29
                  subst c29
                  have H1 : (route_names.l1 k2 l0 (wrap64 (x8_2 + 1)) l1_0 l1_1) = some (r1, r2) := by rw [if_neg (show ¬ (false = true) by decide)] at H; exact H
                  clear H
                  have H := H1
                  clear H1
                  have hm7_1 := Aside0.mk trivial
                case' n12_ =>
                 rw [if_neg c27] at H
                 exact absurd H (by simp)
               case' n11_ =>
                replace c26 := Bool.eq_false_iff.mpr c26
                subst c26
                have H1 : (route_names.l1 k2 l0 (wrap64 (x8_2 + 1)) l1_0 l1_1) = some (r1, r2) := by rw [if_neg (show ¬ (false = true) by decide)] at H; exact H
                clear H
                have H := H1
                clear H1
                have hm7_2 := Aside0.mk trivial
              case' n10_ =>
               rw [if_neg c24] at H
               exact absurd H (by simp)
             case' n9_ =>
              rw [if_neg c23] at H
              exact absurd H (by simp)
            case' n8_ =>
             rw [if_neg c21] at H
             have c21b0 : decide (x8_2 < (l0.length : Int)) = false := decide_eq_false c21
             clear c21
             have hm7_3 := Aside0.mk trivial
            all_goals
             first
              | clear hm7_0
                try go_wp2
                have n0_ := Aside0.mk (blk_drew BK196.out)
                have n1_ := Aside0.mk (below_drew1 HB.out)
                clear BK196
                clear HB
                have BK196 := n0_
                have HB := n1_
                clear n0_ n1_
                have p200 : 0 ≤ ((ji22) : Int) := of_decide_eq_true (by first | (with_reducible assumption) | assumption)
                have q200 : (ji22) < (l0.length : Int) := of_decide_eq_true (by first | (with_reducible assumption) | assumption)
                obtain ⟨ad200, e200, hx200_0⟩ := Kd.at_string HR0.out (ji22) p200 q200
                have hw200_0 := hx200_0
                cases e200
                replace hx200_0 := (HB.out.cell (World.block_lt_of_cell? w _ hx200_0)).trans hx200_0
                replace p200 := eq_true p200
                replace q200 := eq_true q200
                have p202 : 0 ≤ (x8_2 : Int) := of_decide_eq_true (by first | (with_reducible assumption) | assumption)
                have q202 : x8_2 < (l0.length : Int) := of_decide_eq_true (by first | (with_reducible assumption) | assumption)
                obtain ⟨ad202, e202, hx202_0⟩ := Kd.at_string HR0.out x8_2 p202 q202
                have hw202_0 := hx202_0
                obtain rfl : ad200 = ad202 := (by injection e202)
                replace hx202_0 := (HB.out.cell (World.block_lt_of_cell? w _ hx202_0)).trans hx202_0
                replace p202 := eq_true p202
                replace q202 := eq_true q202
                refine start_ (n := 15) (S := fun w' => w'.cell? ⟨gb196, 0, none⟩ = some (.slice A1_0 l1_0.length c1_0) ∧ w'.cell? ⟨gb196, 1, none⟩ = some (.slice A1_1 l1_1.length c1_1) ∧ w'.cell? (ad200.add ((ji22)).toNat) = some (.string (rdOf ByteArray.empty l0 (ji22))) ∧ w'.cell? (ad200.add (x8_2).toNat) = some (.string (rdOf ByteArray.empty l0 x8_2))) (ds := []) #[false, false, false, false, false, false, false, false, false, false, false, false, false, false, false] (by kernel_rfl) rfl rfl ⟨(blk_cell BK196.out 0).trans rfl, (blk_cell BK196.out 1).trans rfl, ((HB.out.cell (World.block_lt_of_cell? w _ hw200_0)).trans hw200_0), ((HB.out.cell (World.block_lt_of_cell? w _ hw202_0)).trans hw202_0)⟩ (fun hHeld => ?_); refine with_tabW route_names.tab10 route_names.bits10 (fun HT_ HW_ => ?_)
                generalize wr.drew = wze1 at BK196 HB hx200_0 hx202_0 hHeld ⊢
                refine pure_ (i := 1) (N := some 38) (v := ?_) (a' := ?_) #[false, true, false, false, false, false, false, false, false, false, false, false, false, false, false] rfl rfl (any_of HT_.out (by kernel_rfl)) (fun _ _ _ h => h) (Or.inl ⟨by rfl, ?_⟩) ?_ ?_
                rotate_left
                · intro w'
                  go_simp
                  with_reducible rfl
                rotate_left
                · simp only [Act.put, List.setIfInBounds_toArray, List.set_cons_zero, List.set_cons_succ, i64_w, i32_w]
                  rfl
                refine pure_ (i := 2) (N := some 39) (v := ?_) (a' := ?_) #[false, true, true, false, false, false, false, false, false, false, false, false, false, false, false] rfl rfl (any_of HT_.out (by kernel_rfl)) (fun _ _ _ h => h) (Or.inl ⟨by rfl, ?_⟩) ?_ ?_
                rotate_left
                · intro w'
                  go_simp
                  with_reducible rfl
                rotate_left
                · simp only [Act.put, List.setIfInBounds_toArray, List.set_cons_zero, List.set_cons_succ, i64_w, i32_w]
                  rfl
                refine pure_ (i := 3) (N := some 40) (v := ?_) (a' := ?_) #[false, true, true, true, false, false, false, false, false, false, false, false, false, false, false] rfl rfl (any_of HT_.out (by kernel_rfl)) (fun _ _ _ h => h) (Or.inl ⟨by rfl, ?_⟩) ?_ ?_
                rotate_left
                · intro w'
                  go_simp
                  with_reducible rfl
                rotate_left
                · simp only [Act.put, List.setIfInBounds_toArray, List.set_cons_zero, List.set_cons_succ, i64_w, i32_w]
                  rfl
                refine pure_ (i := 4) (N := some 41) (v := ?_) (a' := ?_) #[false, true, true, true, true, false, false, false, false, false, false, false, false, false, false] rfl rfl (any_of HT_.out (by kernel_rfl)) (fun _ _ _ h => h) (Or.inl ⟨by rfl, ?_⟩) ?_ ?_
                rotate_left
                · intro w'
                  go_simp
                  with_reducible rfl
                rotate_left
                · simp only [Act.put, List.setIfInBounds_toArray, List.set_cons_zero, List.set_cons_succ, i64_w, i32_w]
                  rfl
                refine take_ (i := 0) (N := some 37) (v := ?_) (a' := ?_) #[true, true, true, true, true, false, false, false, false, false, false, false, false, false, false] rfl rfl (take_ofW HT_.out HW_.out (by kernel_rfl)) (fun _ _ _ h => h) (Or.inl ⟨by rfl, ?_⟩) hHeld ?_ ?_
                rotate_left
                · rintro w' ⟨s0, s1, s2, s3⟩
                  go_simp
                  with_reducible rfl
                rotate_left
                · simp only [Act.put, List.setIfInBounds_toArray, List.set_cons_zero, List.set_cons_succ, i64_w, i32_w]
                  rfl
                refine take_ (i := 5) (N := some 42) (v := ?_) (a' := ?_) #[true, true, true, true, true, true, false, false, false, false, false, false, false, false, false] rfl rfl (take_ofW HT_.out HW_.out (by kernel_rfl)) (fun _ _ _ h => h) (Or.inl ⟨by rfl, ?_⟩) hHeld ?_ ?_
                rotate_left
                · rintro w' ⟨s0, s1, s2, s3⟩
                  go_simp
                  with_reducible rfl
                rotate_left
                · simp only [Act.put, List.setIfInBounds_toArray, List.set_cons_zero, List.set_cons_succ, i64_w, i32_w]
                  rfl
                refine one_ (i := 6) (N := some 43) #[true, true, true, true, true, true, true, false, false, false, false, false, false, false, false] rfl rfl (one_of HT_.out (by kernel_rfl)) (by decide) (fun K hK => ?_)
                refine goes_ Try.func101 (by kernel_rfl) rfl #[.agg #[.slice A1_0 l1_0.length c1_0, .slice A1_1 l1_1.length c1_1], .string (rdOf ByteArray.empty l0 (ji22))] (by rfl) rfl rfl (by (try simp only [List.map_toArray, List.map_cons, List.map_nil]); first | done | (simp only [hji22]; rfl) | rfl | (simp only [List.length_drop, List.length_take]; rfl)) ?_
                with_reducible refine (route_isAirway.calls _ _ l1_0 _ _ l1_1 (rdOf ByteArray.empty l0 (ji22)) true _ ?side1 ?side2 ?side3 ?side4 A25.out).mono ?_
                (case side1 => repeat (first | exact (Kd.C_below HR1_0.out HB.out) | (with_reducible refine Kd.C_alloc ?_ _) | (with_reducible refine Kd.C_drewN ?_ _) | (with_reducible refine Kd.C_drew ?_)))
                (case side2 => exact HC1_0.out)
                (case side3 => repeat (first | exact (Kd.C_below HR1_1.out HB.out) | (with_reducible refine Kd.C_alloc ?_ _) | (with_reducible refine Kd.C_drewN ?_ _) | (with_reducible refine Kd.C_drew ?_)))
                (case side4 => exact HC1_1.out)
                rintro e wze2 ⟨rfl, hb⟩
                refine ⟨_, rfl, ?_⟩
                have n0_ := Aside0.mk (blk_below (g := gb196) (o := .cells #[.slice A1_0 l1_0.length c1_0, .slice A1_1 l1_1.length c1_1] 25 (0, 0)) blk_s hb)
                have n1_ := Aside0.mk (below_step bel_s hb)
                clear BK196
                clear HB
                have BK196 := n0_
                have HB := n1_
                clear n0_ n1_
                (try clear hb)
                (try clear hb2)
                (try clear hk)
                (try clear hi)
                refine hK.out _ _ ⟨(blk_cell BK196.out 0).trans rfl, (blk_cell BK196.out 1).trans rfl, ((HB.out.cell (World.block_lt_of_cell? w _ hw200_0)).trans hw200_0), ((HB.out.cell (World.block_lt_of_cell? w _ hw202_0)).trans hw202_0)⟩ (fun hHeld => ?_)
                clear hK K
                refine norm_ (a' := ?_) ?_ ?_
                rotate_left
                · show Act.put _ (some 43) _ = _
                  simp only [Act.put, List.setIfInBounds_toArray, List.set_cons_zero, List.set_cons_succ, i64_w, i32_w]
                  rfl
                refine pure_ (i := 7) (N := some 44) (v := ?_) (a' := ?_) #[true, true, true, true, true, true, true, true, false, false, false, false, false, false, false] rfl rfl (any_of HT_.out (by kernel_rfl)) (fun _ _ _ h => h) (Or.inl ⟨by rfl, ?_⟩) ?_ ?_
                rotate_left
                · intro w'
                  go_simp
                  with_reducible rfl
                rotate_left
                · simp only [Act.put, List.setIfInBounds_toArray, List.set_cons_zero, List.set_cons_succ, i64_w, i32_w]
                  rfl
                refine pure_ (i := 9) (N := some 46) (v := ?_) (a' := ?_) #[true, true, true, true, true, true, true, true, false, true, false, false, false, false, false] rfl rfl (any_of HT_.out (by kernel_rfl)) (fun _ _ _ h => h) (Or.inl ⟨by rfl, ?_⟩) ?_ ?_
                rotate_left
                · intro w'
                  go_simp
                  with_reducible rfl
                rotate_left
                · simp only [Act.put, List.setIfInBounds_toArray, List.set_cons_zero, List.set_cons_succ, i64_w, i32_w]
                  rfl
                refine pure_ (i := 10) (N := some 47) (v := ?_) (a' := ?_) #[true, true, true, true, true, true, true, true, false, true, true, false, false, false, false] rfl rfl (any_of HT_.out (by kernel_rfl)) (fun _ _ _ h => h) (Or.inl ⟨by rfl, ?_⟩) ?_ ?_
                rotate_left
                · intro w'
                  go_simp
                  with_reducible rfl
                rotate_left
                · simp only [Act.put, List.setIfInBounds_toArray, List.set_cons_zero, List.set_cons_succ, i64_w, i32_w]
                  rfl
                refine pure_ (i := 11) (N := some 48) (v := ?_) (a' := ?_) #[true, true, true, true, true, true, true, true, false, true, true, true, false, false, false] rfl rfl (any_of HT_.out (by kernel_rfl)) (fun _ _ _ h => h) (Or.inl ⟨by rfl, ?_⟩) ?_ ?_
                rotate_left
                · intro w'
                  go_simp
                  with_reducible rfl
                rotate_left
                · simp only [Act.put, List.setIfInBounds_toArray, List.set_cons_zero, List.set_cons_succ, i64_w, i32_w]
                  rfl
                refine take_ (i := 8) (N := some 45) (v := ?_) (a' := ?_) #[true, true, true, true, true, true, true, true, true, true, true, true, false, false, false] rfl rfl (take_ofW HT_.out HW_.out (by kernel_rfl)) (fun _ _ _ h => h) (Or.inl ⟨by rfl, ?_⟩) hHeld ?_ ?_
                rotate_left
                · rintro w' ⟨s0, s1, s2, s3⟩
                  go_simp
                  with_reducible rfl
                rotate_left
                · simp only [Act.put, List.setIfInBounds_toArray, List.set_cons_zero, List.set_cons_succ, i64_w, i32_w]
                  rfl
                refine take_ (i := 12) (N := some 49) (v := ?_) (a' := ?_) #[true, true, true, true, true, true, true, true, true, true, true, true, true, false, false] rfl rfl (take_ofW HT_.out HW_.out (by kernel_rfl)) (fun _ _ _ h => h) (Or.inl ⟨by rfl, ?_⟩) hHeld ?_ ?_
                rotate_left
                · rintro w' ⟨s0, s1, s2, s3⟩
                  go_simp
                  with_reducible rfl
                rotate_left
                · simp only [Act.put, List.setIfInBounds_toArray, List.set_cons_zero, List.set_cons_succ, i64_w, i32_w]
                  rfl
                refine one_ (i := 13) (N := some 50) #[true, true, true, true, true, true, true, true, true, true, true, true, true, true, false] rfl rfl (one_of HT_.out (by kernel_rfl)) (by decide) (fun K hK => ?_)
                refine goes_ Try.func101 (by kernel_rfl) rfl #[.agg #[.slice A1_0 l1_0.length c1_0, .slice A1_1 l1_1.length c1_1], .string (rdOf ByteArray.empty l0 x8_2)] (by rfl) rfl rfl any_s ?_
                with_reducible refine (route_isAirway.calls _ _ l1_0 _ _ l1_1 (rdOf ByteArray.empty l0 x8_2) true _ ?side1 ?side2 ?side3 ?side4 A28.out).mono ?_
                (case side1 => repeat (first | exact (Kd.C_below HR1_0.out HB.out) | (with_reducible refine Kd.C_alloc ?_ _) | (with_reducible refine Kd.C_drewN ?_ _) | (with_reducible refine Kd.C_drew ?_)))
                (case side2 => exact HC1_0.out)
                (case side3 => repeat (first | exact (Kd.C_below HR1_1.out HB.out) | (with_reducible refine Kd.C_alloc ?_ _) | (with_reducible refine Kd.C_drewN ?_ _) | (with_reducible refine Kd.C_drew ?_)))
                (case side4 => exact HC1_1.out)
                rintro e wze3 ⟨rfl, hb⟩
                refine ⟨_, rfl, ?_⟩
                have n0_ := Aside0.mk (blk_below (g := gb196) (o := .cells #[.slice A1_0 l1_0.length c1_0, .slice A1_1 l1_1.length c1_1] 25 (0, 0)) blk_s hb)
                have n1_ := Aside0.mk (below_step bel_s hb)
                clear BK196
                clear HB
                have BK196 := n0_
                have HB := n1_
                clear n0_ n1_
                (try clear hb)
                (try clear hb2)
                (try clear hk)
                (try clear hi)
                refine hK.out _ _ ⟨(blk_cell BK196.out 0).trans rfl, (blk_cell BK196.out 1).trans rfl, ((HB.out.cell (World.block_lt_of_cell? w _ hw200_0)).trans hw200_0), ((HB.out.cell (World.block_lt_of_cell? w _ hw202_0)).trans hw202_0)⟩ (fun hHeld => ?_)
                clear hK K
                refine norm_ (a' := ?_) ?_ ?_
                rotate_left
                · show Act.put _ (some 50) _ = _
                  simp only [Act.put, List.setIfInBounds_toArray, List.set_cons_zero, List.set_cons_succ, i64_w, i32_w]
                  rfl
                refine pure_ (i := 14) (N := some 51) (v := ?_) (a' := ?_) #[true, true, true, true, true, true, true, true, true, true, true, true, true, true, true] rfl rfl (any_of HT_.out (by kernel_rfl)) (fun _ _ _ h => h) (Or.inl ⟨by rfl, ?_⟩) ?_ ?_
                rotate_left
                · intro w'
                  go_simp
                  with_reducible rfl
                rotate_left
                · simp only [Act.put, List.setIfInBounds_toArray, List.set_cons_zero, List.set_cons_succ, i64_w, i32_w]
                  rfl
                refine done_ (done_of HT_.out (by kernel_rfl)) ?_
                try go_wp2
                go_ret2
                exact ⟨_, by first | rfl | (simp [errW_none, errW_some] <;> rfl) | (simp only [← hji22]; first | rfl | (simp [errW_none, errW_some] <;> rfl)) | (simp [*, errW_none, errW_some] <;> rfl), by first | exact Kd.R_nil _ _ _ _ _ | exact Kd.N_nil _ _ _ _ _ | exact Kd.V_nil _ _ _ _ _ | exact Kd.Q_nil _ _ _ _ _ | exact Kd.S_nil _ _ _ _ _, by repeat (first | (with_reducible first | exact HB.out | apply below_alloc | apply pw_below_drewN | apply below_drew1 | refine below_set ?_ GE196.out) | exact HB.out)⟩
              | (first | (have _hm := hm7_1) | (have _hm := hm7_2) | (have _hm := hm7_3))
                have H' := Aside0.mk H
                clear H
                first
                 | (first | (have _hm := hm7_1) | (have _hm := hm7_2))
                   try go_wp2
                   have n0_ := Aside0.mk (blk_drew BK196.out)
                   have n1_ := Aside0.mk (below_drew1 HB.out)
                   clear BK196
                   clear HB
                   have BK196 := n0_
                   have HB := n1_
                   clear n0_ n1_
                   have p200 : 0 ≤ ((ji22) : Int) := of_decide_eq_true (by first | (with_reducible assumption) | assumption)
                   have q200 : (ji22) < (l0.length : Int) := of_decide_eq_true (by first | (with_reducible assumption) | assumption)
                   obtain ⟨ad200, e200, hx200_0⟩ := Kd.at_string HR0.out (ji22) p200 q200
                   have hw200_0 := hx200_0
                   cases e200
                   replace hx200_0 := (HB.out.cell (World.block_lt_of_cell? w _ hx200_0)).trans hx200_0
                   replace p200 := eq_true p200
                   replace q200 := eq_true q200
                   first
                    | clear hm7_1
                      have p202 : 0 ≤ (x8_2 : Int) := of_decide_eq_true (by first | (with_reducible assumption) | assumption)
                      have q202 : x8_2 < (l0.length : Int) := of_decide_eq_true (by first | (with_reducible assumption) | assumption)
                      obtain ⟨ad202, e202, hx202_0⟩ := Kd.at_string HR0.out x8_2 p202 q202
                      have hw202_0 := hx202_0
                      obtain rfl : ad200 = ad202 := (by injection e202)
                      replace hx202_0 := (HB.out.cell (World.block_lt_of_cell? w _ hx202_0)).trans hx202_0
                      replace p202 := eq_true p202
                      replace q202 := eq_true q202
                      refine start_ (n := 15) (S := fun w' => w'.cell? ⟨gb196, 0, none⟩ = some (.slice A1_0 l1_0.length c1_0) ∧ w'.cell? ⟨gb196, 1, none⟩ = some (.slice A1_1 l1_1.length c1_1) ∧ w'.cell? (ad200.add ((ji22)).toNat) = some (.string (rdOf ByteArray.empty l0 (ji22))) ∧ w'.cell? (ad200.add (x8_2).toNat) = some (.string (rdOf ByteArray.empty l0 x8_2))) (ds := []) #[false, false, false, false, false, false, false, false, false, false, false, false, false, false, false] (by kernel_rfl) rfl rfl ⟨(blk_cell BK196.out 0).trans rfl, (blk_cell BK196.out 1).trans rfl, ((HB.out.cell (World.block_lt_of_cell? w _ hw200_0)).trans hw200_0), ((HB.out.cell (World.block_lt_of_cell? w _ hw202_0)).trans hw202_0)⟩ (fun hHeld => ?_); refine with_tabW route_names.tab10 route_names.bits10 (fun HT_ HW_ => ?_)
                      generalize wr.drew = wze1 at BK196 HB hx200_0 hx202_0 hHeld ⊢
                      refine pure_ (i := 1) (N := some 38) (v := ?_) (a' := ?_) #[false, true, false, false, false, false, false, false, false, false, false, false, false, false, false] rfl rfl (any_of HT_.out (by kernel_rfl)) (fun _ _ _ h => h) (Or.inl ⟨by rfl, ?_⟩) ?_ ?_
                      rotate_left
                      · intro w'
                        go_simp
                        with_reducible rfl
                      rotate_left
                      · simp only [Act.put, List.setIfInBounds_toArray, List.set_cons_zero, List.set_cons_succ, i64_w, i32_w]
                        rfl
                      refine pure_ (i := 2) (N := some 39) (v := ?_) (a' := ?_) #[false, true, true, false, false, false, false, false, false, false, false, false, false, false, false] rfl rfl (any_of HT_.out (by kernel_rfl)) (fun _ _ _ h => h) (Or.inl ⟨by rfl, ?_⟩) ?_ ?_
                      rotate_left
                      · intro w'
                        go_simp
                        with_reducible rfl
                      rotate_left
                      · simp only [Act.put, List.setIfInBounds_toArray, List.set_cons_zero, List.set_cons_succ, i64_w, i32_w]
                        rfl
                      refine pure_ (i := 3) (N := some 40) (v := ?_) (a' := ?_) #[false, true, true, true, false, false, false, false, false, false, false, false, false, false, false] rfl rfl (any_of HT_.out (by kernel_rfl)) (fun _ _ _ h => h) (Or.inl ⟨by rfl, ?_⟩) ?_ ?_
                      rotate_left
                      · intro w'
                        go_simp
                        with_reducible rfl
                      rotate_left
                      · simp only [Act.put, List.setIfInBounds_toArray, List.set_cons_zero, List.set_cons_succ, i64_w, i32_w]
                        rfl
                      refine pure_ (i := 4) (N := some 41) (v := ?_) (a' := ?_) #[false, true, true, true, true, false, false, false, false, false, false, false, false, false, false] rfl rfl (any_of HT_.out (by kernel_rfl)) (fun _ _ _ h => h) (Or.inl ⟨by rfl, ?_⟩) ?_ ?_
                      rotate_left
                      · intro w'
                        go_simp
                        with_reducible rfl
                      rotate_left
                      · simp only [Act.put, List.setIfInBounds_toArray, List.set_cons_zero, List.set_cons_succ, i64_w, i32_w]
                        rfl
                      refine take_ (i := 0) (N := some 37) (v := ?_) (a' := ?_) #[true, true, true, true, true, false, false, false, false, false, false, false, false, false, false] rfl rfl (take_ofW HT_.out HW_.out (by kernel_rfl)) (fun _ _ _ h => h) (Or.inl ⟨by rfl, ?_⟩) hHeld ?_ ?_
                      rotate_left
                      · rintro w' ⟨s0, s1, s2, s3⟩
                        go_simp
                        with_reducible rfl
                      rotate_left
                      · simp only [Act.put, List.setIfInBounds_toArray, List.set_cons_zero, List.set_cons_succ, i64_w, i32_w]
                        rfl
                      refine take_ (i := 5) (N := some 42) (v := ?_) (a' := ?_) #[true, true, true, true, true, true, false, false, false, false, false, false, false, false, false] rfl rfl (take_ofW HT_.out HW_.out (by kernel_rfl)) (fun _ _ _ h => h) (Or.inl ⟨by rfl, ?_⟩) hHeld ?_ ?_
                      rotate_left
                      · rintro w' ⟨s0, s1, s2, s3⟩
                        go_simp
                        with_reducible rfl
                      rotate_left
                      · simp only [Act.put, List.setIfInBounds_toArray, List.set_cons_zero, List.set_cons_succ, i64_w, i32_w]
                        rfl
                      refine one_ (i := 6) (N := some 43) #[true, true, true, true, true, true, true, false, false, false, false, false, false, false, false] rfl rfl (one_of HT_.out (by kernel_rfl)) (by decide) (fun K hK => ?_)
                      refine goes_ Try.func101 (by kernel_rfl) rfl #[.agg #[.slice A1_0 l1_0.length c1_0, .slice A1_1 l1_1.length c1_1], .string (rdOf ByteArray.empty l0 (ji22))] (by rfl) rfl rfl (by (try simp only [List.map_toArray, List.map_cons, List.map_nil]); first | done | (simp only [hji22]; rfl) | rfl | (simp only [List.length_drop, List.length_take]; rfl)) ?_
                      with_reducible refine (route_isAirway.calls _ _ l1_0 _ _ l1_1 (rdOf ByteArray.empty l0 (ji22)) true _ ?side1 ?side2 ?side3 ?side4 A25.out).mono ?_
                      (case side1 => repeat (first | exact (Kd.C_below HR1_0.out HB.out) | (with_reducible refine Kd.C_alloc ?_ _) | (with_reducible refine Kd.C_drewN ?_ _) | (with_reducible refine Kd.C_drew ?_)))
                      (case side2 => exact HC1_0.out)
                      (case side3 => repeat (first | exact (Kd.C_below HR1_1.out HB.out) | (with_reducible refine Kd.C_alloc ?_ _) | (with_reducible refine Kd.C_drewN ?_ _) | (with_reducible refine Kd.C_drew ?_)))
                      (case side4 => exact HC1_1.out)
                      rintro e wze2 ⟨rfl, hb⟩
                      refine ⟨_, rfl, ?_⟩
                      have n0_ := Aside0.mk (blk_below (g := gb196) (o := .cells #[.slice A1_0 l1_0.length c1_0, .slice A1_1 l1_1.length c1_1] 25 (0, 0)) blk_s hb)
                      have n1_ := Aside0.mk (below_step bel_s hb)
                      clear BK196
                      clear HB
                      have BK196 := n0_
                      have HB := n1_
                      clear n0_ n1_
                      (try clear hb)
                      (try clear hb2)
                      (try clear hk)
                      (try clear hi)
                      refine hK.out _ _ ⟨(blk_cell BK196.out 0).trans rfl, (blk_cell BK196.out 1).trans rfl, ((HB.out.cell (World.block_lt_of_cell? w _ hw200_0)).trans hw200_0), ((HB.out.cell (World.block_lt_of_cell? w _ hw202_0)).trans hw202_0)⟩ (fun hHeld => ?_)
                      clear hK K
                      refine norm_ (a' := ?_) ?_ ?_
                      rotate_left
                      · show Act.put _ (some 43) _ = _
                        simp only [Act.put, List.setIfInBounds_toArray, List.set_cons_zero, List.set_cons_succ, i64_w, i32_w]
                        rfl
                      refine pure_ (i := 7) (N := some 44) (v := ?_) (a' := ?_) #[true, true, true, true, true, true, true, true, false, false, false, false, false, false, false] rfl rfl (any_of HT_.out (by kernel_rfl)) (fun _ _ _ h => h) (Or.inl ⟨by rfl, ?_⟩) ?_ ?_
                      rotate_left
                      · intro w'
                        go_simp
                        with_reducible rfl
                      rotate_left
                      · simp only [Act.put, List.setIfInBounds_toArray, List.set_cons_zero, List.set_cons_succ, i64_w, i32_w]
                        rfl
                      refine pure_ (i := 9) (N := some 46) (v := ?_) (a' := ?_) #[true, true, true, true, true, true, true, true, false, true, false, false, false, false, false] rfl rfl (any_of HT_.out (by kernel_rfl)) (fun _ _ _ h => h) (Or.inl ⟨by rfl, ?_⟩) ?_ ?_
                      rotate_left
                      · intro w'
                        go_simp
                        with_reducible rfl
                      rotate_left
                      · simp only [Act.put, List.setIfInBounds_toArray, List.set_cons_zero, List.set_cons_succ, i64_w, i32_w]
                        rfl
                      refine pure_ (i := 10) (N := some 47) (v := ?_) (a' := ?_) #[true, true, true, true, true, true, true, true, false, true, true, false, false, false, false] rfl rfl (any_of HT_.out (by kernel_rfl)) (fun _ _ _ h => h) (Or.inl ⟨by rfl, ?_⟩) ?_ ?_
                      rotate_left
                      · intro w'
                        go_simp
                        with_reducible rfl
                      rotate_left
                      · simp only [Act.put, List.setIfInBounds_toArray, List.set_cons_zero, List.set_cons_succ, i64_w, i32_w]
                        rfl
                      refine pure_ (i := 11) (N := some 48) (v := ?_) (a' := ?_) #[true, true, true, true, true, true, true, true, false, true, true, true, false, false, false] rfl rfl (any_of HT_.out (by kernel_rfl)) (fun _ _ _ h => h) (Or.inl ⟨by rfl, ?_⟩) ?_ ?_
                      rotate_left
                      · intro w'
                        go_simp
                        with_reducible rfl
                      rotate_left
                      · simp only [Act.put, List.setIfInBounds_toArray, List.set_cons_zero, List.set_cons_succ, i64_w, i32_w]
                        rfl
                      refine take_ (i := 8) (N := some 45) (v := ?_) (a' := ?_) #[true, true, true, true, true, true, true, true, true, true, true, true, false, false, false] rfl rfl (take_ofW HT_.out HW_.out (by kernel_rfl)) (fun _ _ _ h => h) (Or.inl ⟨by rfl, ?_⟩) hHeld ?_ ?_
                      rotate_left
                      · rintro w' ⟨s0, s1, s2, s3⟩
                        go_simp
                        with_reducible rfl
                      rotate_left
                      · simp only [Act.put, List.setIfInBounds_toArray, List.set_cons_zero, List.set_cons_succ, i64_w, i32_w]
                        rfl
                      refine take_ (i := 12) (N := some 49) (v := ?_) (a' := ?_) #[true, true, true, true, true, true, true, true, true, true, true, true, true, false, false] rfl rfl (take_ofW HT_.out HW_.out (by kernel_rfl)) (fun _ _ _ h => h) (Or.inl ⟨by rfl, ?_⟩) hHeld ?_ ?_
                      rotate_left
                      · rintro w' ⟨s0, s1, s2, s3⟩
                        go_simp
                        with_reducible rfl
                      rotate_left
                      · simp only [Act.put, List.setIfInBounds_toArray, List.set_cons_zero, List.set_cons_succ, i64_w, i32_w]
                        rfl
                      refine one_ (i := 13) (N := some 50) #[true, true, true, true, true, true, true, true, true, true, true, true, true, true, false] rfl rfl (one_of HT_.out (by kernel_rfl)) (by decide) (fun K hK => ?_)
                      refine goes_ Try.func101 (by kernel_rfl) rfl #[.agg #[.slice A1_0 l1_0.length c1_0, .slice A1_1 l1_1.length c1_1], .string (rdOf ByteArray.empty l0 x8_2)] (by rfl) rfl rfl any_s ?_
                      with_reducible refine (route_isAirway.calls _ _ l1_0 _ _ l1_1 (rdOf ByteArray.empty l0 x8_2) false _ ?side1 ?side2 ?side3 ?side4 A28.out).mono ?_
                      (case side1 => repeat (first | exact (Kd.C_below HR1_0.out HB.out) | (with_reducible refine Kd.C_alloc ?_ _) | (with_reducible refine Kd.C_drewN ?_ _) | (with_reducible refine Kd.C_drew ?_)))
                      (case side2 => exact HC1_0.out)
                      (case side3 => repeat (first | exact (Kd.C_below HR1_1.out HB.out) | (with_reducible refine Kd.C_alloc ?_ _) | (with_reducible refine Kd.C_drewN ?_ _) | (with_reducible refine Kd.C_drew ?_)))
                      (case side4 => exact HC1_1.out)
                      rintro e wze3 ⟨rfl, hb⟩
                      refine ⟨_, rfl, ?_⟩
                      have n0_ := Aside0.mk (blk_below (g := gb196) (o := .cells #[.slice A1_0 l1_0.length c1_0, .slice A1_1 l1_1.length c1_1] 25 (0, 0)) blk_s hb)
                      have n1_ := Aside0.mk (below_step bel_s hb)
                      clear BK196
                      clear HB
                      have BK196 := n0_
                      have HB := n1_
                      clear n0_ n1_
                      (try clear hb)
                      (try clear hb2)
                      (try clear hk)
                      (try clear hi)
                      refine hK.out _ _ ⟨(blk_cell BK196.out 0).trans rfl, (blk_cell BK196.out 1).trans rfl, ((HB.out.cell (World.block_lt_of_cell? w _ hw200_0)).trans hw200_0), ((HB.out.cell (World.block_lt_of_cell? w _ hw202_0)).trans hw202_0)⟩ (fun hHeld => ?_)
                      clear hK K
                      refine norm_ (a' := ?_) ?_ ?_
                      rotate_left
                      · show Act.put _ (some 50) _ = _
                        simp only [Act.put, List.setIfInBounds_toArray, List.set_cons_zero, List.set_cons_succ, i64_w, i32_w]
                        rfl
                      refine pure_ (i := 14) (N := some 51) (v := ?_) (a' := ?_) #[true, true, true, true, true, true, true, true, true, true, true, true, true, true, true] rfl rfl (any_of HT_.out (by kernel_rfl)) (fun _ _ _ h => h) (Or.inl ⟨by rfl, ?_⟩) ?_ ?_
                      rotate_left
                      · intro w'
                        go_simp
                        with_reducible rfl
                      rotate_left
                      · simp only [Act.put, List.setIfInBounds_toArray, List.set_cons_zero, List.set_cons_succ, i64_w, i32_w]
                        rfl
                      refine done_ (done_of HT_.out (by kernel_rfl)) ?_
                      try go_wp2
                      first | go_roundg k2 | (subst hji22; go_roundg k2)
                      case measure => have := HK1.out; have := HK2.out; omega
                      case rel => exact ⟨(wrap64 (x8_2 + 1)), (by first | rfl | (simp; done) | (simp [*]; done)), H', ⟨by have := HK1.out; have := HK2.out; omega⟩, ⟨by (with_reducible repeat (first | refine blk_drewN ?_ _ | refine blk_drew ?_ | refine blk_alloc ?_ _)); exact BK196.out⟩, ⟨by repeat (first | (with_reducible first | exact HB.out | apply below_alloc | apply pw_below_drewN | apply below_drew1 | refine below_set ?_ GE196.out) | exact HB.out)⟩⟩
                    | clear hm7_2
                      refine start_ (n := 15) (S := fun w' => w'.cell? ⟨gb196, 0, none⟩ = some (.slice A1_0 l1_0.length c1_0) ∧ w'.cell? ⟨gb196, 1, none⟩ = some (.slice A1_1 l1_1.length c1_1) ∧ w'.cell? (ad200.add ((ji22)).toNat) = some (.string (rdOf ByteArray.empty l0 (ji22)))) (ds := []) #[false, false, false, false, false, false, false, false, false, false, false, false, false, false, false] (by kernel_rfl) rfl rfl ⟨(blk_cell BK196.out 0).trans rfl, (blk_cell BK196.out 1).trans rfl, ((HB.out.cell (World.block_lt_of_cell? w _ hw200_0)).trans hw200_0)⟩ (fun hHeld => ?_); refine with_tabW route_names.tab10 route_names.bits10 (fun HT_ HW_ => ?_)
                      generalize wr.drew = wze1 at BK196 HB hx200_0 hHeld ⊢
                      refine pure_ (i := 1) (N := some 38) (v := ?_) (a' := ?_) #[false, true, false, false, false, false, false, false, false, false, false, false, false, false, false] rfl rfl (any_of HT_.out (by kernel_rfl)) (fun _ _ _ h => h) (Or.inl ⟨by rfl, ?_⟩) ?_ ?_
                      rotate_left
                      · intro w'
                        go_simp
                        with_reducible rfl
                      rotate_left
                      · simp only [Act.put, List.setIfInBounds_toArray, List.set_cons_zero, List.set_cons_succ, i64_w, i32_w]
                        rfl
                      refine pure_ (i := 2) (N := some 39) (v := ?_) (a' := ?_) #[false, true, true, false, false, false, false, false, false, false, false, false, false, false, false] rfl rfl (any_of HT_.out (by kernel_rfl)) (fun _ _ _ h => h) (Or.inl ⟨by rfl, ?_⟩) ?_ ?_
                      rotate_left
                      · intro w'
                        go_simp
                        with_reducible rfl
                      rotate_left
                      · simp only [Act.put, List.setIfInBounds_toArray, List.set_cons_zero, List.set_cons_succ, i64_w, i32_w]
                        rfl
                      refine pure_ (i := 3) (N := some 40) (v := ?_) (a' := ?_) #[false, true, true, true, false, false, false, false, false, false, false, false, false, false, false] rfl rfl (any_of HT_.out (by kernel_rfl)) (fun _ _ _ h => h) (Or.inl ⟨by rfl, ?_⟩) ?_ ?_
                      rotate_left
                      · intro w'
                        go_simp
                        with_reducible rfl
                      rotate_left
                      · simp only [Act.put, List.setIfInBounds_toArray, List.set_cons_zero, List.set_cons_succ, i64_w, i32_w]
                        rfl
                      refine pure_ (i := 4) (N := some 41) (v := ?_) (a' := ?_) #[false, true, true, true, true, false, false, false, false, false, false, false, false, false, false] rfl rfl (any_of HT_.out (by kernel_rfl)) (fun _ _ _ h => h) (Or.inl ⟨by rfl, ?_⟩) ?_ ?_
                      rotate_left
                      · intro w'
                        go_simp
                        with_reducible rfl
                      rotate_left
                      · simp only [Act.put, List.setIfInBounds_toArray, List.set_cons_zero, List.set_cons_succ, i64_w, i32_w]
                        rfl
                      refine take_ (i := 0) (N := some 37) (v := ?_) (a' := ?_) #[true, true, true, true, true, false, false, false, false, false, false, false, false, false, false] rfl rfl (take_ofW HT_.out HW_.out (by kernel_rfl)) (fun _ _ _ h => h) (Or.inl ⟨by rfl, ?_⟩) hHeld ?_ ?_
                      rotate_left
                      · rintro w' ⟨s0, s1, s2⟩
                        go_simp
                        with_reducible rfl
                      rotate_left
                      · simp only [Act.put, List.setIfInBounds_toArray, List.set_cons_zero, List.set_cons_succ, i64_w, i32_w]
                        rfl
                      refine take_ (i := 5) (N := some 42) (v := ?_) (a' := ?_) #[true, true, true, true, true, true, false, false, false, false, false, false, false, false, false] rfl rfl (take_ofW HT_.out HW_.out (by kernel_rfl)) (fun _ _ _ h => h) (Or.inl ⟨by rfl, ?_⟩) hHeld ?_ ?_
                      rotate_left
                      · rintro w' ⟨s0, s1, s2⟩
                        go_simp
                        with_reducible rfl
                      rotate_left
                      · simp only [Act.put, List.setIfInBounds_toArray, List.set_cons_zero, List.set_cons_succ, i64_w, i32_w]
                        rfl
                      refine one_ (i := 6) (N := some 43) #[true, true, true, true, true, true, true, false, false, false, false, false, false, false, false] rfl rfl (one_of HT_.out (by kernel_rfl)) (by decide) (fun K hK => ?_)
                      refine goes_ Try.func101 (by kernel_rfl) rfl #[.agg #[.slice A1_0 l1_0.length c1_0, .slice A1_1 l1_1.length c1_1], .string (rdOf ByteArray.empty l0 (ji22))] (by rfl) rfl rfl (by (try simp only [List.map_toArray, List.map_cons, List.map_nil]); first | done | (simp only [hji22]; rfl) | rfl | (simp only [List.length_drop, List.length_take]; rfl)) ?_
                      with_reducible refine (route_isAirway.calls _ _ l1_0 _ _ l1_1 (rdOf ByteArray.empty l0 (ji22)) false _ ?side1 ?side2 ?side3 ?side4 A25.out).mono ?_
                      (case side1 => repeat (first | exact (Kd.C_below HR1_0.out HB.out) | (with_reducible refine Kd.C_alloc ?_ _) | (with_reducible refine Kd.C_drewN ?_ _) | (with_reducible refine Kd.C_drew ?_)))
                      (case side2 => exact HC1_0.out)
                      (case side3 => repeat (first | exact (Kd.C_below HR1_1.out HB.out) | (with_reducible refine Kd.C_alloc ?_ _) | (with_reducible refine Kd.C_drewN ?_ _) | (with_reducible refine Kd.C_drew ?_)))
                      (case side4 => exact HC1_1.out)
                      rintro e wze2 ⟨rfl, hb⟩
                      refine ⟨_, rfl, ?_⟩
                      have n0_ := Aside0.mk (blk_below (g := gb196) (o := .cells #[.slice A1_0 l1_0.length c1_0, .slice A1_1 l1_1.length c1_1] 25 (0, 0)) blk_s hb)
                      have n1_ := Aside0.mk (below_step bel_s hb)
                      clear BK196
                      clear HB
                      have BK196 := n0_
                      have HB := n1_
                      clear n0_ n1_
                      (try clear hb)
                      (try clear hb2)
                      (try clear hk)
                      (try clear hi)
                      refine hK.out _ _ ⟨(blk_cell BK196.out 0).trans rfl, (blk_cell BK196.out 1).trans rfl, ((HB.out.cell (World.block_lt_of_cell? w _ hw200_0)).trans hw200_0)⟩ (fun hHeld => ?_)
                      clear hK K
                      refine norm_ (a' := ?_) ?_ ?_
                      rotate_left
                      · show Act.put _ (some 43) _ = _
                        simp only [Act.put, List.setIfInBounds_toArray, List.set_cons_zero, List.set_cons_succ, i64_w, i32_w]
                        rfl
                      refine pure_ (i := 7) (N := some 44) (v := ?_) (a' := ?_) #[true, true, true, true, true, true, true, true, false, false, false, false, false, false, false] rfl rfl (any_of HT_.out (by kernel_rfl)) (fun _ _ _ h => h) (Or.inl ⟨by rfl, ?_⟩) ?_ ?_
                      rotate_left
                      · intro w'
                        go_simp
                        with_reducible rfl
                      rotate_left
                      · simp only [Act.put, List.setIfInBounds_toArray, List.set_cons_zero, List.set_cons_succ, i64_w, i32_w]
                        rfl
                      refine pure_ (i := 8) (N := some 45) (v := undef) (a' := ?_) #[true, true, true, true, true, true, true, true, true, false, false, false, false, false, false] rfl rfl (any_of HT_.out (by kernel_rfl)) (fun _ _ _ h => h) (Or.inr ⟨by rfl, rfl⟩) ?_ ?_
                      rotate_left
                      · simp only [Act.put, List.setIfInBounds_toArray, List.set_cons_zero, List.set_cons_succ, i64_w, i32_w]
                        rfl
                      refine pure_ (i := 9) (N := some 46) (v := undef) (a' := ?_) #[true, true, true, true, true, true, true, true, true, true, false, false, false, false, false] rfl rfl (any_of HT_.out (by kernel_rfl)) (fun _ _ _ h => h) (Or.inr ⟨by rfl, rfl⟩) ?_ ?_
                      rotate_left
                      · simp only [Act.put, List.setIfInBounds_toArray, List.set_cons_zero, List.set_cons_succ, i64_w, i32_w]
                        rfl
                      refine pure_ (i := 10) (N := some 47) (v := undef) (a' := ?_) #[true, true, true, true, true, true, true, true, true, true, true, false, false, false, false] rfl rfl (any_of HT_.out (by kernel_rfl)) (fun _ _ _ h => h) (Or.inr ⟨by rfl, rfl⟩) ?_ ?_
                      rotate_left
                      · simp only [Act.put, List.setIfInBounds_toArray, List.set_cons_zero, List.set_cons_succ, i64_w, i32_w]
                        rfl
                      refine pure_ (i := 11) (N := some 48) (v := undef) (a' := ?_) #[true, true, true, true, true, true, true, true, true, true, true, true, false, false, false] rfl rfl (any_of HT_.out (by kernel_rfl)) (fun _ _ _ h => h) (Or.inr ⟨by rfl, rfl⟩) ?_ ?_
                      rotate_left
                      · simp only [Act.put, List.setIfInBounds_toArray, List.set_cons_zero, List.set_cons_succ, i64_w, i32_w]
                        rfl
                      refine pure_ (i := 12) (N := some 49) (v := undef) (a' := ?_) #[true, true, true, true, true, true, true, true, true, true, true, true, true, false, false] rfl rfl (any_of HT_.out (by kernel_rfl)) (fun _ _ _ h => h) (Or.inr ⟨by rfl, rfl⟩) ?_ ?_
                      rotate_left
                      · simp only [Act.put, List.setIfInBounds_toArray, List.set_cons_zero, List.set_cons_succ, i64_w, i32_w]
                        rfl
                      refine pure_ (i := 13) (N := some 50) (v := undef) (a' := ?_) #[true, true, true, true, true, true, true, true, true, true, true, true, true, true, false] rfl rfl (any_of HT_.out (by kernel_rfl)) (fun _ _ _ h => h) (Or.inr ⟨by rfl, rfl⟩) ?_ ?_
                      rotate_left
                      · simp only [Act.put, List.setIfInBounds_toArray, List.set_cons_zero, List.set_cons_succ, i64_w, i32_w]
                        rfl
                      refine pure_ (i := 14) (N := some 51) (v := ?_) (a' := ?_) #[true, true, true, true, true, true, true, true, true, true, true, true, true, true, true] rfl rfl (any_of HT_.out (by kernel_rfl)) (fun _ _ _ h => h) (Or.inl ⟨by rfl, ?_⟩) ?_ ?_
                      rotate_left
                      · intro w'
                        go_simp
                        with_reducible rfl
                      rotate_left
                      · simp only [Act.put, List.setIfInBounds_toArray, List.set_cons_zero, List.set_cons_succ, i64_w, i32_w]
                        rfl
                      refine done_ (done_of HT_.out (by kernel_rfl)) ?_
                      try go_wp2
                      first | go_roundg k2 | (subst hji22; go_roundg k2)
                      case measure => have := HK1.out; have := HK2.out; omega
                      case rel => exact ⟨(wrap64 (x8_2 + 1)), (by first | rfl | (simp; done) | (simp [*]; done)), H', ⟨by have := HK1.out; have := HK2.out; omega⟩, ⟨by (with_reducible repeat (first | refine blk_drewN ?_ _ | refine blk_drew ?_ | refine blk_alloc ?_ _)); exact BK196.out⟩, ⟨by repeat (first | (with_reducible first | exact HB.out | apply below_alloc | apply pw_below_drewN | apply below_drew1 | refine below_set ?_ GE196.out) | exact HB.out)⟩⟩
                 | clear hm7_3
                   go_wp2
                   go_loopg [9, 54] k2 (fun kq v9 v54 w' => ∃ (x9_3 : List ByteArray) (x54_3 : Int), v54 = .int .i64 x54_3 ∧ Aside0 (route_names.l2 kq l0 x9_3 l0 (l0.length : Int) x54_3 l1_0 l1_1 = some (r1, r2)) ∧ Aside0 (kq ≤ k2) ∧ Aside0 (Kd.R Kd.string 9 w' w.heap.size (fun _ => True) v9 x9_3) ∧ Aside0 (w'.heap[gb196]? = some (.cells #[(.slice A1_0 l1_0.length c1_0), (.slice A1_1 l1_1.length c1_1)] 25 (0, 0))) ∧ Aside0 (Below w.heap.size w w'))
                   case atStart => exact ⟨(([] : List ByteArray)), (0), (by first | rfl | (simp; done) | (simp [*]; done)), H', ⟨Nat.le_refl _⟩, ⟨by first | exact Kd.R_nil _ _ _ _ _ | exact Kd.N_nil _ _ _ _ _ | exact Kd.V_nil _ _ _ _ _ | exact Kd.Q_nil _ _ _ _ _ | exact Kd.S_nil _ _ _ _ _⟩, ⟨by (with_reducible repeat (first | refine blk_drewN ?_ _ | refine blk_drew ?_ | refine blk_alloc ?_ _)); exact BK196.out⟩, ⟨by repeat (first | (with_reducible first | exact HB.out | apply below_alloc | apply pw_below_drewN | apply below_drew1 | refine below_set ?_ GE196.out) | exact HB.out)⟩⟩
                   case round =>
                    clear H'
                    (try clear c1); (try clear p1); (try clear q1); (try clear c2); (try clear p2); (try clear q2); (try clear hx2); (try clear p6); (try clear c10); (try clear p19); (try clear q19); (try clear p20); (try clear q20); (try clear hx20); (try clear c21); (try clear c21b0); (try clear c23); (try clear c23b0); (try clear c24); (try clear c24b0); (try clear c26); (try clear c27); (try clear c27b0); (try clear c29); (try clear hx200_0); (try clear hx202_0); (try clear p197); (try clear p2); (try clear p200); (try clear p202); (try clear q197); (try clear q200); (try clear q202)
                    obtain ⟨x9_3, x54_3, rfl, HA, HK3, HO_9, BK196, HB⟩ := hrel
                    cases gk with
                    | zero => exact absurd HA.out (by simp [route_names.l2])
                    | succ k3 =>
                     have H := HA.out
                     clear HA
                     simp only [route_names.l2] at H
                     refine Or.elim (Classical.em (x54_3 < (l0.length : Int))) (fun c38 => ?p15_) (fun c38 => ?n15_)
                     case' p15_ =>
                      rw [if_pos c38] at H
                      have c38b0 : decide (x54_3 < (l0.length : Int)) = true := decide_eq_true c38
                      clear c38
                      refine Or.elim (Classical.em (0 ≤ x54_3)) (fun c39 => ?p16_) (fun c39 => ?n16_)
                      case' p16_ =>
                       rw [if_pos c39] at H
                       have c39b0 : decide (0 ≤ x54_3) = true := decide_eq_true c39
                       clear c39
                       refine Or.elim (Classical.em (x54_3 < (l0.length : Int))) (fun c40 => ?p17_) (fun c40 => ?n17_)
                       case' p17_ =>
                        rw [if_pos c40] at H
                        have c40b0 : decide (x54_3 < (l0.length : Int)) = true := decide_eq_true c40
                        clear c40
                        replace H := Option.bind_eq_some_iff.mp H
                        obtain ⟨t205, A410, H⟩ := H
                        replace H : (if t205 = true then (if 0 ≤ (wrap64 (x54_3 - 1)) then (if (wrap64 (x54_3 - 1)) < (l0.length : Int) then (if 0 ≤ (wrap64 (x54_3 + 1)) then (if (wrap64 (x54_3 + 1)) < (l0.length : Int) then ((chart_Between.f k3 l1_0 l1_1 (rdOf ByteArray.empty l0 x54_3) (rdOf ByteArray.empty l0 (wrap64 (x54_3 - 1))) (rdOf ByteArray.empty l0 (wrap64 (x54_3 + 1)))).bind fun bt208 => (if bt208.2 = 0 then (if 1 ≤ (mx 1 (wrap64 ((bt208.1.length : Int) - 1))) then (if (mx 1 (wrap64 ((bt208.1.length : Int) - 1))) ≤ (bt208.1.length : Int) then ((some ((bt208.1.take ((mx 1 (wrap64 ((bt208.1.length : Int) - 1))) : Int).toNat).drop 1 : List ByteArray)).bind fun y212 => (if x9_3.length + y212.length < 8796093022208 then (route_names.l2 k3 l0 (x9_3 ++ y212) l0 (l0.length : Int) (wrap64 (x54_3 + 1)) l1_0 l1_1) else (none))) else (none)) else (none)) else (some (([] : List ByteArray), bt208.2)))) else (none)) else (none)) else (none)) else (none)) else (if x9_3.length < 8796093022208 then (route_names.l2 k3 l0 (x9_3 ++ [rdOf ByteArray.empty l0 x54_3]) l0 (l0.length : Int) (wrap64 (x54_3 + 1)) l1_0 l1_1) else (none))) = some (r1, r2) := H
                        have A41 := Aside0.mk A410
                        clear A410
                        refine Or.elim (Classical.em (t205 = true)) (fun c42 => ?p18_) (fun c42 => ?n18_)
                        case' p18_ =>
                         subst c42
                         have H1 : (if 0 ≤ (wrap64 (x54_3 - 1)) then (if (wrap64 (x54_3 - 1)) < (l0.length : Int) then (if 0 ≤ (wrap64 (x54_3 + 1)) then (if (wrap64 (x54_3 + 1)) < (l0.length : Int) then ((chart_Between.f k3 l1_0 l1_1 (rdOf ByteArray.empty l0 x54_3) (rdOf ByteArray.empty l0 (wrap64 (x54_3 - 1))) (rdOf ByteArray.empty l0 (wrap64 (x54_3 + 1)))).bind fun bt208 => (if bt208.2 = 0 then (if 1 ≤ (mx 1 (wrap64 ((bt208.1.length : Int) - 1))) then (if (mx 1 (wrap64 ((bt208.1.length : Int) - 1))) ≤ (bt208.1.length : Int) then ((some ((bt208.1.take ((mx 1 (wrap64 ((bt208.1.length : Int) - 1))) : Int).toNat).drop 1 : List ByteArray)).bind fun y212 => (if x9_3.length + y212.length < 8796093022208 then (route_names.l2 k3 l0 (x9_3 ++ y212) l0 (l0.length : Int) (wrap64 (x54_3 + 1)) l1_0 l1_1) else (none))) else (none)) else (none)) else (some (([] : List ByteArray), bt208.2)))) else (none)) else (none)) else (none)) else (none)) = some (r1, r2) := by rw [if_pos rfl] at H; exact H
                         clear H
                         have H := H1
                         clear H1
                         obtain ⟨ji43, hji43⟩ : ∃ j_ : Int, (wrap64 (x54_3 - 1)) = j_ := ⟨_, rfl⟩
                         replace H : (if 0 ≤ (ji43) then (if (ji43) < (l0.length : Int) then (if 0 ≤ (wrap64 (x54_3 + 1)) then (if (wrap64 (x54_3 + 1)) < (l0.length : Int) then ((chart_Between.f k3 l1_0 l1_1 (rdOf ByteArray.empty l0 x54_3) (rdOf ByteArray.empty l0 (ji43)) (rdOf ByteArray.empty l0 (wrap64 (x54_3 + 1)))).bind fun bt208 => (if bt208.2 = 0 then (if 1 ≤ (mx 1 (wrap64 ((bt208.1.length : Int) - 1))) then (if (mx 1 (wrap64 ((bt208.1.length : Int) - 1))) ≤ (bt208.1.length : Int) then ((some ((bt208.1.take ((mx 1 (wrap64 ((bt208.1.length : Int) - 1))) : Int).toNat).drop 1 : List ByteArray)).bind fun y212 => (if x9_3.length + y212.length < 8796093022208 then (route_names.l2 k3 l0 (x9_3 ++ y212) l0 (l0.length : Int) (wrap64 (x54_3 + 1)) l1_0 l1_1) else (none))) else (none)) else (none)) else (some (([] : List ByteArray), bt208.2)))) else (none)) else (none)) else (none)) else (none)) = some (r1, r2) := by first | (rw [hji43] at H; exact H) | (simp only [hji43] at H ⊢; exact H)
                         (try rw [hji43] at A41)
                         have hji43w : (IntKind.i64.wrap (x54_3 - 1)) = ji43 := (i64_w _).trans hji43
                         refine Or.elim (Classical.em (0 ≤ (ji43))) (fun c44 => ?p19_) (fun c44 => ?n19_)
                         case' p19_ =>
                          rw [if_pos c44] at H
                          have c44b0 : decide (0 ≤ (ji43)) = true := decide_eq_true c44
                          clear c44
                          refine Or.elim (Classical.em ((ji43) < (l0.length : Int))) (fun c45 => ?p20_) (fun c45 => ?n20_)
                          case' p20_ =>
                           rw [if_pos c45] at H
                           have c45b0 : decide ((ji43) < (l0.length : Int)) = true := decide_eq_true c45
                           clear c45
                           obtain ⟨ji46, hji46⟩ : ∃ j_ : Int, (wrap64 (x54_3 + 1)) = j_ := ⟨_, rfl⟩
                           replace H : (if 0 ≤ (ji46) then (if (ji46) < (l0.length : Int) then ((chart_Between.f k3 l1_0 l1_1 (rdOf ByteArray.empty l0 x54_3) (rdOf ByteArray.empty l0 (ji43)) (rdOf ByteArray.empty l0 (ji46))).bind fun bt208 => (if bt208.2 = 0 then (if 1 ≤ (mx 1 (wrap64 ((bt208.1.length : Int) - 1))) then (if (mx 1 (wrap64 ((bt208.1.length : Int) - 1))) ≤ (bt208.1.length : Int) then ((some ((bt208.1.take ((mx 1 (wrap64 ((bt208.1.length : Int) - 1))) : Int).toNat).drop 1 : List ByteArray)).bind fun y212 => (if x9_3.length + y212.length < 8796093022208 then (route_names.l2 k3 l0 (x9_3 ++ y212) l0 (l0.length : Int) ji46 l1_0 l1_1) else (none))) else (none)) else (none)) else (some (([] : List ByteArray), bt208.2)))) else (none)) else (none)) = some (r1, r2) := by first | (rw [hji46] at H; exact H) | (simp only [hji46] at H ⊢; exact H)
                           (try rw [hji46] at A41)
                           have hji46w : (IntKind.i64.wrap (x54_3 + 1)) = ji46 := (i64_w _).trans hji46
                           refine Or.elim (Classical.em (0 ≤ (ji46))) (fun c47 => ?p21_) (fun c47 => ?n21_)
                           case' p21_ =>
                            rw [if_pos c47] at H
                            have c47b0 : decide (0 ≤ (ji46)) = true := decide_eq_true c47
                            clear c47
                            refine Or.elim (Classical.em ((ji46) < (l0.length : Int))) (fun c48 => ?p22_) (fun c48 => ?n22_)
                            case' p22_ =>
                             rw [if_pos c48] at H
                             have c48b0 : decide ((ji46) < (l0.length : Int)) = true := decide_eq_true c48
                             clear c48
                             replace H := Option.bind_eq_some_iff.mp H
                             obtain ⟨⟨t208, t211⟩, A490, H⟩ := H
                             replace H : (if t211 = 0 then (if 1 ≤ (mx 1 (wrap64 ((t208.length : Int) - 1))) then (if (mx 1 (wrap64 ((t208.length : Int) - 1))) ≤ (t208.length : Int) then ((some ((t208.take ((mx 1 (wrap64 ((t208.length : Int) - 1))) : Int).toNat).drop 1 : List ByteArray)).bind fun y212 => (if x9_3.length + y212.length < 8796093022208 then (route_names.l2 k3 l0 (x9_3 ++ y212) l0 (l0.length : Int) ji46 l1_0 l1_1) else (none))) else (none)) else (none)) else (some (([] : List ByteArray), t211))) = some (r1, r2) := H
                             have A49 := Aside0.mk A490
                             clear A490
                             refine Or.elim (Classical.em (t211 = 0)) (fun c50 => ?p23_) (fun c50 => ?n23_)
                             case' p23_ =>
                              rw [if_pos c50] at H
                              have c50b0 : (t211 == 0) = true := beq_iff_eq.mpr c50
                              have c50b1 : (t211 != 0) = false := bne_eq_false_iff_eq.mpr c50
                              clear c50
                              obtain ⟨ji51, hji51⟩ : ∃ j_ : Int, (mx 1 (wrap64 ((t208.length : Int) - 1))) = j_ := ⟨_, rfl⟩
                              replace H : (if 1 ≤ (ji51) then (if (ji51) ≤ (t208.length : Int) then ((some ((t208.take ((ji51) : Int).toNat).drop 1 : List ByteArray)).bind fun y212 => (if x9_3.length + y212.length < 8796093022208 then (route_names.l2 k3 l0 (x9_3 ++ y212) l0 (l0.length : Int) ji46 l1_0 l1_1) else (none))) else (none)) else (none)) = some (r1, r2) := by first | (rw [hji51] at H; exact H) | (simp only [hji51] at H ⊢; exact H)
                              (try rw [hji51] at A41)
                              (try rw [hji51] at A49)
                              (try (have hji51l : 1 ≤ ji51 := by (rw [← hji51]; unfold mx; (repeat' split) <;> omega)))
                              (try (have hji51m : 0 ≤ ji51 := by omega))
                              have hji51_ : (if 1 < (wrap64 ((t208.length : Int) - 1)) then (wrap64 ((t208.length : Int) - 1)) else 1) = ji51 := hji51
                              refine Or.elim (Classical.em (1 ≤ (ji51))) (fun c52 => ?p24_) (fun c52 => ?n24_)
                              case' p24_ =>
                               rw [if_pos c52] at H
                               have c52b0 := eq_true c52
                               have c52b1 : decide (1 ≤ (ji51)) = true := decide_eq_true c52
                               clear c52
                               refine Or.elim (Classical.em ((ji51) ≤ (t208.length : Int))) (fun c53 => ?p25_) (fun c53 => ?n25_)
                               case' p25_ =>
                                rw [if_pos c53] at H
                                have c53b0 := eq_true c53
                                have c53b1 : decide ((ji51) ≤ (t208.length : Int)) = true := decide_eq_true c53
                                clear c53
                                obtain ⟨y212, hy212⟩ : ∃ y_ : List ByteArray, y_ = ((t208.take ((ji51) : Int).toNat).drop 1) := ⟨_, rfl⟩
                                replace H : (if x9_3.length + y212.length < 8796093022208 then (route_names.l2 k3 l0 (x9_3 ++ y212) l0 (l0.length : Int) ji46 l1_0 l1_1) else (none)) = some (r1, r2) := by first | (rw [hy212]; with_reducible exact H) | (have H2_ := (Option.bind_some _ _).symm.trans H; rw [hy212]; with_reducible exact H2_) | (have H2_ := (Option.bind_some _ _).symm.trans H; with_reducible exact H2_) | with_reducible exact H | (rw [hy212]; exact H) | exact H
                                have Ny212 := Aside0.mk hy212
                                clear hy212
                                refine Or.elim (Classical.em (x9_3.length + y212.length < 8796093022208)) (fun c54 => ?p26_) (fun c54 => ?n26_)
                                case' p26_ =>
                                 rw [if_pos c54] at H
                                 have LMc54 := Aside0.mk c54
                                 clear c54
                                 obtain ⟨y216, hy216⟩ : ∃ y_ : List ByteArray, y_ = (x9_3 ++ y212) := ⟨_, rfl⟩
                                 replace H : (route_names.l2 k3 l0 y216 l0 (l0.length : Int) ji46 l1_0 l1_1) = some (r1, r2) := by first | (rw [hy216]; with_reducible exact H) | (have H2_ := (Option.bind_some _ _).symm.trans H; rw [hy216]; with_reducible exact H2_) | (have H2_ := (Option.bind_some _ _).symm.trans H; with_reducible exact H2_) | with_reducible exact H | (rw [hy216]; exact H) | exact H
                                 have Ny216 := Aside0.mk hy216
                                 clear hy216
                                 have hm14_0 := Aside0.mk trivial
                                case' n26_ =>
                                 rw [if_neg c54] at H
                                 exact absurd H (by simp)
                               case' n25_ =>
                                rw [if_neg c53] at H
                                exact absurd H (by simp)
                              case' n24_ =>
                               rw [if_neg c52] at H
                               exact absurd H (by simp)
                             case' n23_ =>
                              rw [if_neg c50] at H
                              have c50b0 : (t211 == 0) = false := beq_eq_false_iff_ne.mpr c50
                              have c50b1 : (t211 != 0) = true := bne_iff_ne.mpr c50
                              simp only [Option.some.injEq, Prod.mk.injEq] at H
                              obtain ⟨rfl, rfl⟩ := H
                              have p204 : 0 ≤ (x54_3 : Int) := of_decide_eq_true (by first | (with_reducible assumption) | assumption)
                              have q204 : x54_3 < (l0.length : Int) := of_decide_eq_true (by first | (with_reducible assumption) | assumption)
                              obtain ⟨ad204, e204, hx204_0⟩ := Kd.at_string HR0.out x54_3 p204 q204
                              cases e204
                              replace hx204_0 := (HB.out.cell (World.block_lt_of_cell? w _ hx204_0)).trans hx204_0
                              replace p204 := eq_true p204
                              replace q204 := eq_true q204
                              have hczze3 : wr.cell? ⟨gb196, 0, none⟩ = some (.slice A1_0 l1_0.length c1_0) := (blk_cell BK196.out 0).trans rfl
                              have hczze4 : wr.cell? ⟨gb196, 1, none⟩ = some (.slice A1_1 l1_1.length c1_1) := (blk_cell BK196.out 1).trans rfl
                              have hfzze3 := blk_frozen BK196.out 0
                              have hfzze4 := blk_frozen BK196.out 1
                              have hm14_1 := Aside0.mk trivial
                            case' n22_ =>
                             rw [if_neg c48] at H
                             exact absurd H (by simp)
                           case' n21_ =>
                            rw [if_neg c47] at H
                            exact absurd H (by simp)
                          case' n20_ =>
                           rw [if_neg c45] at H
                           exact absurd H (by simp)
                         case' n19_ =>
                          rw [if_neg c44] at H
                          exact absurd H (by simp)
                        case' n18_ =>
                         replace c42 := Bool.eq_false_iff.mpr c42
                         subst c42
                         have H1 : (if x9_3.length < 8796093022208 then (route_names.l2 k3 l0 (x9_3 ++ [rdOf ByteArray.empty l0 x54_3]) l0 (l0.length : Int) (wrap64 (x54_3 + 1)) l1_0 l1_1) else (none)) = some (r1, r2) := by rw [if_neg (show ¬ (false = true) by decide)] at H; exact H
                         clear H
                         have H := H1
                         clear H1
                         refine Or.elim (Classical.em (x9_3.length < 8796093022208)) (fun c66 => ?p27_) (fun c66 => ?n27_)
                         case' p27_ =>
                          rw [if_pos c66] at H
                          have LMc66 := Aside0.mk c66
                          clear c66
                          obtain ⟨y219, hy219⟩ : ∃ y_ : List ByteArray, y_ = (x9_3 ++ [rdOf ByteArray.empty l0 x54_3]) := ⟨_, rfl⟩
                          replace H : (route_names.l2 k3 l0 y219 l0 (l0.length : Int) (wrap64 (x54_3 + 1)) l1_0 l1_1) = some (r1, r2) := by first | (rw [hy219]; with_reducible exact H) | (have H2_ := (Option.bind_some _ _).symm.trans H; rw [hy219]; with_reducible exact H2_) | (have H2_ := (Option.bind_some _ _).symm.trans H; with_reducible exact H2_) | with_reducible exact H | (rw [hy219]; exact H) | exact H
                          have Ny219 := Aside0.mk hy219
                          clear hy219
                          have hm14_2 := Aside0.mk trivial
                         case' n27_ =>
                          rw [if_neg c66] at H
                          exact absurd H (by simp)
                       case' n17_ =>
                        rw [if_neg c40] at H
                        exact absurd H (by simp)
                      case' n16_ =>
                       rw [if_neg c39] at H
                       exact absurd H (by simp)
                     case' n15_ =>
                      rw [if_neg c38] at H
                      have c38b0 : decide (x54_3 < (l0.length : Int)) = false := decide_eq_false c38
                      clear c38
                      simp only [Option.some.injEq, Prod.mk.injEq] at H
                      obtain ⟨rfl, rfl⟩ := H
                      have hm14_3 := Aside0.mk trivial
                     all_goals
                      first
                       | (first | (have _hm := hm14_0) | (have _hm := hm14_2))
                         have H' := Aside0.mk H
                         clear H
                         have p204 : 0 ≤ (x54_3 : Int) := of_decide_eq_true (by first | (with_reducible assumption) | assumption)
                         have q204 : x54_3 < (l0.length : Int) := of_decide_eq_true (by first | (with_reducible assumption) | assumption)
                         obtain ⟨ad204, e204, hx204_0⟩ := Kd.at_string HR0.out x54_3 p204 q204
                         cases e204
                         replace hx204_0 := (HB.out.cell (World.block_lt_of_cell? w _ hx204_0)).trans hx204_0
                         replace p204 := eq_true p204
                         replace q204 := eq_true q204
                         have hczzg1 : wr.cell? ⟨gb196, 0, none⟩ = some (.slice A1_0 l1_0.length c1_0) := (blk_cell BK196.out 0).trans rfl
                         have hczzg2 : wr.cell? ⟨gb196, 1, none⟩ = some (.slice A1_1 l1_1.length c1_1) := (blk_cell BK196.out 1).trans rfl
                         have hfzzg1 := blk_frozen BK196.out 0
                         have hfzzg2 := blk_frozen BK196.out 1
                         first
                          | clear hm14_0
                            try go_wp2_with (first | ((with_reducible refine gate_callee (f := 101) rfl ?_); refine goesL_ (some 61) rfl rfl Try.func101 (by kernel_rfl) rfl #[.agg #[.slice A1_0 l1_0.length c1_0, .slice A1_1 l1_1.length c1_1], .string (rdOf ByteArray.empty l0 x54_3)] rfl any_s ?_; (with_reducible refine (route_isAirway.calls _ _ l1_0 _ _ l1_1 (rdOf ByteArray.empty l0 x54_3) true _ ?side1 ?side2 ?side3 ?side4 A41.out).mono ?_); (case side1 => repeat (first | exact (Kd.C_below HR1_0.out HB.out) | (with_reducible refine Kd.C_alloc ?_ _) | (with_reducible refine Kd.C_drewN ?_ _) | (with_reducible refine Kd.C_drew ?_))); (case side2 => exact HC1_0.out); (case side3 => repeat (first | exact (Kd.C_below HR1_1.out HB.out) | (with_reducible refine Kd.C_alloc ?_ _) | (with_reducible refine Kd.C_drewN ?_ _) | (with_reducible refine Kd.C_drew ?_))); (case side4 => exact HC1_1.out); rintro e wx7cbc1 ⟨rfl, hb⟩; refine ⟨_, rfl, ?_⟩; have n0_ := Aside0.mk (Kd.R_below (by (with_reducible repeat (first | apply Kd.R_alloc | apply Kd.R_drewN | apply Kd.R_drew)); exact HO_9.out) hb); have n1_ := Aside0.mk (blk_below (g := gb196) (o := .cells #[.slice A1_0 l1_0.length c1_0, .slice A1_1 l1_1.length c1_1] 25 (0, 0)) blk_s hb); have n2_ := Aside0.mk (below_step bel_s hb); clear HO_9; clear BK196; clear HB; have HO_9 := n0_; have BK196 := n1_; have HB := n2_; clear n0_ n1_ n2_; (try clear hb); (try clear hb2); (try clear hk); (try clear hi)))
                            have n0_ := Aside0.mk (Kd.R_drew HO_9.out)
                            have n1_ := Aside0.mk (blk_drew BK196.out)
                            have n2_ := Aside0.mk (below_drew1 HB.out)
                            clear HO_9
                            clear BK196
                            clear HB
                            have HO_9 := n0_
                            have BK196 := n1_
                            have HB := n2_
                            clear n0_ n1_ n2_
                            have p206 : 0 ≤ ((ji43) : Int) := of_decide_eq_true (by first | (with_reducible assumption) | assumption)
                            have q206 : (ji43) < (l0.length : Int) := of_decide_eq_true (by first | (with_reducible assumption) | assumption)
                            obtain ⟨ad206, e206, hx206_0⟩ := Kd.at_string HR0.out (ji43) p206 q206
                            have hw206_0 := hx206_0
                            obtain rfl : ad204 = ad206 := (by injection e206)
                            replace hx206_0 := (HB.out.cell (World.block_lt_of_cell? w _ hx206_0)).trans hx206_0
                            replace p206 := eq_true p206
                            replace q206 := eq_true q206
                            have p207 : 0 ≤ ((ji46) : Int) := of_decide_eq_true (by first | (with_reducible assumption) | assumption)
                            have q207 : (ji46) < (l0.length : Int) := of_decide_eq_true (by first | (with_reducible assumption) | assumption)
                            obtain ⟨ad207, e207, hx207_0⟩ := Kd.at_string HR0.out (ji46) p207 q207
                            have hw207_0 := hx207_0
                            obtain rfl : ad204 = ad207 := (by injection e207)
                            replace hx207_0 := (HB.out.cell (World.block_lt_of_cell? w _ hx207_0)).trans hx207_0
                            replace p207 := eq_true p207
                            replace q207 := eq_true q207
                            refine start_ (n := 18) (S := fun w' => w'.cell? ⟨gb196, 0, none⟩ = some (.slice A1_0 l1_0.length c1_0) ∧ w'.cell? ⟨gb196, 1, none⟩ = some (.slice A1_1 l1_1.length c1_1) ∧ w'.cell? (ad204.add ((ji43)).toNat) = some (.string (rdOf ByteArray.empty l0 (ji43))) ∧ w'.cell? (ad204.add ((ji46)).toNat) = some (.string (rdOf ByteArray.empty l0 (ji46)))) (ds := []) #[false, false, false, false, false, false, false, false, false, false, false, false, false, false, false, false, false, false] (by kernel_rfl) rfl rfl ⟨(blk_cell BK196.out 0).trans rfl, (blk_cell BK196.out 1).trans rfl, ((HB.out.cell (World.block_lt_of_cell? w _ hw206_0)).trans hw206_0), ((HB.out.cell (World.block_lt_of_cell? w _ hw207_0)).trans hw207_0)⟩ (fun hHeld => ?_); refine with_tabW route_names.tab18 route_names.bits18 (fun HT_ HW_ => ?_)
                            generalize wx7cbc1.drew = wzg1 at HO_9 BK196 HB hx206_0 hx207_0 hHeld ⊢
                            refine pure_ (i := 1) (N := some 69) (v := ?_) (a' := ?_) #[false, true, false, false, false, false, false, false, false, false, false, false, false, false, false, false, false, false] rfl rfl (any_of HT_.out (by kernel_rfl)) (fun _ _ _ h => h) (Or.inl ⟨by rfl, ?_⟩) ?_ ?_
                            rotate_left
                            · intro w'
                              go_simp
                              with_reducible rfl
                            rotate_left
                            · simp only [Act.put, List.setIfInBounds_toArray, List.set_cons_zero, List.set_cons_succ, i64_w, i32_w]
                              rfl
                            refine pure_ (i := 2) (N := some 70) (v := ?_) (a' := ?_) #[false, true, true, false, false, false, false, false, false, false, false, false, false, false, false, false, false, false] rfl rfl (any_of HT_.out (by kernel_rfl)) (fun _ _ _ h => h) (Or.inl ⟨by rfl, ?_⟩) ?_ ?_
                            rotate_left
                            · intro w'
                              go_simp
                              with_reducible rfl
                            rotate_left
                            · simp only [Act.put, List.setIfInBounds_toArray, List.set_cons_zero, List.set_cons_succ, i64_w, i32_w]
                              rfl
                            refine pure_ (i := 3) (N := some 71) (v := ?_) (a' := ?_) #[false, true, true, true, false, false, false, false, false, false, false, false, false, false, false, false, false, false] rfl rfl (any_of HT_.out (by kernel_rfl)) (fun _ _ _ h => h) (Or.inl ⟨by rfl, ?_⟩) ?_ ?_
                            rotate_left
                            · intro w'
                              go_simp
                              with_reducible rfl
                            rotate_left
                            · simp only [Act.put, List.setIfInBounds_toArray, List.set_cons_zero, List.set_cons_succ, i64_w, i32_w]
                              rfl
                            refine pure_ (i := 4) (N := some 72) (v := ?_) (a' := ?_) #[false, true, true, true, true, false, false, false, false, false, false, false, false, false, false, false, false, false] rfl rfl (any_of HT_.out (by kernel_rfl)) (fun _ _ _ h => h) (Or.inl ⟨by rfl, ?_⟩) ?_ ?_
                            rotate_left
                            · intro w'
                              go_simp
                              with_reducible rfl
                            rotate_left
                            · simp only [Act.put, List.setIfInBounds_toArray, List.set_cons_zero, List.set_cons_succ, i64_w, i32_w]
                              rfl
                            refine pure_ (i := 5) (N := some 73) (v := ?_) (a' := ?_) #[false, true, true, true, true, true, false, false, false, false, false, false, false, false, false, false, false, false] rfl rfl (any_of HT_.out (by kernel_rfl)) (fun _ _ _ h => h) (Or.inl ⟨by rfl, ?_⟩) ?_ ?_
                            rotate_left
                            · intro w'
                              go_simp
                              with_reducible rfl
                            rotate_left
                            · simp only [Act.put, List.setIfInBounds_toArray, List.set_cons_zero, List.set_cons_succ, i64_w, i32_w]
                              rfl
                            refine pure_ (i := 7) (N := some 75) (v := ?_) (a' := ?_) #[false, true, true, true, true, true, false, true, false, false, false, false, false, false, false, false, false, false] rfl rfl (any_of HT_.out (by kernel_rfl)) (fun _ _ _ h => h) (Or.inl ⟨by rfl, ?_⟩) ?_ ?_
                            rotate_left
                            · intro w'
                              go_simp
                              with_reducible rfl
                            rotate_left
                            · simp only [Act.put, List.setIfInBounds_toArray, List.set_cons_zero, List.set_cons_succ, i64_w, i32_w]
                              rfl
                            refine pure_ (i := 8) (N := some 76) (v := ?_) (a' := ?_) #[false, true, true, true, true, true, false, true, true, false, false, false, false, false, false, false, false, false] rfl rfl (any_of HT_.out (by kernel_rfl)) (fun _ _ _ h => h) (Or.inl ⟨by rfl, ?_⟩) ?_ ?_
                            rotate_left
                            · intro w'
                              go_simp
                              with_reducible rfl
                            rotate_left
                            · simp only [Act.put, List.setIfInBounds_toArray, List.set_cons_zero, List.set_cons_succ, i64_w, i32_w]
                              rfl
                            refine pure_ (i := 9) (N := some 77) (v := ?_) (a' := ?_) #[false, true, true, true, true, true, false, true, true, true, false, false, false, false, false, false, false, false] rfl rfl (any_of HT_.out (by kernel_rfl)) (fun _ _ _ h => h) (Or.inl ⟨by rfl, ?_⟩) ?_ ?_
                            rotate_left
                            · intro w'
                              go_simp
                              with_reducible rfl
                            rotate_left
                            · simp only [Act.put, List.setIfInBounds_toArray, List.set_cons_zero, List.set_cons_succ, i64_w, i32_w]
                              rfl
                            refine pure_ (i := 10) (N := some 78) (v := ?_) (a' := ?_) #[false, true, true, true, true, true, false, true, true, true, true, false, false, false, false, false, false, false] rfl rfl (any_of HT_.out (by kernel_rfl)) (fun _ _ _ h => h) (Or.inl ⟨by rfl, ?_⟩) ?_ ?_
                            rotate_left
                            · intro w'
                              go_simp
                              with_reducible rfl
                            rotate_left
                            · simp only [Act.put, List.setIfInBounds_toArray, List.set_cons_zero, List.set_cons_succ, i64_w, i32_w]
                              rfl
                            refine take_ (i := 0) (N := some 68) (v := ?_) (a' := ?_) #[true, true, true, true, true, true, false, true, true, true, true, false, false, false, false, false, false, false] rfl rfl (take_ofW HT_.out HW_.out (by kernel_rfl)) (fun _ _ _ h => h) (Or.inl ⟨by rfl, ?_⟩) hHeld ?_ ?_
                            rotate_left
                            · rintro w' ⟨s0, s1, s2, s3⟩
                              go_simp
                              with_reducible rfl
                            rotate_left
                            · simp only [Act.put, List.setIfInBounds_toArray, List.set_cons_zero, List.set_cons_succ, i64_w, i32_w]
                              rfl
                            refine take_ (i := 6) (N := some 74) (v := ?_) (a' := ?_) #[true, true, true, true, true, true, true, true, true, true, true, false, false, false, false, false, false, false] rfl rfl (take_ofW HT_.out HW_.out (by kernel_rfl)) (fun _ _ _ h => h) (Or.inl ⟨by rfl, ?_⟩) hHeld ?_ ?_
                            rotate_left
                            · rintro w' ⟨s0, s1, s2, s3⟩
                              go_simp
                              with_reducible rfl
                            rotate_left
                            · simp only [Act.put, List.setIfInBounds_toArray, List.set_cons_zero, List.set_cons_succ, i64_w, i32_w]
                              rfl
                            refine take_ (i := 11) (N := some 79) (v := ?_) (a' := ?_) #[true, true, true, true, true, true, true, true, true, true, true, true, false, false, false, false, false, false] rfl rfl (take_ofW HT_.out HW_.out (by kernel_rfl)) (fun _ _ _ h => h) (Or.inl ⟨by rfl, ?_⟩) hHeld ?_ ?_
                            rotate_left
                            · rintro w' ⟨s0, s1, s2, s3⟩
                              go_simp
                              with_reducible rfl
                            rotate_left
                            · simp only [Act.put, List.setIfInBounds_toArray, List.set_cons_zero, List.set_cons_succ, i64_w, i32_w]
                              rfl
                            refine one_ (i := 12) (N := some 80) #[true, true, true, true, true, true, true, true, true, true, true, true, true, false, false, false, false, false] rfl rfl (one_of HT_.out (by kernel_rfl)) (by decide) (fun K hK => ?_)
                            refine goes_ Try.func16 (by kernel_rfl) rfl #[.agg #[.slice A1_0 l1_0.length c1_0, .slice A1_1 l1_1.length c1_1], .string (rdOf ByteArray.empty l0 x54_3), .string (rdOf ByteArray.empty l0 (ji43)), .string (rdOf ByteArray.empty l0 (ji46))] (by rfl) rfl rfl (by (try simp only [List.map_toArray, List.map_cons, List.map_nil]); first | done | (simp only [hji43, hji46]; rfl) | rfl | (simp only [List.length_drop, List.length_take]; rfl)) ?_
                            with_reducible refine (chart_Between.calls k3 _ _ l1_0 _ _ l1_1 (rdOf ByteArray.empty l0 x54_3) (rdOf ByteArray.empty l0 (ji43)) (rdOf ByteArray.empty l0 (ji46)) t208 t211 _ ?side1 ?side2 ?side3 ?side4 A49.out).mono ?_
                            (case side1 => repeat (first | exact (Kd.C_below HR1_0.out HB.out) | (with_reducible refine Kd.C_alloc ?_ _) | (with_reducible refine Kd.C_drewN ?_ _) | (with_reducible refine Kd.C_drew ?_)))
                            (case side2 => exact HC1_0.out)
                            (case side3 => repeat (first | exact (Kd.C_below HR1_1.out HB.out) | (with_reducible refine Kd.C_alloc ?_ _) | (with_reducible refine Kd.C_drewN ?_ _) | (with_reducible refine Kd.C_drew ?_)))
                            (case side4 => exact HC1_1.out)
                            rintro e wzg2 ⟨v209, rfl, hozg1, hb⟩
                            refine ⟨_, rfl, ?_⟩
                            have n0_ := Aside0.mk (Kd.R_elder' (by (with_reducible repeat (first | apply Kd.R_alloc | apply Kd.R_drewN | apply Kd.R_drew)); exact HO_9.out) (Kd.R_base hozg1) hb)
                            have n1_ := Aside0.mk (Kd.R_lower (Kd.R_new' hozg1 (Kd.R_lt (by (with_reducible repeat (first | apply Kd.R_alloc | apply Kd.R_drewN | apply Kd.R_drew)); exact HO_9.out))) (below_size bel_s))
                            have n2_ := Aside0.mk (blk_below (g := gb196) (o := .cells #[.slice A1_0 l1_0.length c1_0, .slice A1_1 l1_1.length c1_1] 25 (0, 0)) blk_s hb)
                            have n3_ := Aside0.mk (below_step bel_s hb)
                            clear HO_9
                            clear BK196
                            clear HB
                            have HO_9 := n0_
                            have HO210 := n1_
                            have BK196 := n2_
                            have HB := n3_
                            clear n0_ n1_ n2_ n3_
                            (try clear hb)
                            (try clear hb2)
                            (try clear hk)
                            (try clear hi)
                            (try clear hozg1)
                            refine hK.out _ _ ⟨(blk_cell BK196.out 0).trans rfl, (blk_cell BK196.out 1).trans rfl, ((HB.out.cell (World.block_lt_of_cell? w _ hw206_0)).trans hw206_0), ((HB.out.cell (World.block_lt_of_cell? w _ hw207_0)).trans hw207_0)⟩ (fun hHeld => ?_)
                            clear hK K
                            refine norm_ (a' := ?_) ?_ ?_
                            rotate_left
                            · show Act.put _ (some 80) _ = _
                              simp only [Act.put, List.setIfInBounds_toArray, List.set_cons_zero, List.set_cons_succ, i64_w, i32_w]
                              rfl
                            refine pure_ (i := 13) (N := some 67) (v := ?_) (a' := ?_) #[true, true, true, true, true, true, true, true, true, true, true, true, true, true, false, false, false, false] rfl rfl (any_of HT_.out (by kernel_rfl)) (fun _ _ _ h => h) (Or.inl ⟨by rfl, ?_⟩) ?_ ?_
                            rotate_left
                            · intro w'
                              go_simp
                              with_reducible rfl
                            rotate_left
                            · simp only [Act.put, List.setIfInBounds_toArray, List.set_cons_zero, List.set_cons_succ, i64_w, i32_w]
                              rfl
                            refine pure_ (i := 14) (N := some 81) (v := ?_) (a' := ?_) #[true, true, true, true, true, true, true, true, true, true, true, true, true, true, true, false, false, false] rfl rfl (any_of HT_.out (by kernel_rfl)) (fun _ _ _ h => h) (Or.inl ⟨by rfl, ?_⟩) ?_ ?_
                            rotate_left
                            · intro w'
                              go_simp
                              with_reducible rfl
                            rotate_left
                            · simp only [Act.put, List.setIfInBounds_toArray, List.set_cons_zero, List.set_cons_succ, i64_w, i32_w]
                              rfl
                            refine pure_ (i := 15) (N := some 82) (v := ?_) (a' := ?_) #[true, true, true, true, true, true, true, true, true, true, true, true, true, true, true, true, false, false] rfl rfl (any_of HT_.out (by kernel_rfl)) (fun _ _ _ h => h) (Or.inl ⟨by rfl, ?_⟩) ?_ ?_
                            rotate_left
                            · intro w'
                              go_simp
                              with_reducible rfl
                            rotate_left
                            · simp only [Act.put, List.setIfInBounds_toArray, List.set_cons_zero, List.set_cons_succ, i64_w, i32_w]
                              rfl
                            refine pure_ (i := 16) (N := some 12) (v := ?_) (a' := ?_) #[true, true, true, true, true, true, true, true, true, true, true, true, true, true, true, true, true, false] rfl rfl (any_of HT_.out (by kernel_rfl)) (fun _ _ _ h => h) (Or.inl ⟨by rfl, ?_⟩) ?_ ?_
                            rotate_left
                            · intro w'
                              go_simp
                              with_reducible rfl
                            rotate_left
                            · simp only [Act.put, List.setIfInBounds_toArray, List.set_cons_zero, List.set_cons_succ, i64_w, i32_w]
                              rfl
                            refine pure_ (i := 17) (N := some 13) (v := ?_) (a' := ?_) #[true, true, true, true, true, true, true, true, true, true, true, true, true, true, true, true, true, true] rfl rfl (any_of HT_.out (by kernel_rfl)) (fun _ _ _ h => h) (Or.inl ⟨by rfl, ?_⟩) ?_ ?_
                            rotate_left
                            · intro w'
                              go_simp
                              with_reducible rfl
                            rotate_left
                            · simp only [Act.put, List.setIfInBounds_toArray, List.set_cons_zero, List.set_cons_succ, i64_w, i32_w]
                              rfl
                            refine done_ (done_of HT_.out (by kernel_rfl)) ?_
                            obtain ⟨Aozg1, cozg1, eozg1⟩ := Kd.R_slice HO210.out
                            subst eozg1
                            have q60 : ((ji51) : Int) ≤ ((t208.length : Int) : Int) := of_decide_eq_true (by first | (with_reducible assumption) | assumption)
                            obtain ⟨i060, hi060, _, hsz60, _⟩ := info_parts info9
                            have hroom60 : t208.length ≤ cozg1 := (Kd.R_reads' HO210.out).2.1
                            have hC60 : Kd.C Kd.string _ Aozg1 t208.length t208 := (Kd.R_reads' HO210.out).2.2
                            have ql60 : (1 : Int) ≤ ((ji51) : Int) := of_decide_eq_true (by first | (with_reducible assumption) | assumption)
                            have hcut60 := cut_mid (P := Try.prog) 27 9 .i64 .i64 Try.underlying27 hi060 1 hsz60 Aozg1 t208.length cozg1 1 (ji51) (by omega) ql60 q60 hroom60
                            have hr60 := Kd.C_mid (lo := (1 : Int).toNat) (hi := ((ji51) : Int).toNat) (c := cozg1) hC60 (by omega) (by omega) hroom60
                            obtain ⟨A60, hA60⟩ : ∃ A1, A1 = (if cozg1 = (1 : Int).toNat then Aozg1 else (Aozg1 : Option Addr).map (·.add ((1 : Int).toNat * 1))) := ⟨_, rfl⟩
                            obtain ⟨c60, hc60⟩ : ∃ c1, c1 = cozg1 - (1 : Int).toNat := ⟨_, rfl⟩
                            have hy60 : y212.length = ((ji51) : Int).toNat - (1 : Int).toNat := (by rw [Ny212.out, List.length_drop, List.length_take] <;> omega)
                            rw [show ((t208).take ((ji51) : Int).toNat).drop (1 : Int).toNat = y212 from Ny212.out.symm] at hr60
                            replace hr60 : Kd.C Kd.string _ A60 y212.length y212 := (by rw [hA60]; exact hr60)
                            rw [← hy60, ← hA60, ← hc60] at hcut60
                            have HR215 := Aside0.mk hr60
                            have HC215 := Aside0.mk (show y212.length ≤ c60 from by rw [hy60, hc60]; exact Nat.sub_le_sub_right (Nat.le_trans (by omega) hroom60) _)
                            clear hr60 hC60 hroom60 hi060 hsz60 hc60
                            have KY60 := Aside0.mk hy60
                            have KA60 := Aside0.mk hA60
                            clear hy60 hA60
                            have KL60 := Aside0.mk (show ((ji51) : Int).toNat ≤ t208.length from by omega)
                            have KM60 := Aside0.mk (show 1 ≤ ((ji51) : Int).toNat from by omega)
                            replace q60 := eq_true q60
                            try go_wp2_with (first | ((with_reducible refine gate_builtin (b := .append) (xs := #[.tmp 86, .tmp 92]) rfl ?_); at_builtin; refine Kd.R_append_rows Kd.string (w0 := w) w.heap.size rfl (.tmp 86) (.tmp 92) 27 9 (.string ⟨#[]⟩) 16 rfl Try.underlying27 info9 rfl (by decide) (by omega) u9 x9_3 y212 _ _ _ (fun k_ => some k_ ≠ (.slice Aozg1 t208.length cozg1 : Value).ownBlock) (fun _ => False) rfl rfl ?aO ?aR (fun _ _ h => h) (fun _ h => h.elim) ?aF ?aB ?aS ?aL ?_; (case aR => repeat (first | exact (by repeat (first | (with_reducible exact HR215.out) | (with_reducible refine Kd.C_alloc ?_ _) | (with_reducible refine Kd.C_drewN ?_ _) | (with_reducible refine Kd.C_drew ?_) | exact HR215.out)) | (with_reducible refine Kd.C_alloc ?_ _) | (with_reducible refine Kd.C_drewN ?_ _) | (with_reducible refine Kd.C_drew ?_))); (case aB => exact bel_s); (case aF => exact (fun k_ hk => Kd.fresh' (Kd.R_lt (by (with_reducible repeat (first | apply Kd.R_alloc | apply Kd.R_drewN | apply Kd.R_drew)); exact HO210.out)) k_ hk)); (case aO => exact (by (with_reducible repeat (first | apply Kd.R_alloc | apply Kd.R_drewN | apply Kd.R_drew)); exact Kd.R_mono HO_9.out (fun _ hk => hk.2))); (case aS => exact (below_size bel_s)); (case aL => have := LMc54.out; omega); intro v217 wxb38f1 ho hb hg hat; rw [← Ny216.out] at ho; have n0_ := Aside0.mk (blk_grown (g := gb196) (o := .cells #[.slice A1_0 l1_0.length c1_0, .slice A1_1 l1_1.length c1_1] 25 (0, 0)) blk_s hg (Kd.R_ne HO_9.out BK196.out (by decide))); have n1_ := Aside0.mk (Kd.R_after (ok := (fun _ => True)) (by (with_reducible repeat (first | apply Kd.R_alloc | apply Kd.R_drewN | apply Kd.R_drew)); exact HO210.out) hg hat); have n2_ := Aside0.mk (hb); have n3_ := Aside0.mk ((show Kd.C Kd.string wxb38f1 A60 y212.length y212 from by rw [Ny212.out, KA60.out]; exact Kd.C_mid (lo := 1) (hi := ((ji51) : Int).toNat) (c := cozg1) ((Kd.R_reads' (Kd.R_after (ok := (fun _ => True)) (by (with_reducible repeat (first | apply Kd.R_alloc | apply Kd.R_drewN | apply Kd.R_drew)); exact HO210.out) hg hat)).2.2) KM60.out KL60.out ((Kd.R_reads' (Kd.R_after (ok := (fun _ => True)) (by (with_reducible repeat (first | apply Kd.R_alloc | apply Kd.R_drewN | apply Kd.R_drew)); exact HO210.out) hg hat)).2.1))); have n4_ := Aside0.mk (ho); clear BK196; clear HO210; clear HB; clear HR215; clear HO_9; have BK196 := n0_; have HO210 := n1_; have HB := n2_; have HR215 := n3_; have HO218 := n4_; clear n0_ n1_ n2_ n3_ n4_; clear ho hb hg hat))
                            first | go_roundg k3 | (subst hji43; subst hji46; subst hji51; go_roundg k3)
                            case measure => have := HK1.out; have := HK2.out; have := HK3.out; omega
                            case rel => exact ⟨(y216), (ji46), (by first | rfl | (simp; done) | (simp only [← hji46] <;> (first | rfl | (simp; done))) | (simp [*]; done) | (refine congrArg Value.bool ?_; rw [Bool.eq_iff_iff]; simp only [beq_iff_eq, decide_eq_true_eq, List.length_take]; omega)), H', ⟨by have := HK1.out; have := HK2.out; have := HK3.out; omega⟩, ⟨by (with_reducible repeat (first | apply Kd.R_alloc | apply Kd.R_drewN | apply Kd.R_drew)); exact Kd.R_mono HO218.out (fun _ hk => trivial)⟩, ⟨by (with_reducible repeat (first | refine blk_drewN ?_ _ | refine blk_drew ?_ | refine blk_alloc ?_ _)); exact BK196.out⟩, ⟨by repeat (first | (with_reducible first | exact HB.out | apply below_alloc | apply pw_below_drewN | apply below_drew1 | refine below_set ?_ GE196.out) | exact HB.out)⟩⟩
                          | clear hm14_2
                            go_wp2_with (first | ((with_reducible refine gate_callee (f := 101) rfl ?_); refine goesL_ (some 61) rfl rfl Try.func101 (by kernel_rfl) rfl #[.agg #[.slice A1_0 l1_0.length c1_0, .slice A1_1 l1_1.length c1_1], .string (rdOf ByteArray.empty l0 x54_3)] rfl any_s ?_; (with_reducible refine (route_isAirway.calls _ _ l1_0 _ _ l1_1 (rdOf ByteArray.empty l0 x54_3) false _ ?side1 ?side2 ?side3 ?side4 A41.out).mono ?_); (case side1 => repeat (first | exact (Kd.C_below HR1_0.out HB.out) | (with_reducible refine Kd.C_alloc ?_ _) | (with_reducible refine Kd.C_drewN ?_ _) | (with_reducible refine Kd.C_drew ?_))); (case side2 => exact HC1_0.out); (case side3 => repeat (first | exact (Kd.C_below HR1_1.out HB.out) | (with_reducible refine Kd.C_alloc ?_ _) | (with_reducible refine Kd.C_drewN ?_ _) | (with_reducible refine Kd.C_drew ?_))); (case side4 => exact HC1_1.out); rintro e wxa2901 ⟨rfl, hb⟩; refine ⟨_, rfl, ?_⟩; have n0_ := Aside0.mk (Kd.R_below (by (with_reducible repeat (first | apply Kd.R_alloc | apply Kd.R_drewN | apply Kd.R_drew)); exact HO_9.out) hb); have n1_ := Aside0.mk (blk_below (g := gb196) (o := .cells #[.slice A1_0 l1_0.length c1_0, .slice A1_1 l1_1.length c1_1] 25 (0, 0)) blk_s hb); have n2_ := Aside0.mk (below_step bel_s hb); clear HO_9; clear BK196; clear HB; have HO_9 := n0_; have BK196 := n1_; have HB := n2_; clear n0_ n1_ n2_; (try clear hb); (try clear hb2); (try clear hk); (try clear hi)) | ((with_reducible refine gate_builtin (b := .append) (xs := #[.tmp 63, .tmp 65]) rfl ?_); at_builtin; refine Kd.R_append Kd.string (w0 := w) w.heap.size rfl (.tmp 63) (.tmp 65) 27 9 (.string ⟨#[]⟩) 16 rfl Try.underlying27 info9 rfl (by decide) (by omega) u9 x9_3 (rdOf ByteArray.empty l0 x54_3) [.string (rdOf ByteArray.empty l0 x54_3)] (fun _ => True) (fun _ => False) rfl rfl ?aP (fun _ hk => hk.elim) ?aF ?aO ?aB ?aS ?aL ?_; (case aP => exact rfl); (case aB => exact bel_s); (case aF => exact (fun _ _ => trivial)); (case aO => exact (by (with_reducible repeat (first | apply Kd.R_alloc | apply Kd.R_drewN | apply Kd.R_drew)); exact HO_9.out)); (case aS => exact (below_size bel_s)); (case aL => have := LMc66.out; omega); intro v220 wxbc181 ho hb hg hat; rw [← Ny219.out] at ho; have n0_ := Aside0.mk (blk_grown (g := gb196) (o := .cells #[.slice A1_0 l1_0.length c1_0, .slice A1_1 l1_1.length c1_1] 25 (0, 0)) blk_s hg (Kd.R_ne HO_9.out BK196.out (by decide))); have n1_ := Aside0.mk (hb); have n2_ := Aside0.mk (ho); clear BK196; clear HB; clear HO_9; have BK196 := n0_; have HB := n1_; have HO221 := n2_; clear n0_ n1_ n2_; clear ho hb hg hat))
                            go_roundg k3
                            case measure => have := HK1.out; have := HK2.out; have := HK3.out; omega
                            case rel => exact ⟨(y219), (wrap64 (x54_3 + 1)), (by first | rfl | (simp; done) | (simp [*]; done)), H', ⟨by have := HK1.out; have := HK2.out; have := HK3.out; omega⟩, ⟨by (with_reducible repeat (first | apply Kd.R_alloc | apply Kd.R_drewN | apply Kd.R_drew)); exact HO221.out⟩, ⟨by (with_reducible repeat (first | refine blk_drewN ?_ _ | refine blk_drew ?_ | refine blk_alloc ?_ _)); exact BK196.out⟩, ⟨by repeat (first | (with_reducible first | exact HB.out | apply below_alloc | apply pw_below_drewN | apply below_drew1 | refine below_set ?_ GE196.out) | exact HB.out)⟩⟩
                       | clear hm14_1
                         try go_wp2_with (first | ((with_reducible refine gate_callee (f := 101) rfl ?_); refine goesL_ (some 61) rfl rfl Try.func101 (by kernel_rfl) rfl #[.agg #[.slice A1_0 l1_0.length c1_0, .slice A1_1 l1_1.length c1_1], .string (rdOf ByteArray.empty l0 x54_3)] rfl any_s ?_; (with_reducible refine (route_isAirway.calls _ _ l1_0 _ _ l1_1 (rdOf ByteArray.empty l0 x54_3) true _ ?side1 ?side2 ?side3 ?side4 A41.out).mono ?_); (case side1 => repeat (first | exact (Kd.C_below HR1_0.out HB.out) | (with_reducible refine Kd.C_alloc ?_ _) | (with_reducible refine Kd.C_drewN ?_ _) | (with_reducible refine Kd.C_drew ?_))); (case side2 => exact HC1_0.out); (case side3 => repeat (first | exact (Kd.C_below HR1_1.out HB.out) | (with_reducible refine Kd.C_alloc ?_ _) | (with_reducible refine Kd.C_drewN ?_ _) | (with_reducible refine Kd.C_drew ?_))); (case side4 => exact HC1_1.out); rintro e wx7cbc1 ⟨rfl, hb⟩; refine ⟨_, rfl, ?_⟩; have n0_ := Aside0.mk (Kd.R_below (by (with_reducible repeat (first | apply Kd.R_alloc | apply Kd.R_drewN | apply Kd.R_drew)); exact HO_9.out) hb); have n1_ := Aside0.mk (blk_below (g := gb196) (o := .cells #[.slice A1_0 l1_0.length c1_0, .slice A1_1 l1_1.length c1_1] 25 (0, 0)) blk_s hb); have n2_ := Aside0.mk (below_step bel_s hb); clear HO_9; clear BK196; clear HB; have HO_9 := n0_; have BK196 := n1_; have HB := n2_; clear n0_ n1_ n2_; (try clear hb); (try clear hb2); (try clear hk); (try clear hi)))
                         have n0_ := Aside0.mk (Kd.R_drew HO_9.out)
                         have n1_ := Aside0.mk (blk_drew BK196.out)
                         have n2_ := Aside0.mk (below_drew1 HB.out)
                         clear HO_9
                         clear BK196
                         clear HB
                         have HO_9 := n0_
                         have BK196 := n1_
                         have HB := n2_
                         clear n0_ n1_ n2_
                         have p206 : 0 ≤ ((ji43) : Int) := of_decide_eq_true (by first | (with_reducible assumption) | assumption)
                         have q206 : (ji43) < (l0.length : Int) := of_decide_eq_true (by first | (with_reducible assumption) | assumption)
                         obtain ⟨ad206, e206, hx206_0⟩ := Kd.at_string HR0.out (ji43) p206 q206
                         have hw206_0 := hx206_0
                         obtain rfl : ad204 = ad206 := (by injection e206)
                         replace hx206_0 := (HB.out.cell (World.block_lt_of_cell? w _ hx206_0)).trans hx206_0
                         replace p206 := eq_true p206
                         replace q206 := eq_true q206
                         have p207 : 0 ≤ ((ji46) : Int) := of_decide_eq_true (by first | (with_reducible assumption) | assumption)
                         have q207 : (ji46) < (l0.length : Int) := of_decide_eq_true (by first | (with_reducible assumption) | assumption)
                         obtain ⟨ad207, e207, hx207_0⟩ := Kd.at_string HR0.out (ji46) p207 q207
                         have hw207_0 := hx207_0
                         obtain rfl : ad204 = ad207 := (by injection e207)
                         replace hx207_0 := (HB.out.cell (World.block_lt_of_cell? w _ hx207_0)).trans hx207_0
                         replace p207 := eq_true p207
                         replace q207 := eq_true q207
                         refine start_ (n := 18) (S := fun w' => w'.cell? ⟨gb196, 0, none⟩ = some (.slice A1_0 l1_0.length c1_0) ∧ w'.cell? ⟨gb196, 1, none⟩ = some (.slice A1_1 l1_1.length c1_1) ∧ w'.cell? (ad204.add ((ji43)).toNat) = some (.string (rdOf ByteArray.empty l0 (ji43))) ∧ w'.cell? (ad204.add ((ji46)).toNat) = some (.string (rdOf ByteArray.empty l0 (ji46)))) (ds := []) #[false, false, false, false, false, false, false, false, false, false, false, false, false, false, false, false, false, false] (by kernel_rfl) rfl rfl ⟨(blk_cell BK196.out 0).trans rfl, (blk_cell BK196.out 1).trans rfl, ((HB.out.cell (World.block_lt_of_cell? w _ hw206_0)).trans hw206_0), ((HB.out.cell (World.block_lt_of_cell? w _ hw207_0)).trans hw207_0)⟩ (fun hHeld => ?_); refine with_tabW route_names.tab18 route_names.bits18 (fun HT_ HW_ => ?_)
                         generalize wx7cbc1.drew = wzg1 at HO_9 BK196 HB hx206_0 hx207_0 hHeld ⊢
                         refine pure_ (i := 1) (N := some 69) (v := ?_) (a' := ?_) #[false, true, false, false, false, false, false, false, false, false, false, false, false, false, false, false, false, false] rfl rfl (any_of HT_.out (by kernel_rfl)) (fun _ _ _ h => h) (Or.inl ⟨by rfl, ?_⟩) ?_ ?_
                         rotate_left
                         · intro w'
                           go_simp
                           with_reducible rfl
                         rotate_left
                         · simp only [Act.put, List.setIfInBounds_toArray, List.set_cons_zero, List.set_cons_succ, i64_w, i32_w]
                           rfl
                         refine pure_ (i := 2) (N := some 70) (v := ?_) (a' := ?_) #[false, true, true, false, false, false, false, false, false, false, false, false, false, false, false, false, false, false] rfl rfl (any_of HT_.out (by kernel_rfl)) (fun _ _ _ h => h) (Or.inl ⟨by rfl, ?_⟩) ?_ ?_
                         rotate_left
                         · intro w'
                           go_simp
                           with_reducible rfl
                         rotate_left
                         · simp only [Act.put, List.setIfInBounds_toArray, List.set_cons_zero, List.set_cons_succ, i64_w, i32_w]
                           rfl
                         refine pure_ (i := 3) (N := some 71) (v := ?_) (a' := ?_) #[false, true, true, true, false, false, false, false, false, false, false, false, false, false, false, false, false, false] rfl rfl (any_of HT_.out (by kernel_rfl)) (fun _ _ _ h => h) (Or.inl ⟨by rfl, ?_⟩) ?_ ?_
                         rotate_left
                         · intro w'
                           go_simp
                           with_reducible rfl
                         rotate_left
                         · simp only [Act.put, List.setIfInBounds_toArray, List.set_cons_zero, List.set_cons_succ, i64_w, i32_w]
                           rfl
                         refine pure_ (i := 4) (N := some 72) (v := ?_) (a' := ?_) #[false, true, true, true, true, false, false, false, false, false, false, false, false, false, false, false, false, false] rfl rfl (any_of HT_.out (by kernel_rfl)) (fun _ _ _ h => h) (Or.inl ⟨by rfl, ?_⟩) ?_ ?_
                         rotate_left
                         · intro w'
                           go_simp
                           with_reducible rfl
                         rotate_left
                         · simp only [Act.put, List.setIfInBounds_toArray, List.set_cons_zero, List.set_cons_succ, i64_w, i32_w]
                           rfl
                         refine pure_ (i := 5) (N := some 73) (v := ?_) (a' := ?_) #[false, true, true, true, true, true, false, false, false, false, false, false, false, false, false, false, false, false] rfl rfl (any_of HT_.out (by kernel_rfl)) (fun _ _ _ h => h) (Or.inl ⟨by rfl, ?_⟩) ?_ ?_
                         rotate_left
                         · intro w'
                           go_simp
                           with_reducible rfl
                         rotate_left
                         · simp only [Act.put, List.setIfInBounds_toArray, List.set_cons_zero, List.set_cons_succ, i64_w, i32_w]
                           rfl
                         refine pure_ (i := 7) (N := some 75) (v := ?_) (a' := ?_) #[false, true, true, true, true, true, false, true, false, false, false, false, false, false, false, false, false, false] rfl rfl (any_of HT_.out (by kernel_rfl)) (fun _ _ _ h => h) (Or.inl ⟨by rfl, ?_⟩) ?_ ?_
                         rotate_left
                         · intro w'
                           go_simp
                           with_reducible rfl
                         rotate_left
                         · simp only [Act.put, List.setIfInBounds_toArray, List.set_cons_zero, List.set_cons_succ, i64_w, i32_w]
                           rfl
                         refine pure_ (i := 8) (N := some 76) (v := ?_) (a' := ?_) #[false, true, true, true, true, true, false, true, true, false, false, false, false, false, false, false, false, false] rfl rfl (any_of HT_.out (by kernel_rfl)) (fun _ _ _ h => h) (Or.inl ⟨by rfl, ?_⟩) ?_ ?_
                         rotate_left
                         · intro w'
                           go_simp
                           with_reducible rfl
                         rotate_left
                         · simp only [Act.put, List.setIfInBounds_toArray, List.set_cons_zero, List.set_cons_succ, i64_w, i32_w]
                           rfl
                         refine pure_ (i := 9) (N := some 77) (v := ?_) (a' := ?_) #[false, true, true, true, true, true, false, true, true, true, false, false, false, false, false, false, false, false] rfl rfl (any_of HT_.out (by kernel_rfl)) (fun _ _ _ h => h) (Or.inl ⟨by rfl, ?_⟩) ?_ ?_
                         rotate_left
                         · intro w'
                           go_simp
                           with_reducible rfl
                         rotate_left
                         · simp only [Act.put, List.setIfInBounds_toArray, List.set_cons_zero, List.set_cons_succ, i64_w, i32_w]
                           rfl
                         refine pure_ (i := 10) (N := some 78) (v := ?_) (a' := ?_) #[false, true, true, true, true, true, false, true, true, true, true, false, false, false, false, false, false, false] rfl rfl (any_of HT_.out (by kernel_rfl)) (fun _ _ _ h => h) (Or.inl ⟨by rfl, ?_⟩) ?_ ?_
                         rotate_left
                         · intro w'
                           go_simp
                           with_reducible rfl
                         rotate_left
                         · simp only [Act.put, List.setIfInBounds_toArray, List.set_cons_zero, List.set_cons_succ, i64_w, i32_w]
                           rfl
                         refine take_ (i := 0) (N := some 68) (v := ?_) (a' := ?_) #[true, true, true, true, true, true, false, true, true, true, true, false, false, false, false, false, false, false] rfl rfl (take_ofW HT_.out HW_.out (by kernel_rfl)) (fun _ _ _ h => h) (Or.inl ⟨by rfl, ?_⟩) hHeld ?_ ?_
                         rotate_left
                         · rintro w' ⟨s0, s1, s2, s3⟩
                           go_simp
                           with_reducible rfl
                         rotate_left
                         · simp only [Act.put, List.setIfInBounds_toArray, List.set_cons_zero, List.set_cons_succ, i64_w, i32_w]
                           rfl
                         refine take_ (i := 6) (N := some 74) (v := ?_) (a' := ?_) #[true, true, true, true, true, true, true, true, true, true, true, false, false, false, false, false, false, false] rfl rfl (take_ofW HT_.out HW_.out (by kernel_rfl)) (fun _ _ _ h => h) (Or.inl ⟨by rfl, ?_⟩) hHeld ?_ ?_
                         rotate_left
                         · rintro w' ⟨s0, s1, s2, s3⟩
                           go_simp
                           with_reducible rfl
                         rotate_left
                         · simp only [Act.put, List.setIfInBounds_toArray, List.set_cons_zero, List.set_cons_succ, i64_w, i32_w]
                           rfl
                         refine take_ (i := 11) (N := some 79) (v := ?_) (a' := ?_) #[true, true, true, true, true, true, true, true, true, true, true, true, false, false, false, false, false, false] rfl rfl (take_ofW HT_.out HW_.out (by kernel_rfl)) (fun _ _ _ h => h) (Or.inl ⟨by rfl, ?_⟩) hHeld ?_ ?_
                         rotate_left
                         · rintro w' ⟨s0, s1, s2, s3⟩
                           go_simp
                           with_reducible rfl
                         rotate_left
                         · simp only [Act.put, List.setIfInBounds_toArray, List.set_cons_zero, List.set_cons_succ, i64_w, i32_w]
                           rfl
                         refine one_ (i := 12) (N := some 80) #[true, true, true, true, true, true, true, true, true, true, true, true, true, false, false, false, false, false] rfl rfl (one_of HT_.out (by kernel_rfl)) (by decide) (fun K hK => ?_)
                         refine goes_ Try.func16 (by kernel_rfl) rfl #[.agg #[.slice A1_0 l1_0.length c1_0, .slice A1_1 l1_1.length c1_1], .string (rdOf ByteArray.empty l0 x54_3), .string (rdOf ByteArray.empty l0 (ji43)), .string (rdOf ByteArray.empty l0 (ji46))] (by rfl) rfl rfl (by (try simp only [List.map_toArray, List.map_cons, List.map_nil]); first | done | (simp only [hji43, hji46]; rfl) | rfl | (simp only [List.length_drop, List.length_take]; rfl)) ?_
                         with_reducible refine (chart_Between.calls k3 _ _ l1_0 _ _ l1_1 (rdOf ByteArray.empty l0 x54_3) (rdOf ByteArray.empty l0 (ji43)) (rdOf ByteArray.empty l0 (ji46)) t208 t211 _ ?side1 ?side2 ?side3 ?side4 A49.out).mono ?_
                         (case side1 => repeat (first | exact (Kd.C_below HR1_0.out HB.out) | (with_reducible refine Kd.C_alloc ?_ _) | (with_reducible refine Kd.C_drewN ?_ _) | (with_reducible refine Kd.C_drew ?_)))
                         (case side2 => exact HC1_0.out)
                         (case side3 => repeat (first | exact (Kd.C_below HR1_1.out HB.out) | (with_reducible refine Kd.C_alloc ?_ _) | (with_reducible refine Kd.C_drewN ?_ _) | (with_reducible refine Kd.C_drew ?_)))
                         (case side4 => exact HC1_1.out)
                         rintro e wzg2 ⟨v209, rfl, hozg1, hb⟩
                         refine ⟨_, rfl, ?_⟩
                         have n0_ := Aside0.mk (Kd.R_elder' (by (with_reducible repeat (first | apply Kd.R_alloc | apply Kd.R_drewN | apply Kd.R_drew)); exact HO_9.out) (Kd.R_base hozg1) hb)
                         have n1_ := Aside0.mk (Kd.R_lower (Kd.R_new' hozg1 (Kd.R_lt (by (with_reducible repeat (first | apply Kd.R_alloc | apply Kd.R_drewN | apply Kd.R_drew)); exact HO_9.out))) (below_size bel_s))
                         have n2_ := Aside0.mk (blk_below (g := gb196) (o := .cells #[.slice A1_0 l1_0.length c1_0, .slice A1_1 l1_1.length c1_1] 25 (0, 0)) blk_s hb)
                         have n3_ := Aside0.mk (below_step bel_s hb)
                         clear HO_9
                         clear BK196
                         clear HB
                         have HO_9 := n0_
                         have HO210 := n1_
                         have BK196 := n2_
                         have HB := n3_
                         clear n0_ n1_ n2_ n3_
                         (try clear hb)
                         (try clear hb2)
                         (try clear hk)
                         (try clear hi)
                         (try clear hozg1)
                         refine hK.out _ _ ⟨(blk_cell BK196.out 0).trans rfl, (blk_cell BK196.out 1).trans rfl, ((HB.out.cell (World.block_lt_of_cell? w _ hw206_0)).trans hw206_0), ((HB.out.cell (World.block_lt_of_cell? w _ hw207_0)).trans hw207_0)⟩ (fun hHeld => ?_)
                         clear hK K
                         refine norm_ (a' := ?_) ?_ ?_
                         rotate_left
                         · show Act.put _ (some 80) _ = _
                           simp only [Act.put, List.setIfInBounds_toArray, List.set_cons_zero, List.set_cons_succ, i64_w, i32_w]
                           rfl
                         refine pure_ (i := 13) (N := some 67) (v := ?_) (a' := ?_) #[true, true, true, true, true, true, true, true, true, true, true, true, true, true, false, false, false, false] rfl rfl (any_of HT_.out (by kernel_rfl)) (fun _ _ _ h => h) (Or.inl ⟨by rfl, ?_⟩) ?_ ?_
                         rotate_left
                         · intro w'
                           go_simp
                           with_reducible rfl
                         rotate_left
                         · simp only [Act.put, List.setIfInBounds_toArray, List.set_cons_zero, List.set_cons_succ, i64_w, i32_w]
                           rfl
                         refine pure_ (i := 14) (N := some 81) (v := ?_) (a' := ?_) #[true, true, true, true, true, true, true, true, true, true, true, true, true, true, true, false, false, false] rfl rfl (any_of HT_.out (by kernel_rfl)) (fun _ _ _ h => h) (Or.inl ⟨by rfl, ?_⟩) ?_ ?_
                         rotate_left
                         · intro w'
                           go_simp
                           with_reducible rfl
                         rotate_left
                         · simp only [Act.put, List.setIfInBounds_toArray, List.set_cons_zero, List.set_cons_succ, i64_w, i32_w]
                           rfl
                         refine pure_ (i := 15) (N := some 82) (v := ?_) (a' := ?_) #[true, true, true, true, true, true, true, true, true, true, true, true, true, true, true, true, false, false] rfl rfl (any_of HT_.out (by kernel_rfl)) (fun _ _ _ h => h) (Or.inl ⟨by rfl, ?_⟩) ?_ ?_
                         rotate_left
                         · intro w'
                           go_simp
                           with_reducible rfl
                         rotate_left
                         · simp only [Act.put, List.setIfInBounds_toArray, List.set_cons_zero, List.set_cons_succ, i64_w, i32_w]
                           rfl
                         refine pure_ (i := 16) (N := some 12) (v := ?_) (a' := ?_) #[true, true, true, true, true, true, true, true, true, true, true, true, true, true, true, true, true, false] rfl rfl (any_of HT_.out (by kernel_rfl)) (fun _ _ _ h => h) (Or.inl ⟨by rfl, ?_⟩) ?_ ?_
                         rotate_left
                         · intro w'
                           go_simp
                           with_reducible rfl
                         rotate_left
                         · simp only [Act.put, List.setIfInBounds_toArray, List.set_cons_zero, List.set_cons_succ, i64_w, i32_w]
                           rfl
                         refine pure_ (i := 17) (N := some 13) (v := ?_) (a' := ?_) #[true, true, true, true, true, true, true, true, true, true, true, true, true, true, true, true, true, true] rfl rfl (any_of HT_.out (by kernel_rfl)) (fun _ _ _ h => h) (Or.inl ⟨by rfl, ?_⟩) ?_ ?_
                         rotate_left
                         · intro w'
                           go_simp
                           with_reducible rfl
                         rotate_left
                         · simp only [Act.put, List.setIfInBounds_toArray, List.set_cons_zero, List.set_cons_succ, i64_w, i32_w]
                           rfl
                         refine done_ (done_of HT_.out (by kernel_rfl)) ?_
                         try go_wp2
                         go_ret2
                         exact ⟨_, by first | rfl | (simp [errW_none, errW_some] <;> rfl) | (simp only [← hji43, ← hji46]; first | rfl | (simp [errW_none, errW_some] <;> rfl)) | (simp [*, errW_none, errW_some] <;> rfl), by first | exact Kd.R_nil _ _ _ _ _ | exact Kd.N_nil _ _ _ _ _ | exact Kd.V_nil _ _ _ _ _ | exact Kd.Q_nil _ _ _ _ _ | exact Kd.S_nil _ _ _ _ _, by repeat (first | (with_reducible first | exact HB.out | apply below_alloc | apply pw_below_drewN | apply below_drew1 | refine below_set ?_ GE196.out) | exact HB.out)⟩
                       | clear hm14_3
                         go_wp2
                         go_ret2
                         exact ⟨_, by first | rfl | (simp [errW_none, errW_some] <;> rfl) | (simp [*, errW_none, errW_some] <;> rfl), by (with_reducible repeat (first | apply Kd.R_alloc | apply Kd.R_drewN | apply Kd.R_drew)); exact HO_9.out, by repeat (first | (with_reducible first | exact HB.out | apply below_alloc | apply pw_below_drewN | apply below_drew1 | refine below_set ?_ GE196.out) | exact HB.out)⟩
     | clear hm1_1
       have hczzc1 : wr.cell? ⟨gb196, 0, none⟩ = some (.slice A1_0 l1_0.length c1_0) := (blk_cell BK196.out 0).trans rfl
       have hczzc2 : wr.cell? ⟨gb196, 1, none⟩ = some (.slice A1_1 l1_1.length c1_1) := (blk_cell BK196.out 1).trans rfl
       have hfzzc1 := blk_frozen BK196.out 0
       have hfzzc2 := blk_frozen BK196.out 1
       go_wp2_with (first | ((with_reducible refine gate_callee (f := 64) rfl ?_); refine goesL_ (some 22) rfl rfl Try.func64 (by kernel_rfl) rfl #[.agg #[.slice A1_0 l1_0.length c1_0, .slice A1_1 l1_1.length c1_1], .string (rdOf ByteArray.empty l0 x16_1)] rfl any_s ?_; (with_reducible refine (route_isFix.calls _ _ l1_0 _ _ l1_1 (rdOf ByteArray.empty l0 x16_1) false _ ?side1 ?side2 ?side3 ?side4 A7.out).mono ?_); (case side1 => repeat (first | exact (Kd.C_below HR1_0.out HB.out) | (with_reducible refine Kd.C_alloc ?_ _) | (with_reducible refine Kd.C_drewN ?_ _) | (with_reducible refine Kd.C_drew ?_))); (case side2 => exact HC1_0.out); (case side3 => repeat (first | exact (Kd.C_below HR1_1.out HB.out) | (with_reducible refine Kd.C_alloc ?_ _) | (with_reducible refine Kd.C_drewN ?_ _) | (with_reducible refine Kd.C_drew ?_))); (case side4 => exact HC1_1.out); rintro e wxe8b31 ⟨rfl, hb⟩; refine ⟨_, rfl, ?_⟩; have n0_ := Aside0.mk (blk_below (g := gb196) (o := .cells #[.slice A1_0 l1_0.length c1_0, .slice A1_1 l1_1.length c1_1] 25 (0, 0)) blk_s hb); have n1_ := Aside0.mk (below_step bel_s hb); clear BK196; clear HB; have BK196 := n0_; have HB := n1_; clear n0_ n1_; (try clear hb); (try clear hb2); (try clear hk); (try clear hi); have hczxe8b31 : wxe8b31.cell? ⟨gb196, 0, none⟩ = some (.slice A1_0 l1_0.length c1_0) := (blk_cell BK196.out 0).trans rfl; have hczxe8b32 : wxe8b31.cell? ⟨gb196, 1, none⟩ = some (.slice A1_1 l1_1.length c1_1) := (blk_cell BK196.out 1).trans rfl; have hfzxe8b31 := blk_frozen BK196.out 0; have hfzxe8b32 := blk_frozen BK196.out 1) | (go_at_call 101; (with_reducible refine (route_isAirway.calls _ _ l1_0 _ _ l1_1 (rdOf ByteArray.empty l0 x16_1) false _ ?side1 ?side2 ?side3 ?side4 A11.out).mono ?_); (case side1 => repeat (first | exact (Kd.C_below HR1_0.out HB.out) | (with_reducible refine Kd.C_alloc ?_ _) | (with_reducible refine Kd.C_drewN ?_ _) | (with_reducible refine Kd.C_drew ?_))); (case side2 => exact HC1_0.out); (case side3 => repeat (first | exact (Kd.C_below HR1_1.out HB.out) | (with_reducible refine Kd.C_alloc ?_ _) | (with_reducible refine Kd.C_drewN ?_ _) | (with_reducible refine Kd.C_drew ?_))); (case side4 => exact HC1_1.out); rintro e wx413d1 ⟨rfl, hb⟩; have n0_ := Aside0.mk (blk_below (g := gb196) (o := .cells #[.slice A1_0 l1_0.length c1_0, .slice A1_1 l1_1.length c1_1] 25 (0, 0)) blk_s hb); have n1_ := Aside0.mk (below_step bel_s hb); clear BK196; clear HB; have BK196 := n0_; have HB := n1_; clear n0_ n1_; (try clear hb); (try clear hb2); (try clear hk); (try clear hi)))
       go_ret2
       exact ⟨_, by first | rfl | (simp [errW_none, errW_some] <;> rfl) | (simp [*, errW_none, errW_some] <;> rfl), by first | exact Kd.R_nil _ _ _ _ _ | exact Kd.N_nil _ _ _ _ _ | exact Kd.V_nil _ _ _ _ _ | exact Kd.Q_nil _ _ _ _ _ | exact Kd.S_nil _ _ _ _ _, by repeat (first | (with_reducible first | exact HB.out | apply below_alloc | apply pw_below_drewN | apply below_drew1 | refine below_set ?_ GE196.out) | exact HB.out)⟩

end Go.Proofs.Ytbpbpojnfhhbjaa.PRouteLength
