/- Made by a program of this session (wip/tools/myprint.py, over the kit's printer): that the Go functions answer as the Lean functions printed beside them. -/
import Derived.Test.YtbpbpojnfhhbjaaPChartLinksx0
import Derived.Test.YtbpbpojnfhhbjaaPChartLinksx6
import Derived.Test.YtbpbpojnfhhbjaaPChartLinksx9
namespace Go.Proofs.Ytbpbpojnfhhbjaa.PChartLinks
open Go.RowKit Go.Proofs.YtbpbpojnfhhbjaaW.PrintWords Go.Proofs.YtbpbpojnfhhbjaaW.PrintLast Go.Proofs.YtbpbpojnfhhbjaaW.PrintMore
attribute [local go_sem] max2_int min2_int max_two min_two max_three min_three max_four min_four   -- for this text's walks alone
set_option linter.unusedVariables false
set_option linter.unusedSimpArgs false

/-! ### skywaykeep1_ChartLinks: function 6 -/
mutual
def skywaykeep1_ChartLinks.l0 : Nat → ByteArray → List ByteArray → List ByteArray → Int → Int → List (S40) → List (S48) → Option (Bool)
  | 0, _, _, _, _, _, _, _ => none
  | k + 1, x1, x5, x27, x28, x29, x245000, x245001 => if x29 < x28 then (if 0 ≤ x29 then (if x29 < (x27.length : Int) then ((chart_Links.f k x245000 x245001 (rdOf ByteArray.empty x27 x29)).bind fun bt251 => (if bt251.2 = 0 then ((skywayref1_HasText.f k bt251.1 x1).bind fun t255 => (if t255 = true then (if (rdOf ByteArray.empty x27 x29).toList = x1.toList then (some false) else (if x29 > 0 then (if 0 ≤ (wrap64 (x29 - 1)) then (if (wrap64 (x29 - 1)) < (x5.length : Int) then (if ((Op.bytesLess ((rdOf ByteArray.empty x5 (wrap64 (x29 - 1))).toList) ((rdOf ByteArray.empty x27 x29).toList)) = true) then (skywaykeep1_ChartLinks.l0 k x1 x5 x27 x28 (wrap64 (x29 + 1)) x245000 x245001) else (some false)) else (none)) else (none)) else (skywaykeep1_ChartLinks.l0 k x1 x5 x27 x28 (wrap64 (x29 + 1)) x245000 x245001))) else (some false))) else (some false))) else (none)) else (none)) else (skywaykeep1_ChartLinks.l1 k x1 x5 x245001 (x245001.length : Int) 0)
def skywaykeep1_ChartLinks.l1 : Nat → ByteArray → List ByteArray → List (S48) → Int → Int → Option (Bool)
  | 0, _, _, _, _, _ => none
  | k + 1, x1, x5, x68, x69, x70 => if x70 < x69 then (if 0 ≤ x70 then (if x70 < (x68.length : Int) then (skywaykeep1_ChartLinks.l2 k x1 x5 1 x68 x69 x70 ((rd_T48 x68 x70).f0) ((rd_T48 x68 x70).f1)) else (none)) else (none)) else (some true)
def skywaykeep1_ChartLinks.l2 : Nat → ByteArray → List ByteArray → Int → List (S48) → Int → Int → ByteArray → List ByteArray → Option (Bool)
  | 0, _, _, _, _, _, _, _, _ => none
  | k + 1, x1, x5, x13, x68, x69, x70, x259000, x259001 => if x13 < (x259001.length : Int) then (if 0 ≤ (wrap64 (x13 - 1)) then (if (wrap64 (x13 - 1)) < (x259001.length : Int) then (if (rdOf ByteArray.empty x259001 (wrap64 (x13 - 1))).toList = x1.toList then (if 0 ≤ x13 then ((skywayref1_HasText.f k x5 (rdOf ByteArray.empty x259001 x13)).bind fun t261 => (if t261 = true then (skywaykeep1_ChartLinks.l2 k x1 x5 (wrap64 (x13 + 1)) x68 x69 x70 x259000 x259001) else (some false))) else (none)) else (skywaykeep1_ChartLinks.l2 k x1 x5 (wrap64 (x13 + 1)) x68 x69 x70 x259000 x259001)) else (none)) else (none)) else (skywaykeep1_ChartLinks.l1 k x1 x5 x68 x69 (wrap64 (x70 + 1)))
end
def skywaykeep1_ChartLinks.f (k : Nat) (l0_0 : List (S40)) (l0_1 : List (S48)) (a1 : ByteArray) : Option (Bool) := (skywaykeep1_chartWorks.f k).bind fun t245 => (if t245 = true then ((chart_Links.f k l0_0 l0_1 a1).bind fun bt246 => (if bt246.2 = 0 then (skywaykeep1_ChartLinks.l0 k a1 bt246.1 bt246.1 (bt246.1.length : Int) 0 l0_0 l0_1) else (some ((bt246.1.length : Int) == 0)))) else (some false))
theorem skywaykeep1_ChartLinks.mono_l : ∀ k, (∀ y0 y1 y2 y3 y4 y5 y6, LeO (skywaykeep1_ChartLinks.l0 k y0 y1 y2 y3 y4 y5 y6) (skywaykeep1_ChartLinks.l0 (k + 1) y0 y1 y2 y3 y4 y5 y6)) ∧ (∀ y0 y1 y2 y3 y4, LeO (skywaykeep1_ChartLinks.l1 k y0 y1 y2 y3 y4) (skywaykeep1_ChartLinks.l1 (k + 1) y0 y1 y2 y3 y4)) ∧ (∀ y0 y1 y2 y3 y4 y5 y6 y7, LeO (skywaykeep1_ChartLinks.l2 k y0 y1 y2 y3 y4 y5 y6 y7) (skywaykeep1_ChartLinks.l2 (k + 1) y0 y1 y2 y3 y4 y5 y6 y7))
  | 0 => ⟨fun _ _ _ _ _ _ _ r h => by simp [skywaykeep1_ChartLinks.l0] at h, fun _ _ _ _ _ r h => by simp [skywaykeep1_ChartLinks.l1] at h, fun _ _ _ _ _ _ _ _ r h => by simp [skywaykeep1_ChartLinks.l2] at h⟩
  | k + 1 => by
    obtain ⟨ih0, ih1, ih2⟩ := skywaykeep1_ChartLinks.mono_l k
    refine ⟨?_, ?_, ?_⟩
    · intro y0 y1 y2 y3 y4 y5 y6
      unfold skywaykeep1_ChartLinks.l0
      repeat' first
      | (with_reducible exact ih0 _ _ _ _ _ _ _)
      | (with_reducible exact ih1 _ _ _ _ _)
      | (with_reducible exact ih2 _ _ _ _ _ _ _ _)
      | (with_reducible exact chart_Links.mono _ _ _ _)
      | (with_reducible exact skywaykeep1_chartWorks.mono _)
      | (with_reducible exact skywayref1_HasText.mono _ _ _)
      | (with_reducible exact LeO.refl _)
      | (with_reducible exact LeO.none _)
      | (with_reducible refine LeO.ite ?_ ?_)
      | (with_reducible refine LeO.bind ?_ (fun _ => ?_))
      | exact ih0 _ _ _ _ _ _ _
      | exact ih1 _ _ _ _ _
      | exact ih2 _ _ _ _ _ _ _ _
      | exact chart_Links.mono _ _ _ _
      | exact skywaykeep1_chartWorks.mono _
      | exact skywayref1_HasText.mono _ _ _
      | exact LeO.none _
      | refine LeO.ite ?_ ?_
      | refine LeO.bind ?_ (fun _ => ?_)
    · intro y0 y1 y2 y3 y4
      unfold skywaykeep1_ChartLinks.l1
      repeat' first
      | (with_reducible exact ih0 _ _ _ _ _ _ _)
      | (with_reducible exact ih1 _ _ _ _ _)
      | (with_reducible exact ih2 _ _ _ _ _ _ _ _)
      | (with_reducible exact chart_Links.mono _ _ _ _)
      | (with_reducible exact skywaykeep1_chartWorks.mono _)
      | (with_reducible exact skywayref1_HasText.mono _ _ _)
      | (with_reducible exact LeO.refl _)
      | (with_reducible exact LeO.none _)
      | (with_reducible refine LeO.ite ?_ ?_)
      | (with_reducible refine LeO.bind ?_ (fun _ => ?_))
      | exact ih0 _ _ _ _ _ _ _
      | exact ih1 _ _ _ _ _
      | exact ih2 _ _ _ _ _ _ _ _
      | exact chart_Links.mono _ _ _ _
      | exact skywaykeep1_chartWorks.mono _
      | exact skywayref1_HasText.mono _ _ _
      | exact LeO.none _
      | refine LeO.ite ?_ ?_
      | refine LeO.bind ?_ (fun _ => ?_)
    · intro y0 y1 y2 y3 y4 y5 y6 y7
      unfold skywaykeep1_ChartLinks.l2
      repeat' first
      | (with_reducible exact ih0 _ _ _ _ _ _ _)
      | (with_reducible exact ih1 _ _ _ _ _)
      | (with_reducible exact ih2 _ _ _ _ _ _ _ _)
      | (with_reducible exact chart_Links.mono _ _ _ _)
      | (with_reducible exact skywaykeep1_chartWorks.mono _)
      | (with_reducible exact skywayref1_HasText.mono _ _ _)
      | (with_reducible exact LeO.refl _)
      | (with_reducible exact LeO.none _)
      | (with_reducible refine LeO.ite ?_ ?_)
      | (with_reducible refine LeO.bind ?_ (fun _ => ?_))
      | exact ih0 _ _ _ _ _ _ _
      | exact ih1 _ _ _ _ _
      | exact ih2 _ _ _ _ _ _ _ _
      | exact chart_Links.mono _ _ _ _
      | exact skywaykeep1_chartWorks.mono _
      | exact skywayref1_HasText.mono _ _ _
      | exact LeO.none _
      | refine LeO.ite ?_ ?_
      | refine LeO.bind ?_ (fun _ => ?_)
theorem skywaykeep1_ChartLinks.mono : ∀ a0 a1 a2 k, LeO (skywaykeep1_ChartLinks.f k a0 a1 a2) (skywaykeep1_ChartLinks.f (k + 1) a0 a1 a2) := by
  intro a0 a1 a2 k
  obtain ⟨ih0, ih1, ih2⟩ := skywaykeep1_ChartLinks.mono_l k
  unfold skywaykeep1_ChartLinks.f
  repeat' first
      | (with_reducible exact ih0 _ _ _ _ _ _ _)
      | (with_reducible exact ih1 _ _ _ _ _)
      | (with_reducible exact ih2 _ _ _ _ _ _ _ _)
      | (with_reducible exact chart_Links.mono _ _ _ _)
      | (with_reducible exact skywaykeep1_chartWorks.mono _)
      | (with_reducible exact skywayref1_HasText.mono _ _ _)
      | (with_reducible exact LeO.refl _)
      | (with_reducible exact LeO.none _)
      | (with_reducible refine LeO.ite ?_ ?_)
      | (with_reducible refine LeO.bind ?_ (fun _ => ?_))
      | exact ih0 _ _ _ _ _ _ _
      | exact ih1 _ _ _ _ _
      | exact ih2 _ _ _ _ _ _ _ _
      | exact chart_Links.mono _ _ _ _
      | exact skywaykeep1_chartWorks.mono _
      | exact skywayref1_HasText.mono _ _ _
      | exact LeO.none _
      | refine LeO.ite ?_ ?_
      | refine LeO.bind ?_ (fun _ => ?_)
theorem string_geq_ (t : TypeId) (a b : ByteArray) : binOp .geq t (.string a) (.string b) = pure (.bool !(Op.bytesLess a.toList b.toList)) := by
  simp [binOp, Op.stringOp]
attribute [local go_sem] string_geq_
set_option maxHeartbeats 8000000 in
set_option maxRecDepth 100000 in
theorem skywaykeep1_ChartLinks.calls (k : Nat) (A0_0 : Option Addr) (c0_0 : Nat) (l0_0 : List (S40)) (A0_1 : Option Addr) (c0_1 : Nat) (l0_1 : List (S48)) (a1 : ByteArray) (r : Bool) (w : World) (hr0_0 : Kd.C k40 w A0_0 l0_0.length l0_0) (hc0_0 : l0_0.length ≤ c0_0) (hr0_1 : Kd.C k48 w A0_1 l0_1.length l0_1) (hc0_1 : l0_1.length ≤ c0_1) (h : skywaykeep1_ChartLinks.f k l0_0 l0_1 a1 = some r) :
    Calls Try.prog 6 #[.agg #[.slice A0_0 l0_0.length c0_0, .slice A0_1 l0_1.length c0_1], .string a1] w fun e w' => e = .returned (.bool r) ∧ Below w.heap.size w w' := by
 have hu25 := Try.underlying25
 have hu48 := Try.underlying48
 have HR0_0 := Aside0.mk hr0_0
 have HC0_0 := Aside0.mk hc0_0
 clear hr0_0 hc0_0
 have HR0_1 := Aside0.mk hr0_1
 have HC0_1 := Aside0.mk hc0_1
 clear hr0_1 hc0_1
 have HB := Aside0.mk (Below.refl w.heap.size w)
 have H : ((skywaykeep1_chartWorks.f k).bind fun t245 => (if t245 = true then ((chart_Links.f k l0_0 l0_1 a1).bind fun bt246 => (if bt246.2 = 0 then (skywaykeep1_ChartLinks.l0 k a1 bt246.1 bt246.1 (bt246.1.length : Int) 0 l0_0 l0_1) else (some ((bt246.1.length : Int) == 0)))) else (some false))) = some r := h
 clear h
 replace H := Option.bind_eq_some_iff.mp H
 obtain ⟨t245, A30, H⟩ := H
 replace H : (if t245 = true then ((chart_Links.f k l0_0 l0_1 a1).bind fun bt246 => (if bt246.2 = 0 then (skywaykeep1_ChartLinks.l0 k a1 bt246.1 bt246.1 (bt246.1.length : Int) 0 l0_0 l0_1) else (some ((bt246.1.length : Int) == 0)))) else (some false)) = some r := H
 have A3 := Aside0.mk A30
 clear A30
 by_cases c4 : t245 = true
 · subst c4
   have H1 : ((chart_Links.f k l0_0 l0_1 a1).bind fun bt246 => (if bt246.2 = 0 then (skywaykeep1_ChartLinks.l0 k a1 bt246.1 bt246.1 (bt246.1.length : Int) 0 l0_0 l0_1) else (some ((bt246.1.length : Int) == 0)))) = some r := by rw [if_pos rfl] at H; exact H
   clear H
   have H := H1
   clear H1
   replace H := Option.bind_eq_some_iff.mp H
   obtain ⟨⟨t246, t249⟩, A50, H⟩ := H
   replace H : (if t249 = 0 then (skywaykeep1_ChartLinks.l0 k a1 t246 t246 (t246.length : Int) 0 l0_0 l0_1) else (some ((t246.length : Int) == 0))) = some r := H
   have A5 := Aside0.mk A50
   clear A50
   by_cases c6 : t249 = 0
   · rw [if_pos c6] at H
     have c6b0 : (t249 == 0) = true := beq_iff_eq.mpr c6
     have c6b1 : (t249 != 0) = false := bne_eq_false_iff_eq.mpr c6
     clear c6
     have H' := Aside0.mk H
     clear H
     go_enter Try.func6, Try.ntmps6
     go_wp2_with (first | ((with_reducible refine gate_dst (N := 2) rfl ?_); refine box_event ?hg (N := 2) ?hd (cs := #[.slice A0_0 l0_0.length c0_0, .slice A0_1 l0_1.length c0_1]) (t := 25) ?hr ?_; (case hd => rfl); (case hg => rfl); (case hr => first | (go_simp; done) | (go_simp; rfl)); intro gb244 hg w7 hbox hb; have n0_ := Aside0.mk (below_step (by repeat (first | (with_reducible first | exact HB.out | apply below_alloc | apply pw_below_drewN | apply below_drew1) | exact HB.out)) hb); have n1_ := Aside0.mk (hbox); have n2_ := Aside0.mk ((by rw [hg]; exact (below_size (by repeat (first | (with_reducible first | exact HB.out | apply below_alloc | apply pw_below_drewN | apply below_drew1) | exact HB.out))) : w.heap.size ≤ gb244)); have n3_ := Aside0.mk ((by rw [hg]; exact (below_size (by repeat (first | (with_reducible first | exact HB.out | apply below_alloc | apply pw_below_drewN | apply below_drew1) | exact HB.out))) : w.heap.size ≤ gb244)); clear HB; have HB := n0_; have BK244 := n1_; have GW244 := n2_; have GE244 := n3_; clear n0_ n1_ n2_ n3_; clear hb hbox hg) | ((with_reducible refine gate_callee (f := 15) rfl ?_); refine goesL_ (some 14) rfl rfl Try.func15 (by kernel_rfl) rfl #[] rfl (by (try simp only [List.map_toArray, List.map_cons, List.map_nil]); first | done | rfl | (simp only [List.length_drop, List.length_take]; rfl)) ?_; (with_reducible refine (skywaykeep1_chartWorks.calls k  true _ A3.out).mono ?_); rintro e w8 ⟨rfl, hb⟩; refine ⟨_, rfl, ?_⟩; have n0_ := Aside0.mk (blk_below (g := gb244) (o := .cells #[.slice A0_0 l0_0.length c0_0, .slice A0_1 l0_1.length c0_1] 25 (0, 0)) (by (with_reducible repeat (first | refine blk_drewN ?_ _ | refine blk_drew ?_ | refine blk_alloc ?_ _)); exact BK244.out) hb); have n1_ := Aside0.mk (below_step (by repeat (first | (with_reducible first | exact HB.out | apply below_alloc | apply pw_below_drewN | apply below_drew1 | refine below_set ?_ GE244.out) | exact HB.out)) hb); clear BK244; clear HB; have BK244 := n0_; have HB := n1_; clear n0_ n1_; (try clear hb); (try clear hb2); (try clear hk); (try clear hi); have hcz9_0 : w8.cell? ⟨gb244, 0, none⟩ = some (.slice A0_0 l0_0.length c0_0) := (blk_cell BK244.out 0).trans rfl; have hcz9_1 : w8.cell? ⟨gb244, 1, none⟩ = some (.slice A0_1 l0_1.length c0_1) := (blk_cell BK244.out 1).trans rfl; have hfz9_0 := blk_frozen BK244.out 0; have hfz9_1 := blk_frozen BK244.out 1) | ((with_reducible refine gate_callee (f := 21) rfl ?_); refine goesL_ (some 19) rfl rfl Try.func21 (by kernel_rfl) rfl #[.agg #[.slice A0_0 l0_0.length c0_0, .slice A0_1 l0_1.length c0_1], .string a1] rfl (by (try simp only [List.map_toArray, List.map_cons, List.map_nil]); first | done | rfl | (simp only [List.length_drop, List.length_take]; rfl)) ?_; (with_reducible refine (chart_Links.calls k _ _ l0_0 _ _ l0_1 a1 t246 t249 _ ?side1 ?side2 ?side3 ?side4 A5.out).mono ?_); (case side1 => repeat (first | exact (Kd.C_below HR0_0.out HB.out) | (with_reducible refine Kd.C_alloc ?_ _) | (with_reducible refine Kd.C_drewN ?_ _) | (with_reducible refine Kd.C_drew ?_))); (case side2 => exact HC0_0.out); (case side3 => repeat (first | exact (Kd.C_below HR0_1.out HB.out) | (with_reducible refine Kd.C_alloc ?_ _) | (with_reducible refine Kd.C_drewN ?_ _) | (with_reducible refine Kd.C_drew ?_))); (case side4 => exact HC0_1.out); rintro e w10 ⟨v247, rfl, ho0, hb⟩; refine ⟨_, rfl, ?_⟩; have n0_ := Aside0.mk (Kd.R_lower ho0 (below_size (by repeat (first | (with_reducible first | exact HB.out | apply below_alloc | apply pw_below_drewN | apply below_drew1 | refine below_set ?_ GE244.out) | exact HB.out)))); have n1_ := Aside0.mk (blk_below (g := gb244) (o := .cells #[.slice A0_0 l0_0.length c0_0, .slice A0_1 l0_1.length c0_1] 25 (0, 0)) (by (with_reducible repeat (first | refine blk_drewN ?_ _ | refine blk_drew ?_ | refine blk_alloc ?_ _)); exact BK244.out) hb); have n2_ := Aside0.mk (below_step (by repeat (first | (with_reducible first | exact HB.out | apply below_alloc | apply pw_below_drewN | apply below_drew1 | refine below_set ?_ GE244.out) | exact HB.out)) hb); clear BK244; clear HB; have HO248 := n0_; have BK244 := n1_; have HB := n2_; clear n0_ n1_ n2_; (try clear hb); (try clear hb2); (try clear hk); (try clear hi); (try clear ho0); obtain ⟨Ao11, co11, eo11⟩ := Kd.R_slice HO248.out; subst eo11))
     go_loopg [29] k (fun kq v29 w' => ∃ (x29_1 : Int), v29 = .int .i64 x29_1 ∧ Aside0 (skywaykeep1_ChartLinks.l0 kq a1 t246 t246 (t246.length : Int) x29_1 l0_0 l0_1 = some r) ∧ Aside0 (kq ≤ k) ∧ Aside0 (Kd.R Kd.string 9 w' w.heap.size (fun _ => True) (.slice Ao11 t246.length co11) t246) ∧ Aside0 (Kd.R Kd.string 9 w' w.heap.size (fun _ => True) (.slice Ao11 t246.length co11) t246) ∧ Aside0 (w'.heap[gb244]? = some (.cells #[(.slice A0_0 l0_0.length c0_0), (.slice A0_1 l0_1.length c0_1)] 25 (0, 0))) ∧ Aside0 (Below w.heap.size w w'))
     case atStart => exact ⟨(0), (by first | rfl | (simp; done) | (simp [*]; done)), H', ⟨Nat.le_refl _⟩, ⟨by (with_reducible repeat (first | apply Kd.R_alloc | apply Kd.R_drewN | apply Kd.R_drew)); exact HO248.out⟩, ⟨by (with_reducible repeat (first | apply Kd.R_alloc | apply Kd.R_drewN | apply Kd.R_drew)); exact HO248.out⟩, ⟨by (with_reducible repeat (first | refine blk_drewN ?_ _ | refine blk_drew ?_ | refine blk_alloc ?_ _)); exact BK244.out⟩, ⟨by repeat (first | (with_reducible first | exact HB.out | apply below_alloc | apply pw_below_drewN | apply below_drew1 | refine below_set ?_ GE244.out) | exact HB.out)⟩⟩
     case round =>
      clear H'
      (try clear c1); (try clear p1); (try clear c2); (try clear p2); (try clear c4); (try clear c6); (try clear c6b0); (try clear c6b1); (try clear hcz9_0); (try clear hcz9_1); (try clear hfz9_0); (try clear hfz9_1)
      obtain ⟨x29_1, rfl, HA, HK1, HO_5, HO_27, BK244, HB⟩ := hrel
      cases gk with
      | zero => exact absurd HA.out (by simp [skywaykeep1_ChartLinks.l0])
      | succ k1 =>
       have H := HA.out
       clear HA
       simp only [skywaykeep1_ChartLinks.l0] at H
       by_cases c12 : x29_1 < (t246.length : Int)
       · rw [if_pos c12] at H
         have c12b0 : decide (x29_1 < (t246.length : Int)) = true := decide_eq_true c12
         clear c12
         by_cases c13 : 0 ≤ x29_1
         · rw [if_pos c13] at H
           have c13b0 : decide (0 ≤ x29_1) = true := decide_eq_true c13
           clear c13
           by_cases c14 : x29_1 < (t246.length : Int)
           · rw [if_pos c14] at H
             have c14b0 : decide (x29_1 < (t246.length : Int)) = true := decide_eq_true c14
             clear c14
             replace H := Option.bind_eq_some_iff.mp H
             obtain ⟨⟨t251, t254⟩, A150, H⟩ := H
             replace H : (if t254 = 0 then ((skywayref1_HasText.f k1 t251 a1).bind fun t255 => (if t255 = true then (if (rdOf ByteArray.empty t246 x29_1).toList = a1.toList then (some false) else (if x29_1 > 0 then (if 0 ≤ (wrap64 (x29_1 - 1)) then (if (wrap64 (x29_1 - 1)) < (t246.length : Int) then (if ((Op.bytesLess ((rdOf ByteArray.empty t246 (wrap64 (x29_1 - 1))).toList) ((rdOf ByteArray.empty t246 x29_1).toList)) = true) then (skywaykeep1_ChartLinks.l0 k1 a1 t246 t246 (t246.length : Int) (wrap64 (x29_1 + 1)) l0_0 l0_1) else (some false)) else (none)) else (none)) else (skywaykeep1_ChartLinks.l0 k1 a1 t246 t246 (t246.length : Int) (wrap64 (x29_1 + 1)) l0_0 l0_1))) else (some false))) else (some false)) = some r := H
             have A15 := Aside0.mk A150
             clear A150
             by_cases c16 : t254 = 0
             · rw [if_pos c16] at H
               have c16b0 : (t254 == 0) = true := beq_iff_eq.mpr c16
               have c16b1 : (t254 != 0) = false := bne_eq_false_iff_eq.mpr c16
               clear c16
               replace H := Option.bind_eq_some_iff.mp H
               obtain ⟨t255, A170, H⟩ := H
               replace H : (if t255 = true then (if (rdOf ByteArray.empty t246 x29_1).toList = a1.toList then (some false) else (if x29_1 > 0 then (if 0 ≤ (wrap64 (x29_1 - 1)) then (if (wrap64 (x29_1 - 1)) < (t246.length : Int) then (if ((Op.bytesLess ((rdOf ByteArray.empty t246 (wrap64 (x29_1 - 1))).toList) ((rdOf ByteArray.empty t246 x29_1).toList)) = true) then (skywaykeep1_ChartLinks.l0 k1 a1 t246 t246 (t246.length : Int) (wrap64 (x29_1 + 1)) l0_0 l0_1) else (some false)) else (none)) else (none)) else (skywaykeep1_ChartLinks.l0 k1 a1 t246 t246 (t246.length : Int) (wrap64 (x29_1 + 1)) l0_0 l0_1))) else (some false)) = some r := H
               have A17 := Aside0.mk A170
               clear A170
               by_cases c18 : t255 = true
               · subst c18
                 have H1 : (if (rdOf ByteArray.empty t246 x29_1).toList = a1.toList then (some false) else (if x29_1 > 0 then (if 0 ≤ (wrap64 (x29_1 - 1)) then (if (wrap64 (x29_1 - 1)) < (t246.length : Int) then (if ((Op.bytesLess ((rdOf ByteArray.empty t246 (wrap64 (x29_1 - 1))).toList) ((rdOf ByteArray.empty t246 x29_1).toList)) = true) then (skywaykeep1_ChartLinks.l0 k1 a1 t246 t246 (t246.length : Int) (wrap64 (x29_1 + 1)) l0_0 l0_1) else (some false)) else (none)) else (none)) else (skywaykeep1_ChartLinks.l0 k1 a1 t246 t246 (t246.length : Int) (wrap64 (x29_1 + 1)) l0_0 l0_1))) = some r := by rw [if_pos rfl] at H; exact H
                 clear H
                 have H := H1
                 clear H1
                 by_cases c19 : (rdOf ByteArray.empty t246 x29_1).toList = a1.toList
                 · rw [if_pos c19] at H
                   have c19b0 : ((rdOf ByteArray.empty t246 x29_1).toList == a1.toList) = true := beq_iff_eq.mpr c19
                   have c19b1 : ((rdOf ByteArray.empty t246 x29_1).toList != a1.toList) = false := bne_eq_false_iff_eq.mpr c19
                   clear c19
                   obtain rfl := Option.some.inj H
                   have p250 : 0 ≤ (x29_1 : Int) := of_decide_eq_true (by first | (with_reducible assumption) | assumption)
                   have q250 : x29_1 < (t246.length : Int) := of_decide_eq_true (by first | (with_reducible assumption) | assumption)
                   obtain ⟨ad250, e250, hx250_0⟩ := Kd.at_string (Kd.R_reads' HO_27.out).2.2 x29_1 p250 q250
                   cases e250
                   replace p250 := eq_true p250
                   replace q250 := eq_true q250
                   have hcz20_0 : wr.cell? ⟨gb244, 0, none⟩ = some (.slice A0_0 l0_0.length c0_0) := (blk_cell BK244.out 0).trans rfl
                   have hcz20_1 : wr.cell? ⟨gb244, 1, none⟩ = some (.slice A0_1 l0_1.length c0_1) := (blk_cell BK244.out 1).trans rfl
                   have hfz20_0 := blk_frozen BK244.out 0
                   have hfz20_1 := blk_frozen BK244.out 1
                   go_wp2_with (first | ((with_reducible refine gate_callee (f := 21) rfl ?_); refine goesL_ (some 37) rfl rfl Try.func21 (by kernel_rfl) rfl #[.agg #[.slice A0_0 l0_0.length c0_0, .slice A0_1 l0_1.length c0_1], .string (rdOf ByteArray.empty t246 x29_1)] rfl (by (try simp only [List.map_toArray, List.map_cons, List.map_nil]); first | done | rfl | (simp only [List.length_drop, List.length_take]; rfl)) ?_; (with_reducible refine (chart_Links.calls k1 _ _ l0_0 _ _ l0_1 (rdOf ByteArray.empty t246 x29_1) t251 t254 _ ?side1 ?side2 ?side3 ?side4 A15.out).mono ?_); (case side1 => repeat (first | exact (Kd.C_below HR0_0.out HB.out) | (with_reducible refine Kd.C_alloc ?_ _) | (with_reducible refine Kd.C_drewN ?_ _) | (with_reducible refine Kd.C_drew ?_))); (case side2 => exact HC0_0.out); (case side3 => repeat (first | exact (Kd.C_below HR0_1.out HB.out) | (with_reducible refine Kd.C_alloc ?_ _) | (with_reducible refine Kd.C_drewN ?_ _) | (with_reducible refine Kd.C_drew ?_))); (case side4 => exact HC0_1.out); rintro e w21 ⟨v252, rfl, ho0, hb⟩; refine ⟨_, rfl, ?_⟩; have n0_ := Aside0.mk (Kd.R_elder' (by (with_reducible repeat (first | apply Kd.R_alloc | apply Kd.R_drewN | apply Kd.R_drew)); exact HO_5.out) (Kd.R_base ho0) hb); have n1_ := Aside0.mk (Kd.R_elder' (by (with_reducible repeat (first | apply Kd.R_alloc | apply Kd.R_drewN | apply Kd.R_drew)); exact HO_27.out) (Kd.R_base ho0) hb); have n2_ := Aside0.mk (Kd.R_lower (Kd.R_new' (Kd.R_new' ho0 (Kd.R_lt (by (with_reducible repeat (first | apply Kd.R_alloc | apply Kd.R_drewN | apply Kd.R_drew)); exact HO_5.out))) (Kd.R_lt (by (with_reducible repeat (first | apply Kd.R_alloc | apply Kd.R_drewN | apply Kd.R_drew)); exact HO_27.out))) (below_size (by repeat (first | (with_reducible first | exact HB.out | apply below_alloc | apply pw_below_drewN | apply below_drew1 | refine below_set ?_ GE244.out) | exact HB.out)))); have n3_ := Aside0.mk (blk_below (g := gb244) (o := .cells #[.slice A0_0 l0_0.length c0_0, .slice A0_1 l0_1.length c0_1] 25 (0, 0)) (by (with_reducible repeat (first | refine blk_drewN ?_ _ | refine blk_drew ?_ | refine blk_alloc ?_ _)); exact BK244.out) hb); have n4_ := Aside0.mk (below_step (by repeat (first | (with_reducible first | exact HB.out | apply below_alloc | apply pw_below_drewN | apply below_drew1 | refine below_set ?_ GE244.out) | exact HB.out)) hb); clear HO_5; clear HO_27; clear BK244; clear HB; have HO_5 := n0_; have HO_27 := n1_; have HO253 := n2_; have BK244 := n3_; have HB := n4_; clear n0_ n1_ n2_ n3_ n4_; (try clear hb); (try clear hb2); (try clear hk); (try clear hi); (try clear ho0); obtain ⟨Ao22, co22, eo22⟩ := Kd.R_slice HO253.out; subst eo22) | (go_at_call 22; (with_reducible refine (skywayref1_HasText.calls k1 _ _ t251 a1 true _ ?side1 ?side2 A17.out).mono ?_); (case side1 => repeat (first | exact (Kd.R_reads' HO253.out).2.2 | (with_reducible refine Kd.C_alloc ?_ _) | (with_reducible refine Kd.C_drewN ?_ _) | (with_reducible refine Kd.C_drew ?_))); (case side2 => exact (Kd.R_reads' HO253.out).2.1); rintro e w23 ⟨rfl, hb⟩; have n0_ := Aside0.mk (Kd.R_below (by (with_reducible repeat (first | apply Kd.R_alloc | apply Kd.R_drewN | apply Kd.R_drew)); exact HO_5.out) hb); have n1_ := Aside0.mk (Kd.R_below (by (with_reducible repeat (first | apply Kd.R_alloc | apply Kd.R_drewN | apply Kd.R_drew)); exact HO_27.out) hb); have n2_ := Aside0.mk (Kd.R_below (by (with_reducible repeat (first | apply Kd.R_alloc | apply Kd.R_drewN | apply Kd.R_drew)); exact HO253.out) hb); have n3_ := Aside0.mk (blk_below (g := gb244) (o := .cells #[.slice A0_0 l0_0.length c0_0, .slice A0_1 l0_1.length c0_1] 25 (0, 0)) (by (with_reducible repeat (first | refine blk_drewN ?_ _ | refine blk_drew ?_ | refine blk_alloc ?_ _)); exact BK244.out) hb); have n4_ := Aside0.mk (below_step (by repeat (first | (with_reducible first | exact HB.out | apply below_alloc | apply pw_below_drewN | apply below_drew1 | refine below_set ?_ GE244.out) | exact HB.out)) hb); clear HO_5; clear HO_27; clear HO253; clear BK244; clear HB; have HO_5 := n0_; have HO_27 := n1_; have HO253 := n2_; have BK244 := n3_; have HB := n4_; clear n0_ n1_ n2_ n3_ n4_; (try clear hb); (try clear hb2); (try clear hk); (try clear hi)))
                   go_ret
                   exact ⟨by first | rfl | (simp [errW_none, errW_some] <;> rfl) | (simp [*, errW_none, errW_some] <;> rfl), by repeat (first | (with_reducible first | exact HB.out | apply below_alloc | apply pw_below_drewN | apply below_drew1 | refine below_set ?_ GE244.out) | exact HB.out)⟩
                 · rw [if_neg c19] at H
                   have c19b0 : ((rdOf ByteArray.empty t246 x29_1).toList == a1.toList) = false := beq_eq_false_iff_ne.mpr c19
                   have c19b1 : ((rdOf ByteArray.empty t246 x29_1).toList != a1.toList) = true := bne_iff_ne.mpr c19
                   by_cases c24 : x29_1 > 0
                   · rw [if_pos c24] at H
                     have c24b0 : decide (0 < x29_1) = true := decide_eq_true c24
                     clear c24
                     obtain ⟨ji25, hji25⟩ : ∃ j_ : Int, (wrap64 (x29_1 - 1)) = j_ := ⟨_, rfl⟩
                     replace H : (if 0 ≤ (ji25) then (if (ji25) < (t246.length : Int) then (if ((Op.bytesLess ((rdOf ByteArray.empty t246 (ji25)).toList) ((rdOf ByteArray.empty t246 x29_1).toList)) = true) then (skywaykeep1_ChartLinks.l0 k1 a1 t246 t246 (t246.length : Int) (wrap64 (x29_1 + 1)) l0_0 l0_1) else (some false)) else (none)) else (none)) = some r := by first | (rw [hji25] at H; exact H) | (simp only [hji25] at H ⊢; exact H)
                     (try rw [hji25] at A15)
                     (try rw [hji25] at A17)
                     have hji25w : (IntKind.i64.wrap (x29_1 - 1)) = ji25 := (i64_w _).trans hji25
                     by_cases c26 : 0 ≤ (ji25)
                     · rw [if_pos c26] at H
                       have c26b0 : decide (0 ≤ (ji25)) = true := decide_eq_true c26
                       clear c26
                       by_cases c27 : (ji25) < (t246.length : Int)
                       · rw [if_pos c27] at H
                         have c27b0 : decide ((ji25) < (t246.length : Int)) = true := decide_eq_true c27
                         clear c27
                         by_cases c28 : ((Op.bytesLess ((rdOf ByteArray.empty t246 (ji25)).toList) ((rdOf ByteArray.empty t246 x29_1).toList)) = true)
                         · rw [if_pos c28] at H
                           have c28b0 : (Op.bytesLess ((rdOf ByteArray.empty t246 (ji25)).toList) ((rdOf ByteArray.empty t246 x29_1).toList)) = true := c28
                           clear c28
                           have H' := Aside0.mk H
                           clear H
                           have p250 : 0 ≤ (x29_1 : Int) := of_decide_eq_true (by first | (with_reducible assumption) | assumption)
                           have q250 : x29_1 < (t246.length : Int) := of_decide_eq_true (by first | (with_reducible assumption) | assumption)
                           obtain ⟨ad250, e250, hx250_0⟩ := Kd.at_string (Kd.R_reads' HO_27.out).2.2 x29_1 p250 q250
                           cases e250
                           replace p250 := eq_true p250
                           replace q250 := eq_true q250
                           have hcz29_0 : wr.cell? ⟨gb244, 0, none⟩ = some (.slice A0_0 l0_0.length c0_0) := (blk_cell BK244.out 0).trans rfl
                           have hcz29_1 : wr.cell? ⟨gb244, 1, none⟩ = some (.slice A0_1 l0_1.length c0_1) := (blk_cell BK244.out 1).trans rfl
                           have hfz29_0 := blk_frozen BK244.out 0
                           have hfz29_1 := blk_frozen BK244.out 1
                           go_wp2_with (first | ((with_reducible refine gate_callee (f := 21) rfl ?_); refine goesL_ (some 37) rfl rfl Try.func21 (by kernel_rfl) rfl #[.agg #[.slice A0_0 l0_0.length c0_0, .slice A0_1 l0_1.length c0_1], .string (rdOf ByteArray.empty t246 x29_1)] rfl (by (try simp only [List.map_toArray, List.map_cons, List.map_nil]); first | done | rfl | (simp only [List.length_drop, List.length_take]; rfl)) ?_; (with_reducible refine (chart_Links.calls k1 _ _ l0_0 _ _ l0_1 (rdOf ByteArray.empty t246 x29_1) t251 t254 _ ?side1 ?side2 ?side3 ?side4 A15.out).mono ?_); (case side1 => repeat (first | exact (Kd.C_below HR0_0.out HB.out) | (with_reducible refine Kd.C_alloc ?_ _) | (with_reducible refine Kd.C_drewN ?_ _) | (with_reducible refine Kd.C_drew ?_))); (case side2 => exact HC0_0.out); (case side3 => repeat (first | exact (Kd.C_below HR0_1.out HB.out) | (with_reducible refine Kd.C_alloc ?_ _) | (with_reducible refine Kd.C_drewN ?_ _) | (with_reducible refine Kd.C_drew ?_))); (case side4 => exact HC0_1.out); rintro e w30 ⟨v252, rfl, ho0, hb⟩; refine ⟨_, rfl, ?_⟩; have n0_ := Aside0.mk (Kd.R_elder' (by (with_reducible repeat (first | apply Kd.R_alloc | apply Kd.R_drewN | apply Kd.R_drew)); exact HO_5.out) (Kd.R_base ho0) hb); have n1_ := Aside0.mk (Kd.R_elder' (by (with_reducible repeat (first | apply Kd.R_alloc | apply Kd.R_drewN | apply Kd.R_drew)); exact HO_27.out) (Kd.R_base ho0) hb); have n2_ := Aside0.mk (Kd.R_lower (Kd.R_new' (Kd.R_new' ho0 (Kd.R_lt (by (with_reducible repeat (first | apply Kd.R_alloc | apply Kd.R_drewN | apply Kd.R_drew)); exact HO_5.out))) (Kd.R_lt (by (with_reducible repeat (first | apply Kd.R_alloc | apply Kd.R_drewN | apply Kd.R_drew)); exact HO_27.out))) (below_size (by repeat (first | (with_reducible first | exact HB.out | apply below_alloc | apply pw_below_drewN | apply below_drew1 | refine below_set ?_ GE244.out) | exact HB.out)))); have n3_ := Aside0.mk (blk_below (g := gb244) (o := .cells #[.slice A0_0 l0_0.length c0_0, .slice A0_1 l0_1.length c0_1] 25 (0, 0)) (by (with_reducible repeat (first | refine blk_drewN ?_ _ | refine blk_drew ?_ | refine blk_alloc ?_ _)); exact BK244.out) hb); have n4_ := Aside0.mk (below_step (by repeat (first | (with_reducible first | exact HB.out | apply below_alloc | apply pw_below_drewN | apply below_drew1 | refine below_set ?_ GE244.out) | exact HB.out)) hb); clear HO_5; clear HO_27; clear BK244; clear HB; have HO_5 := n0_; have HO_27 := n1_; have HO253 := n2_; have BK244 := n3_; have HB := n4_; clear n0_ n1_ n2_ n3_ n4_; (try clear hb); (try clear hb2); (try clear hk); (try clear hi); (try clear ho0); obtain ⟨Ao31, co31, eo31⟩ := Kd.R_slice HO253.out; subst eo31) | (go_at_call 22; (with_reducible refine (skywayref1_HasText.calls k1 _ _ t251 a1 true _ ?side1 ?side2 A17.out).mono ?_); (case side1 => repeat (first | exact (Kd.R_reads' HO253.out).2.2 | (with_reducible refine Kd.C_alloc ?_ _) | (with_reducible refine Kd.C_drewN ?_ _) | (with_reducible refine Kd.C_drew ?_))); (case side2 => exact (Kd.R_reads' HO253.out).2.1); rintro e w32 ⟨rfl, hb⟩; have n0_ := Aside0.mk (Kd.R_below (by (with_reducible repeat (first | apply Kd.R_alloc | apply Kd.R_drewN | apply Kd.R_drew)); exact HO_5.out) hb); have n1_ := Aside0.mk (Kd.R_below (by (with_reducible repeat (first | apply Kd.R_alloc | apply Kd.R_drewN | apply Kd.R_drew)); exact HO_27.out) hb); have n2_ := Aside0.mk (Kd.R_below (by (with_reducible repeat (first | apply Kd.R_alloc | apply Kd.R_drewN | apply Kd.R_drew)); exact HO253.out) hb); have n3_ := Aside0.mk (blk_below (g := gb244) (o := .cells #[.slice A0_0 l0_0.length c0_0, .slice A0_1 l0_1.length c0_1] 25 (0, 0)) (by (with_reducible repeat (first | refine blk_drewN ?_ _ | refine blk_drew ?_ | refine blk_alloc ?_ _)); exact BK244.out) hb); have n4_ := Aside0.mk (below_step (by repeat (first | (with_reducible first | exact HB.out | apply below_alloc | apply pw_below_drewN | apply below_drew1 | refine below_set ?_ GE244.out) | exact HB.out)) hb); clear HO_5; clear HO_27; clear HO253; clear BK244; clear HB; have HO_5 := n0_; have HO_27 := n1_; have HO253 := n2_; have BK244 := n3_; have HB := n4_; clear n0_ n1_ n2_ n3_ n4_; (try clear hb); (try clear hb2); (try clear hk); (try clear hi); have p256 : 0 ≤ ((ji25) : Int) := of_decide_eq_true (by first | (with_reducible assumption) | assumption); have q256 : (ji25) < (t246.length : Int) := of_decide_eq_true (by first | (with_reducible assumption) | assumption); obtain ⟨ad256, e256, hx256_0⟩ := Kd.at_string (Kd.R_reads' HO_5.out).2.2 (ji25) p256 q256; obtain rfl : ad250 = ad256 := (by injection e256); replace p256 := eq_true p256; replace q256 := eq_true q256))
                           first | go_roundg k1 | (subst hji25; go_roundg k1)
                           case measure => have := HK1.out; omega
                           case rel => exact ⟨(wrap64 (x29_1 + 1)), (by first | rfl | (simp; done) | (simp [*]; done)), H', ⟨by have := HK1.out; omega⟩, ⟨by (with_reducible repeat (first | apply Kd.R_alloc | apply Kd.R_drewN | apply Kd.R_drew)); exact Kd.R_mono HO_5.out (fun _ hk => trivial)⟩, ⟨by (with_reducible repeat (first | apply Kd.R_alloc | apply Kd.R_drewN | apply Kd.R_drew)); exact Kd.R_mono HO_27.out (fun _ hk => trivial)⟩, ⟨by (with_reducible repeat (first | refine blk_drewN ?_ _ | refine blk_drew ?_ | refine blk_alloc ?_ _)); exact BK244.out⟩, ⟨by repeat (first | (with_reducible first | exact HB.out | apply below_alloc | apply pw_below_drewN | apply below_drew1 | refine below_set ?_ GE244.out) | exact HB.out)⟩⟩
                         · rw [if_neg c28] at H
                           have c28b0 : (Op.bytesLess ((rdOf ByteArray.empty t246 (ji25)).toList) ((rdOf ByteArray.empty t246 x29_1).toList)) = false := by simpa using c28
                           clear c28
                           obtain rfl := Option.some.inj H
                           have p250 : 0 ≤ (x29_1 : Int) := of_decide_eq_true (by first | (with_reducible assumption) | assumption)
                           have q250 : x29_1 < (t246.length : Int) := of_decide_eq_true (by first | (with_reducible assumption) | assumption)
                           obtain ⟨ad250, e250, hx250_0⟩ := Kd.at_string (Kd.R_reads' HO_27.out).2.2 x29_1 p250 q250
                           cases e250
                           replace p250 := eq_true p250
                           replace q250 := eq_true q250
                           have hcz33_0 : wr.cell? ⟨gb244, 0, none⟩ = some (.slice A0_0 l0_0.length c0_0) := (blk_cell BK244.out 0).trans rfl
                           have hcz33_1 : wr.cell? ⟨gb244, 1, none⟩ = some (.slice A0_1 l0_1.length c0_1) := (blk_cell BK244.out 1).trans rfl
                           have hfz33_0 := blk_frozen BK244.out 0
                           have hfz33_1 := blk_frozen BK244.out 1
                           go_wp2_with (first | ((with_reducible refine gate_callee (f := 21) rfl ?_); refine goesL_ (some 37) rfl rfl Try.func21 (by kernel_rfl) rfl #[.agg #[.slice A0_0 l0_0.length c0_0, .slice A0_1 l0_1.length c0_1], .string (rdOf ByteArray.empty t246 x29_1)] rfl (by (try simp only [List.map_toArray, List.map_cons, List.map_nil]); first | done | rfl | (simp only [List.length_drop, List.length_take]; rfl)) ?_; (with_reducible refine (chart_Links.calls k1 _ _ l0_0 _ _ l0_1 (rdOf ByteArray.empty t246 x29_1) t251 t254 _ ?side1 ?side2 ?side3 ?side4 A15.out).mono ?_); (case side1 => repeat (first | exact (Kd.C_below HR0_0.out HB.out) | (with_reducible refine Kd.C_alloc ?_ _) | (with_reducible refine Kd.C_drewN ?_ _) | (with_reducible refine Kd.C_drew ?_))); (case side2 => exact HC0_0.out); (case side3 => repeat (first | exact (Kd.C_below HR0_1.out HB.out) | (with_reducible refine Kd.C_alloc ?_ _) | (with_reducible refine Kd.C_drewN ?_ _) | (with_reducible refine Kd.C_drew ?_))); (case side4 => exact HC0_1.out); rintro e w34 ⟨v252, rfl, ho0, hb⟩; refine ⟨_, rfl, ?_⟩; have n0_ := Aside0.mk (Kd.R_elder' (by (with_reducible repeat (first | apply Kd.R_alloc | apply Kd.R_drewN | apply Kd.R_drew)); exact HO_5.out) (Kd.R_base ho0) hb); have n1_ := Aside0.mk (Kd.R_elder' (by (with_reducible repeat (first | apply Kd.R_alloc | apply Kd.R_drewN | apply Kd.R_drew)); exact HO_27.out) (Kd.R_base ho0) hb); have n2_ := Aside0.mk (Kd.R_lower (Kd.R_new' (Kd.R_new' ho0 (Kd.R_lt (by (with_reducible repeat (first | apply Kd.R_alloc | apply Kd.R_drewN | apply Kd.R_drew)); exact HO_5.out))) (Kd.R_lt (by (with_reducible repeat (first | apply Kd.R_alloc | apply Kd.R_drewN | apply Kd.R_drew)); exact HO_27.out))) (below_size (by repeat (first | (with_reducible first | exact HB.out | apply below_alloc | apply pw_below_drewN | apply below_drew1 | refine below_set ?_ GE244.out) | exact HB.out)))); have n3_ := Aside0.mk (blk_below (g := gb244) (o := .cells #[.slice A0_0 l0_0.length c0_0, .slice A0_1 l0_1.length c0_1] 25 (0, 0)) (by (with_reducible repeat (first | refine blk_drewN ?_ _ | refine blk_drew ?_ | refine blk_alloc ?_ _)); exact BK244.out) hb); have n4_ := Aside0.mk (below_step (by repeat (first | (with_reducible first | exact HB.out | apply below_alloc | apply pw_below_drewN | apply below_drew1 | refine below_set ?_ GE244.out) | exact HB.out)) hb); clear HO_5; clear HO_27; clear BK244; clear HB; have HO_5 := n0_; have HO_27 := n1_; have HO253 := n2_; have BK244 := n3_; have HB := n4_; clear n0_ n1_ n2_ n3_ n4_; (try clear hb); (try clear hb2); (try clear hk); (try clear hi); (try clear ho0); obtain ⟨Ao35, co35, eo35⟩ := Kd.R_slice HO253.out; subst eo35) | (go_at_call 22; (with_reducible refine (skywayref1_HasText.calls k1 _ _ t251 a1 true _ ?side1 ?side2 A17.out).mono ?_); (case side1 => repeat (first | exact (Kd.R_reads' HO253.out).2.2 | (with_reducible refine Kd.C_alloc ?_ _) | (with_reducible refine Kd.C_drewN ?_ _) | (with_reducible refine Kd.C_drew ?_))); (case side2 => exact (Kd.R_reads' HO253.out).2.1); rintro e w36 ⟨rfl, hb⟩; have n0_ := Aside0.mk (Kd.R_below (by (with_reducible repeat (first | apply Kd.R_alloc | apply Kd.R_drewN | apply Kd.R_drew)); exact HO_5.out) hb); have n1_ := Aside0.mk (Kd.R_below (by (with_reducible repeat (first | apply Kd.R_alloc | apply Kd.R_drewN | apply Kd.R_drew)); exact HO_27.out) hb); have n2_ := Aside0.mk (Kd.R_below (by (with_reducible repeat (first | apply Kd.R_alloc | apply Kd.R_drewN | apply Kd.R_drew)); exact HO253.out) hb); have n3_ := Aside0.mk (blk_below (g := gb244) (o := .cells #[.slice A0_0 l0_0.length c0_0, .slice A0_1 l0_1.length c0_1] 25 (0, 0)) (by (with_reducible repeat (first | refine blk_drewN ?_ _ | refine blk_drew ?_ | refine blk_alloc ?_ _)); exact BK244.out) hb); have n4_ := Aside0.mk (below_step (by repeat (first | (with_reducible first | exact HB.out | apply below_alloc | apply pw_below_drewN | apply below_drew1 | refine below_set ?_ GE244.out) | exact HB.out)) hb); clear HO_5; clear HO_27; clear HO253; clear BK244; clear HB; have HO_5 := n0_; have HO_27 := n1_; have HO253 := n2_; have BK244 := n3_; have HB := n4_; clear n0_ n1_ n2_ n3_ n4_; (try clear hb); (try clear hb2); (try clear hk); (try clear hi); have p256 : 0 ≤ ((ji25) : Int) := of_decide_eq_true (by first | (with_reducible assumption) | assumption); have q256 : (ji25) < (t246.length : Int) := of_decide_eq_true (by first | (with_reducible assumption) | assumption); obtain ⟨ad256, e256, hx256_0⟩ := Kd.at_string (Kd.R_reads' HO_5.out).2.2 (ji25) p256 q256; obtain rfl : ad250 = ad256 := (by injection e256); replace p256 := eq_true p256; replace q256 := eq_true q256))
                           go_ret
                           exact ⟨by first | rfl | (simp [errW_none, errW_some] <;> rfl) | (simp only [← hji25]; first | rfl | (simp [errW_none, errW_some] <;> rfl)) | (simp [*, errW_none, errW_some] <;> rfl), by repeat (first | (with_reducible first | exact HB.out | apply below_alloc | apply pw_below_drewN | apply below_drew1 | refine below_set ?_ GE244.out) | exact HB.out)⟩
                       · rw [if_neg c27] at H
                         exact absurd H (by simp)
                     · rw [if_neg c26] at H
                       exact absurd H (by simp)
                   · rw [if_neg c24] at H
                     have c24b0 : decide (0 < x29_1) = false := decide_eq_false c24
                     clear c24
                     have H' := Aside0.mk H
                     clear H
                     have p250 : 0 ≤ (x29_1 : Int) := of_decide_eq_true (by first | (with_reducible assumption) | assumption)
                     have q250 : x29_1 < (t246.length : Int) := of_decide_eq_true (by first | (with_reducible assumption) | assumption)
                     obtain ⟨ad250, e250, hx250_0⟩ := Kd.at_string (Kd.R_reads' HO_27.out).2.2 x29_1 p250 q250
                     cases e250
                     replace p250 := eq_true p250
                     replace q250 := eq_true q250
                     have hcz37_0 : wr.cell? ⟨gb244, 0, none⟩ = some (.slice A0_0 l0_0.length c0_0) := (blk_cell BK244.out 0).trans rfl
                     have hcz37_1 : wr.cell? ⟨gb244, 1, none⟩ = some (.slice A0_1 l0_1.length c0_1) := (blk_cell BK244.out 1).trans rfl
                     have hfz37_0 := blk_frozen BK244.out 0
                     have hfz37_1 := blk_frozen BK244.out 1
                     go_wp2_with (first | ((with_reducible refine gate_callee (f := 21) rfl ?_); refine goesL_ (some 37) rfl rfl Try.func21 (by kernel_rfl) rfl #[.agg #[.slice A0_0 l0_0.length c0_0, .slice A0_1 l0_1.length c0_1], .string (rdOf ByteArray.empty t246 x29_1)] rfl (by (try simp only [List.map_toArray, List.map_cons, List.map_nil]); first | done | rfl | (simp only [List.length_drop, List.length_take]; rfl)) ?_; (with_reducible refine (chart_Links.calls k1 _ _ l0_0 _ _ l0_1 (rdOf ByteArray.empty t246 x29_1) t251 t254 _ ?side1 ?side2 ?side3 ?side4 A15.out).mono ?_); (case side1 => repeat (first | exact (Kd.C_below HR0_0.out HB.out) | (with_reducible refine Kd.C_alloc ?_ _) | (with_reducible refine Kd.C_drewN ?_ _) | (with_reducible refine Kd.C_drew ?_))); (case side2 => exact HC0_0.out); (case side3 => repeat (first | exact (Kd.C_below HR0_1.out HB.out) | (with_reducible refine Kd.C_alloc ?_ _) | (with_reducible refine Kd.C_drewN ?_ _) | (with_reducible refine Kd.C_drew ?_))); (case side4 => exact HC0_1.out); rintro e w38 ⟨v252, rfl, ho0, hb⟩; refine ⟨_, rfl, ?_⟩; have n0_ := Aside0.mk (Kd.R_elder' (by (with_reducible repeat (first | apply Kd.R_alloc | apply Kd.R_drewN | apply Kd.R_drew)); exact HO_5.out) (Kd.R_base ho0) hb); have n1_ := Aside0.mk (Kd.R_elder' (by (with_reducible repeat (first | apply Kd.R_alloc | apply Kd.R_drewN | apply Kd.R_drew)); exact HO_27.out) (Kd.R_base ho0) hb); have n2_ := Aside0.mk (Kd.R_lower (Kd.R_new' (Kd.R_new' ho0 (Kd.R_lt (by (with_reducible repeat (first | apply Kd.R_alloc | apply Kd.R_drewN | apply Kd.R_drew)); exact HO_5.out))) (Kd.R_lt (by (with_reducible repeat (first | apply Kd.R_alloc | apply Kd.R_drewN | apply Kd.R_drew)); exact HO_27.out))) (below_size (by repeat (first | (with_reducible first | exact HB.out | apply below_alloc | apply pw_below_drewN | apply below_drew1 | refine below_set ?_ GE244.out) | exact HB.out)))); have n3_ := Aside0.mk (blk_below (g := gb244) (o := .cells #[.slice A0_0 l0_0.length c0_0, .slice A0_1 l0_1.length c0_1] 25 (0, 0)) (by (with_reducible repeat (first | refine blk_drewN ?_ _ | refine blk_drew ?_ | refine blk_alloc ?_ _)); exact BK244.out) hb); have n4_ := Aside0.mk (below_step (by repeat (first | (with_reducible first | exact HB.out | apply below_alloc | apply pw_below_drewN | apply below_drew1 | refine below_set ?_ GE244.out) | exact HB.out)) hb); clear HO_5; clear HO_27; clear BK244; clear HB; have HO_5 := n0_; have HO_27 := n1_; have HO253 := n2_; have BK244 := n3_; have HB := n4_; clear n0_ n1_ n2_ n3_ n4_; (try clear hb); (try clear hb2); (try clear hk); (try clear hi); (try clear ho0); obtain ⟨Ao39, co39, eo39⟩ := Kd.R_slice HO253.out; subst eo39) | (go_at_call 22; (with_reducible refine (skywayref1_HasText.calls k1 _ _ t251 a1 true _ ?side1 ?side2 A17.out).mono ?_); (case side1 => repeat (first | exact (Kd.R_reads' HO253.out).2.2 | (with_reducible refine Kd.C_alloc ?_ _) | (with_reducible refine Kd.C_drewN ?_ _) | (with_reducible refine Kd.C_drew ?_))); (case side2 => exact (Kd.R_reads' HO253.out).2.1); rintro e w40 ⟨rfl, hb⟩; have n0_ := Aside0.mk (Kd.R_below (by (with_reducible repeat (first | apply Kd.R_alloc | apply Kd.R_drewN | apply Kd.R_drew)); exact HO_5.out) hb); have n1_ := Aside0.mk (Kd.R_below (by (with_reducible repeat (first | apply Kd.R_alloc | apply Kd.R_drewN | apply Kd.R_drew)); exact HO_27.out) hb); have n2_ := Aside0.mk (Kd.R_below (by (with_reducible repeat (first | apply Kd.R_alloc | apply Kd.R_drewN | apply Kd.R_drew)); exact HO253.out) hb); have n3_ := Aside0.mk (blk_below (g := gb244) (o := .cells #[.slice A0_0 l0_0.length c0_0, .slice A0_1 l0_1.length c0_1] 25 (0, 0)) (by (with_reducible repeat (first | refine blk_drewN ?_ _ | refine blk_drew ?_ | refine blk_alloc ?_ _)); exact BK244.out) hb); have n4_ := Aside0.mk (below_step (by repeat (first | (with_reducible first | exact HB.out | apply below_alloc | apply pw_below_drewN | apply below_drew1 | refine below_set ?_ GE244.out) | exact HB.out)) hb); clear HO_5; clear HO_27; clear HO253; clear BK244; clear HB; have HO_5 := n0_; have HO_27 := n1_; have HO253 := n2_; have BK244 := n3_; have HB := n4_; clear n0_ n1_ n2_ n3_ n4_; (try clear hb); (try clear hb2); (try clear hk); (try clear hi)))
                     go_roundg k1
                     case measure => have := HK1.out; omega
                     case rel => exact ⟨(wrap64 (x29_1 + 1)), (by first | rfl | (simp; done) | (simp [*]; done)), H', ⟨by have := HK1.out; omega⟩, ⟨by (with_reducible repeat (first | apply Kd.R_alloc | apply Kd.R_drewN | apply Kd.R_drew)); exact Kd.R_mono HO_5.out (fun _ hk => trivial)⟩, ⟨by (with_reducible repeat (first | apply Kd.R_alloc | apply Kd.R_drewN | apply Kd.R_drew)); exact Kd.R_mono HO_27.out (fun _ hk => trivial)⟩, ⟨by (with_reducible repeat (first | refine blk_drewN ?_ _ | refine blk_drew ?_ | refine blk_alloc ?_ _)); exact BK244.out⟩, ⟨by repeat (first | (with_reducible first | exact HB.out | apply below_alloc | apply pw_below_drewN | apply below_drew1 | refine below_set ?_ GE244.out) | exact HB.out)⟩⟩
               · replace c18 := Bool.eq_false_iff.mpr c18
                 subst c18
                 have H1 : (some false) = some r := by rw [if_neg (show ¬ (false = true) by decide)] at H; exact H
                 clear H
                 have H := H1
                 clear H1
                 obtain rfl := Option.some.inj H
                 have p250 : 0 ≤ (x29_1 : Int) := of_decide_eq_true (by first | (with_reducible assumption) | assumption)
                 have q250 : x29_1 < (t246.length : Int) := of_decide_eq_true (by first | (with_reducible assumption) | assumption)
                 obtain ⟨ad250, e250, hx250_0⟩ := Kd.at_string (Kd.R_reads' HO_27.out).2.2 x29_1 p250 q250
                 cases e250
                 replace p250 := eq_true p250
                 replace q250 := eq_true q250
                 have hcz41_0 : wr.cell? ⟨gb244, 0, none⟩ = some (.slice A0_0 l0_0.length c0_0) := (blk_cell BK244.out 0).trans rfl
                 have hcz41_1 : wr.cell? ⟨gb244, 1, none⟩ = some (.slice A0_1 l0_1.length c0_1) := (blk_cell BK244.out 1).trans rfl
                 have hfz41_0 := blk_frozen BK244.out 0
                 have hfz41_1 := blk_frozen BK244.out 1
                 go_wp2_with (first | ((with_reducible refine gate_callee (f := 21) rfl ?_); refine goesL_ (some 37) rfl rfl Try.func21 (by kernel_rfl) rfl #[.agg #[.slice A0_0 l0_0.length c0_0, .slice A0_1 l0_1.length c0_1], .string (rdOf ByteArray.empty t246 x29_1)] rfl (by (try simp only [List.map_toArray, List.map_cons, List.map_nil]); first | done | rfl | (simp only [List.length_drop, List.length_take]; rfl)) ?_; (with_reducible refine (chart_Links.calls k1 _ _ l0_0 _ _ l0_1 (rdOf ByteArray.empty t246 x29_1) t251 t254 _ ?side1 ?side2 ?side3 ?side4 A15.out).mono ?_); (case side1 => repeat (first | exact (Kd.C_below HR0_0.out HB.out) | (with_reducible refine Kd.C_alloc ?_ _) | (with_reducible refine Kd.C_drewN ?_ _) | (with_reducible refine Kd.C_drew ?_))); (case side2 => exact HC0_0.out); (case side3 => repeat (first | exact (Kd.C_below HR0_1.out HB.out) | (with_reducible refine Kd.C_alloc ?_ _) | (with_reducible refine Kd.C_drewN ?_ _) | (with_reducible refine Kd.C_drew ?_))); (case side4 => exact HC0_1.out); rintro e w42 ⟨v252, rfl, ho0, hb⟩; refine ⟨_, rfl, ?_⟩; have n0_ := Aside0.mk (Kd.R_elder' (by (with_reducible repeat (first | apply Kd.R_alloc | apply Kd.R_drewN | apply Kd.R_drew)); exact HO_5.out) (Kd.R_base ho0) hb); have n1_ := Aside0.mk (Kd.R_elder' (by (with_reducible repeat (first | apply Kd.R_alloc | apply Kd.R_drewN | apply Kd.R_drew)); exact HO_27.out) (Kd.R_base ho0) hb); have n2_ := Aside0.mk (Kd.R_lower (Kd.R_new' (Kd.R_new' ho0 (Kd.R_lt (by (with_reducible repeat (first | apply Kd.R_alloc | apply Kd.R_drewN | apply Kd.R_drew)); exact HO_5.out))) (Kd.R_lt (by (with_reducible repeat (first | apply Kd.R_alloc | apply Kd.R_drewN | apply Kd.R_drew)); exact HO_27.out))) (below_size (by repeat (first | (with_reducible first | exact HB.out | apply below_alloc | apply pw_below_drewN | apply below_drew1 | refine below_set ?_ GE244.out) | exact HB.out)))); have n3_ := Aside0.mk (blk_below (g := gb244) (o := .cells #[.slice A0_0 l0_0.length c0_0, .slice A0_1 l0_1.length c0_1] 25 (0, 0)) (by (with_reducible repeat (first | refine blk_drewN ?_ _ | refine blk_drew ?_ | refine blk_alloc ?_ _)); exact BK244.out) hb); have n4_ := Aside0.mk (below_step (by repeat (first | (with_reducible first | exact HB.out | apply below_alloc | apply pw_below_drewN | apply below_drew1 | refine below_set ?_ GE244.out) | exact HB.out)) hb); clear HO_5; clear HO_27; clear BK244; clear HB; have HO_5 := n0_; have HO_27 := n1_; have HO253 := n2_; have BK244 := n3_; have HB := n4_; clear n0_ n1_ n2_ n3_ n4_; (try clear hb); (try clear hb2); (try clear hk); (try clear hi); (try clear ho0); obtain ⟨Ao43, co43, eo43⟩ := Kd.R_slice HO253.out; subst eo43) | (go_at_call 22; (with_reducible refine (skywayref1_HasText.calls k1 _ _ t251 a1 false _ ?side1 ?side2 A17.out).mono ?_); (case side1 => repeat (first | exact (Kd.R_reads' HO253.out).2.2 | (with_reducible refine Kd.C_alloc ?_ _) | (with_reducible refine Kd.C_drewN ?_ _) | (with_reducible refine Kd.C_drew ?_))); (case side2 => exact (Kd.R_reads' HO253.out).2.1); rintro e w44 ⟨rfl, hb⟩; have n0_ := Aside0.mk (Kd.R_below (by (with_reducible repeat (first | apply Kd.R_alloc | apply Kd.R_drewN | apply Kd.R_drew)); exact HO_5.out) hb); have n1_ := Aside0.mk (Kd.R_below (by (with_reducible repeat (first | apply Kd.R_alloc | apply Kd.R_drewN | apply Kd.R_drew)); exact HO_27.out) hb); have n2_ := Aside0.mk (Kd.R_below (by (with_reducible repeat (first | apply Kd.R_alloc | apply Kd.R_drewN | apply Kd.R_drew)); exact HO253.out) hb); have n3_ := Aside0.mk (blk_below (g := gb244) (o := .cells #[.slice A0_0 l0_0.length c0_0, .slice A0_1 l0_1.length c0_1] 25 (0, 0)) (by (with_reducible repeat (first | refine blk_drewN ?_ _ | refine blk_drew ?_ | refine blk_alloc ?_ _)); exact BK244.out) hb); have n4_ := Aside0.mk (below_step (by repeat (first | (with_reducible first | exact HB.out | apply below_alloc | apply pw_below_drewN | apply below_drew1 | refine below_set ?_ GE244.out) | exact HB.out)) hb); clear HO_5; clear HO_27; clear HO253; clear BK244; clear HB; have HO_5 := n0_; have HO_27 := n1_; have HO253 := n2_; have BK244 := n3_; have HB := n4_; clear n0_ n1_ n2_ n3_ n4_; (try clear hb); (try clear hb2); (try clear hk); (try clear hi)))
                 go_ret
                 exact ⟨by first | rfl | (simp [errW_none, errW_some] <;> rfl) | (simp [*, errW_none, errW_some] <;> rfl), by repeat (first | (with_reducible first | exact HB.out | apply below_alloc | apply pw_below_drewN | apply below_drew1 | refine below_set ?_ GE244.out) | exact HB.out)⟩
             · rw [if_neg c16] at H
               have c16b0 : (t254 == 0) = false := beq_eq_false_iff_ne.mpr c16
               have c16b1 : (t254 != 0) = true := bne_iff_ne.mpr c16
               obtain rfl := Option.some.inj H
               have p250 : 0 ≤ (x29_1 : Int) := of_decide_eq_true (by first | (with_reducible assumption) | assumption)
               have q250 : x29_1 < (t246.length : Int) := of_decide_eq_true (by first | (with_reducible assumption) | assumption)
               obtain ⟨ad250, e250, hx250_0⟩ := Kd.at_string (Kd.R_reads' HO_27.out).2.2 x29_1 p250 q250
               cases e250
               replace p250 := eq_true p250
               replace q250 := eq_true q250
               have hcz45_0 : wr.cell? ⟨gb244, 0, none⟩ = some (.slice A0_0 l0_0.length c0_0) := (blk_cell BK244.out 0).trans rfl
               have hcz45_1 : wr.cell? ⟨gb244, 1, none⟩ = some (.slice A0_1 l0_1.length c0_1) := (blk_cell BK244.out 1).trans rfl
               have hfz45_0 := blk_frozen BK244.out 0
               have hfz45_1 := blk_frozen BK244.out 1
               go_wp2_with (first | ((with_reducible refine gate_callee (f := 21) rfl ?_); refine goesL_ (some 37) rfl rfl Try.func21 (by kernel_rfl) rfl #[.agg #[.slice A0_0 l0_0.length c0_0, .slice A0_1 l0_1.length c0_1], .string (rdOf ByteArray.empty t246 x29_1)] rfl (by (try simp only [List.map_toArray, List.map_cons, List.map_nil]); first | done | rfl | (simp only [List.length_drop, List.length_take]; rfl)) ?_; (with_reducible refine (chart_Links.calls k1 _ _ l0_0 _ _ l0_1 (rdOf ByteArray.empty t246 x29_1) t251 t254 _ ?side1 ?side2 ?side3 ?side4 A15.out).mono ?_); (case side1 => repeat (first | exact (Kd.C_below HR0_0.out HB.out) | (with_reducible refine Kd.C_alloc ?_ _) | (with_reducible refine Kd.C_drewN ?_ _) | (with_reducible refine Kd.C_drew ?_))); (case side2 => exact HC0_0.out); (case side3 => repeat (first | exact (Kd.C_below HR0_1.out HB.out) | (with_reducible refine Kd.C_alloc ?_ _) | (with_reducible refine Kd.C_drewN ?_ _) | (with_reducible refine Kd.C_drew ?_))); (case side4 => exact HC0_1.out); rintro e w46 ⟨v252, rfl, ho0, hb⟩; refine ⟨_, rfl, ?_⟩; have n0_ := Aside0.mk (Kd.R_elder' (by (with_reducible repeat (first | apply Kd.R_alloc | apply Kd.R_drewN | apply Kd.R_drew)); exact HO_5.out) (Kd.R_base ho0) hb); have n1_ := Aside0.mk (Kd.R_elder' (by (with_reducible repeat (first | apply Kd.R_alloc | apply Kd.R_drewN | apply Kd.R_drew)); exact HO_27.out) (Kd.R_base ho0) hb); have n2_ := Aside0.mk (Kd.R_lower (Kd.R_new' (Kd.R_new' ho0 (Kd.R_lt (by (with_reducible repeat (first | apply Kd.R_alloc | apply Kd.R_drewN | apply Kd.R_drew)); exact HO_5.out))) (Kd.R_lt (by (with_reducible repeat (first | apply Kd.R_alloc | apply Kd.R_drewN | apply Kd.R_drew)); exact HO_27.out))) (below_size (by repeat (first | (with_reducible first | exact HB.out | apply below_alloc | apply pw_below_drewN | apply below_drew1 | refine below_set ?_ GE244.out) | exact HB.out)))); have n3_ := Aside0.mk (blk_below (g := gb244) (o := .cells #[.slice A0_0 l0_0.length c0_0, .slice A0_1 l0_1.length c0_1] 25 (0, 0)) (by (with_reducible repeat (first | refine blk_drewN ?_ _ | refine blk_drew ?_ | refine blk_alloc ?_ _)); exact BK244.out) hb); have n4_ := Aside0.mk (below_step (by repeat (first | (with_reducible first | exact HB.out | apply below_alloc | apply pw_below_drewN | apply below_drew1 | refine below_set ?_ GE244.out) | exact HB.out)) hb); clear HO_5; clear HO_27; clear BK244; clear HB; have HO_5 := n0_; have HO_27 := n1_; have HO253 := n2_; have BK244 := n3_; have HB := n4_; clear n0_ n1_ n2_ n3_ n4_; (try clear hb); (try clear hb2); (try clear hk); (try clear hi); (try clear ho0)))
               go_ret
               exact ⟨by first | rfl | (simp [errW_none, errW_some] <;> rfl) | (simp [*, errW_none, errW_some] <;> rfl), by repeat (first | (with_reducible first | exact HB.out | apply below_alloc | apply pw_below_drewN | apply below_drew1 | refine below_set ?_ GE244.out) | exact HB.out)⟩
           · rw [if_neg c14] at H
             exact absurd H (by simp)
         · rw [if_neg c13] at H
           exact absurd H (by simp)
       · rw [if_neg c12] at H
         have c12b0 : decide (x29_1 < (t246.length : Int)) = false := decide_eq_false c12
         clear c12
         have H' := Aside0.mk H
         clear H
         have hcz47_0 : wr.cell? ⟨gb244, 0, none⟩ = some (.slice A0_0 l0_0.length c0_0) := (blk_cell BK244.out 0).trans rfl
         have hcz47_1 : wr.cell? ⟨gb244, 1, none⟩ = some (.slice A0_1 l0_1.length c0_1) := (blk_cell BK244.out 1).trans rfl
         have hfz47_0 := blk_frozen BK244.out 0
         have hfz47_1 := blk_frozen BK244.out 1
         go_wp2
         go_loopg [70] k1 (fun kq v70 w' => ∃ (x70_2 : Int), v70 = .int .i64 x70_2 ∧ Aside0 (skywaykeep1_ChartLinks.l1 kq a1 t246 l0_1 (l0_1.length : Int) x70_2 = some r) ∧ Aside0 (kq ≤ k1) ∧ Aside0 (Kd.R Kd.string 9 w' w.heap.size (fun _ => True) (.slice Ao11 t246.length co11) t246) ∧ Aside0 (w'.heap[gb244]? = some (.cells #[(.slice A0_0 l0_0.length c0_0), (.slice A0_1 l0_1.length c0_1)] 25 (0, 0))) ∧ Aside0 (Below w.heap.size w w'))
         case atStart => exact ⟨(0), (by first | rfl | (simp; done) | (simp [*]; done)), H', ⟨Nat.le_refl _⟩, ⟨by (with_reducible repeat (first | apply Kd.R_alloc | apply Kd.R_drewN | apply Kd.R_drew)); exact HO_5.out⟩, ⟨by (with_reducible repeat (first | refine blk_drewN ?_ _ | refine blk_drew ?_ | refine blk_alloc ?_ _)); exact BK244.out⟩, ⟨by repeat (first | (with_reducible first | exact HB.out | apply below_alloc | apply pw_below_drewN | apply below_drew1 | refine below_set ?_ GE244.out) | exact HB.out)⟩⟩
         case round =>
          clear H'
          (try clear c1); (try clear p1); (try clear c2); (try clear p2); (try clear q2); (try clear hx2); (try clear c4); (try clear c6); (try clear c6b0); (try clear c6b1); (try clear p6); (try clear c12); (try clear c12b0); (try clear c13); (try clear c13b0); (try clear c14); (try clear c14b0); (try clear c15); (try clear c16); (try clear c16b0); (try clear c16b1); (try clear c18); (try clear c19); (try clear c19b0); (try clear c19b1); (try clear c21); (try clear c24); (try clear c24b0); (try clear p25); (try clear q25); (try clear hx25); (try clear c26); (try clear c26b0); (try clear c27); (try clear c27b0); (try clear c28); (try clear c28b0); (try clear hcz20_0); (try clear hcz20_1); (try clear hcz29_0)
          (try clear hcz29_1); (try clear hcz33_0); (try clear hcz33_1); (try clear hcz37_0); (try clear hcz37_1); (try clear hcz41_0); (try clear hcz41_1); (try clear hcz45_0); (try clear hcz45_1); (try clear hcz47_0); (try clear hcz47_1); (try clear hcz9_0); (try clear hcz9_1); (try clear hfz20_0); (try clear hfz20_1); (try clear hfz29_0); (try clear hfz29_1); (try clear hfz33_0); (try clear hfz33_1); (try clear hfz37_0); (try clear hfz37_1); (try clear hfz41_0); (try clear hfz41_1); (try clear hfz45_0); (try clear hfz45_1); (try clear hfz47_0); (try clear hfz47_1); (try clear hfz9_0); (try clear hfz9_1); (try clear hx250_0); (try clear hx256_0); (try clear p1); (try clear p2); (try clear p250); (try clear p256); (try clear q250); (try clear q256)
          obtain ⟨x70_2, rfl, HA, HK2, HO_5, BK244, HB⟩ := hrel
          cases gk with
          | zero => exact absurd HA.out (by simp [skywaykeep1_ChartLinks.l1])
          | succ k2 =>
           have H := HA.out
           clear HA
           simp only [skywaykeep1_ChartLinks.l1] at H
           by_cases c48 : x70_2 < (l0_1.length : Int)
           · rw [if_pos c48] at H
             have c48b0 : decide (x70_2 < (l0_1.length : Int)) = true := decide_eq_true c48
             clear c48
             by_cases c49 : 0 ≤ x70_2
             · rw [if_pos c49] at H
               have c49b0 : decide (0 ≤ x70_2) = true := decide_eq_true c49
               clear c49
               by_cases c50 : x70_2 < (l0_1.length : Int)
               · rw [if_pos c50] at H
                 have c50b0 : decide (x70_2 < (l0_1.length : Int)) = true := decide_eq_true c50
                 clear c50
                 have H' := Aside0.mk H
                 clear H
                 have p257 : 0 ≤ (x70_2 : Int) := of_decide_eq_true (by first | (with_reducible assumption) | assumption)
                 have q257 : x70_2 < (l0_1.length : Int) := of_decide_eq_true (by first | (with_reducible assumption) | assumption)
                 obtain ⟨ad257, A257_1, c257_1, e257, hx257_0, hx257_1, hl257_1, hi257_1⟩ := at_T48 HR0_1.out x70_2 p257 q257
                 cases e257
                 replace hx257_0 := (HB.out.cell (World.block_lt_of_cell? w _ hx257_0)).trans hx257_0
                 replace hx257_1 := (HB.out.cell (World.block_lt_of_cell? w _ hx257_1)).trans hx257_1
                 have HR257_1 := Aside0.mk hi257_1
                 have HC257_1 := Aside0.mk hl257_1
                 clear hi257_1 hl257_1
                 replace p257 := eq_true p257
                 replace q257 := eq_true q257
                 go_wp2_with (first | ((with_reducible refine gate_dst (N := 12) rfl ?_); refine box_event ?hg (N := 12) ?hd (cs := #[.string (⟨#[]⟩ : ByteArray), .slice none 0 0]) (t := 48) ?hr ?_; (case hd => rfl); (case hg => rfl); (case hr => first | (go_simp; done) | (go_simp; rfl)); intro gb258 hg w51 hbox hb; have n0_ := Aside0.mk (Kd.R_below (by (with_reducible repeat (first | apply Kd.R_alloc | apply Kd.R_drewN | apply Kd.R_drew)); exact HO_5.out) hb); have n1_ := Aside0.mk (blk_below (g := gb244) (o := .cells #[.slice A0_0 l0_0.length c0_0, .slice (some ad257) l0_1.length c0_1] 25 (0, 0)) (by (with_reducible repeat (first | refine blk_drewN ?_ _ | refine blk_drew ?_ | refine blk_alloc ?_ _)); exact BK244.out) hb); have n2_ := Aside0.mk (below_step (by repeat (first | (with_reducible first | exact HB.out | apply below_alloc | apply pw_below_drewN | apply below_drew1 | refine below_set ?_ GE244.out) | exact HB.out)) hb); have n3_ := Aside0.mk (hbox); have n4_ := Aside0.mk ((by rw [hg]; exact (below_size (by repeat (first | (with_reducible first | exact HB.out | apply below_alloc | apply pw_below_drewN | apply below_drew1 | refine below_set ?_ GE244.out) | exact HB.out))) : w.heap.size ≤ gb258)); have n5_ := Aside0.mk ((by rw [hg]; exact (below_size (by repeat (first | (with_reducible first | exact HB.out | apply below_alloc | apply pw_below_drewN | apply below_drew1 | refine below_set ?_ GE244.out) | exact HB.out))) : w.heap.size ≤ gb258)); have n6_ := Aside0.mk ((by rw [hg]; exact Nat.ne_of_lt (blk_lt (g := gb244) (o := .cells #[.slice A0_0 l0_0.length c0_0, .slice (some ad257) l0_1.length c0_1] 25 (0, 0)) (by (with_reducible repeat (first | refine blk_drewN ?_ _ | refine blk_drew ?_ | refine blk_alloc ?_ _)); exact BK244.out)) : gb244 ≠ gb258)); have n7_ := Aside0.mk ((by rw [hg]; exact Nat.ne_of_gt (blk_lt (g := gb244) (o := .cells #[.slice A0_0 l0_0.length c0_0, .slice (some ad257) l0_1.length c0_1] 25 (0, 0)) (by (with_reducible repeat (first | refine blk_drewN ?_ _ | refine blk_drew ?_ | refine blk_alloc ?_ _)); exact BK244.out)) : gb258 ≠ gb244)); clear HO_5; clear BK244; clear HB; have HO_5 := n0_; have BK244 := n1_; have HB := n2_; have BK258 := n3_; have GW258 := n4_; have GE258 := n5_; have NB244_258 := n6_; have NB258_244 := n7_; clear n0_ n1_ n2_ n3_ n4_ n5_ n6_ n7_; clear hb hbox hg; have hnb52 := NB258_244.out; have hnc52 := NB244_258.out; have hcz53_0 : w51.cell? ⟨gb258, 0, none⟩ = some (.string (⟨#[]⟩ : ByteArray)) := (blk_cell BK258.out 0).trans rfl; have hcz53_1 : w51.cell? ⟨gb258, 1, none⟩ = some (.slice none 0 0) := (blk_cell BK258.out 1).trans rfl; have hfz53_0 := blk_frozen BK258.out 0; have hfz53_1 := blk_frozen BK258.out 1))
                 go_loopg [13] k2 (fun kq v13 w' => ∃ (x13_3 : Int), v13 = .int .i64 x13_3 ∧ Aside0 (skywaykeep1_ChartLinks.l2 kq a1 t246 x13_3 l0_1 (l0_1.length : Int) x70_2 ((rd_T48 l0_1 x70_2).f0) ((rd_T48 l0_1 x70_2).f1) = some r) ∧ Aside0 (kq ≤ k2) ∧ Aside0 (Kd.R Kd.string 9 w' w.heap.size (fun _ => True) (.slice Ao11 t246.length co11) t246) ∧ Aside0 (w'.heap[gb244]? = some (.cells #[(.slice A0_0 l0_0.length c0_0), (.slice (some ad257) l0_1.length c0_1)] 25 (0, 0))) ∧ Aside0 (w'.heap[gb258]? = some (.cells #[.string ((rd_T48 l0_1 x70_2).f0), (.slice A257_1 ((rd_T48 l0_1 x70_2).f1).length c257_1)] 48 (0, 0))) ∧ Aside0 (Below w.heap.size w w'))
                 case atStart => exact ⟨(1), (by first | rfl | (simp; done) | (simp [*]; done)), H', ⟨Nat.le_refl _⟩, ⟨by (with_reducible repeat (first | apply Kd.R_alloc | apply Kd.R_drewN | apply Kd.R_drew)); exact Kd.R_mono (Kd.R_far (p := ⟨gb258, 1, none⟩) (Kd.R_far (p := ⟨gb258, 0, none⟩) (Kd.R_types HO_5.out BK258.out (by decide)) (fun _ hk => hk.2) (.string ((rd_T48 l0_1 x70_2).f0))) (fun _ hk => hk.2) (.slice A257_1 ((rd_T48 l0_1 x70_2).f1).length c257_1)) (fun _ hk => trivial)⟩, ⟨by (with_reducible repeat (first | refine blk_drewN ?_ _ | refine blk_drew ?_ | refine blk_alloc ?_ _)); refine blk_far ?_ NB244_258.out _; (with_reducible repeat (first | refine blk_drewN ?_ _ | refine blk_drew ?_ | refine blk_alloc ?_ _)); refine blk_far ?_ NB244_258.out _; (with_reducible repeat (first | refine blk_drewN ?_ _ | refine blk_drew ?_ | refine blk_alloc ?_ _)); exact BK244.out⟩, ⟨by (with_reducible repeat (first | refine blk_drewN ?_ _ | refine blk_drew ?_ | refine blk_alloc ?_ _)); refine blk_put (cs := #[.string ((rd_T48 l0_1 x70_2).f0), .slice none 0 0]) ?_ 1 _ rfl; (with_reducible repeat (first | refine blk_drewN ?_ _ | refine blk_drew ?_ | refine blk_alloc ?_ _)); refine blk_put (cs := #[.string (⟨#[]⟩ : ByteArray), .slice none 0 0]) ?_ 0 _ rfl; (with_reducible repeat (first | refine blk_drewN ?_ _ | refine blk_drew ?_ | refine blk_alloc ?_ _)); exact BK258.out⟩, ⟨by repeat (first | (with_reducible first | exact HB.out | apply below_alloc | apply pw_below_drewN | apply below_drew1 | refine below_set ?_ GE244.out | refine below_set ?_ GE258.out) | exact HB.out)⟩⟩
                 case round =>
                  clear H'
                  (try clear c1); (try clear p1); (try clear c2); (try clear p2); (try clear q2); (try clear hx2); (try clear c4); (try clear c5); (try clear c6); (try clear c6b0); (try clear c6b1); (try clear p6); (try clear c12); (try clear c12b0); (try clear c13); (try clear c13b0); (try clear c14); (try clear c14b0); (try clear c15); (try clear c16); (try clear c16b0); (try clear c16b1); (try clear c18); (try clear c19); (try clear c19b0); (try clear c19b1); (try clear c21); (try clear c24); (try clear c24b0); (try clear c25); (try clear p25); (try clear q25); (try clear hx25); (try clear c26); (try clear c26b0); (try clear c27); (try clear c27b0); (try clear c28); (try clear c28b0); (try clear c48)
                  (try clear c48b0); (try clear c49); (try clear c49b0); (try clear c50); (try clear c50b0); (try clear c52); (try clear hcz20_0); (try clear hcz20_1); (try clear hcz29_0); (try clear hcz29_1); (try clear hcz33_0); (try clear hcz33_1); (try clear hcz37_0); (try clear hcz37_1); (try clear hcz41_0); (try clear hcz41_1); (try clear hcz45_0); (try clear hcz45_1); (try clear hcz47_0); (try clear hcz47_1); (try clear hcz53_0); (try clear hcz53_1); (try clear hcz9_0); (try clear hcz9_1); (try clear hfz20_0); (try clear hfz20_1); (try clear hfz29_0); (try clear hfz29_1); (try clear hfz33_0); (try clear hfz33_1); (try clear hfz37_0); (try clear hfz37_1); (try clear hfz41_0); (try clear hfz41_1); (try clear hfz45_0); (try clear hfz45_1); (try clear hfz47_0); (try clear hfz47_1); (try clear hfz53_0); (try clear hfz53_1)
                  (try clear hfz9_0); (try clear hfz9_1); (try clear hx250_0); (try clear hx256_0); (try clear hx257_0); (try clear hx257_1); (try clear p1); (try clear p2); (try clear p25); (try clear p250); (try clear p256); (try clear p257); (try clear p6); (try clear q2); (try clear q25); (try clear q250); (try clear q256); (try clear q257)
                  obtain ⟨x13_3, rfl, HA, HK3, HO_5, BK244, BK258, HB⟩ := hrel
                  cases gk with
                  | zero => exact absurd HA.out (by simp [skywaykeep1_ChartLinks.l2])
                  | succ k3 =>
                   have H := HA.out
                   clear HA
                   simp only [skywaykeep1_ChartLinks.l2] at H
                   by_cases c54 : x13_3 < (((rd_T48 l0_1 x70_2).f1).length : Int)
                   · rw [if_pos c54] at H
                     have c54b0 : decide (x13_3 < (((rd_T48 l0_1 x70_2).f1).length : Int)) = true := decide_eq_true c54
                     clear c54
                     obtain ⟨ji55, hji55⟩ : ∃ j_ : Int, (wrap64 (x13_3 - 1)) = j_ := ⟨_, rfl⟩
                     replace H : (if 0 ≤ (ji55) then (if (ji55) < (((rd_T48 l0_1 x70_2).f1).length : Int) then (if (rdOf ByteArray.empty ((rd_T48 l0_1 x70_2).f1) (ji55)).toList = a1.toList then (if 0 ≤ x13_3 then ((skywayref1_HasText.f k3 t246 (rdOf ByteArray.empty ((rd_T48 l0_1 x70_2).f1) x13_3)).bind fun t261 => (if t261 = true then (skywaykeep1_ChartLinks.l2 k3 a1 t246 (wrap64 (x13_3 + 1)) l0_1 (l0_1.length : Int) x70_2 ((rd_T48 l0_1 x70_2).f0) ((rd_T48 l0_1 x70_2).f1)) else (some false))) else (none)) else (skywaykeep1_ChartLinks.l2 k3 a1 t246 (wrap64 (x13_3 + 1)) l0_1 (l0_1.length : Int) x70_2 ((rd_T48 l0_1 x70_2).f0) ((rd_T48 l0_1 x70_2).f1))) else (none)) else (none)) = some r := by first | (rw [hji55] at H; exact H) | (simp only [hji55] at H ⊢; exact H)
                     have hji55w : (IntKind.i64.wrap (x13_3 - 1)) = ji55 := (i64_w _).trans hji55
                     by_cases c56 : 0 ≤ (ji55)
                     · rw [if_pos c56] at H
                       have c56b0 : decide (0 ≤ (ji55)) = true := decide_eq_true c56
                       clear c56
                       by_cases c57 : (ji55) < (((rd_T48 l0_1 x70_2).f1).length : Int)
                       · rw [if_pos c57] at H
                         have c57b0 : decide ((ji55) < (((rd_T48 l0_1 x70_2).f1).length : Int)) = true := decide_eq_true c57
                         clear c57
                         by_cases c58 : (rdOf ByteArray.empty ((rd_T48 l0_1 x70_2).f1) (ji55)).toList = a1.toList
                         · rw [if_pos c58] at H
                           have c58b0 : ((rdOf ByteArray.empty ((rd_T48 l0_1 x70_2).f1) (ji55)).toList == a1.toList) = true := beq_iff_eq.mpr c58
                           have c58b1 : ((rdOf ByteArray.empty ((rd_T48 l0_1 x70_2).f1) (ji55)).toList != a1.toList) = false := bne_eq_false_iff_eq.mpr c58
                           clear c58
                           by_cases c59 : 0 ≤ x13_3
                           · rw [if_pos c59] at H
                             have c59b0 : decide (0 ≤ x13_3) = true := decide_eq_true c59
                             clear c59
                             replace H := Option.bind_eq_some_iff.mp H
                             obtain ⟨t261, A600, H⟩ := H
                             replace H : (if t261 = true then (skywaykeep1_ChartLinks.l2 k3 a1 t246 (wrap64 (x13_3 + 1)) l0_1 (l0_1.length : Int) x70_2 ((rd_T48 l0_1 x70_2).f0) ((rd_T48 l0_1 x70_2).f1)) else (some false)) = some r := H
                             have A60 := Aside0.mk A600
                             clear A600
                             by_cases c61 : t261 = true
                             · subst c61
                               have H1 : (skywaykeep1_ChartLinks.l2 k3 a1 t246 (wrap64 (x13_3 + 1)) l0_1 (l0_1.length : Int) x70_2 ((rd_T48 l0_1 x70_2).f0) ((rd_T48 l0_1 x70_2).f1)) = some r := by rw [if_pos rfl] at H; exact H
                               clear H
                               have H := H1
                               clear H1
                               have H' := Aside0.mk H
                               clear H
                               have hnb62 := NB258_244.out
                               have hnc62 := NB244_258.out
                               have hcz63_0 : wr.cell? ⟨gb258, 0, none⟩ = some (.string ((rd_T48 l0_1 x70_2).f0)) := (blk_cell BK258.out 0).trans rfl
                               have hcz63_1 : wr.cell? ⟨gb258, 1, none⟩ = some (.slice A257_1 ((rd_T48 l0_1 x70_2).f1).length c257_1) := (blk_cell BK258.out 1).trans rfl
                               have hfz63_0 := blk_frozen BK258.out 0
                               have hfz63_1 := blk_frozen BK258.out 1
                               have p259 : 0 ≤ ((ji55) : Int) := of_decide_eq_true (by first | (with_reducible assumption) | assumption)
                               have q259 : (ji55) < (((rd_T48 l0_1 x70_2).f1).length : Int) := of_decide_eq_true (by first | (with_reducible assumption) | assumption)
                               obtain ⟨ad259, e259, hx259_0⟩ := Kd.at_string HR257_1.out (ji55) p259 q259
                               cases e259
                               replace hx259_0 := (HB.out.cell (World.block_lt_of_cell? w _ hx259_0)).trans hx259_0
                               replace p259 := eq_true p259
                               replace q259 := eq_true q259
                               have p260 : 0 ≤ (x13_3 : Int) := of_decide_eq_true (by first | (with_reducible assumption) | assumption)
                               have q260 : x13_3 < (((rd_T48 l0_1 x70_2).f1).length : Int) := of_decide_eq_true (by first | (with_reducible assumption) | assumption)
                               obtain ⟨ad260, e260, hx260_0⟩ := Kd.at_string HR257_1.out x13_3 p260 q260
                               obtain rfl : ad259 = ad260 := (by injection e260)
                               replace hx260_0 := (HB.out.cell (World.block_lt_of_cell? w _ hx260_0)).trans hx260_0
                               replace p260 := eq_true p260
                               replace q260 := eq_true q260
                               go_wp2_with (first | (go_at_call 22; (with_reducible refine (skywayref1_HasText.calls k3 _ _ t246 (rdOf ByteArray.empty ((rd_T48 l0_1 x70_2).f1) x13_3) true _ ?side1 ?side2 A60.out).mono ?_); (case side1 => repeat (first | exact (Kd.R_reads' HO_5.out).2.2 | (with_reducible refine Kd.C_alloc ?_ _) | (with_reducible refine Kd.C_drewN ?_ _) | (with_reducible refine Kd.C_drew ?_))); (case side2 => exact (Kd.R_reads' HO_5.out).2.1); rintro e w64 ⟨rfl, hb⟩; have n0_ := Aside0.mk (Kd.R_below (by (with_reducible repeat (first | apply Kd.R_alloc | apply Kd.R_drewN | apply Kd.R_drew)); exact HO_5.out) hb); have n1_ := Aside0.mk (blk_below (g := gb244) (o := .cells #[.slice A0_0 l0_0.length c0_0, .slice (some ad257) l0_1.length c0_1] 25 (0, 0)) (by (with_reducible repeat (first | refine blk_drewN ?_ _ | refine blk_drew ?_ | refine blk_alloc ?_ _)); exact BK244.out) hb); have n2_ := Aside0.mk (blk_below (g := gb258) (o := .cells #[.string ((rd_T48 l0_1 x70_2).f0), .slice (some ad259) ((rd_T48 l0_1 x70_2).f1).length c257_1] 48 (0, 0)) (by (with_reducible repeat (first | refine blk_drewN ?_ _ | refine blk_drew ?_ | refine blk_alloc ?_ _)); exact BK258.out) hb); have n3_ := Aside0.mk (below_step (by repeat (first | (with_reducible first | exact HB.out | apply below_alloc | apply pw_below_drewN | apply below_drew1 | refine below_set ?_ GE244.out | refine below_set ?_ GE258.out) | exact HB.out)) hb); clear HO_5; clear BK244; clear BK258; clear HB; have HO_5 := n0_; have BK244 := n1_; have BK258 := n2_; have HB := n3_; clear n0_ n1_ n2_ n3_; (try clear hb); (try clear hb2); (try clear hk); (try clear hi)))
                               first | go_roundg k3 | (subst hji55; go_roundg k3)
                               case measure => have := HK1.out; have := HK2.out; have := HK3.out; omega
                               case rel => exact ⟨(wrap64 (x13_3 + 1)), (by first | rfl | (simp; done) | (simp [*]; done)), H', ⟨by have := HK1.out; have := HK2.out; have := HK3.out; omega⟩, ⟨by (with_reducible repeat (first | apply Kd.R_alloc | apply Kd.R_drewN | apply Kd.R_drew)); exact HO_5.out⟩, ⟨by (with_reducible repeat (first | refine blk_drewN ?_ _ | refine blk_drew ?_ | refine blk_alloc ?_ _)); exact BK244.out⟩, ⟨by (with_reducible repeat (first | refine blk_drewN ?_ _ | refine blk_drew ?_ | refine blk_alloc ?_ _)); exact BK258.out⟩, ⟨by repeat (first | (with_reducible first | exact HB.out | apply below_alloc | apply pw_below_drewN | apply below_drew1 | refine below_set ?_ GE244.out | refine below_set ?_ GE258.out) | exact HB.out)⟩⟩
                             · replace c61 := Bool.eq_false_iff.mpr c61
                               subst c61
                               have H1 : (some false) = some r := by rw [if_neg (show ¬ (false = true) by decide)] at H; exact H
                               clear H
                               have H := H1
                               clear H1
                               obtain rfl := Option.some.inj H
                               have hnb65 := NB258_244.out
                               have hnc65 := NB244_258.out
                               have hcz66_0 : wr.cell? ⟨gb258, 0, none⟩ = some (.string ((rd_T48 l0_1 x70_2).f0)) := (blk_cell BK258.out 0).trans rfl
                               have hcz66_1 : wr.cell? ⟨gb258, 1, none⟩ = some (.slice A257_1 ((rd_T48 l0_1 x70_2).f1).length c257_1) := (blk_cell BK258.out 1).trans rfl
                               have hfz66_0 := blk_frozen BK258.out 0
                               have hfz66_1 := blk_frozen BK258.out 1
                               have p259 : 0 ≤ ((ji55) : Int) := of_decide_eq_true (by first | (with_reducible assumption) | assumption)
                               have q259 : (ji55) < (((rd_T48 l0_1 x70_2).f1).length : Int) := of_decide_eq_true (by first | (with_reducible assumption) | assumption)
                               obtain ⟨ad259, e259, hx259_0⟩ := Kd.at_string HR257_1.out (ji55) p259 q259
                               cases e259
                               replace hx259_0 := (HB.out.cell (World.block_lt_of_cell? w _ hx259_0)).trans hx259_0
                               replace p259 := eq_true p259
                               replace q259 := eq_true q259
                               have p260 : 0 ≤ (x13_3 : Int) := of_decide_eq_true (by first | (with_reducible assumption) | assumption)
                               have q260 : x13_3 < (((rd_T48 l0_1 x70_2).f1).length : Int) := of_decide_eq_true (by first | (with_reducible assumption) | assumption)
                               obtain ⟨ad260, e260, hx260_0⟩ := Kd.at_string HR257_1.out x13_3 p260 q260
                               obtain rfl : ad259 = ad260 := (by injection e260)
                               replace hx260_0 := (HB.out.cell (World.block_lt_of_cell? w _ hx260_0)).trans hx260_0
                               replace p260 := eq_true p260
                               replace q260 := eq_true q260
                               go_wp2_with (first | (go_at_call 22; (with_reducible refine (skywayref1_HasText.calls k3 _ _ t246 (rdOf ByteArray.empty ((rd_T48 l0_1 x70_2).f1) x13_3) false _ ?side1 ?side2 A60.out).mono ?_); (case side1 => repeat (first | exact (Kd.R_reads' HO_5.out).2.2 | (with_reducible refine Kd.C_alloc ?_ _) | (with_reducible refine Kd.C_drewN ?_ _) | (with_reducible refine Kd.C_drew ?_))); (case side2 => exact (Kd.R_reads' HO_5.out).2.1); rintro e w67 ⟨rfl, hb⟩; have n0_ := Aside0.mk (Kd.R_below (by (with_reducible repeat (first | apply Kd.R_alloc | apply Kd.R_drewN | apply Kd.R_drew)); exact HO_5.out) hb); have n1_ := Aside0.mk (blk_below (g := gb244) (o := .cells #[.slice A0_0 l0_0.length c0_0, .slice (some ad257) l0_1.length c0_1] 25 (0, 0)) (by (with_reducible repeat (first | refine blk_drewN ?_ _ | refine blk_drew ?_ | refine blk_alloc ?_ _)); exact BK244.out) hb); have n2_ := Aside0.mk (blk_below (g := gb258) (o := .cells #[.string ((rd_T48 l0_1 x70_2).f0), .slice (some ad259) ((rd_T48 l0_1 x70_2).f1).length c257_1] 48 (0, 0)) (by (with_reducible repeat (first | refine blk_drewN ?_ _ | refine blk_drew ?_ | refine blk_alloc ?_ _)); exact BK258.out) hb); have n3_ := Aside0.mk (below_step (by repeat (first | (with_reducible first | exact HB.out | apply below_alloc | apply pw_below_drewN | apply below_drew1 | refine below_set ?_ GE244.out | refine below_set ?_ GE258.out) | exact HB.out)) hb); clear HO_5; clear BK244; clear BK258; clear HB; have HO_5 := n0_; have BK244 := n1_; have BK258 := n2_; have HB := n3_; clear n0_ n1_ n2_ n3_; (try clear hb); (try clear hb2); (try clear hk); (try clear hi)))
                               go_ret
                               exact ⟨by first | rfl | (simp [errW_none, errW_some] <;> rfl) | (simp only [← hji55]; first | rfl | (simp [errW_none, errW_some] <;> rfl)) | (simp [*, errW_none, errW_some] <;> rfl), by repeat (first | (with_reducible first | exact HB.out | apply below_alloc | apply pw_below_drewN | apply below_drew1 | refine below_set ?_ GE244.out | refine below_set ?_ GE258.out) | exact HB.out)⟩
                           · rw [if_neg c59] at H
                             exact absurd H (by simp)
                         · rw [if_neg c58] at H
                           have c58b0 : ((rdOf ByteArray.empty ((rd_T48 l0_1 x70_2).f1) (ji55)).toList == a1.toList) = false := beq_eq_false_iff_ne.mpr c58
                           have c58b1 : ((rdOf ByteArray.empty ((rd_T48 l0_1 x70_2).f1) (ji55)).toList != a1.toList) = true := bne_iff_ne.mpr c58
                           have H' := Aside0.mk H
                           clear H
                           have hnb68 := NB258_244.out
                           have hnc68 := NB244_258.out
                           have hcz69_0 : wr.cell? ⟨gb258, 0, none⟩ = some (.string ((rd_T48 l0_1 x70_2).f0)) := (blk_cell BK258.out 0).trans rfl
                           have hcz69_1 : wr.cell? ⟨gb258, 1, none⟩ = some (.slice A257_1 ((rd_T48 l0_1 x70_2).f1).length c257_1) := (blk_cell BK258.out 1).trans rfl
                           have hfz69_0 := blk_frozen BK258.out 0
                           have hfz69_1 := blk_frozen BK258.out 1
                           have p259 : 0 ≤ ((ji55) : Int) := of_decide_eq_true (by first | (with_reducible assumption) | assumption)
                           have q259 : (ji55) < (((rd_T48 l0_1 x70_2).f1).length : Int) := of_decide_eq_true (by first | (with_reducible assumption) | assumption)
                           obtain ⟨ad259, e259, hx259_0⟩ := Kd.at_string HR257_1.out (ji55) p259 q259
                           cases e259
                           replace hx259_0 := (HB.out.cell (World.block_lt_of_cell? w _ hx259_0)).trans hx259_0
                           replace p259 := eq_true p259
                           replace q259 := eq_true q259
                           go_wp2
                           first | go_roundg k3 | (subst hji55; go_roundg k3)
                           case measure => have := HK1.out; have := HK2.out; have := HK3.out; omega
                           case rel => exact ⟨(wrap64 (x13_3 + 1)), (by first | rfl | (simp; done) | (simp [*]; done)), H', ⟨by have := HK1.out; have := HK2.out; have := HK3.out; omega⟩, ⟨by (with_reducible repeat (first | apply Kd.R_alloc | apply Kd.R_drewN | apply Kd.R_drew)); exact HO_5.out⟩, ⟨by (with_reducible repeat (first | refine blk_drewN ?_ _ | refine blk_drew ?_ | refine blk_alloc ?_ _)); exact BK244.out⟩, ⟨by (with_reducible repeat (first | refine blk_drewN ?_ _ | refine blk_drew ?_ | refine blk_alloc ?_ _)); exact BK258.out⟩, ⟨by repeat (first | (with_reducible first | exact HB.out | apply below_alloc | apply pw_below_drewN | apply below_drew1 | refine below_set ?_ GE244.out | refine below_set ?_ GE258.out) | exact HB.out)⟩⟩
                       · rw [if_neg c57] at H
                         exact absurd H (by simp)
                     · rw [if_neg c56] at H
                       exact absurd H (by simp)
                   · rw [if_neg c54] at H
                     have c54b0 : decide (x13_3 < (((rd_T48 l0_1 x70_2).f1).length : Int)) = false := decide_eq_false c54
                     clear c54
                     have H' := Aside0.mk H
                     clear H
                     have hnb70 := NB258_244.out
                     have hnc70 := NB244_258.out
                     have hcz71_0 : wr.cell? ⟨gb258, 0, none⟩ = some (.string ((rd_T48 l0_1 x70_2).f0)) := (blk_cell BK258.out 0).trans rfl
                     have hcz71_1 : wr.cell? ⟨gb258, 1, none⟩ = some (.slice A257_1 ((rd_T48 l0_1 x70_2).f1).length c257_1) := (blk_cell BK258.out 1).trans rfl
                     have hfz71_0 := blk_frozen BK258.out 0
                     have hfz71_1 := blk_frozen BK258.out 1
                     go_wp2
                     go_roundg k3
                     case measure => have := HK1.out; have := HK2.out; have := HK3.out; omega
                     case rel => exact ⟨(wrap64 (x70_2 + 1)), (by first | rfl | (simp; done) | (simp [*]; done)), H', ⟨by have := HK1.out; have := HK2.out; have := HK3.out; omega⟩, ⟨by (with_reducible repeat (first | apply Kd.R_alloc | apply Kd.R_drewN | apply Kd.R_drew)); exact HO_5.out⟩, ⟨by (with_reducible repeat (first | refine blk_drewN ?_ _ | refine blk_drew ?_ | refine blk_alloc ?_ _)); exact BK244.out⟩, ⟨by repeat (first | (with_reducible first | exact HB.out | apply below_alloc | apply pw_below_drewN | apply below_drew1 | refine below_set ?_ GE244.out | refine below_set ?_ GE258.out) | exact HB.out)⟩⟩
               · rw [if_neg c50] at H
                 exact absurd H (by simp)
             · rw [if_neg c49] at H
               exact absurd H (by simp)
           · rw [if_neg c48] at H
             have c48b0 : decide (x70_2 < (l0_1.length : Int)) = false := decide_eq_false c48
             clear c48
             obtain rfl := Option.some.inj H
             go_wp2
             go_ret
             exact ⟨by first | rfl | (simp [errW_none, errW_some] <;> rfl) | (simp [*, errW_none, errW_some] <;> rfl), by repeat (first | (with_reducible first | exact HB.out | apply below_alloc | apply pw_below_drewN | apply below_drew1 | refine below_set ?_ GE244.out) | exact HB.out)⟩
   · rw [if_neg c6] at H
     have c6b0 : (t249 == 0) = false := beq_eq_false_iff_ne.mpr c6
     have c6b1 : (t249 != 0) = true := bne_iff_ne.mpr c6
     obtain rfl := Option.some.inj H
     go_enter Try.func6, Try.ntmps6
     go_wp2_with (first | ((with_reducible refine gate_dst (N := 2) rfl ?_); refine box_event ?hg (N := 2) ?hd (cs := #[.slice A0_0 l0_0.length c0_0, .slice A0_1 l0_1.length c0_1]) (t := 25) ?hr ?_; (case hd => rfl); (case hg => rfl); (case hr => first | (go_simp; done) | (go_simp; rfl)); intro gb244 hg w72 hbox hb; have n0_ := Aside0.mk (below_step (by repeat (first | (with_reducible first | exact HB.out | apply below_alloc | apply pw_below_drewN | apply below_drew1) | exact HB.out)) hb); have n1_ := Aside0.mk (hbox); have n2_ := Aside0.mk ((by rw [hg]; exact (below_size (by repeat (first | (with_reducible first | exact HB.out | apply below_alloc | apply pw_below_drewN | apply below_drew1) | exact HB.out))) : w.heap.size ≤ gb244)); have n3_ := Aside0.mk ((by rw [hg]; exact (below_size (by repeat (first | (with_reducible first | exact HB.out | apply below_alloc | apply pw_below_drewN | apply below_drew1) | exact HB.out))) : w.heap.size ≤ gb244)); clear HB; have HB := n0_; have BK244 := n1_; have GW244 := n2_; have GE244 := n3_; clear n0_ n1_ n2_ n3_; clear hb hbox hg) | ((with_reducible refine gate_callee (f := 15) rfl ?_); refine goesL_ (some 14) rfl rfl Try.func15 (by kernel_rfl) rfl #[] rfl (by (try simp only [List.map_toArray, List.map_cons, List.map_nil]); first | done | rfl | (simp only [List.length_drop, List.length_take]; rfl)) ?_; (with_reducible refine (skywaykeep1_chartWorks.calls k  true _ A3.out).mono ?_); rintro e w73 ⟨rfl, hb⟩; refine ⟨_, rfl, ?_⟩; have n0_ := Aside0.mk (blk_below (g := gb244) (o := .cells #[.slice A0_0 l0_0.length c0_0, .slice A0_1 l0_1.length c0_1] 25 (0, 0)) (by (with_reducible repeat (first | refine blk_drewN ?_ _ | refine blk_drew ?_ | refine blk_alloc ?_ _)); exact BK244.out) hb); have n1_ := Aside0.mk (below_step (by repeat (first | (with_reducible first | exact HB.out | apply below_alloc | apply pw_below_drewN | apply below_drew1 | refine below_set ?_ GE244.out) | exact HB.out)) hb); clear BK244; clear HB; have BK244 := n0_; have HB := n1_; clear n0_ n1_; (try clear hb); (try clear hb2); (try clear hk); (try clear hi); have hcz74_0 : w73.cell? ⟨gb244, 0, none⟩ = some (.slice A0_0 l0_0.length c0_0) := (blk_cell BK244.out 0).trans rfl; have hcz74_1 : w73.cell? ⟨gb244, 1, none⟩ = some (.slice A0_1 l0_1.length c0_1) := (blk_cell BK244.out 1).trans rfl; have hfz74_0 := blk_frozen BK244.out 0; have hfz74_1 := blk_frozen BK244.out 1) | ((with_reducible refine gate_callee (f := 21) rfl ?_); refine goesL_ (some 19) rfl rfl Try.func21 (by kernel_rfl) rfl #[.agg #[.slice A0_0 l0_0.length c0_0, .slice A0_1 l0_1.length c0_1], .string a1] rfl (by (try simp only [List.map_toArray, List.map_cons, List.map_nil]); first | done | rfl | (simp only [List.length_drop, List.length_take]; rfl)) ?_; (with_reducible refine (chart_Links.calls k _ _ l0_0 _ _ l0_1 a1 t246 t249 _ ?side1 ?side2 ?side3 ?side4 A5.out).mono ?_); (case side1 => repeat (first | exact (Kd.C_below HR0_0.out HB.out) | (with_reducible refine Kd.C_alloc ?_ _) | (with_reducible refine Kd.C_drewN ?_ _) | (with_reducible refine Kd.C_drew ?_))); (case side2 => exact HC0_0.out); (case side3 => repeat (first | exact (Kd.C_below HR0_1.out HB.out) | (with_reducible refine Kd.C_alloc ?_ _) | (with_reducible refine Kd.C_drewN ?_ _) | (with_reducible refine Kd.C_drew ?_))); (case side4 => exact HC0_1.out); rintro e w75 ⟨v247, rfl, ho0, hb⟩; refine ⟨_, rfl, ?_⟩; have n0_ := Aside0.mk (Kd.R_lower ho0 (below_size (by repeat (first | (with_reducible first | exact HB.out | apply below_alloc | apply pw_below_drewN | apply below_drew1 | refine below_set ?_ GE244.out) | exact HB.out)))); have n1_ := Aside0.mk (blk_below (g := gb244) (o := .cells #[.slice A0_0 l0_0.length c0_0, .slice A0_1 l0_1.length c0_1] 25 (0, 0)) (by (with_reducible repeat (first | refine blk_drewN ?_ _ | refine blk_drew ?_ | refine blk_alloc ?_ _)); exact BK244.out) hb); have n2_ := Aside0.mk (below_step (by repeat (first | (with_reducible first | exact HB.out | apply below_alloc | apply pw_below_drewN | apply below_drew1 | refine below_set ?_ GE244.out) | exact HB.out)) hb); clear BK244; clear HB; have HO248 := n0_; have BK244 := n1_; have HB := n2_; clear n0_ n1_ n2_; (try clear hb); (try clear hb2); (try clear hk); (try clear hi); (try clear ho0); obtain ⟨Ao76, co76, eo76⟩ := Kd.R_slice HO248.out; subst eo76))
     go_ret
     exact ⟨by first | rfl | (simp [errW_none, errW_some] <;> rfl) | (simp [*, errW_none, errW_some] <;> rfl), by repeat (first | (with_reducible first | exact HB.out | apply below_alloc | apply pw_below_drewN | apply below_drew1 | refine below_set ?_ GE244.out) | exact HB.out)⟩
 · replace c4 := Bool.eq_false_iff.mpr c4
   subst c4
   have H1 : (some false) = some r := by rw [if_neg (show ¬ (false = true) by decide)] at H; exact H
   clear H
   have H := H1
   clear H1
   obtain rfl := Option.some.inj H
   go_enter Try.func6, Try.ntmps6
   go_wp2_with (first | ((with_reducible refine gate_dst (N := 2) rfl ?_); refine box_event ?hg (N := 2) ?hd (cs := #[.slice A0_0 l0_0.length c0_0, .slice A0_1 l0_1.length c0_1]) (t := 25) ?hr ?_; (case hd => rfl); (case hg => rfl); (case hr => first | (go_simp; done) | (go_simp; rfl)); intro gb244 hg w77 hbox hb; have n0_ := Aside0.mk (below_step (by repeat (first | (with_reducible first | exact HB.out | apply below_alloc | apply pw_below_drewN | apply below_drew1) | exact HB.out)) hb); have n1_ := Aside0.mk (hbox); have n2_ := Aside0.mk ((by rw [hg]; exact (below_size (by repeat (first | (with_reducible first | exact HB.out | apply below_alloc | apply pw_below_drewN | apply below_drew1) | exact HB.out))) : w.heap.size ≤ gb244)); have n3_ := Aside0.mk ((by rw [hg]; exact (below_size (by repeat (first | (with_reducible first | exact HB.out | apply below_alloc | apply pw_below_drewN | apply below_drew1) | exact HB.out))) : w.heap.size ≤ gb244)); clear HB; have HB := n0_; have BK244 := n1_; have GW244 := n2_; have GE244 := n3_; clear n0_ n1_ n2_ n3_; clear hb hbox hg) | ((with_reducible refine gate_callee (f := 15) rfl ?_); refine goesL_ (some 14) rfl rfl Try.func15 (by kernel_rfl) rfl #[] rfl (by (try simp only [List.map_toArray, List.map_cons, List.map_nil]); first | done | rfl | (simp only [List.length_drop, List.length_take]; rfl)) ?_; (with_reducible refine (skywaykeep1_chartWorks.calls k  false _ A3.out).mono ?_); rintro e w78 ⟨rfl, hb⟩; refine ⟨_, rfl, ?_⟩; have n0_ := Aside0.mk (blk_below (g := gb244) (o := .cells #[.slice A0_0 l0_0.length c0_0, .slice A0_1 l0_1.length c0_1] 25 (0, 0)) (by (with_reducible repeat (first | refine blk_drewN ?_ _ | refine blk_drew ?_ | refine blk_alloc ?_ _)); exact BK244.out) hb); have n1_ := Aside0.mk (below_step (by repeat (first | (with_reducible first | exact HB.out | apply below_alloc | apply pw_below_drewN | apply below_drew1 | refine below_set ?_ GE244.out) | exact HB.out)) hb); clear BK244; clear HB; have BK244 := n0_; have HB := n1_; clear n0_ n1_; (try clear hb); (try clear hb2); (try clear hk); (try clear hi)))
   go_ret
   exact ⟨by first | rfl | (simp [errW_none, errW_some] <;> rfl) | (simp [*, errW_none, errW_some] <;> rfl), by repeat (first | (with_reducible first | exact HB.out | apply below_alloc | apply pw_below_drewN | apply below_drew1 | refine below_set ?_ GE244.out) | exact HB.out)⟩

/-- What is told of a value of struct type 36 that came in. -/
def good36 (x : S36) : Prop := ((Lit.int .i64 x.f0).wf = true) ∧ (Lit.int .i64 x.f1).wf = true
/-- What is told of a value of struct type 40 that came in. -/
def good40 (x : S40) : Prop := (x.f0.size ≤ 140737488351232) ∧ good36 x.f1
/-- What is told of a value of struct type 48 that came in. -/
def good48 (x : S48) : Prop := (x.f0.size ≤ 140737488351232) ∧ x.f1.length * 16 ≤ 140737488351232 ∧ ∀ y0 ∈ x.f1, y0.size ≤ 140737488351232
/-- What is told of a value of struct type 25 that came in. -/
def good25 (x : S25) : Prop := (x.f0.length * 32 ≤ 140737488351232 ∧ ∀ y0 ∈ x.f0, good40 y0) ∧ x.f1.length * 40 ≤ 140737488351232 ∧ ∀ y0 ∈ x.f1, good48 y0
/-- THE ONE PURE STATEMENT of skywaykeep1_ChartLinks. -/
def skywaykeep1_ChartLinks.Pure : Prop := ∀ (l0_0 : List (S40)) (l0_1 : List (S48)) (a1 : ByteArray), (l0_0.length * 32 ≤ 140737488351232 ∧ ∀ y0 ∈ l0_0, good40 y0) → (l0_1.length * 40 ≤ 140737488351232 ∧ ∀ y0 ∈ l0_1, good48 y0) → (a1.size ≤ 140737488351232) → ∃ k, skywaykeep1_ChartLinks.f k l0_0 l0_1 a1 = some true

end Go.Proofs.Ytbpbpojnfhhbjaa.PChartLinks
