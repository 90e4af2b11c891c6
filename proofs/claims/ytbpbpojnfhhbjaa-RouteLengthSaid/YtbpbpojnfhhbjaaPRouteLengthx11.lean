/- Made by a program of this session (wip/tools/myprint.py, over the kit's printer): that the Go functions answer as the Lean functions printed beside them. -/
import Derived.Test.YtbpbpojnfhhbjaaTSq
import Derived.Test.YtbpbpojnfhhbjaaPRouteLengthx0
import Derived.Test.YtbpbpojnfhhbjaaPRouteLengthx2
import Derived.Test.YtbpbpojnfhhbjaaPRouteLengthx4
import Derived.Test.YtbpbpojnfhhbjaaPRouteLengthx10
namespace Go.Proofs.Ytbpbpojnfhhbjaa.PRouteLength
open Go.RowKit Go.Proofs.YtbpbpojnfhhbjaaW.PrintWords Go.Proofs.YtbpbpojnfhhbjaaW.PrintLast Go.Proofs.YtbpbpojnfhhbjaaW.PrintMore
attribute [local go_sem] max2_int min2_int max_two min_two max_three min_three max_four min_four   -- for this text's walks alone
set_option linter.unusedVariables false
set_option linter.unusedSimpArgs false

/-! ### route_checkFixes: function 69 -/
def route_checkFixes.l0 : Nat → List (S40) → Int → Int → Option (Int)
  | 0, _, _, _ => none
  | k + 1, x9, x10, x11 => if x11 < x10 then (if 0 ≤ x11 then (if x11 < (x9.length : Int) then ((plane_Check.f ((rd_T40 x9 x11).f1.f0) ((rd_T40 x9 x11).f1.f1)).bind fun t267 => (if t267 = 0 then (route_checkFixes.l0 k x9 x10 (wrap64 (x11 + 1))) else (some t267))) else (none)) else (none)) else (some 0)
def route_checkFixes.f (k : Nat) (l0 : List (S40)) : Option (Int) := if (l0.length : Int) > 64 then (some 2) else (route_checkFixes.l0 k l0 (l0.length : Int) 0)
theorem route_checkFixes.mono_l : ∀ k, (∀ y0 y1 y2, LeO (route_checkFixes.l0 k y0 y1 y2) (route_checkFixes.l0 (k + 1) y0 y1 y2))
  | 0 => fun _ _ _ r h => by simp [route_checkFixes.l0] at h
  | k + 1 => by
    have ih0 := route_checkFixes.mono_l k
    · intro y0 y1 y2
      unfold route_checkFixes.l0
      repeat' first
      | (with_reducible exact ih0 _ _ _)
      | (with_reducible exact LeO.refl _)
      | (with_reducible exact LeO.none _)
      | (with_reducible refine LeO.ite ?_ ?_)
      | (with_reducible refine LeO.bind ?_ (fun _ => ?_))
      | exact ih0 _ _ _
      | exact LeO.none _
      | refine LeO.ite ?_ ?_
      | refine LeO.bind ?_ (fun _ => ?_)
theorem route_checkFixes.mono : ∀ a0 k, LeO (route_checkFixes.f k a0) (route_checkFixes.f (k + 1) a0) := by
  intro a0 k
  have ih0 := route_checkFixes.mono_l k
  unfold route_checkFixes.f
  repeat' first
      | (with_reducible exact ih0 _ _ _)
      | (with_reducible exact LeO.refl _)
      | (with_reducible exact LeO.none _)
      | (with_reducible refine LeO.ite ?_ ?_)
      | (with_reducible refine LeO.bind ?_ (fun _ => ?_))
      | exact ih0 _ _ _
      | exact LeO.none _
      | refine LeO.ite ?_ ?_
      | refine LeO.bind ?_ (fun _ => ?_)
set_option maxHeartbeats 8000000 in
set_option maxRecDepth 100000 in
theorem route_checkFixes.calls (k : Nat) (A0 : Option Addr) (c0 : Nat) (l0 : List (S40)) (r : Int) (w : World) (hr0 : Kd.C k40 w A0 l0.length l0) (hc0 : l0.length ≤ c0) (h : route_checkFixes.f k l0 = some r) :
    Calls Try.prog 69 #[.slice A0 l0.length c0] w fun e w' => e = .returned (.int .i64 r) ∧ Below w.heap.size w w' := by
  have hu40 := Try.underlying40
  have hu36 := Try.underlying36
  have HR0 := Aside0.mk hr0
  have HC0 := Aside0.mk hc0
  clear hr0 hc0
  have HB := Aside0.mk (Below.refl w.heap.size w)
  have H : (if (l0.length : Int) > 64 then (some 2) else (route_checkFixes.l0 k l0 (l0.length : Int) 0)) = some r := h
  clear h
  by_cases c2 : (l0.length : Int) > 64
  · rw [if_pos c2] at H
    have c2b0 : decide (64 < (l0.length : Int)) = true := decide_eq_true c2
    have c2b1 : decide (64 < l0.length) = true := decide_eq_true (by omega)
    clear c2
    obtain rfl := Option.some.inj H
    go_enter Try.func69, Try.ntmps69
    go_wp2
    go_ret
    exact ⟨by first | rfl | (simp [errW_none, errW_some] <;> rfl) | (simp [*, errW_none, errW_some] <;> rfl), by repeat (first | (with_reducible first | exact HB.out | apply below_alloc | apply pw_below_drewN | apply below_drew1) | exact HB.out)⟩
  · rw [if_neg c2] at H
    have c2b0 : decide (64 < (l0.length : Int)) = false := decide_eq_false c2
    have c2b1 : decide (64 < l0.length) = false := decide_eq_false (by omega)
    clear c2
    have H' := Aside0.mk H
    clear H
    go_enter Try.func69, Try.ntmps69
    go_wp2
    go_loopg [11] k (fun kq v11 w' => ∃ (x11_1 : Int), v11 = .int .i64 x11_1 ∧ Aside0 (route_checkFixes.l0 kq l0 (l0.length : Int) x11_1 = some r) ∧ Aside0 (kq ≤ k) ∧ Aside0 (Below w.heap.size w w'))
    case atStart => exact ⟨(0), (by first | rfl | (simp; done) | (simp [*]; done)), H', ⟨Nat.le_refl _⟩, ⟨by repeat (first | (with_reducible first | exact HB.out | apply below_alloc | apply pw_below_drewN | apply below_drew1) | exact HB.out)⟩⟩
    case round =>
      clear H'
      try clear c2
      try clear c2b0
      try clear c2b1
      try clear p2
      obtain ⟨x11_1, rfl, HA, HK1, HB⟩ := hrel
      cases gk with
      | zero => exact absurd HA.out (by simp [route_checkFixes.l0])
      | succ k1 =>
        have H := HA.out
        clear HA
        simp only [route_checkFixes.l0] at H
        by_cases c3 : x11_1 < (l0.length : Int)
        · rw [if_pos c3] at H
          have c3b0 : decide (x11_1 < (l0.length : Int)) = true := decide_eq_true c3
          clear c3
          by_cases c4 : 0 ≤ x11_1
          · rw [if_pos c4] at H
            have c4b0 : decide (0 ≤ x11_1) = true := decide_eq_true c4
            clear c4
            by_cases c5 : x11_1 < (l0.length : Int)
            · rw [if_pos c5] at H
              have c5b0 : decide (x11_1 < (l0.length : Int)) = true := decide_eq_true c5
              clear c5
              replace H := Option.bind_eq_some_iff.mp H
              obtain ⟨t267, A60, H⟩ := H
              replace H : (if t267 = 0 then (route_checkFixes.l0 k1 l0 (l0.length : Int) (wrap64 (x11_1 + 1))) else (some t267)) = some r := H
              have A6 := Aside0.mk A60
              clear A60
              by_cases c7 : t267 = 0
              · rw [if_pos c7] at H
                have c7b0 : (t267 == 0) = true := beq_iff_eq.mpr c7
                have c7b1 : (t267 != 0) = false := bne_eq_false_iff_eq.mpr c7
                clear c7
                have H' := Aside0.mk H
                clear H
                have p265 : 0 ≤ (x11_1 : Int) := of_decide_eq_true (by first | (with_reducible assumption) | assumption)
                have q265 : x11_1 < (l0.length : Int) := of_decide_eq_true (by first | (with_reducible assumption) | assumption)
                obtain ⟨ad265, e265, hx265_0, hx265_1, hx265_2⟩ := at_T40 HR0.out x11_1 p265 q265
                cases e265
                replace hx265_0 := (HB.out.cell (World.block_lt_of_cell? w _ hx265_0)).trans hx265_0
                replace hx265_1 := (HB.out.cell (World.block_lt_of_cell? w _ hx265_1)).trans hx265_1
                replace hx265_2 := (HB.out.cell (World.block_lt_of_cell? w _ hx265_2)).trans hx265_2
                replace p265 := eq_true p265
                replace q265 := eq_true q265
                go_wp2_with (first | ((with_reducible refine gate_dst (N := 4) rfl ?_); refine box_event ?hg (N := 4) ?hd (cs := #[.string (⟨#[]⟩ : ByteArray), .int .i64 0, .int .i64 0]) (t := 40) ?hr ?_; (case hd => rfl); (case hg => rfl); (case hr => first | (go_simp; done) | (go_simp; rfl)); intro gb266 hg w8 hbox hb; have n0_ := Aside0.mk (below_step bel_s hb); have n1_ := Aside0.mk (hbox); have n2_ := Aside0.mk ((by rw [hg]; exact (below_size bel_s) : w.heap.size ≤ gb266)); have n3_ := Aside0.mk ((by rw [hg]; exact (below_size bel_s) : w.heap.size ≤ gb266)); clear HB; have HB := n0_; have BK266 := n1_; have GW266 := n2_; have GE266 := n3_; clear n0_ n1_ n2_ n3_; clear hb hbox hg; have hcz9_0 : w8.cell? ⟨gb266, 0, none⟩ = some (.string (⟨#[]⟩ : ByteArray)) := (blk_cell BK266.out 0).trans rfl; have hcz9_1 : w8.cell? ⟨gb266, 1, none⟩ = some (.int .i64 0) := (blk_cell BK266.out 1).trans rfl; have hcz9_2 : w8.cell? ⟨gb266, 2, none⟩ = some (.int .i64 0) := (blk_cell BK266.out 2).trans rfl; have hfz9_0 := blk_frozen BK266.out 0; have hfz9_1 := blk_frozen BK266.out 1; have hfz9_2 := blk_frozen BK266.out 2) | ((with_reducible refine gate_callee (f := 57) rfl ?_); refine goesL_ (some 17) rfl rfl Try.func57 (by kernel_rfl) rfl #[.agg #[.int .i64 ((rd_T40 l0 x11_1).f1.f0), .int .i64 ((rd_T40 l0 x11_1).f1.f1)]] rfl any_s ?_; (with_reducible refine (plane_Check.calls ((rd_T40 l0 x11_1).f1.f0) ((rd_T40 l0 x11_1).f1.f1) t267 _ A6.out).mono ?_); rintro e w10 ⟨rfl, hb⟩; refine ⟨_, rfl, ?_⟩; have n0_ := Aside0.mk (blk_below (g := gb266) (o := .cells #[.string ((rd_T40 l0 x11_1).f0), .int .i64 ((rd_T40 l0 x11_1).f1.f0), .int .i64 ((rd_T40 l0 x11_1).f1.f1)] 40 (0, 0)) (by (with_reducible repeat (first | refine blk_drewN ?_ _ | refine blk_drew ?_ | refine blk_alloc ?_ _)); refine blk_put (cs := #[.string ((rd_T40 l0 x11_1).f0), .int .i64 ((rd_T40 l0 x11_1).f1.f0), .int .i64 0]) ?_ 2 _ rfl; (with_reducible repeat (first | refine blk_drewN ?_ _ | refine blk_drew ?_ | refine blk_alloc ?_ _)); refine blk_put (cs := #[.string ((rd_T40 l0 x11_1).f0), .int .i64 0, .int .i64 0]) ?_ 1 _ rfl; (with_reducible repeat (first | refine blk_drewN ?_ _ | refine blk_drew ?_ | refine blk_alloc ?_ _)); refine blk_put (cs := #[.string (⟨#[]⟩ : ByteArray), .int .i64 0, .int .i64 0]) ?_ 0 _ rfl; (with_reducible repeat (first | refine blk_drewN ?_ _ | refine blk_drew ?_ | refine blk_alloc ?_ _)); exact BK266.out) hb); have n1_ := Aside0.mk (below_step bel_s hb); clear BK266; clear HB; have BK266 := n0_; have HB := n1_; clear n0_ n1_; (try clear hb); (try clear hb2); (try clear hk); (try clear hi)))
                go_roundg k1
                case measure => have := HK1.out; omega
                case rel => exact ⟨(wrap64 (x11_1 + 1)), (by first | rfl | (simp; done) | (simp [*]; done)), H', ⟨by have := HK1.out; omega⟩, ⟨by repeat (first | (with_reducible first | exact HB.out | apply below_alloc | apply pw_below_drewN | apply below_drew1 | refine below_set ?_ GE266.out) | exact HB.out)⟩⟩
              · rw [if_neg c7] at H
                have c7b0 : (t267 == 0) = false := beq_eq_false_iff_ne.mpr c7
                have c7b1 : (t267 != 0) = true := bne_iff_ne.mpr c7
                obtain rfl := Option.some.inj H
                have p265 : 0 ≤ (x11_1 : Int) := of_decide_eq_true (by first | (with_reducible assumption) | assumption)
                have q265 : x11_1 < (l0.length : Int) := of_decide_eq_true (by first | (with_reducible assumption) | assumption)
                obtain ⟨ad265, e265, hx265_0, hx265_1, hx265_2⟩ := at_T40 HR0.out x11_1 p265 q265
                cases e265
                replace hx265_0 := (HB.out.cell (World.block_lt_of_cell? w _ hx265_0)).trans hx265_0
                replace hx265_1 := (HB.out.cell (World.block_lt_of_cell? w _ hx265_1)).trans hx265_1
                replace hx265_2 := (HB.out.cell (World.block_lt_of_cell? w _ hx265_2)).trans hx265_2
                replace p265 := eq_true p265
                replace q265 := eq_true q265
                go_wp2_with (first | ((with_reducible refine gate_dst (N := 4) rfl ?_); refine box_event ?hg (N := 4) ?hd (cs := #[.string (⟨#[]⟩ : ByteArray), .int .i64 0, .int .i64 0]) (t := 40) ?hr ?_; (case hd => rfl); (case hg => rfl); (case hr => first | (go_simp; done) | (go_simp; rfl)); intro gb266 hg w11 hbox hb; have n0_ := Aside0.mk (below_step bel_s hb); have n1_ := Aside0.mk (hbox); have n2_ := Aside0.mk ((by rw [hg]; exact (below_size bel_s) : w.heap.size ≤ gb266)); have n3_ := Aside0.mk ((by rw [hg]; exact (below_size bel_s) : w.heap.size ≤ gb266)); clear HB; have HB := n0_; have BK266 := n1_; have GW266 := n2_; have GE266 := n3_; clear n0_ n1_ n2_ n3_; clear hb hbox hg; have hcz12_0 : w11.cell? ⟨gb266, 0, none⟩ = some (.string (⟨#[]⟩ : ByteArray)) := (blk_cell BK266.out 0).trans rfl; have hcz12_1 : w11.cell? ⟨gb266, 1, none⟩ = some (.int .i64 0) := (blk_cell BK266.out 1).trans rfl; have hcz12_2 : w11.cell? ⟨gb266, 2, none⟩ = some (.int .i64 0) := (blk_cell BK266.out 2).trans rfl; have hfz12_0 := blk_frozen BK266.out 0; have hfz12_1 := blk_frozen BK266.out 1; have hfz12_2 := blk_frozen BK266.out 2) | ((with_reducible refine gate_callee (f := 57) rfl ?_); refine goesL_ (some 17) rfl rfl Try.func57 (by kernel_rfl) rfl #[.agg #[.int .i64 ((rd_T40 l0 x11_1).f1.f0), .int .i64 ((rd_T40 l0 x11_1).f1.f1)]] rfl any_s ?_; (with_reducible refine (plane_Check.calls ((rd_T40 l0 x11_1).f1.f0) ((rd_T40 l0 x11_1).f1.f1) t267 _ A6.out).mono ?_); rintro e w13 ⟨rfl, hb⟩; refine ⟨_, rfl, ?_⟩; have n0_ := Aside0.mk (blk_below (g := gb266) (o := .cells #[.string ((rd_T40 l0 x11_1).f0), .int .i64 ((rd_T40 l0 x11_1).f1.f0), .int .i64 ((rd_T40 l0 x11_1).f1.f1)] 40 (0, 0)) (by (with_reducible repeat (first | refine blk_drewN ?_ _ | refine blk_drew ?_ | refine blk_alloc ?_ _)); refine blk_put (cs := #[.string ((rd_T40 l0 x11_1).f0), .int .i64 ((rd_T40 l0 x11_1).f1.f0), .int .i64 0]) ?_ 2 _ rfl; (with_reducible repeat (first | refine blk_drewN ?_ _ | refine blk_drew ?_ | refine blk_alloc ?_ _)); refine blk_put (cs := #[.string ((rd_T40 l0 x11_1).f0), .int .i64 0, .int .i64 0]) ?_ 1 _ rfl; (with_reducible repeat (first | refine blk_drewN ?_ _ | refine blk_drew ?_ | refine blk_alloc ?_ _)); refine blk_put (cs := #[.string (⟨#[]⟩ : ByteArray), .int .i64 0, .int .i64 0]) ?_ 0 _ rfl; (with_reducible repeat (first | refine blk_drewN ?_ _ | refine blk_drew ?_ | refine blk_alloc ?_ _)); exact BK266.out) hb); have n1_ := Aside0.mk (below_step bel_s hb); clear BK266; clear HB; have BK266 := n0_; have HB := n1_; clear n0_ n1_; (try clear hb); (try clear hb2); (try clear hk); (try clear hi)))
                go_ret
                exact ⟨by first | rfl | (simp [errW_none, errW_some] <;> rfl) | (simp [*, errW_none, errW_some] <;> rfl), by repeat (first | (with_reducible first | exact HB.out | apply below_alloc | apply pw_below_drewN | apply below_drew1 | refine below_set ?_ GE266.out) | exact HB.out)⟩
            · rw [if_neg c5] at H
              exact absurd H (by simp)
          · rw [if_neg c4] at H
            exact absurd H (by simp)
        · rw [if_neg c3] at H
          have c3b0 : decide (x11_1 < (l0.length : Int)) = false := decide_eq_false c3
          clear c3
          obtain rfl := Option.some.inj H
          go_wp2
          go_ret
          exact ⟨by first | rfl | (simp [errW_none, errW_some] <;> rfl) | (simp [*, errW_none, errW_some] <;> rfl), by repeat (first | (with_reducible first | exact HB.out | apply below_alloc | apply pw_below_drewN | apply below_drew1) | exact HB.out)⟩

/-! ### route_Length: function 25 -/
def route_Length.l0 : Nat → List (S40) → Int → Int → Option (Int × Int)
  | 0, _, _, _ => none
  | k + 1, x0, x5, x6 => if x6 < (x0.length : Int) then (if 0 ≤ (wrap64 (x6 - 1)) then (if (wrap64 (x6 - 1)) < (x0.length : Int) then (if 0 ≤ x6 then ((plane_Distance.f ((rd_T40 x0 (wrap64 (x6 - 1))).f1.f0) ((rd_T40 x0 (wrap64 (x6 - 1))).f1.f1) ((rd_T40 x0 x6).f1.f0) ((rd_T40 x0 x6).f1.f1)).bind fun bt271 => (route_Length.l0 k x0 (wrap64 (x5 + bt271.2)) (wrap64 (x6 + 1)))) else (none)) else (none)) else (none)) else (some (x5, 0))
def route_Length.f (k : Nat) (l0 : List (S40)) : Option (Int × Int) := (route_checkFixes.f k l0).bind fun t268 => (if t268 = 0 then (route_Length.l0 k l0 0 1) else (some (0, t268)))
theorem route_Length.mono_l : ∀ k, (∀ y0 y1 y2, LeO (route_Length.l0 k y0 y1 y2) (route_Length.l0 (k + 1) y0 y1 y2))
  | 0 => fun _ _ _ r h => by simp [route_Length.l0] at h
  | k + 1 => by
    have ih0 := route_Length.mono_l k
    · intro y0 y1 y2
      unfold route_Length.l0
      repeat' first
      | (with_reducible exact ih0 _ _ _)
      | (with_reducible exact route_checkFixes.mono _ _)
      | (with_reducible exact LeO.refl _)
      | (with_reducible exact LeO.none _)
      | (with_reducible refine LeO.ite ?_ ?_)
      | (with_reducible refine LeO.bind ?_ (fun _ => ?_))
      | exact ih0 _ _ _
      | exact route_checkFixes.mono _ _
      | exact LeO.none _
      | refine LeO.ite ?_ ?_
      | refine LeO.bind ?_ (fun _ => ?_)
theorem route_Length.mono : ∀ a0 k, LeO (route_Length.f k a0) (route_Length.f (k + 1) a0) := by
  intro a0 k
  have ih0 := route_Length.mono_l k
  unfold route_Length.f
  repeat' first
      | (with_reducible exact ih0 _ _ _)
      | (with_reducible exact route_checkFixes.mono _ _)
      | (with_reducible exact LeO.refl _)
      | (with_reducible exact LeO.none _)
      | (with_reducible refine LeO.ite ?_ ?_)
      | (with_reducible refine LeO.bind ?_ (fun _ => ?_))
      | exact ih0 _ _ _
      | exact route_checkFixes.mono _ _
      | exact LeO.none _
      | refine LeO.ite ?_ ?_
      | refine LeO.bind ?_ (fun _ => ?_)
def route_Length.T8 : Bool × List (List Nat × List Nat) := (true, [([], []), ([], []), ([1], [1]), ([0, 2], [0, 2]), ([3], [3]), ([4], [4]), ([], []), ([], []), ([6, 7], [6, 7]), ([8], [8]), ([9], [9]), ([5, 10], [5, 10]), ([11], [11]), ([12], [12]), ([12], [12]), ([13, 11, 0, 1, 2, 3, 4, 5, 6, 7, 8, 9, 10, 11, 12, 13], [13]), ([14, 15, 0, 1, 2, 3, 4, 5, 6, 7, 8, 9, 10, 11, 12, 13, 14, 15], [14])])
def route_Length.B8 : List Nat := [0, 0, 2, 7, 15, 31, 0, 0, 192, 448, 960, 2047, 4095, 8191, 8191, 16383, 65535]
theorem route_Length.tab8 : rtab .any (opsOf Try.f25 8) = route_Length.T8 := by kernel_rfl
theorem route_Length.bits8 : waitsOk route_Length.T8.2 route_Length.B8 = true := by kernel_rfl
set_option maxHeartbeats 8000000 in
set_option maxRecDepth 100000 in
theorem route_Length.calls (k : Nat) (A0 : Option Addr) (c0 : Nat) (l0 : List (S40)) (r1 : Int) (r2 : Int) (w : World) (hr0 : Kd.C k40 w A0 l0.length l0) (hc0 : l0.length ≤ c0) (h : route_Length.f k l0 = some (r1, r2)) :
    Calls Try.prog 25 #[.slice A0 l0.length c0] w fun e w' => e = .returned (.tuple #[.int .i64 r1, .int .i64 r2]) ∧ Below w.heap.size w w' := by
 have hu36 := Try.underlying36
 have HR0 := Aside0.mk hr0
 have HC0 := Aside0.mk hc0
 clear hr0 hc0
 have HB := Aside0.mk (Below.refl w.heap.size w)
 have H : ((route_checkFixes.f k l0).bind fun t268 => (if t268 = 0 then (route_Length.l0 k l0 0 1) else (some (0, t268)))) = some (r1, r2) := h
 clear h
 replace H := Option.bind_eq_some_iff.mp H
 obtain ⟨t268, A20, H⟩ := H
 replace H : (if t268 = 0 then (route_Length.l0 k l0 0 1) else (some (0, t268))) = some (r1, r2) := H
 have A2 := Aside0.mk A20
 clear A20
 by_cases c3 : t268 = 0
 · rw [if_pos c3] at H
   have c3b0 : (t268 == 0) = true := beq_iff_eq.mpr c3
   have c3b1 : (t268 != 0) = false := bne_eq_false_iff_eq.mpr c3
   clear c3
   have H' := Aside0.mk H
   clear H
   go_enter Try.func25, Try.ntmps25
   go_wp2_with (first | ((with_reducible refine gate_callee (f := 69) rfl ?_); refine goesL_ (some 10) rfl rfl Try.func69 (by kernel_rfl) rfl #[.slice A0 l0.length c0] rfl any_s ?_; (with_reducible refine (route_checkFixes.calls k _ _ l0 t268 _ ?side1 ?side2 A2.out).mono ?_); (case side1 => repeat (first | exact HR0.out | (with_reducible refine Kd.C_alloc ?_ _) | (with_reducible refine Kd.C_drewN ?_ _) | (with_reducible refine Kd.C_drew ?_))); (case side2 => exact HC0.out); rintro e wxfe471 ⟨rfl, hb⟩; refine ⟨_, rfl, ?_⟩; have n0_ := Aside0.mk (below_step bel_s hb); clear HB; have HB := n0_; clear n0_; (try clear hb); (try clear hb2); (try clear hk); (try clear hi)))
   go_loopg [5, 6] k (fun kq v5 v6 w' => ∃ (x5_1 : Int) (x6_1 : Int), v5 = .int .i64 x5_1 ∧ v6 = .int .i64 x6_1 ∧ Aside0 (route_Length.l0 kq l0 x5_1 x6_1 = some (r1, r2)) ∧ Aside0 (kq ≤ k) ∧ Aside0 (Below w.heap.size w w'))
   case atStart => exact ⟨(0), (1), (by first | rfl | (simp; done) | (simp [*]; done)), (by first | rfl | (simp; done) | (simp [*]; done)), H', ⟨Nat.le_refl _⟩, ⟨by repeat (first | (with_reducible first | exact HB.out | apply below_alloc | apply pw_below_drewN | apply below_drew1) | exact HB.out)⟩⟩
   case round =>
    clear H'
    (try clear c2); (try clear p2); (try clear c3); (try clear c3b0); (try clear c3b1)
    obtain ⟨x5_1, x6_1, rfl, rfl, HA, HK1, HB⟩ := hrel
    cases gk with
    | zero => exact absurd HA.out (by simp [route_Length.l0])
    | succ k1 =>
     have H := HA.out
     clear HA
     simp only [route_Length.l0] at H
     by_cases c5 : x6_1 < (l0.length : Int)
     · rw [if_pos c5] at H
       have c5b0 : decide (x6_1 < (l0.length : Int)) = true := decide_eq_true c5
       clear c5
       obtain ⟨ji6, hji6⟩ : ∃ j_ : Int, (wrap64 (x6_1 - 1)) = j_ := ⟨_, rfl⟩
       replace H : (if 0 ≤ (ji6) then (if (ji6) < (l0.length : Int) then (if 0 ≤ x6_1 then ((plane_Distance.f ((rd_T40 l0 (ji6)).f1.f0) ((rd_T40 l0 (ji6)).f1.f1) ((rd_T40 l0 x6_1).f1.f0) ((rd_T40 l0 x6_1).f1.f1)).bind fun bt271 => (route_Length.l0 k1 l0 (wrap64 (x5_1 + bt271.2)) (wrap64 (x6_1 + 1)))) else (none)) else (none)) else (none)) = some (r1, r2) := by first | (rw [hji6] at H; exact H) | (simp only [hji6] at H ⊢; exact H)
       have hji6w : (IntKind.i64.wrap (x6_1 - 1)) = ji6 := (i64_w _).trans hji6
       by_cases c7 : 0 ≤ (ji6)
       · rw [if_pos c7] at H
         have c7b0 : decide (0 ≤ (ji6)) = true := decide_eq_true c7
         clear c7
         by_cases c8 : (ji6) < (l0.length : Int)
         · rw [if_pos c8] at H
           have c8b0 : decide ((ji6) < (l0.length : Int)) = true := decide_eq_true c8
           clear c8
           by_cases c9 : 0 ≤ x6_1
           · rw [if_pos c9] at H
             have c9b0 : decide (0 ≤ x6_1) = true := decide_eq_true c9
             clear c9
             replace H := Option.bind_eq_some_iff.mp H
             obtain ⟨⟨t271, t272⟩, A100, H⟩ := H
             replace H : (route_Length.l0 k1 l0 (wrap64 (x5_1 + t272)) (wrap64 (x6_1 + 1))) = some (r1, r2) := H
             have A10 := Aside0.mk A100
             clear A100
             have H' := Aside0.mk H
             clear H
             try go_wp2
             have n0_ := Aside0.mk (below_drew1 HB.out)
             clear HB
             have HB := n0_
             clear n0_
             have p269 : 0 ≤ ((ji6) : Int) := of_decide_eq_true (by first | (with_reducible assumption) | assumption)
             have q269 : (ji6) < (l0.length : Int) := of_decide_eq_true (by first | (with_reducible assumption) | assumption)
             obtain ⟨ad269, e269, hx269_0, hx269_1, hx269_2⟩ := at_T40 HR0.out (ji6) p269 q269
             have hw269_2 := hx269_2
             have hw269_1 := hx269_1
             have hw269_0 := hx269_0
             cases e269
             replace hx269_0 := (HB.out.cell (World.block_lt_of_cell? w _ hx269_0)).trans hx269_0
             replace hx269_1 := (HB.out.cell (World.block_lt_of_cell? w _ hx269_1)).trans hx269_1
             replace hx269_2 := (HB.out.cell (World.block_lt_of_cell? w _ hx269_2)).trans hx269_2
             replace p269 := eq_true p269
             replace q269 := eq_true q269
             have p270 : 0 ≤ (x6_1 : Int) := of_decide_eq_true (by first | (with_reducible assumption) | assumption)
             have q270 : x6_1 < (l0.length : Int) := of_decide_eq_true (by first | (with_reducible assumption) | assumption)
             obtain ⟨ad270, e270, hx270_0, hx270_1, hx270_2⟩ := at_T40 HR0.out x6_1 p270 q270
             have hw270_2 := hx270_2
             have hw270_1 := hx270_1
             have hw270_0 := hx270_0
             obtain rfl : ad269 = ad270 := (by injection e270)
             replace hx270_0 := (HB.out.cell (World.block_lt_of_cell? w _ hx270_0)).trans hx270_0
             replace hx270_1 := (HB.out.cell (World.block_lt_of_cell? w _ hx270_1)).trans hx270_1
             replace hx270_2 := (HB.out.cell (World.block_lt_of_cell? w _ hx270_2)).trans hx270_2
             replace p270 := eq_true p270
             replace q270 := eq_true q270
             refine start_ (n := 17) (S := fun w' => w'.cell? (ad269.add (((ji6)).toNat * 3)) = some (.string ((rd_T40 l0 (ji6)).f0)) ∧ w'.cell? ⟨(ad269.add (((ji6)).toNat * 3)).block, (ad269.add (((ji6)).toNat * 3)).off + 1, none⟩ = some (.int .i64 ((rd_T40 l0 (ji6)).f1.f0)) ∧ w'.cell? ⟨(ad269.add (((ji6)).toNat * 3)).block, (ad269.add (((ji6)).toNat * 3)).off + 2, none⟩ = some (.int .i64 ((rd_T40 l0 (ji6)).f1.f1)) ∧ w'.cell? (ad269.add ((x6_1).toNat * 3)) = some (.string ((rd_T40 l0 x6_1).f0)) ∧ w'.cell? ⟨(ad269.add ((x6_1).toNat * 3)).block, (ad269.add ((x6_1).toNat * 3)).off + 1, none⟩ = some (.int .i64 ((rd_T40 l0 x6_1).f1.f0)) ∧ w'.cell? ⟨(ad269.add ((x6_1).toNat * 3)).block, (ad269.add ((x6_1).toNat * 3)).off + 2, none⟩ = some (.int .i64 ((rd_T40 l0 x6_1).f1.f1))) (ds := []) #[false, false, false, false, false, false, false, false, false, false, false, false, false, false, false, false, false] (by kernel_rfl) rfl rfl ⟨((HB.out.cell (World.block_lt_of_cell? w _ hw269_0)).trans hw269_0), ((HB.out.cell (World.block_lt_of_cell? w _ hw269_1)).trans hw269_1), ((HB.out.cell (World.block_lt_of_cell? w _ hw269_2)).trans hw269_2), ((HB.out.cell (World.block_lt_of_cell? w _ hw270_0)).trans hw270_0), ((HB.out.cell (World.block_lt_of_cell? w _ hw270_1)).trans hw270_1), ((HB.out.cell (World.block_lt_of_cell? w _ hw270_2)).trans hw270_2)⟩ (fun hHeld => ?_); refine with_tabW route_Length.tab8 route_Length.bits8 (fun HT_ HW_ => ?_)
             generalize wr.drew = wzc1 at HB hx269_0 hx269_1 hx269_2 hx270_0 hx270_1 hx270_2 hHeld ⊢
             refine pure_ (i := 0) (N := some 21) (v := ?_) (a' := ?_) #[true, false, false, false, false, false, false, false, false, false, false, false, false, false, false, false, false] rfl rfl (any_of HT_.out (by kernel_rfl)) (fun _ _ _ h => h) (Or.inl ⟨by rfl, ?_⟩) ?_ ?_
             rotate_left
             · intro w'
               go_simp
               with_reducible rfl
             rotate_left
             · simp only [Act.put, List.setIfInBounds_toArray, List.set_cons_zero, List.set_cons_succ, i64_w, i32_w]
               rfl
             refine pure_ (i := 1) (N := some 22) (v := ?_) (a' := ?_) #[true, true, false, false, false, false, false, false, false, false, false, false, false, false, false, false, false] rfl rfl (any_of HT_.out (by kernel_rfl)) (fun _ _ _ h => h) (Or.inl ⟨by rfl, ?_⟩) ?_ ?_
             rotate_left
             · intro w'
               go_simp
               with_reducible rfl
             rotate_left
             · simp only [Act.put, List.setIfInBounds_toArray, List.set_cons_zero, List.set_cons_succ, i64_w, i32_w]
               rfl
             refine pure_ (i := 2) (N := some 23) (v := ?_) (a' := ?_) #[true, true, true, false, false, false, false, false, false, false, false, false, false, false, false, false, false] rfl rfl (any_of HT_.out (by kernel_rfl)) (fun _ _ _ h => h) (Or.inl ⟨by rfl, ?_⟩) ?_ ?_
             rotate_left
             · intro w'
               go_simp
               with_reducible rfl
             rotate_left
             · simp only [Act.put, List.setIfInBounds_toArray, List.set_cons_zero, List.set_cons_succ, i64_w, i32_w]
               rfl
             refine pure_ (i := 3) (N := some 24) (v := ?_) (a' := ?_) #[true, true, true, true, false, false, false, false, false, false, false, false, false, false, false, false, false] rfl rfl (any_of HT_.out (by kernel_rfl)) (fun _ _ _ h => h) (Or.inl ⟨by rfl, ?_⟩) ?_ ?_
             rotate_left
             · intro w'
               go_simp
               with_reducible rfl
             rotate_left
             · simp only [Act.put, List.setIfInBounds_toArray, List.set_cons_zero, List.set_cons_succ, i64_w, i32_w]
               rfl
             refine pure_ (i := 4) (N := some 25) (v := ?_) (a' := ?_) #[true, true, true, true, true, false, false, false, false, false, false, false, false, false, false, false, false] rfl rfl (any_of HT_.out (by kernel_rfl)) (fun _ _ _ h => h) (Or.inl ⟨by rfl, ?_⟩) ?_ ?_
             rotate_left
             · intro w'
               go_simp
               with_reducible rfl
             rotate_left
             · simp only [Act.put, List.setIfInBounds_toArray, List.set_cons_zero, List.set_cons_succ, i64_w, i32_w]
               rfl
             refine pure_ (i := 6) (N := some 27) (v := ?_) (a' := ?_) #[true, true, true, true, true, false, true, false, false, false, false, false, false, false, false, false, false] rfl rfl (any_of HT_.out (by kernel_rfl)) (fun _ _ _ h => h) (Or.inl ⟨by rfl, ?_⟩) ?_ ?_
             rotate_left
             · intro w'
               go_simp
               with_reducible rfl
             rotate_left
             · simp only [Act.put, List.setIfInBounds_toArray, List.set_cons_zero, List.set_cons_succ, i64_w, i32_w]
               rfl
             refine pure_ (i := 7) (N := some 28) (v := ?_) (a' := ?_) #[true, true, true, true, true, false, true, true, false, false, false, false, false, false, false, false, false] rfl rfl (any_of HT_.out (by kernel_rfl)) (fun _ _ _ h => h) (Or.inl ⟨by rfl, ?_⟩) ?_ ?_
             rotate_left
             · intro w'
               go_simp
               with_reducible rfl
             rotate_left
             · simp only [Act.put, List.setIfInBounds_toArray, List.set_cons_zero, List.set_cons_succ, i64_w, i32_w]
               rfl
             refine pure_ (i := 8) (N := some 29) (v := ?_) (a' := ?_) #[true, true, true, true, true, false, true, true, true, false, false, false, false, false, false, false, false] rfl rfl (any_of HT_.out (by kernel_rfl)) (fun _ _ _ h => h) (Or.inl ⟨by rfl, ?_⟩) ?_ ?_
             rotate_left
             · intro w'
               go_simp
               with_reducible rfl
             rotate_left
             · simp only [Act.put, List.setIfInBounds_toArray, List.set_cons_zero, List.set_cons_succ, i64_w, i32_w]
               rfl
             refine pure_ (i := 9) (N := some 30) (v := ?_) (a' := ?_) #[true, true, true, true, true, false, true, true, true, true, false, false, false, false, false, false, false] rfl rfl (any_of HT_.out (by kernel_rfl)) (fun _ _ _ h => h) (Or.inl ⟨by rfl, ?_⟩) ?_ ?_
             rotate_left
             · intro w'
               go_simp
               with_reducible rfl
             rotate_left
             · simp only [Act.put, List.setIfInBounds_toArray, List.set_cons_zero, List.set_cons_succ, i64_w, i32_w]
               rfl
             refine take_ (i := 5) (N := some 26) (v := ?_) (a' := ?_) #[true, true, true, true, true, true, true, true, true, true, false, false, false, false, false, false, false] rfl rfl (take_ofW HT_.out HW_.out (by kernel_rfl)) (fun _ _ _ h => h) (Or.inl ⟨by rfl, ?_⟩) hHeld ?_ ?_
             rotate_left
             · rintro w' ⟨s0, s1, s2, s3, s4, s5⟩
               go_simp
               with_reducible rfl
             rotate_left
             · simp only [Act.put, List.setIfInBounds_toArray, List.set_cons_zero, List.set_cons_succ, i64_w, i32_w]
               rfl
             refine take_ (i := 10) (N := some 31) (v := ?_) (a' := ?_) #[true, true, true, true, true, true, true, true, true, true, true, false, false, false, false, false, false] rfl rfl (take_ofW HT_.out HW_.out (by kernel_rfl)) (fun _ _ _ h => h) (Or.inl ⟨by rfl, ?_⟩) hHeld ?_ ?_
             rotate_left
             · rintro w' ⟨s0, s1, s2, s3, s4, s5⟩
               go_simp
               with_reducible rfl
             rotate_left
             · simp only [Act.put, List.setIfInBounds_toArray, List.set_cons_zero, List.set_cons_succ, i64_w, i32_w]
               rfl
             refine one_ (i := 11) (N := some 32) #[true, true, true, true, true, true, true, true, true, true, true, true, false, false, false, false, false] rfl rfl (one_of HT_.out (by kernel_rfl)) (by decide) (fun K hK => ?_)
             refine goes_ Try.func56 (by kernel_rfl) rfl #[.agg #[.int .i64 ((rd_T40 l0 (ji6)).f1.f0), .int .i64 ((rd_T40 l0 (ji6)).f1.f1)], .agg #[.int .i64 ((rd_T40 l0 x6_1).f1.f0), .int .i64 ((rd_T40 l0 x6_1).f1.f1)]] (by rfl) rfl rfl (by (try simp only [List.map_toArray, List.map_cons, List.map_nil]); first | done | (simp only [hji6]; rfl) | rfl | (simp only [List.length_drop, List.length_take]; rfl)) ?_
             with_reducible refine (plane_Distance.calls ((rd_T40 l0 (ji6)).f1.f0) ((rd_T40 l0 (ji6)).f1.f1) ((rd_T40 l0 x6_1).f1.f0) ((rd_T40 l0 x6_1).f1.f1) t271 t272 _ A10.out).mono ?_
             rintro e wzc2 ⟨rfl, hb⟩
             refine ⟨_, rfl, ?_⟩
             have n0_ := Aside0.mk (below_step bel_s hb)
             clear HB
             have HB := n0_
             clear n0_
             (try clear hb)
             (try clear hb2)
             (try clear hk)
             (try clear hi)
             refine hK.out _ _ ⟨((HB.out.cell (World.block_lt_of_cell? w _ hw269_0)).trans hw269_0), ((HB.out.cell (World.block_lt_of_cell? w _ hw269_1)).trans hw269_1), ((HB.out.cell (World.block_lt_of_cell? w _ hw269_2)).trans hw269_2), ((HB.out.cell (World.block_lt_of_cell? w _ hw270_0)).trans hw270_0), ((HB.out.cell (World.block_lt_of_cell? w _ hw270_1)).trans hw270_1), ((HB.out.cell (World.block_lt_of_cell? w _ hw270_2)).trans hw270_2)⟩ (fun hHeld => ?_)
             clear hK K
             refine norm_ (a' := ?_) ?_ ?_
             rotate_left
             · show Act.put _ (some 32) _ = _
               simp only [Act.put, List.setIfInBounds_toArray, List.set_cons_zero, List.set_cons_succ, i64_w, i32_w]
               rfl
             refine pure_ (i := 12) (N := some 20) (v := ?_) (a' := ?_) #[true, true, true, true, true, true, true, true, true, true, true, true, true, false, false, false, false] rfl rfl (any_of HT_.out (by kernel_rfl)) (fun _ _ _ h => h) (Or.inl ⟨by rfl, ?_⟩) ?_ ?_
             rotate_left
             · intro w'
               go_simp
               with_reducible rfl
             rotate_left
             · simp only [Act.put, List.setIfInBounds_toArray, List.set_cons_zero, List.set_cons_succ, i64_w, i32_w]
               rfl
             refine pure_ (i := 13) (N := some 33) (v := ?_) (a' := ?_) #[true, true, true, true, true, true, true, true, true, true, true, true, true, true, false, false, false] rfl rfl (any_of HT_.out (by kernel_rfl)) (fun _ _ _ h => h) (Or.inl ⟨by rfl, ?_⟩) ?_ ?_
             rotate_left
             · intro w'
               go_simp
               with_reducible rfl
             rotate_left
             · simp only [Act.put, List.setIfInBounds_toArray, List.set_cons_zero, List.set_cons_succ, i64_w, i32_w]
               rfl
             refine pure_ (i := 14) (N := some 34) (v := ?_) (a' := ?_) #[true, true, true, true, true, true, true, true, true, true, true, true, true, true, true, false, false] rfl rfl (any_of HT_.out (by kernel_rfl)) (fun _ _ _ h => h) (Or.inl ⟨by rfl, ?_⟩) ?_ ?_
             rotate_left
             · intro w'
               go_simp
               with_reducible rfl
             rotate_left
             · simp only [Act.put, List.setIfInBounds_toArray, List.set_cons_zero, List.set_cons_succ, i64_w, i32_w]
               rfl
             refine pure_ (i := 15) (N := some 7) (v := ?_) (a' := ?_) #[true, true, true, true, true, true, true, true, true, true, true, true, true, true, true, true, false] rfl rfl (any_of HT_.out (by kernel_rfl)) (fun _ _ _ h => h) (Or.inl ⟨by rfl, ?_⟩) ?_ ?_
             rotate_left
             · intro w'
               go_simp
               with_reducible rfl
             rotate_left
             · simp only [Act.put, List.setIfInBounds_toArray, List.set_cons_zero, List.set_cons_succ, i64_w, i32_w]
               rfl
             refine pure_ (i := 16) (N := some 8) (v := ?_) (a' := ?_) #[true, true, true, true, true, true, true, true, true, true, true, true, true, true, true, true, true] rfl rfl (any_of HT_.out (by kernel_rfl)) (fun _ _ _ h => h) (Or.inl ⟨by rfl, ?_⟩) ?_ ?_
             rotate_left
             · intro w'
               go_simp
               with_reducible rfl
             rotate_left
             · simp only [Act.put, List.setIfInBounds_toArray, List.set_cons_zero, List.set_cons_succ, i64_w, i32_w]
               rfl
             refine done_ (done_of HT_.out (by kernel_rfl)) ?_
             try go_wp2
             first | go_roundg k1 | (subst hji6; go_roundg k1)
             case measure => have := HK1.out; omega
             case rel => exact ⟨(wrap64 (x5_1 + t272)), (wrap64 (x6_1 + 1)), (by first | rfl | (simp; done) | (simp [*]; done)), (by first | rfl | (simp; done) | (simp [*]; done)), H', ⟨by have := HK1.out; omega⟩, ⟨by repeat (first | (with_reducible first | exact HB.out | apply below_alloc | apply pw_below_drewN | apply below_drew1) | exact HB.out)⟩⟩
           · rw [if_neg c9] at H
             exact absurd H (by simp)
         · rw [if_neg c8] at H
           exact absurd H (by simp)
       · rw [if_neg c7] at H
         exact absurd H (by simp)
     · rw [if_neg c5] at H
       have c5b0 : decide (x6_1 < (l0.length : Int)) = false := decide_eq_false c5
       clear c5
       simp only [Option.some.injEq, Prod.mk.injEq] at H
       obtain ⟨rfl, rfl⟩ := H
       go_wp2
       go_ret2
       exact ⟨by first | rfl | (simp [errW_none, errW_some] <;> rfl) | (simp [*, errW_none, errW_some] <;> rfl), by repeat (first | (with_reducible first | exact HB.out | apply below_alloc | apply pw_below_drewN | apply below_drew1) | exact HB.out)⟩
 · rw [if_neg c3] at H
   have c3b0 : (t268 == 0) = false := beq_eq_false_iff_ne.mpr c3
   have c3b1 : (t268 != 0) = true := bne_iff_ne.mpr c3
   simp only [Option.some.injEq, Prod.mk.injEq] at H
   obtain ⟨rfl, rfl⟩ := H
   go_enter Try.func25, Try.ntmps25
   go_wp2_with (first | ((with_reducible refine gate_callee (f := 69) rfl ?_); refine goesL_ (some 10) rfl rfl Try.func69 (by kernel_rfl) rfl #[.slice A0 l0.length c0] rfl any_s ?_; (with_reducible refine (route_checkFixes.calls k _ _ l0 t268 _ ?side1 ?side2 A2.out).mono ?_); (case side1 => repeat (first | exact HR0.out | (with_reducible refine Kd.C_alloc ?_ _) | (with_reducible refine Kd.C_drewN ?_ _) | (with_reducible refine Kd.C_drew ?_))); (case side2 => exact HC0.out); rintro e wxfe471 ⟨rfl, hb⟩; refine ⟨_, rfl, ?_⟩; have n0_ := Aside0.mk (below_step bel_s hb); clear HB; have HB := n0_; clear n0_; (try clear hb); (try clear hb2); (try clear hk); (try clear hi)))
   go_ret2
   exact ⟨by first | rfl | (simp [errW_none, errW_some] <;> rfl) | (simp [*, errW_none, errW_some] <;> rfl), by repeat (first | (with_reducible first | exact HB.out | apply below_alloc | apply pw_below_drewN | apply below_drew1) | exact HB.out)⟩

/-! ### skywaykeep1_sample: function 47 -/
def skywaykeep1_sample.f  : Option ((List (S40)) × (List (S48))) := some ((([(⟨(⟨#[65]⟩ : ByteArray), (⟨0, 0⟩ : S36)⟩ : S40), (⟨(⟨#[66]⟩ : ByteArray), (⟨3000, 4000⟩ : S36)⟩ : S40), (⟨(⟨#[67]⟩ : ByteArray), (⟨6000, 8000⟩ : S36)⟩ : S40), (⟨(⟨#[68]⟩ : ByteArray), (⟨6000, 9000⟩ : S36)⟩ : S40)] : List (S40))), (([(⟨(⟨#[85, 76, 49]⟩ : ByteArray), (([(⟨#[65]⟩ : ByteArray), (⟨#[66]⟩ : ByteArray), (⟨#[67]⟩ : ByteArray), (⟨#[68]⟩ : ByteArray)] : List ByteArray))⟩ : S48)] : List (S48))))
set_option maxHeartbeats 8000000 in
set_option maxRecDepth 100000 in
theorem skywaykeep1_sample.calls  (r1 : List (S40)) (r2 : List (S48)) (w : World) (h : skywaykeep1_sample.f  = some (r1, r2)) :
    Calls Try.prog 47 #[] w fun e w' => ∃ v0_ v1_ : Value, e = .returned (.agg #[v0_, v1_]) ∧ Kd.R k40 40 w' w.heap.size (fun k_ => (w.heap.size ≤ k_)) v0_ r1 ∧ Kd.N k48 48 w' w.heap.size (fun k_ => (w.heap.size ≤ k_) ∧ some k_ ≠ (v0_ : Value).ownBlock) v1_ r2 ∧ Below w.heap.size w w' := by
 have hu25 := Try.underlying25
 have hu40 := Try.underlying40
 have hu36 := Try.underlying36
 have hu48 := Try.underlying48
 have HB := Aside0.mk (Below.refl w.heap.size w)
 have H : (some ((([(⟨(⟨#[65]⟩ : ByteArray), (⟨0, 0⟩ : S36)⟩ : S40), (⟨(⟨#[66]⟩ : ByteArray), (⟨3000, 4000⟩ : S36)⟩ : S40), (⟨(⟨#[67]⟩ : ByteArray), (⟨6000, 8000⟩ : S36)⟩ : S40), (⟨(⟨#[68]⟩ : ByteArray), (⟨6000, 9000⟩ : S36)⟩ : S40)] : List (S40))), (([(⟨(⟨#[85, 76, 49]⟩ : ByteArray), (([(⟨#[65]⟩ : ByteArray), (⟨#[66]⟩ : ByteArray), (⟨#[67]⟩ : ByteArray), (⟨#[68]⟩ : ByteArray)] : List ByteArray))⟩ : S48)] : List (S48))))) = some (r1, r2) := h
 clear h
 obtain ⟨y274, hy274⟩ : ∃ y_ : List (S40), y_ = (([(⟨(⟨#[65]⟩ : ByteArray), (⟨0, 0⟩ : S36)⟩ : S40), (⟨(⟨#[66]⟩ : ByteArray), (⟨3000, 4000⟩ : S36)⟩ : S40), (⟨(⟨#[67]⟩ : ByteArray), (⟨6000, 8000⟩ : S36)⟩ : S40), (⟨(⟨#[68]⟩ : ByteArray), (⟨6000, 9000⟩ : S36)⟩ : S40)] : List (S40))) := ⟨_, rfl⟩
 replace H : (some (y274, (([(⟨(⟨#[85, 76, 49]⟩ : ByteArray), (([(⟨#[65]⟩ : ByteArray), (⟨#[66]⟩ : ByteArray), (⟨#[67]⟩ : ByteArray), (⟨#[68]⟩ : ByteArray)] : List ByteArray))⟩ : S48)] : List (S48))))) = some (r1, r2) := by first | (rw [hy274]; with_reducible exact H) | (have H2_ := (Option.bind_some _ _).symm.trans H; rw [hy274]; with_reducible exact H2_) | (have H2_ := (Option.bind_some _ _).symm.trans H; with_reducible exact H2_) | with_reducible exact H | (rw [hy274]; exact H) | exact H
 have Ny274 := Aside0.mk hy274
 clear hy274
 obtain ⟨y277, hy277⟩ : ∃ y_ : List ByteArray, y_ = (([(⟨#[65]⟩ : ByteArray), (⟨#[66]⟩ : ByteArray), (⟨#[67]⟩ : ByteArray), (⟨#[68]⟩ : ByteArray)] : List ByteArray)) := ⟨_, rfl⟩
 replace H : (some (y274, (([(⟨(⟨#[85, 76, 49]⟩ : ByteArray), y277⟩ : S48)] : List (S48))))) = some (r1, r2) := by first | (rw [hy277]; with_reducible exact H) | (have H2_ := (Option.bind_some _ _).symm.trans H; rw [hy277]; with_reducible exact H2_) | (have H2_ := (Option.bind_some _ _).symm.trans H; with_reducible exact H2_) | with_reducible exact H | (rw [hy277]; exact H) | exact H
 have Ny277 := Aside0.mk hy277
 clear hy277
 obtain ⟨y280, hy280⟩ : ∃ y_ : List (S48), y_ = (([(⟨(⟨#[85, 76, 49]⟩ : ByteArray), y277⟩ : S48)] : List (S48))) := ⟨_, rfl⟩
 replace H : (some (y274, y280)) = some (r1, r2) := by first | (rw [hy280]; with_reducible exact H) | (have H2_ := (Option.bind_some _ _).symm.trans H; rw [hy280]; with_reducible exact H2_) | (have H2_ := (Option.bind_some _ _).symm.trans H; with_reducible exact H2_) | with_reducible exact H | (rw [hy280]; exact H) | exact H
 have Ny280 := Aside0.mk hy280
 clear hy280
 simp only [Option.some.injEq, Prod.mk.injEq] at H
 obtain ⟨rfl, rfl⟩ := H
 go_enter Try.func47, Try.ntmps47
 go_wp2_with (first | ((with_reducible refine gate_dst (N := 0) rfl ?_); refine box_event ?hg (N := 0) ?hd (cs := #[.slice none 0 0, .slice none 0 0]) (t := 25) ?hr ?_; (case hd => rfl); (case hg => rfl); (case hr => first | (go_simp; done) | (go_simp; rfl)); intro gb273 hg w1 hbox hb; have n0_ := Aside0.mk (below_step bel_s hb); have n1_ := Aside0.mk (hbox); have n2_ := Aside0.mk ((by rw [hg]; exact (below_size bel_s) : w.heap.size ≤ gb273)); have n3_ := Aside0.mk ((by rw [hg]; exact (below_size bel_s) : w.heap.size ≤ gb273)); clear HB; have HB := n0_; have BK273 := n1_; have GW273 := n2_; have GE273 := n3_; clear n0_ n1_ n2_ n3_; clear hb hbox hg) | ((with_reducible refine gate_dst (N := 8) rfl ?_); refine Kd.R_lit k40 _ 40 ?hg (N := 8) ?hd (xs := ([(⟨(⟨#[65]⟩ : ByteArray), (⟨0, 0⟩ : S36)⟩ : S40), (⟨(⟨#[66]⟩ : ByteArray), (⟨3000, 4000⟩ : S36)⟩ : S40), (⟨(⟨#[67]⟩ : ByteArray), (⟨6000, 8000⟩ : S36)⟩ : S40), (⟨(⟨#[68]⟩ : ByteArray), (⟨6000, 9000⟩ : S36)⟩ : S40)] : List (S40))) (inner := [.string (⟨#[65]⟩ : ByteArray), .int .i64 0, .int .i64 0, .string (⟨#[66]⟩ : ByteArray), .int .i64 3000, .int .i64 4000, .string (⟨#[67]⟩ : ByteArray), .int .i64 6000, .int .i64 8000, .string (⟨#[68]⟩ : ByteArray), .int .i64 6000, .int .i64 9000]) (ok := fun _ => True) (okp := fun _ => True) ?hr ?hp (fun _ hk => hk) trivial (Below.refl _ _) (Nat.le_refl _) (by simp) ?_; (case hd => rfl); (case hg => rfl); (case hr => first | (go_simp; done) | (go_simp; rfl)); (case hp => exact (Reps.c3 (show Kd.M k40 _ _ _ (⟨(⟨#[65]⟩ : ByteArray), (⟨0, 0⟩ : S36)⟩ : S40) [.string (⟨#[65]⟩ : ByteArray), .int .i64 0, .int .i64 0] from (k40_mkM _ _ _ (⟨(⟨#[65]⟩ : ByteArray), (⟨0, 0⟩ : S36)⟩ : S40) )) (Reps.c3 (show Kd.M k40 _ _ _ (⟨(⟨#[66]⟩ : ByteArray), (⟨3000, 4000⟩ : S36)⟩ : S40) [.string (⟨#[66]⟩ : ByteArray), .int .i64 3000, .int .i64 4000] from (k40_mkM _ _ _ (⟨(⟨#[66]⟩ : ByteArray), (⟨3000, 4000⟩ : S36)⟩ : S40) )) (Reps.c3 (show Kd.M k40 _ _ _ (⟨(⟨#[67]⟩ : ByteArray), (⟨6000, 8000⟩ : S36)⟩ : S40) [.string (⟨#[67]⟩ : ByteArray), .int .i64 6000, .int .i64 8000] from (k40_mkM _ _ _ (⟨(⟨#[67]⟩ : ByteArray), (⟨6000, 8000⟩ : S36)⟩ : S40) )) (Reps.c3 (show Kd.M k40 _ _ _ (⟨(⟨#[68]⟩ : ByteArray), (⟨6000, 9000⟩ : S36)⟩ : S40) [.string (⟨#[68]⟩ : ByteArray), .int .i64 6000, .int .i64 9000] from (k40_mkM _ _ _ (⟨(⟨#[68]⟩ : ByteArray), (⟨6000, 9000⟩ : S36)⟩ : S40) )) (Reps.none _ _)))))); intro v275 w2 ho3 hb hg_ hnew_; clear hg_ hnew_; (first | rw [← Ny274.out] at ho3 | (simp only [Int.reduceToNat] at ho3; rw [← Ny274.out] at ho3)); have n0_ := Aside0.mk (Kd.R_lower (Kd.R_newM (M := fun k_ => (w.heap.size ≤ k_)) ho3 (below_size bel_s) (fun k_ h_ => h_)) (below_size bel_s)); have n1_ := Aside0.mk (blk_below (g := gb273) (o := .cells #[.slice none 0 0, .slice none 0 0] 25 (0, 0)) blk_s hb); have n2_ := Aside0.mk (below_step bel_s hb); clear BK273; clear HB; have HO276 := n0_; have BK273 := n1_; have HB := n2_; clear n0_ n1_ n2_; clear hb ho3) | ((with_reducible refine gate_dst (N := 9) rfl ?_); refine Kd.R_lit Kd.string _ 9 ?hg (N := 9) ?hd (xs := ([(⟨#[65]⟩ : ByteArray), (⟨#[66]⟩ : ByteArray), (⟨#[67]⟩ : ByteArray), (⟨#[68]⟩ : ByteArray)] : List ByteArray)) (inner := [.string (⟨#[65]⟩ : ByteArray), .string (⟨#[66]⟩ : ByteArray), .string (⟨#[67]⟩ : ByteArray), .string (⟨#[68]⟩ : ByteArray)]) (ok := fun _ => True) (okp := fun _ => True) ?hr ?hp (fun _ hk => hk) trivial (Below.refl _ _) (Nat.le_refl _) (by simp) ?_; (case hd => rfl); (case hg => rfl); (case hr => first | (go_simp; done) | (go_simp; rfl)); (case hp => exact (Reps.one (show Kd.M Kd.string _ _ _ (⟨#[65]⟩ : ByteArray) [.string (⟨#[65]⟩ : ByteArray)] from rfl) (Reps.one (show Kd.M Kd.string _ _ _ (⟨#[66]⟩ : ByteArray) [.string (⟨#[66]⟩ : ByteArray)] from rfl) (Reps.one (show Kd.M Kd.string _ _ _ (⟨#[67]⟩ : ByteArray) [.string (⟨#[67]⟩ : ByteArray)] from rfl) (Reps.one (show Kd.M Kd.string _ _ _ (⟨#[68]⟩ : ByteArray) [.string (⟨#[68]⟩ : ByteArray)] from rfl) (Reps.none _ _)))))); intro v278 w4 ho5 hb hg_ hnew_; clear hg_ hnew_; (first | rw [← Ny277.out] at ho5 | (simp only [Int.reduceToNat] at ho5; rw [← Ny277.out] at ho5)); have n0_ := Aside0.mk (Kd.R_below (by (with_reducible repeat (first | apply Kd.R_alloc | apply Kd.R_drewN | apply Kd.R_drew)); exact HO276.out) hb); have n1_ := Aside0.mk (Kd.R_lower (Kd.R_newM (M := fun k_ => (w.heap.size ≤ k_)) ho5 (below_size bel_s) (fun k_ h_ => h_)) (below_size bel_s)); have n2_ := Aside0.mk (blk_below (g := gb273) (o := .cells #[.slice none 0 0, .slice none 0 0] 25 (0, 0)) blk_s hb); have n3_ := Aside0.mk (below_step bel_s hb); clear HO276; clear BK273; clear HB; have HO276 := n0_; have HO279 := n1_; have BK273 := n2_; have HB := n3_; clear n0_ n1_ n2_ n3_; clear hb ho5; obtain ⟨Ao6, co6, eo6⟩ := Kd.R_slice HO279.out; subst eo6) | ((with_reducible refine gate_dst (N := 11) rfl ?_); refine Kd.N_lit k48 _ 48 ?hg (N' := 11) ?hd (xs := ([(⟨(⟨#[85, 76, 49]⟩ : ByteArray), y277⟩ : S48)] : List (S48))) (inner := [.string (⟨#[85, 76, 49]⟩ : ByteArray), .slice Ao6 y277.length co6]) (ok := (fun k_ => (w.heap.size ≤ k_) ∧ some k_ ≠ (v275 : Value).ownBlock ∧ k_ ≠ gb273)) (okp := (fun k_ => (w.heap.size ≤ k_) ∧ some k_ ≠ (v275 : Value).ownBlock ∧ k_ ≠ gb273)) ?hr ?hp (fun _ hk => hk) ((show ∀ k_, w4.heap.size ≤ k_ → (fun k_ => (w.heap.size ≤ k_) ∧ some k_ ≠ (v275 : Value).ownBlock ∧ k_ ≠ gb273) k_ from fun k_ hk => ⟨(Nat.le_trans (below_size bel_s) hk), Kd.fresh' (Kd.R_lt (by (with_reducible repeat (first | apply Kd.R_alloc | apply Kd.R_drewN | apply Kd.R_drew)); exact HO276.out)) k_ hk, Kd.freshB (g := gb273) (o := .cells #[.slice none 0 0, .slice none 0 0] 25 (0, 0)) blk_s k_ hk⟩) _ (Nat.le_refl _)) (Below.refl _ _) (Nat.le_refl _) (by simp) ?_; (case hd => rfl); (case hg => rfl); (case hr => first | (go_simp; done) | (go_simp; rfl)); (case hp => exact (Reps.c2 (show Kd.FK k48 _ _ (⟨(⟨#[85, 76, 49]⟩ : ByteArray), y277⟩ : S48) [.string (⟨#[85, 76, 49]⟩ : ByteArray), .slice Ao6 y277.length co6] from (k48_mkF _ _ (⟨(⟨#[85, 76, 49]⟩ : ByteArray), y277⟩ : S48) (Kd.R_reads' (Kd.R_mono (ok' := (fun k_ => (w.heap.size ≤ k_) ∧ some k_ ≠ (v275 : Value).ownBlock ∧ k_ ≠ gb273)) (Kd.R_types (Kd.R_apart' (HO279.out) (Kd.R_typed HO276.out) (by decide)) BK273.out (by decide)) (fun k_ hk => ⟨hk.1.1.1, ⟨hk.1.2, hk.2⟩⟩))).2.1 (Kd.R_F (Kd.R_mono (ok' := (fun k_ => (w.heap.size ≤ k_) ∧ some k_ ≠ (v275 : Value).ownBlock ∧ k_ ≠ gb273)) (Kd.R_types (Kd.R_apart' (HO279.out) (Kd.R_typed HO276.out) (by decide)) BK273.out (by decide)) (fun k_ hk => ⟨hk.1.1.1, ⟨hk.1.2, hk.2⟩⟩))))) (Reps.none _ _))); intro v281 w7 ho8 hb hg_ hnew_; clear hg_ hnew_; (first | rw [← Ny280.out] at ho8 | (simp only [Int.reduceToNat] at ho8; rw [← Ny280.out] at ho8)); have n0_ := Aside0.mk (Kd.R_below (by (with_reducible repeat (first | apply Kd.R_alloc | apply Kd.R_drewN | apply Kd.R_drew)); exact HO276.out) hb); have n1_ := Aside0.mk (Kd.N_lower ho8 (below_size bel_s)); have n2_ := Aside0.mk (blk_below (g := gb273) (o := .cells #[.slice none 0 0, .slice none 0 0] 25 (0, 0)) blk_s hb); have n3_ := Aside0.mk (below_step bel_s hb); clear HO276; clear BK273; clear HB; clear HO279; have HO276 := n0_; have HO282 := n1_; have BK273 := n2_; have HB := n3_; clear n0_ n1_ n2_ n3_; clear hb ho8; obtain ⟨Ao9, co9, eo9⟩ := Kd.N_slice HO282.out; subst eo9; obtain ⟨Ao10, co10, eo10⟩ := Kd.R_slice HO276.out; subst eo10; have hcz11_0 : w7.cell? ⟨gb273, 0, none⟩ = some (.slice none 0 0) := (blk_cell BK273.out 0).trans rfl; have hcz11_1 : w7.cell? ⟨gb273, 1, none⟩ = some (.slice none 0 0) := (blk_cell BK273.out 1).trans rfl; have hfz11_0 := blk_frozen BK273.out 0; have hfz11_1 := blk_frozen BK273.out 1))
 refine bodyPost_ret (results_cell_row rfl _ _ gb273 25 #[.slice Ao10 y274.length co10, .slice Ao9 y280.length co9] (0, 0) _ rfl (by (with_reducible repeat (first | refine blk_drewN ?_ _ | refine blk_drew ?_ | refine blk_alloc ?_ _)); refine blk_put (cs := #[.slice Ao10 y274.length co10, .slice none 0 0]) ?_ 1 _ rfl; (with_reducible repeat (first | refine blk_drewN ?_ _ | refine blk_drew ?_ | refine blk_alloc ?_ _)); refine blk_put (cs := #[.slice none 0 0, .slice none 0 0]) ?_ 0 _ rfl; (with_reducible repeat (first | refine blk_drewN ?_ _ | refine blk_drew ?_ | refine blk_alloc ?_ _)); exact BK273.out) Try.underlying25 rfl (by kernel_rfl)) rfl ?_
 exact ⟨_, _, by first | rfl | (simp [errW_none, errW_some] <;> rfl) | (simp [*, errW_none, errW_some] <;> rfl), by (with_reducible repeat (first | apply Kd.R_alloc | apply Kd.R_drewN | apply Kd.R_drew)); exact Kd.R_mono (Kd.R_far (p := ⟨gb273, 1, none⟩) (Kd.R_far (p := ⟨gb273, 0, none⟩) (Kd.R_types HO276.out BK273.out (by decide)) (fun _ hk => hk.2) (.slice Ao10 y274.length co10)) (fun _ hk => hk.2) (.slice Ao9 y280.length co9)) (fun _ hk => hk.1.1), by (with_reducible repeat (first | apply Kd.N_alloc | apply Kd.N_drewN | apply Kd.N_drew)); exact Kd.N_mono (Kd.N_far (p := ⟨gb273, 1, none⟩) (Kd.N_far (p := ⟨gb273, 0, none⟩) (Kd.N_mono HO282.out (fun k_ hk => (⟨hk, hk.2.2⟩ : _ ∧ k_ ≠ gb273))) (fun _ hk => hk.2) (.slice Ao10 y274.length co10)) (fun _ hk => hk.2) (.slice Ao9 y280.length co9)) (fun _ hk => ⟨hk.1.1, hk.1.2.1⟩), by repeat (first | (with_reducible first | exact HB.out | apply below_alloc | apply pw_below_drewN | apply below_drew1 | refine below_set ?_ GE273.out) | exact HB.out)⟩

/-! ### skywaykeep1_flight: function 62 -/
def skywaykeep1_flight.f  : Option (ByteArray × ByteArray × ByteArray × ByteArray × Int × Int × Int × List ByteArray) := some ((⟨#[66, 65, 49, 50]⟩ : ByteArray), (⟨#[65, 51, 50, 48]⟩ : ByteArray), (⟨#[65]⟩ : ByteArray), (⟨#[68]⟩ : ByteArray), 100, 100, 1000, (([(⟨#[85, 76, 49]⟩ : ByteArray), (⟨#[67]⟩ : ByteArray)] : List ByteArray)))
set_option maxHeartbeats 8000000 in
set_option maxRecDepth 100000 in
theorem skywaykeep1_flight.calls  (r1 : ByteArray) (r2 : ByteArray) (r3 : ByteArray) (r4 : ByteArray) (r5 : Int) (r6 : Int) (r7 : Int) (r8 : List ByteArray) (w : World) (h : skywaykeep1_flight.f  = some (r1, r2, r3, r4, r5, r6, r7, r8)) :
    Calls Try.prog 62 #[] w fun e w' => ∃ v7_ : Value, e = .returned (.agg #[.string r1, .string r2, .string r3, .string r4, .int .i64 r5, .int .i64 r6, .int .i64 r7, v7_]) ∧ Kd.R Kd.string 9 w' w.heap.size (fun _ => True) v7_ r8 ∧ Below w.heap.size w w' := by
 have hu51 := Try.underlying51
 have HB := Aside0.mk (Below.refl w.heap.size w)
 have H : (some ((⟨#[66, 65, 49, 50]⟩ : ByteArray), (⟨#[65, 51, 50, 48]⟩ : ByteArray), (⟨#[65]⟩ : ByteArray), (⟨#[68]⟩ : ByteArray), 100, 100, 1000, (([(⟨#[85, 76, 49]⟩ : ByteArray), (⟨#[67]⟩ : ByteArray)] : List ByteArray)))) = some (r1, r2, r3, r4, r5, r6, r7, r8) := h
 clear h
 obtain ⟨y284, hy284⟩ : ∃ y_ : List ByteArray, y_ = (([(⟨#[85, 76, 49]⟩ : ByteArray), (⟨#[67]⟩ : ByteArray)] : List ByteArray)) := ⟨_, rfl⟩
 replace H : (some ((⟨#[66, 65, 49, 50]⟩ : ByteArray), (⟨#[65, 51, 50, 48]⟩ : ByteArray), (⟨#[65]⟩ : ByteArray), (⟨#[68]⟩ : ByteArray), 100, 100, 1000, y284)) = some (r1, r2, r3, r4, r5, r6, r7, r8) := by first | (rw [hy284]; with_reducible exact H) | (have H2_ := (Option.bind_some _ _).symm.trans H; rw [hy284]; with_reducible exact H2_) | (have H2_ := (Option.bind_some _ _).symm.trans H; with_reducible exact H2_) | with_reducible exact H | (rw [hy284]; exact H) | exact H
 have Ny284 := Aside0.mk hy284
 clear hy284
 simp only [Option.some.injEq, Prod.mk.injEq] at H
 obtain ⟨rfl, rfl, rfl, rfl, rfl, rfl, rfl, rfl⟩ := H
 go_enter Try.func62, Try.ntmps62
 go_wp2_with (first | ((with_reducible refine gate_dst (N := 0) rfl ?_); refine box_event ?hg (N := 0) ?hd (cs := #[.string (⟨#[]⟩ : ByteArray), .string (⟨#[]⟩ : ByteArray), .string (⟨#[]⟩ : ByteArray), .string (⟨#[]⟩ : ByteArray), .int .i64 0, .int .i64 0, .int .i64 0, .slice none 0 0]) (t := 51) ?hr ?_; (case hd => rfl); (case hg => rfl); (case hr => first | (go_simp; done) | (go_simp; rfl)); intro gb283 hg w1 hbox hb; have n0_ := Aside0.mk (below_step bel_s hb); have n1_ := Aside0.mk (hbox); have n2_ := Aside0.mk ((by rw [hg]; exact (below_size bel_s) : w.heap.size ≤ gb283)); have n3_ := Aside0.mk ((by rw [hg]; exact (below_size bel_s) : w.heap.size ≤ gb283)); clear HB; have HB := n0_; have BK283 := n1_; have GW283 := n2_; have GE283 := n3_; clear n0_ n1_ n2_ n3_; clear hb hbox hg) | ((with_reducible refine gate_dst (N := 1) rfl ?_); refine Kd.R_lit Kd.string _ 9 ?hg (N := 1) ?hd (xs := ([(⟨#[85, 76, 49]⟩ : ByteArray), (⟨#[67]⟩ : ByteArray)] : List ByteArray)) (inner := [.string (⟨#[85, 76, 49]⟩ : ByteArray), .string (⟨#[67]⟩ : ByteArray)]) (ok := fun _ => True) (okp := fun _ => True) ?hr ?hp (fun _ hk => hk) trivial (Below.refl _ _) (Nat.le_refl _) (by simp) ?_; (case hd => rfl); (case hg => rfl); (case hr => first | (go_simp; done) | (go_simp; rfl)); (case hp => exact (Reps.one (show Kd.M Kd.string _ _ _ (⟨#[85, 76, 49]⟩ : ByteArray) [.string (⟨#[85, 76, 49]⟩ : ByteArray)] from rfl) (Reps.one (show Kd.M Kd.string _ _ _ (⟨#[67]⟩ : ByteArray) [.string (⟨#[67]⟩ : ByteArray)] from rfl) (Reps.none _ _)))); intro v285 w2 ho3 hb hg_ hnew_; clear hg_ hnew_; (first | rw [← Ny284.out] at ho3 | (simp only [Int.reduceToNat] at ho3; rw [← Ny284.out] at ho3)); have n0_ := Aside0.mk (Kd.R_lower ho3 (below_size bel_s)); have n1_ := Aside0.mk (blk_below (g := gb283) (o := .cells #[.string (⟨#[]⟩ : ByteArray), .string (⟨#[]⟩ : ByteArray), .string (⟨#[]⟩ : ByteArray), .string (⟨#[]⟩ : ByteArray), .int .i64 0, .int .i64 0, .int .i64 0, .slice none 0 0] 51 (0, 0)) blk_s hb); have n2_ := Aside0.mk (below_step bel_s hb); clear BK283; clear HB; have HO286 := n0_; have BK283 := n1_; have HB := n2_; clear n0_ n1_ n2_; clear hb ho3; obtain ⟨Ao4, co4, eo4⟩ := Kd.R_slice HO286.out; subst eo4; have hcz5_0 : w2.cell? ⟨gb283, 0, none⟩ = some (.string (⟨#[]⟩ : ByteArray)) := (blk_cell BK283.out 0).trans rfl; have hcz5_1 : w2.cell? ⟨gb283, 1, none⟩ = some (.string (⟨#[]⟩ : ByteArray)) := (blk_cell BK283.out 1).trans rfl; have hcz5_2 : w2.cell? ⟨gb283, 2, none⟩ = some (.string (⟨#[]⟩ : ByteArray)) := (blk_cell BK283.out 2).trans rfl; have hcz5_3 : w2.cell? ⟨gb283, 3, none⟩ = some (.string (⟨#[]⟩ : ByteArray)) := (blk_cell BK283.out 3).trans rfl; have hcz5_4 : w2.cell? ⟨gb283, 4, none⟩ = some (.int .i64 0) := (blk_cell BK283.out 4).trans rfl; have hcz5_5 : w2.cell? ⟨gb283, 5, none⟩ = some (.int .i64 0) := (blk_cell BK283.out 5).trans rfl; have hcz5_6 : w2.cell? ⟨gb283, 6, none⟩ = some (.int .i64 0) := (blk_cell BK283.out 6).trans rfl; have hcz5_7 : w2.cell? ⟨gb283, 7, none⟩ = some (.slice none 0 0) := (blk_cell BK283.out 7).trans rfl; have hfz5_0 := blk_frozen BK283.out 0; have hfz5_1 := blk_frozen BK283.out 1; have hfz5_2 := blk_frozen BK283.out 2; have hfz5_3 := blk_frozen BK283.out 3; have hfz5_4 := blk_frozen BK283.out 4; have hfz5_5 := blk_frozen BK283.out 5; have hfz5_6 := blk_frozen BK283.out 6; have hfz5_7 := blk_frozen BK283.out 7))
 refine bodyPost_ret (results_cell_row rfl _ _ gb283 51 #[.string (⟨#[66, 65, 49, 50]⟩ : ByteArray), .string (⟨#[65, 51, 50, 48]⟩ : ByteArray), .string (⟨#[65]⟩ : ByteArray), .string (⟨#[68]⟩ : ByteArray), .int .i64 100, .int .i64 100, .int .i64 1000, .slice Ao4 y284.length co4] (0, 0) _ rfl (by (with_reducible repeat (first | refine blk_drewN ?_ _ | refine blk_drew ?_ | refine blk_alloc ?_ _)); refine blk_put (cs := #[.string (⟨#[66, 65, 49, 50]⟩ : ByteArray), .string (⟨#[65, 51, 50, 48]⟩ : ByteArray), .string (⟨#[65]⟩ : ByteArray), .string (⟨#[68]⟩ : ByteArray), .int .i64 100, .int .i64 100, .int .i64 1000, .slice none 0 0]) ?_ 7 _ rfl; (with_reducible repeat (first | refine blk_drewN ?_ _ | refine blk_drew ?_ | refine blk_alloc ?_ _)); refine blk_put (cs := #[.string (⟨#[66, 65, 49, 50]⟩ : ByteArray), .string (⟨#[65, 51, 50, 48]⟩ : ByteArray), .string (⟨#[65]⟩ : ByteArray), .string (⟨#[68]⟩ : ByteArray), .int .i64 100, .int .i64 100, .int .i64 0, .slice none 0 0]) ?_ 6 _ rfl; (with_reducible repeat (first | refine blk_drewN ?_ _ | refine blk_drew ?_ | refine blk_alloc ?_ _)); refine blk_put (cs := #[.string (⟨#[66, 65, 49, 50]⟩ : ByteArray), .string (⟨#[65, 51, 50, 48]⟩ : ByteArray), .string (⟨#[65]⟩ : ByteArray), .string (⟨#[68]⟩ : ByteArray), .int .i64 100, .int .i64 0, .int .i64 0, .slice none 0 0]) ?_ 5 _ rfl; (with_reducible repeat (first | refine blk_drewN ?_ _ | refine blk_drew ?_ | refine blk_alloc ?_ _)); refine blk_put (cs := #[.string (⟨#[66, 65, 49, 50]⟩ : ByteArray), .string (⟨#[65, 51, 50, 48]⟩ : ByteArray), .string (⟨#[65]⟩ : ByteArray), .string (⟨#[68]⟩ : ByteArray), .int .i64 0, .int .i64 0, .int .i64 0, .slice none 0 0]) ?_ 4 _ rfl; (with_reducible repeat (first | refine blk_drewN ?_ _ | refine blk_drew ?_ | refine blk_alloc ?_ _)); refine blk_put (cs := #[.string (⟨#[66, 65, 49, 50]⟩ : ByteArray), .string (⟨#[65, 51, 50, 48]⟩ : ByteArray), .string (⟨#[65]⟩ : ByteArray), .string (⟨#[]⟩ : ByteArray), .int .i64 0, .int .i64 0, .int .i64 0, .slice none 0 0]) ?_ 3 _ rfl; (with_reducible repeat (first | refine blk_drewN ?_ _ | refine blk_drew ?_ | refine blk_alloc ?_ _)); refine blk_put (cs := #[.string (⟨#[66, 65, 49, 50]⟩ : ByteArray), .string (⟨#[65, 51, 50, 48]⟩ : ByteArray), .string (⟨#[]⟩ : ByteArray), .string (⟨#[]⟩ : ByteArray), .int .i64 0, .int .i64 0, .int .i64 0, .slice none 0 0]) ?_ 2 _ rfl; (with_reducible repeat (first | refine blk_drewN ?_ _ | refine blk_drew ?_ | refine blk_alloc ?_ _)); refine blk_put (cs := #[.string (⟨#[66, 65, 49, 50]⟩ : ByteArray), .string (⟨#[]⟩ : ByteArray), .string (⟨#[]⟩ : ByteArray), .string (⟨#[]⟩ : ByteArray), .int .i64 0, .int .i64 0, .int .i64 0, .slice none 0 0]) ?_ 1 _ rfl; (with_reducible repeat (first | refine blk_drewN ?_ _ | refine blk_drew ?_ | refine blk_alloc ?_ _)); refine blk_put (cs := #[.string (⟨#[]⟩ : ByteArray), .string (⟨#[]⟩ : ByteArray), .string (⟨#[]⟩ : ByteArray), .string (⟨#[]⟩ : ByteArray), .int .i64 0, .int .i64 0, .int .i64 0, .slice none 0 0]) ?_ 0 _ rfl; (with_reducible repeat (first | refine blk_drewN ?_ _ | refine blk_drew ?_ | refine blk_alloc ?_ _)); exact BK283.out) Try.underlying51 rfl (by kernel_rfl)) rfl ?_
 exact ⟨_, by first | rfl | (simp [errW_none, errW_some] <;> rfl) | (simp [*, errW_none, errW_some] <;> rfl), by (with_reducible repeat (first | apply Kd.R_alloc | apply Kd.R_drewN | apply Kd.R_drew)); exact Kd.R_mono (Kd.R_far (p := ⟨gb283, 7, none⟩) (Kd.R_far (p := ⟨gb283, 6, none⟩) (Kd.R_far (p := ⟨gb283, 5, none⟩) (Kd.R_far (p := ⟨gb283, 4, none⟩) (Kd.R_far (p := ⟨gb283, 3, none⟩) (Kd.R_far (p := ⟨gb283, 2, none⟩) (Kd.R_far (p := ⟨gb283, 1, none⟩) (Kd.R_far (p := ⟨gb283, 0, none⟩) (Kd.R_types HO286.out BK283.out (by decide)) (fun _ hk => hk.2) (.string (⟨#[66, 65, 49, 50]⟩ : ByteArray))) (fun _ hk => hk.2) (.string (⟨#[65, 51, 50, 48]⟩ : ByteArray))) (fun _ hk => hk.2) (.string (⟨#[65]⟩ : ByteArray))) (fun _ hk => hk.2) (.string (⟨#[68]⟩ : ByteArray))) (fun _ hk => hk.2) (.int .i64 100)) (fun _ hk => hk.2) (.int .i64 100)) (fun _ hk => hk.2) (.int .i64 1000)) (fun _ hk => hk.2) (.slice Ao4 y284.length co4)) (fun _ hk => trivial), by repeat (first | (with_reducible first | exact HB.out | apply below_alloc | apply pw_below_drewN | apply below_drew1 | refine below_set ?_ GE283.out) | exact HB.out)⟩

/-! ### skywaykeep1_routeWorks: function 23 -/
def skywaykeep1_routeWorks.f (k : Nat)  : Option (Bool) := (skywaykeep1_flight.f).bind fun bt287 => ((skywaykeep1_sample.f).bind fun bt297 => ((route_Expand.f k bt287.1 bt287.2.1 bt287.2.2.1 bt287.2.2.2.1 bt287.2.2.2.2.1 bt287.2.2.2.2.2.1 bt287.2.2.2.2.2.2.1 bt287.2.2.2.2.2.2.2 bt297.1 bt297.2).bind fun bt303 => ((route_Length.f k bt303.1).bind fun bt307 => (if bt303.2 = 0 then (if (bt303.1.length : Int) = 4 then (if 1 < (bt303.1.length : Int) then (if ((rd_T40 bt303.1 1).f0).toList = ([66] : List UInt8) then (if bt307.2 = 0 then (some (bt307.1 == 11000)) else (some false)) else (some false)) else (none)) else (some false)) else (some false)))))
theorem skywaykeep1_routeWorks.mono : ∀ k, LeO (skywaykeep1_routeWorks.f k ) (skywaykeep1_routeWorks.f (k + 1) ) := by
  intro  k
  unfold skywaykeep1_routeWorks.f
  repeat' first
      | (with_reducible exact route_Expand.mono _ _ _ _ _ _ _ _ _ _ _)
      | (with_reducible exact route_Length.mono _ _)
      | (with_reducible exact LeO.refl _)
      | (with_reducible exact LeO.none _)
      | (with_reducible refine LeO.ite ?_ ?_)
      | (with_reducible refine LeO.bind ?_ (fun _ => ?_))
      | exact route_Expand.mono _ _ _ _ _ _ _ _ _ _ _
      | exact route_Length.mono _ _
      | exact LeO.none _
      | refine LeO.ite ?_ ?_
      | refine LeO.bind ?_ (fun _ => ?_)
set_option maxHeartbeats 8000000 in
set_option maxRecDepth 100000 in
theorem skywaykeep1_routeWorks.calls (k : Nat)  (r : Bool) (w : World) (h : skywaykeep1_routeWorks.f k  = some r) :
    Calls Try.prog 23 #[] w fun e w' => e = .returned (.bool r) ∧ Below w.heap.size w w' := by
 have HB := Aside0.mk (Below.refl w.heap.size w)
 have H : ((skywaykeep1_flight.f).bind fun bt287 => ((skywaykeep1_sample.f).bind fun bt297 => ((route_Expand.f k bt287.1 bt287.2.1 bt287.2.2.1 bt287.2.2.2.1 bt287.2.2.2.2.1 bt287.2.2.2.2.2.1 bt287.2.2.2.2.2.2.1 bt287.2.2.2.2.2.2.2 bt297.1 bt297.2).bind fun bt303 => ((route_Length.f k bt303.1).bind fun bt307 => (if bt303.2 = 0 then (if (bt303.1.length : Int) = 4 then (if 1 < (bt303.1.length : Int) then (if ((rd_T40 bt303.1 1).f0).toList = ([66] : List UInt8) then (if bt307.2 = 0 then (some (bt307.1 == 11000)) else (some false)) else (some false)) else (none)) else (some false)) else (some false)))))) = some r := h
 clear h
 replace H := Option.bind_eq_some_iff.mp H
 obtain ⟨⟨t287, t288, t289, t290, t291, t292, t293, t294⟩, A10, H⟩ := H
 replace H : ((skywaykeep1_sample.f).bind fun bt297 => ((route_Expand.f k t287 t288 t289 t290 t291 t292 t293 t294 bt297.1 bt297.2).bind fun bt303 => ((route_Length.f k bt303.1).bind fun bt307 => (if bt303.2 = 0 then (if (bt303.1.length : Int) = 4 then (if 1 < (bt303.1.length : Int) then (if ((rd_T40 bt303.1 1).f0).toList = ([66] : List UInt8) then (if bt307.2 = 0 then (some (bt307.1 == 11000)) else (some false)) else (some false)) else (none)) else (some false)) else (some false))))) = some r := H
 have A1 := Aside0.mk A10
 clear A10
 replace H := Option.bind_eq_some_iff.mp H
 obtain ⟨⟨t297, t300⟩, A20, H⟩ := H
 replace H : ((route_Expand.f k t287 t288 t289 t290 t291 t292 t293 t294 t297 t300).bind fun bt303 => ((route_Length.f k bt303.1).bind fun bt307 => (if bt303.2 = 0 then (if (bt303.1.length : Int) = 4 then (if 1 < (bt303.1.length : Int) then (if ((rd_T40 bt303.1 1).f0).toList = ([66] : List UInt8) then (if bt307.2 = 0 then (some (bt307.1 == 11000)) else (some false)) else (some false)) else (none)) else (some false)) else (some false)))) = some r := H
 have A2 := Aside0.mk A20
 clear A20
 replace H := Option.bind_eq_some_iff.mp H
 obtain ⟨⟨t303, t306⟩, A30, H⟩ := H
 replace H : ((route_Length.f k t303).bind fun bt307 => (if t306 = 0 then (if (t303.length : Int) = 4 then (if 1 < (t303.length : Int) then (if ((rd_T40 t303 1).f0).toList = ([66] : List UInt8) then (if bt307.2 = 0 then (some (bt307.1 == 11000)) else (some false)) else (some false)) else (none)) else (some false)) else (some false))) = some r := H
 have A3 := Aside0.mk A30
 clear A30
 replace H := Option.bind_eq_some_iff.mp H
 obtain ⟨⟨t307, t308⟩, A40, H⟩ := H
 replace H : (if t306 = 0 then (if (t303.length : Int) = 4 then (if 1 < (t303.length : Int) then (if ((rd_T40 t303 1).f0).toList = ([66] : List UInt8) then (if t308 = 0 then (some (t307 == 11000)) else (some false)) else (some false)) else (none)) else (some false)) else (some false)) = some r := H
 have A4 := Aside0.mk A40
 clear A40
 refine Or.elim (Classical.em (t306 = 0)) (fun c5 => ?p2_) (fun c5 => ?n2_)
 case' p2_ =>
  rw [if_pos c5] at H
  have c5b0 : (t306 == 0) = true := beq_iff_eq.mpr c5
  have c5b1 : (t306 != 0) = false := bne_eq_false_iff_eq.mpr c5
  clear c5
  refine Or.elim (Classical.em ((t303.length : Int) = 4)) (fun c6 => ?p3_) (fun c6 => ?n3_)
  case' p3_ =>
   rw [if_pos c6] at H
   have c6b0 : ((t303.length : Int) == 4) = true := beq_iff_eq.mpr c6
   have c6b1 : ((t303.length : Int) != 4) = false := bne_eq_false_iff_eq.mpr c6
   clear c6
   refine Or.elim (Classical.em (1 < (t303.length : Int))) (fun c7 => ?p4_) (fun c7 => ?n4_)
   case' p4_ =>
    rw [if_pos c7] at H
    have c7b0 : decide (1 < (t303.length : Int)) = true := decide_eq_true c7
    have c7b1 : decide (1 < t303.length) = true := decide_eq_true (by omega)
    clear c7
    refine Or.elim (Classical.em (((rd_T40 t303 1).f0).toList = ([66] : List UInt8))) (fun c8 => ?p5_) (fun c8 => ?n5_)
    case' p5_ =>
     rw [if_pos c8] at H
     have c8b0 : (((rd_T40 t303 1).f0).toList == ([66] : List UInt8)) = true := beq_iff_eq.mpr c8
     have c8b1 : (((rd_T40 t303 1).f0).toList != ([66] : List UInt8)) = false := bne_eq_false_iff_eq.mpr c8
     clear c8
     refine Or.elim (Classical.em (t308 = 0)) (fun c9 => ?p6_) (fun c9 => ?n6_)
     case' p6_ =>
      rw [if_pos c9] at H
      have c9b0 : (t308 == 0) = true := beq_iff_eq.mpr c9
      have c9b1 : (t308 != 0) = false := bne_eq_false_iff_eq.mpr c9
      clear c9
     case' n6_ =>
      rw [if_neg c9] at H
      have c9b0 : (t308 == 0) = false := beq_eq_false_iff_ne.mpr c9
      have c9b1 : (t308 != 0) = true := bne_iff_ne.mpr c9
    case' n5_ =>
     rw [if_neg c8] at H
     have c8b0 : (((rd_T40 t303 1).f0).toList == ([66] : List UInt8)) = false := beq_eq_false_iff_ne.mpr c8
     have c8b1 : (((rd_T40 t303 1).f0).toList != ([66] : List UInt8)) = true := bne_iff_ne.mpr c8
   case' n4_ =>
    rw [if_neg c7] at H
    exact absurd H (by simp)
  case' n3_ =>
   rw [if_neg c6] at H
   have c6b0 : ((t303.length : Int) == 4) = false := beq_eq_false_iff_ne.mpr c6
   have c6b1 : ((t303.length : Int) != 4) = true := bne_iff_ne.mpr c6
 case' n2_ =>
  rw [if_neg c5] at H
  have c5b0 : (t306 == 0) = false := beq_eq_false_iff_ne.mpr c5
  have c5b1 : (t306 != 0) = true := bne_iff_ne.mpr c5
 all_goals
  obtain rfl := Option.some.inj H
  go_enter Try.func23, Try.ntmps23
  go_wp2_with (first | ((with_reducible refine gate_callee (f := 62) rfl ?_); refine goesL_ (some 6) rfl rfl Try.func62 (by kernel_rfl) rfl #[] rfl any_s ?_; (with_reducible refine (skywaykeep1_flight.calls  t287 t288 t289 t290 t291 t292 t293 t294 _ A1.out).mono ?_); rintro e wx819f1 ⟨v295, rfl, hox819f1, hb⟩; refine ⟨_, rfl, ?_⟩; have n0_ := Aside0.mk (Kd.R_lower hox819f1 (below_size bel_s)); have n1_ := Aside0.mk (below_step bel_s hb); clear HB; have HO296 := n0_; have HB := n1_; clear n0_ n1_; (try clear hb); (try clear hb2); (try clear hk); (try clear hi); (try clear hox819f1)) | ((with_reducible refine gate_callee (f := 47) rfl ?_); refine goesL_ (some 7) rfl rfl Try.func47 (by kernel_rfl) rfl #[] rfl any_s ?_; (with_reducible refine (skywaykeep1_sample.calls  t297 t300 _ A2.out).mono ?_); rintro e wx06ef1 ⟨v298, v301, rfl, hox819f1, hox06ef1, hb⟩; refine ⟨_, rfl, ?_⟩; have n0_ := Aside0.mk (Kd.R_below (by (with_reducible repeat (first | apply Kd.R_alloc | apply Kd.R_drewN | apply Kd.R_drew)); exact HO296.out) hb); have n1_ := Aside0.mk (Kd.R_lower (Kd.R_mono (ok' := fun k_ => True) hox819f1 (fun _ hk_ => trivial)) (below_size bel_s)); have n2_ := Aside0.mk (Kd.N_lower (Kd.N_mono (ok' := fun k_ => some k_ ≠ (v298 : Value).ownBlock ∧ some k_ ≠ (v295 : Value).ownBlock) hox06ef1 (fun k_ hk_ => ⟨hk_.2, (Kd.fresh' (Kd.R_lt (by (with_reducible repeat (first | apply Kd.R_alloc | apply Kd.R_drewN | apply Kd.R_drew)); exact HO296.out)) k_ hk_.1)⟩)) (below_size bel_s)); have n3_ := Aside0.mk (below_step bel_s hb); clear HO296; clear HB; have HO296 := n0_; have HO299 := n1_; have HO302 := n2_; have HB := n3_; clear n0_ n1_ n2_ n3_; (try clear hb); (try clear hb2); (try clear hk); (try clear hi); (try clear hox819f1); (try clear hox06ef1); obtain ⟨Aox06ef1, cox06ef1, eox06ef1⟩ := Kd.R_slice HO296.out; subst eox06ef1; obtain ⟨Aox06ef2, cox06ef2, eox06ef2⟩ := Kd.R_slice HO299.out; subst eox06ef2; obtain ⟨Aox06ef3, cox06ef3, eox06ef3⟩ := Kd.N_slice HO302.out; subst eox06ef3) | ((with_reducible refine gate_callee (f := 24) rfl ?_); refine goesL_ (some 8) rfl rfl Try.func24 (by kernel_rfl) rfl #[.agg #[.string t287, .string t288, .string t289, .string t290, .int .i64 t291, .int .i64 t292, .int .i64 t293, .slice Aox06ef1 t294.length cox06ef1], .agg #[.slice Aox06ef2 t297.length cox06ef2, .slice Aox06ef3 t300.length cox06ef3]] rfl any_s ?_; (with_reducible refine (route_Expand.calls k t287 t288 t289 t290 t291 t292 t293 (fun k_ => some k_ = (.slice Aox06ef1 t294.length cox06ef1 : Value).ownBlock) _ _ t294 _ _ t297 _ _ t300 t303 t306 _ ?side1 ?side2 ?side3 ?side4 ?side5 A3.out).mono ?_); (case side1 => exact Kd.R_V (Kd.R_tight rfl (Kd.R_apart' (Kd.R_apart' (HO296.out) (Kd.R_typed HO299.out) (by decide)) (Kd.N_typed HO302.out) (by decide)))); (case side2 => repeat (first | exact (Kd.R_reads' HO299.out).2.2 | (with_reducible refine Kd.C_alloc ?_ _) | (with_reducible refine Kd.C_drewN ?_ _) | (with_reducible refine Kd.C_drew ?_))); (case side3 => exact (Kd.R_reads' HO299.out).2.1); (case side4 => repeat (first | exact (Kd.N_reads' HO302.out).2.2 | (with_reducible refine Kd.C_alloc ?_ _) | (with_reducible refine Kd.C_drewN ?_ _) | (with_reducible refine Kd.C_drew ?_))); (case side5 => exact (Kd.N_reads' HO302.out).2.1); rintro e wxa7e21 ⟨v304, rfl, hox819f1, hb⟩; refine ⟨_, rfl, ?_⟩; have n0_ := Aside0.mk (Kd.R_below (by (with_reducible repeat (first | apply Kd.R_alloc | apply Kd.R_drewN | apply Kd.R_drew)); exact HO296.out) hb); have n1_ := Aside0.mk (Kd.R_elder' (by (with_reducible repeat (first | apply Kd.R_alloc | apply Kd.R_drewN | apply Kd.R_drew)); exact HO299.out) (Kd.R_base hox819f1) hb); have n2_ := Aside0.mk (Kd.N_elder' (by (with_reducible repeat (first | apply Kd.N_alloc | apply Kd.N_drewN | apply Kd.N_drew)); exact HO302.out) (Kd.R_base hox819f1) hb); have n3_ := Aside0.mk (Kd.R_lower (Kd.R_new' (Kd.R_mono (ok' := fun k_ => True) hox819f1 (fun _ hk_ => trivial)) (Kd.R_lt (by (with_reducible repeat (first | apply Kd.R_alloc | apply Kd.R_drewN | apply Kd.R_drew)); exact HO299.out))) (below_size bel_s)); have n4_ := Aside0.mk (below_step bel_s hb); clear HO296; clear HO299; clear HO302; clear HB; have HO296 := n0_; have HO299 := n1_; have HO302 := n2_; have HO305 := n3_; have HB := n4_; clear n0_ n1_ n2_ n3_ n4_; (try clear hb); (try clear hb2); (try clear hk); (try clear hi); (try clear hox819f1); obtain ⟨Aoxa7e21, coxa7e21, eoxa7e21⟩ := Kd.R_slice HO305.out; subst eoxa7e21) | ((with_reducible refine gate_callee (f := 25) rfl ?_); refine goesL_ (some 13) rfl rfl Try.func25 (by kernel_rfl) rfl #[.slice Aoxa7e21 t303.length coxa7e21] rfl any_s ?_; (with_reducible refine (route_Length.calls k _ _ t303 t307 t308 _ ?side1 ?side2 A4.out).mono ?_); (case side1 => repeat (first | exact (Kd.R_reads' HO305.out).2.2 | (with_reducible refine Kd.C_alloc ?_ _) | (with_reducible refine Kd.C_drewN ?_ _) | (with_reducible refine Kd.C_drew ?_))); (case side2 => exact (Kd.R_reads' HO305.out).2.1); rintro e wx36851 ⟨rfl, hb⟩; refine ⟨_, rfl, ?_⟩; have n0_ := Aside0.mk (Kd.R_below (by (with_reducible repeat (first | apply Kd.R_alloc | apply Kd.R_drewN | apply Kd.R_drew)); exact HO296.out) hb); have n1_ := Aside0.mk (Kd.R_below (by (with_reducible repeat (first | apply Kd.R_alloc | apply Kd.R_drewN | apply Kd.R_drew)); exact HO299.out) hb); have n2_ := Aside0.mk (Kd.N_below (by (with_reducible repeat (first | apply Kd.N_alloc | apply Kd.N_drewN | apply Kd.N_drew)); exact HO302.out) hb); have n3_ := Aside0.mk (Kd.R_below (by (with_reducible repeat (first | apply Kd.R_alloc | apply Kd.R_drewN | apply Kd.R_drew)); exact HO305.out) hb); have n4_ := Aside0.mk (below_step bel_s hb); clear HO296; clear HO299; clear HO302; clear HO305; clear HB; have HO296 := n0_; have HO299 := n1_; have HO302 := n2_; have HO305 := n3_; have HB := n4_; clear n0_ n1_ n2_ n3_ n4_; (try clear hb); (try clear hb2); (try clear hk); (try clear hi); have p309 : 0 ≤ (1 : Int) := (by omega); have q309 : 1 < (t303.length : Int) := of_decide_eq_true (by first | (with_reducible assumption) | assumption); obtain ⟨ad309, e309, hx309_0, hx309_1, hx309_2⟩ := at_T40 (Kd.R_reads' HO305.out).2.2 1 p309 q309; cases e309; (try simp only [show (1 : Int).toNat = 1 from rfl, Nat.reduceMul, Nat.reduceEqDiff, Go.Addr.add, ↓reduceIte] at hx309_0); (try simp only [show (1 : Int).toNat = 1 from rfl, Nat.reduceMul, Nat.reduceEqDiff, Go.Addr.add, ↓reduceIte] at hx309_1); (try simp only [show (1 : Int).toNat = 1 from rfl, Nat.reduceMul, Nat.reduceEqDiff, Go.Addr.add, ↓reduceIte] at hx309_2); have qi309 : (1 < t303.length) = True := eq_true (by omega); (try rw [show ((1 : Int)).toNat = 1 from rfl] at hx309_0); (try rw [show 1 * 3 = 3 from rfl] at hx309_0); (try rw [show ((1 : Int)).toNat = 1 from rfl] at hx309_1); (try rw [show 1 * 3 = 3 from rfl] at hx309_1); (try rw [show ((1 : Int)).toNat = 1 from rfl] at hx309_2); (try rw [show 1 * 3 = 3 from rfl] at hx309_2); replace p309 := eq_true p309; replace q309 := eq_true q309) | ((with_reducible refine gate_callee (f := 25) rfl ?_); refine goesL_ (some 13) rfl rfl Try.func25 (by kernel_rfl) rfl #[.slice Aoxa7e21 t303.length coxa7e21] rfl any_s ?_; (with_reducible refine (route_Length.calls k _ _ t303 t307 t308 _ ?side1 ?side2 A4.out).mono ?_); (case side1 => repeat (first | exact (Kd.R_reads' HO305.out).2.2 | (with_reducible refine Kd.C_alloc ?_ _) | (with_reducible refine Kd.C_drewN ?_ _) | (with_reducible refine Kd.C_drew ?_))); (case side2 => exact (Kd.R_reads' HO305.out).2.1); rintro e wx816f1 ⟨rfl, hb⟩; refine ⟨_, rfl, ?_⟩; have n0_ := Aside0.mk (Kd.R_below (by (with_reducible repeat (first | apply Kd.R_alloc | apply Kd.R_drewN | apply Kd.R_drew)); exact HO296.out) hb); have n1_ := Aside0.mk (Kd.R_below (by (with_reducible repeat (first | apply Kd.R_alloc | apply Kd.R_drewN | apply Kd.R_drew)); exact HO299.out) hb); have n2_ := Aside0.mk (Kd.N_below (by (with_reducible repeat (first | apply Kd.N_alloc | apply Kd.N_drewN | apply Kd.N_drew)); exact HO302.out) hb); have n3_ := Aside0.mk (Kd.R_below (by (with_reducible repeat (first | apply Kd.R_alloc | apply Kd.R_drewN | apply Kd.R_drew)); exact HO305.out) hb); have n4_ := Aside0.mk (below_step bel_s hb); clear HO296; clear HO299; clear HO302; clear HO305; clear HB; have HO296 := n0_; have HO299 := n1_; have HO302 := n2_; have HO305 := n3_; have HB := n4_; clear n0_ n1_ n2_ n3_ n4_; (try clear hb); (try clear hb2); (try clear hk); (try clear hi)))
  go_ret
  exact ⟨by first | rfl | (simp [errW_none, errW_some] <;> rfl) | (simp [*, errW_none, errW_some] <;> rfl), by repeat (first | (with_reducible first | exact HB.out | apply below_alloc | apply pw_below_drewN | apply below_drew1) | exact HB.out)⟩

end Go.Proofs.Ytbpbpojnfhhbjaa.PRouteLength
