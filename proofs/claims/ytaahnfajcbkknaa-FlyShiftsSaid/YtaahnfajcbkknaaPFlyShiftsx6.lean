/- Made by a program of this session (wip/tools/myprint.py, over the kit's printer): that the Go functions answer as the Lean functions printed beside them. -/
import Derived.Test.YtaahnfajcbkknaaPFlyShiftsx0
import Derived.Test.YtaahnfajcbkknaaPFlyShiftsx1
import Derived.Test.YtaahnfajcbkknaaPFlyShiftsx2
import Derived.Test.YtaahnfajcbkknaaPFlyShiftsx3
import Derived.Test.YtaahnfajcbkknaaPFlyShiftsx5
namespace Go.Proofs.Ytaahnfajcbkknaa.PFlyShifts
open Go.RowKit Go.Proofs.YtaahnfajcbkknaaW.PrintWords Go.Proofs.YtaahnfajcbkknaaW.PrintLast Go.Proofs.YtaahnfajcbkknaaW.PrintMore
attribute [local go_sem] max2_int min2_int max_two min_two max_three min_three max_four min_four   -- for this text's walks alone
set_option linter.unusedVariables false
set_option linter.unusedSimpArgs false

attribute [local go_sem high] eqA49
/-! ### api_Node: function 57 -/
def api_Node.f (l0 : List (S49)) : Option ((List (S49))) := (some (([] : List (S49)) : List (S49))).bind fun y158 => (if y158.length + l0.length < 4398046511104 then (some (y158 ++ l0)) else (none))
theorem api_Node.nil_ (A_ : Option Addr) (n_ c_ : Nat) (w_ : World) : (binOp .eql 47 (.slice A_ n_ c_) (.slice none 0 0)).run Try.prog w_ = .ok (.bool A_.isNone) w_ := by
  have hu := Try.underlying47
  have hd : Op.maxDepth = (Op.maxDepth - 1) + 1 := rfl
  cases A_ <;> (simp only [binOp, Op.equal]; rw [hd]; simp [Op.equalIn, Sem.run_bind, run_underlying hu])
attribute [local go_sem high] api_Node.nil_
set_option maxHeartbeats 8000000 in
set_option maxRecDepth 100000 in
theorem api_Node.calls (A0 : Option Addr) (c0 : Nat) (l0 : List (S49)) (r : List (S49)) (w : World) (hr0 : Kd.C k49 w A0 l0.length l0) (hc0 : l0.length ≤ c0) (h : api_Node.f l0 = some r) :
    Calls Try.prog 57 #[.slice A0 l0.length c0] w fun e w' => ∃ v0_ : Value, e = .returned (v0_) ∧ Kd.R k49 49 w' w.heap.size (fun _ => True) v0_ r ∧ Below w.heap.size w w' := by
  have hu_ := Try.underlying47
  obtain rfl | ⟨ad0_, hA0_⟩ : A0 = none ∨ ∃ ad_, A0 = some ad_ := by
    cases A0 with
    | none => exact Or.inl rfl
    | some a_ => exact Or.inr ⟨a_, rfl⟩
  · have hl0_ : l0 = [] := by
      cases l0 with
      | nil => rfl
      | cons x_ xs_ => obtain ⟨ad_, e_, _⟩ := at_T49 hr0 0 (by decide) (by simp <;> omega); cases e_
    subst hl0_
    have hr_ : r = [] := by
      unfold api_Node.f at h
      simpa using h.symm
    subst hr_
    go_enter Try.func57, Try.ntmps57
    try go_wp2
    go_ret
    exact ⟨_, rfl, Kd.R_nil _ _ _ _ _, Below.refl _ _⟩
  · subst hA0_
    have HR0 := Aside0.mk hr0
    have HC0 := Aside0.mk hc0
    clear hr0 hc0
    have HB := Aside0.mk (Below.refl w.heap.size w)
    have H : ((some (([] : List (S49)) : List (S49))).bind fun y158 => (if y158.length + l0.length < 4398046511104 then (some (y158 ++ l0)) else (none))) = some r := h
    clear h
    obtain ⟨y158, hy158⟩ : ∃ y_ : List (S49), y_ = (([] : List (S49))) := ⟨_, rfl⟩
    replace H : (if y158.length + l0.length < 4398046511104 then (some (y158 ++ l0)) else (none)) = some r := by first | (rw [hy158]; with_reducible exact H) | (have H2_ := (Option.bind_some _ _).symm.trans H; rw [hy158]; with_reducible exact H2_) | (have H2_ := (Option.bind_some _ _).symm.trans H; with_reducible exact H2_) | with_reducible exact H | (rw [hy158]; exact H) | exact H
    have Ny158 := Aside0.mk hy158
    clear hy158
    by_cases c2 : y158.length + l0.length < 4398046511104
    · rw [if_pos c2] at H
      have LMc2 := Aside0.mk c2
      clear c2
      obtain ⟨y161, hy161⟩ : ∃ y_ : List (S49), y_ = (y158 ++ l0) := ⟨_, rfl⟩
      replace H : (some y161) = some r := by first | (rw [hy161]; with_reducible exact H) | (have H2_ := (Option.bind_some _ _).symm.trans H; rw [hy161]; with_reducible exact H2_) | (have H2_ := (Option.bind_some _ _).symm.trans H; with_reducible exact H2_) | with_reducible exact H | (rw [hy161]; exact H) | exact H
      have Ny161 := Aside0.mk hy161
      clear hy161
      obtain rfl := Option.some.inj H
      go_enter Try.func57, Try.ntmps57
      go_wp2_with (first | ((with_reducible refine gate_dst (N := 5) rfl ?_); refine Kd.R_lit k49 _ 49 ?hg (N := 5) ?hd (xs := ([] : List (S49))) (inner := []) (ok := fun _ => True) (okp := fun _ => True) ?hr ?hp (fun _ hk => hk) trivial (Below.refl _ _) (Nat.le_refl _) (by simp) ?_; (case hd => rfl); (case hg => rfl); (case hr => first | (go_simp; done) | (go_simp; rfl)); (case hp => exact (Reps.none _ _)); intro v159 w3 ho4 hb hg_ hnew_; clear hg_ hnew_; (first | rw [← Ny158.out] at ho4 | (simp only [Int.reduceToNat] at ho4; rw [← Ny158.out] at ho4)); have n0_ := Aside0.mk (Kd.R_lower ho4 (below_size (by repeat (first | (with_reducible first | exact HB.out | apply below_alloc | apply pw_below_drewN | apply below_drew1) | exact HB.out)))); have n1_ := Aside0.mk (below_step (by repeat (first | (with_reducible first | exact HB.out | apply below_alloc | apply pw_below_drewN | apply below_drew1) | exact HB.out)) hb); clear HB; have HO160 := n0_; have HB := n1_; clear n0_ n1_; clear hb ho4) | ((with_reducible refine gate_builtin (b := .append) (xs := #[.tmp 5, .tmp 6]) rfl ?_); at_builtin; refine Kd.R_append_rows k49 (w0 := w) w.heap.size rfl (.tmp 5) (.tmp 6) 47 49 (.agg #[(.int .i64 0), (.int .i64 0), (.int .i64 0), (.int .i64 0)]) 32 rfl Try.underlying47 info49 rfl (by decide) (by omega) v159 y158 l0 _ _ _ (fun _ => True) (fun _ => False) rfl rfl ?aO ?aR (fun _ _ h => h) (fun _ h => h.elim) ?aF ?aB ?aS ?aL ?_; (case aR => repeat (first | exact (Kd.C_below HR0.out HB.out) | (with_reducible refine Kd.C_alloc ?_ _) | (with_reducible refine Kd.C_drewN ?_ _) | (with_reducible refine Kd.C_drew ?_))); (case aB => exact (by repeat (first | (with_reducible first | exact HB.out | apply below_alloc | apply pw_below_drewN | apply below_drew1) | exact HB.out))); (case aF => exact (fun _ _ => trivial)); (case aO => exact (by (with_reducible repeat (first | apply Kd.R_alloc | apply Kd.R_drewN | apply Kd.R_drew)); exact HO160.out)); (case aS => exact (below_size (by repeat (first | (with_reducible first | exact HB.out | apply below_alloc | apply pw_below_drewN | apply below_drew1) | exact HB.out)))); (case aL => have := LMc2.out; omega); intro v162 w5 ho hb hg hat; rw [← Ny161.out] at ho; have n0_ := Aside0.mk (hb); have n1_ := Aside0.mk (ho); clear HB; clear HO160; have HB := n0_; have HO163 := n1_; clear n0_ n1_; clear ho hb hg hat))
      go_ret
      exact ⟨_, by first | rfl | (simp [errW_none, errW_some] <;> rfl) | (simp [*, errW_none, errW_some] <;> rfl), by (with_reducible repeat (first | apply Kd.R_alloc | apply Kd.R_drewN | apply Kd.R_drew)); exact HO163.out, by repeat (first | (with_reducible first | exact HB.out | apply below_alloc | apply pw_below_drewN | apply below_drew1) | exact HB.out)⟩
    · rw [if_neg c2] at H
      exact absurd H (by simp)

/-! ### fly_Shift: function 37 -/
mutual
def fly_Shift.j0 : Nat → List (S49) → Int → Bool → Option ((List (S49)) × Int)
  | 0, _, _, _ => none
  | k + 1, x0, x1, x40 => if x40 = true then (some (([] : List (S49)), 12)) else ((api_Node.f x0).bind fun t167 => (fly_Shift.l0 k x1 t167 (t167.length : Int) 0))
def fly_Shift.l0 : Nat → Int → List (S49) → Int → Int → Option ((List (S49)) × Int)
  | 0, _, _, _, _ => none
  | k + 1, x1, x7, x44, x45 => if x45 < x44 then (if 0 ≤ x45 then (if x45 < (x7.length : Int) then (fly_Shift.l0 k x1 (x7.set (x45 : Int).toNat (⟨wrap64 (((rd_T49 x7 x45).f0) + x1), (⟨(rd_T49 x7 x45).f1.f0, (rd_T49 x7 x45).f1.f1⟩ : S37), (rd_T49 x7 x45).f2⟩ : S49)) x44 (wrap64 (x45 + 1))) else (none)) else (none)) else (some (x7, 0))
end
def fly_Shift.f (k : Nat) (l0 : List (S49)) (a1 : Int) : Option ((List (S49)) × Int) := (fly_Check.f k l0).bind fun t164 => (if t164 = 0 then (if a1 < (-200000) then (fly_Shift.j0 k l0 a1 true) else (if a1 > 200000 then (fly_Shift.j0 k l0 a1 true) else (if 0 < (l0.length : Int) then (if (wrap64 (((rd_T49 l0 0).f0) + a1)) < 0 then (fly_Shift.j0 k l0 a1 true) else (if 0 ≤ (wrap64 ((l0.length : Int) - 1)) then (if (wrap64 ((l0.length : Int) - 1)) < (l0.length : Int) then (fly_Shift.j0 k l0 a1 (decide ((wrap64 (((rd_T49 l0 (wrap64 ((l0.length : Int) - 1))).f0) + a1)) > 200000))) else (none)) else (none))) else (none)))) else (some (([] : List (S49)), t164)))
theorem fly_Shift.mono_l : ∀ k, (∀ y0 y1 y2, LeO (fly_Shift.j0 k y0 y1 y2) (fly_Shift.j0 (k + 1) y0 y1 y2)) ∧ (∀ y0 y1 y2 y3, LeO (fly_Shift.l0 k y0 y1 y2 y3) (fly_Shift.l0 (k + 1) y0 y1 y2 y3))
  | 0 => ⟨fun _ _ _ r h => by simp [fly_Shift.j0] at h, fun _ _ _ _ r h => by simp [fly_Shift.l0] at h⟩
  | k + 1 => by
    obtain ⟨ih0, ih1⟩ := fly_Shift.mono_l k
    refine ⟨?_, ?_⟩
    · intro y0 y1 y2
      unfold fly_Shift.j0
      repeat' first
      | (with_reducible exact ih0 _ _ _)
      | (with_reducible exact ih1 _ _ _ _)
      | (with_reducible exact fly_Check.mono _ _)
      | (with_reducible exact LeO.refl _)
      | (with_reducible exact LeO.none _)
      | (with_reducible refine LeO.ite ?_ ?_)
      | (with_reducible refine LeO.bind ?_ (fun _ => ?_))
      | exact ih0 _ _ _
      | exact ih1 _ _ _ _
      | exact fly_Check.mono _ _
      | exact LeO.none _
      | refine LeO.ite ?_ ?_
      | refine LeO.bind ?_ (fun _ => ?_)
    · intro y0 y1 y2 y3
      unfold fly_Shift.l0
      repeat' first
      | (with_reducible exact ih0 _ _ _)
      | (with_reducible exact ih1 _ _ _ _)
      | (with_reducible exact fly_Check.mono _ _)
      | (with_reducible exact LeO.refl _)
      | (with_reducible exact LeO.none _)
      | (with_reducible refine LeO.ite ?_ ?_)
      | (with_reducible refine LeO.bind ?_ (fun _ => ?_))
      | exact ih0 _ _ _
      | exact ih1 _ _ _ _
      | exact fly_Check.mono _ _
      | exact LeO.none _
      | refine LeO.ite ?_ ?_
      | refine LeO.bind ?_ (fun _ => ?_)
theorem fly_Shift.mono : ∀ a0 a1 k, LeO (fly_Shift.f k a0 a1) (fly_Shift.f (k + 1) a0 a1) := by
  intro a0 a1 k
  obtain ⟨ih0, ih1⟩ := fly_Shift.mono_l k
  unfold fly_Shift.f
  repeat' first
      | (with_reducible exact ih0 _ _ _)
      | (with_reducible exact ih1 _ _ _ _)
      | (with_reducible exact fly_Check.mono _ _)
      | (with_reducible exact LeO.refl _)
      | (with_reducible exact LeO.none _)
      | (with_reducible refine LeO.ite ?_ ?_)
      | (with_reducible refine LeO.bind ?_ (fun _ => ?_))
      | exact ih0 _ _ _
      | exact ih1 _ _ _ _
      | exact fly_Check.mono _ _
      | exact LeO.none _
      | refine LeO.ite ?_ ?_
      | refine LeO.bind ?_ (fun _ => ?_)
set_option maxHeartbeats 8000000 in
set_option maxRecDepth 100000 in
theorem fly_Shift.calls (k : Nat) (A0 : Option Addr) (c0 : Nat) (l0 : List (S49)) (a1 : Int) (r1 : List (S49)) (r2 : Int) (w : World) (hr0 : Kd.C k49 w A0 l0.length l0) (hc0 : l0.length ≤ c0) (h : fly_Shift.f k l0 a1 = some (r1, r2)) :
    Calls Try.prog 37 #[.slice A0 l0.length c0, .int .i64 a1] w fun e w' => ∃ v0_ : Value, e = .returned (.tuple #[v0_, .int .i64 r2]) ∧ Kd.R k49 49 w' w.heap.size (fun _ => True) v0_ r1 ∧ Below w.heap.size w w' := by
 have HR0 := Aside0.mk hr0
 have HC0 := Aside0.mk hc0
 clear hr0 hc0
 have HB := Aside0.mk (Below.refl w.heap.size w)
 have H : ((fly_Check.f k l0).bind fun t164 => (if t164 = 0 then (if a1 < (-200000) then (fly_Shift.j0 k l0 a1 true) else (if a1 > 200000 then (fly_Shift.j0 k l0 a1 true) else (if 0 < (l0.length : Int) then (if (wrap64 (((rd_T49 l0 0).f0) + a1)) < 0 then (fly_Shift.j0 k l0 a1 true) else (if 0 ≤ (wrap64 ((l0.length : Int) - 1)) then (if (wrap64 ((l0.length : Int) - 1)) < (l0.length : Int) then (fly_Shift.j0 k l0 a1 (decide ((wrap64 (((rd_T49 l0 (wrap64 ((l0.length : Int) - 1))).f0) + a1)) > 200000))) else (none)) else (none))) else (none)))) else (some (([] : List (S49)), t164)))) = some (r1, r2) := h
 clear h
 replace H := Option.bind_eq_some_iff.mp H
 obtain ⟨t164, A30, H⟩ := H
 replace H : (if t164 = 0 then (if a1 < (-200000) then (fly_Shift.j0 k l0 a1 true) else (if a1 > 200000 then (fly_Shift.j0 k l0 a1 true) else (if 0 < (l0.length : Int) then (if (wrap64 (((rd_T49 l0 0).f0) + a1)) < 0 then (fly_Shift.j0 k l0 a1 true) else (if 0 ≤ (wrap64 ((l0.length : Int) - 1)) then (if (wrap64 ((l0.length : Int) - 1)) < (l0.length : Int) then (fly_Shift.j0 k l0 a1 (decide ((wrap64 (((rd_T49 l0 (wrap64 ((l0.length : Int) - 1))).f0) + a1)) > 200000))) else (none)) else (none))) else (none)))) else (some (([] : List (S49)), t164))) = some (r1, r2) := H
 have A3 := Aside0.mk A30
 clear A30
 by_cases c4 : t164 = 0
 · rw [if_pos c4] at H
   have c4b0 : (t164 == 0) = true := beq_iff_eq.mpr c4
   have c4b1 : (t164 != 0) = false := bne_eq_false_iff_eq.mpr c4
   clear c4
   have HC5 := Aside0.mk H
   clear H
   go_enter Try.func37, Try.ntmps37
   go_upto_region 4 with (first | ((with_reducible refine gate_callee (f := 54) rfl ?_); refine goesL_ (some 10) rfl rfl Try.func54 (by kernel_rfl) rfl #[.slice A0 l0.length c0] rfl (by (try simp only [List.map_toArray, List.map_cons, List.map_nil]); first | done | rfl | (simp only [List.length_drop, List.length_take]; rfl)) ?_; (with_reducible refine (fly_Check.calls k _ _ l0 t164 _ ?side1 ?side2 A3.out).mono ?_); (case side1 => repeat (first | exact HR0.out | (with_reducible refine Kd.C_alloc ?_ _) | (with_reducible refine Kd.C_drewN ?_ _) | (with_reducible refine Kd.C_drew ?_))); (case side2 => exact HC0.out); rintro e w6 ⟨rfl, hb⟩; refine ⟨_, rfl, ?_⟩; have n0_ := Aside0.mk (below_step (by repeat (first | (with_reducible first | exact HB.out | apply below_alloc | apply pw_below_drewN | apply below_drew1) | exact HB.out)) hb); clear HB; have HB := n0_; clear n0_; (try clear hb); (try clear hb2); (try clear hk); (try clear hi)))
   (try simp only [Act.put, List.setIfInBounds_toArray, List.set_cons_zero, List.set_cons_succ])
   go_cut [40] (fun v40 wc => ∃ (kq : Nat) (x40_4 : Bool), v40 = .bool x40_4 ∧ Aside0 (fly_Shift.j0 kq l0 a1 x40_4 = some (r1, r2)) ∧ Aside0 (kq ≤ k) ∧ Aside0 (Below w.heap.size w wc))
   case first =>
    have H := HC5.out
    clear HC5
    by_cases c7 : a1 < (-200000)
    · rw [if_pos c7] at H
      have c7b0 : decide (a1 < (-200000)) = true := decide_eq_true c7
      clear c7
      (first | rw [c7b0] | (simp only [i64_w, i32_w]; rw [c7b0]) | skip)
      have H' := Aside0.mk H
      clear H
      go_wp2
      go_meet
      case rel => exact ⟨_, (true), (by first | rfl | (simp; done) | (simp [*]; done)), H', ⟨by first | omega | exact Nat.le_refl _⟩, ⟨by repeat (first | (with_reducible first | exact HB.out | apply below_alloc | apply pw_below_drewN | apply below_drew1) | exact HB.out)⟩⟩
    · rw [if_neg c7] at H
      have c7b0 : decide (a1 < (-200000)) = false := decide_eq_false c7
      clear c7
      (first | rw [c7b0] | (simp only [i64_w, i32_w]; rw [c7b0]) | skip)
      by_cases c8 : a1 > 200000
      · rw [if_pos c8] at H
        have c8b0 : decide (200000 < a1) = true := decide_eq_true c8
        clear c8
        have H' := Aside0.mk H
        clear H
        go_wp2
        go_meet
        case rel => exact ⟨_, (true), (by first | rfl | (simp; done) | (simp [*]; done)), H', ⟨by first | omega | exact Nat.le_refl _⟩, ⟨by repeat (first | (with_reducible first | exact HB.out | apply below_alloc | apply pw_below_drewN | apply below_drew1) | exact HB.out)⟩⟩
      · rw [if_neg c8] at H
        have c8b0 : decide (200000 < a1) = false := decide_eq_false c8
        clear c8
        by_cases c9 : 0 < (l0.length : Int)
        · rw [if_pos c9] at H
          have c9b0 : decide (0 < (l0.length : Int)) = true := decide_eq_true c9
          have c9b1 : decide (0 < l0.length) = true := decide_eq_true (by omega)
          clear c9
          by_cases c10 : (wrap64 (((rd_T49 l0 0).f0) + a1)) < 0
          · rw [if_pos c10] at H
            have c10b0 : decide ((wrap64 (((rd_T49 l0 0).f0) + a1)) < 0) = true := decide_eq_true c10
            clear c10
            have H' := Aside0.mk H
            clear H
            have p165 : 0 ≤ (0 : Int) := (by omega)
            have q165 : 0 < (l0.length : Int) := of_decide_eq_true (by first | (with_reducible assumption) | assumption)
            obtain ⟨ad165, e165, hx165_0, hx165_1, hx165_2, hx165_3⟩ := at_T49 HR0.out 0 p165 q165
            cases e165
            have qi165 : (0 < l0.length) = True := eq_true (by omega)
            (try rw [show ((0 : Int)).toNat = 0 from rfl] at hx165_0)
            (try rw [show 0 * 4 = 0 from rfl] at hx165_0)
            (try rw [Addr.add_zero'] at hx165_0)
            (try rw [show ((0 : Int)).toNat = 0 from rfl] at hx165_1)
            (try rw [show 0 * 4 = 0 from rfl] at hx165_1)
            (try rw [Addr.add_zero'] at hx165_1)
            (try rw [show ((0 : Int)).toNat = 0 from rfl] at hx165_2)
            (try rw [show 0 * 4 = 0 from rfl] at hx165_2)
            (try rw [Addr.add_zero'] at hx165_2)
            (try rw [show ((0 : Int)).toNat = 0 from rfl] at hx165_3)
            (try rw [show 0 * 4 = 0 from rfl] at hx165_3)
            (try rw [Addr.add_zero'] at hx165_3)
            replace hx165_0 := (HB.out.cell (World.block_lt_of_cell? w _ hx165_0)).trans hx165_0
            replace hx165_1 := (HB.out.cell (World.block_lt_of_cell? w _ hx165_1)).trans hx165_1
            replace hx165_2 := (HB.out.cell (World.block_lt_of_cell? w _ hx165_2)).trans hx165_2
            replace hx165_3 := (HB.out.cell (World.block_lt_of_cell? w _ hx165_3)).trans hx165_3
            replace p165 := eq_true p165
            replace q165 := eq_true q165
            go_wp2
            go_meet
            case rel => exact ⟨_, (true), (by first | rfl | (simp; done) | (simp [*]; done)), H', ⟨by first | omega | exact Nat.le_refl _⟩, ⟨by repeat (first | (with_reducible first | exact HB.out | apply below_alloc | apply pw_below_drewN | apply below_drew1) | exact HB.out)⟩⟩
          · rw [if_neg c10] at H
            have c10b0 : decide ((wrap64 (((rd_T49 l0 0).f0) + a1)) < 0) = false := decide_eq_false c10
            clear c10
            obtain ⟨ji11, hji11⟩ : ∃ j_ : Int, (wrap64 ((l0.length : Int) - 1)) = j_ := ⟨_, rfl⟩
            replace H : (if 0 ≤ (ji11) then (if (ji11) < (l0.length : Int) then (fly_Shift.j0 k l0 a1 (decide ((wrap64 (((rd_T49 l0 (ji11)).f0) + a1)) > 200000))) else (none)) else (none)) = some (r1, r2) := by first | (rw [hji11] at H; exact H) | (simp only [hji11] at H ⊢; exact H)
            have hji11w : (IntKind.i64.wrap ((l0.length : Int) - 1)) = ji11 := (i64_w _).trans hji11
            by_cases c12 : 0 ≤ (ji11)
            · rw [if_pos c12] at H
              have c12b0 : decide (0 ≤ (ji11)) = true := decide_eq_true c12
              clear c12
              by_cases c13 : (ji11) < (l0.length : Int)
              · rw [if_pos c13] at H
                have c13b0 : decide ((ji11) < (l0.length : Int)) = true := decide_eq_true c13
                clear c13
                have H' := Aside0.mk H
                clear H
                have p165 : 0 ≤ (0 : Int) := (by omega)
                have q165 : 0 < (l0.length : Int) := of_decide_eq_true (by first | (with_reducible assumption) | assumption)
                obtain ⟨ad165, e165, hx165_0, hx165_1, hx165_2, hx165_3⟩ := at_T49 HR0.out 0 p165 q165
                cases e165
                have qi165 : (0 < l0.length) = True := eq_true (by omega)
                (try rw [show ((0 : Int)).toNat = 0 from rfl] at hx165_0)
                (try rw [show 0 * 4 = 0 from rfl] at hx165_0)
                (try rw [Addr.add_zero'] at hx165_0)
                (try rw [show ((0 : Int)).toNat = 0 from rfl] at hx165_1)
                (try rw [show 0 * 4 = 0 from rfl] at hx165_1)
                (try rw [Addr.add_zero'] at hx165_1)
                (try rw [show ((0 : Int)).toNat = 0 from rfl] at hx165_2)
                (try rw [show 0 * 4 = 0 from rfl] at hx165_2)
                (try rw [Addr.add_zero'] at hx165_2)
                (try rw [show ((0 : Int)).toNat = 0 from rfl] at hx165_3)
                (try rw [show 0 * 4 = 0 from rfl] at hx165_3)
                (try rw [Addr.add_zero'] at hx165_3)
                replace hx165_0 := (HB.out.cell (World.block_lt_of_cell? w _ hx165_0)).trans hx165_0
                replace hx165_1 := (HB.out.cell (World.block_lt_of_cell? w _ hx165_1)).trans hx165_1
                replace hx165_2 := (HB.out.cell (World.block_lt_of_cell? w _ hx165_2)).trans hx165_2
                replace hx165_3 := (HB.out.cell (World.block_lt_of_cell? w _ hx165_3)).trans hx165_3
                replace p165 := eq_true p165
                replace q165 := eq_true q165
                have p166 : 0 ≤ ((ji11) : Int) := of_decide_eq_true (by first | (with_reducible assumption) | assumption)
                have q166 : (ji11) < (l0.length : Int) := of_decide_eq_true (by first | (with_reducible assumption) | assumption)
                obtain ⟨ad166, e166, hx166_0, hx166_1, hx166_2, hx166_3⟩ := at_T49 HR0.out (ji11) p166 q166
                obtain rfl : ad165 = ad166 := (by injection e166)
                replace hx166_0 := (HB.out.cell (World.block_lt_of_cell? w _ hx166_0)).trans hx166_0
                replace hx166_1 := (HB.out.cell (World.block_lt_of_cell? w _ hx166_1)).trans hx166_1
                replace hx166_2 := (HB.out.cell (World.block_lt_of_cell? w _ hx166_2)).trans hx166_2
                replace hx166_3 := (HB.out.cell (World.block_lt_of_cell? w _ hx166_3)).trans hx166_3
                replace p166 := eq_true p166
                replace q166 := eq_true q166
                go_wp2
                go_meet
                case rel => exact ⟨_, (decide ((wrap64 (((rd_T49 l0 (ji11)).f0) + a1)) > 200000)), (by first | rfl | (simp; done) | (simp only [← hji11] <;> (first | rfl | simp)) | (simp [*]; done)), H', ⟨by first | omega | exact Nat.le_refl _⟩, ⟨by repeat (first | (with_reducible first | exact HB.out | apply below_alloc | apply pw_below_drewN | apply below_drew1) | exact HB.out)⟩⟩
              · rw [if_neg c13] at H
                exact absurd H (by simp)
            · rw [if_neg c12] at H
              exact absurd H (by simp)
        · rw [if_neg c9] at H
          exact absurd H (by simp)
   case rest =>
    clear HC5
    (try clear c1); (try clear p1); (try clear q1); (try clear hx1); (try clear qi1); (try clear p2); (try clear c3); (try clear c4); (try clear c4b0); (try clear c4b1); (try clear c5); (try clear p6); (try clear c7); (try clear c7b0); (try clear c8); (try clear c8b0); (try clear c9); (try clear c9b0); (try clear c9b1); (try clear c10); (try clear c10b0); (try clear c12); (try clear c12b0); (try clear c13); (try clear c13b0); (try clear hx165_0); (try clear hx165_1); (try clear hx165_2); (try clear hx165_3); (try clear hx166_0); (try clear hx166_1); (try clear hx166_2); (try clear hx166_3); (try clear p165); (try clear p166); (try clear q165); (try clear q166)
    obtain ⟨kq, x40_4, rfl, HA, HJ4, HB⟩ := hcut
    cases kq with
    | zero => exact absurd HA.out (by simp [fly_Shift.j0])
    | succ kj4 =>
     have H := HA.out
     clear HA
     simp only [fly_Shift.j0] at H
     by_cases c14 : x40_4 = true
     · subst c14
       have H1 : (some (([] : List (S49)), 12)) = some (r1, r2) := by rw [if_pos rfl] at H; exact H
       clear H
       have H := H1
       clear H1
       simp only [Option.some.injEq, Prod.mk.injEq] at H
       obtain ⟨rfl, rfl⟩ := H
       go_wp2
       go_ret2
       exact ⟨_, by first | rfl | (simp [errW_none, errW_some] <;> rfl) | (simp [*, errW_none, errW_some] <;> rfl), by first | exact Kd.R_nil _ _ _ _ _ | exact Kd.N_nil _ _ _ _ _ | exact Kd.V_nil _ _ _ _ _ | exact Kd.Q_nil _ _ _ _ _ | exact Kd.S_nil _ _ _ _ _, by repeat (first | (with_reducible first | exact HB.out | apply below_alloc | apply pw_below_drewN | apply below_drew1) | exact HB.out)⟩
     · replace c14 := Bool.eq_false_iff.mpr c14
       subst c14
       have H1 : ((api_Node.f l0).bind fun t167 => (fly_Shift.l0 kj4 a1 t167 (t167.length : Int) 0)) = some (r1, r2) := by rw [if_neg (show ¬ (false = true) by decide)] at H; exact H
       clear H
       have H := H1
       clear H1
       replace H := Option.bind_eq_some_iff.mp H
       obtain ⟨t167, A150, H⟩ := H
       replace H : (fly_Shift.l0 kj4 a1 t167 (t167.length : Int) 0) = some (r1, r2) := H
       have A15 := Aside0.mk A150
       clear A150
       have H' := Aside0.mk H
       clear H
       go_wp2_with (first | ((with_reducible refine gate_callee (f := 57) rfl ?_); refine goesL_ (some 42) rfl rfl Try.func57 (by kernel_rfl) rfl #[.slice A0 l0.length c0] rfl (by (try simp only [List.map_toArray, List.map_cons, List.map_nil]); first | done | rfl | (simp only [List.length_drop, List.length_take]; rfl)) ?_; (with_reducible refine (api_Node.calls _ _ l0 t167 _ ?side1 ?side2 A15.out).mono ?_); (case side1 => repeat (first | exact (Kd.C_below HR0.out HB.out) | (with_reducible refine Kd.C_alloc ?_ _) | (with_reducible refine Kd.C_drewN ?_ _) | (with_reducible refine Kd.C_drew ?_))); (case side2 => exact HC0.out); rintro e w16 ⟨v168, rfl, ho0, hb⟩; refine ⟨_, rfl, ?_⟩; have n0_ := Aside0.mk (Kd.R_lower ho0 (below_size (by repeat (first | (with_reducible first | exact HB.out | apply below_alloc | apply pw_below_drewN | apply below_drew1) | exact HB.out)))); have n1_ := Aside0.mk (below_step (by repeat (first | (with_reducible first | exact HB.out | apply below_alloc | apply pw_below_drewN | apply below_drew1) | exact HB.out)) hb); clear HB; have HO169 := n0_; have HB := n1_; clear n0_ n1_; (try clear hb); (try clear hb2); (try clear hk); (try clear hi); (try clear ho0); obtain ⟨Ao17, co17, eo17⟩ := Kd.R_slice HO169.out; subst eo17))
       go_loopg [45] kj4 (fun kq v45 w' => ∃ (x7_2 : List (S49)) (x45_2 : Int), v45 = .int .i64 x45_2 ∧ Aside0 (fly_Shift.l0 kq a1 x7_2 (t167.length : Int) x45_2 = some (r1, r2)) ∧ Aside0 (kq ≤ kj4) ∧ Aside0 (Kd.R k49 49 w' w.heap.size (fun _ => True) (.slice Ao17 t167.length co17) x7_2) ∧ Aside0 (Below w.heap.size w w'))
       case atStart => exact ⟨(t167), (0), (by first | rfl | (simp; done) | (simp [*]; done)), H', ⟨Nat.le_refl _⟩, ⟨by (with_reducible repeat (first | apply Kd.R_alloc | apply Kd.R_drewN | apply Kd.R_drew)); exact HO169.out⟩, ⟨by repeat (first | (with_reducible first | exact HB.out | apply below_alloc | apply pw_below_drewN | apply below_drew1) | exact HB.out)⟩⟩
       case round =>
        clear H'
        (try clear c1); (try clear p1); (try clear q1); (try clear hx1); (try clear qi1); (try clear p2); (try clear c3); (try clear c4); (try clear c4b0); (try clear c4b1); (try clear c5); (try clear p6); (try clear c7); (try clear c7b0); (try clear c8); (try clear c8b0); (try clear c9); (try clear c9b0); (try clear c9b1); (try clear c10); (try clear c10b0); (try clear c12); (try clear c12b0); (try clear c13); (try clear c13b0); (try clear c14); (try clear p16); (try clear q16); (try clear hx16); (try clear qi16); (try clear hx165_0); (try clear hx165_1); (try clear hx165_2); (try clear hx165_3); (try clear hx166_0); (try clear hx166_1); (try clear hx166_2); (try clear hx166_3); (try clear p1); (try clear p165)
        (try clear p166); (try clear p2); (try clear p6); (try clear q1); (try clear q165); (try clear q166)
        obtain ⟨x7_2, x45_2, rfl, HA, HK2, HO_7, HB⟩ := hrel
        have hl7_2 := (Kd.R_reads' HO_7.out).1
        rw [hl7_2] at HO_7
        (try simp only [hl7_2])
        cases gk with
        | zero => exact absurd HA.out (by simp [fly_Shift.l0])
        | succ k2 =>
         have H := HA.out
         clear HA
         simp only [fly_Shift.l0] at H
         by_cases c18 : x45_2 < (t167.length : Int)
         · rw [if_pos c18] at H
           have c18b0 : decide (x45_2 < (t167.length : Int)) = true := decide_eq_true c18
           (try (have c18b0_hl7_2 := c18b0; simp only [hl7_2] at c18b0_hl7_2))
           clear c18
           by_cases c19 : 0 ≤ x45_2
           · rw [if_pos c19] at H
             have c19b0 : decide (0 ≤ x45_2) = true := decide_eq_true c19
             clear c19
             by_cases c20 : x45_2 < (x7_2.length : Int)
             · rw [if_pos c20] at H
               have c20b0 : decide (x45_2 < (x7_2.length : Int)) = true := decide_eq_true c20
               (try (have c20b0_hl7_2 := c20b0; simp only [hl7_2] at c20b0_hl7_2))
               clear c20
               obtain ⟨y171, hy171⟩ : ∃ y_ : List (S49), y_ = (x7_2.set (x45_2 : Int).toNat (⟨wrap64 (((rd_T49 x7_2 x45_2).f0) + a1), (⟨(rd_T49 x7_2 x45_2).f1.f0, (rd_T49 x7_2 x45_2).f1.f1⟩ : S37), (rd_T49 x7_2 x45_2).f2⟩ : S49)) := ⟨_, rfl⟩
               replace H : (fly_Shift.l0 k2 a1 y171 (t167.length : Int) (wrap64 (x45_2 + 1))) = some (r1, r2) := by first | (rw [hy171]; with_reducible exact H) | (have H2_ := (Option.bind_some _ _).symm.trans H; rw [hy171]; with_reducible exact H2_) | (have H2_ := (Option.bind_some _ _).symm.trans H; with_reducible exact H2_) | with_reducible exact H | (rw [hy171]; exact H) | exact H
               have Ny171 := Aside0.mk hy171
               clear hy171
               have H' := Aside0.mk H
               clear H
               have p170 : 0 ≤ (x45_2 : Int) := of_decide_eq_true (by first | (with_reducible assumption) | assumption)
               have q170 : x45_2 < (x7_2.length : Int) := of_decide_eq_true (by first | (with_reducible assumption) | assumption)
               obtain ⟨ad170, e170, hx170_0, hx170_1, hx170_2, hx170_3⟩ := at_T49 (Kd.R_reads' HO_7.out).2.2 x45_2 p170 q170
               cases e170
               replace p170 := eq_true p170
               replace q170 := eq_true q170
               have p21 : 0 ≤ (x45_2 : Int) := of_decide_eq_true (by first | (with_reducible assumption) | assumption)
               have q21 : (x45_2 : Int) < ((x7_2.length : Int) : Int) := of_decide_eq_true (by first | (with_reducible assumption) | assumption)
               obtain ⟨go21, co21, eo21, gb21, gl21, cl21, HG21⟩ := Kd.R_form HO_7.out (by omega)
               (first | cases eo21 | (injection eo21 with ea_ en_ ec_; (first | subst ea_ | (injection ea_ with ea_; subst ea_)); subst ec_; clear en_))
               have GB21 := Aside0.mk gb21
               have GG21 := Aside0.mk HG21
               clear gb21 gl21 HG21
               (first | simp only [add_plain] at hx170_0 | skip)
               (first | simp only [add_plain] at hx170_1 | skip)
               (first | simp only [add_plain] at hx170_2 | skip)
               (first | simp only [add_plain] at hx170_3 | skip)
               obtain ⟨ce21, hcl21, hM21, hcc21, hfr21⟩ := Kd.R_elem HO_7.out z49 (x45_2 : Int) p21 q21
               obtain rfl := k49_openM hM21
               have hx21_0 : wr.cell? ⟨go21, (x45_2 : Int).toNat * 4, none⟩ = some (.int .i64 ((rd_T49 x7_2 x45_2).f0)) := hcc21 0 _ rfl
               have hx21_1 : wr.cell? ⟨go21, (x45_2 : Int).toNat * 4 + 1, none⟩ = some (.int .i64 ((rd_T49 x7_2 x45_2).f1.f0)) := hcc21 1 _ rfl
               have hx21_2 : wr.cell? ⟨go21, (x45_2 : Int).toNat * 4 + 2, none⟩ = some (.int .i64 ((rd_T49 x7_2 x45_2).f1.f1)) := hcc21 2 _ rfl
               have hx21_3 : wr.cell? ⟨go21, (x45_2 : Int).toNat * 4 + 3, none⟩ = some (.int .i64 ((rd_T49 x7_2 x45_2).f2)) := hcc21 3 _ rfl
               have hf21_0 : wr.frozen? ⟨go21, (x45_2 : Int).toNat * 4, none⟩ = false := hfr21 0
               have hf21_1 : wr.frozen? ⟨go21, (x45_2 : Int).toNat * 4 + 1, none⟩ = false := hfr21 1
               have hf21_2 : wr.frozen? ⟨go21, (x45_2 : Int).toNat * 4 + 2, none⟩ = false := hfr21 2
               have hf21_3 : wr.frozen? ⟨go21, (x45_2 : Int).toNat * 4 + 3, none⟩ = false := hfr21 3
               clear hcl21 hcc21 hfr21 hM21
               replace p21 := eq_true p21
               replace q21 := eq_true q21
               have HX22 := Aside0.mk (show Kd.R k49 49 wr w.heap.size (fun _ => True) (.slice (some ⟨go21, 0, none⟩) x7_2.length co17) x7_2 from (by (with_reducible repeat (first | apply Kd.R_alloc | apply Kd.R_drewN | apply Kd.R_drew)); exact HO_7.out))
               obtain ⟨ce22, hcl22, hM22, hcc22, hfr22⟩ := Kd.R_elem HX22.out z49 (x45_2 : Int) (of_decide_eq_true (by first | (with_reducible assumption) | assumption)) (by have h_ : (x45_2 : Int) < ((x7_2.length : Int) : Int) := of_decide_eq_true (by first | (with_reducible assumption) | assumption); first | exact h_ | (have e_ := (Kd.R_reads' HO_7.out).1; omega) | simpa using h_)
               obtain rfl := k49_openM hM22
               have HP22 := Kd.R_seg HX22.out (x45_2 : Int) (of_decide_eq_true (by first | (with_reducible assumption) | assumption)) (by have h_ : (x45_2 : Int) < ((x7_2.length : Int) : Int) := of_decide_eq_true (by first | (with_reducible assumption) | assumption); first | exact h_ | (have e_ := (Kd.R_reads' HO_7.out).1; omega) | simpa using h_) (seg := [.int .i64 (wrap64 (((rd_T49 x7_2 x45_2).f0) + a1))]) (j := 0) hcl22 hcc22 (show 1 ≤ 4 from by decide) (x' := (⟨wrap64 (((rd_T49 x7_2 x45_2).f0) + a1), (⟨(rd_T49 x7_2 x45_2).f1.f0, (rd_T49 x7_2 x45_2).f1.f1⟩ : S37), (rd_T49 x7_2 x45_2).f2⟩ : S49)) (k49_mkM _ _ _ (⟨wrap64 (((rd_T49 x7_2 x45_2).f0) + a1), (⟨(rd_T49 x7_2 x45_2).f1.f0, (rd_T49 x7_2 x45_2).f1.f1⟩ : S37), (rd_T49 x7_2 x45_2).f2⟩ : S49) ) (fun _ hk => hk)
               have hx22_0 := hcc22 0 _ rfl
               (try simp only [show (k49).sz = 4 from rfl, Nat.mul_one, Nat.add_zero] at hx22_0)
               have hf22_0 := hfr22 0
               (try simp only [show (k49).sz = 4 from rfl, Nat.mul_one, Nat.add_zero] at hf22_0)
               clear hcl22 hcc22 hfr22 hM22
               go_wp2_with (first | ((with_reducible refine gate_store (t := 3) (p := 56) rfl ?_); refine store_event (t := 3) (p := 56) (v := ?vo_w23) (w1 := (wr.setCell ⟨go21, (x45_2 : Int).toNat * 4, none⟩ (.int .i64 (wrap64 (((rd_T49 x7_2 x45_2).f0) + a1))))) ?hg ?ho ?hn ?hr ?_; (case ho => rfl); (case hg => rfl); (case hn => rfl); (case hr => first | (go_simp; done) | (go_simp; rfl)); intro w23 hw; have hg : wr.grownBy w23 (some go21) := (by rw [hw]; exact HP22.2); have hp_ : Kd.R k49 49 w23 w.heap.size (fun _ => True) (.slice (some ⟨go21, 0, none⟩) x7_2.length co17) y171 := (by rw [hw, Ny171.out]; exact HP22.1); clear HP22; have n0_ := Aside0.mk (hp_); have n1_ := Aside0.mk ((by rw [hw]; exact below_set (HB.out) GB21.out : Below w.heap.size w w23)); clear HO_7; clear HB; have HO_7 := n0_; have HB := n1_; clear n0_ n1_; clear hg hw hp_))
               (try simp only [← hl7_2])
               go_roundg k2
               case measure => have := HJ4.out; have := HK2.out; omega
               case rel => exact ⟨(y171), (wrap64 (x45_2 + 1)), (by first | rfl | (simp; done) | (simp [*]; done)), H', ⟨by have := HJ4.out; have := HK2.out; omega⟩, ⟨by (try simp only [hl7_2]); (with_reducible repeat (first | apply Kd.R_alloc | apply Kd.R_drewN | apply Kd.R_drew)); exact HO_7.out⟩, ⟨by repeat (first | (with_reducible first | exact HB.out | apply below_alloc | apply pw_below_drewN | apply below_drew1) | exact HB.out)⟩⟩
             · rw [if_neg c20] at H
               exact absurd H (by simp)
           · rw [if_neg c19] at H
             exact absurd H (by simp)
         · rw [if_neg c18] at H
           have c18b0 : decide (x45_2 < (t167.length : Int)) = false := decide_eq_false c18
           (try (have c18b0_hl7_2 := c18b0; simp only [hl7_2] at c18b0_hl7_2))
           clear c18
           simp only [Option.some.injEq, Prod.mk.injEq] at H
           obtain ⟨rfl, rfl⟩ := H
           go_wp2
           go_ret2
           exact ⟨_, by first | rfl | (simp [errW_none, errW_some] <;> rfl) | (simp [*, errW_none, errW_some] <;> rfl), by (with_reducible repeat (first | apply Kd.R_alloc | apply Kd.R_drewN | apply Kd.R_drew)); exact HO_7.out, by repeat (first | (with_reducible first | exact HB.out | apply below_alloc | apply pw_below_drewN | apply below_drew1) | exact HB.out)⟩
 · rw [if_neg c4] at H
   have c4b0 : (t164 == 0) = false := beq_eq_false_iff_ne.mpr c4
   have c4b1 : (t164 != 0) = true := bne_iff_ne.mpr c4
   simp only [Option.some.injEq, Prod.mk.injEq] at H
   obtain ⟨rfl, rfl⟩ := H
   go_enter Try.func37, Try.ntmps37
   go_wp2_with (first | ((with_reducible refine gate_callee (f := 54) rfl ?_); refine goesL_ (some 10) rfl rfl Try.func54 (by kernel_rfl) rfl #[.slice A0 l0.length c0] rfl (by (try simp only [List.map_toArray, List.map_cons, List.map_nil]); first | done | rfl | (simp only [List.length_drop, List.length_take]; rfl)) ?_; (with_reducible refine (fly_Check.calls k _ _ l0 t164 _ ?side1 ?side2 A3.out).mono ?_); (case side1 => repeat (first | exact HR0.out | (with_reducible refine Kd.C_alloc ?_ _) | (with_reducible refine Kd.C_drewN ?_ _) | (with_reducible refine Kd.C_drew ?_))); (case side2 => exact HC0.out); rintro e w24 ⟨rfl, hb⟩; refine ⟨_, rfl, ?_⟩; have n0_ := Aside0.mk (below_step (by repeat (first | (with_reducible first | exact HB.out | apply below_alloc | apply pw_below_drewN | apply below_drew1) | exact HB.out)) hb); clear HB; have HB := n0_; clear n0_; (try clear hb); (try clear hb2); (try clear hk); (try clear hi)))
   go_ret2
   exact ⟨_, by first | rfl | (simp [errW_none, errW_some] <;> rfl) | (simp [*, errW_none, errW_some] <;> rfl), by first | exact Kd.R_nil _ _ _ _ _ | exact Kd.N_nil _ _ _ _ _ | exact Kd.V_nil _ _ _ _ _ | exact Kd.Q_nil _ _ _ _ _ | exact Kd.S_nil _ _ _ _ _, by repeat (first | (with_reducible first | exact HB.out | apply below_alloc | apply pw_below_drewN | apply below_drew1) | exact HB.out)⟩

/-! ### skywaykeep1_FlyShifts: function 11 -/
def skywaykeep1_FlyShifts.f (k : Nat) (l0 : List (S49)) (a1 : Int) (a2 : Int) : Option (Bool) := (skywaykeep1_flyWorks.f k).bind fun t172 => (if t172 = true then ((fly_Shift.f k l0 a1).bind fun bt173 => (if bt173.2 = 0 then ((fly_At.f k l0 a2).bind fun bt177 => ((fly_At.f k bt173.1 (wrap64 (a2 + a1))).bind fun bt183 => (if bt177.2.2.2.2 = bt183.2.2.2.2 then (if bt177.2.2.2.2 = 0 then (some ((wrap64 (bt177.1 + a1)) == bt183.1 && ((bt177.2.1 == bt183.2.1 && (bt177.2.2.1 == bt183.2.2.1)) && (bt177.2.2.2.1 == bt183.2.2.2.1)))) else (some true)) else (some false)))) else (some ((bt173.1.length : Int) == 0)))) else (some false))
theorem skywaykeep1_FlyShifts.mono : ∀ a0 a1 a2 k, LeO (skywaykeep1_FlyShifts.f k a0 a1 a2) (skywaykeep1_FlyShifts.f (k + 1) a0 a1 a2) := by
  intro a0 a1 a2 k
  unfold skywaykeep1_FlyShifts.f
  repeat' first
      | (with_reducible exact fly_At.mono _ _ _)
      | (with_reducible exact fly_Shift.mono _ _ _)
      | (with_reducible exact skywaykeep1_flyWorks.mono _)
      | (with_reducible exact LeO.refl _)
      | (with_reducible exact LeO.none _)
      | (with_reducible refine LeO.ite ?_ ?_)
      | (with_reducible refine LeO.bind ?_ (fun _ => ?_))
      | exact fly_At.mono _ _ _
      | exact fly_Shift.mono _ _ _
      | exact skywaykeep1_flyWorks.mono _
      | exact LeO.none _
      | refine LeO.ite ?_ ?_
      | refine LeO.bind ?_ (fun _ => ?_)
set_option maxHeartbeats 8000000 in
set_option maxRecDepth 100000 in
theorem skywaykeep1_FlyShifts.calls (k : Nat) (A0 : Option Addr) (c0 : Nat) (l0 : List (S49)) (a1 : Int) (a2 : Int) (r : Bool) (w : World) (hr0 : Kd.C k49 w A0 l0.length l0) (hc0 : l0.length ≤ c0) (h : skywaykeep1_FlyShifts.f k l0 a1 a2 = some r) :
    Calls Try.prog 11 #[.slice A0 l0.length c0, .int .i64 a1, .int .i64 a2] w fun e w' => e = .returned (.bool r) ∧ Below w.heap.size w w' := by
 have hu49 := Try.underlying49
 have HR0 := Aside0.mk hr0
 have HC0 := Aside0.mk hc0
 clear hr0 hc0
 have HB := Aside0.mk (Below.refl w.heap.size w)
 have H : ((skywaykeep1_flyWorks.f k).bind fun t172 => (if t172 = true then ((fly_Shift.f k l0 a1).bind fun bt173 => (if bt173.2 = 0 then ((fly_At.f k l0 a2).bind fun bt177 => ((fly_At.f k bt173.1 (wrap64 (a2 + a1))).bind fun bt183 => (if bt177.2.2.2.2 = bt183.2.2.2.2 then (if bt177.2.2.2.2 = 0 then (some ((wrap64 (bt177.1 + a1)) == bt183.1 && ((bt177.2.1 == bt183.2.1 && (bt177.2.2.1 == bt183.2.2.1)) && (bt177.2.2.2.1 == bt183.2.2.2.1)))) else (some true)) else (some false)))) else (some ((bt173.1.length : Int) == 0)))) else (some false))) = some r := h
 clear h
 replace H := Option.bind_eq_some_iff.mp H
 obtain ⟨t172, A40, H⟩ := H
 replace H : (if t172 = true then ((fly_Shift.f k l0 a1).bind fun bt173 => (if bt173.2 = 0 then ((fly_At.f k l0 a2).bind fun bt177 => ((fly_At.f k bt173.1 (wrap64 (a2 + a1))).bind fun bt183 => (if bt177.2.2.2.2 = bt183.2.2.2.2 then (if bt177.2.2.2.2 = 0 then (some ((wrap64 (bt177.1 + a1)) == bt183.1 && ((bt177.2.1 == bt183.2.1 && (bt177.2.2.1 == bt183.2.2.1)) && (bt177.2.2.2.1 == bt183.2.2.2.1)))) else (some true)) else (some false)))) else (some ((bt173.1.length : Int) == 0)))) else (some false)) = some r := H
 have A4 := Aside0.mk A40
 clear A40
 by_cases c5 : t172 = true
 · subst c5
   have H1 : ((fly_Shift.f k l0 a1).bind fun bt173 => (if bt173.2 = 0 then ((fly_At.f k l0 a2).bind fun bt177 => ((fly_At.f k bt173.1 (wrap64 (a2 + a1))).bind fun bt183 => (if bt177.2.2.2.2 = bt183.2.2.2.2 then (if bt177.2.2.2.2 = 0 then (some ((wrap64 (bt177.1 + a1)) == bt183.1 && ((bt177.2.1 == bt183.2.1 && (bt177.2.2.1 == bt183.2.2.1)) && (bt177.2.2.2.1 == bt183.2.2.2.1)))) else (some true)) else (some false)))) else (some ((bt173.1.length : Int) == 0)))) = some r := by rw [if_pos rfl] at H; exact H
   clear H
   have H := H1
   clear H1
   replace H := Option.bind_eq_some_iff.mp H
   obtain ⟨⟨t173, t174⟩, A60, H⟩ := H
   replace H : (if t174 = 0 then ((fly_At.f k l0 a2).bind fun bt177 => ((fly_At.f k t173 (wrap64 (a2 + a1))).bind fun bt183 => (if bt177.2.2.2.2 = bt183.2.2.2.2 then (if bt177.2.2.2.2 = 0 then (some ((wrap64 (bt177.1 + a1)) == bt183.1 && ((bt177.2.1 == bt183.2.1 && (bt177.2.2.1 == bt183.2.2.1)) && (bt177.2.2.2.1 == bt183.2.2.2.1)))) else (some true)) else (some false)))) else (some ((t173.length : Int) == 0))) = some r := H
   have A6 := Aside0.mk A60
   clear A60
   by_cases c7 : t174 = 0
   · rw [if_pos c7] at H
     have c7b0 : (t174 == 0) = true := beq_iff_eq.mpr c7
     have c7b1 : (t174 != 0) = false := bne_eq_false_iff_eq.mpr c7
     clear c7
     replace H := Option.bind_eq_some_iff.mp H
     obtain ⟨⟨t177, t178, t179, t180, t181⟩, A80, H⟩ := H
     replace H : ((fly_At.f k t173 (wrap64 (a2 + a1))).bind fun bt183 => (if t181 = bt183.2.2.2.2 then (if t181 = 0 then (some ((wrap64 (t177 + a1)) == bt183.1 && ((t178 == bt183.2.1 && (t179 == bt183.2.2.1)) && (t180 == bt183.2.2.2.1)))) else (some true)) else (some false))) = some r := H
     have A8 := Aside0.mk A80
     clear A80
     replace H := Option.bind_eq_some_iff.mp H
     obtain ⟨⟨t183, t184, t185, t186, t187⟩, A90, H⟩ := H
     replace H : (if t181 = t187 then (if t181 = 0 then (some ((wrap64 (t177 + a1)) == t183 && ((t178 == t184 && (t179 == t185)) && (t180 == t186)))) else (some true)) else (some false)) = some r := H
     have A9 := Aside0.mk A90
     clear A90
     by_cases c10 : t181 = t187
     · rw [if_pos c10] at H
       have c10b0 : (t181 == t187) = true := beq_iff_eq.mpr c10
       have c10b1 : (t181 != t187) = false := bne_eq_false_iff_eq.mpr c10
       clear c10
       by_cases c11 : t181 = 0
       · rw [if_pos c11] at H
         have c11b0 : (t181 == 0) = true := beq_iff_eq.mpr c11
         have c11b1 : (t181 != 0) = false := bne_eq_false_iff_eq.mpr c11
         clear c11
         obtain rfl := Option.some.inj H
         go_enter Try.func11, Try.ntmps11
         go_wp2_with (first | ((with_reducible refine gate_callee (f := 33) rfl ?_); refine goesL_ (some 13) rfl rfl Try.func33 (by kernel_rfl) rfl #[] rfl (by (try simp only [List.map_toArray, List.map_cons, List.map_nil]); first | done | rfl | (simp only [List.length_drop, List.length_take]; rfl)) ?_; (with_reducible refine (skywaykeep1_flyWorks.calls k  true _ A4.out).mono ?_); rintro e w12 ⟨rfl, hb⟩; refine ⟨_, rfl, ?_⟩; have n0_ := Aside0.mk (below_step (by repeat (first | (with_reducible first | exact HB.out | apply below_alloc | apply pw_below_drewN | apply below_drew1) | exact HB.out)) hb); clear HB; have HB := n0_; clear n0_; (try clear hb); (try clear hb2); (try clear hk); (try clear hi)) | ((with_reducible refine gate_callee (f := 37) rfl ?_); refine goesL_ (some 18) rfl rfl Try.func37 (by kernel_rfl) rfl #[.slice A0 l0.length c0, .int .i64 a1] rfl (by (try simp only [List.map_toArray, List.map_cons, List.map_nil]); first | done | rfl | (simp only [List.length_drop, List.length_take]; rfl)) ?_; (with_reducible refine (fly_Shift.calls k _ _ l0 a1 t173 t174 _ ?side1 ?side2 A6.out).mono ?_); (case side1 => repeat (first | exact (Kd.C_below HR0.out HB.out) | (with_reducible refine Kd.C_alloc ?_ _) | (with_reducible refine Kd.C_drewN ?_ _) | (with_reducible refine Kd.C_drew ?_))); (case side2 => exact HC0.out); rintro e w13 ⟨v175, rfl, ho0, hb⟩; refine ⟨_, rfl, ?_⟩; have n0_ := Aside0.mk (Kd.R_lower ho0 (below_size (by repeat (first | (with_reducible first | exact HB.out | apply below_alloc | apply pw_below_drewN | apply below_drew1) | exact HB.out)))); have n1_ := Aside0.mk (below_step (by repeat (first | (with_reducible first | exact HB.out | apply below_alloc | apply pw_below_drewN | apply below_drew1) | exact HB.out)) hb); clear HB; have HO176 := n0_; have HB := n1_; clear n0_ n1_; (try clear hb); (try clear hb2); (try clear hk); (try clear hi); (try clear ho0)) | ((with_reducible refine gate_callee (f := 34) rfl ?_); refine goesL_ (some 29) rfl rfl Try.func34 (by kernel_rfl) rfl #[.slice A0 l0.length c0, .int .i64 a2] rfl (by (try simp only [List.map_toArray, List.map_cons, List.map_nil]); first | done | rfl | (simp only [List.length_drop, List.length_take]; rfl)) ?_; (with_reducible refine (fly_At.calls k _ _ l0 a2 t177 t178 t179 t180 t181 _ ?side1 ?side2 A8.out).mono ?_); (case side1 => repeat (first | exact (Kd.C_below HR0.out HB.out) | (with_reducible refine Kd.C_alloc ?_ _) | (with_reducible refine Kd.C_drewN ?_ _) | (with_reducible refine Kd.C_drew ?_))); (case side2 => exact HC0.out); rintro e w14 ⟨rfl, hb⟩; refine ⟨_, rfl, ?_⟩; have n0_ := Aside0.mk (Kd.R_below (by (with_reducible repeat (first | apply Kd.R_alloc | apply Kd.R_drewN | apply Kd.R_drew)); exact HO176.out) hb); have n1_ := Aside0.mk (below_step (by repeat (first | (with_reducible first | exact HB.out | apply below_alloc | apply pw_below_drewN | apply below_drew1) | exact HB.out)) hb); clear HO176; clear HB; have HO176 := n0_; have HB := n1_; clear n0_ n1_; (try clear hb); (try clear hb2); (try clear hk); (try clear hi)) | ((with_reducible refine gate_dst (N := 9) rfl ?_); refine box_event ?hg (N := 9) ?hd (cs := #[.int .i64 0, .int .i64 0, .int .i64 0, .int .i64 0]) (t := 49) ?hr ?_; (case hd => rfl); (case hg => rfl); (case hr => first | (go_simp; done) | (go_simp; rfl)); intro gb182 hg w15 hbox hb; have n0_ := Aside0.mk (Kd.R_below (Kd.R_elderB (by (with_reducible repeat (first | apply Kd.R_alloc | apply Kd.R_drewN | apply Kd.R_drew)); exact HO176.out) gb182 (Nat.le_of_eq hg.symm)) hb); have n1_ := Aside0.mk (below_step (by repeat (first | (with_reducible first | exact HB.out | apply below_alloc | apply pw_below_drewN | apply below_drew1) | exact HB.out)) hb); have n2_ := Aside0.mk (hbox); have n3_ := Aside0.mk ((by rw [hg]; exact (below_size (by repeat (first | (with_reducible first | exact HB.out | apply below_alloc | apply pw_below_drewN | apply below_drew1) | exact HB.out))) : w.heap.size ≤ gb182)); have n4_ := Aside0.mk ((by rw [hg]; exact (below_size (by repeat (first | (with_reducible first | exact HB.out | apply below_alloc | apply pw_below_drewN | apply below_drew1) | exact HB.out))) : w.heap.size ≤ gb182)); clear HO176; clear HB; have HO176 := n0_; have HB := n1_; have BK182 := n2_; have GW182 := n3_; have GE182 := n4_; clear n0_ n1_ n2_ n3_ n4_; clear hb hbox hg; have hcz16_0 : w15.cell? ⟨gb182, 0, none⟩ = some (.int .i64 0) := (blk_cell BK182.out 0).trans rfl; have hcz16_1 : w15.cell? ⟨gb182, 1, none⟩ = some (.int .i64 0) := (blk_cell BK182.out 1).trans rfl; have hcz16_2 : w15.cell? ⟨gb182, 2, none⟩ = some (.int .i64 0) := (blk_cell BK182.out 2).trans rfl; have hcz16_3 : w15.cell? ⟨gb182, 3, none⟩ = some (.int .i64 0) := (blk_cell BK182.out 3).trans rfl; have hfz16_0 := blk_frozen BK182.out 0; have hfz16_1 := blk_frozen BK182.out 1; have hfz16_2 := blk_frozen BK182.out 2; have hfz16_3 := blk_frozen BK182.out 3; obtain ⟨Ao17, co17, eo17⟩ := Kd.R_slice HO176.out; subst eo17) | ((with_reducible refine gate_callee (f := 34) rfl ?_); refine goesL_ (some 37) rfl rfl Try.func34 (by kernel_rfl) rfl #[.slice Ao17 t173.length co17, .int .i64 (wrap64 (a2 + a1))] rfl (by (try simp only [List.map_toArray, List.map_cons, List.map_nil]); first | done | rfl | (simp only [List.length_drop, List.length_take]; rfl)) ?_; (with_reducible refine (fly_At.calls k _ _ t173 (wrap64 (a2 + a1)) t183 t184 t185 t186 t187 _ ?side1 ?side2 A9.out).mono ?_); (case side1 => refine (Kd.R_reads' (e := 49) (base := w.heap.size) (ok := fun k_ => (True ∧ k_ ≠ gb182)) (n := t173.length) (c := co17) ?_).2.2; exact (by (with_reducible repeat (first | apply Kd.R_alloc | apply Kd.R_drewN | apply Kd.R_drew)); exact (Kd.R_mono (Kd.R_far (p := ⟨gb182, 3, none⟩) (Kd.R_far (p := ⟨gb182, 2, none⟩) (Kd.R_far (p := ⟨gb182, 1, none⟩) (Kd.R_far (p := ⟨gb182, 0, none⟩) (Kd.R_mono HO176.out (fun k_ hk => (⟨hk, hk.2⟩ : _ ∧ k_ ≠ gb182))) (fun _ hk => hk.2) (.int .i64 t177)) (fun _ hk => hk.2) (.int .i64 t178)) (fun _ hk => hk.2) (.int .i64 t179)) (fun _ hk => hk.2) (.int .i64 t180)) (fun _ h_ => h_.1)))); (case side2 => exact (Kd.R_reads' HO176.out).2.1); rintro e w18 ⟨rfl, hb⟩; refine ⟨_, rfl, ?_⟩; have n0_ := Aside0.mk (Kd.R_below (by (with_reducible repeat (first | apply Kd.R_alloc | apply Kd.R_drewN | apply Kd.R_drew)); exact (Kd.R_mono (Kd.R_far (p := ⟨gb182, 3, none⟩) (Kd.R_far (p := ⟨gb182, 2, none⟩) (Kd.R_far (p := ⟨gb182, 1, none⟩) (Kd.R_far (p := ⟨gb182, 0, none⟩) (Kd.R_mono HO176.out (fun k_ hk => (⟨hk, hk.2⟩ : _ ∧ k_ ≠ gb182))) (fun _ hk => hk.2) (.int .i64 t177)) (fun _ hk => hk.2) (.int .i64 t178)) (fun _ hk => hk.2) (.int .i64 t179)) (fun _ hk => hk.2) (.int .i64 t180)) (fun _ h_ => h_.1))) hb); have n1_ := Aside0.mk (blk_below (g := gb182) (o := .cells #[.int .i64 t177, .int .i64 t178, .int .i64 t179, .int .i64 t180] 49 (0, 0)) (by (with_reducible repeat (first | refine blk_drewN ?_ _ | refine blk_drew ?_ | refine blk_alloc ?_ _)); refine blk_put (cs := #[.int .i64 t177, .int .i64 t178, .int .i64 t179, .int .i64 0]) ?_ 3 _ rfl; (with_reducible repeat (first | refine blk_drewN ?_ _ | refine blk_drew ?_ | refine blk_alloc ?_ _)); refine blk_put (cs := #[.int .i64 t177, .int .i64 t178, .int .i64 0, .int .i64 0]) ?_ 2 _ rfl; (with_reducible repeat (first | refine blk_drewN ?_ _ | refine blk_drew ?_ | refine blk_alloc ?_ _)); refine blk_put (cs := #[.int .i64 t177, .int .i64 0, .int .i64 0, .int .i64 0]) ?_ 1 _ rfl; (with_reducible repeat (first | refine blk_drewN ?_ _ | refine blk_drew ?_ | refine blk_alloc ?_ _)); refine blk_put (cs := #[.int .i64 0, .int .i64 0, .int .i64 0, .int .i64 0]) ?_ 0 _ rfl; (with_reducible repeat (first | refine blk_drewN ?_ _ | refine blk_drew ?_ | refine blk_alloc ?_ _)); exact BK182.out) hb); have n2_ := Aside0.mk (below_step (by repeat (first | (with_reducible first | exact HB.out | apply below_alloc | apply pw_below_drewN | apply below_drew1 | refine below_set ?_ GE182.out) | exact HB.out)) hb); clear HO176; clear BK182; clear HB; have HO176 := n0_; have BK182 := n1_; have HB := n2_; clear n0_ n1_ n2_; (try clear hb); (try clear hb2); (try clear hk); (try clear hi)) | ((with_reducible refine gate_dst (N := 11) rfl ?_); refine box_event ?hg (N := 11) ?hd (cs := #[.int .i64 0, .int .i64 0, .int .i64 0, .int .i64 0]) (t := 49) ?hr ?_; (case hd => rfl); (case hg => rfl); (case hr => first | (go_simp; done) | (go_simp; rfl)); intro gb188 hg w19 hbox hb; have n0_ := Aside0.mk (Kd.R_below (Kd.R_elderB (by (with_reducible repeat (first | apply Kd.R_alloc | apply Kd.R_drewN | apply Kd.R_drew)); exact HO176.out) gb188 (Nat.le_of_eq hg.symm)) hb); have n1_ := Aside0.mk (blk_below (g := gb182) (o := .cells #[.int .i64 t177, .int .i64 t178, .int .i64 t179, .int .i64 t180] 49 (0, 0)) (by (with_reducible repeat (first | refine blk_drewN ?_ _ | refine blk_drew ?_ | refine blk_alloc ?_ _)); exact BK182.out) hb); have n2_ := Aside0.mk (below_step (by repeat (first | (with_reducible first | exact HB.out | apply below_alloc | apply pw_below_drewN | apply below_drew1 | refine below_set ?_ GE182.out) | exact HB.out)) hb); have n3_ := Aside0.mk (hbox); have n4_ := Aside0.mk ((by rw [hg]; exact (below_size (by repeat (first | (with_reducible first | exact HB.out | apply below_alloc | apply pw_below_drewN | apply below_drew1 | refine below_set ?_ GE182.out) | exact HB.out))) : w.heap.size ≤ gb188)); have n5_ := Aside0.mk ((by rw [hg]; exact (below_size (by repeat (first | (with_reducible first | exact HB.out | apply below_alloc | apply pw_below_drewN | apply below_drew1 | refine below_set ?_ GE182.out) | exact HB.out))) : w.heap.size ≤ gb188)); have n6_ := Aside0.mk ((by rw [hg]; exact Nat.ne_of_lt (blk_lt (g := gb182) (o := .cells #[.int .i64 t177, .int .i64 t178, .int .i64 t179, .int .i64 t180] 49 (0, 0)) (by (with_reducible repeat (first | refine blk_drewN ?_ _ | refine blk_drew ?_ | refine blk_alloc ?_ _)); exact BK182.out)) : gb182 ≠ gb188)); have n7_ := Aside0.mk ((by rw [hg]; exact Nat.ne_of_gt (blk_lt (g := gb182) (o := .cells #[.int .i64 t177, .int .i64 t178, .int .i64 t179, .int .i64 t180] 49 (0, 0)) (by (with_reducible repeat (first | refine blk_drewN ?_ _ | refine blk_drew ?_ | refine blk_alloc ?_ _)); exact BK182.out)) : gb188 ≠ gb182)); clear HO176; clear BK182; clear HB; have HO176 := n0_; have BK182 := n1_; have HB := n2_; have BK188 := n3_; have GW188 := n4_; have GE188 := n5_; have NB182_188 := n6_; have NB188_182 := n7_; clear n0_ n1_ n2_ n3_ n4_ n5_ n6_ n7_; clear hb hbox hg; have hnb20 := NB188_182.out; have hnc20 := NB182_188.out; have hcz21_0 : w19.cell? ⟨gb188, 0, none⟩ = some (.int .i64 0) := (blk_cell BK188.out 0).trans rfl; have hcz21_1 : w19.cell? ⟨gb188, 1, none⟩ = some (.int .i64 0) := (blk_cell BK188.out 1).trans rfl; have hcz21_2 : w19.cell? ⟨gb188, 2, none⟩ = some (.int .i64 0) := (blk_cell BK188.out 2).trans rfl; have hcz21_3 : w19.cell? ⟨gb188, 3, none⟩ = some (.int .i64 0) := (blk_cell BK188.out 3).trans rfl; have hfz21_0 := blk_frozen BK188.out 0; have hfz21_1 := blk_frozen BK188.out 1; have hfz21_2 := blk_frozen BK188.out 2; have hfz21_3 := blk_frozen BK188.out 3; have hcz22_0 : w19.cell? ⟨gb182, 0, none⟩ = some (.int .i64 t177) := (blk_cell BK182.out 0).trans rfl; have hcz22_1 : w19.cell? ⟨gb182, 1, none⟩ = some (.int .i64 t178) := (blk_cell BK182.out 1).trans rfl; have hcz22_2 : w19.cell? ⟨gb182, 2, none⟩ = some (.int .i64 t179) := (blk_cell BK182.out 2).trans rfl; have hcz22_3 : w19.cell? ⟨gb182, 3, none⟩ = some (.int .i64 t180) := (blk_cell BK182.out 3).trans rfl; have hfz22_0 := blk_frozen BK182.out 0; have hfz22_1 := blk_frozen BK182.out 1; have hfz22_2 := blk_frozen BK182.out 2; have hfz22_3 := blk_frozen BK182.out 3))
         go_ret
         exact ⟨by first | rfl | (simp [errW_none, errW_some] <;> rfl) | (simp [*, errW_none, errW_some] <;> rfl), by repeat (first | (with_reducible first | exact HB.out | apply below_alloc | apply pw_below_drewN | apply below_drew1 | refine below_set ?_ GE182.out | refine below_set ?_ GE188.out) | exact HB.out)⟩
       · rw [if_neg c11] at H
         have c11b0 : (t181 == 0) = false := beq_eq_false_iff_ne.mpr c11
         have c11b1 : (t181 != 0) = true := bne_iff_ne.mpr c11
         obtain rfl := Option.some.inj H
         go_enter Try.func11, Try.ntmps11
         go_wp2_with (first | ((with_reducible refine gate_callee (f := 33) rfl ?_); refine goesL_ (some 13) rfl rfl Try.func33 (by kernel_rfl) rfl #[] rfl (by (try simp only [List.map_toArray, List.map_cons, List.map_nil]); first | done | rfl | (simp only [List.length_drop, List.length_take]; rfl)) ?_; (with_reducible refine (skywaykeep1_flyWorks.calls k  true _ A4.out).mono ?_); rintro e w23 ⟨rfl, hb⟩; refine ⟨_, rfl, ?_⟩; have n0_ := Aside0.mk (below_step (by repeat (first | (with_reducible first | exact HB.out | apply below_alloc | apply pw_below_drewN | apply below_drew1) | exact HB.out)) hb); clear HB; have HB := n0_; clear n0_; (try clear hb); (try clear hb2); (try clear hk); (try clear hi)) | ((with_reducible refine gate_callee (f := 37) rfl ?_); refine goesL_ (some 18) rfl rfl Try.func37 (by kernel_rfl) rfl #[.slice A0 l0.length c0, .int .i64 a1] rfl (by (try simp only [List.map_toArray, List.map_cons, List.map_nil]); first | done | rfl | (simp only [List.length_drop, List.length_take]; rfl)) ?_; (with_reducible refine (fly_Shift.calls k _ _ l0 a1 t173 t174 _ ?side1 ?side2 A6.out).mono ?_); (case side1 => repeat (first | exact (Kd.C_below HR0.out HB.out) | (with_reducible refine Kd.C_alloc ?_ _) | (with_reducible refine Kd.C_drewN ?_ _) | (with_reducible refine Kd.C_drew ?_))); (case side2 => exact HC0.out); rintro e w24 ⟨v175, rfl, ho0, hb⟩; refine ⟨_, rfl, ?_⟩; have n0_ := Aside0.mk (Kd.R_lower ho0 (below_size (by repeat (first | (with_reducible first | exact HB.out | apply below_alloc | apply pw_below_drewN | apply below_drew1) | exact HB.out)))); have n1_ := Aside0.mk (below_step (by repeat (first | (with_reducible first | exact HB.out | apply below_alloc | apply pw_below_drewN | apply below_drew1) | exact HB.out)) hb); clear HB; have HO176 := n0_; have HB := n1_; clear n0_ n1_; (try clear hb); (try clear hb2); (try clear hk); (try clear hi); (try clear ho0)) | ((with_reducible refine gate_callee (f := 34) rfl ?_); refine goesL_ (some 29) rfl rfl Try.func34 (by kernel_rfl) rfl #[.slice A0 l0.length c0, .int .i64 a2] rfl (by (try simp only [List.map_toArray, List.map_cons, List.map_nil]); first | done | rfl | (simp only [List.length_drop, List.length_take]; rfl)) ?_; (with_reducible refine (fly_At.calls k _ _ l0 a2 t177 t178 t179 t180 t181 _ ?side1 ?side2 A8.out).mono ?_); (case side1 => repeat (first | exact (Kd.C_below HR0.out HB.out) | (with_reducible refine Kd.C_alloc ?_ _) | (with_reducible refine Kd.C_drewN ?_ _) | (with_reducible refine Kd.C_drew ?_))); (case side2 => exact HC0.out); rintro e w25 ⟨rfl, hb⟩; refine ⟨_, rfl, ?_⟩; have n0_ := Aside0.mk (Kd.R_below (by (with_reducible repeat (first | apply Kd.R_alloc | apply Kd.R_drewN | apply Kd.R_drew)); exact HO176.out) hb); have n1_ := Aside0.mk (below_step (by repeat (first | (with_reducible first | exact HB.out | apply below_alloc | apply pw_below_drewN | apply below_drew1) | exact HB.out)) hb); clear HO176; clear HB; have HO176 := n0_; have HB := n1_; clear n0_ n1_; (try clear hb); (try clear hb2); (try clear hk); (try clear hi)) | ((with_reducible refine gate_dst (N := 9) rfl ?_); refine box_event ?hg (N := 9) ?hd (cs := #[.int .i64 0, .int .i64 0, .int .i64 0, .int .i64 0]) (t := 49) ?hr ?_; (case hd => rfl); (case hg => rfl); (case hr => first | (go_simp; done) | (go_simp; rfl)); intro gb182 hg w26 hbox hb; have n0_ := Aside0.mk (Kd.R_below (Kd.R_elderB (by (with_reducible repeat (first | apply Kd.R_alloc | apply Kd.R_drewN | apply Kd.R_drew)); exact HO176.out) gb182 (Nat.le_of_eq hg.symm)) hb); have n1_ := Aside0.mk (below_step (by repeat (first | (with_reducible first | exact HB.out | apply below_alloc | apply pw_below_drewN | apply below_drew1) | exact HB.out)) hb); have n2_ := Aside0.mk (hbox); have n3_ := Aside0.mk ((by rw [hg]; exact (below_size (by repeat (first | (with_reducible first | exact HB.out | apply below_alloc | apply pw_below_drewN | apply below_drew1) | exact HB.out))) : w.heap.size ≤ gb182)); have n4_ := Aside0.mk ((by rw [hg]; exact (below_size (by repeat (first | (with_reducible first | exact HB.out | apply below_alloc | apply pw_below_drewN | apply below_drew1) | exact HB.out))) : w.heap.size ≤ gb182)); clear HO176; clear HB; have HO176 := n0_; have HB := n1_; have BK182 := n2_; have GW182 := n3_; have GE182 := n4_; clear n0_ n1_ n2_ n3_ n4_; clear hb hbox hg; have hcz27_0 : w26.cell? ⟨gb182, 0, none⟩ = some (.int .i64 0) := (blk_cell BK182.out 0).trans rfl; have hcz27_1 : w26.cell? ⟨gb182, 1, none⟩ = some (.int .i64 0) := (blk_cell BK182.out 1).trans rfl; have hcz27_2 : w26.cell? ⟨gb182, 2, none⟩ = some (.int .i64 0) := (blk_cell BK182.out 2).trans rfl; have hcz27_3 : w26.cell? ⟨gb182, 3, none⟩ = some (.int .i64 0) := (blk_cell BK182.out 3).trans rfl; have hfz27_0 := blk_frozen BK182.out 0; have hfz27_1 := blk_frozen BK182.out 1; have hfz27_2 := blk_frozen BK182.out 2; have hfz27_3 := blk_frozen BK182.out 3; obtain ⟨Ao28, co28, eo28⟩ := Kd.R_slice HO176.out; subst eo28) | ((with_reducible refine gate_callee (f := 34) rfl ?_); refine goesL_ (some 37) rfl rfl Try.func34 (by kernel_rfl) rfl #[.slice Ao28 t173.length co28, .int .i64 (wrap64 (a2 + a1))] rfl (by (try simp only [List.map_toArray, List.map_cons, List.map_nil]); first | done | rfl | (simp only [List.length_drop, List.length_take]; rfl)) ?_; (with_reducible refine (fly_At.calls k _ _ t173 (wrap64 (a2 + a1)) t183 t184 t185 t186 t187 _ ?side1 ?side2 A9.out).mono ?_); (case side1 => refine (Kd.R_reads' (e := 49) (base := w.heap.size) (ok := fun k_ => (True ∧ k_ ≠ gb182)) (n := t173.length) (c := co28) ?_).2.2; exact (by (with_reducible repeat (first | apply Kd.R_alloc | apply Kd.R_drewN | apply Kd.R_drew)); exact (Kd.R_mono (Kd.R_far (p := ⟨gb182, 3, none⟩) (Kd.R_far (p := ⟨gb182, 2, none⟩) (Kd.R_far (p := ⟨gb182, 1, none⟩) (Kd.R_far (p := ⟨gb182, 0, none⟩) (Kd.R_mono HO176.out (fun k_ hk => (⟨hk, hk.2⟩ : _ ∧ k_ ≠ gb182))) (fun _ hk => hk.2) (.int .i64 t177)) (fun _ hk => hk.2) (.int .i64 t178)) (fun _ hk => hk.2) (.int .i64 t179)) (fun _ hk => hk.2) (.int .i64 t180)) (fun _ h_ => h_.1)))); (case side2 => exact (Kd.R_reads' HO176.out).2.1); rintro e w29 ⟨rfl, hb⟩; refine ⟨_, rfl, ?_⟩; have n0_ := Aside0.mk (Kd.R_below (by (with_reducible repeat (first | apply Kd.R_alloc | apply Kd.R_drewN | apply Kd.R_drew)); exact (Kd.R_mono (Kd.R_far (p := ⟨gb182, 3, none⟩) (Kd.R_far (p := ⟨gb182, 2, none⟩) (Kd.R_far (p := ⟨gb182, 1, none⟩) (Kd.R_far (p := ⟨gb182, 0, none⟩) (Kd.R_mono HO176.out (fun k_ hk => (⟨hk, hk.2⟩ : _ ∧ k_ ≠ gb182))) (fun _ hk => hk.2) (.int .i64 t177)) (fun _ hk => hk.2) (.int .i64 t178)) (fun _ hk => hk.2) (.int .i64 t179)) (fun _ hk => hk.2) (.int .i64 t180)) (fun _ h_ => h_.1))) hb); have n1_ := Aside0.mk (blk_below (g := gb182) (o := .cells #[.int .i64 t177, .int .i64 t178, .int .i64 t179, .int .i64 t180] 49 (0, 0)) (by (with_reducible repeat (first | refine blk_drewN ?_ _ | refine blk_drew ?_ | refine blk_alloc ?_ _)); refine blk_put (cs := #[.int .i64 t177, .int .i64 t178, .int .i64 t179, .int .i64 0]) ?_ 3 _ rfl; (with_reducible repeat (first | refine blk_drewN ?_ _ | refine blk_drew ?_ | refine blk_alloc ?_ _)); refine blk_put (cs := #[.int .i64 t177, .int .i64 t178, .int .i64 0, .int .i64 0]) ?_ 2 _ rfl; (with_reducible repeat (first | refine blk_drewN ?_ _ | refine blk_drew ?_ | refine blk_alloc ?_ _)); refine blk_put (cs := #[.int .i64 t177, .int .i64 0, .int .i64 0, .int .i64 0]) ?_ 1 _ rfl; (with_reducible repeat (first | refine blk_drewN ?_ _ | refine blk_drew ?_ | refine blk_alloc ?_ _)); refine blk_put (cs := #[.int .i64 0, .int .i64 0, .int .i64 0, .int .i64 0]) ?_ 0 _ rfl; (with_reducible repeat (first | refine blk_drewN ?_ _ | refine blk_drew ?_ | refine blk_alloc ?_ _)); exact BK182.out) hb); have n2_ := Aside0.mk (below_step (by repeat (first | (with_reducible first | exact HB.out | apply below_alloc | apply pw_below_drewN | apply below_drew1 | refine below_set ?_ GE182.out) | exact HB.out)) hb); clear HO176; clear BK182; clear HB; have HO176 := n0_; have BK182 := n1_; have HB := n2_; clear n0_ n1_ n2_; (try clear hb); (try clear hb2); (try clear hk); (try clear hi)) | ((with_reducible refine gate_dst (N := 11) rfl ?_); refine box_event ?hg (N := 11) ?hd (cs := #[.int .i64 0, .int .i64 0, .int .i64 0, .int .i64 0]) (t := 49) ?hr ?_; (case hd => rfl); (case hg => rfl); (case hr => first | (go_simp; done) | (go_simp; rfl)); intro gb188 hg w30 hbox hb; have n0_ := Aside0.mk (Kd.R_below (Kd.R_elderB (by (with_reducible repeat (first | apply Kd.R_alloc | apply Kd.R_drewN | apply Kd.R_drew)); exact HO176.out) gb188 (Nat.le_of_eq hg.symm)) hb); have n1_ := Aside0.mk (blk_below (g := gb182) (o := .cells #[.int .i64 t177, .int .i64 t178, .int .i64 t179, .int .i64 t180] 49 (0, 0)) (by (with_reducible repeat (first | refine blk_drewN ?_ _ | refine blk_drew ?_ | refine blk_alloc ?_ _)); exact BK182.out) hb); have n2_ := Aside0.mk (below_step (by repeat (first | (with_reducible first | exact HB.out | apply below_alloc | apply pw_below_drewN | apply below_drew1 | refine below_set ?_ GE182.out) | exact HB.out)) hb); have n3_ := Aside0.mk (hbox); have n4_ := Aside0.mk ((by rw [hg]; exact (below_size (by repeat (first | (with_reducible first | exact HB.out | apply below_alloc | apply pw_below_drewN | apply below_drew1 | refine below_set ?_ GE182.out) | exact HB.out))) : w.heap.size ≤ gb188)); have n5_ := Aside0.mk ((by rw [hg]; exact (below_size (by repeat (first | (with_reducible first | exact HB.out | apply below_alloc | apply pw_below_drewN | apply below_drew1 | refine below_set ?_ GE182.out) | exact HB.out))) : w.heap.size ≤ gb188)); have n6_ := Aside0.mk ((by rw [hg]; exact Nat.ne_of_lt (blk_lt (g := gb182) (o := .cells #[.int .i64 t177, .int .i64 t178, .int .i64 t179, .int .i64 t180] 49 (0, 0)) (by (with_reducible repeat (first | refine blk_drewN ?_ _ | refine blk_drew ?_ | refine blk_alloc ?_ _)); exact BK182.out)) : gb182 ≠ gb188)); have n7_ := Aside0.mk ((by rw [hg]; exact Nat.ne_of_gt (blk_lt (g := gb182) (o := .cells #[.int .i64 t177, .int .i64 t178, .int .i64 t179, .int .i64 t180] 49 (0, 0)) (by (with_reducible repeat (first | refine blk_drewN ?_ _ | refine blk_drew ?_ | refine blk_alloc ?_ _)); exact BK182.out)) : gb188 ≠ gb182)); clear HO176; clear BK182; clear HB; have HO176 := n0_; have BK182 := n1_; have HB := n2_; have BK188 := n3_; have GW188 := n4_; have GE188 := n5_; have NB182_188 := n6_; have NB188_182 := n7_; clear n0_ n1_ n2_ n3_ n4_ n5_ n6_ n7_; clear hb hbox hg; have hnb31 := NB188_182.out; have hnc31 := NB182_188.out; have hcz32_0 : w30.cell? ⟨gb188, 0, none⟩ = some (.int .i64 0) := (blk_cell BK188.out 0).trans rfl; have hcz32_1 : w30.cell? ⟨gb188, 1, none⟩ = some (.int .i64 0) := (blk_cell BK188.out 1).trans rfl; have hcz32_2 : w30.cell? ⟨gb188, 2, none⟩ = some (.int .i64 0) := (blk_cell BK188.out 2).trans rfl; have hcz32_3 : w30.cell? ⟨gb188, 3, none⟩ = some (.int .i64 0) := (blk_cell BK188.out 3).trans rfl; have hfz32_0 := blk_frozen BK188.out 0; have hfz32_1 := blk_frozen BK188.out 1; have hfz32_2 := blk_frozen BK188.out 2; have hfz32_3 := blk_frozen BK188.out 3; have hcz33_0 : w30.cell? ⟨gb182, 0, none⟩ = some (.int .i64 t177) := (blk_cell BK182.out 0).trans rfl; have hcz33_1 : w30.cell? ⟨gb182, 1, none⟩ = some (.int .i64 t178) := (blk_cell BK182.out 1).trans rfl; have hcz33_2 : w30.cell? ⟨gb182, 2, none⟩ = some (.int .i64 t179) := (blk_cell BK182.out 2).trans rfl; have hcz33_3 : w30.cell? ⟨gb182, 3, none⟩ = some (.int .i64 t180) := (blk_cell BK182.out 3).trans rfl; have hfz33_0 := blk_frozen BK182.out 0; have hfz33_1 := blk_frozen BK182.out 1; have hfz33_2 := blk_frozen BK182.out 2; have hfz33_3 := blk_frozen BK182.out 3))
         go_ret
         exact ⟨by first | rfl | (simp [errW_none, errW_some] <;> rfl) | (simp [*, errW_none, errW_some] <;> rfl), by repeat (first | (with_reducible first | exact HB.out | apply below_alloc | apply pw_below_drewN | apply below_drew1 | refine below_set ?_ GE182.out | refine below_set ?_ GE188.out) | exact HB.out)⟩
     · rw [if_neg c10] at H
       have c10b0 : (t181 == t187) = false := beq_eq_false_iff_ne.mpr c10
       have c10b1 : (t181 != t187) = true := bne_iff_ne.mpr c10
       obtain rfl := Option.some.inj H
       go_enter Try.func11, Try.ntmps11
       go_wp2_with (first | ((with_reducible refine gate_callee (f := 33) rfl ?_); refine goesL_ (some 13) rfl rfl Try.func33 (by kernel_rfl) rfl #[] rfl (by (try simp only [List.map_toArray, List.map_cons, List.map_nil]); first | done | rfl | (simp only [List.length_drop, List.length_take]; rfl)) ?_; (with_reducible refine (skywaykeep1_flyWorks.calls k  true _ A4.out).mono ?_); rintro e w34 ⟨rfl, hb⟩; refine ⟨_, rfl, ?_⟩; have n0_ := Aside0.mk (below_step (by repeat (first | (with_reducible first | exact HB.out | apply below_alloc | apply pw_below_drewN | apply below_drew1) | exact HB.out)) hb); clear HB; have HB := n0_; clear n0_; (try clear hb); (try clear hb2); (try clear hk); (try clear hi)) | ((with_reducible refine gate_callee (f := 37) rfl ?_); refine goesL_ (some 18) rfl rfl Try.func37 (by kernel_rfl) rfl #[.slice A0 l0.length c0, .int .i64 a1] rfl (by (try simp only [List.map_toArray, List.map_cons, List.map_nil]); first | done | rfl | (simp only [List.length_drop, List.length_take]; rfl)) ?_; (with_reducible refine (fly_Shift.calls k _ _ l0 a1 t173 t174 _ ?side1 ?side2 A6.out).mono ?_); (case side1 => repeat (first | exact (Kd.C_below HR0.out HB.out) | (with_reducible refine Kd.C_alloc ?_ _) | (with_reducible refine Kd.C_drewN ?_ _) | (with_reducible refine Kd.C_drew ?_))); (case side2 => exact HC0.out); rintro e w35 ⟨v175, rfl, ho0, hb⟩; refine ⟨_, rfl, ?_⟩; have n0_ := Aside0.mk (Kd.R_lower ho0 (below_size (by repeat (first | (with_reducible first | exact HB.out | apply below_alloc | apply pw_below_drewN | apply below_drew1) | exact HB.out)))); have n1_ := Aside0.mk (below_step (by repeat (first | (with_reducible first | exact HB.out | apply below_alloc | apply pw_below_drewN | apply below_drew1) | exact HB.out)) hb); clear HB; have HO176 := n0_; have HB := n1_; clear n0_ n1_; (try clear hb); (try clear hb2); (try clear hk); (try clear hi); (try clear ho0)) | ((with_reducible refine gate_callee (f := 34) rfl ?_); refine goesL_ (some 29) rfl rfl Try.func34 (by kernel_rfl) rfl #[.slice A0 l0.length c0, .int .i64 a2] rfl (by (try simp only [List.map_toArray, List.map_cons, List.map_nil]); first | done | rfl | (simp only [List.length_drop, List.length_take]; rfl)) ?_; (with_reducible refine (fly_At.calls k _ _ l0 a2 t177 t178 t179 t180 t181 _ ?side1 ?side2 A8.out).mono ?_); (case side1 => repeat (first | exact (Kd.C_below HR0.out HB.out) | (with_reducible refine Kd.C_alloc ?_ _) | (with_reducible refine Kd.C_drewN ?_ _) | (with_reducible refine Kd.C_drew ?_))); (case side2 => exact HC0.out); rintro e w36 ⟨rfl, hb⟩; refine ⟨_, rfl, ?_⟩; have n0_ := Aside0.mk (Kd.R_below (by (with_reducible repeat (first | apply Kd.R_alloc | apply Kd.R_drewN | apply Kd.R_drew)); exact HO176.out) hb); have n1_ := Aside0.mk (below_step (by repeat (first | (with_reducible first | exact HB.out | apply below_alloc | apply pw_below_drewN | apply below_drew1) | exact HB.out)) hb); clear HO176; clear HB; have HO176 := n0_; have HB := n1_; clear n0_ n1_; (try clear hb); (try clear hb2); (try clear hk); (try clear hi)) | ((with_reducible refine gate_dst (N := 9) rfl ?_); refine box_event ?hg (N := 9) ?hd (cs := #[.int .i64 0, .int .i64 0, .int .i64 0, .int .i64 0]) (t := 49) ?hr ?_; (case hd => rfl); (case hg => rfl); (case hr => first | (go_simp; done) | (go_simp; rfl)); intro gb182 hg w37 hbox hb; have n0_ := Aside0.mk (Kd.R_below (Kd.R_elderB (by (with_reducible repeat (first | apply Kd.R_alloc | apply Kd.R_drewN | apply Kd.R_drew)); exact HO176.out) gb182 (Nat.le_of_eq hg.symm)) hb); have n1_ := Aside0.mk (below_step (by repeat (first | (with_reducible first | exact HB.out | apply below_alloc | apply pw_below_drewN | apply below_drew1) | exact HB.out)) hb); have n2_ := Aside0.mk (hbox); have n3_ := Aside0.mk ((by rw [hg]; exact (below_size (by repeat (first | (with_reducible first | exact HB.out | apply below_alloc | apply pw_below_drewN | apply below_drew1) | exact HB.out))) : w.heap.size ≤ gb182)); have n4_ := Aside0.mk ((by rw [hg]; exact (below_size (by repeat (first | (with_reducible first | exact HB.out | apply below_alloc | apply pw_below_drewN | apply below_drew1) | exact HB.out))) : w.heap.size ≤ gb182)); clear HO176; clear HB; have HO176 := n0_; have HB := n1_; have BK182 := n2_; have GW182 := n3_; have GE182 := n4_; clear n0_ n1_ n2_ n3_ n4_; clear hb hbox hg; have hcz38_0 : w37.cell? ⟨gb182, 0, none⟩ = some (.int .i64 0) := (blk_cell BK182.out 0).trans rfl; have hcz38_1 : w37.cell? ⟨gb182, 1, none⟩ = some (.int .i64 0) := (blk_cell BK182.out 1).trans rfl; have hcz38_2 : w37.cell? ⟨gb182, 2, none⟩ = some (.int .i64 0) := (blk_cell BK182.out 2).trans rfl; have hcz38_3 : w37.cell? ⟨gb182, 3, none⟩ = some (.int .i64 0) := (blk_cell BK182.out 3).trans rfl; have hfz38_0 := blk_frozen BK182.out 0; have hfz38_1 := blk_frozen BK182.out 1; have hfz38_2 := blk_frozen BK182.out 2; have hfz38_3 := blk_frozen BK182.out 3; obtain ⟨Ao39, co39, eo39⟩ := Kd.R_slice HO176.out; subst eo39) | ((with_reducible refine gate_callee (f := 34) rfl ?_); refine goesL_ (some 37) rfl rfl Try.func34 (by kernel_rfl) rfl #[.slice Ao39 t173.length co39, .int .i64 (wrap64 (a2 + a1))] rfl (by (try simp only [List.map_toArray, List.map_cons, List.map_nil]); first | done | rfl | (simp only [List.length_drop, List.length_take]; rfl)) ?_; (with_reducible refine (fly_At.calls k _ _ t173 (wrap64 (a2 + a1)) t183 t184 t185 t186 t187 _ ?side1 ?side2 A9.out).mono ?_); (case side1 => refine (Kd.R_reads' (e := 49) (base := w.heap.size) (ok := fun k_ => (True ∧ k_ ≠ gb182)) (n := t173.length) (c := co39) ?_).2.2; exact (by (with_reducible repeat (first | apply Kd.R_alloc | apply Kd.R_drewN | apply Kd.R_drew)); exact (Kd.R_mono (Kd.R_far (p := ⟨gb182, 3, none⟩) (Kd.R_far (p := ⟨gb182, 2, none⟩) (Kd.R_far (p := ⟨gb182, 1, none⟩) (Kd.R_far (p := ⟨gb182, 0, none⟩) (Kd.R_mono HO176.out (fun k_ hk => (⟨hk, hk.2⟩ : _ ∧ k_ ≠ gb182))) (fun _ hk => hk.2) (.int .i64 t177)) (fun _ hk => hk.2) (.int .i64 t178)) (fun _ hk => hk.2) (.int .i64 t179)) (fun _ hk => hk.2) (.int .i64 t180)) (fun _ h_ => h_.1)))); (case side2 => exact (Kd.R_reads' HO176.out).2.1); rintro e w40 ⟨rfl, hb⟩; refine ⟨_, rfl, ?_⟩; have n0_ := Aside0.mk (Kd.R_below (by (with_reducible repeat (first | apply Kd.R_alloc | apply Kd.R_drewN | apply Kd.R_drew)); exact (Kd.R_mono (Kd.R_far (p := ⟨gb182, 3, none⟩) (Kd.R_far (p := ⟨gb182, 2, none⟩) (Kd.R_far (p := ⟨gb182, 1, none⟩) (Kd.R_far (p := ⟨gb182, 0, none⟩) (Kd.R_mono HO176.out (fun k_ hk => (⟨hk, hk.2⟩ : _ ∧ k_ ≠ gb182))) (fun _ hk => hk.2) (.int .i64 t177)) (fun _ hk => hk.2) (.int .i64 t178)) (fun _ hk => hk.2) (.int .i64 t179)) (fun _ hk => hk.2) (.int .i64 t180)) (fun _ h_ => h_.1))) hb); have n1_ := Aside0.mk (blk_below (g := gb182) (o := .cells #[.int .i64 t177, .int .i64 t178, .int .i64 t179, .int .i64 t180] 49 (0, 0)) (by (with_reducible repeat (first | refine blk_drewN ?_ _ | refine blk_drew ?_ | refine blk_alloc ?_ _)); refine blk_put (cs := #[.int .i64 t177, .int .i64 t178, .int .i64 t179, .int .i64 0]) ?_ 3 _ rfl; (with_reducible repeat (first | refine blk_drewN ?_ _ | refine blk_drew ?_ | refine blk_alloc ?_ _)); refine blk_put (cs := #[.int .i64 t177, .int .i64 t178, .int .i64 0, .int .i64 0]) ?_ 2 _ rfl; (with_reducible repeat (first | refine blk_drewN ?_ _ | refine blk_drew ?_ | refine blk_alloc ?_ _)); refine blk_put (cs := #[.int .i64 t177, .int .i64 0, .int .i64 0, .int .i64 0]) ?_ 1 _ rfl; (with_reducible repeat (first | refine blk_drewN ?_ _ | refine blk_drew ?_ | refine blk_alloc ?_ _)); refine blk_put (cs := #[.int .i64 0, .int .i64 0, .int .i64 0, .int .i64 0]) ?_ 0 _ rfl; (with_reducible repeat (first | refine blk_drewN ?_ _ | refine blk_drew ?_ | refine blk_alloc ?_ _)); exact BK182.out) hb); have n2_ := Aside0.mk (below_step (by repeat (first | (with_reducible first | exact HB.out | apply below_alloc | apply pw_below_drewN | apply below_drew1 | refine below_set ?_ GE182.out) | exact HB.out)) hb); clear HO176; clear BK182; clear HB; have HO176 := n0_; have BK182 := n1_; have HB := n2_; clear n0_ n1_ n2_; (try clear hb); (try clear hb2); (try clear hk); (try clear hi)) | ((with_reducible refine gate_dst (N := 11) rfl ?_); refine box_event ?hg (N := 11) ?hd (cs := #[.int .i64 0, .int .i64 0, .int .i64 0, .int .i64 0]) (t := 49) ?hr ?_; (case hd => rfl); (case hg => rfl); (case hr => first | (go_simp; done) | (go_simp; rfl)); intro gb188 hg w41 hbox hb; have n0_ := Aside0.mk (Kd.R_below (Kd.R_elderB (by (with_reducible repeat (first | apply Kd.R_alloc | apply Kd.R_drewN | apply Kd.R_drew)); exact HO176.out) gb188 (Nat.le_of_eq hg.symm)) hb); have n1_ := Aside0.mk (blk_below (g := gb182) (o := .cells #[.int .i64 t177, .int .i64 t178, .int .i64 t179, .int .i64 t180] 49 (0, 0)) (by (with_reducible repeat (first | refine blk_drewN ?_ _ | refine blk_drew ?_ | refine blk_alloc ?_ _)); exact BK182.out) hb); have n2_ := Aside0.mk (below_step (by repeat (first | (with_reducible first | exact HB.out | apply below_alloc | apply pw_below_drewN | apply below_drew1 | refine below_set ?_ GE182.out) | exact HB.out)) hb); have n3_ := Aside0.mk (hbox); have n4_ := Aside0.mk ((by rw [hg]; exact (below_size (by repeat (first | (with_reducible first | exact HB.out | apply below_alloc | apply pw_below_drewN | apply below_drew1 | refine below_set ?_ GE182.out) | exact HB.out))) : w.heap.size ≤ gb188)); have n5_ := Aside0.mk ((by rw [hg]; exact (below_size (by repeat (first | (with_reducible first | exact HB.out | apply below_alloc | apply pw_below_drewN | apply below_drew1 | refine below_set ?_ GE182.out) | exact HB.out))) : w.heap.size ≤ gb188)); have n6_ := Aside0.mk ((by rw [hg]; exact Nat.ne_of_lt (blk_lt (g := gb182) (o := .cells #[.int .i64 t177, .int .i64 t178, .int .i64 t179, .int .i64 t180] 49 (0, 0)) (by (with_reducible repeat (first | refine blk_drewN ?_ _ | refine blk_drew ?_ | refine blk_alloc ?_ _)); exact BK182.out)) : gb182 ≠ gb188)); have n7_ := Aside0.mk ((by rw [hg]; exact Nat.ne_of_gt (blk_lt (g := gb182) (o := .cells #[.int .i64 t177, .int .i64 t178, .int .i64 t179, .int .i64 t180] 49 (0, 0)) (by (with_reducible repeat (first | refine blk_drewN ?_ _ | refine blk_drew ?_ | refine blk_alloc ?_ _)); exact BK182.out)) : gb188 ≠ gb182)); clear HO176; clear BK182; clear HB; have HO176 := n0_; have BK182 := n1_; have HB := n2_; have BK188 := n3_; have GW188 := n4_; have GE188 := n5_; have NB182_188 := n6_; have NB188_182 := n7_; clear n0_ n1_ n2_ n3_ n4_ n5_ n6_ n7_; clear hb hbox hg; have hnb42 := NB188_182.out; have hnc42 := NB182_188.out; have hcz43_0 : w41.cell? ⟨gb188, 0, none⟩ = some (.int .i64 0) := (blk_cell BK188.out 0).trans rfl; have hcz43_1 : w41.cell? ⟨gb188, 1, none⟩ = some (.int .i64 0) := (blk_cell BK188.out 1).trans rfl; have hcz43_2 : w41.cell? ⟨gb188, 2, none⟩ = some (.int .i64 0) := (blk_cell BK188.out 2).trans rfl; have hcz43_3 : w41.cell? ⟨gb188, 3, none⟩ = some (.int .i64 0) := (blk_cell BK188.out 3).trans rfl; have hfz43_0 := blk_frozen BK188.out 0; have hfz43_1 := blk_frozen BK188.out 1; have hfz43_2 := blk_frozen BK188.out 2; have hfz43_3 := blk_frozen BK188.out 3; have hcz44_0 : w41.cell? ⟨gb182, 0, none⟩ = some (.int .i64 t177) := (blk_cell BK182.out 0).trans rfl; have hcz44_1 : w41.cell? ⟨gb182, 1, none⟩ = some (.int .i64 t178) := (blk_cell BK182.out 1).trans rfl; have hcz44_2 : w41.cell? ⟨gb182, 2, none⟩ = some (.int .i64 t179) := (blk_cell BK182.out 2).trans rfl; have hcz44_3 : w41.cell? ⟨gb182, 3, none⟩ = some (.int .i64 t180) := (blk_cell BK182.out 3).trans rfl; have hfz44_0 := blk_frozen BK182.out 0; have hfz44_1 := blk_frozen BK182.out 1; have hfz44_2 := blk_frozen BK182.out 2; have hfz44_3 := blk_frozen BK182.out 3))
       go_ret
       exact ⟨by first | rfl | (simp [errW_none, errW_some] <;> rfl) | (simp [*, errW_none, errW_some] <;> rfl), by repeat (first | (with_reducible first | exact HB.out | apply below_alloc | apply pw_below_drewN | apply below_drew1 | refine below_set ?_ GE182.out | refine below_set ?_ GE188.out) | exact HB.out)⟩
   · rw [if_neg c7] at H
     have c7b0 : (t174 == 0) = false := beq_eq_false_iff_ne.mpr c7
     have c7b1 : (t174 != 0) = true := bne_iff_ne.mpr c7
     obtain rfl := Option.some.inj H
     go_enter Try.func11, Try.ntmps11
     go_wp2_with (first | ((with_reducible refine gate_callee (f := 33) rfl ?_); refine goesL_ (some 13) rfl rfl Try.func33 (by kernel_rfl) rfl #[] rfl (by (try simp only [List.map_toArray, List.map_cons, List.map_nil]); first | done | rfl | (simp only [List.length_drop, List.length_take]; rfl)) ?_; (with_reducible refine (skywaykeep1_flyWorks.calls k  true _ A4.out).mono ?_); rintro e w45 ⟨rfl, hb⟩; refine ⟨_, rfl, ?_⟩; have n0_ := Aside0.mk (below_step (by repeat (first | (with_reducible first | exact HB.out | apply below_alloc | apply pw_below_drewN | apply below_drew1) | exact HB.out)) hb); clear HB; have HB := n0_; clear n0_; (try clear hb); (try clear hb2); (try clear hk); (try clear hi)) | ((with_reducible refine gate_callee (f := 37) rfl ?_); refine goesL_ (some 18) rfl rfl Try.func37 (by kernel_rfl) rfl #[.slice A0 l0.length c0, .int .i64 a1] rfl (by (try simp only [List.map_toArray, List.map_cons, List.map_nil]); first | done | rfl | (simp only [List.length_drop, List.length_take]; rfl)) ?_; (with_reducible refine (fly_Shift.calls k _ _ l0 a1 t173 t174 _ ?side1 ?side2 A6.out).mono ?_); (case side1 => repeat (first | exact (Kd.C_below HR0.out HB.out) | (with_reducible refine Kd.C_alloc ?_ _) | (with_reducible refine Kd.C_drewN ?_ _) | (with_reducible refine Kd.C_drew ?_))); (case side2 => exact HC0.out); rintro e w46 ⟨v175, rfl, ho0, hb⟩; refine ⟨_, rfl, ?_⟩; have n0_ := Aside0.mk (Kd.R_lower ho0 (below_size (by repeat (first | (with_reducible first | exact HB.out | apply below_alloc | apply pw_below_drewN | apply below_drew1) | exact HB.out)))); have n1_ := Aside0.mk (below_step (by repeat (first | (with_reducible first | exact HB.out | apply below_alloc | apply pw_below_drewN | apply below_drew1) | exact HB.out)) hb); clear HB; have HO176 := n0_; have HB := n1_; clear n0_ n1_; (try clear hb); (try clear hb2); (try clear hk); (try clear hi); (try clear ho0); obtain ⟨Ao47, co47, eo47⟩ := Kd.R_slice HO176.out; subst eo47))
     go_ret
     exact ⟨by first | rfl | (simp [errW_none, errW_some] <;> rfl) | (simp [*, errW_none, errW_some] <;> rfl), by repeat (first | (with_reducible first | exact HB.out | apply below_alloc | apply pw_below_drewN | apply below_drew1) | exact HB.out)⟩
 · replace c5 := Bool.eq_false_iff.mpr c5
   subst c5
   have H1 : (some false) = some r := by rw [if_neg (show ¬ (false = true) by decide)] at H; exact H
   clear H
   have H := H1
   clear H1
   obtain rfl := Option.some.inj H
   go_enter Try.func11, Try.ntmps11
   go_wp2_with (first | ((with_reducible refine gate_callee (f := 33) rfl ?_); refine goesL_ (some 13) rfl rfl Try.func33 (by kernel_rfl) rfl #[] rfl (by (try simp only [List.map_toArray, List.map_cons, List.map_nil]); first | done | rfl | (simp only [List.length_drop, List.length_take]; rfl)) ?_; (with_reducible refine (skywaykeep1_flyWorks.calls k  false _ A4.out).mono ?_); rintro e w48 ⟨rfl, hb⟩; refine ⟨_, rfl, ?_⟩; have n0_ := Aside0.mk (below_step (by repeat (first | (with_reducible first | exact HB.out | apply below_alloc | apply pw_below_drewN | apply below_drew1) | exact HB.out)) hb); clear HB; have HB := n0_; clear n0_; (try clear hb); (try clear hb2); (try clear hk); (try clear hi)))
   go_ret
   exact ⟨by first | rfl | (simp [errW_none, errW_some] <;> rfl) | (simp [*, errW_none, errW_some] <;> rfl), by repeat (first | (with_reducible first | exact HB.out | apply below_alloc | apply pw_below_drewN | apply below_drew1) | exact HB.out)⟩

/-- What is told of a value of struct type 37 that came in. -/
def good37 (x : S37) : Prop := ((Lit.int .i64 x.f0).wf = true) ∧ (Lit.int .i64 x.f1).wf = true
/-- What is told of a value of struct type 49 that came in. -/
def good49 (x : S49) : Prop := ((Lit.int .i64 x.f0).wf = true) ∧ (good37 x.f1) ∧ (Lit.int .i64 x.f2).wf = true
/-- THE ONE PURE STATEMENT of skywaykeep1_FlyShifts. -/
def skywaykeep1_FlyShifts.Pure : Prop := ∀ (l0 : List (S49)) (a1 : Int) (a2 : Int), (l0.length * 32 ≤ 140737488351232 ∧ ∀ y0 ∈ l0, good49 y0) → ((Lit.int .i64 a1).wf = true) → ((Lit.int .i64 a2).wf = true) → ∃ k, skywaykeep1_FlyShifts.f k l0 a1 a2 = some true

end Go.Proofs.Ytaahnfajcbkknaa.PFlyShifts
