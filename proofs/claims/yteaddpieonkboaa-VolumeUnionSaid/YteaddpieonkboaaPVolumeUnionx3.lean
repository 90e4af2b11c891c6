/- Made by a program of this session (wip/tools/myprint.py, over the kit's printer): that the Go functions answer as the Lean functions printed beside them. -/
import Derived.Test.YteaddpieonkboaaPVolumeUnionx0
import Derived.Test.YteaddpieonkboaaPVolumeUnionx1
import Derived.Test.YteaddpieonkboaaPVolumeUnionx2
namespace Go.Proofs.Yteaddpieonkboaa.PVolumeUnion
open Go.RowKit Go.Proofs.YteaddpieonkboaaW.PrintWords Go.Proofs.YteaddpieonkboaaW.PrintLast Go.Proofs.YteaddpieonkboaaW.PrintMore
attribute [local go_sem] max2_int min2_int max_two min_two max_three min_three max_four min_four   -- for this text's walks alone
set_option linter.unusedVariables false
set_option linter.unusedSimpArgs false

attribute [local go_sem high] eqA58
/-! ### volume_Union: function 33 -/
def volume_Union.l0 : Nat → List (S58) → List (S58) → Int → Int → Option ((List (S58)) × Int)
  | 0, _, _, _, _ => none
  | k + 1, x6, x19, x20, x21 => if x21 < x20 then (if 0 ≤ x21 then (if x21 < (x19.length : Int) then (if (x6.length : Int) > 0 then (if 0 ≤ (wrap64 ((x6.length : Int) - 1)) then (if (wrap64 ((x6.length : Int) - 1)) < (x6.length : Int) then (if ((rd_T58 x19 x21).f0) ≤ ((rd_T58 x6 (wrap64 ((x6.length : Int) - 1))).f1) then (volume_Union.l0 k (x6.set ((wrap64 ((x6.length : Int) - 1)) : Int).toNat (⟨(rd_T58 x6 (wrap64 ((x6.length : Int) - 1))).f0, mx ((rd_T58 x6 (wrap64 ((x6.length : Int) - 1))).f1) ((rd_T58 x19 x21).f1)⟩ : S58)) x19 x20 (wrap64 (x21 + 1))) else (if x6.length < 8796093022208 then (volume_Union.l0 k (x6 ++ [(⟨(rd_T58 x19 x21).f0, (rd_T58 x19 x21).f1⟩ : S58)]) x19 x20 (wrap64 (x21 + 1))) else (none))) else (none)) else (none)) else (if x6.length < 8796093022208 then (volume_Union.l0 k (x6 ++ [(⟨(rd_T58 x19 x21).f0, (rd_T58 x19 x21).f1⟩ : S58)]) x19 x20 (wrap64 (x21 + 1))) else (none))) else (none)) else (none)) else (some (x6, 0))
def volume_Union.f (k : Nat) (l0 : List (S58)) : Option ((List (S58)) × Int) := (volume_CheckSpans.f k l0).bind fun t111 => (if t111 = 0 then ((api_Span_60.f l0).bind fun t112 => ((api_Span_61.f t112 ()).bind fun t115 => (volume_Union.l0 k ([] : List (S58)) t115 (t112.length : Int) 0))) else (some (([] : List (S58)), t111)))
theorem volume_Union.mono_l : ∀ k, (∀ y0 y1 y2 y3, LeO (volume_Union.l0 k y0 y1 y2 y3) (volume_Union.l0 (k + 1) y0 y1 y2 y3))
  | 0 => fun _ _ _ _ r h => by simp [volume_Union.l0] at h
  | k + 1 => by
    have ih0 := volume_Union.mono_l k
    · intro y0 y1 y2 y3
      unfold volume_Union.l0
      repeat' first
      | (with_reducible exact ih0 _ _ _ _)
      | (with_reducible exact volume_CheckSpans.mono _ _)
      | (with_reducible exact LeO.refl _)
      | (with_reducible exact LeO.none _)
      | (with_reducible refine LeO.ite ?_ ?_)
      | (with_reducible refine LeO.bind ?_ (fun _ => ?_))
      | exact ih0 _ _ _ _
      | exact volume_CheckSpans.mono _ _
      | exact LeO.none _
      | refine LeO.ite ?_ ?_
      | refine LeO.bind ?_ (fun _ => ?_)
theorem volume_Union.mono : ∀ a0 k, LeO (volume_Union.f k a0) (volume_Union.f (k + 1) a0) := by
  intro a0 k
  have ih0 := volume_Union.mono_l k
  unfold volume_Union.f
  repeat' first
      | (with_reducible exact ih0 _ _ _ _)
      | (with_reducible exact volume_CheckSpans.mono _ _)
      | (with_reducible exact LeO.refl _)
      | (with_reducible exact LeO.none _)
      | (with_reducible refine LeO.ite ?_ ?_)
      | (with_reducible refine LeO.bind ?_ (fun _ => ?_))
      | exact ih0 _ _ _ _
      | exact volume_CheckSpans.mono _ _
      | exact LeO.none _
      | refine LeO.ite ?_ ?_
      | refine LeO.bind ?_ (fun _ => ?_)
def volume_Union.T11 : Bool × List (List Nat × List Nat) := (true, [([], []), ([0], [0]), ([1], [1]), ([2], [2]), ([3, 2], [2, 3]), ([2], [2]), ([2], [2]), ([6, 2], [2, 6]), ([5, 7, 2], [2, 5, 7]), ([8, 2], [2, 8]), ([9, 2], [2, 9]), ([4, 10, 2], [2, 4, 10]), ([2, 11], [2, 11])])
def volume_Union.B11 : List Nat := [0, 1, 3, 7, 15, 7, 7, 71, 231, 487, 999, 2047, 4095]
theorem volume_Union.tab11 : rtab .any (opsOf Try.f33 11) = volume_Union.T11 := by kernel_rfl
theorem volume_Union.bits11 : waitsOk volume_Union.T11.2 volume_Union.B11 = true := by kernel_rfl
def volume_Union.T12 : Bool × List (List Nat × List Nat) := (true, [([], []), ([], []), ([1], [1]), ([], []), ([], []), ([4], [4]), ([3, 5], [3, 5]), ([6], [6]), ([7], [7]), ([], []), ([9], [9]), ([8, 10], [8, 10]), ([0, 2, 0, 1, 2, 3, 4, 5, 6, 7, 8, 9, 10, 11], [0, 2]), ([12, 0, 1, 2, 3, 4, 5, 6, 7, 8, 9, 10, 11], [12]), ([13, 11, 0, 1, 2, 3, 4, 5, 6, 7, 8, 9, 10, 11], [11, 13])])
def volume_Union.B12 : List Nat := [0, 0, 2, 0, 0, 16, 56, 120, 248, 0, 512, 2040, 4095, 8191, 16383]
theorem volume_Union.tab12 : rtab .any (opsOf Try.f33 12) = volume_Union.T12 := by kernel_rfl
theorem volume_Union.bits12 : waitsOk volume_Union.T12.2 volume_Union.B12 = true := by kernel_rfl
set_option maxHeartbeats 8000000 in
set_option maxRecDepth 100000 in
theorem volume_Union.calls (k : Nat) (A0 : Option Addr) (c0 : Nat) (l0 : List (S58)) (r1 : List (S58)) (r2 : Int) (w : World) (hr0 : Kd.C k58 w A0 l0.length l0) (hc0 : l0.length ≤ c0) (h : volume_Union.f k l0 = some (r1, r2)) :
    Calls Try.prog 33 #[.slice A0 l0.length c0] w fun e w' => ∃ v0_ : Value, e = .returned (.tuple #[v0_, .int .i64 r2]) ∧ Kd.R k58 58 w' w.heap.size (fun _ => True) v0_ r1 ∧ Below w.heap.size w w' := by
 have hu58 := Try.underlying58
 have HR0 := Aside0.mk hr0
 have HC0 := Aside0.mk hc0
 clear hr0 hc0
 have HB := Aside0.mk (Below.refl w.heap.size w)
 have H : ((volume_CheckSpans.f k l0).bind fun t111 => (if t111 = 0 then ((api_Span_60.f l0).bind fun t112 => ((api_Span_61.f t112 ()).bind fun t115 => (volume_Union.l0 k ([] : List (S58)) t115 (t112.length : Int) 0))) else (some (([] : List (S58)), t111)))) = some (r1, r2) := h
 clear h
 replace H := Option.bind_eq_some_iff.mp H
 obtain ⟨t111, A20, H⟩ := H
 replace H : (if t111 = 0 then ((api_Span_60.f l0).bind fun t112 => ((api_Span_61.f t112 ()).bind fun t115 => (volume_Union.l0 k ([] : List (S58)) t115 (t112.length : Int) 0))) else (some (([] : List (S58)), t111))) = some (r1, r2) := H
 have A2 := Aside0.mk A20
 clear A20
 by_cases c3 : t111 = 0
 · rw [if_pos c3] at H
   have c3b0 : (t111 == 0) = true := beq_iff_eq.mpr c3
   have c3b1 : (t111 != 0) = false := bne_eq_false_iff_eq.mpr c3
   clear c3
   replace H := Option.bind_eq_some_iff.mp H
   obtain ⟨t112, A40, H⟩ := H
   replace H : ((api_Span_61.f t112 ()).bind fun t115 => (volume_Union.l0 k ([] : List (S58)) t115 (t112.length : Int) 0)) = some (r1, r2) := H
   have A4 := Aside0.mk A40
   clear A40
   replace H := Option.bind_eq_some_iff.mp H
   obtain ⟨t115, A50, H⟩ := H
   replace H : (volume_Union.l0 k ([] : List (S58)) t115 (t112.length : Int) 0) = some (r1, r2) := H
   have A5 := Aside0.mk A50
   clear A50
   have H' := Aside0.mk H
   clear H
   go_enter Try.func33, Try.ntmps33
   go_wp2_with (first | ((with_reducible refine gate_callee (f := 59) rfl ?_); refine goesL_ (some 11) rfl rfl Try.func59 (by kernel_rfl) rfl #[.slice A0 l0.length c0] rfl (by (try simp only [List.map_toArray, List.map_cons, List.map_nil]); first | done | rfl | (simp only [List.length_drop, List.length_take]; rfl)) ?_; (with_reducible refine (volume_CheckSpans.calls k _ _ l0 t111 _ ?side1 ?side2 A2.out).mono ?_); (case side1 => repeat (first | exact HR0.out | (with_reducible refine Kd.C_alloc ?_ _) | (with_reducible refine Kd.C_drewN ?_ _) | (with_reducible refine Kd.C_drew ?_))); (case side2 => exact HC0.out); rintro e w6 ⟨rfl, hb⟩; refine ⟨_, rfl, ?_⟩; have n0_ := Aside0.mk (below_step (by repeat (first | (with_reducible first | exact HB.out | apply below_alloc | apply pw_below_drewN | apply below_drew1) | exact HB.out)) hb); clear HB; have HB := n0_; clear n0_; (try clear hb); (try clear hb2); (try clear hk); (try clear hi)) | ((with_reducible refine gate_callee (f := 60) rfl ?_); refine goesL_ (some 16) rfl rfl Try.func60 (by kernel_rfl) rfl #[.slice A0 l0.length c0] rfl (by (try simp only [List.map_toArray, List.map_cons, List.map_nil]); first | done | rfl | (simp only [List.length_drop, List.length_take]; rfl)) ?_; (with_reducible refine (api_Span_60.calls _ _ l0 t112 _ ?side1 ?side2 A4.out).mono ?_); (case side1 => repeat (first | exact (Kd.C_below HR0.out HB.out) | (with_reducible refine Kd.C_alloc ?_ _) | (with_reducible refine Kd.C_drewN ?_ _) | (with_reducible refine Kd.C_drew ?_))); (case side2 => exact HC0.out); rintro e w7 ⟨v113, rfl, ho0, hb⟩; refine ⟨_, rfl, ?_⟩; have n0_ := Aside0.mk (Kd.R_lower ho0 (below_size (by repeat (first | (with_reducible first | exact HB.out | apply below_alloc | apply pw_below_drewN | apply below_drew1) | exact HB.out)))); have n1_ := Aside0.mk (below_step (by repeat (first | (with_reducible first | exact HB.out | apply below_alloc | apply pw_below_drewN | apply below_drew1) | exact HB.out)) hb); clear HB; have HO114 := n0_; have HB := n1_; clear n0_ n1_; (try clear hb); (try clear hb2); (try clear hk); (try clear hi); (try clear ho0); obtain ⟨Ao8, co8, eo8⟩ := Kd.R_slice HO114.out; subst eo8) | ((with_reducible refine gate_callee (f := 61) rfl ?_); refine goesL_ (some 18) rfl rfl Try.func61 (by kernel_rfl) rfl #[.slice Ao8 t112.length co8, .func (.func 62) #[] #[]] rfl (by (try simp only [List.map_toArray, List.map_cons, List.map_nil]); first | done | rfl | (simp only [List.length_drop, List.length_take]; rfl)) ?_; (with_reducible refine (api_Span_61.calls (fun k_ => some k_ = (.slice Ao8 t112.length co8 : Value).ownBlock) (.slice Ao8 t112.length co8) t112 () t115 w _ ?side1 ?side2 A5.out).mono ?_); (case side1 => repeat (first | (with_reducible first | exact HB.out | apply below_alloc | apply pw_below_drewN | apply below_drew1) | exact HB.out)); (case side2 => exact Kd.R_tight rfl HO114.out); rintro e w9 ⟨rfl, hy0, hb, hkp⟩; refine ⟨_, rfl, ?_⟩; have n0_ := Aside0.mk (Kd.R_reok rfl hy0 (fun k_ e_ => HO114.out.1 k_ e_)); have n1_ := Aside0.mk (hb); clear HO114; clear HB; have HO114 := n0_; have HB := n1_; clear n0_ n1_; (try clear hb); (try clear hkp); (try clear hy0)))
   go_loopg [6, 21] k (fun kq v6 v21 w' => ∃ (x6_1 : List (S58)) (x19_1 : List (S58)) (x21_1 : Int), v21 = .int .i64 x21_1 ∧ Aside0 (volume_Union.l0 kq x6_1 x19_1 (t112.length : Int) x21_1 = some (r1, r2)) ∧ Aside0 (kq ≤ k) ∧ Aside0 (Kd.R k58 58 w' w.heap.size (fun k_ => some k_ ≠ ((.slice Ao8 t112.length co8) : Value).ownBlock) v6 x6_1) ∧ Aside0 (Kd.R k58 58 w' w.heap.size (fun k_ => some k_ ≠ (v6 : Value).ownBlock) (.slice Ao8 t112.length co8) x19_1) ∧ Aside0 (Below w.heap.size w w'))
   case atStart => exact ⟨(([] : List (S58))), (t115), (0), (by first | rfl | (simp; done) | (simp [*]; done)), H', ⟨Nat.le_refl _⟩, ⟨by first | exact Kd.R_nil _ _ _ _ _ | exact Kd.N_nil _ _ _ _ _ | exact Kd.V_nil _ _ _ _ _ | exact Kd.Q_nil _ _ _ _ _ | exact Kd.S_nil _ _ _ _ _⟩, ⟨by (with_reducible repeat (first | apply Kd.R_alloc | apply Kd.R_drewN | apply Kd.R_drew)); exact Kd.R_mono HO114.out (fun _ hk => (by simp [Value.ownBlock]))⟩, ⟨by repeat (first | (with_reducible first | exact HB.out | apply below_alloc | apply pw_below_drewN | apply below_drew1) | exact HB.out)⟩⟩
   case round =>
    clear H'
    (try clear p2); (try clear c3); (try clear c3b0); (try clear c3b1); (try clear c5); (try clear c6)
    obtain ⟨x6_1, x19_1, x21_1, rfl, HA, HK1, HO_6, HO_19, HB⟩ := hrel
    have hl19_1 := (Kd.R_reads' HO_19.out).1
    rw [hl19_1] at HO_19
    (try simp only [hl19_1])
    (try simp only [hl19_1] at HO_6)
    cases gk with
    | zero => exact absurd HA.out (by simp [volume_Union.l0])
    | succ k1 =>
     have H := HA.out
     clear HA
     simp only [volume_Union.l0] at H
     by_cases c10 : x21_1 < (t112.length : Int)
     · rw [if_pos c10] at H
       have c10b0 : decide (x21_1 < (t112.length : Int)) = true := decide_eq_true c10
       (try (have c10b0_hl19_1 := c10b0; simp only [hl19_1] at c10b0_hl19_1))
       clear c10
       by_cases c11 : 0 ≤ x21_1
       · rw [if_pos c11] at H
         have c11b0 : decide (0 ≤ x21_1) = true := decide_eq_true c11
         clear c11
         by_cases c12 : x21_1 < (x19_1.length : Int)
         · rw [if_pos c12] at H
           have c12b0 : decide (x21_1 < (x19_1.length : Int)) = true := decide_eq_true c12
           (try (have c12b0_hl19_1 := c12b0; simp only [hl19_1] at c12b0_hl19_1))
           clear c12
           by_cases c13 : (x6_1.length : Int) > 0
           · rw [if_pos c13] at H
             have c13b0 : decide (0 < (x6_1.length : Int)) = true := decide_eq_true c13
             (try (have c13b0_hl19_1 := c13b0; simp only [hl19_1] at c13b0_hl19_1))
             have c13b1 : decide (0 < x6_1.length) = true := decide_eq_true (by omega)
             clear c13
             obtain ⟨ji14, hji14⟩ : ∃ j_ : Int, (wrap64 ((x6_1.length : Int) - 1)) = j_ := ⟨_, rfl⟩
             replace H : (if 0 ≤ (ji14) then (if (ji14) < (x6_1.length : Int) then (if ((rd_T58 x19_1 x21_1).f0) ≤ ((rd_T58 x6_1 (ji14)).f1) then (volume_Union.l0 k1 (x6_1.set ((ji14) : Int).toNat (⟨(rd_T58 x6_1 (ji14)).f0, mx ((rd_T58 x6_1 (ji14)).f1) ((rd_T58 x19_1 x21_1).f1)⟩ : S58)) x19_1 (t112.length : Int) (wrap64 (x21_1 + 1))) else (if x6_1.length < 8796093022208 then (volume_Union.l0 k1 (x6_1 ++ [(⟨(rd_T58 x19_1 x21_1).f0, (rd_T58 x19_1 x21_1).f1⟩ : S58)]) x19_1 (t112.length : Int) (wrap64 (x21_1 + 1))) else (none))) else (none)) else (none)) = some (r1, r2) := by first | (rw [hji14] at H; exact H) | (simp only [hji14] at H ⊢; exact H)
             have hji14w : (IntKind.i64.wrap ((x6_1.length : Int) - 1)) = ji14 := (i64_w _).trans hji14
             by_cases c15 : 0 ≤ (ji14)
             · rw [if_pos c15] at H
               have c15b0 : decide (0 ≤ (ji14)) = true := decide_eq_true c15
               clear c15
               by_cases c16 : (ji14) < (x6_1.length : Int)
               · rw [if_pos c16] at H
                 have c16b0 : decide ((ji14) < (x6_1.length : Int)) = true := decide_eq_true c16
                 (try (have c16b0_hl19_1 := c16b0; simp only [hl19_1] at c16b0_hl19_1))
                 clear c16
                 by_cases c17 : ((rd_T58 x19_1 x21_1).f0) ≤ ((rd_T58 x6_1 (ji14)).f1)
                 · rw [if_pos c17] at H
                   have c17b0 : decide (((rd_T58 x19_1 x21_1).f0) ≤ ((rd_T58 x6_1 (ji14)).f1)) = true := decide_eq_true c17
                   clear c17
                   obtain ⟨ji18, hji18⟩ : ∃ j_ : Int, (mx ((rd_T58 x6_1 (ji14)).f1) ((rd_T58 x19_1 x21_1).f1)) = j_ := ⟨_, rfl⟩
                   replace H : (volume_Union.l0 k1 (x6_1.set ((ji14) : Int).toNat (⟨(rd_T58 x6_1 (ji14)).f0, ji18⟩ : S58)) x19_1 (t112.length : Int) (wrap64 (x21_1 + 1))) = some (r1, r2) := by first | (rw [hji18] at H; exact H) | (simp only [hji18] at H ⊢; exact H)
                   have hji18_ : (if ((rd_T58 x6_1 (ji14)).f1) < ((rd_T58 x19_1 x21_1).f1) then ((rd_T58 x19_1 x21_1).f1) else ((rd_T58 x6_1 (ji14)).f1)) = ji18 := hji18
                   obtain ⟨y120, hy120⟩ : ∃ y_ : List (S58), y_ = (x6_1.set ((ji14) : Int).toNat (⟨(rd_T58 x6_1 (ji14)).f0, ji18⟩ : S58)) := ⟨_, rfl⟩
                   replace H : (volume_Union.l0 k1 y120 x19_1 (t112.length : Int) (wrap64 (x21_1 + 1))) = some (r1, r2) := by first | (rw [hy120]; with_reducible exact H) | (have H2_ := (Option.bind_some _ _).symm.trans H; rw [hy120]; with_reducible exact H2_) | (have H2_ := (Option.bind_some _ _).symm.trans H; with_reducible exact H2_) | with_reducible exact H | (rw [hy120]; exact H) | exact H
                   have Ny120 := Aside0.mk hy120
                   clear hy120
                   have H' := Aside0.mk H
                   clear H
                   have p116 : 0 ≤ (x21_1 : Int) := of_decide_eq_true (by first | (with_reducible assumption) | assumption)
                   have q116 : x21_1 < (x19_1.length : Int) := of_decide_eq_true (by first | (with_reducible assumption) | assumption)
                   obtain ⟨ad116, e116, hx116_0, hx116_1⟩ := at_T58 (Kd.R_reads' HO_19.out).2.2 x21_1 p116 q116
                   cases e116
                   replace p116 := eq_true p116
                   replace q116 := eq_true q116
                   try go_wp2_with (first | ((with_reducible refine gate_dst (N := 8) rfl ?_); refine box_event ?hg (N := 8) ?hd (cs := #[.int .i64 0, .int .i64 0]) (t := 58) ?hr ?_; (case hd => rfl); (case hg => rfl); (case hr => first | (go_simp; done) | (go_simp; rfl)); intro gb117 hg w20 hbox hb; have n0_ := Aside0.mk (Kd.R_below (Kd.R_elderB (by (with_reducible repeat (first | apply Kd.R_alloc | apply Kd.R_drewN | apply Kd.R_drew)); exact HO_6.out) gb117 (Nat.le_of_eq hg.symm)) hb); have n1_ := Aside0.mk (Kd.R_below (Kd.R_elderB (by (with_reducible repeat (first | apply Kd.R_alloc | apply Kd.R_drewN | apply Kd.R_drew)); exact HO_19.out) gb117 (Nat.le_of_eq hg.symm)) hb); have n2_ := Aside0.mk (below_step (by repeat (first | (with_reducible first | exact HB.out | apply below_alloc | apply pw_below_drewN | apply below_drew1) | exact HB.out)) hb); have n3_ := Aside0.mk (hbox); have n4_ := Aside0.mk ((by rw [hg]; exact (below_size (by repeat (first | (with_reducible first | exact HB.out | apply below_alloc | apply pw_below_drewN | apply below_drew1) | exact HB.out))) : w.heap.size ≤ gb117)); have n5_ := Aside0.mk ((by rw [hg]; exact (below_size (by repeat (first | (with_reducible first | exact HB.out | apply below_alloc | apply pw_below_drewN | apply below_drew1) | exact HB.out))) : w.heap.size ≤ gb117)); clear HO_6; clear HO_19; clear HB; have HO_6 := n0_; have HO_19 := n1_; have HB := n2_; have BK117 := n3_; have GW117 := n4_; have GE117 := n5_; clear n0_ n1_ n2_ n3_ n4_ n5_; clear hb hbox hg; have hcz21_0 : w20.cell? ⟨gb117, 0, none⟩ = some (.int .i64 0) := (blk_cell BK117.out 0).trans rfl; have hcz21_1 : w20.cell? ⟨gb117, 1, none⟩ = some (.int .i64 0) := (blk_cell BK117.out 1).trans rfl; have hfz21_0 := blk_frozen BK117.out 0; have hfz21_1 := blk_frozen BK117.out 1; obtain ⟨Ao22, co22, eo22⟩ := Kd.R_slice HO_6.out; subst eo22))
                   have n0_ : Aside0 (Kd.R k58 58 ((w20.setCell ⟨gb117, 0, none⟩ (.int .i64 ((rd_T58 x19_1 x21_1).f0))).setCell ⟨gb117, 1, none⟩ (.int .i64 ((rd_T58 x19_1 x21_1).f1))) w.heap.size (fun k_ => some k_ ≠ (.slice (some ad116) x19_1.length co8 : Value).ownBlock ∧ k_ ≠ gb117) (.slice Ao22 x6_1.length co22) x6_1) := ⟨by (with_reducible repeat (first | apply Kd.R_alloc | apply Kd.R_drewN | apply Kd.R_drew)); exact Kd.R_mono (Kd.R_far (p := ⟨gb117, 1, none⟩) (Kd.R_far (p := ⟨gb117, 0, none⟩) (Kd.R_mono HO_6.out (fun k_ hk => (⟨hk, hk.2⟩ : _ ∧ k_ ≠ gb117))) (fun _ hk => hk.2) (.int .i64 ((rd_T58 x19_1 x21_1).f0))) (fun _ hk => hk.2) (.int .i64 ((rd_T58 x19_1 x21_1).f1))) (fun _ hk => ⟨hk.1.1, hk.1.2⟩)⟩
                   have n1_ : Aside0 (Kd.R k58 58 ((w20.setCell ⟨gb117, 0, none⟩ (.int .i64 ((rd_T58 x19_1 x21_1).f0))).setCell ⟨gb117, 1, none⟩ (.int .i64 ((rd_T58 x19_1 x21_1).f1))) w.heap.size (fun k_ => some k_ ≠ (.slice Ao22 x6_1.length co22 : Value).ownBlock ∧ k_ ≠ gb117) (.slice (some ad116) x19_1.length co8) x19_1) := ⟨by (with_reducible repeat (first | apply Kd.R_alloc | apply Kd.R_drewN | apply Kd.R_drew)); exact Kd.R_mono (Kd.R_far (p := ⟨gb117, 1, none⟩) (Kd.R_far (p := ⟨gb117, 0, none⟩) (Kd.R_mono HO_19.out (fun k_ hk => (⟨hk, hk.2⟩ : _ ∧ k_ ≠ gb117))) (fun _ hk => hk.2) (.int .i64 ((rd_T58 x19_1 x21_1).f0))) (fun _ hk => hk.2) (.int .i64 ((rd_T58 x19_1 x21_1).f1))) (fun _ hk => ⟨hk.1.1, hk.1.2⟩)⟩
                   have n2_ : Aside0 (((w20.setCell ⟨gb117, 0, none⟩ (.int .i64 ((rd_T58 x19_1 x21_1).f0))).setCell ⟨gb117, 1, none⟩ (.int .i64 ((rd_T58 x19_1 x21_1).f1))).heap[gb117]? = some (.cells #[.int .i64 ((rd_T58 x19_1 x21_1).f0), .int .i64 ((rd_T58 x19_1 x21_1).f1)] 58 (0, 0))) := ⟨by (with_reducible repeat (first | refine blk_drewN ?_ _ | refine blk_drew ?_ | refine blk_alloc ?_ _)); refine blk_put (cs := #[.int .i64 ((rd_T58 x19_1 x21_1).f0), .int .i64 0]) ?_ 1 _ rfl; (with_reducible repeat (first | refine blk_drewN ?_ _ | refine blk_drew ?_ | refine blk_alloc ?_ _)); refine blk_put (cs := #[.int .i64 0, .int .i64 0]) ?_ 0 _ rfl; (with_reducible repeat (first | refine blk_drewN ?_ _ | refine blk_drew ?_ | refine blk_alloc ?_ _)); exact BK117.out⟩
                   have n3_ : Aside0 (Below w.heap.size w ((w20.setCell ⟨gb117, 0, none⟩ (.int .i64 ((rd_T58 x19_1 x21_1).f0))).setCell ⟨gb117, 1, none⟩ (.int .i64 ((rd_T58 x19_1 x21_1).f1)))) := ⟨by repeat (first | (with_reducible first | exact HB.out | apply below_alloc | apply pw_below_drewN | apply below_drew1 | refine below_set ?_ GE117.out) | exact HB.out)⟩
                   (try clear HO_6)
                   (try clear HO_19)
                   (try clear BK117)
                   (try clear HB)
                   generalize ((w20.setCell ⟨gb117, 0, none⟩ (.int .i64 ((rd_T58 x19_1 x21_1).f0))).setCell ⟨gb117, 1, none⟩ (.int .i64 ((rd_T58 x19_1 x21_1).f1))) = w23 at n0_ n1_ n2_ n3_ ⊢
                   have HO_6 := n0_
                   have HO_19 := n1_
                   have BK117 := n2_
                   have HB := n3_
                   clear n0_ n1_ n2_ n3_
                   have n0_ := Aside0.mk (Kd.R_drew HO_6.out)
                   have n1_ := Aside0.mk (Kd.R_drew HO_19.out)
                   have n2_ := Aside0.mk (blk_drew BK117.out)
                   have n3_ := Aside0.mk (below_drew1 HB.out)
                   clear HO_6
                   clear HO_19
                   clear BK117
                   clear HB
                   have HO_6 := n0_
                   have HO_19 := n1_
                   have BK117 := n2_
                   have HB := n3_
                   clear n0_ n1_ n2_ n3_
                   have p118 : 0 ≤ ((ji14) : Int) := of_decide_eq_true (by first | (with_reducible assumption) | assumption)
                   have q118 : (ji14) < (x6_1.length : Int) := of_decide_eq_true (by first | (with_reducible assumption) | assumption)
                   obtain ⟨ad118, e118, hx118_0, hx118_1⟩ := at_T58 (Kd.R_reads' HO_6.out).2.2 (ji14) p118 q118
                   cases e118
                   replace p118 := eq_true p118
                   replace q118 := eq_true q118
                   refine start_ (n := 13) (S := fun w' => w'.cell? ⟨gb117, 0, none⟩ = some (.int .i64 ((rd_T58 x19_1 x21_1).f0)) ∧ w'.cell? ⟨gb117, 1, none⟩ = some (.int .i64 ((rd_T58 x19_1 x21_1).f1)) ∧ w'.cell? (ad118.add (((ji14)).toNat * 2)) = some (.int .i64 ((rd_T58 x6_1 (ji14)).f0)) ∧ w'.cell? ⟨(ad118.add (((ji14)).toNat * 2)).block, (ad118.add (((ji14)).toNat * 2)).off + 1, none⟩ = some (.int .i64 ((rd_T58 x6_1 (ji14)).f1))) (ds := []) #[false, false, false, false, false, false, false, false, false, false, false, false, false] (by kernel_rfl) rfl rfl ⟨(blk_cell BK117.out 0).trans rfl, (blk_cell BK117.out 1).trans rfl, hx118_0, hx118_1⟩ (fun hHeld => ?_); refine with_tabW volume_Union.tab11 volume_Union.bits11 (fun HT_ HW_ => ?_)
                   generalize w23.drew = w24 at HO_6 HO_19 BK117 HB hx118_0 hx118_1 hHeld ⊢
                   refine pure_ (i := 0) (N := some 27) (v := ?_) (a' := ?_) #[true, false, false, false, false, false, false, false, false, false, false, false, false] rfl rfl (any_of HT_.out (by kernel_rfl)) (fun _ _ _ h => h) (Or.inl ⟨by rfl, ?_⟩) ?_ ?_
                   rotate_left
                   · intro w'
                     go_simp
                     with_reducible rfl
                   rotate_left
                   · simp only [Act.put, List.setIfInBounds_toArray, List.set_cons_zero, List.set_cons_succ, i64_w, i32_w]
                     rfl
                   refine pure_ (i := 1) (N := some 28) (v := ?_) (a' := ?_) #[true, true, false, false, false, false, false, false, false, false, false, false, false] rfl rfl (any_of HT_.out (by kernel_rfl)) (fun _ _ _ h => h) (Or.inl ⟨by rfl, ?_⟩) ?_ ?_
                   rotate_left
                   · intro w'
                     go_simp
                     with_reducible rfl
                   rotate_left
                   · simp only [Act.put, List.setIfInBounds_toArray, List.set_cons_zero, List.set_cons_succ, i64_w, i32_w]
                     rfl
                   refine pure_ (i := 2) (N := some 29) (v := ?_) (a' := ?_) #[true, true, true, false, false, false, false, false, false, false, false, false, false] rfl rfl (any_of HT_.out (by kernel_rfl)) (fun _ _ _ h => h) (Or.inl ⟨by rfl, ?_⟩) ?_ ?_
                   rotate_left
                   · intro w'
                     go_simp
                     with_reducible rfl
                   rotate_left
                   · simp only [Act.put, List.setIfInBounds_toArray, List.set_cons_zero, List.set_cons_succ, i64_w, i32_w]
                     rfl
                   refine pure_ (i := 3) (N := some 30) (v := ?_) (a' := ?_) #[true, true, true, true, false, false, false, false, false, false, false, false, false] rfl rfl (any_of HT_.out (by kernel_rfl)) (fun _ _ _ h => h) (Or.inl ⟨by rfl, ?_⟩) ?_ ?_
                   rotate_left
                   · intro w'
                     go_simp
                     with_reducible rfl
                   rotate_left
                   · simp only [Act.put, List.setIfInBounds_toArray, List.set_cons_zero, List.set_cons_succ, i64_w, i32_w]
                     rfl
                   refine pure_ (i := 5) (N := some 32) (v := ?_) (a' := ?_) #[true, true, true, true, false, true, false, false, false, false, false, false, false] rfl rfl (any_of HT_.out (by kernel_rfl)) (fun _ _ _ h => h) (Or.inl ⟨by rfl, ?_⟩) ?_ ?_
                   rotate_left
                   · intro w'
                     go_simp
                     with_reducible rfl
                   rotate_left
                   · simp only [Act.put, List.setIfInBounds_toArray, List.set_cons_zero, List.set_cons_succ, i64_w, i32_w]
                     rfl
                   refine pure_ (i := 6) (N := some 33) (v := ?_) (a' := ?_) #[true, true, true, true, false, true, true, false, false, false, false, false, false] rfl rfl (any_of HT_.out (by kernel_rfl)) (fun _ _ _ h => h) (Or.inl ⟨by rfl, ?_⟩) ?_ ?_
                   rotate_left
                   · intro w'
                     go_simp
                     with_reducible rfl
                   rotate_left
                   · simp only [Act.put, List.setIfInBounds_toArray, List.set_cons_zero, List.set_cons_succ, i64_w, i32_w]
                     rfl
                   refine pure_ (i := 7) (N := some 34) (v := ?_) (a' := ?_) #[true, true, true, true, false, true, true, true, false, false, false, false, false] rfl rfl (any_of HT_.out (by kernel_rfl)) (fun _ _ _ h => h) (Or.inl ⟨by rfl, ?_⟩) ?_ ?_
                   rotate_left
                   · intro w'
                     go_simp
                     with_reducible rfl
                   rotate_left
                   · simp only [Act.put, List.setIfInBounds_toArray, List.set_cons_zero, List.set_cons_succ, i64_w, i32_w]
                     rfl
                   refine pure_ (i := 8) (N := some 35) (v := ?_) (a' := ?_) #[true, true, true, true, false, true, true, true, true, false, false, false, false] rfl rfl (any_of HT_.out (by kernel_rfl)) (fun _ _ _ h => h) (Or.inl ⟨by rfl, ?_⟩) ?_ ?_
                   rotate_left
                   · intro w'
                     go_simp
                     with_reducible rfl
                   rotate_left
                   · simp only [Act.put, List.setIfInBounds_toArray, List.set_cons_zero, List.set_cons_succ, i64_w, i32_w]
                     rfl
                   refine pure_ (i := 9) (N := some 36) (v := ?_) (a' := ?_) #[true, true, true, true, false, true, true, true, true, true, false, false, false] rfl rfl (any_of HT_.out (by kernel_rfl)) (fun _ _ _ h => h) (Or.inl ⟨by rfl, ?_⟩) ?_ ?_
                   rotate_left
                   · intro w'
                     go_simp
                     with_reducible rfl
                   rotate_left
                   · simp only [Act.put, List.setIfInBounds_toArray, List.set_cons_zero, List.set_cons_succ, i64_w, i32_w]
                     rfl
                   refine take_ (i := 4) (N := some 31) (v := ?_) (a' := ?_) #[true, true, true, true, true, true, true, true, true, true, false, false, false] rfl rfl (take_ofW HT_.out HW_.out (by kernel_rfl)) (fun _ _ _ h => h) (Or.inl ⟨by rfl, ?_⟩) hHeld ?_ ?_
                   rotate_left
                   · rintro w' ⟨s0, s1, s2, s3⟩
                     go_simp
                     with_reducible rfl
                   rotate_left
                   · simp only [Act.put, List.setIfInBounds_toArray, List.set_cons_zero, List.set_cons_succ, i64_w, i32_w]
                     rfl
                   refine take_ (i := 10) (N := some 37) (v := ?_) (a' := ?_) #[true, true, true, true, true, true, true, true, true, true, true, false, false] rfl rfl (take_ofW HT_.out HW_.out (by kernel_rfl)) (fun _ _ _ h => h) (Or.inl ⟨by rfl, ?_⟩) hHeld ?_ ?_
                   rotate_left
                   · rintro w' ⟨s0, s1, s2, s3⟩
                     go_simp
                     with_reducible rfl
                   rotate_left
                   · simp only [Act.put, List.setIfInBounds_toArray, List.set_cons_zero, List.set_cons_succ, i64_w, i32_w]
                     rfl
                   refine pure_ (i := 11) (N := some 38) (v := ?_) (a' := ?_) #[true, true, true, true, true, true, true, true, true, true, true, true, false] rfl rfl (any_of HT_.out (by kernel_rfl)) (fun _ _ _ h => h) (Or.inl ⟨by rfl, ?_⟩) ?_ ?_
                   rotate_left
                   · intro w'
                     go_simp
                     with_reducible rfl
                   rotate_left
                   · simp only [Act.put, List.setIfInBounds_toArray, List.set_cons_zero, List.set_cons_succ, i64_w, i32_w]
                     rfl
                   refine pure_ (i := 12) (N := some 39) (v := ?_) (a' := ?_) #[true, true, true, true, true, true, true, true, true, true, true, true, true] rfl rfl (any_of HT_.out (by kernel_rfl)) (fun _ _ _ h => h) (Or.inl ⟨by rfl, ?_⟩) ?_ ?_
                   rotate_left
                   · intro w'
                     go_simp
                     with_reducible rfl
                   rotate_left
                   · simp only [Act.put, List.setIfInBounds_toArray, List.set_cons_zero, List.set_cons_succ, i64_w, i32_w]
                     rfl
                   refine done_ (done_of HT_.out (by kernel_rfl)) ?_
                   try go_wp2
                   have n0_ := Aside0.mk (Kd.R_drew HO_6.out)
                   have n1_ := Aside0.mk (Kd.R_drew HO_19.out)
                   have n2_ := Aside0.mk (blk_drew BK117.out)
                   have n3_ := Aside0.mk (below_drew1 HB.out)
                   clear HO_6
                   clear HO_19
                   clear BK117
                   clear HB
                   have HO_6 := n0_
                   have HO_19 := n1_
                   have BK117 := n2_
                   have HB := n3_
                   clear n0_ n1_ n2_ n3_
                   have p119 : 0 ≤ ((ji14) : Int) := of_decide_eq_true (by first | (with_reducible assumption) | assumption)
                   have q119 : (ji14) < (x6_1.length : Int) := of_decide_eq_true (by first | (with_reducible assumption) | assumption)
                   obtain ⟨ad119, e119, hx119_0, hx119_1⟩ := at_T58 (Kd.R_reads' HO_6.out).2.2 (ji14) p119 q119
                   obtain rfl : ad118 = ad119 := (by injection e119)
                   replace p119 := eq_true p119
                   replace q119 := eq_true q119
                   have p19 : 0 ≤ ((ji14) : Int) := of_decide_eq_true (by first | (with_reducible assumption) | assumption)
                   have q19 : ((ji14) : Int) < ((x6_1.length : Int) : Int) := of_decide_eq_true (by first | (with_reducible assumption) | assumption)
                   obtain ⟨go19, co19, eo19, gb19, gl19, cl19, HG19⟩ := Kd.R_form HO_6.out (by omega)
                   (first | cases eo19 | (injection eo19 with ea_ en_ ec_; (first | subst ea_ | (injection ea_ with ea_; subst ea_)); subst ec_; clear en_))
                   have GB19 := Aside0.mk gb19
                   have GG19 := Aside0.mk HG19
                   clear gb19 gl19 HG19
                   (first | simp only [add_plain] at hx118_0 | skip)
                   (first | simp only [add_plain] at hx118_1 | skip)
                   (first | simp only [add_plain] at hx119_0 | skip)
                   (first | simp only [add_plain] at hx119_1 | skip)
                   obtain ⟨ce19, hcl19, hM19, hcc19, hfr19⟩ := Kd.R_elem HO_6.out z58 ((ji14) : Int) p19 q19
                   obtain rfl := k58_openM hM19
                   have hx19_0 : World.cell? _ ⟨go19, ((ji14) : Int).toNat * 2, none⟩ = some (.int .i64 ((rd_T58 x6_1 (ji14)).f0)) := hcc19 0 _ rfl
                   have hx19_1 : World.cell? _ ⟨go19, ((ji14) : Int).toNat * 2 + 1, none⟩ = some (.int .i64 ((rd_T58 x6_1 (ji14)).f1)) := hcc19 1 _ rfl
                   have hf19_0 : World.frozen? _ ⟨go19, ((ji14) : Int).toNat * 2, none⟩ = false := hfr19 0
                   have hf19_1 : World.frozen? _ ⟨go19, ((ji14) : Int).toNat * 2 + 1, none⟩ = false := hfr19 1
                   clear hcl19 hcc19 hfr19 hM19
                   replace p19 := eq_true p19
                   replace q19 := eq_true q19
                   obtain ⟨ce26, hcl26, hM26, hcc26, hfr26⟩ := Kd.R_elem HO_6.out z58 ((ji14) : Int) (of_decide_eq_true (by first | (with_reducible assumption) | assumption)) (by have h_ : ((ji14) : Int) < ((x6_1.length : Int) : Int) := of_decide_eq_true (by first | (with_reducible assumption) | assumption); first | exact h_ | (have e_ := (Kd.R_reads' HO_6.out).1; omega) | simpa using h_)
                   obtain rfl := k58_openM hM26
                   have HP26 := (Kd.R_seg HO_6.out ((ji14) : Int) (of_decide_eq_true (by first | (with_reducible assumption) | assumption)) (by have h_ : ((ji14) : Int) < ((x6_1.length : Int) : Int) := of_decide_eq_true (by first | (with_reducible assumption) | assumption); first | exact h_ | (have e_ := (Kd.R_reads' HO_6.out).1; omega) | simpa using h_) (seg := [.int .i64 ji18]) (j := 1) hcl26 hcc26 (show 2 ≤ 2 from by decide) (x' := (⟨(rd_T58 x6_1 (ji14)).f0, ji18⟩ : S58)) (k58_mkM _ _ _ (⟨(rd_T58 x6_1 (ji14)).f0, ji18⟩ : S58) ) (fun _ hk => hk)).1
                   rw [← Ny120.out] at HP26
                   have HQ26 := Aside0.mk HP26
                   clear hcl26 hcc26 hfr26 hM26 HP26
                   refine start_ (n := 15) (S := fun w' => w'.cell? ⟨gb117, 0, none⟩ = some (.int .i64 ((rd_T58 x19_1 x21_1).f0)) ∧ w'.cell? ⟨gb117, 1, none⟩ = some (.int .i64 ((rd_T58 x19_1 x21_1).f1)) ∧ w'.cell? (⟨go19, (((ji14)).toNat * 2), none⟩ : Addr) = some (.int .i64 ((rd_T58 x6_1 (ji14)).f0)) ∧ w'.cell? ⟨(⟨go19, (((ji14)).toNat * 2), none⟩ : Addr).block, (⟨go19, (((ji14)).toNat * 2), none⟩ : Addr).off + 1, none⟩ = some (.int .i64 ((rd_T58 x6_1 (ji14)).f1))) (ds := [14]) #[false, false, false, false, false, false, false, false, false, false, false, false, false, false, false] (by kernel_rfl) rfl rfl ⟨(blk_cell BK117.out 0).trans rfl, (blk_cell BK117.out 1).trans rfl, hx119_0, hx119_1⟩ (fun hHeld => ?_); refine with_tabW volume_Union.tab12 volume_Union.bits12 (fun HT_ HW_ => ?_)
                   generalize w24.drew = w25 at HO_6 HO_19 BK117 HB GG19 HQ26 hf19_0 hf19_1 hx118_0 hx118_1 hx119_0 hx119_1 hx19_0 hx19_1 hHeld ⊢
                   refine pure_ (i := 0) (N := some 40) (v := ?_) (a' := ?_) #[true, false, false, false, false, false, false, false, false, false, false, false, false, false, false] rfl rfl (any_of HT_.out (by kernel_rfl)) (fun _ _ _ h => h) (Or.inl ⟨by rfl, ?_⟩) ?_ ?_
                   rotate_left
                   · intro w'
                     go_simp
                     with_reducible rfl
                   rotate_left
                   · simp only [Act.put, List.setIfInBounds_toArray, List.set_cons_zero, List.set_cons_succ, i64_w, i32_w]
                     rfl
                   refine pure_ (i := 1) (N := some 41) (v := ?_) (a' := ?_) #[true, true, false, false, false, false, false, false, false, false, false, false, false, false, false] rfl rfl (any_of HT_.out (by kernel_rfl)) (fun _ _ _ h => h) (Or.inl ⟨by rfl, ?_⟩) ?_ ?_
                   rotate_left
                   · intro w'
                     go_simp
                     with_reducible rfl
                   rotate_left
                   · simp only [Act.put, List.setIfInBounds_toArray, List.set_cons_zero, List.set_cons_succ, i64_w, i32_w]
                     rfl
                   refine pure_ (i := 2) (N := some 42) (v := ?_) (a' := ?_) #[true, true, true, false, false, false, false, false, false, false, false, false, false, false, false] rfl rfl (any_of HT_.out (by kernel_rfl)) (fun _ _ _ h => h) (Or.inl ⟨by rfl, ?_⟩) ?_ ?_
                   rotate_left
                   · intro w'
                     go_simp
                     with_reducible rfl
                   rotate_left
                   · simp only [Act.put, List.setIfInBounds_toArray, List.set_cons_zero, List.set_cons_succ, i64_w, i32_w]
                     rfl
                   refine pure_ (i := 3) (N := some 43) (v := ?_) (a' := ?_) #[true, true, true, true, false, false, false, false, false, false, false, false, false, false, false] rfl rfl (any_of HT_.out (by kernel_rfl)) (fun _ _ _ h => h) (Or.inl ⟨by rfl, ?_⟩) ?_ ?_
                   rotate_left
                   · intro w'
                     go_simp
                     with_reducible rfl
                   rotate_left
                   · simp only [Act.put, List.setIfInBounds_toArray, List.set_cons_zero, List.set_cons_succ, i64_w, i32_w]
                     rfl
                   refine pure_ (i := 4) (N := some 44) (v := ?_) (a' := ?_) #[true, true, true, true, true, false, false, false, false, false, false, false, false, false, false] rfl rfl (any_of HT_.out (by kernel_rfl)) (fun _ _ _ h => h) (Or.inl ⟨by rfl, ?_⟩) ?_ ?_
                   rotate_left
                   · intro w'
                     go_simp
                     with_reducible rfl
                   rotate_left
                   · simp only [Act.put, List.setIfInBounds_toArray, List.set_cons_zero, List.set_cons_succ, i64_w, i32_w]
                     rfl
                   refine pure_ (i := 5) (N := some 45) (v := ?_) (a' := ?_) #[true, true, true, true, true, true, false, false, false, false, false, false, false, false, false] rfl rfl (any_of HT_.out (by kernel_rfl)) (fun _ _ _ h => h) (Or.inl ⟨by rfl, ?_⟩) ?_ ?_
                   rotate_left
                   · intro w'
                     go_simp
                     with_reducible rfl
                   rotate_left
                   · simp only [Act.put, List.setIfInBounds_toArray, List.set_cons_zero, List.set_cons_succ, i64_w, i32_w]
                     rfl
                   refine pure_ (i := 6) (N := some 46) (v := ?_) (a' := ?_) #[true, true, true, true, true, true, true, false, false, false, false, false, false, false, false] rfl rfl (any_of HT_.out (by kernel_rfl)) (fun _ _ _ h => h) (Or.inl ⟨by rfl, ?_⟩) ?_ ?_
                   rotate_left
                   · intro w'
                     go_simp
                     with_reducible rfl
                   rotate_left
                   · simp only [Act.put, List.setIfInBounds_toArray, List.set_cons_zero, List.set_cons_succ, i64_w, i32_w]
                     rfl
                   refine pure_ (i := 7) (N := some 47) (v := ?_) (a' := ?_) #[true, true, true, true, true, true, true, true, false, false, false, false, false, false, false] rfl rfl (any_of HT_.out (by kernel_rfl)) (fun _ _ _ h => h) (Or.inl ⟨by rfl, ?_⟩) ?_ ?_
                   rotate_left
                   · intro w'
                     go_simp
                     with_reducible rfl
                   rotate_left
                   · simp only [Act.put, List.setIfInBounds_toArray, List.set_cons_zero, List.set_cons_succ, i64_w, i32_w]
                     rfl
                   refine pure_ (i := 9) (N := some 49) (v := ?_) (a' := ?_) #[true, true, true, true, true, true, true, true, false, true, false, false, false, false, false] rfl rfl (any_of HT_.out (by kernel_rfl)) (fun _ _ _ h => h) (Or.inl ⟨by rfl, ?_⟩) ?_ ?_
                   rotate_left
                   · intro w'
                     go_simp
                     with_reducible rfl
                   rotate_left
                   · simp only [Act.put, List.setIfInBounds_toArray, List.set_cons_zero, List.set_cons_succ, i64_w, i32_w]
                     rfl
                   refine take_ (i := 8) (N := some 48) (v := ?_) (a' := ?_) #[true, true, true, true, true, true, true, true, true, true, false, false, false, false, false] rfl rfl (take_ofW HT_.out HW_.out (by kernel_rfl)) (fun _ _ _ h => h) (Or.inl ⟨by rfl, ?_⟩) hHeld ?_ ?_
                   rotate_left
                   · rintro w' ⟨s0, s1, s2, s3⟩
                     go_simp
                     with_reducible rfl
                   rotate_left
                   · simp only [Act.put, List.setIfInBounds_toArray, List.set_cons_zero, List.set_cons_succ, i64_w, i32_w]
                     rfl
                   refine take_ (i := 10) (N := some 50) (v := ?_) (a' := ?_) #[true, true, true, true, true, true, true, true, true, true, true, false, false, false, false] rfl rfl (take_ofW HT_.out HW_.out (by kernel_rfl)) (fun _ _ _ h => h) (Or.inl ⟨by rfl, ?_⟩) hHeld ?_ ?_
                   rotate_left
                   · rintro w' ⟨s0, s1, s2, s3⟩
                     go_simp
                     with_reducible rfl
                   rotate_left
                   · simp only [Act.put, List.setIfInBounds_toArray, List.set_cons_zero, List.set_cons_succ, i64_w, i32_w]
                     rfl
                   refine pure_ (i := 11) (N := some 51) (v := ?_) (a' := ?_) #[true, true, true, true, true, true, true, true, true, true, true, true, false, false, false] rfl rfl (any_of HT_.out (by kernel_rfl)) (fun _ _ _ h => h) (Or.inl ⟨by rfl, ?_⟩) ?_ ?_
                   rotate_left
                   · intro w'
                     go_simp
                     with_reducible rfl
                   rotate_left
                   · simp only [Act.put, List.setIfInBounds_toArray, List.set_cons_zero, List.set_cons_succ, i64_w, i32_w]
                     rfl
                   refine pure_ (i := 12) (N := some 52) (v := ?_) (a' := ?_) #[true, true, true, true, true, true, true, true, true, true, true, true, true, false, false] rfl rfl (any_of HT_.out (by kernel_rfl)) (fun _ _ _ h => h) (Or.inl ⟨by rfl, ?_⟩) ?_ ?_
                   rotate_left
                   · intro w'
                     go_simp
                     with_reducible rfl
                   rotate_left
                   · simp only [Act.put, List.setIfInBounds_toArray, List.set_cons_zero, List.set_cons_succ, i64_w, i32_w]
                     rfl
                   refine pure_ (i := 13) (N := some 53) (v := ?_) (a' := ?_) #[true, true, true, true, true, true, true, true, true, true, true, true, true, true, false] rfl rfl (any_of HT_.out (by kernel_rfl)) (fun _ _ _ h => h) (Or.inl ⟨by rfl, ?_⟩) ?_ ?_
                   rotate_left
                   · intro w'
                     go_simp
                     with_reducible rfl
                   rotate_left
                   · simp only [Act.put, List.setIfInBounds_toArray, List.set_cons_zero, List.set_cons_succ, i64_w, i32_w]
                     rfl
                   refine last_ (i := 14) (N := none) #[true, true, true, true, true, true, true, true, true, true, true, true, true, true, true] rfl rfl (one_of HT_.out (by kernel_rfl)) (by decide) (fun K hK => ?_)
                   (with_reducible refine skip_ (w1 := ?_) ?hA_ ?hB_ ?_ ?_); (case hA_ => rfl); (case hB_ => rfl)
                   rotate_left
                   · go_simp
                     rfl
                   refine hK.out _ _ ?_
                   clear hK K
                   refine done_ (done_of HT_.out (by kernel_rfl)) ?_
                   try go_wp2
                   (try simp only [← hl19_1])
                   first | go_roundg k1 | (subst hji14; subst hji18; go_roundg k1)
                   case measure => have := HK1.out; omega
                   case rel => exact ⟨(y120), (x19_1), (wrap64 (x21_1 + 1)), (by first | rfl | (simp; done) | (simp [*]; done)), H', ⟨by have := HK1.out; omega⟩, ⟨by (try simp only [hl19_1]); (with_reducible repeat (first | apply Kd.R_alloc | apply Kd.R_drewN | apply Kd.R_drew)); exact Kd.R_mono HQ26.out (fun _ hk => hk.1)⟩, ⟨by (try simp only [hl19_1]); (with_reducible repeat (first | apply Kd.R_alloc | apply Kd.R_drewN | apply Kd.R_drew)); exact Kd.R_mono (Kd.R_far (p := ⟨go19, ((ji14) : Int).toNat * 2 + 1, none⟩) (Kd.R_mono HO_19.out (fun k_ hk => (⟨hk, fun e_ => hk.1 (by rw [e_]; rfl)⟩ : _ ∧ k_ ≠ go19))) (fun _ hk => hk.2) (.int .i64 ji18)) (fun _ hk => hk.1.1)⟩, ⟨by repeat (first | (with_reducible first | exact HB.out | apply below_alloc | apply pw_below_drewN | apply below_drew1 | refine below_set ?_ GB19.out | refine below_set ?_ GE117.out) | exact HB.out)⟩⟩
                 · rw [if_neg c17] at H
                   have c17b0 : decide (((rd_T58 x19_1 x21_1).f0) ≤ ((rd_T58 x6_1 (ji14)).f1)) = false := decide_eq_false c17
                   clear c17
                   by_cases c27 : x6_1.length < 8796093022208
                   · rw [if_pos c27] at H
                     have LMc27 := Aside0.mk c27
                     clear c27
                     obtain ⟨y121, hy121⟩ : ∃ y_ : List (S58), y_ = (x6_1 ++ [(⟨(rd_T58 x19_1 x21_1).f0, (rd_T58 x19_1 x21_1).f1⟩ : S58)]) := ⟨_, rfl⟩
                     replace H : (volume_Union.l0 k1 y121 x19_1 (t112.length : Int) (wrap64 (x21_1 + 1))) = some (r1, r2) := by first | (rw [hy121]; with_reducible exact H) | (have H2_ := (Option.bind_some _ _).symm.trans H; rw [hy121]; with_reducible exact H2_) | (have H2_ := (Option.bind_some _ _).symm.trans H; with_reducible exact H2_) | with_reducible exact H | (rw [hy121]; exact H) | exact H
                     have Ny121 := Aside0.mk hy121
                     clear hy121
                     have H' := Aside0.mk H
                     clear H
                     have p116 : 0 ≤ (x21_1 : Int) := of_decide_eq_true (by first | (with_reducible assumption) | assumption)
                     have q116 : x21_1 < (x19_1.length : Int) := of_decide_eq_true (by first | (with_reducible assumption) | assumption)
                     obtain ⟨ad116, e116, hx116_0, hx116_1⟩ := at_T58 (Kd.R_reads' HO_19.out).2.2 x21_1 p116 q116
                     cases e116
                     replace p116 := eq_true p116
                     replace q116 := eq_true q116
                     try go_wp2_with (first | ((with_reducible refine gate_dst (N := 8) rfl ?_); refine box_event ?hg (N := 8) ?hd (cs := #[.int .i64 0, .int .i64 0]) (t := 58) ?hr ?_; (case hd => rfl); (case hg => rfl); (case hr => first | (go_simp; done) | (go_simp; rfl)); intro gb117 hg w28 hbox hb; have n0_ := Aside0.mk (Kd.R_below (Kd.R_elderB (by (with_reducible repeat (first | apply Kd.R_alloc | apply Kd.R_drewN | apply Kd.R_drew)); exact HO_6.out) gb117 (Nat.le_of_eq hg.symm)) hb); have n1_ := Aside0.mk (Kd.R_below (Kd.R_elderB (by (with_reducible repeat (first | apply Kd.R_alloc | apply Kd.R_drewN | apply Kd.R_drew)); exact HO_19.out) gb117 (Nat.le_of_eq hg.symm)) hb); have n2_ := Aside0.mk (below_step (by repeat (first | (with_reducible first | exact HB.out | apply below_alloc | apply pw_below_drewN | apply below_drew1) | exact HB.out)) hb); have n3_ := Aside0.mk (hbox); have n4_ := Aside0.mk ((by rw [hg]; exact (below_size (by repeat (first | (with_reducible first | exact HB.out | apply below_alloc | apply pw_below_drewN | apply below_drew1) | exact HB.out))) : w.heap.size ≤ gb117)); have n5_ := Aside0.mk ((by rw [hg]; exact (below_size (by repeat (first | (with_reducible first | exact HB.out | apply below_alloc | apply pw_below_drewN | apply below_drew1) | exact HB.out))) : w.heap.size ≤ gb117)); clear HO_6; clear HO_19; clear HB; have HO_6 := n0_; have HO_19 := n1_; have HB := n2_; have BK117 := n3_; have GW117 := n4_; have GE117 := n5_; clear n0_ n1_ n2_ n3_ n4_ n5_; clear hb hbox hg; have hcz29_0 : w28.cell? ⟨gb117, 0, none⟩ = some (.int .i64 0) := (blk_cell BK117.out 0).trans rfl; have hcz29_1 : w28.cell? ⟨gb117, 1, none⟩ = some (.int .i64 0) := (blk_cell BK117.out 1).trans rfl; have hfz29_0 := blk_frozen BK117.out 0; have hfz29_1 := blk_frozen BK117.out 1; obtain ⟨Ao30, co30, eo30⟩ := Kd.R_slice HO_6.out; subst eo30))
                     have n0_ : Aside0 (Kd.R k58 58 ((w28.setCell ⟨gb117, 0, none⟩ (.int .i64 ((rd_T58 x19_1 x21_1).f0))).setCell ⟨gb117, 1, none⟩ (.int .i64 ((rd_T58 x19_1 x21_1).f1))) w.heap.size (fun k_ => some k_ ≠ (.slice (some ad116) x19_1.length co8 : Value).ownBlock ∧ k_ ≠ gb117) (.slice Ao30 x6_1.length co30) x6_1) := ⟨by (with_reducible repeat (first | apply Kd.R_alloc | apply Kd.R_drewN | apply Kd.R_drew)); exact Kd.R_mono (Kd.R_far (p := ⟨gb117, 1, none⟩) (Kd.R_far (p := ⟨gb117, 0, none⟩) (Kd.R_mono HO_6.out (fun k_ hk => (⟨hk, hk.2⟩ : _ ∧ k_ ≠ gb117))) (fun _ hk => hk.2) (.int .i64 ((rd_T58 x19_1 x21_1).f0))) (fun _ hk => hk.2) (.int .i64 ((rd_T58 x19_1 x21_1).f1))) (fun _ hk => ⟨hk.1.1, hk.1.2⟩)⟩
                     have n1_ : Aside0 (Kd.R k58 58 ((w28.setCell ⟨gb117, 0, none⟩ (.int .i64 ((rd_T58 x19_1 x21_1).f0))).setCell ⟨gb117, 1, none⟩ (.int .i64 ((rd_T58 x19_1 x21_1).f1))) w.heap.size (fun k_ => some k_ ≠ (.slice Ao30 x6_1.length co30 : Value).ownBlock ∧ k_ ≠ gb117) (.slice (some ad116) x19_1.length co8) x19_1) := ⟨by (with_reducible repeat (first | apply Kd.R_alloc | apply Kd.R_drewN | apply Kd.R_drew)); exact Kd.R_mono (Kd.R_far (p := ⟨gb117, 1, none⟩) (Kd.R_far (p := ⟨gb117, 0, none⟩) (Kd.R_mono HO_19.out (fun k_ hk => (⟨hk, hk.2⟩ : _ ∧ k_ ≠ gb117))) (fun _ hk => hk.2) (.int .i64 ((rd_T58 x19_1 x21_1).f0))) (fun _ hk => hk.2) (.int .i64 ((rd_T58 x19_1 x21_1).f1))) (fun _ hk => ⟨hk.1.1, hk.1.2⟩)⟩
                     have n2_ : Aside0 (((w28.setCell ⟨gb117, 0, none⟩ (.int .i64 ((rd_T58 x19_1 x21_1).f0))).setCell ⟨gb117, 1, none⟩ (.int .i64 ((rd_T58 x19_1 x21_1).f1))).heap[gb117]? = some (.cells #[.int .i64 ((rd_T58 x19_1 x21_1).f0), .int .i64 ((rd_T58 x19_1 x21_1).f1)] 58 (0, 0))) := ⟨by (with_reducible repeat (first | refine blk_drewN ?_ _ | refine blk_drew ?_ | refine blk_alloc ?_ _)); refine blk_put (cs := #[.int .i64 ((rd_T58 x19_1 x21_1).f0), .int .i64 0]) ?_ 1 _ rfl; (with_reducible repeat (first | refine blk_drewN ?_ _ | refine blk_drew ?_ | refine blk_alloc ?_ _)); refine blk_put (cs := #[.int .i64 0, .int .i64 0]) ?_ 0 _ rfl; (with_reducible repeat (first | refine blk_drewN ?_ _ | refine blk_drew ?_ | refine blk_alloc ?_ _)); exact BK117.out⟩
                     have n3_ : Aside0 (Below w.heap.size w ((w28.setCell ⟨gb117, 0, none⟩ (.int .i64 ((rd_T58 x19_1 x21_1).f0))).setCell ⟨gb117, 1, none⟩ (.int .i64 ((rd_T58 x19_1 x21_1).f1)))) := ⟨by repeat (first | (with_reducible first | exact HB.out | apply below_alloc | apply pw_below_drewN | apply below_drew1 | refine below_set ?_ GE117.out) | exact HB.out)⟩
                     (try clear HO_6)
                     (try clear HO_19)
                     (try clear BK117)
                     (try clear HB)
                     generalize ((w28.setCell ⟨gb117, 0, none⟩ (.int .i64 ((rd_T58 x19_1 x21_1).f0))).setCell ⟨gb117, 1, none⟩ (.int .i64 ((rd_T58 x19_1 x21_1).f1))) = w31 at n0_ n1_ n2_ n3_ ⊢
                     have HO_6 := n0_
                     have HO_19 := n1_
                     have BK117 := n2_
                     have HB := n3_
                     clear n0_ n1_ n2_ n3_
                     have n0_ := Aside0.mk (Kd.R_drew HO_6.out)
                     have n1_ := Aside0.mk (Kd.R_drew HO_19.out)
                     have n2_ := Aside0.mk (blk_drew BK117.out)
                     have n3_ := Aside0.mk (below_drew1 HB.out)
                     clear HO_6
                     clear HO_19
                     clear BK117
                     clear HB
                     have HO_6 := n0_
                     have HO_19 := n1_
                     have BK117 := n2_
                     have HB := n3_
                     clear n0_ n1_ n2_ n3_
                     have p118 : 0 ≤ ((ji14) : Int) := of_decide_eq_true (by first | (with_reducible assumption) | assumption)
                     have q118 : (ji14) < (x6_1.length : Int) := of_decide_eq_true (by first | (with_reducible assumption) | assumption)
                     obtain ⟨ad118, e118, hx118_0, hx118_1⟩ := at_T58 (Kd.R_reads' HO_6.out).2.2 (ji14) p118 q118
                     cases e118
                     replace p118 := eq_true p118
                     replace q118 := eq_true q118
                     refine start_ (n := 13) (S := fun w' => w'.cell? ⟨gb117, 0, none⟩ = some (.int .i64 ((rd_T58 x19_1 x21_1).f0)) ∧ w'.cell? ⟨gb117, 1, none⟩ = some (.int .i64 ((rd_T58 x19_1 x21_1).f1)) ∧ w'.cell? (ad118.add (((ji14)).toNat * 2)) = some (.int .i64 ((rd_T58 x6_1 (ji14)).f0)) ∧ w'.cell? ⟨(ad118.add (((ji14)).toNat * 2)).block, (ad118.add (((ji14)).toNat * 2)).off + 1, none⟩ = some (.int .i64 ((rd_T58 x6_1 (ji14)).f1))) (ds := []) #[false, false, false, false, false, false, false, false, false, false, false, false, false] (by kernel_rfl) rfl rfl ⟨(blk_cell BK117.out 0).trans rfl, (blk_cell BK117.out 1).trans rfl, hx118_0, hx118_1⟩ (fun hHeld => ?_); refine with_tabW volume_Union.tab11 volume_Union.bits11 (fun HT_ HW_ => ?_)
                     generalize w31.drew = w32 at HO_6 HO_19 BK117 HB hx118_0 hx118_1 hHeld ⊢
                     refine pure_ (i := 0) (N := some 27) (v := ?_) (a' := ?_) #[true, false, false, false, false, false, false, false, false, false, false, false, false] rfl rfl (any_of HT_.out (by kernel_rfl)) (fun _ _ _ h => h) (Or.inl ⟨by rfl, ?_⟩) ?_ ?_
                     rotate_left
                     · intro w'
                       go_simp
                       with_reducible rfl
                     rotate_left
                     · simp only [Act.put, List.setIfInBounds_toArray, List.set_cons_zero, List.set_cons_succ, i64_w, i32_w]
                       rfl
                     refine pure_ (i := 1) (N := some 28) (v := ?_) (a' := ?_) #[true, true, false, false, false, false, false, false, false, false, false, false, false] rfl rfl (any_of HT_.out (by kernel_rfl)) (fun _ _ _ h => h) (Or.inl ⟨by rfl, ?_⟩) ?_ ?_
                     rotate_left
                     · intro w'
                       go_simp
                       with_reducible rfl
                     rotate_left
                     · simp only [Act.put, List.setIfInBounds_toArray, List.set_cons_zero, List.set_cons_succ, i64_w, i32_w]
                       rfl
                     refine pure_ (i := 2) (N := some 29) (v := ?_) (a' := ?_) #[true, true, true, false, false, false, false, false, false, false, false, false, false] rfl rfl (any_of HT_.out (by kernel_rfl)) (fun _ _ _ h => h) (Or.inl ⟨by rfl, ?_⟩) ?_ ?_
                     rotate_left
                     · intro w'
                       go_simp
                       with_reducible rfl
                     rotate_left
                     · simp only [Act.put, List.setIfInBounds_toArray, List.set_cons_zero, List.set_cons_succ, i64_w, i32_w]
                       rfl
                     refine pure_ (i := 3) (N := some 30) (v := ?_) (a' := ?_) #[true, true, true, true, false, false, false, false, false, false, false, false, false] rfl rfl (any_of HT_.out (by kernel_rfl)) (fun _ _ _ h => h) (Or.inl ⟨by rfl, ?_⟩) ?_ ?_
                     rotate_left
                     · intro w'
                       go_simp
                       with_reducible rfl
                     rotate_left
                     · simp only [Act.put, List.setIfInBounds_toArray, List.set_cons_zero, List.set_cons_succ, i64_w, i32_w]
                       rfl
                     refine pure_ (i := 5) (N := some 32) (v := ?_) (a' := ?_) #[true, true, true, true, false, true, false, false, false, false, false, false, false] rfl rfl (any_of HT_.out (by kernel_rfl)) (fun _ _ _ h => h) (Or.inl ⟨by rfl, ?_⟩) ?_ ?_
                     rotate_left
                     · intro w'
                       go_simp
                       with_reducible rfl
                     rotate_left
                     · simp only [Act.put, List.setIfInBounds_toArray, List.set_cons_zero, List.set_cons_succ, i64_w, i32_w]
                       rfl
                     refine pure_ (i := 6) (N := some 33) (v := ?_) (a' := ?_) #[true, true, true, true, false, true, true, false, false, false, false, false, false] rfl rfl (any_of HT_.out (by kernel_rfl)) (fun _ _ _ h => h) (Or.inl ⟨by rfl, ?_⟩) ?_ ?_
                     rotate_left
                     · intro w'
                       go_simp
                       with_reducible rfl
                     rotate_left
                     · simp only [Act.put, List.setIfInBounds_toArray, List.set_cons_zero, List.set_cons_succ, i64_w, i32_w]
                       rfl
                     refine pure_ (i := 7) (N := some 34) (v := ?_) (a' := ?_) #[true, true, true, true, false, true, true, true, false, false, false, false, false] rfl rfl (any_of HT_.out (by kernel_rfl)) (fun _ _ _ h => h) (Or.inl ⟨by rfl, ?_⟩) ?_ ?_
                     rotate_left
                     · intro w'
                       go_simp
                       with_reducible rfl
                     rotate_left
                     · simp only [Act.put, List.setIfInBounds_toArray, List.set_cons_zero, List.set_cons_succ, i64_w, i32_w]
                       rfl
                     refine pure_ (i := 8) (N := some 35) (v := ?_) (a' := ?_) #[true, true, true, true, false, true, true, true, true, false, false, false, false] rfl rfl (any_of HT_.out (by kernel_rfl)) (fun _ _ _ h => h) (Or.inl ⟨by rfl, ?_⟩) ?_ ?_
                     rotate_left
                     · intro w'
                       go_simp
                       with_reducible rfl
                     rotate_left
                     · simp only [Act.put, List.setIfInBounds_toArray, List.set_cons_zero, List.set_cons_succ, i64_w, i32_w]
                       rfl
                     refine pure_ (i := 9) (N := some 36) (v := ?_) (a' := ?_) #[true, true, true, true, false, true, true, true, true, true, false, false, false] rfl rfl (any_of HT_.out (by kernel_rfl)) (fun _ _ _ h => h) (Or.inl ⟨by rfl, ?_⟩) ?_ ?_
                     rotate_left
                     · intro w'
                       go_simp
                       with_reducible rfl
                     rotate_left
                     · simp only [Act.put, List.setIfInBounds_toArray, List.set_cons_zero, List.set_cons_succ, i64_w, i32_w]
                       rfl
                     refine take_ (i := 4) (N := some 31) (v := ?_) (a' := ?_) #[true, true, true, true, true, true, true, true, true, true, false, false, false] rfl rfl (take_ofW HT_.out HW_.out (by kernel_rfl)) (fun _ _ _ h => h) (Or.inl ⟨by rfl, ?_⟩) hHeld ?_ ?_
                     rotate_left
                     · rintro w' ⟨s0, s1, s2, s3⟩
                       go_simp
                       with_reducible rfl
                     rotate_left
                     · simp only [Act.put, List.setIfInBounds_toArray, List.set_cons_zero, List.set_cons_succ, i64_w, i32_w]
                       rfl
                     refine take_ (i := 10) (N := some 37) (v := ?_) (a' := ?_) #[true, true, true, true, true, true, true, true, true, true, true, false, false] rfl rfl (take_ofW HT_.out HW_.out (by kernel_rfl)) (fun _ _ _ h => h) (Or.inl ⟨by rfl, ?_⟩) hHeld ?_ ?_
                     rotate_left
                     · rintro w' ⟨s0, s1, s2, s3⟩
                       go_simp
                       with_reducible rfl
                     rotate_left
                     · simp only [Act.put, List.setIfInBounds_toArray, List.set_cons_zero, List.set_cons_succ, i64_w, i32_w]
                       rfl
                     refine pure_ (i := 11) (N := some 38) (v := ?_) (a' := ?_) #[true, true, true, true, true, true, true, true, true, true, true, true, false] rfl rfl (any_of HT_.out (by kernel_rfl)) (fun _ _ _ h => h) (Or.inl ⟨by rfl, ?_⟩) ?_ ?_
                     rotate_left
                     · intro w'
                       go_simp
                       with_reducible rfl
                     rotate_left
                     · simp only [Act.put, List.setIfInBounds_toArray, List.set_cons_zero, List.set_cons_succ, i64_w, i32_w]
                       rfl
                     refine pure_ (i := 12) (N := some 39) (v := ?_) (a' := ?_) #[true, true, true, true, true, true, true, true, true, true, true, true, true] rfl rfl (any_of HT_.out (by kernel_rfl)) (fun _ _ _ h => h) (Or.inl ⟨by rfl, ?_⟩) ?_ ?_
                     rotate_left
                     · intro w'
                       go_simp
                       with_reducible rfl
                     rotate_left
                     · simp only [Act.put, List.setIfInBounds_toArray, List.set_cons_zero, List.set_cons_succ, i64_w, i32_w]
                       rfl
                     refine done_ (done_of HT_.out (by kernel_rfl)) ?_
                     have hcz33_0 : w32.cell? ⟨gb117, 0, none⟩ = some (.int .i64 ((rd_T58 x19_1 x21_1).f0)) := (blk_cell BK117.out 0).trans rfl
                     have hcz33_1 : w32.cell? ⟨gb117, 1, none⟩ = some (.int .i64 ((rd_T58 x19_1 x21_1).f1)) := (blk_cell BK117.out 1).trans rfl
                     have hfz33_0 := blk_frozen BK117.out 0
                     have hfz33_1 := blk_frozen BK117.out 1
                     try go_wp2_with (first | ((with_reducible refine gate_builtin (b := .append) (xs := #[.tmp 54, .tmp 56]) rfl ?_); at_builtin; refine Kd.R_append k58 (w0 := w) w.heap.size rfl (.tmp 54) (.tmp 56) 53 58 (.agg #[(.int .i64 0), (.int .i64 0)]) 16 rfl Try.underlying53 info58 rfl (by decide) (by omega) (.slice (some ad118) x6_1.length co30) x6_1 (⟨(rd_T58 x19_1 x21_1).f0, (rd_T58 x19_1 x21_1).f1⟩ : S58) [.int .i64 ((rd_T58 x19_1 x21_1).f0), .int .i64 ((rd_T58 x19_1 x21_1).f1)] (fun k_ => some k_ ≠ (.slice (some ad116) x19_1.length co8 : Value).ownBlock ∧ k_ ≠ gb117) (fun _ => False) rfl rfl ?aP (fun _ hk => hk.elim) ?aF ?aO ?aB ?aS ?aL ?_; (case aP => exact k58_mkM _ _ _ (⟨(rd_T58 x19_1 x21_1).f0, (rd_T58 x19_1 x21_1).f1⟩ : S58)); (case aB => exact (by repeat (first | (with_reducible first | exact HB.out | apply below_alloc | apply pw_below_drewN | apply below_drew1 | refine below_set ?_ GE117.out) | exact HB.out))); (case aF => exact (fun k_ hk => ⟨Kd.fresh' (Kd.R_lt (by (with_reducible repeat (first | apply Kd.R_alloc | apply Kd.R_drewN | apply Kd.R_drew)); exact HO_19.out)) k_ hk, Kd.freshB (g := gb117) (o := .cells #[.int .i64 ((rd_T58 x19_1 x21_1).f0), .int .i64 ((rd_T58 x19_1 x21_1).f1)] 58 (0, 0)) (by (with_reducible repeat (first | refine blk_drewN ?_ _ | refine blk_drew ?_ | refine blk_alloc ?_ _)); exact BK117.out) k_ hk⟩)); (case aO => exact (by (with_reducible repeat (first | apply Kd.R_alloc | apply Kd.R_drewN | apply Kd.R_drew)); exact HO_6.out)); (case aS => exact (below_size (by repeat (first | (with_reducible first | exact HB.out | apply below_alloc | apply pw_below_drewN | apply below_drew1 | refine below_set ?_ GE117.out) | exact HB.out)))); (case aL => have := LMc27.out; omega); intro v122 w34 ho hb hg hat; rw [← Ny121.out] at ho; have n0_ := Aside0.mk (Kd.R_after (ok := (fun k_ => k_ ≠ gb117)) (by (with_reducible repeat (first | apply Kd.R_alloc | apply Kd.R_drewN | apply Kd.R_drew)); exact Kd.R_mono HO_19.out (fun _ hk => ⟨hk.2, hk.1⟩)) hg hat); have n1_ := Aside0.mk (blk_grown (g := gb117) (o := .cells #[.int .i64 ((rd_T58 x19_1 x21_1).f0), .int .i64 ((rd_T58 x19_1 x21_1).f1)] 58 (0, 0)) (by (with_reducible repeat (first | refine blk_drewN ?_ _ | refine blk_drew ?_ | refine blk_alloc ?_ _)); exact BK117.out) hg (Kd.R_away HO_6.out (fun _ hk => hk.2))); have n2_ := Aside0.mk (hb); have n3_ := Aside0.mk (ho); clear HO_19; clear BK117; clear HB; clear HO_6; have HO_19 := n0_; have BK117 := n1_; have HB := n2_; have HO123 := n3_; clear n0_ n1_ n2_ n3_; clear ho hb hg hat))
                     (try simp only [← hl19_1])
                     first | go_roundg k1 | (subst hji14; go_roundg k1)
                     case measure => have := HK1.out; omega
                     case rel => exact ⟨(y121), (x19_1), (wrap64 (x21_1 + 1)), (by first | rfl | (simp; done) | (simp [*]; done)), H', ⟨by have := HK1.out; omega⟩, ⟨by (try simp only [hl19_1]); (with_reducible repeat (first | apply Kd.R_alloc | apply Kd.R_drewN | apply Kd.R_drew)); exact Kd.R_mono HO123.out (fun _ hk => hk.1)⟩, ⟨by (try simp only [hl19_1]); (with_reducible repeat (first | apply Kd.R_alloc | apply Kd.R_drewN | apply Kd.R_drew)); exact Kd.R_mono HO_19.out (fun _ hk => hk.2)⟩, ⟨by repeat (first | (with_reducible first | exact HB.out | apply below_alloc | apply pw_below_drewN | apply below_drew1 | refine below_set ?_ GE117.out) | exact HB.out)⟩⟩
                   · rw [if_neg c27] at H
                     exact absurd H (by simp)
               · rw [if_neg c16] at H
                 exact absurd H (by simp)
             · rw [if_neg c15] at H
               exact absurd H (by simp)
           · rw [if_neg c13] at H
             have c13b0 : decide (0 < (x6_1.length : Int)) = false := decide_eq_false c13
             (try (have c13b0_hl19_1 := c13b0; simp only [hl19_1] at c13b0_hl19_1))
             have c13b1 : decide (0 < x6_1.length) = false := decide_eq_false (by omega)
             clear c13
             by_cases c35 : x6_1.length < 8796093022208
             · rw [if_pos c35] at H
               have LMc35 := Aside0.mk c35
               clear c35
               obtain ⟨y124, hy124⟩ : ∃ y_ : List (S58), y_ = (x6_1 ++ [(⟨(rd_T58 x19_1 x21_1).f0, (rd_T58 x19_1 x21_1).f1⟩ : S58)]) := ⟨_, rfl⟩
               replace H : (volume_Union.l0 k1 y124 x19_1 (t112.length : Int) (wrap64 (x21_1 + 1))) = some (r1, r2) := by first | (rw [hy124]; with_reducible exact H) | (have H2_ := (Option.bind_some _ _).symm.trans H; rw [hy124]; with_reducible exact H2_) | (have H2_ := (Option.bind_some _ _).symm.trans H; with_reducible exact H2_) | with_reducible exact H | (rw [hy124]; exact H) | exact H
               have Ny124 := Aside0.mk hy124
               clear hy124
               have H' := Aside0.mk H
               clear H
               have p116 : 0 ≤ (x21_1 : Int) := of_decide_eq_true (by first | (with_reducible assumption) | assumption)
               have q116 : x21_1 < (x19_1.length : Int) := of_decide_eq_true (by first | (with_reducible assumption) | assumption)
               obtain ⟨ad116, e116, hx116_0, hx116_1⟩ := at_T58 (Kd.R_reads' HO_19.out).2.2 x21_1 p116 q116
               cases e116
               replace p116 := eq_true p116
               replace q116 := eq_true q116
               try go_wp2_with (first | ((with_reducible refine gate_dst (N := 8) rfl ?_); refine box_event ?hg (N := 8) ?hd (cs := #[.int .i64 0, .int .i64 0]) (t := 58) ?hr ?_; (case hd => rfl); (case hg => rfl); (case hr => first | (go_simp; done) | (go_simp; rfl)); intro gb117 hg w36 hbox hb; have n0_ := Aside0.mk (Kd.R_below (Kd.R_elderB (by (with_reducible repeat (first | apply Kd.R_alloc | apply Kd.R_drewN | apply Kd.R_drew)); exact HO_6.out) gb117 (Nat.le_of_eq hg.symm)) hb); have n1_ := Aside0.mk (Kd.R_below (Kd.R_elderB (by (with_reducible repeat (first | apply Kd.R_alloc | apply Kd.R_drewN | apply Kd.R_drew)); exact HO_19.out) gb117 (Nat.le_of_eq hg.symm)) hb); have n2_ := Aside0.mk (below_step (by repeat (first | (with_reducible first | exact HB.out | apply below_alloc | apply pw_below_drewN | apply below_drew1) | exact HB.out)) hb); have n3_ := Aside0.mk (hbox); have n4_ := Aside0.mk ((by rw [hg]; exact (below_size (by repeat (first | (with_reducible first | exact HB.out | apply below_alloc | apply pw_below_drewN | apply below_drew1) | exact HB.out))) : w.heap.size ≤ gb117)); have n5_ := Aside0.mk ((by rw [hg]; exact (below_size (by repeat (first | (with_reducible first | exact HB.out | apply below_alloc | apply pw_below_drewN | apply below_drew1) | exact HB.out))) : w.heap.size ≤ gb117)); clear HO_6; clear HO_19; clear HB; have HO_6 := n0_; have HO_19 := n1_; have HB := n2_; have BK117 := n3_; have GW117 := n4_; have GE117 := n5_; clear n0_ n1_ n2_ n3_ n4_ n5_; clear hb hbox hg; have hcz37_0 : w36.cell? ⟨gb117, 0, none⟩ = some (.int .i64 0) := (blk_cell BK117.out 0).trans rfl; have hcz37_1 : w36.cell? ⟨gb117, 1, none⟩ = some (.int .i64 0) := (blk_cell BK117.out 1).trans rfl; have hfz37_0 := blk_frozen BK117.out 0; have hfz37_1 := blk_frozen BK117.out 1; obtain ⟨Ao38, co38, eo38⟩ := Kd.R_slice HO_6.out; subst eo38))
               have n0_ : Aside0 (Kd.R k58 58 ((w36.setCell ⟨gb117, 0, none⟩ (.int .i64 ((rd_T58 x19_1 x21_1).f0))).setCell ⟨gb117, 1, none⟩ (.int .i64 ((rd_T58 x19_1 x21_1).f1))) w.heap.size (fun k_ => some k_ ≠ (.slice (some ad116) x19_1.length co8 : Value).ownBlock ∧ k_ ≠ gb117) (.slice Ao38 x6_1.length co38) x6_1) := ⟨by (with_reducible repeat (first | apply Kd.R_alloc | apply Kd.R_drewN | apply Kd.R_drew)); exact Kd.R_mono (Kd.R_far (p := ⟨gb117, 1, none⟩) (Kd.R_far (p := ⟨gb117, 0, none⟩) (Kd.R_mono HO_6.out (fun k_ hk => (⟨hk, hk.2⟩ : _ ∧ k_ ≠ gb117))) (fun _ hk => hk.2) (.int .i64 ((rd_T58 x19_1 x21_1).f0))) (fun _ hk => hk.2) (.int .i64 ((rd_T58 x19_1 x21_1).f1))) (fun _ hk => ⟨hk.1.1, hk.1.2⟩)⟩
               have n1_ : Aside0 (Kd.R k58 58 ((w36.setCell ⟨gb117, 0, none⟩ (.int .i64 ((rd_T58 x19_1 x21_1).f0))).setCell ⟨gb117, 1, none⟩ (.int .i64 ((rd_T58 x19_1 x21_1).f1))) w.heap.size (fun k_ => some k_ ≠ (.slice Ao38 x6_1.length co38 : Value).ownBlock ∧ k_ ≠ gb117) (.slice (some ad116) x19_1.length co8) x19_1) := ⟨by (with_reducible repeat (first | apply Kd.R_alloc | apply Kd.R_drewN | apply Kd.R_drew)); exact Kd.R_mono (Kd.R_far (p := ⟨gb117, 1, none⟩) (Kd.R_far (p := ⟨gb117, 0, none⟩) (Kd.R_mono HO_19.out (fun k_ hk => (⟨hk, hk.2⟩ : _ ∧ k_ ≠ gb117))) (fun _ hk => hk.2) (.int .i64 ((rd_T58 x19_1 x21_1).f0))) (fun _ hk => hk.2) (.int .i64 ((rd_T58 x19_1 x21_1).f1))) (fun _ hk => ⟨hk.1.1, hk.1.2⟩)⟩
               have n2_ : Aside0 (((w36.setCell ⟨gb117, 0, none⟩ (.int .i64 ((rd_T58 x19_1 x21_1).f0))).setCell ⟨gb117, 1, none⟩ (.int .i64 ((rd_T58 x19_1 x21_1).f1))).heap[gb117]? = some (.cells #[.int .i64 ((rd_T58 x19_1 x21_1).f0), .int .i64 ((rd_T58 x19_1 x21_1).f1)] 58 (0, 0))) := ⟨by (with_reducible repeat (first | refine blk_drewN ?_ _ | refine blk_drew ?_ | refine blk_alloc ?_ _)); refine blk_put (cs := #[.int .i64 ((rd_T58 x19_1 x21_1).f0), .int .i64 0]) ?_ 1 _ rfl; (with_reducible repeat (first | refine blk_drewN ?_ _ | refine blk_drew ?_ | refine blk_alloc ?_ _)); refine blk_put (cs := #[.int .i64 0, .int .i64 0]) ?_ 0 _ rfl; (with_reducible repeat (first | refine blk_drewN ?_ _ | refine blk_drew ?_ | refine blk_alloc ?_ _)); exact BK117.out⟩
               have n3_ : Aside0 (Below w.heap.size w ((w36.setCell ⟨gb117, 0, none⟩ (.int .i64 ((rd_T58 x19_1 x21_1).f0))).setCell ⟨gb117, 1, none⟩ (.int .i64 ((rd_T58 x19_1 x21_1).f1)))) := ⟨by repeat (first | (with_reducible first | exact HB.out | apply below_alloc | apply pw_below_drewN | apply below_drew1 | refine below_set ?_ GE117.out) | exact HB.out)⟩
               (try clear HO_6)
               (try clear HO_19)
               (try clear BK117)
               (try clear HB)
               generalize ((w36.setCell ⟨gb117, 0, none⟩ (.int .i64 ((rd_T58 x19_1 x21_1).f0))).setCell ⟨gb117, 1, none⟩ (.int .i64 ((rd_T58 x19_1 x21_1).f1))) = w39 at n0_ n1_ n2_ n3_ ⊢
               have HO_6 := n0_
               have HO_19 := n1_
               have BK117 := n2_
               have HB := n3_
               clear n0_ n1_ n2_ n3_
               have n0_ := Aside0.mk (Kd.R_drew HO_6.out)
               have n1_ := Aside0.mk (Kd.R_drew HO_19.out)
               have n2_ := Aside0.mk (blk_drew BK117.out)
               have n3_ := Aside0.mk (below_drew1 HB.out)
               clear HO_6
               clear HO_19
               clear BK117
               clear HB
               have HO_6 := n0_
               have HO_19 := n1_
               have BK117 := n2_
               have HB := n3_
               clear n0_ n1_ n2_ n3_
               refine start_ (n := 13) (S := fun w' => True) (ds := []) #[false, false, false, false, false, false, false, false, false, false, false, false, false] (by kernel_rfl) rfl rfl trivial (fun hHeld => ?_); refine with_tabW volume_Union.tab11 volume_Union.bits11 (fun HT_ HW_ => ?_)
               generalize w39.drew = w40 at HO_6 HO_19 BK117 HB hHeld ⊢
               refine pure_ (i := 0) (N := some 27) (v := ?_) (a' := ?_) #[true, false, false, false, false, false, false, false, false, false, false, false, false] rfl rfl (any_of HT_.out (by kernel_rfl)) (fun _ _ _ h => h) (Or.inl ⟨by rfl, ?_⟩) ?_ ?_
               rotate_left
               · intro w'
                 go_simp
                 with_reducible rfl
               rotate_left
               · simp only [Act.put, List.setIfInBounds_toArray, List.set_cons_zero, List.set_cons_succ, i64_w, i32_w]
                 rfl
               refine pure_ (i := 1) (N := some 28) (v := ?_) (a' := ?_) #[true, true, false, false, false, false, false, false, false, false, false, false, false] rfl rfl (any_of HT_.out (by kernel_rfl)) (fun _ _ _ h => h) (Or.inl ⟨by rfl, ?_⟩) ?_ ?_
               rotate_left
               · intro w'
                 go_simp
                 with_reducible rfl
               rotate_left
               · simp only [Act.put, List.setIfInBounds_toArray, List.set_cons_zero, List.set_cons_succ, i64_w, i32_w]
                 rfl
               refine pure_ (i := 2) (N := some 29) (v := ?_) (a' := ?_) #[true, true, true, false, false, false, false, false, false, false, false, false, false] rfl rfl (any_of HT_.out (by kernel_rfl)) (fun _ _ _ h => h) (Or.inl ⟨by rfl, ?_⟩) ?_ ?_
               rotate_left
               · intro w'
                 go_simp
                 with_reducible rfl
               rotate_left
               · simp only [Act.put, List.setIfInBounds_toArray, List.set_cons_zero, List.set_cons_succ, i64_w, i32_w]
                 rfl
               refine pure_ (i := 3) (N := some 30) (v := undef) (a' := ?_) #[true, true, true, true, false, false, false, false, false, false, false, false, false] rfl rfl (any_of HT_.out (by kernel_rfl)) (fun _ _ _ h => h) (Or.inr ⟨by rfl, rfl⟩) ?_ ?_
               rotate_left
               · simp only [Act.put, List.setIfInBounds_toArray, List.set_cons_zero, List.set_cons_succ, i64_w, i32_w]
                 rfl
               refine pure_ (i := 4) (N := some 31) (v := undef) (a' := ?_) #[true, true, true, true, true, false, false, false, false, false, false, false, false] rfl rfl (any_of HT_.out (by kernel_rfl)) (fun _ _ _ h => h) (Or.inr ⟨by rfl, rfl⟩) ?_ ?_
               rotate_left
               · simp only [Act.put, List.setIfInBounds_toArray, List.set_cons_zero, List.set_cons_succ, i64_w, i32_w]
                 rfl
               refine pure_ (i := 5) (N := some 32) (v := undef) (a' := ?_) #[true, true, true, true, true, true, false, false, false, false, false, false, false] rfl rfl (any_of HT_.out (by kernel_rfl)) (fun _ _ _ h => h) (Or.inr ⟨by rfl, rfl⟩) ?_ ?_
               rotate_left
               · simp only [Act.put, List.setIfInBounds_toArray, List.set_cons_zero, List.set_cons_succ, i64_w, i32_w]
                 rfl
               refine pure_ (i := 6) (N := some 33) (v := undef) (a' := ?_) #[true, true, true, true, true, true, true, false, false, false, false, false, false] rfl rfl (any_of HT_.out (by kernel_rfl)) (fun _ _ _ h => h) (Or.inr ⟨by rfl, rfl⟩) ?_ ?_
               rotate_left
               · simp only [Act.put, List.setIfInBounds_toArray, List.set_cons_zero, List.set_cons_succ, i64_w, i32_w]
                 rfl
               refine pure_ (i := 7) (N := some 34) (v := undef) (a' := ?_) #[true, true, true, true, true, true, true, true, false, false, false, false, false] rfl rfl (any_of HT_.out (by kernel_rfl)) (fun _ _ _ h => h) (Or.inr ⟨by rfl, rfl⟩) ?_ ?_
               rotate_left
               · simp only [Act.put, List.setIfInBounds_toArray, List.set_cons_zero, List.set_cons_succ, i64_w, i32_w]
                 rfl
               refine pure_ (i := 8) (N := some 35) (v := undef) (a' := ?_) #[true, true, true, true, true, true, true, true, true, false, false, false, false] rfl rfl (any_of HT_.out (by kernel_rfl)) (fun _ _ _ h => h) (Or.inr ⟨by rfl, rfl⟩) ?_ ?_
               rotate_left
               · simp only [Act.put, List.setIfInBounds_toArray, List.set_cons_zero, List.set_cons_succ, i64_w, i32_w]
                 rfl
               refine pure_ (i := 9) (N := some 36) (v := undef) (a' := ?_) #[true, true, true, true, true, true, true, true, true, true, false, false, false] rfl rfl (any_of HT_.out (by kernel_rfl)) (fun _ _ _ h => h) (Or.inr ⟨by rfl, rfl⟩) ?_ ?_
               rotate_left
               · simp only [Act.put, List.setIfInBounds_toArray, List.set_cons_zero, List.set_cons_succ, i64_w, i32_w]
                 rfl
               refine pure_ (i := 10) (N := some 37) (v := undef) (a' := ?_) #[true, true, true, true, true, true, true, true, true, true, true, false, false] rfl rfl (any_of HT_.out (by kernel_rfl)) (fun _ _ _ h => h) (Or.inr ⟨by rfl, rfl⟩) ?_ ?_
               rotate_left
               · simp only [Act.put, List.setIfInBounds_toArray, List.set_cons_zero, List.set_cons_succ, i64_w, i32_w]
                 rfl
               refine pure_ (i := 11) (N := some 38) (v := undef) (a' := ?_) #[true, true, true, true, true, true, true, true, true, true, true, true, false] rfl rfl (any_of HT_.out (by kernel_rfl)) (fun _ _ _ h => h) (Or.inr ⟨by rfl, rfl⟩) ?_ ?_
               rotate_left
               · simp only [Act.put, List.setIfInBounds_toArray, List.set_cons_zero, List.set_cons_succ, i64_w, i32_w]
                 rfl
               refine pure_ (i := 12) (N := some 39) (v := ?_) (a' := ?_) #[true, true, true, true, true, true, true, true, true, true, true, true, true] rfl rfl (any_of HT_.out (by kernel_rfl)) (fun _ _ _ h => h) (Or.inl ⟨by rfl, ?_⟩) ?_ ?_
               rotate_left
               · intro w'
                 go_simp
                 with_reducible rfl
               rotate_left
               · simp only [Act.put, List.setIfInBounds_toArray, List.set_cons_zero, List.set_cons_succ, i64_w, i32_w]
                 rfl
               refine done_ (done_of HT_.out (by kernel_rfl)) ?_
               have hcz41_0 : w40.cell? ⟨gb117, 0, none⟩ = some (.int .i64 ((rd_T58 x19_1 x21_1).f0)) := (blk_cell BK117.out 0).trans rfl
               have hcz41_1 : w40.cell? ⟨gb117, 1, none⟩ = some (.int .i64 ((rd_T58 x19_1 x21_1).f1)) := (blk_cell BK117.out 1).trans rfl
               have hfz41_0 := blk_frozen BK117.out 0
               have hfz41_1 := blk_frozen BK117.out 1
               try go_wp2_with (first | ((with_reducible refine gate_builtin (b := .append) (xs := #[.tmp 54, .tmp 56]) rfl ?_); at_builtin; refine Kd.R_append k58 (w0 := w) w.heap.size rfl (.tmp 54) (.tmp 56) 53 58 (.agg #[(.int .i64 0), (.int .i64 0)]) 16 rfl Try.underlying53 info58 rfl (by decide) (by omega) (.slice Ao38 x6_1.length co38) x6_1 (⟨(rd_T58 x19_1 x21_1).f0, (rd_T58 x19_1 x21_1).f1⟩ : S58) [.int .i64 ((rd_T58 x19_1 x21_1).f0), .int .i64 ((rd_T58 x19_1 x21_1).f1)] (fun k_ => some k_ ≠ (.slice (some ad116) x19_1.length co8 : Value).ownBlock ∧ k_ ≠ gb117) (fun _ => False) rfl rfl ?aP (fun _ hk => hk.elim) ?aF ?aO ?aB ?aS ?aL ?_; (case aP => exact k58_mkM _ _ _ (⟨(rd_T58 x19_1 x21_1).f0, (rd_T58 x19_1 x21_1).f1⟩ : S58)); (case aB => exact (by repeat (first | (with_reducible first | exact HB.out | apply below_alloc | apply pw_below_drewN | apply below_drew1 | refine below_set ?_ GE117.out) | exact HB.out))); (case aF => exact (fun k_ hk => ⟨Kd.fresh' (Kd.R_lt (by (with_reducible repeat (first | apply Kd.R_alloc | apply Kd.R_drewN | apply Kd.R_drew)); exact HO_19.out)) k_ hk, Kd.freshB (g := gb117) (o := .cells #[.int .i64 ((rd_T58 x19_1 x21_1).f0), .int .i64 ((rd_T58 x19_1 x21_1).f1)] 58 (0, 0)) (by (with_reducible repeat (first | refine blk_drewN ?_ _ | refine blk_drew ?_ | refine blk_alloc ?_ _)); exact BK117.out) k_ hk⟩)); (case aO => exact (by (with_reducible repeat (first | apply Kd.R_alloc | apply Kd.R_drewN | apply Kd.R_drew)); exact HO_6.out)); (case aS => exact (below_size (by repeat (first | (with_reducible first | exact HB.out | apply below_alloc | apply pw_below_drewN | apply below_drew1 | refine below_set ?_ GE117.out) | exact HB.out)))); (case aL => have := LMc35.out; omega); intro v125 w42 ho hb hg hat; rw [← Ny124.out] at ho; have n0_ := Aside0.mk (Kd.R_after (ok := (fun k_ => k_ ≠ gb117)) (by (with_reducible repeat (first | apply Kd.R_alloc | apply Kd.R_drewN | apply Kd.R_drew)); exact Kd.R_mono HO_19.out (fun _ hk => ⟨hk.2, hk.1⟩)) hg hat); have n1_ := Aside0.mk (blk_grown (g := gb117) (o := .cells #[.int .i64 ((rd_T58 x19_1 x21_1).f0), .int .i64 ((rd_T58 x19_1 x21_1).f1)] 58 (0, 0)) (by (with_reducible repeat (first | refine blk_drewN ?_ _ | refine blk_drew ?_ | refine blk_alloc ?_ _)); exact BK117.out) hg (Kd.R_away HO_6.out (fun _ hk => hk.2))); have n2_ := Aside0.mk (hb); have n3_ := Aside0.mk (ho); clear HO_19; clear BK117; clear HB; clear HO_6; have HO_19 := n0_; have BK117 := n1_; have HB := n2_; have HO126 := n3_; clear n0_ n1_ n2_ n3_; clear ho hb hg hat))
               (try simp only [← hl19_1])
               go_roundg k1
               case measure => have := HK1.out; omega
               case rel => exact ⟨(y124), (x19_1), (wrap64 (x21_1 + 1)), (by first | rfl | (simp; done) | (simp [*]; done)), H', ⟨by have := HK1.out; omega⟩, ⟨by (try simp only [hl19_1]); (with_reducible repeat (first | apply Kd.R_alloc | apply Kd.R_drewN | apply Kd.R_drew)); exact Kd.R_mono HO126.out (fun _ hk => hk.1)⟩, ⟨by (try simp only [hl19_1]); (with_reducible repeat (first | apply Kd.R_alloc | apply Kd.R_drewN | apply Kd.R_drew)); exact Kd.R_mono HO_19.out (fun _ hk => hk.2)⟩, ⟨by repeat (first | (with_reducible first | exact HB.out | apply below_alloc | apply pw_below_drewN | apply below_drew1 | refine below_set ?_ GE117.out) | exact HB.out)⟩⟩
             · rw [if_neg c35] at H
               exact absurd H (by simp)
         · rw [if_neg c12] at H
           exact absurd H (by simp)
       · rw [if_neg c11] at H
         exact absurd H (by simp)
     · rw [if_neg c10] at H
       have c10b0 : decide (x21_1 < (t112.length : Int)) = false := decide_eq_false c10
       (try (have c10b0_hl19_1 := c10b0; simp only [hl19_1] at c10b0_hl19_1))
       clear c10
       simp only [Option.some.injEq, Prod.mk.injEq] at H
       obtain ⟨rfl, rfl⟩ := H
       go_wp2
       go_ret2
       exact ⟨_, by first | rfl | (simp [errW_none, errW_some] <;> rfl) | (simp [*, errW_none, errW_some] <;> rfl), by (with_reducible repeat (first | apply Kd.R_alloc | apply Kd.R_drewN | apply Kd.R_drew)); exact Kd.R_mono HO_6.out (fun _ hk => trivial), by repeat (first | (with_reducible first | exact HB.out | apply below_alloc | apply pw_below_drewN | apply below_drew1) | exact HB.out)⟩
 · rw [if_neg c3] at H
   have c3b0 : (t111 == 0) = false := beq_eq_false_iff_ne.mpr c3
   have c3b1 : (t111 != 0) = true := bne_iff_ne.mpr c3
   simp only [Option.some.injEq, Prod.mk.injEq] at H
   obtain ⟨rfl, rfl⟩ := H
   go_enter Try.func33, Try.ntmps33
   go_wp2_with (first | ((with_reducible refine gate_callee (f := 59) rfl ?_); refine goesL_ (some 11) rfl rfl Try.func59 (by kernel_rfl) rfl #[.slice A0 l0.length c0] rfl (by (try simp only [List.map_toArray, List.map_cons, List.map_nil]); first | done | rfl | (simp only [List.length_drop, List.length_take]; rfl)) ?_; (with_reducible refine (volume_CheckSpans.calls k _ _ l0 t111 _ ?side1 ?side2 A2.out).mono ?_); (case side1 => repeat (first | exact HR0.out | (with_reducible refine Kd.C_alloc ?_ _) | (with_reducible refine Kd.C_drewN ?_ _) | (with_reducible refine Kd.C_drew ?_))); (case side2 => exact HC0.out); rintro e w43 ⟨rfl, hb⟩; refine ⟨_, rfl, ?_⟩; have n0_ := Aside0.mk (below_step (by repeat (first | (with_reducible first | exact HB.out | apply below_alloc | apply pw_below_drewN | apply below_drew1) | exact HB.out)) hb); clear HB; have HB := n0_; clear n0_; (try clear hb); (try clear hb2); (try clear hk); (try clear hi)))
   go_ret2
   exact ⟨_, by first | rfl | (simp [errW_none, errW_some] <;> rfl) | (simp [*, errW_none, errW_some] <;> rfl), by first | exact Kd.R_nil _ _ _ _ _ | exact Kd.N_nil _ _ _ _ _ | exact Kd.V_nil _ _ _ _ _ | exact Kd.Q_nil _ _ _ _ _ | exact Kd.S_nil _ _ _ _ _, by repeat (first | (with_reducible first | exact HB.out | apply below_alloc | apply pw_below_drewN | apply below_drew1) | exact HB.out)⟩

/-! ### skywaykeep1_volumeWorks: function 31 -/
def skywaykeep1_volumeWorks.f (k : Nat)  : Option (Bool) := (volume_Union.f k (([(⟨3, 6⟩ : S58), (⟨6, 8⟩ : S58), (⟨1, 2⟩ : S58)] : List (S58)))).bind fun bt130 => (if bt130.2 = 0 then (if (bt130.1.length : Int) = 2 then (if 0 < (bt130.1.length : Int) then (if (((rd_T58 bt130.1 0).f0) == 1 && (((rd_T58 bt130.1 0).f1) == 2)) = true then (if 1 < (bt130.1.length : Int) then (some (((rd_T58 bt130.1 1).f0) == 3 && (((rd_T58 bt130.1 1).f1) == 8))) else (none)) else (some false)) else (none)) else (some false)) else (some false))
theorem skywaykeep1_volumeWorks.mono : ∀ k, LeO (skywaykeep1_volumeWorks.f k ) (skywaykeep1_volumeWorks.f (k + 1) ) := by
  intro  k
  unfold skywaykeep1_volumeWorks.f
  repeat' first
      | (with_reducible exact volume_Union.mono _ _)
      | (with_reducible exact LeO.refl _)
      | (with_reducible exact LeO.none _)
      | (with_reducible refine LeO.ite ?_ ?_)
      | (with_reducible refine LeO.bind ?_ (fun _ => ?_))
      | exact volume_Union.mono _ _
      | exact LeO.none _
      | refine LeO.ite ?_ ?_
      | refine LeO.bind ?_ (fun _ => ?_)
set_option maxHeartbeats 8000000 in
set_option maxRecDepth 100000 in
theorem skywaykeep1_volumeWorks.calls (k : Nat)  (r : Bool) (w : World) (h : skywaykeep1_volumeWorks.f k  = some r) :
    Calls Try.prog 31 #[] w fun e w' => e = .returned (.bool r) ∧ Below w.heap.size w w' := by
 have hu58 := Try.underlying58
 have HB := Aside0.mk (Below.refl w.heap.size w)
 have H : ((volume_Union.f k (([(⟨3, 6⟩ : S58), (⟨6, 8⟩ : S58), (⟨1, 2⟩ : S58)] : List (S58)))).bind fun bt130 => (if bt130.2 = 0 then (if (bt130.1.length : Int) = 2 then (if 0 < (bt130.1.length : Int) then (if (((rd_T58 bt130.1 0).f0) == 1 && (((rd_T58 bt130.1 0).f1) == 2)) = true then (if 1 < (bt130.1.length : Int) then (some (((rd_T58 bt130.1 1).f0) == 3 && (((rd_T58 bt130.1 1).f1) == 8))) else (none)) else (some false)) else (none)) else (some false)) else (some false))) = some r := h
 clear h
 obtain ⟨y127, hy127⟩ : ∃ y_ : List (S58), y_ = (([(⟨3, 6⟩ : S58), (⟨6, 8⟩ : S58), (⟨1, 2⟩ : S58)] : List (S58))) := ⟨_, rfl⟩
 replace H : ((volume_Union.f k y127).bind fun bt130 => (if bt130.2 = 0 then (if (bt130.1.length : Int) = 2 then (if 0 < (bt130.1.length : Int) then (if (((rd_T58 bt130.1 0).f0) == 1 && (((rd_T58 bt130.1 0).f1) == 2)) = true then (if 1 < (bt130.1.length : Int) then (some (((rd_T58 bt130.1 1).f0) == 3 && (((rd_T58 bt130.1 1).f1) == 8))) else (none)) else (some false)) else (none)) else (some false)) else (some false))) = some r := by first | (rw [hy127]; with_reducible exact H) | (have H2_ := (Option.bind_some _ _).symm.trans H; rw [hy127]; with_reducible exact H2_) | (have H2_ := (Option.bind_some _ _).symm.trans H; with_reducible exact H2_) | with_reducible exact H | (rw [hy127]; exact H) | exact H
 have Ny127 := Aside0.mk hy127
 clear hy127
 replace H := Option.bind_eq_some_iff.mp H
 obtain ⟨⟨t130, t131⟩, A10, H⟩ := H
 replace H : (if t131 = 0 then (if (t130.length : Int) = 2 then (if 0 < (t130.length : Int) then (if (((rd_T58 t130 0).f0) == 1 && (((rd_T58 t130 0).f1) == 2)) = true then (if 1 < (t130.length : Int) then (some (((rd_T58 t130 1).f0) == 3 && (((rd_T58 t130 1).f1) == 8))) else (none)) else (some false)) else (none)) else (some false)) else (some false)) = some r := H
 have A1 := Aside0.mk A10
 clear A10
 refine Or.elim (Classical.em (t131 = 0)) (fun c2 => ?p2_) (fun c2 => ?n2_)
 case' p2_ =>
  rw [if_pos c2] at H
  have c2b0 : (t131 == 0) = true := beq_iff_eq.mpr c2
  have c2b1 : (t131 != 0) = false := bne_eq_false_iff_eq.mpr c2
  clear c2
  refine Or.elim (Classical.em ((t130.length : Int) = 2)) (fun c3 => ?p3_) (fun c3 => ?n3_)
  case' p3_ =>
   rw [if_pos c3] at H
   have c3b0 : ((t130.length : Int) == 2) = true := beq_iff_eq.mpr c3
   have c3b1 : ((t130.length : Int) != 2) = false := bne_eq_false_iff_eq.mpr c3
   clear c3
   refine Or.elim (Classical.em (0 < (t130.length : Int))) (fun c4 => ?p4_) (fun c4 => ?n4_)
   case' p4_ =>
    rw [if_pos c4] at H
    have c4b0 : decide (0 < (t130.length : Int)) = true := decide_eq_true c4
    have c4b1 : decide (0 < t130.length) = true := decide_eq_true (by omega)
    clear c4
    refine Or.elim (Classical.em ((((rd_T58 t130 0).f0) == 1 && (((rd_T58 t130 0).f1) == 2)) = true)) (fun c5 => ?p5_) (fun c5 => ?n5_)
    case' p5_ =>
     rw [if_pos c5] at H
     have c5b0 : (((rd_T58 t130 0).f0) == 1 && (((rd_T58 t130 0).f1) == 2)) = true := c5
     (try (have c5b1 : decide (((rd_T58 t130 0).f0) = 1 && (((rd_T58 t130 0).f1) == 2)) = true := by simpa using c5))
     (try (have c5b2 : (((rd_T58 t130 0).f0) == 1 && (((rd_T58 t130 0).f1) == 2)) = true := by simpa using c5))
     clear c5
     refine Or.elim (Classical.em (1 < (t130.length : Int))) (fun c6 => ?p6_) (fun c6 => ?n6_)
     case' p6_ =>
      rw [if_pos c6] at H
      have c6b0 : decide (1 < (t130.length : Int)) = true := decide_eq_true c6
      have c6b1 : decide (1 < t130.length) = true := decide_eq_true (by omega)
      clear c6
     case' n6_ =>
      rw [if_neg c6] at H
      exact absurd H (by simp)
    case' n5_ =>
     rw [if_neg c5] at H
     have c5b0 : (((rd_T58 t130 0).f0) == 1 && (((rd_T58 t130 0).f1) == 2)) = false := by simpa using c5
     (try (have c5b1 : decide (((rd_T58 t130 0).f0) = 1 && (((rd_T58 t130 0).f1) == 2)) = false := by simpa using c5))
     (try (have c5b2 : (((rd_T58 t130 0).f0) == 1 && (((rd_T58 t130 0).f1) == 2)) = false := by simpa using c5))
     (try (have c5b3 : ¬ (((rd_T58 t130 0).f0) = 1 && (((rd_T58 t130 0).f1) == 2)) := by simpa using c5))
     clear c5
   case' n4_ =>
    rw [if_neg c4] at H
    exact absurd H (by simp)
  case' n3_ =>
   rw [if_neg c3] at H
   have c3b0 : ((t130.length : Int) == 2) = false := beq_eq_false_iff_ne.mpr c3
   have c3b1 : ((t130.length : Int) != 2) = true := bne_iff_ne.mpr c3
 case' n2_ =>
  rw [if_neg c2] at H
  have c2b0 : (t131 == 0) = false := beq_eq_false_iff_ne.mpr c2
  have c2b1 : (t131 != 0) = true := bne_iff_ne.mpr c2
 all_goals
  obtain rfl := Option.some.inj H
  go_enter Try.func31, Try.ntmps31
  go_wp2_with (first | ((with_reducible refine gate_dst (N := 7) rfl ?_); (try (refine gate_guard (by rfl) ?_; dsimp only)); refine Kd.R_lit k58 _ 58 ?hg (N := 7) ?hd (xs := ([(⟨3, 6⟩ : S58), (⟨6, 8⟩ : S58), (⟨1, 2⟩ : S58)] : List (S58))) (inner := [.int .i64 3, .int .i64 6, .int .i64 6, .int .i64 8, .int .i64 1, .int .i64 2]) (ok := fun _ => True) (okp := fun _ => True) ?hr ?hp (fun _ hk => hk) trivial (Below.refl _ _) (Nat.le_refl _) (by simp) ?_; (case hd => rfl); (case hg => rfl); (case hr => first | (go_simp; done) | (go_simp; rfl)); (case hp => exact (Reps.c2 (show Kd.M k58 _ _ _ (⟨3, 6⟩ : S58) [.int .i64 3, .int .i64 6] from (k58_mkM _ _ _ (⟨3, 6⟩ : S58) )) (Reps.c2 (show Kd.M k58 _ _ _ (⟨6, 8⟩ : S58) [.int .i64 6, .int .i64 8] from (k58_mkM _ _ _ (⟨6, 8⟩ : S58) )) (Reps.c2 (show Kd.M k58 _ _ _ (⟨1, 2⟩ : S58) [.int .i64 1, .int .i64 2] from (k58_mkM _ _ _ (⟨1, 2⟩ : S58) )) (Reps.none _ _))))); intro v128 wx91e31 hox91e31 hb hg_ hnew_; clear hg_ hnew_; (first | rw [← Ny127.out] at hox91e31 | (simp only [Int.reduceToNat] at hox91e31; rw [← Ny127.out] at hox91e31)); have n0_ := Aside0.mk (Kd.R_lower hox91e31 (below_size (by repeat (first | (with_reducible first | exact HB.out | apply below_alloc | apply pw_below_drewN | apply below_drew1) | exact HB.out)))); have n1_ := Aside0.mk (below_step (by repeat (first | (with_reducible first | exact HB.out | apply below_alloc | apply pw_below_drewN | apply below_drew1) | exact HB.out)) hb); clear HB; have HO129 := n0_; have HB := n1_; clear n0_ n1_; clear hb hox91e31; obtain ⟨Aox91e31, cox91e31, eox91e31⟩ := Kd.R_slice HO129.out; subst eox91e31) | ((with_reducible refine gate_callee (f := 33) rfl ?_); refine goesL_ (some 8) rfl rfl Try.func33 (by kernel_rfl) rfl #[.slice Aox91e31 y127.length cox91e31] rfl (by (try simp only [List.map_toArray, List.map_cons, List.map_nil]); first | done | rfl | (simp only [List.length_drop, List.length_take]; rfl)) ?_; (with_reducible refine (volume_Union.calls k _ _ y127 t130 t131 _ ?side1 ?side2 A1.out).mono ?_); (case side1 => repeat (first | exact (Kd.R_reads' HO129.out).2.2 | (with_reducible refine Kd.C_alloc ?_ _) | (with_reducible refine Kd.C_drewN ?_ _) | (with_reducible refine Kd.C_drew ?_))); (case side2 => exact (Kd.R_reads' HO129.out).2.1); rintro e wxde301 ⟨v132, rfl, hoxde301, hb⟩; refine ⟨_, rfl, ?_⟩; have n0_ := Aside0.mk (Kd.R_elder' (by (with_reducible repeat (first | apply Kd.R_alloc | apply Kd.R_drewN | apply Kd.R_drew)); exact HO129.out) (Kd.R_base hoxde301) hb); have n1_ := Aside0.mk (Kd.R_lower (Kd.R_new' hoxde301 (Kd.R_lt (by (with_reducible repeat (first | apply Kd.R_alloc | apply Kd.R_drewN | apply Kd.R_drew)); exact HO129.out))) (below_size (by repeat (first | (with_reducible first | exact HB.out | apply below_alloc | apply pw_below_drewN | apply below_drew1) | exact HB.out)))); have n2_ := Aside0.mk (below_step (by repeat (first | (with_reducible first | exact HB.out | apply below_alloc | apply pw_below_drewN | apply below_drew1) | exact HB.out)) hb); clear HO129; clear HB; have HO129 := n0_; have HO133 := n1_; have HB := n2_; clear n0_ n1_ n2_; (try clear hb); (try clear hb2); (try clear hk); (try clear hi); (try clear hoxde301); obtain ⟨Aoxde301, coxde301, eoxde301⟩ := Kd.R_slice HO133.out; subst eoxde301; have p134 : 0 ≤ (0 : Int) := (by omega); have q134 : 0 < (t130.length : Int) := of_decide_eq_true (by first | (with_reducible assumption) | assumption); obtain ⟨ad134, e134, hx134_0, hx134_1⟩ := at_T58 (Kd.R_reads' HO133.out).2.2 0 p134 q134; cases e134; have qi134 : (0 < t130.length) = True := eq_true (by omega); (try rw [show ((0 : Int)).toNat = 0 from rfl] at hx134_0); (try rw [show 0 * 2 = 0 from rfl] at hx134_0); (try rw [Addr.add_zero'] at hx134_0); (try rw [show ((0 : Int)).toNat = 0 from rfl] at hx134_1); (try rw [show 0 * 2 = 0 from rfl] at hx134_1); (try rw [Addr.add_zero'] at hx134_1); replace p134 := eq_true p134; replace q134 := eq_true q134; have p135 : 0 ≤ (1 : Int) := (by omega); have q135 : 1 < (t130.length : Int) := of_decide_eq_true (by first | (with_reducible assumption) | assumption); obtain ⟨ad135, e135, hx135_0, hx135_1⟩ := at_T58 (Kd.R_reads' HO133.out).2.2 1 p135 q135; obtain rfl : ad134 = ad135 := (by injection e135); (try simp only [show (1 : Int).toNat = 1 from rfl, Nat.reduceMul, Nat.reduceEqDiff, Go.Addr.add, ↓reduceIte] at hx135_0); (try simp only [show (1 : Int).toNat = 1 from rfl, Nat.reduceMul, Nat.reduceEqDiff, Go.Addr.add, ↓reduceIte] at hx135_1); have qi135 : (1 < t130.length) = True := eq_true (by omega); (try rw [show ((1 : Int)).toNat = 1 from rfl] at hx135_0); (try rw [show 1 * 2 = 2 from rfl] at hx135_0); (try rw [show ((1 : Int)).toNat = 1 from rfl] at hx135_1); (try rw [show 1 * 2 = 2 from rfl] at hx135_1); replace p135 := eq_true p135; replace q135 := eq_true q135) | ((with_reducible refine gate_callee (f := 33) rfl ?_); refine goesL_ (some 8) rfl rfl Try.func33 (by kernel_rfl) rfl #[.slice Aox91e31 y127.length cox91e31] rfl (by (try simp only [List.map_toArray, List.map_cons, List.map_nil]); first | done | rfl | (simp only [List.length_drop, List.length_take]; rfl)) ?_; (with_reducible refine (volume_Union.calls k _ _ y127 t130 t131 _ ?side1 ?side2 A1.out).mono ?_); (case side1 => repeat (first | exact (Kd.R_reads' HO129.out).2.2 | (with_reducible refine Kd.C_alloc ?_ _) | (with_reducible refine Kd.C_drewN ?_ _) | (with_reducible refine Kd.C_drew ?_))); (case side2 => exact (Kd.R_reads' HO129.out).2.1); rintro e wxc1561 ⟨v132, rfl, hoxc1561, hb⟩; refine ⟨_, rfl, ?_⟩; have n0_ := Aside0.mk (Kd.R_elder' (by (with_reducible repeat (first | apply Kd.R_alloc | apply Kd.R_drewN | apply Kd.R_drew)); exact HO129.out) (Kd.R_base hoxc1561) hb); have n1_ := Aside0.mk (Kd.R_lower (Kd.R_new' hoxc1561 (Kd.R_lt (by (with_reducible repeat (first | apply Kd.R_alloc | apply Kd.R_drewN | apply Kd.R_drew)); exact HO129.out))) (below_size (by repeat (first | (with_reducible first | exact HB.out | apply below_alloc | apply pw_below_drewN | apply below_drew1) | exact HB.out)))); have n2_ := Aside0.mk (below_step (by repeat (first | (with_reducible first | exact HB.out | apply below_alloc | apply pw_below_drewN | apply below_drew1) | exact HB.out)) hb); clear HO129; clear HB; have HO129 := n0_; have HO133 := n1_; have HB := n2_; clear n0_ n1_ n2_; (try clear hb); (try clear hb2); (try clear hk); (try clear hi); (try clear hoxc1561); obtain ⟨Aoxc1561, coxc1561, eoxc1561⟩ := Kd.R_slice HO133.out; subst eoxc1561; have p134 : 0 ≤ (0 : Int) := (by omega); have q134 : 0 < (t130.length : Int) := of_decide_eq_true (by first | (with_reducible assumption) | assumption); obtain ⟨ad134, e134, hx134_0, hx134_1⟩ := at_T58 (Kd.R_reads' HO133.out).2.2 0 p134 q134; cases e134; have qi134 : (0 < t130.length) = True := eq_true (by omega); (try rw [show ((0 : Int)).toNat = 0 from rfl] at hx134_0); (try rw [show 0 * 2 = 0 from rfl] at hx134_0); (try rw [Addr.add_zero'] at hx134_0); (try rw [show ((0 : Int)).toNat = 0 from rfl] at hx134_1); (try rw [show 0 * 2 = 0 from rfl] at hx134_1); (try rw [Addr.add_zero'] at hx134_1); replace p134 := eq_true p134; replace q134 := eq_true q134) | ((with_reducible refine gate_callee (f := 33) rfl ?_); refine goesL_ (some 8) rfl rfl Try.func33 (by kernel_rfl) rfl #[.slice Aox91e31 y127.length cox91e31] rfl (by (try simp only [List.map_toArray, List.map_cons, List.map_nil]); first | done | rfl | (simp only [List.length_drop, List.length_take]; rfl)) ?_; (with_reducible refine (volume_Union.calls k _ _ y127 t130 t131 _ ?side1 ?side2 A1.out).mono ?_); (case side1 => repeat (first | exact (Kd.R_reads' HO129.out).2.2 | (with_reducible refine Kd.C_alloc ?_ _) | (with_reducible refine Kd.C_drewN ?_ _) | (with_reducible refine Kd.C_drew ?_))); (case side2 => exact (Kd.R_reads' HO129.out).2.1); rintro e wx6f181 ⟨v132, rfl, hox6f181, hb⟩; refine ⟨_, rfl, ?_⟩; have n0_ := Aside0.mk (Kd.R_elder' (by (with_reducible repeat (first | apply Kd.R_alloc | apply Kd.R_drewN | apply Kd.R_drew)); exact HO129.out) (Kd.R_base hox6f181) hb); have n1_ := Aside0.mk (Kd.R_lower (Kd.R_new' hox6f181 (Kd.R_lt (by (with_reducible repeat (first | apply Kd.R_alloc | apply Kd.R_drewN | apply Kd.R_drew)); exact HO129.out))) (below_size (by repeat (first | (with_reducible first | exact HB.out | apply below_alloc | apply pw_below_drewN | apply below_drew1) | exact HB.out)))); have n2_ := Aside0.mk (below_step (by repeat (first | (with_reducible first | exact HB.out | apply below_alloc | apply pw_below_drewN | apply below_drew1) | exact HB.out)) hb); clear HO129; clear HB; have HO129 := n0_; have HO133 := n1_; have HB := n2_; clear n0_ n1_ n2_; (try clear hb); (try clear hb2); (try clear hk); (try clear hi); (try clear hox6f181); obtain ⟨Aox6f181, cox6f181, eox6f181⟩ := Kd.R_slice HO133.out; subst eox6f181) | ((with_reducible refine gate_callee (f := 33) rfl ?_); refine goesL_ (some 8) rfl rfl Try.func33 (by kernel_rfl) rfl #[.slice Aox91e31 y127.length cox91e31] rfl (by (try simp only [List.map_toArray, List.map_cons, List.map_nil]); first | done | rfl | (simp only [List.length_drop, List.length_take]; rfl)) ?_; (with_reducible refine (volume_Union.calls k _ _ y127 t130 t131 _ ?side1 ?side2 A1.out).mono ?_); (case side1 => repeat (first | exact (Kd.R_reads' HO129.out).2.2 | (with_reducible refine Kd.C_alloc ?_ _) | (with_reducible refine Kd.C_drewN ?_ _) | (with_reducible refine Kd.C_drew ?_))); (case side2 => exact (Kd.R_reads' HO129.out).2.1); rintro e wx4ded1 ⟨v132, rfl, hox4ded1, hb⟩; refine ⟨_, rfl, ?_⟩; have n0_ := Aside0.mk (Kd.R_elder' (by (with_reducible repeat (first | apply Kd.R_alloc | apply Kd.R_drewN | apply Kd.R_drew)); exact HO129.out) (Kd.R_base hox4ded1) hb); have n1_ := Aside0.mk (Kd.R_lower (Kd.R_new' hox4ded1 (Kd.R_lt (by (with_reducible repeat (first | apply Kd.R_alloc | apply Kd.R_drewN | apply Kd.R_drew)); exact HO129.out))) (below_size (by repeat (first | (with_reducible first | exact HB.out | apply below_alloc | apply pw_below_drewN | apply below_drew1) | exact HB.out)))); have n2_ := Aside0.mk (below_step (by repeat (first | (with_reducible first | exact HB.out | apply below_alloc | apply pw_below_drewN | apply below_drew1) | exact HB.out)) hb); clear HO129; clear HB; have HO129 := n0_; have HO133 := n1_; have HB := n2_; clear n0_ n1_ n2_; (try clear hb); (try clear hb2); (try clear hk); (try clear hi); (try clear hox4ded1)))
  go_ret
  exact ⟨by first | rfl | (simp [errW_none, errW_some] <;> rfl) | (simp [*, errW_none, errW_some] <;> rfl), by repeat (first | (with_reducible first | exact HB.out | apply below_alloc | apply pw_below_drewN | apply below_drew1) | exact HB.out)⟩

end Go.Proofs.Yteaddpieonkboaa.PVolumeUnion
