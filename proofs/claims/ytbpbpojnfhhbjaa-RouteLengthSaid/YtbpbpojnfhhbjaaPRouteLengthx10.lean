/- Made by a program of this session (wip/tools/myprint.py, over the kit's printer): that the Go functions answer as the Lean functions printed beside them. -/
import Derived.Test.YtbpbpojnfhhbjaaTSq
import Derived.Test.YtbpbpojnfhhbjaaPRouteLengthx0
import Derived.Test.YtbpbpojnfhhbjaaPRouteLengthx1
import Derived.Test.YtbpbpojnfhhbjaaPRouteLengthx2
import Derived.Test.YtbpbpojnfhhbjaaPRouteLengthx4
import Derived.Test.YtbpbpojnfhhbjaaPRouteLengthx6
import Derived.Test.YtbpbpojnfhhbjaaPRouteLengthx8
import Derived.Test.YtbpbpojnfhhbjaaPRouteLengthx9
namespace Go.Proofs.Ytbpbpojnfhhbjaa.PRouteLength
open Go.RowKit Go.Proofs.YtbpbpojnfhhbjaaW.PrintWords Go.Proofs.YtbpbpojnfhhbjaaW.PrintLast Go.Proofs.YtbpbpojnfhhbjaaW.PrintMore
attribute [local go_sem] max2_int min2_int max_two min_two max_three min_three max_four min_four   -- for this text's walks alone
set_option linter.unusedVariables false
set_option linter.unusedSimpArgs false

attribute [local go_sem high] eqA36
/-! ### route_Expand: function 24 -/
mutual
def route_Expand.j0 : Nat → Bool → ByteArray → ByteArray → ByteArray → ByteArray → Int → Int → Int → List ByteArray → List (S40) → List (S48) → Option ((List (S40)) × Int)
  | 0, _, _, _, _, _, _, _, _, _, _, _ => none
  | k + 1, x35, x231000, x231001, x231002, x231003, x231004, x231005, x231006, x231007, x232000, x232001 => if x35 = true then (some (([] : List (S40)), 6)) else ((slices_Concat_string_string.f k (([(([x231002] : List ByteArray)), x231007, (([x231003] : List ByteArray))] : List (List ByteArray)))).bind fun t245 => ((route_names.f k t245 x232000 x232001).bind fun bt248 => (if bt248.2 = 0 then (route_Expand.l0 k ([] : List (S40)) bt248.1 (bt248.1.length : Int) 0 x232000 x232001) else (some (([] : List (S40)), bt248.2)))))
def route_Expand.l0 : Nat → List (S40) → List ByteArray → Int → Int → List (S40) → List (S48) → Option ((List (S40)) × Int)
  | 0, _, _, _, _, _, _ => none
  | k + 1, x10, x54, x55, x56, x232000, x232001 => if x56 < x55 then (if 0 ≤ x56 then (if x56 < (x54.length : Int) then ((api_Fix_67.f x232000 (route_Expand_1.p (rdOf ByteArray.empty x54 x56))).bind fun t254 => (if x56 > 0 then (if 0 ≤ (wrap64 (x56 - 1)) then (if (wrap64 (x56 - 1)) < (x10.length : Int) then (if 0 ≤ t254 then (if t254 < (x232000.length : Int) then (if (((rd_T40 x10 (wrap64 (x56 - 1))).f1.f0) == ((rd_T40 x232000 t254).f1.f0) && (((rd_T40 x10 (wrap64 (x56 - 1))).f1.f1) == ((rd_T40 x232000 t254).f1.f1))) = true then (some (([] : List (S40)), 10)) else (if x10.length < 4398046511104 then (route_Expand.l0 k (x10 ++ [(⟨(rd_T40 x232000 t254).f0, (⟨(rd_T40 x232000 t254).f1.f0, (rd_T40 x232000 t254).f1.f1⟩ : S36)⟩ : S40)]) x54 x55 (wrap64 (x56 + 1)) x232000 x232001) else (none))) else (none)) else (none)) else (none)) else (none)) else (if 0 ≤ t254 then (if t254 < (x232000.length : Int) then (if x10.length < 4398046511104 then (route_Expand.l0 k (x10 ++ [(⟨(rd_T40 x232000 t254).f0, (⟨(rd_T40 x232000 t254).f1.f0, (rd_T40 x232000 t254).f1.f1⟩ : S36)⟩ : S40)]) x54 x55 (wrap64 (x56 + 1)) x232000 x232001) else (none)) else (none)) else (none)))) else (none)) else (none)) else (if (x10.length : Int) > 62 then (some (([] : List (S40)), 2)) else (some (x10, 0)))
end
def route_Expand.f (k : Nat) (a0_0 : ByteArray) (a0_1 : ByteArray) (a0_2 : ByteArray) (a0_3 : ByteArray) (a0_4 : Int) (a0_5 : Int) (a0_6 : Int) (l0_7 : List ByteArray) (l1_0 : List (S40)) (l1_1 : List (S48)) : Option ((List (S40)) × Int) := (plantext_Check.f k a0_0 a0_1 a0_2 a0_3 a0_4 a0_5 a0_6 l0_7).bind fun t232 => (if t232 = 0 then ((chart_Check.f k l1_0 l1_1).bind fun t233 => (if t233 = 0 then ((route_isFix.f l1_0 l1_1 a0_2).bind fun t234 => (if t234 = true then ((route_isFix.f l1_0 l1_1 a0_3).bind fun t235 => (route_Expand.j0 k (!t235) a0_0 a0_1 a0_2 a0_3 a0_4 a0_5 a0_6 l0_7 l1_0 l1_1)) else (route_Expand.j0 k true a0_0 a0_1 a0_2 a0_3 a0_4 a0_5 a0_6 l0_7 l1_0 l1_1))) else (some (([] : List (S40)), t233)))) else (some (([] : List (S40)), t232)))
theorem route_Expand.mono_l : ∀ k, (∀ y0 y1 y2 y3 y4 y5 y6 y7 y8 y9 y10, LeO (route_Expand.j0 k y0 y1 y2 y3 y4 y5 y6 y7 y8 y9 y10) (route_Expand.j0 (k + 1) y0 y1 y2 y3 y4 y5 y6 y7 y8 y9 y10)) ∧ (∀ y0 y1 y2 y3 y4 y5, LeO (route_Expand.l0 k y0 y1 y2 y3 y4 y5) (route_Expand.l0 (k + 1) y0 y1 y2 y3 y4 y5))
  | 0 => ⟨fun _ _ _ _ _ _ _ _ _ _ _ r h => by simp [route_Expand.j0] at h, fun _ _ _ _ _ _ r h => by simp [route_Expand.l0] at h⟩
  | k + 1 => by
    obtain ⟨ih0, ih1⟩ := route_Expand.mono_l k
    refine ⟨?_, ?_⟩
    · intro y0 y1 y2 y3 y4 y5 y6 y7 y8 y9 y10
      unfold route_Expand.j0
      repeat' first
      | (with_reducible exact ih0 _ _ _ _ _ _ _ _ _ _ _)
      | (with_reducible exact ih1 _ _ _ _ _ _)
      | (with_reducible exact chart_Check.mono _ _ _)
      | (with_reducible exact plantext_Check.mono _ _ _ _ _ _ _ _ _)
      | (with_reducible exact route_names.mono _ _ _ _)
      | (with_reducible exact slices_Concat_string_string.mono _ _)
      | (with_reducible exact LeO.refl _)
      | (with_reducible exact LeO.none _)
      | (with_reducible refine LeO.ite ?_ ?_)
      | (with_reducible refine LeO.bind ?_ (fun _ => ?_))
      | exact ih0 _ _ _ _ _ _ _ _ _ _ _
      | exact ih1 _ _ _ _ _ _
      | exact chart_Check.mono _ _ _
      | exact plantext_Check.mono _ _ _ _ _ _ _ _ _
      | exact route_names.mono _ _ _ _
      | exact slices_Concat_string_string.mono _ _
      | exact LeO.none _
      | refine LeO.ite ?_ ?_
      | refine LeO.bind ?_ (fun _ => ?_)
    · intro y0 y1 y2 y3 y4 y5
      unfold route_Expand.l0
      repeat' first
      | (with_reducible exact ih0 _ _ _ _ _ _ _ _ _ _ _)
      | (with_reducible exact ih1 _ _ _ _ _ _)
      | (with_reducible exact chart_Check.mono _ _ _)
      | (with_reducible exact plantext_Check.mono _ _ _ _ _ _ _ _ _)
      | (with_reducible exact route_names.mono _ _ _ _)
      | (with_reducible exact slices_Concat_string_string.mono _ _)
      | (with_reducible exact LeO.refl _)
      | (with_reducible exact LeO.none _)
      | (with_reducible refine LeO.ite ?_ ?_)
      | (with_reducible refine LeO.bind ?_ (fun _ => ?_))
      | exact ih0 _ _ _ _ _ _ _ _ _ _ _
      | exact ih1 _ _ _ _ _ _
      | exact chart_Check.mono _ _ _
      | exact plantext_Check.mono _ _ _ _ _ _ _ _ _
      | exact route_names.mono _ _ _ _
      | exact slices_Concat_string_string.mono _ _
      | exact LeO.none _
      | refine LeO.ite ?_ ?_
      | refine LeO.bind ?_ (fun _ => ?_)
theorem route_Expand.mono : ∀ a0 a1 a2 a3 a4 a5 a6 a7 a8 a9 k, LeO (route_Expand.f k a0 a1 a2 a3 a4 a5 a6 a7 a8 a9) (route_Expand.f (k + 1) a0 a1 a2 a3 a4 a5 a6 a7 a8 a9) := by
  intro a0 a1 a2 a3 a4 a5 a6 a7 a8 a9 k
  obtain ⟨ih0, ih1⟩ := route_Expand.mono_l k
  unfold route_Expand.f
  repeat' first
      | (with_reducible exact ih0 _ _ _ _ _ _ _ _ _ _ _)
      | (with_reducible exact ih1 _ _ _ _ _ _)
      | (with_reducible exact chart_Check.mono _ _ _)
      | (with_reducible exact plantext_Check.mono _ _ _ _ _ _ _ _ _)
      | (with_reducible exact route_names.mono _ _ _ _)
      | (with_reducible exact slices_Concat_string_string.mono _ _)
      | (with_reducible exact LeO.refl _)
      | (with_reducible exact LeO.none _)
      | (with_reducible refine LeO.ite ?_ ?_)
      | (with_reducible refine LeO.bind ?_ (fun _ => ?_))
      | exact ih0 _ _ _ _ _ _ _ _ _ _ _
      | exact ih1 _ _ _ _ _ _
      | exact chart_Check.mono _ _ _
      | exact plantext_Check.mono _ _ _ _ _ _ _ _ _
      | exact route_names.mono _ _ _ _
      | exact slices_Concat_string_string.mono _ _
      | exact LeO.none _
      | refine LeO.ite ?_ ?_
      | refine LeO.bind ?_ (fun _ => ?_)
def route_Expand.T9 : Bool × List (List Nat × List Nat) := (true, [([], []), ([0], [0]), ([1], [1]), ([], []), ([3], [3]), ([], []), ([5], [5]), ([6], [6]), ([2, 4, 7], [2, 4, 7]), ([8], [8]), ([], []), ([9, 10, 9], [9, 10]), ([11], [11]), ([12], [12]), ([12], [12]), ([13, 11, 0, 1, 2, 3, 4, 5, 6, 7, 8, 9, 10, 11, 12, 13], [13]), ([14, 15, 0, 1, 2, 3, 4, 5, 6, 7, 8, 9, 10, 11, 12, 13, 14, 15], [14])])
def route_Expand.B9 : List Nat := [0, 1, 3, 0, 8, 0, 32, 96, 255, 511, 0, 2047, 4095, 8191, 8191, 16383, 65535]
theorem route_Expand.tab9 : rtab .any (opsOf Try.f24 9) = route_Expand.T9 := by kernel_rfl
theorem route_Expand.bits9 : waitsOk route_Expand.T9.2 route_Expand.B9 = true := by kernel_rfl
def route_Expand.T17 : Bool × List (List Nat × List Nat) := (true, [([], []), ([0], [0]), ([1], [1]), ([2], [2]), ([2], [2]), ([4, 2], [2, 4]), ([3, 5, 2], [2, 3, 5]), ([6, 2], [2, 6]), ([7, 2], [2, 7]), ([2], [2]), ([9, 2], [2, 9]), ([2], [2]), ([10, 11, 2], [2, 10, 11]), ([12, 2], [2, 12]), ([13, 2], [2, 13]), ([8, 14, 2], [2, 8, 14]), ([2, 15], [2, 15])])
def route_Expand.B17 : List Nat := [0, 1, 3, 7, 7, 23, 63, 127, 255, 7, 519, 7, 3591, 7687, 15879, 32767, 65535]
theorem route_Expand.tab17 : rtab .any (opsOf Try.f24 17) = route_Expand.T17 := by kernel_rfl
theorem route_Expand.bits17 : waitsOk route_Expand.T17.2 route_Expand.B17 = true := by kernel_rfl
set_option maxHeartbeats 8000000 in
set_option maxRecDepth 100000 in
theorem route_Expand.calls (k : Nat) (a0_0 : ByteArray) (a0_1 : ByteArray) (a0_2 : ByteArray) (a0_3 : ByteArray) (a0_4 : Int) (a0_5 : Int) (a0_6 : Int) (P0_7_ : Nat → Prop) (A0_7 : Option Addr) (c0_7 : Nat) (l0_7 : List ByteArray) (A1_0 : Option Addr) (c1_0 : Nat) (l1_0 : List (S40)) (A1_1 : Option Addr) (c1_1 : Nat) (l1_1 : List (S48)) (r1 : List (S40)) (r2 : Int) (w : World) (hs0_7 : Kd.V Kd.string 9 w w.heap.size (fun k_ => P0_7_ k_) (.slice A0_7 l0_7.length c0_7) l0_7) (hr1_0 : Kd.C k40 w A1_0 l1_0.length l1_0) (hc1_0 : l1_0.length ≤ c1_0) (hr1_1 : Kd.C k48 w A1_1 l1_1.length l1_1) (hc1_1 : l1_1.length ≤ c1_1) (h : route_Expand.f k a0_0 a0_1 a0_2 a0_3 a0_4 a0_5 a0_6 l0_7 l1_0 l1_1 = some (r1, r2)) :
    Calls Try.prog 24 #[.agg #[.string a0_0, .string a0_1, .string a0_2, .string a0_3, .int .i64 a0_4, .int .i64 a0_5, .int .i64 a0_6, .slice A0_7 l0_7.length c0_7], .agg #[.slice A1_0 l1_0.length c1_0, .slice A1_1 l1_1.length c1_1]] w fun e w' => ∃ v0_ : Value, e = .returned (.tuple #[v0_, .int .i64 r2]) ∧ Kd.R k40 40 w' w.heap.size (fun k_ => (w.heap.size ≤ k_)) v0_ r1 ∧ Below w.heap.size w w' := by
 have hu51 := Try.underlying51
 have hu25 := Try.underlying25
 have hu36 := Try.underlying36
 have hu40 := Try.underlying40
 have HO0_7 := Aside0.mk (show Kd.V Kd.string 9 w w.heap.size (fun k_ => (P0_7_ k_ ∨ w.heap.size ≤ k_)) (.slice A0_7 l0_7.length c0_7) l0_7 from Kd.V_mono hs0_7 (fun k_ hk => by first | exact .inl hk | exact hk | exact hk.1 | exact hk.2 | (simp [hk]; done) | (simp at hk ⊢; simp [hk]; done)))
 have HR1_0 := Aside0.mk hr1_0
 have HC1_0 := Aside0.mk hc1_0
 clear hr1_0 hc1_0
 have HR1_1 := Aside0.mk hr1_1
 have HC1_1 := Aside0.mk hc1_1
 clear hr1_1 hc1_1
 have HB := Aside0.mk (Below.refl w.heap.size w)
 have H : ((plantext_Check.f k a0_0 a0_1 a0_2 a0_3 a0_4 a0_5 a0_6 l0_7).bind fun t232 => (if t232 = 0 then ((chart_Check.f k l1_0 l1_1).bind fun t233 => (if t233 = 0 then ((route_isFix.f l1_0 l1_1 a0_2).bind fun t234 => (if t234 = true then ((route_isFix.f l1_0 l1_1 a0_3).bind fun t235 => (route_Expand.j0 k (!t235) a0_0 a0_1 a0_2 a0_3 a0_4 a0_5 a0_6 l0_7 l1_0 l1_1)) else (route_Expand.j0 k true a0_0 a0_1 a0_2 a0_3 a0_4 a0_5 a0_6 l0_7 l1_0 l1_1))) else (some (([] : List (S40)), t233)))) else (some (([] : List (S40)), t232)))) = some (r1, r2) := h
 clear h
 replace H := Option.bind_eq_some_iff.mp H
 obtain ⟨t232, A30, H⟩ := H
 replace H : (if t232 = 0 then ((chart_Check.f k l1_0 l1_1).bind fun t233 => (if t233 = 0 then ((route_isFix.f l1_0 l1_1 a0_2).bind fun t234 => (if t234 = true then ((route_isFix.f l1_0 l1_1 a0_3).bind fun t235 => (route_Expand.j0 k (!t235) a0_0 a0_1 a0_2 a0_3 a0_4 a0_5 a0_6 l0_7 l1_0 l1_1)) else (route_Expand.j0 k true a0_0 a0_1 a0_2 a0_3 a0_4 a0_5 a0_6 l0_7 l1_0 l1_1))) else (some (([] : List (S40)), t233)))) else (some (([] : List (S40)), t232))) = some (r1, r2) := H
 have A3 := Aside0.mk A30
 clear A30
 refine Or.elim (Classical.em (t232 = 0)) (fun c4 => ?p2_) (fun c4 => ?n2_)
 case' p2_ =>
  rw [if_pos c4] at H
  have c4b0 : (t232 == 0) = true := beq_iff_eq.mpr c4
  have c4b1 : (t232 != 0) = false := bne_eq_false_iff_eq.mpr c4
  clear c4
  replace H := Option.bind_eq_some_iff.mp H
  obtain ⟨t233, A50, H⟩ := H
  replace H : (if t233 = 0 then ((route_isFix.f l1_0 l1_1 a0_2).bind fun t234 => (if t234 = true then ((route_isFix.f l1_0 l1_1 a0_3).bind fun t235 => (route_Expand.j0 k (!t235) a0_0 a0_1 a0_2 a0_3 a0_4 a0_5 a0_6 l0_7 l1_0 l1_1)) else (route_Expand.j0 k true a0_0 a0_1 a0_2 a0_3 a0_4 a0_5 a0_6 l0_7 l1_0 l1_1))) else (some (([] : List (S40)), t233))) = some (r1, r2) := H
  have A5 := Aside0.mk A50
  clear A50
  refine Or.elim (Classical.em (t233 = 0)) (fun c6 => ?p3_) (fun c6 => ?n3_)
  case' p3_ =>
   rw [if_pos c6] at H
   have c6b0 : (t233 == 0) = true := beq_iff_eq.mpr c6
   have c6b1 : (t233 != 0) = false := bne_eq_false_iff_eq.mpr c6
   clear c6
   have HC7 := Aside0.mk H
   clear H
   have hm1_0 := Aside0.mk trivial
  case' n3_ =>
   rw [if_neg c6] at H
   have c6b0 : (t233 == 0) = false := beq_eq_false_iff_ne.mpr c6
   have c6b1 : (t233 != 0) = true := bne_iff_ne.mpr c6
   simp only [Option.some.injEq, Prod.mk.injEq] at H
   obtain ⟨rfl, rfl⟩ := H
   have hm1_1 := Aside0.mk trivial
 case' n2_ =>
  rw [if_neg c4] at H
  have c4b0 : (t232 == 0) = false := beq_eq_false_iff_ne.mpr c4
  have c4b1 : (t232 != 0) = true := bne_iff_ne.mpr c4
  simp only [Option.some.injEq, Prod.mk.injEq] at H
  obtain ⟨rfl, rfl⟩ := H
  have hm1_1 := Aside0.mk trivial
 all_goals
  go_enter Try.func24, Try.ntmps24
  first
   | clear hm1_0
     go_upto_region 7 with (first | ((with_reducible refine gate_dst (N := 2) rfl ?_); refine box_event ?hg (N := 2) ?hd (cs := #[.string a0_0, .string a0_1, .string a0_2, .string a0_3, .int .i64 a0_4, .int .i64 a0_5, .int .i64 a0_6, .slice A0_7 l0_7.length c0_7]) (t := 51) ?hr ?_; (case hd => rfl); (case hg => rfl); (case hr => first | (go_simp; done) | (go_simp; rfl)); intro gb230 hg wxcea41 hbox hb; have n0_ := Aside0.mk (Kd.V_below (Kd.V_elderB (by (with_reducible repeat (first | apply Kd.V_alloc | apply Kd.V_drewN | apply Kd.V_drew)); first | exact HO0_7.out | exact Kd.R_mono HO0_7.out (fun _ h_ => h_.1) | exact Kd.V_mono HO0_7.out (fun _ h_ => h_.1) | exact Kd.N_mono HO0_7.out (fun _ h_ => h_.1)) gb230 (Nat.le_of_eq hg.symm)) hb); have n1_ := Aside0.mk (below_step bel_s hb); have n2_ := Aside0.mk (hbox); have n3_ := Aside0.mk ((by rw [hg]; exact (below_size bel_s) : w.heap.size ≤ gb230)); have n4_ := Aside0.mk ((by rw [hg]; exact (below_size bel_s) : w.heap.size ≤ gb230)); clear HO0_7; clear HB; have HO0_7 := n0_; have HB := n1_; have BK230 := n2_; have GW230 := n3_; have GE230 := n4_; clear n0_ n1_ n2_ n3_ n4_; clear hb hbox hg) | ((with_reducible refine gate_dst (N := 3) rfl ?_); refine box_event ?hg (N := 3) ?hd (cs := #[.slice A1_0 l1_0.length c1_0, .slice A1_1 l1_1.length c1_1]) (t := 25) ?hr ?_; (case hd => rfl); (case hg => rfl); (case hr => first | (go_simp; done) | (go_simp; rfl)); intro gb231 hg wx34251 hbox hb; have n0_ := Aside0.mk (Kd.V_below (Kd.V_elderB (by (with_reducible repeat (first | apply Kd.V_alloc | apply Kd.V_drewN | apply Kd.V_drew)); first | exact HO0_7.out | exact Kd.R_mono HO0_7.out (fun _ h_ => h_.1) | exact Kd.V_mono HO0_7.out (fun _ h_ => h_.1) | exact Kd.N_mono HO0_7.out (fun _ h_ => h_.1)) gb231 (Nat.le_of_eq hg.symm)) hb); have n1_ := Aside0.mk (blk_below (g := gb230) (o := .cells #[.string a0_0, .string a0_1, .string a0_2, .string a0_3, .int .i64 a0_4, .int .i64 a0_5, .int .i64 a0_6, .slice A0_7 l0_7.length c0_7] 51 (0, 0)) blk_s hb); have n2_ := Aside0.mk (below_step bel_s hb); have n3_ := Aside0.mk (hbox); have n4_ := Aside0.mk ((by rw [hg]; exact (below_size bel_s) : w.heap.size ≤ gb231)); have n5_ := Aside0.mk ((by rw [hg]; exact (below_size bel_s) : w.heap.size ≤ gb231)); have n6_ := Aside0.mk ((by rw [hg]; exact Nat.ne_of_lt (blk_lt (g := gb230) (o := .cells #[.string a0_0, .string a0_1, .string a0_2, .string a0_3, .int .i64 a0_4, .int .i64 a0_5, .int .i64 a0_6, .slice A0_7 l0_7.length c0_7] 51 (0, 0)) blk_s) : gb230 ≠ gb231)); have n7_ := Aside0.mk ((by rw [hg]; exact Nat.ne_of_gt (blk_lt (g := gb230) (o := .cells #[.string a0_0, .string a0_1, .string a0_2, .string a0_3, .int .i64 a0_4, .int .i64 a0_5, .int .i64 a0_6, .slice A0_7 l0_7.length c0_7] 51 (0, 0)) blk_s) : gb231 ≠ gb230)); clear HO0_7; clear BK230; clear HB; have HO0_7 := n0_; have BK230 := n1_; have HB := n2_; have BK231 := n3_; have GW231 := n4_; have GE231 := n5_; have NB230_231 := n6_; have NB231_230 := n7_; clear n0_ n1_ n2_ n3_ n4_ n5_ n6_ n7_; clear hb hbox hg; have hnbx34251 := NB230_231.out; have hncx34251 := NB231_230.out; have hczx34251 : wx34251.cell? ⟨gb230, 0, none⟩ = some (.string a0_0) := (blk_cell BK230.out 0).trans rfl; have hczx34252 : wx34251.cell? ⟨gb230, 1, none⟩ = some (.string a0_1) := (blk_cell BK230.out 1).trans rfl; have hczx34253 : wx34251.cell? ⟨gb230, 2, none⟩ = some (.string a0_2) := (blk_cell BK230.out 2).trans rfl; have hczx34254 : wx34251.cell? ⟨gb230, 3, none⟩ = some (.string a0_3) := (blk_cell BK230.out 3).trans rfl; have hczx34255 : wx34251.cell? ⟨gb230, 4, none⟩ = some (.int .i64 a0_4) := (blk_cell BK230.out 4).trans rfl; have hczx34256 : wx34251.cell? ⟨gb230, 5, none⟩ = some (.int .i64 a0_5) := (blk_cell BK230.out 5).trans rfl; have hczx34257 : wx34251.cell? ⟨gb230, 6, none⟩ = some (.int .i64 a0_6) := (blk_cell BK230.out 6).trans rfl; have hczx34258 : wx34251.cell? ⟨gb230, 7, none⟩ = some (.slice A0_7 l0_7.length c0_7) := (blk_cell BK230.out 7).trans rfl; have hfzx34251 := blk_frozen BK230.out 0; have hfzx34252 := blk_frozen BK230.out 1; have hfzx34253 := blk_frozen BK230.out 2; have hfzx34254 := blk_frozen BK230.out 3; have hfzx34255 := blk_frozen BK230.out 4; have hfzx34256 := blk_frozen BK230.out 5; have hfzx34257 := blk_frozen BK230.out 6; have hfzx34258 := blk_frozen BK230.out 7) | ((with_reducible refine gate_callee (f := 63) rfl ?_); refine goesL_ (some 15) rfl rfl Try.func63 (by kernel_rfl) rfl #[.agg #[.string a0_0, .string a0_1, .string a0_2, .string a0_3, .int .i64 a0_4, .int .i64 a0_5, .int .i64 a0_6, .slice A0_7 l0_7.length c0_7]] rfl any_s ?_; (with_reducible refine (plantext_Check.calls k a0_0 a0_1 a0_2 a0_3 a0_4 a0_5 a0_6 _ _ l0_7 t232 _ ?side1 ?side2 A3.out).mono ?_); (case side1 => repeat (first | exact (Kd.V_reads' HO0_7.out).2.2 | (with_reducible refine Kd.C_alloc ?_ _) | (with_reducible refine Kd.C_drewN ?_ _) | (with_reducible refine Kd.C_drew ?_))); (case side2 => exact (Kd.V_reads' HO0_7.out).2.1); rintro e wx74591 ⟨rfl, hb⟩; refine ⟨_, rfl, ?_⟩; have n0_ := Aside0.mk (Kd.V_below (by (with_reducible repeat (first | apply Kd.V_alloc | apply Kd.V_drewN | apply Kd.V_drew)); first | exact HO0_7.out | exact Kd.R_mono HO0_7.out (fun _ h_ => h_.1) | exact Kd.V_mono HO0_7.out (fun _ h_ => h_.1) | exact Kd.N_mono HO0_7.out (fun _ h_ => h_.1)) hb); have n1_ := Aside0.mk (blk_below (g := gb230) (o := .cells #[.string a0_0, .string a0_1, .string a0_2, .string a0_3, .int .i64 a0_4, .int .i64 a0_5, .int .i64 a0_6, .slice A0_7 l0_7.length c0_7] 51 (0, 0)) blk_s hb); have n2_ := Aside0.mk (blk_below (g := gb231) (o := .cells #[.slice A1_0 l1_0.length c1_0, .slice A1_1 l1_1.length c1_1] 25 (0, 0)) blk_s hb); have n3_ := Aside0.mk (below_step bel_s hb); clear HO0_7; clear BK230; clear BK231; clear HB; have HO0_7 := n0_; have BK230 := n1_; have BK231 := n2_; have HB := n3_; clear n0_ n1_ n2_ n3_; (try clear hb); (try clear hb2); (try clear hk); (try clear hi); have hczx74591 : wx74591.cell? ⟨gb231, 0, none⟩ = some (.slice A1_0 l1_0.length c1_0) := (blk_cell BK231.out 0).trans rfl; have hczx74592 : wx74591.cell? ⟨gb231, 1, none⟩ = some (.slice A1_1 l1_1.length c1_1) := (blk_cell BK231.out 1).trans rfl; have hfzx74591 := blk_frozen BK231.out 0; have hfzx74592 := blk_frozen BK231.out 1) | ((with_reducible refine gate_callee (f := 49) rfl ?_); refine goesL_ (some 20) rfl rfl Try.func49 (by kernel_rfl) rfl #[.agg #[.slice A1_0 l1_0.length c1_0, .slice A1_1 l1_1.length c1_1]] rfl any_s ?_; (with_reducible refine (chart_Check.calls k _ _ l1_0 _ _ l1_1 t233 _ ?side1 ?side2 ?side3 ?side4 A5.out).mono ?_); (case side1 => repeat (first | exact (Kd.C_below HR1_0.out HB.out) | (with_reducible refine Kd.C_alloc ?_ _) | (with_reducible refine Kd.C_drewN ?_ _) | (with_reducible refine Kd.C_drew ?_))); (case side2 => exact HC1_0.out); (case side3 => repeat (first | exact (Kd.C_below HR1_1.out HB.out) | (with_reducible refine Kd.C_alloc ?_ _) | (with_reducible refine Kd.C_drewN ?_ _) | (with_reducible refine Kd.C_drew ?_))); (case side4 => exact HC1_1.out); rintro e wxfea21 ⟨rfl, hb⟩; refine ⟨_, rfl, ?_⟩; have n0_ := Aside0.mk (Kd.V_below (by (with_reducible repeat (first | apply Kd.V_alloc | apply Kd.V_drewN | apply Kd.V_drew)); first | exact HO0_7.out | exact Kd.R_mono HO0_7.out (fun _ h_ => h_.1) | exact Kd.V_mono HO0_7.out (fun _ h_ => h_.1) | exact Kd.N_mono HO0_7.out (fun _ h_ => h_.1)) hb); have n1_ := Aside0.mk (blk_below (g := gb230) (o := .cells #[.string a0_0, .string a0_1, .string a0_2, .string a0_3, .int .i64 a0_4, .int .i64 a0_5, .int .i64 a0_6, .slice A0_7 l0_7.length c0_7] 51 (0, 0)) blk_s hb); have n2_ := Aside0.mk (blk_below (g := gb231) (o := .cells #[.slice A1_0 l1_0.length c1_0, .slice A1_1 l1_1.length c1_1] 25 (0, 0)) blk_s hb); have n3_ := Aside0.mk (below_step bel_s hb); clear HO0_7; clear BK230; clear BK231; clear HB; have HO0_7 := n0_; have BK230 := n1_; have BK231 := n2_; have HB := n3_; clear n0_ n1_ n2_ n3_; (try clear hb); (try clear hb2); (try clear hk); (try clear hi)))
     (try simp only [Act.put, List.setIfInBounds_toArray, List.set_cons_zero, List.set_cons_succ])
     go_cut [35] (fun v35 wc => ∃ (kq : Nat) (x35_6 : Bool), v35 = .bool x35_6 ∧ Aside0 (route_Expand.j0 kq x35_6 a0_0 a0_1 a0_2 a0_3 a0_4 a0_5 a0_6 l0_7 l1_0 l1_1 = some (r1, r2)) ∧ Aside0 (kq ≤ k) ∧ Aside0 (Kd.V Kd.string 9 wc w.heap.size (fun k_ => (P0_7_ k_ ∨ w.heap.size ≤ k_) ∧ k_ ≠ gb230 ∧ k_ ≠ gb231) (.slice A0_7 l0_7.length c0_7) l0_7) ∧ Aside0 (wc.heap[gb230]? = some (.cells #[.string a0_0, .string a0_1, .string a0_2, .string a0_3, .int .i64 a0_4, .int .i64 a0_5, .int .i64 a0_6, (.slice A0_7 l0_7.length c0_7)] 51 (0, 0))) ∧ Aside0 (wc.heap[gb231]? = some (.cells #[(.slice A1_0 l1_0.length c1_0), (.slice A1_1 l1_1.length c1_1)] 25 (0, 0))) ∧ Aside0 (Below w.heap.size w wc))
     case first =>
      have H := HC7.out
      clear HC7
      replace H := Option.bind_eq_some_iff.mp H
      obtain ⟨t234, A150, H⟩ := H
      replace H : (if t234 = true then ((route_isFix.f l1_0 l1_1 a0_3).bind fun t235 => (route_Expand.j0 k (!t235) a0_0 a0_1 a0_2 a0_3 a0_4 a0_5 a0_6 l0_7 l1_0 l1_1)) else (route_Expand.j0 k true a0_0 a0_1 a0_2 a0_3 a0_4 a0_5 a0_6 l0_7 l1_0 l1_1)) = some (r1, r2) := H
      have A15 := Aside0.mk A150
      clear A150
      refine Or.elim (Classical.em (t234 = true)) (fun c16 => ?p5_) (fun c16 => ?n5_)
      case' p5_ =>
       subst c16
       have H1 : ((route_isFix.f l1_0 l1_1 a0_3).bind fun t235 => (route_Expand.j0 k (!t235) a0_0 a0_1 a0_2 a0_3 a0_4 a0_5 a0_6 l0_7 l1_0 l1_1)) = some (r1, r2) := by rw [if_pos rfl] at H; exact H
       clear H
       have H := H1
       clear H1
       replace H := Option.bind_eq_some_iff.mp H
       obtain ⟨t235, A170, H⟩ := H
       replace H : (route_Expand.j0 k (!t235) a0_0 a0_1 a0_2 a0_3 a0_4 a0_5 a0_6 l0_7 l1_0 l1_1) = some (r1, r2) := H
       have A17 := Aside0.mk A170
       clear A170
      case' n5_ =>
       replace c16 := Bool.eq_false_iff.mpr c16
       subst c16
       have H1 : (route_Expand.j0 k true a0_0 a0_1 a0_2 a0_3 a0_4 a0_5 a0_6 l0_7 l1_0 l1_1) = some (r1, r2) := by rw [if_neg (show ¬ (false = true) by decide)] at H; exact H
       clear H
       have H := H1
       clear H1
      all_goals
       have H' := Aside0.mk H
       clear H
       have hnbzb1 := NB231_230.out
       have hnczb1 := NB230_231.out
       have hczzb1 : wxfea21.cell? ⟨gb231, 0, none⟩ = some (.slice A1_0 l1_0.length c1_0) := (blk_cell BK231.out 0).trans rfl
       have hczzb2 : wxfea21.cell? ⟨gb231, 1, none⟩ = some (.slice A1_1 l1_1.length c1_1) := (blk_cell BK231.out 1).trans rfl
       have hfzzb1 := blk_frozen BK231.out 0
       have hfzzb2 := blk_frozen BK231.out 1
       have hczzb3 : wxfea21.cell? ⟨gb230, 0, none⟩ = some (.string a0_0) := (blk_cell BK230.out 0).trans rfl
       have hczzb4 : wxfea21.cell? ⟨gb230, 1, none⟩ = some (.string a0_1) := (blk_cell BK230.out 1).trans rfl
       have hczzb5 : wxfea21.cell? ⟨gb230, 2, none⟩ = some (.string a0_2) := (blk_cell BK230.out 2).trans rfl
       have hczzb6 : wxfea21.cell? ⟨gb230, 3, none⟩ = some (.string a0_3) := (blk_cell BK230.out 3).trans rfl
       have hczzb7 : wxfea21.cell? ⟨gb230, 4, none⟩ = some (.int .i64 a0_4) := (blk_cell BK230.out 4).trans rfl
       have hczzb8 : wxfea21.cell? ⟨gb230, 5, none⟩ = some (.int .i64 a0_5) := (blk_cell BK230.out 5).trans rfl
       have hczzb9 : wxfea21.cell? ⟨gb230, 6, none⟩ = some (.int .i64 a0_6) := (blk_cell BK230.out 6).trans rfl
       have hczzb10 : wxfea21.cell? ⟨gb230, 7, none⟩ = some (.slice A0_7 l0_7.length c0_7) := (blk_cell BK230.out 7).trans rfl
       have hfzzb3 := blk_frozen BK230.out 0
       have hfzzb4 := blk_frozen BK230.out 1
       have hfzzb5 := blk_frozen BK230.out 2
       have hfzzb6 := blk_frozen BK230.out 3
       have hfzzb7 := blk_frozen BK230.out 4
       have hfzzb8 := blk_frozen BK230.out 5
       have hfzzb9 := blk_frozen BK230.out 6
       have hfzzb10 := blk_frozen BK230.out 7
       go_wp2_with (first | ((with_reducible refine gate_callee (f := 64) rfl ?_); refine goesL_ (some 27) rfl rfl Try.func64 (by kernel_rfl) rfl #[.agg #[.slice A1_0 l1_0.length c1_0, .slice A1_1 l1_1.length c1_1], .string a0_2] rfl any_s ?_; (with_reducible refine (route_isFix.calls _ _ l1_0 _ _ l1_1 a0_2 true _ ?side1 ?side2 ?side3 ?side4 A15.out).mono ?_); (case side1 => repeat (first | exact (Kd.C_below HR1_0.out HB.out) | (with_reducible refine Kd.C_alloc ?_ _) | (with_reducible refine Kd.C_drewN ?_ _) | (with_reducible refine Kd.C_drew ?_))); (case side2 => exact HC1_0.out); (case side3 => repeat (first | exact (Kd.C_below HR1_1.out HB.out) | (with_reducible refine Kd.C_alloc ?_ _) | (with_reducible refine Kd.C_drewN ?_ _) | (with_reducible refine Kd.C_drew ?_))); (case side4 => exact HC1_1.out); rintro e wx13931 ⟨rfl, hb⟩; refine ⟨_, rfl, ?_⟩; have n0_ := Aside0.mk (Kd.V_below (by (with_reducible repeat (first | apply Kd.V_alloc | apply Kd.V_drewN | apply Kd.V_drew)); first | exact HO0_7.out | exact Kd.R_mono HO0_7.out (fun _ h_ => h_.1) | exact Kd.V_mono HO0_7.out (fun _ h_ => h_.1) | exact Kd.N_mono HO0_7.out (fun _ h_ => h_.1)) hb); have n1_ := Aside0.mk (blk_below (g := gb230) (o := .cells #[.string a0_0, .string a0_1, .string a0_2, .string a0_3, .int .i64 a0_4, .int .i64 a0_5, .int .i64 a0_6, .slice A0_7 l0_7.length c0_7] 51 (0, 0)) blk_s hb); have n2_ := Aside0.mk (blk_below (g := gb231) (o := .cells #[.slice A1_0 l1_0.length c1_0, .slice A1_1 l1_1.length c1_1] 25 (0, 0)) blk_s hb); have n3_ := Aside0.mk (below_step bel_s hb); clear HO0_7; clear BK230; clear BK231; clear HB; have HO0_7 := n0_; have BK230 := n1_; have BK231 := n2_; have HB := n3_; clear n0_ n1_ n2_ n3_; (try clear hb); (try clear hb2); (try clear hk); (try clear hi); have hczx13931 : wx13931.cell? ⟨gb231, 0, none⟩ = some (.slice A1_0 l1_0.length c1_0) := (blk_cell BK231.out 0).trans rfl; have hczx13932 : wx13931.cell? ⟨gb231, 1, none⟩ = some (.slice A1_1 l1_1.length c1_1) := (blk_cell BK231.out 1).trans rfl; have hfzx13931 := blk_frozen BK231.out 0; have hfzx13932 := blk_frozen BK231.out 1; have hczx13933 : wx13931.cell? ⟨gb230, 0, none⟩ = some (.string a0_0) := (blk_cell BK230.out 0).trans rfl; have hczx13934 : wx13931.cell? ⟨gb230, 1, none⟩ = some (.string a0_1) := (blk_cell BK230.out 1).trans rfl; have hczx13935 : wx13931.cell? ⟨gb230, 2, none⟩ = some (.string a0_2) := (blk_cell BK230.out 2).trans rfl; have hczx13936 : wx13931.cell? ⟨gb230, 3, none⟩ = some (.string a0_3) := (blk_cell BK230.out 3).trans rfl; have hczx13937 : wx13931.cell? ⟨gb230, 4, none⟩ = some (.int .i64 a0_4) := (blk_cell BK230.out 4).trans rfl; have hczx13938 : wx13931.cell? ⟨gb230, 5, none⟩ = some (.int .i64 a0_5) := (blk_cell BK230.out 5).trans rfl; have hczx13939 : wx13931.cell? ⟨gb230, 6, none⟩ = some (.int .i64 a0_6) := (blk_cell BK230.out 6).trans rfl; have hczx139310 : wx13931.cell? ⟨gb230, 7, none⟩ = some (.slice A0_7 l0_7.length c0_7) := (blk_cell BK230.out 7).trans rfl; have hfzx13933 := blk_frozen BK230.out 0; have hfzx13934 := blk_frozen BK230.out 1; have hfzx13935 := blk_frozen BK230.out 2; have hfzx13936 := blk_frozen BK230.out 3; have hfzx13937 := blk_frozen BK230.out 4; have hfzx13938 := blk_frozen BK230.out 5; have hfzx13939 := blk_frozen BK230.out 6; have hfzx139310 := blk_frozen BK230.out 7) | ((with_reducible refine gate_callee (f := 64) rfl ?_); refine goesL_ (some 27) rfl rfl Try.func64 (by kernel_rfl) rfl #[.agg #[.slice A1_0 l1_0.length c1_0, .slice A1_1 l1_1.length c1_1], .string a0_2] rfl any_s ?_; (with_reducible refine (route_isFix.calls _ _ l1_0 _ _ l1_1 a0_2 false _ ?side1 ?side2 ?side3 ?side4 A15.out).mono ?_); (case side1 => repeat (first | exact (Kd.C_below HR1_0.out HB.out) | (with_reducible refine Kd.C_alloc ?_ _) | (with_reducible refine Kd.C_drewN ?_ _) | (with_reducible refine Kd.C_drew ?_))); (case side2 => exact HC1_0.out); (case side3 => repeat (first | exact (Kd.C_below HR1_1.out HB.out) | (with_reducible refine Kd.C_alloc ?_ _) | (with_reducible refine Kd.C_drewN ?_ _) | (with_reducible refine Kd.C_drew ?_))); (case side4 => exact HC1_1.out); rintro e wx197f1 ⟨rfl, hb⟩; refine ⟨_, rfl, ?_⟩; have n0_ := Aside0.mk (Kd.V_below (by (with_reducible repeat (first | apply Kd.V_alloc | apply Kd.V_drewN | apply Kd.V_drew)); first | exact HO0_7.out | exact Kd.R_mono HO0_7.out (fun _ h_ => h_.1) | exact Kd.V_mono HO0_7.out (fun _ h_ => h_.1) | exact Kd.N_mono HO0_7.out (fun _ h_ => h_.1)) hb); have n1_ := Aside0.mk (blk_below (g := gb230) (o := .cells #[.string a0_0, .string a0_1, .string a0_2, .string a0_3, .int .i64 a0_4, .int .i64 a0_5, .int .i64 a0_6, .slice A0_7 l0_7.length c0_7] 51 (0, 0)) blk_s hb); have n2_ := Aside0.mk (blk_below (g := gb231) (o := .cells #[.slice A1_0 l1_0.length c1_0, .slice A1_1 l1_1.length c1_1] 25 (0, 0)) blk_s hb); have n3_ := Aside0.mk (below_step bel_s hb); clear HO0_7; clear BK230; clear BK231; clear HB; have HO0_7 := n0_; have BK230 := n1_; have BK231 := n2_; have HB := n3_; clear n0_ n1_ n2_ n3_; (try clear hb); (try clear hb2); (try clear hk); (try clear hi)) | (go_at_call 64; (with_reducible refine (route_isFix.calls _ _ l1_0 _ _ l1_1 a0_3 t235 _ ?side1 ?side2 ?side3 ?side4 A17.out).mono ?_); (case side1 => repeat (first | exact (Kd.C_below HR1_0.out HB.out) | (with_reducible refine Kd.C_alloc ?_ _) | (with_reducible refine Kd.C_drewN ?_ _) | (with_reducible refine Kd.C_drew ?_))); (case side2 => exact HC1_0.out); (case side3 => repeat (first | exact (Kd.C_below HR1_1.out HB.out) | (with_reducible refine Kd.C_alloc ?_ _) | (with_reducible refine Kd.C_drewN ?_ _) | (with_reducible refine Kd.C_drew ?_))); (case side4 => exact HC1_1.out); rintro e wx6c471 ⟨rfl, hb⟩; have n0_ := Aside0.mk (Kd.V_below (by (with_reducible repeat (first | apply Kd.V_alloc | apply Kd.V_drewN | apply Kd.V_drew)); first | exact HO0_7.out | exact Kd.R_mono HO0_7.out (fun _ h_ => h_.1) | exact Kd.V_mono HO0_7.out (fun _ h_ => h_.1) | exact Kd.N_mono HO0_7.out (fun _ h_ => h_.1)) hb); have n1_ := Aside0.mk (blk_below (g := gb230) (o := .cells #[.string a0_0, .string a0_1, .string a0_2, .string a0_3, .int .i64 a0_4, .int .i64 a0_5, .int .i64 a0_6, .slice A0_7 l0_7.length c0_7] 51 (0, 0)) blk_s hb); have n2_ := Aside0.mk (blk_below (g := gb231) (o := .cells #[.slice A1_0 l1_0.length c1_0, .slice A1_1 l1_1.length c1_1] 25 (0, 0)) blk_s hb); have n3_ := Aside0.mk (below_step bel_s hb); clear HO0_7; clear BK230; clear BK231; clear HB; have HO0_7 := n0_; have BK230 := n1_; have BK231 := n2_; have HB := n3_; clear n0_ n1_ n2_ n3_; (try clear hb); (try clear hb2); (try clear hk); (try clear hi)))
       go_meet
       case rel => first | (exact ⟨_, (!t235), (by first | rfl | (simp; done) | (simp [*]; done)), H', ⟨by first | omega | exact Nat.le_refl _⟩, ⟨by (with_reducible repeat (first | apply Kd.V_alloc | apply Kd.V_drewN | apply Kd.V_drew)); exact Kd.V_mono HO0_7.out (fun _ hk => by first | exact ⟨hk.1.1, ⟨hk.1.2, hk.2⟩⟩ | exact hk | exact hk.1 | exact hk.2 | (simp [hk]; done) | (simp at hk ⊢; simp [hk]; done))⟩, ⟨by (with_reducible repeat (first | refine blk_drewN ?_ _ | refine blk_drew ?_ | refine blk_alloc ?_ _)); exact BK230.out⟩, ⟨by (with_reducible repeat (first | refine blk_drewN ?_ _ | refine blk_drew ?_ | refine blk_alloc ?_ _)); exact BK231.out⟩, ⟨by repeat (first | (with_reducible first | exact HB.out | apply below_alloc | apply pw_below_drewN | apply below_drew1 | refine below_set ?_ GE230.out | refine below_set ?_ GE231.out) | exact HB.out)⟩⟩) | (exact ⟨_, (true), (by first | rfl | (simp; done) | (simp [*]; done)), H', ⟨by first | omega | exact Nat.le_refl _⟩, ⟨by (with_reducible repeat (first | apply Kd.V_alloc | apply Kd.V_drewN | apply Kd.V_drew)); exact Kd.V_mono HO0_7.out (fun _ hk => by first | exact ⟨hk.1.1, ⟨hk.1.2, hk.2⟩⟩ | exact hk | exact hk.1 | exact hk.2 | (simp [hk]; done) | (simp at hk ⊢; simp [hk]; done))⟩, ⟨by (with_reducible repeat (first | refine blk_drewN ?_ _ | refine blk_drew ?_ | refine blk_alloc ?_ _)); exact BK230.out⟩, ⟨by (with_reducible repeat (first | refine blk_drewN ?_ _ | refine blk_drew ?_ | refine blk_alloc ?_ _)); exact BK231.out⟩, ⟨by repeat (first | (with_reducible first | exact HB.out | apply below_alloc | apply pw_below_drewN | apply below_drew1 | refine below_set ?_ GE230.out | refine below_set ?_ GE231.out) | exact HB.out)⟩⟩)
     case rest =>
      clear HC7
      (try clear c1); (try clear c2); (try clear p2); (try clear c4); (try clear c4b0); (try clear c4b1); (try clear c6); (try clear c6b0); (try clear c6b1); (try clear c10); (try clear c16); (try clear c18); (try clear c24); (try clear c25); (try clear hczx34251); (try clear hczx34252); (try clear hczx34253); (try clear hczx34254); (try clear hczx34255); (try clear hczx34256); (try clear hczx34257); (try clear hczx34258); (try clear hczx74591); (try clear hczx74592); (try clear hczza1); (try clear hczza2); (try clear hczza3); (try clear hczza4); (try clear hczza5); (try clear hczza6); (try clear hczza7); (try clear hczza8); (try clear hczza9); (try clear hczza10); (try clear hczx13931); (try clear hczx13932); (try clear hczx13933); (try clear hczx13934); (try clear hczx13935); (try clear hczx13936)
      (try clear hczx13937); (try clear hczx13938); (try clear hczx13939); (try clear hczx139310); (try clear hczza11); (try clear hczza12); (try clear hczza13); (try clear hczza14); (try clear hczza15); (try clear hczza16); (try clear hczza17); (try clear hczza18); (try clear hczza19); (try clear hczza20); (try clear hfzx34251); (try clear hfzx34252); (try clear hfzx34253); (try clear hfzx34254); (try clear hfzx34255); (try clear hfzx34256); (try clear hfzx34257); (try clear hfzx34258); (try clear hfzx74591); (try clear hfzx74592); (try clear hfzza1); (try clear hfzza2); (try clear hfzza3); (try clear hfzza4); (try clear hfzza5); (try clear hfzza6); (try clear hfzza7); (try clear hfzza8); (try clear hfzza9); (try clear hfzza10); (try clear hfzx13931); (try clear hfzx13932); (try clear hfzx13933); (try clear hfzx13934); (try clear hfzx13935); (try clear hfzx13936)
      (try clear hfzx13937); (try clear hfzx13938); (try clear hfzx13939); (try clear hfzx139310); (try clear hfzza11); (try clear hfzza12); (try clear hfzza13); (try clear hfzza14); (try clear hfzza15); (try clear hfzza16); (try clear hfzza17); (try clear hfzza18); (try clear hfzza19); (try clear hfzza20)
      obtain ⟨kq, x35_6, rfl, HA, HJ6, HO_231007, BK230, BK231, HB⟩ := hcut
      cases kq with
      | zero => exact absurd HA.out (by simp [route_Expand.j0])
      | succ kj6 =>
       have H := HA.out
       clear HA
       simp only [route_Expand.j0] at H
       by_cases c29 : x35_6 = true
       · subst c29
         have H1 : (some (([] : List (S40)), 6)) = some (r1, r2) := by rw [if_pos rfl] at H; exact H
         clear H
         have H := H1
         clear H1
         simp only [Option.some.injEq, Prod.mk.injEq] at H
         obtain ⟨rfl, rfl⟩ := H
         go_wp2
         go_ret2
         exact ⟨_, by first | rfl | (simp [errW_none, errW_some] <;> rfl) | (simp [*, errW_none, errW_some] <;> rfl), by first | exact Kd.R_nil _ _ _ _ _ | exact Kd.N_nil _ _ _ _ _ | exact Kd.V_nil _ _ _ _ _ | exact Kd.Q_nil _ _ _ _ _ | exact Kd.S_nil _ _ _ _ _, by repeat (first | (with_reducible first | exact HB.out | apply below_alloc | apply pw_below_drewN | apply below_drew1 | refine below_set ?_ GE230.out | refine below_set ?_ GE231.out) | exact HB.out)⟩
       · replace c29 := Bool.eq_false_iff.mpr c29
         subst c29
         have H1 : ((slices_Concat_string_string.f kj6 (([(([a0_2] : List ByteArray)), l0_7, (([a0_3] : List ByteArray))] : List (List ByteArray)))).bind fun t245 => ((route_names.f kj6 t245 l1_0 l1_1).bind fun bt248 => (if bt248.2 = 0 then (route_Expand.l0 kj6 ([] : List (S40)) bt248.1 (bt248.1.length : Int) 0 l1_0 l1_1) else (some (([] : List (S40)), bt248.2))))) = some (r1, r2) := by rw [if_neg (show ¬ (false = true) by decide)] at H; exact H
         clear H
         have H := H1
         clear H1
         obtain ⟨y236, hy236⟩ : ∃ y_ : List ByteArray, y_ = (([a0_2] : List ByteArray)) := ⟨_, rfl⟩
         replace H : ((slices_Concat_string_string.f kj6 (([y236, l0_7, (([a0_3] : List ByteArray))] : List (List ByteArray)))).bind fun t245 => ((route_names.f kj6 t245 l1_0 l1_1).bind fun bt248 => (if bt248.2 = 0 then (route_Expand.l0 kj6 ([] : List (S40)) bt248.1 (bt248.1.length : Int) 0 l1_0 l1_1) else (some (([] : List (S40)), bt248.2))))) = some (r1, r2) := by first | (rw [hy236]; with_reducible exact H) | (have H2_ := (Option.bind_some _ _).symm.trans H; rw [hy236]; with_reducible exact H2_) | (have H2_ := (Option.bind_some _ _).symm.trans H; with_reducible exact H2_) | with_reducible exact H | (rw [hy236]; exact H) | exact H
         have Ny236 := Aside0.mk hy236
         clear hy236
         obtain ⟨y239, hy239⟩ : ∃ y_ : List ByteArray, y_ = (([a0_3] : List ByteArray)) := ⟨_, rfl⟩
         replace H : ((slices_Concat_string_string.f kj6 (([y236, l0_7, y239] : List (List ByteArray)))).bind fun t245 => ((route_names.f kj6 t245 l1_0 l1_1).bind fun bt248 => (if bt248.2 = 0 then (route_Expand.l0 kj6 ([] : List (S40)) bt248.1 (bt248.1.length : Int) 0 l1_0 l1_1) else (some (([] : List (S40)), bt248.2))))) = some (r1, r2) := by first | (rw [hy239]; with_reducible exact H) | (have H2_ := (Option.bind_some _ _).symm.trans H; rw [hy239]; with_reducible exact H2_) | (have H2_ := (Option.bind_some _ _).symm.trans H; with_reducible exact H2_) | with_reducible exact H | (rw [hy239]; exact H) | exact H
         have Ny239 := Aside0.mk hy239
         clear hy239
         obtain ⟨y242, hy242⟩ : ∃ y_ : List (List ByteArray), y_ = (([y236, l0_7, y239] : List (List ByteArray))) := ⟨_, rfl⟩
         replace H : ((slices_Concat_string_string.f kj6 y242).bind fun t245 => ((route_names.f kj6 t245 l1_0 l1_1).bind fun bt248 => (if bt248.2 = 0 then (route_Expand.l0 kj6 ([] : List (S40)) bt248.1 (bt248.1.length : Int) 0 l1_0 l1_1) else (some (([] : List (S40)), bt248.2))))) = some (r1, r2) := by first | (rw [hy242]; with_reducible exact H) | (have H2_ := (Option.bind_some _ _).symm.trans H; rw [hy242]; with_reducible exact H2_) | (have H2_ := (Option.bind_some _ _).symm.trans H; with_reducible exact H2_) | with_reducible exact H | (rw [hy242]; exact H) | exact H
         have Ny242 := Aside0.mk hy242
         clear hy242
         replace H := Option.bind_eq_some_iff.mp H
         obtain ⟨t245, A300, H⟩ := H
         replace H : ((route_names.f kj6 t245 l1_0 l1_1).bind fun bt248 => (if bt248.2 = 0 then (route_Expand.l0 kj6 ([] : List (S40)) bt248.1 (bt248.1.length : Int) 0 l1_0 l1_1) else (some (([] : List (S40)), bt248.2)))) = some (r1, r2) := H
         have A30 := Aside0.mk A300
         clear A300
         replace H := Option.bind_eq_some_iff.mp H
         obtain ⟨⟨t248, t251⟩, A310, H⟩ := H
         replace H : (if t251 = 0 then (route_Expand.l0 kj6 ([] : List (S40)) t248 (t248.length : Int) 0 l1_0 l1_1) else (some (([] : List (S40)), t251))) = some (r1, r2) := H
         have A31 := Aside0.mk A310
         clear A310
         by_cases c32 : t251 = 0
         · rw [if_pos c32] at H
           have c32b0 : (t251 == 0) = true := beq_iff_eq.mpr c32
           have c32b1 : (t251 != 0) = false := bne_eq_false_iff_eq.mpr c32
           clear c32
           have H' := Aside0.mk H
           clear H
           try go_wp2
           have n0_ := Aside0.mk (Kd.V_drew HO_231007.out)
           have n1_ := Aside0.mk (blk_drew BK230.out)
           have n2_ := Aside0.mk (blk_drew BK231.out)
           have n3_ := Aside0.mk (below_drew1 HB.out)
           clear HO_231007
           clear BK230
           clear BK231
           clear HB
           have HO_231007 := n0_
           have BK230 := n1_
           have BK231 := n2_
           have HB := n3_
           clear n0_ n1_ n2_ n3_
           refine start_ (n := 17) (S := fun w' => True) (ds := []) #[false, false, false, false, false, false, false, false, false, false, false, false, false, false, false, false, false] (by kernel_rfl) rfl rfl trivial (fun hHeld => ?_); refine with_tabW route_Expand.tab9 route_Expand.bits9 (fun HT_ HW_ => ?_)
           generalize wc.drew = wzc1 at HO_231007 BK230 BK231 HB hHeld ⊢
           refine pure_ (i := 0) (N := some 37) (v := ?_) (a' := ?_) #[true, false, false, false, false, false, false, false, false, false, false, false, false, false, false, false, false] rfl rfl (any_of HT_.out (by kernel_rfl)) (fun _ _ _ h => h) (Or.inl ⟨by rfl, ?_⟩) ?_ ?_
           rotate_left
           · intro w'
             go_simp
             with_reducible rfl
           rotate_left
           · simp only [Act.put, List.setIfInBounds_toArray, List.set_cons_zero, List.set_cons_succ, i64_w, i32_w]
             rfl
           refine pure_ (i := 3) (N := some 40) (v := ?_) (a' := ?_) #[true, false, false, true, false, false, false, false, false, false, false, false, false, false, false, false, false] rfl rfl (any_of HT_.out (by kernel_rfl)) (fun _ _ _ h => h) (Or.inl ⟨by rfl, ?_⟩) ?_ ?_
           rotate_left
           · intro w'
             go_simp
             with_reducible rfl
           rotate_left
           · simp only [Act.put, List.setIfInBounds_toArray, List.set_cons_zero, List.set_cons_succ, i64_w, i32_w]
             rfl
           refine pure_ (i := 5) (N := some 42) (v := ?_) (a' := ?_) #[true, false, false, true, false, true, false, false, false, false, false, false, false, false, false, false, false] rfl rfl (any_of HT_.out (by kernel_rfl)) (fun _ _ _ h => h) (Or.inl ⟨by rfl, ?_⟩) ?_ ?_
           rotate_left
           · intro w'
             go_simp
             with_reducible rfl
           rotate_left
           · simp only [Act.put, List.setIfInBounds_toArray, List.set_cons_zero, List.set_cons_succ, i64_w, i32_w]
             rfl
           refine inv_at [1, 2, 4, 6, 7, 8, 9, 10, 11, 12, 13, 14, 15, 16] (fun a0_ b a w' => ∃ (v237 : Value) (v240 : Value) (v243 : Value) (v246 : Value) (v249 : Value) (m11_ : Value) (m12_ : Value) (m13_ : Value) (m15_ : Value), a = putSel a0_ b [(1, 38, .string a0_2), (2, 39, v237), (4, 41, .slice A0_7 l0_7.length c0_7), (6, 43, .string a0_3), (7, 44, v240), (8, 45, v243), (9, 46, v246), (10, 47, .agg #[.slice A1_0 l1_0.length c1_0, .slice A1_1 l1_1.length c1_1]), (11, 48, m11_), (12, 36, m12_), (13, 49, m13_), (14, 50, .int .i64 t251), (15, 8, m15_), (16, 9, .int .i64 t251)] ∧ (Kd.V Kd.string 9 w' w.heap.size (fun k_ => (P0_7_ k_ ∨ w.heap.size ≤ k_) ∧ k_ ≠ gb230 ∧ k_ ≠ gb231) (.slice A0_7 l0_7.length c0_7) l0_7) ∧ (w'.heap[gb230]? = some (.cells #[.string a0_0, .string a0_1, .string a0_2, .string a0_3, .int .i64 a0_4, .int .i64 a0_5, .int .i64 a0_6, .slice A0_7 l0_7.length c0_7] 51 (0, 0))) ∧ (w'.heap[gb231]? = some (.cells #[.slice A1_0 l1_0.length c1_0, .slice A1_1 l1_1.length c1_1] 25 (0, 0))) ∧ (Below w.heap.size w w') ∧ (b 2 = true → b 8 = false → Kd.R Kd.string 9 w' w.heap.size (fun k_ => (w.heap.size ≤ k_)) v237 y236) ∧ (b 7 = true → b 8 = false → Kd.R Kd.string 9 w' w.heap.size (fun k_ => (w.heap.size ≤ k_)) v240 y239) ∧ (b 8 = true → Kd.N (Kd.slice 9 Kd.string) 27 w' w.heap.size (fun k_ => (P0_7_ k_ ∨ w.heap.size ≤ k_) ∧ k_ ≠ gb230 ∧ k_ ≠ gb231) v243 y242) ∧ (b 9 = true → Kd.R Kd.string 9 w' w.heap.size (fun k_ => (w.heap.size ≤ k_)) v246 t245) ∧ (b 11 = true → Kd.R Kd.string 9 w' w.heap.size (fun k_ => (w.heap.size ≤ k_)) v249 t248) ∧ (b 11 = true → (m11_ : Value) = .tuple #[v249, .int .i64 t251]) ∧ (b 12 = true → (m12_ : Value) = .tuple #[v249, .int .i64 t251]) ∧ (b 13 = true → (m13_ : Value) = v249) ∧ (b 15 = true → (m15_ : Value) = v249)) HT_.out HW_.out (by kernel_rfl) (by kernel_rfl) ?_ ?_ ?_
           · exact ⟨.bool false, .bool false, .bool false, .bool false, .bool false, .bool false, .bool false, .bool false, .bool false, by simp only [putSel, Bool.false_eq_true, if_false], HO_231007.out, BK230.out, BK231.out, HB.out, fun h_ => absurd h_ (by decide), fun h_ => absurd h_ (by decide), fun h_ => absurd h_ (by decide), fun h_ => absurd h_ (by decide), fun h_ => absurd h_ (by decide), fun h_ => absurd h_ (by decide), fun h_ => absurd h_ (by decide), fun h_ => absurd h_ (by decide), fun h_ => absurd h_ (by decide)⟩
           · skip
             clear BK230 BK231 HB HO_231007
             refine steps_cons ?_ ?_
             · rintro b a w' ⟨v237, v240, v243, v246, v249, m11_, m12_, m13_, m15_, ha, Q_HO_231007, Q_BK230, Q_BK231, Q_HB, Q_HO238, Q_HO241, Q_HO244, Q_HO247, Q_HO250, Q_X11_, Q_X12_, Q_X13_, Q_X15_⟩ hb_ hon hoff
               refine ⟨_, rfl, fun K hK => ?_⟩
               have e37 : a.tmps[37]? = some (.pointer (some ⟨gb230, 2, none⟩)) := by rw [ha]; exact (putSel_off rfl).trans rfl
               replace ha := Aside0.mk ha
               have HO_231007 := Aside0.mk Q_HO_231007
               have BK230 := Aside0.mk Q_BK230
               have BK231 := Aside0.mk Q_BK231
               have HB := Aside0.mk Q_HB
               have hc0_ : w'.cell? ⟨gb230, 0, none⟩ = some (.string a0_0) := (blk_cell BK230.out 0).trans rfl
               have hc1_ : w'.cell? ⟨gb230, 1, none⟩ = some (.string a0_1) := (blk_cell BK230.out 1).trans rfl
               have hc2_ : w'.cell? ⟨gb230, 2, none⟩ = some (.string a0_2) := (blk_cell BK230.out 2).trans rfl
               have hc3_ : w'.cell? ⟨gb230, 3, none⟩ = some (.string a0_3) := (blk_cell BK230.out 3).trans rfl
               have hc4_ : w'.cell? ⟨gb230, 4, none⟩ = some (.int .i64 a0_4) := (blk_cell BK230.out 4).trans rfl
               have hc5_ : w'.cell? ⟨gb230, 5, none⟩ = some (.int .i64 a0_5) := (blk_cell BK230.out 5).trans rfl
               have hc6_ : w'.cell? ⟨gb230, 6, none⟩ = some (.int .i64 a0_6) := (blk_cell BK230.out 6).trans rfl
               have hc7_ : w'.cell? ⟨gb230, 7, none⟩ = some (.slice A0_7 l0_7.length c0_7) := (blk_cell BK230.out 7).trans rfl
               refine value_ (w1 := w') (v := .string a0_2) (by rfl) rfl ?_ ?_
               · go_simp
                 (try simp only [i64_w])
                 try rfl
               refine hK.out _ _ ⟨v237, v240, v243, v246, v249, m11_, m12_, m13_, m15_, (by rw [ha.out]; exact putSel_upk 0 hb_ rfl rfl rfl), Q_HO_231007, Q_BK230, Q_BK231, Q_HB, fun h0_ _ => absurd ((hoff 2 (by kernel_rfl)).symm.trans h0_) (by decide), Q_HO241, fun h0_ => absurd ((hoff 8 (by kernel_rfl)).symm.trans h0_) (by decide), fun h0_ => absurd ((hoff 9 (by kernel_rfl)).symm.trans h0_) (by decide), fun h0_ => absurd ((hoff 11 (by kernel_rfl)).symm.trans h0_) (by decide), fun h0_ => absurd ((hoff 11 (by kernel_rfl)).symm.trans h0_) (by decide), fun h0_ => absurd ((hoff 12 (by kernel_rfl)).symm.trans h0_) (by decide), fun h0_ => absurd ((hoff 13 (by kernel_rfl)).symm.trans h0_) (by decide), fun h0_ => absurd ((hoff 15 (by kernel_rfl)).symm.trans h0_) (by decide)⟩
             refine steps_cons ?_ ?_
             · rintro b a w' ⟨v237, v240, v243, v246, v249, m11_, m12_, m13_, m15_, ha, Q_HO_231007, Q_BK230, Q_BK231, Q_HB, Q_HO238, Q_HO241, Q_HO244, Q_HO247, Q_HO250, Q_X11_, Q_X12_, Q_X13_, Q_X15_⟩ hb_ hon hoff
               refine ⟨_, rfl, fun K hK => ?_⟩
               have e38 : a.tmps[38]? = some (.string a0_2) := by rw [ha]; exact putSel_on (e := (1, 38, .string a0_2)) 0 rfl rfl (hon 1 (by kernel_rfl)) rfl
               replace ha := Aside0.mk ha
               have HO_231007 := Aside0.mk Q_HO_231007
               have BK230 := Aside0.mk Q_BK230
               have BK231 := Aside0.mk Q_BK231
               have HB := Aside0.mk Q_HB
               refine Kd.R_lit_step Kd.string _ 9 ?hg (N := 39) ?hd (xs := ([a0_2] : List ByteArray)) (inner := [.string a0_2]) (ok := fun _ => True) (okp := fun _ => True) ?hr ?hp (fun _ hk => hk) trivial (Below.refl _ _) (Nat.le_refl _) (by simp) ?_; (case hd => rfl); (case hg => rfl); (case hr => first | (go_simp; done) | (go_simp; rfl)); (case hp => exact (Reps.one (show Kd.M Kd.string _ _ _ a0_2 [.string a0_2] from rfl) (Reps.none _ _)))
               intro v237 wzc2 hozc1 hb hg_ hnew_
               clear hg_ hnew_
               (first | rw [← Ny236.out] at hozc1 | (simp only [Int.reduceToNat] at hozc1; rw [← Ny236.out] at hozc1))
               have n0_ := Aside0.mk (Kd.V_elder' (by (with_reducible repeat (first | apply Kd.V_alloc | apply Kd.V_drewN | apply Kd.V_drew)); first | exact HO_231007.out | exact Kd.R_mono HO_231007.out (fun _ h_ => h_.1) | exact Kd.V_mono HO_231007.out (fun _ h_ => h_.1) | exact Kd.N_mono HO_231007.out (fun _ h_ => h_.1)) (Kd.R_base hozc1) hb)
               have n1_ := Aside0.mk (Kd.R_lower (Kd.R_newM (M := fun k_ => (w.heap.size ≤ k_)) hozc1 (below_size bel_s) (fun k_ h_ => h_)) (below_size bel_s))
               have n2_ := Aside0.mk (blk_below (g := gb230) (o := .cells #[.string a0_0, .string a0_1, .string a0_2, .string a0_3, .int .i64 a0_4, .int .i64 a0_5, .int .i64 a0_6, .slice A0_7 l0_7.length c0_7] 51 (0, 0)) blk_s hb)
               have n3_ := Aside0.mk (blk_below (g := gb231) (o := .cells #[.slice A1_0 l1_0.length c1_0, .slice A1_1 l1_1.length c1_1] 25 (0, 0)) blk_s hb)
               have n4_ := Aside0.mk (below_step bel_s hb)
               have z_HO241 := fun (h0_ : b 7 = true) (h1_ : b 8 = false) => (show Kd.R Kd.string 9 wzc2 w.heap.size (fun k_ => (w.heap.size ≤ k_)) v240 y239 from by first | exact (Kd.R_elder' (by (with_reducible repeat (first | apply Kd.R_alloc | apply Kd.R_drewN | apply Kd.R_drew)); exact (Q_HO241 h0_ h1_)) (Kd.R_base hozc1) hb) | exact Kd.R_mono (Kd.R_elder' (by (with_reducible repeat (first | apply Kd.R_alloc | apply Kd.R_drewN | apply Kd.R_drew)); exact (Q_HO241 h0_ h1_)) (Kd.R_base hozc1) hb) (fun _ h_ => by first | trivial | exact h_ | exact h_.1))
               clear HO_231007
               clear BK230
               clear BK231
               clear HB
               have HO_231007 := n0_
               have HO238 := n1_
               have BK230 := n2_
               have BK231 := n3_
               have HB := n4_
               clear n0_ n1_ n2_ n3_ n4_
               clear hb hozc1
               refine hK.out _ _ ⟨v237, v240, v243, v246, v249, m11_, m12_, m13_, m15_, (by rw [ha.out]; exact putSel_upk 1 hb_ rfl rfl rfl), (by (with_reducible repeat (first | apply Kd.V_alloc | apply Kd.V_drewN | apply Kd.V_drew)); exact Kd.V_mono HO_231007.out (fun _ hk => by first | exact ⟨hk.1.1, ⟨hk.2, ⟨hk.1.2.1, hk.1.2.2⟩⟩⟩ | exact hk | exact hk.1 | exact hk.2 | (simp [hk]; done) | (simp at hk ⊢; simp [hk]; done))), blk_s, blk_s, bel_s, fun _ _ => (by (with_reducible repeat (first | apply Kd.R_alloc | apply Kd.R_drewN | apply Kd.R_drew)); exact Kd.R_mono HO238.out (fun _ hk => by first | exact hk.1 | exact hk | exact hk.1 | exact hk.2 | (simp [hk]; done) | (simp at hk ⊢; simp [hk]; done))), z_HO241, fun h0_ => absurd ((hoff 8 (by kernel_rfl)).symm.trans h0_) (by decide), fun h0_ => absurd ((hoff 9 (by kernel_rfl)).symm.trans h0_) (by decide), fun h0_ => absurd ((hoff 11 (by kernel_rfl)).symm.trans h0_) (by decide), fun h0_ => absurd ((hoff 11 (by kernel_rfl)).symm.trans h0_) (by decide), fun h0_ => absurd ((hoff 12 (by kernel_rfl)).symm.trans h0_) (by decide), fun h0_ => absurd ((hoff 13 (by kernel_rfl)).symm.trans h0_) (by decide), fun h0_ => absurd ((hoff 15 (by kernel_rfl)).symm.trans h0_) (by decide)⟩
             refine steps_cons ?_ ?_
             · rintro b a w' ⟨v237, v240, v243, v246, v249, m11_, m12_, m13_, m15_, ha, Q_HO_231007, Q_BK230, Q_BK231, Q_HB, Q_HO238, Q_HO241, Q_HO244, Q_HO247, Q_HO250, Q_X11_, Q_X12_, Q_X13_, Q_X15_⟩ hb_ hon hoff
               refine ⟨_, rfl, fun K hK => ?_⟩
               have e40 : a.tmps[40]? = some (.pointer (some ⟨gb230, 7, none⟩)) := by rw [ha]; exact (putSel_off rfl).trans rfl
               replace ha := Aside0.mk ha
               have HO_231007 := Aside0.mk Q_HO_231007
               have BK230 := Aside0.mk Q_BK230
               have BK231 := Aside0.mk Q_BK231
               have HB := Aside0.mk Q_HB
               have hc0_ : w'.cell? ⟨gb230, 0, none⟩ = some (.string a0_0) := (blk_cell BK230.out 0).trans rfl
               have hc1_ : w'.cell? ⟨gb230, 1, none⟩ = some (.string a0_1) := (blk_cell BK230.out 1).trans rfl
               have hc2_ : w'.cell? ⟨gb230, 2, none⟩ = some (.string a0_2) := (blk_cell BK230.out 2).trans rfl
               have hc3_ : w'.cell? ⟨gb230, 3, none⟩ = some (.string a0_3) := (blk_cell BK230.out 3).trans rfl
               have hc4_ : w'.cell? ⟨gb230, 4, none⟩ = some (.int .i64 a0_4) := (blk_cell BK230.out 4).trans rfl
               have hc5_ : w'.cell? ⟨gb230, 5, none⟩ = some (.int .i64 a0_5) := (blk_cell BK230.out 5).trans rfl
               have hc6_ : w'.cell? ⟨gb230, 6, none⟩ = some (.int .i64 a0_6) := (blk_cell BK230.out 6).trans rfl
               have hc7_ : w'.cell? ⟨gb230, 7, none⟩ = some (.slice A0_7 l0_7.length c0_7) := (blk_cell BK230.out 7).trans rfl
               refine value_ (w1 := w') (v := .slice A0_7 l0_7.length c0_7) (by rfl) rfl ?_ ?_
               · go_simp
                 (try simp only [i64_w])
                 try rfl
               refine hK.out _ _ ⟨v237, v240, v243, v246, v249, m11_, m12_, m13_, m15_, (by rw [ha.out]; exact putSel_upk 2 hb_ rfl rfl rfl), Q_HO_231007, Q_BK230, Q_BK231, Q_HB, Q_HO238, Q_HO241, fun h0_ => absurd ((hoff 8 (by kernel_rfl)).symm.trans h0_) (by decide), fun h0_ => absurd ((hoff 9 (by kernel_rfl)).symm.trans h0_) (by decide), fun h0_ => absurd ((hoff 11 (by kernel_rfl)).symm.trans h0_) (by decide), fun h0_ => absurd ((hoff 11 (by kernel_rfl)).symm.trans h0_) (by decide), fun h0_ => absurd ((hoff 12 (by kernel_rfl)).symm.trans h0_) (by decide), fun h0_ => absurd ((hoff 13 (by kernel_rfl)).symm.trans h0_) (by decide), fun h0_ => absurd ((hoff 15 (by kernel_rfl)).symm.trans h0_) (by decide)⟩
             refine steps_cons ?_ ?_
             · rintro b a w' ⟨v237, v240, v243, v246, v249, m11_, m12_, m13_, m15_, ha, Q_HO_231007, Q_BK230, Q_BK231, Q_HB, Q_HO238, Q_HO241, Q_HO244, Q_HO247, Q_HO250, Q_X11_, Q_X12_, Q_X13_, Q_X15_⟩ hb_ hon hoff
               refine ⟨_, rfl, fun K hK => ?_⟩
               have e42 : a.tmps[42]? = some (.pointer (some ⟨gb230, 3, none⟩)) := by rw [ha]; exact (putSel_off rfl).trans rfl
               replace ha := Aside0.mk ha
               have HO_231007 := Aside0.mk Q_HO_231007
               have BK230 := Aside0.mk Q_BK230
               have BK231 := Aside0.mk Q_BK231
               have HB := Aside0.mk Q_HB
               have hc0_ : w'.cell? ⟨gb230, 0, none⟩ = some (.string a0_0) := (blk_cell BK230.out 0).trans rfl
               have hc1_ : w'.cell? ⟨gb230, 1, none⟩ = some (.string a0_1) := (blk_cell BK230.out 1).trans rfl
               have hc2_ : w'.cell? ⟨gb230, 2, none⟩ = some (.string a0_2) := (blk_cell BK230.out 2).trans rfl
               have hc3_ : w'.cell? ⟨gb230, 3, none⟩ = some (.string a0_3) := (blk_cell BK230.out 3).trans rfl
               have hc4_ : w'.cell? ⟨gb230, 4, none⟩ = some (.int .i64 a0_4) := (blk_cell BK230.out 4).trans rfl
               have hc5_ : w'.cell? ⟨gb230, 5, none⟩ = some (.int .i64 a0_5) := (blk_cell BK230.out 5).trans rfl
               have hc6_ : w'.cell? ⟨gb230, 6, none⟩ = some (.int .i64 a0_6) := (blk_cell BK230.out 6).trans rfl
               have hc7_ : w'.cell? ⟨gb230, 7, none⟩ = some (.slice A0_7 l0_7.length c0_7) := (blk_cell BK230.out 7).trans rfl
               refine value_ (w1 := w') (v := .string a0_3) (by rfl) rfl ?_ ?_
               · go_simp
                 (try simp only [i64_w])
                 try rfl
               refine hK.out _ _ ⟨v237, v240, v243, v246, v249, m11_, m12_, m13_, m15_, (by rw [ha.out]; exact putSel_upk 3 hb_ rfl rfl rfl), Q_HO_231007, Q_BK230, Q_BK231, Q_HB, Q_HO238, fun h0_ _ => absurd ((hoff 7 (by kernel_rfl)).symm.trans h0_) (by decide), fun h0_ => absurd ((hoff 8 (by kernel_rfl)).symm.trans h0_) (by decide), fun h0_ => absurd ((hoff 9 (by kernel_rfl)).symm.trans h0_) (by decide), fun h0_ => absurd ((hoff 11 (by kernel_rfl)).symm.trans h0_) (by decide), fun h0_ => absurd ((hoff 11 (by kernel_rfl)).symm.trans h0_) (by decide), fun h0_ => absurd ((hoff 12 (by kernel_rfl)).symm.trans h0_) (by decide), fun h0_ => absurd ((hoff 13 (by kernel_rfl)).symm.trans h0_) (by decide), fun h0_ => absurd ((hoff 15 (by kernel_rfl)).symm.trans h0_) (by decide)⟩
             refine steps_cons ?_ ?_
             · rintro b a w' ⟨v237, v240, v243, v246, v249, m11_, m12_, m13_, m15_, ha, Q_HO_231007, Q_BK230, Q_BK231, Q_HB, Q_HO238, Q_HO241, Q_HO244, Q_HO247, Q_HO250, Q_X11_, Q_X12_, Q_X13_, Q_X15_⟩ hb_ hon hoff
               refine ⟨_, rfl, fun K hK => ?_⟩
               have e43 : a.tmps[43]? = some (.string a0_3) := by rw [ha]; exact putSel_on (e := (6, 43, .string a0_3)) 3 rfl rfl (hon 6 (by kernel_rfl)) rfl
               replace ha := Aside0.mk ha
               have HO_231007 := Aside0.mk Q_HO_231007
               have BK230 := Aside0.mk Q_BK230
               have BK231 := Aside0.mk Q_BK231
               have HB := Aside0.mk Q_HB
               refine Kd.R_lit_step Kd.string _ 9 ?hg (N := 44) ?hd (xs := ([a0_3] : List ByteArray)) (inner := [.string a0_3]) (ok := fun _ => True) (okp := fun _ => True) ?hr ?hp (fun _ hk => hk) trivial (Below.refl _ _) (Nat.le_refl _) (by simp) ?_; (case hd => rfl); (case hg => rfl); (case hr => first | (go_simp; done) | (go_simp; rfl)); (case hp => exact (Reps.one (show Kd.M Kd.string _ _ _ a0_3 [.string a0_3] from rfl) (Reps.none _ _)))
               intro v240 wzc2 hozc1 hb hg_ hnew_
               clear hg_ hnew_
               (first | rw [← Ny239.out] at hozc1 | (simp only [Int.reduceToNat] at hozc1; rw [← Ny239.out] at hozc1))
               have n0_ := Aside0.mk (Kd.V_elder' (by (with_reducible repeat (first | apply Kd.V_alloc | apply Kd.V_drewN | apply Kd.V_drew)); first | exact HO_231007.out | exact Kd.R_mono HO_231007.out (fun _ h_ => h_.1) | exact Kd.V_mono HO_231007.out (fun _ h_ => h_.1) | exact Kd.N_mono HO_231007.out (fun _ h_ => h_.1)) (Kd.R_base hozc1) hb)
               have n1_ := Aside0.mk (Kd.R_lower (Kd.R_newM (M := fun k_ => (w.heap.size ≤ k_)) hozc1 (below_size bel_s) (fun k_ h_ => h_)) (below_size bel_s))
               have n2_ := Aside0.mk (blk_below (g := gb230) (o := .cells #[.string a0_0, .string a0_1, .string a0_2, .string a0_3, .int .i64 a0_4, .int .i64 a0_5, .int .i64 a0_6, .slice A0_7 l0_7.length c0_7] 51 (0, 0)) blk_s hb)
               have n3_ := Aside0.mk (blk_below (g := gb231) (o := .cells #[.slice A1_0 l1_0.length c1_0, .slice A1_1 l1_1.length c1_1] 25 (0, 0)) blk_s hb)
               have n4_ := Aside0.mk (below_step bel_s hb)
               have z_HO238 := fun (h0_ : b 2 = true) (h1_ : b 8 = false) => (show Kd.R Kd.string 9 wzc2 w.heap.size (fun k_ => (w.heap.size ≤ k_)) v237 y236 from by first | exact (Kd.R_elder' (by (with_reducible repeat (first | apply Kd.R_alloc | apply Kd.R_drewN | apply Kd.R_drew)); exact (Q_HO238 h0_ h1_)) (Kd.R_base hozc1) hb) | exact Kd.R_mono (Kd.R_elder' (by (with_reducible repeat (first | apply Kd.R_alloc | apply Kd.R_drewN | apply Kd.R_drew)); exact (Q_HO238 h0_ h1_)) (Kd.R_base hozc1) hb) (fun _ h_ => by first | trivial | exact h_ | exact h_.1))
               clear HO_231007
               clear BK230
               clear BK231
               clear HB
               have HO_231007 := n0_
               have HO241 := n1_
               have BK230 := n2_
               have BK231 := n3_
               have HB := n4_
               clear n0_ n1_ n2_ n3_ n4_
               clear hb hozc1
               refine hK.out _ _ ⟨v237, v240, v243, v246, v249, m11_, m12_, m13_, m15_, (by rw [ha.out]; exact putSel_upk 4 hb_ rfl rfl rfl), (by (with_reducible repeat (first | apply Kd.V_alloc | apply Kd.V_drewN | apply Kd.V_drew)); exact Kd.V_mono HO_231007.out (fun _ hk => by first | exact ⟨hk.1.1, ⟨hk.2, ⟨hk.1.2.1, hk.1.2.2⟩⟩⟩ | exact hk | exact hk.1 | exact hk.2 | (simp [hk]; done) | (simp at hk ⊢; simp [hk]; done))), blk_s, blk_s, bel_s, z_HO238, fun _ _ => (by (with_reducible repeat (first | apply Kd.R_alloc | apply Kd.R_drewN | apply Kd.R_drew)); exact Kd.R_mono HO241.out (fun _ hk => by first | exact hk.1 | exact hk | exact hk.1 | exact hk.2 | (simp [hk]; done) | (simp at hk ⊢; simp [hk]; done))), fun h0_ => absurd ((hoff 8 (by kernel_rfl)).symm.trans h0_) (by decide), fun h0_ => absurd ((hoff 9 (by kernel_rfl)).symm.trans h0_) (by decide), fun h0_ => absurd ((hoff 11 (by kernel_rfl)).symm.trans h0_) (by decide), fun h0_ => absurd ((hoff 11 (by kernel_rfl)).symm.trans h0_) (by decide), fun h0_ => absurd ((hoff 12 (by kernel_rfl)).symm.trans h0_) (by decide), fun h0_ => absurd ((hoff 13 (by kernel_rfl)).symm.trans h0_) (by decide), fun h0_ => absurd ((hoff 15 (by kernel_rfl)).symm.trans h0_) (by decide)⟩
             refine steps_cons ?_ ?_
             · rintro b a w' ⟨v237, v240, v243, v246, v249, m11_, m12_, m13_, m15_, ha, Q_HO_231007, Q_BK230, Q_BK231, Q_HB, Q_HO238, Q_HO241, Q_HO244, Q_HO247, Q_HO250, Q_X11_, Q_X12_, Q_X13_, Q_X15_⟩ hb_ hon hoff
               refine ⟨_, rfl, fun K hK => ?_⟩
               have e39 : a.tmps[39]? = some (v237) := by rw [ha]; exact putSel_on (e := (2, 39, v237)) 1 rfl rfl (hon 2 (by kernel_rfl)) rfl
               have e41 : a.tmps[41]? = some (.slice A0_7 l0_7.length c0_7) := by rw [ha]; exact putSel_on (e := (4, 41, .slice A0_7 l0_7.length c0_7)) 2 rfl rfl (hon 4 (by kernel_rfl)) rfl
               have e44 : a.tmps[44]? = some (v240) := by rw [ha]; exact putSel_on (e := (7, 44, v240)) 4 rfl rfl (hon 7 (by kernel_rfl)) rfl
               replace ha := Aside0.mk ha
               have HO_231007 := Aside0.mk Q_HO_231007
               have BK230 := Aside0.mk Q_BK230
               have BK231 := Aside0.mk Q_BK231
               have HB := Aside0.mk Q_HB
               have HO238 := Aside0.mk (Q_HO238 (hon 2 (by kernel_rfl)) hb_)
               have HO241 := Aside0.mk (Q_HO241 (hon 7 (by kernel_rfl)) hb_)
               obtain ⟨Aozc1, cozc1, eozc1⟩ := Kd.R_slice HO238.out
               (first | subst eozc1 | (injection eozc1 with f1_ f2_ f3_; have f4_ := f1_.symm; have f5_ := f3_.symm; clear f1_ f2_ f3_; subst f4_; subst f5_))
               obtain ⟨Aozc2, cozc2, eozc2⟩ := Kd.R_slice HO241.out
               (first | subst eozc2 | (injection eozc2 with f1_ f2_ f3_; have f4_ := f1_.symm; have f5_ := f3_.symm; clear f1_ f2_ f3_; subst f4_; subst f5_))
               refine Kd.N_lit_step (Kd.slice 9 Kd.string) _ 27 ?hg (N' := 45) ?hd (xs := ([y236, l0_7, y239] : List (List ByteArray))) (inner := [.slice Aozc1 y236.length cozc1, .slice A0_7 l0_7.length c0_7, .slice Aozc2 y239.length cozc2]) (ok := (fun k_ => (P0_7_ k_ ∨ w.heap.size ≤ k_) ∧ k_ ≠ gb230 ∧ k_ ≠ gb231)) (okp := (fun k_ => (P0_7_ k_ ∨ w.heap.size ≤ k_) ∧ k_ ≠ gb230 ∧ k_ ≠ gb231)) ?hr ?hp (fun _ hk => hk) ((show ∀ k_, w'.heap.size ≤ k_ → (fun k_ => (P0_7_ k_ ∨ w.heap.size ≤ k_) ∧ k_ ≠ gb230 ∧ k_ ≠ gb231) k_ from fun k_ hk => ⟨(.inr (Nat.le_trans (below_size bel_s) hk)), Kd.freshB (g := gb230) (o := .cells #[.string a0_0, .string a0_1, .string a0_2, .string a0_3, .int .i64 a0_4, .int .i64 a0_5, .int .i64 a0_6, .slice A0_7 l0_7.length c0_7] 51 (0, 0)) blk_s k_ hk, Kd.freshB (g := gb231) (o := .cells #[.slice A1_0 l1_0.length c1_0, .slice A1_1 l1_1.length c1_1] 25 (0, 0)) blk_s k_ hk⟩) _ (Nat.le_refl _)) (Below.refl _ _) (Nat.le_refl _) (by simp) ?_; (case hd => rfl); (case hg => rfl); (case hr => first | (go_simp; done) | (go_simp; rfl)); (case hp => exact (Reps.one (show Kd.FK (Kd.slice 9 Kd.string) _ _ y236 [.slice Aozc1 y236.length cozc1] from (Kd.FK_slice_mk (Kd.R_reads' (Kd.R_mono (ok' := (fun k_ => (P0_7_ k_ ∨ w.heap.size ≤ k_) ∧ k_ ≠ gb230 ∧ k_ ≠ gb231)) (Kd.R_types (Kd.R_types (HO238.out) BK230.out (by decide)) BK231.out (by decide)) (fun k_ hk => by first | exact ⟨(.inr (hk.1.1.1)), ⟨hk.1.2, hk.2⟩⟩ | exact hk | exact hk.1 | exact hk.2 | (simp [hk]; done) | (simp at hk ⊢; simp [hk]; done)))).2.1 (Kd.R_F (Kd.R_mono (ok' := (fun k_ => (P0_7_ k_ ∨ w.heap.size ≤ k_) ∧ k_ ≠ gb230 ∧ k_ ≠ gb231)) (Kd.R_types (Kd.R_types (HO238.out) BK230.out (by decide)) BK231.out (by decide)) (fun k_ hk => by first | exact ⟨(.inr (hk.1.1.1)), ⟨hk.1.2, hk.2⟩⟩ | exact hk | exact hk.1 | exact hk.2 | (simp [hk]; done) | (simp at hk ⊢; simp [hk]; done)))))) (Reps.one (show Kd.FK (Kd.slice 9 Kd.string) _ _ l0_7 [.slice A0_7 l0_7.length c0_7] from (Kd.FK_slice_mk (Kd.V_reads' (Kd.V_mono (ok' := (fun k_ => (P0_7_ k_ ∨ w.heap.size ≤ k_) ∧ k_ ≠ gb230 ∧ k_ ≠ gb231)) (HO_231007.out) (fun k_ hk => by first | exact ⟨hk.1, ⟨hk.2.2.2.1, hk.2.2.2.2⟩⟩ | exact hk | exact hk.1 | exact hk.2 | (simp [hk]; done) | (simp at hk ⊢; simp [hk]; done)))).2.1 (Kd.V_F (Kd.V_mono (ok' := (fun k_ => (P0_7_ k_ ∨ w.heap.size ≤ k_) ∧ k_ ≠ gb230 ∧ k_ ≠ gb231)) (HO_231007.out) (fun k_ hk => by first | exact ⟨hk.1, ⟨hk.2.2.2.1, hk.2.2.2.2⟩⟩ | exact hk | exact hk.1 | exact hk.2 | (simp [hk]; done) | (simp at hk ⊢; simp [hk]; done)))))) (Reps.one (show Kd.FK (Kd.slice 9 Kd.string) _ _ y239 [.slice Aozc2 y239.length cozc2] from (Kd.FK_slice_mk (Kd.R_reads' (Kd.R_mono (ok' := (fun k_ => (P0_7_ k_ ∨ w.heap.size ≤ k_) ∧ k_ ≠ gb230 ∧ k_ ≠ gb231)) (Kd.R_types (Kd.R_types (HO241.out) BK230.out (by decide)) BK231.out (by decide)) (fun k_ hk => by first | exact ⟨(.inr (hk.1.1.1)), ⟨hk.1.2, hk.2⟩⟩ | exact hk | exact hk.1 | exact hk.2 | (simp [hk]; done) | (simp at hk ⊢; simp [hk]; done)))).2.1 (Kd.R_F (Kd.R_mono (ok' := (fun k_ => (P0_7_ k_ ∨ w.heap.size ≤ k_) ∧ k_ ≠ gb230 ∧ k_ ≠ gb231)) (Kd.R_types (Kd.R_types (HO241.out) BK230.out (by decide)) BK231.out (by decide)) (fun k_ hk => by first | exact ⟨(.inr (hk.1.1.1)), ⟨hk.1.2, hk.2⟩⟩ | exact hk | exact hk.1 | exact hk.2 | (simp [hk]; done) | (simp at hk ⊢; simp [hk]; done)))))) (Reps.none _ _)))))
               intro v243 wzc3 hozc2 hb hg_ hnew_
               clear hg_ hnew_
               (first | rw [← Ny242.out] at hozc2 | (simp only [Int.reduceToNat] at hozc2; rw [← Ny242.out] at hozc2))
               have n0_ := Aside0.mk (Kd.V_elder' (by (with_reducible repeat (first | apply Kd.V_alloc | apply Kd.V_drewN | apply Kd.V_drew)); first | exact HO_231007.out | exact Kd.R_mono HO_231007.out (fun _ h_ => h_.1) | exact Kd.V_mono HO_231007.out (fun _ h_ => h_.1) | exact Kd.N_mono HO_231007.out (fun _ h_ => h_.1)) (Kd.N_base hozc2) hb)
               have n1_ := Aside0.mk (Kd.N_lower hozc2 (below_size bel_s))
               have n2_ := Aside0.mk (blk_below (g := gb230) (o := .cells #[.string a0_0, .string a0_1, .string a0_2, .string a0_3, .int .i64 a0_4, .int .i64 a0_5, .int .i64 a0_6, .slice A0_7 l0_7.length c0_7] 51 (0, 0)) blk_s hb)
               have n3_ := Aside0.mk (blk_below (g := gb231) (o := .cells #[.slice A1_0 l1_0.length c1_0, .slice A1_1 l1_1.length c1_1] 25 (0, 0)) blk_s hb)
               have n4_ := Aside0.mk (below_step bel_s hb)
               clear HO_231007
               clear BK230
               clear BK231
               clear HB
               clear HO238
               clear HO241
               have HO_231007 := n0_
               have HO244 := n1_
               have BK230 := n2_
               have BK231 := n3_
               have HB := n4_
               clear n0_ n1_ n2_ n3_ n4_
               clear hb hozc2
               refine hK.out _ _ ⟨.slice Aozc1 y236.length cozc1, .slice Aozc2 y239.length cozc2, v243, v246, v249, m11_, m12_, m13_, m15_, (by rw [ha.out]; exact putSel_upk 5 hb_ rfl rfl rfl), (by (with_reducible repeat (first | apply Kd.V_alloc | apply Kd.V_drewN | apply Kd.V_drew)); exact Kd.V_mono HO_231007.out (fun _ hk => by first | exact ⟨hk.1.1, ⟨hk.2, ⟨hk.1.2.2.2.1, hk.1.2.2.2.2⟩⟩⟩ | exact hk | exact hk.1 | exact hk.2 | (simp [hk]; done) | (simp at hk ⊢; simp [hk]; done))), blk_s, blk_s, bel_s, fun _ h1_ => absurd ((up_self b 8).symm.trans h1_) (by decide), fun _ h1_ => absurd ((up_self b 8).symm.trans h1_) (by decide), fun _ => (by (with_reducible repeat (first | apply Kd.N_alloc | apply Kd.N_drewN | apply Kd.N_drew)); first | exact HO244.out | exact Kd.R_mono HO244.out (fun _ h_ => h_.1) | exact Kd.V_mono HO244.out (fun _ h_ => h_.1) | exact Kd.N_mono HO244.out (fun _ h_ => h_.1)), fun h0_ => absurd ((hoff 9 (by kernel_rfl)).symm.trans h0_) (by decide), fun h0_ => absurd ((hoff 11 (by kernel_rfl)).symm.trans h0_) (by decide), fun h0_ => absurd ((hoff 11 (by kernel_rfl)).symm.trans h0_) (by decide), fun h0_ => absurd ((hoff 12 (by kernel_rfl)).symm.trans h0_) (by decide), fun h0_ => absurd ((hoff 13 (by kernel_rfl)).symm.trans h0_) (by decide), fun h0_ => absurd ((hoff 15 (by kernel_rfl)).symm.trans h0_) (by decide)⟩
             refine steps_cons ?_ ?_
             · rintro b a w' ⟨v237, v240, v243, v246, v249, m11_, m12_, m13_, m15_, ha, Q_HO_231007, Q_BK230, Q_BK231, Q_HB, Q_HO238, Q_HO241, Q_HO244, Q_HO247, Q_HO250, Q_X11_, Q_X12_, Q_X13_, Q_X15_⟩ hb_ hon hoff
               refine ⟨_, rfl, fun K hK => ?_⟩
               have e45 : a.tmps[45]? = some (v243) := by rw [ha]; exact putSel_on (e := (8, 45, v243)) 5 rfl rfl (hon 8 (by kernel_rfl)) rfl
               replace ha := Aside0.mk ha
               have HO_231007 := Aside0.mk Q_HO_231007
               have BK230 := Aside0.mk Q_BK230
               have BK231 := Aside0.mk Q_BK231
               have HB := Aside0.mk Q_HB
               have HO244 := Aside0.mk (Q_HO244 (hon 8 (by kernel_rfl)))
               obtain ⟨Aozc3, cozc3, eozc3⟩ := Kd.N_slice HO244.out
               (first | subst eozc3 | (injection eozc3 with f1_ f2_ f3_; have f4_ := f1_.symm; have f5_ := f3_.symm; clear f1_ f2_ f3_; subst f4_; subst f5_))
               refine goes_ Try.func66 (by kernel_rfl) rfl #[.slice Aozc3 y242.length cozc3] (by rfl) rfl rfl (by first | (simp only [List.map_toArray, List.map_cons, List.map_nil, Act.eval, Array.getD_eq_getD_getElem?, Option.getD_some, e45]; done) | (simp only [List.map_toArray, List.map_cons, List.map_nil, Act.eval, Array.getD_eq_getD_getElem?, Option.getD_some, e45]; rfl)) ?_
               with_reducible refine (slices_Concat_string_string.calls kj6 _ _ y242 t245 _ ?side1 ?side2 A30.out).mono ?_
               (case side1 => repeat (first | exact (Kd.N_reads' HO244.out).2.2 | (with_reducible refine Kd.C_alloc ?_ _) | (with_reducible refine Kd.C_drewN ?_ _) | (with_reducible refine Kd.C_drew ?_)))
               (case side2 => exact (Kd.N_reads' HO244.out).2.1)
               rintro e wzc4 ⟨v246, rfl, hozc3, hb⟩
               refine ⟨_, rfl, ?_⟩
               have n0_ := Aside0.mk (Kd.V_elder' (by (with_reducible repeat (first | apply Kd.V_alloc | apply Kd.V_drewN | apply Kd.V_drew)); first | exact HO_231007.out | exact Kd.R_mono HO_231007.out (fun _ h_ => h_.1) | exact Kd.V_mono HO_231007.out (fun _ h_ => h_.1) | exact Kd.N_mono HO_231007.out (fun _ h_ => h_.1)) (Kd.R_base hozc3) hb)
               have n1_ := Aside0.mk (Kd.N_elder' (by (with_reducible repeat (first | apply Kd.N_alloc | apply Kd.N_drewN | apply Kd.N_drew)); first | exact HO244.out | exact Kd.R_mono HO244.out (fun _ h_ => h_.1) | exact Kd.V_mono HO244.out (fun _ h_ => h_.1) | exact Kd.N_mono HO244.out (fun _ h_ => h_.1)) (Kd.R_base hozc3) hb)
               have n2_ := Aside0.mk (Kd.R_lower (Kd.R_newM (M := fun k_ => (w.heap.size ≤ k_)) hozc3 (below_size bel_s) (fun k_ h_ => h_)) (below_size bel_s))
               have n3_ := Aside0.mk (blk_below (g := gb230) (o := .cells #[.string a0_0, .string a0_1, .string a0_2, .string a0_3, .int .i64 a0_4, .int .i64 a0_5, .int .i64 a0_6, .slice A0_7 l0_7.length c0_7] 51 (0, 0)) blk_s hb)
               have n4_ := Aside0.mk (blk_below (g := gb231) (o := .cells #[.slice A1_0 l1_0.length c1_0, .slice A1_1 l1_1.length c1_1] 25 (0, 0)) blk_s hb)
               have n5_ := Aside0.mk (below_step bel_s hb)
               clear HO_231007
               clear HO244
               clear BK230
               clear BK231
               clear HB
               have HO_231007 := n0_
               have HO244 := n1_
               have HO247 := n2_
               have BK230 := n3_
               have BK231 := n4_
               have HB := n5_
               clear n0_ n1_ n2_ n3_ n4_ n5_
               (try clear hb)
               (try clear hb2)
               (try clear hk)
               (try clear hi)
               (try clear hozc3)
               refine hK.out _ _ ⟨v237, v240, .slice Aozc3 y242.length cozc3, v246, v249, m11_, m12_, m13_, m15_, (by rw [ha.out]; exact putSel_upk 6 hb_ rfl rfl rfl), (by (with_reducible repeat (first | apply Kd.V_alloc | apply Kd.V_drewN | apply Kd.V_drew)); exact Kd.V_mono HO_231007.out (fun _ hk => by first | exact ⟨hk.1.1, ⟨hk.1.2.1, ⟨hk.2, ⟨hk.1.2.2.1, hk.1.2.2.2⟩⟩⟩⟩ | exact hk | exact hk.1 | exact hk.2 | (simp [hk]; done) | (simp at hk ⊢; simp [hk]; done))), blk_s, blk_s, bel_s, fun _ h1_ => absurd ((hon 8 (by kernel_rfl)).symm.trans h1_) (by decide), fun _ h1_ => absurd ((hon 8 (by kernel_rfl)).symm.trans h1_) (by decide), fun _ => (by (with_reducible repeat (first | apply Kd.N_alloc | apply Kd.N_drewN | apply Kd.N_drew)); exact Kd.N_mono HO244.out (fun _ hk => by first | exact ⟨hk.1.1, ⟨hk.2, ⟨hk.1.2.1, hk.1.2.2⟩⟩⟩ | exact hk | exact hk.1 | exact hk.2 | (simp [hk]; done) | (simp at hk ⊢; simp [hk]; done))), fun _ => (by (with_reducible repeat (first | apply Kd.R_alloc | apply Kd.R_drewN | apply Kd.R_drew)); exact Kd.R_mono HO247.out (fun _ hk => by first | exact hk.1 | exact hk | exact hk.1 | exact hk.2 | (simp [hk]; done) | (simp at hk ⊢; simp [hk]; done))), fun h0_ => absurd ((hoff 11 (by kernel_rfl)).symm.trans h0_) (by decide), fun h0_ => absurd ((hoff 11 (by kernel_rfl)).symm.trans h0_) (by decide), fun h0_ => absurd ((hoff 12 (by kernel_rfl)).symm.trans h0_) (by decide), fun h0_ => absurd ((hoff 13 (by kernel_rfl)).symm.trans h0_) (by decide), fun h0_ => absurd ((hoff 15 (by kernel_rfl)).symm.trans h0_) (by decide)⟩
             refine steps_cons ?_ ?_
             · rintro b a w' ⟨v237, v240, v243, v246, v249, m11_, m12_, m13_, m15_, ha, Q_HO_231007, Q_BK230, Q_BK231, Q_HB, Q_HO238, Q_HO241, Q_HO244, Q_HO247, Q_HO250, Q_X11_, Q_X12_, Q_X13_, Q_X15_⟩ hb_ hon hoff
               refine ⟨_, rfl, fun K hK => ?_⟩
               have e3 : a.tmps[3]? = some (.pointer (some ⟨gb231, 0, none⟩)) := by rw [ha]; exact (putSel_off rfl).trans rfl
               replace ha := Aside0.mk ha
               have HO_231007 := Aside0.mk Q_HO_231007
               have BK230 := Aside0.mk Q_BK230
               have BK231 := Aside0.mk Q_BK231
               have HB := Aside0.mk Q_HB
               have hc0_ : w'.cell? ⟨gb231, 0, none⟩ = some (.slice A1_0 l1_0.length c1_0) := (blk_cell BK231.out 0).trans rfl
               have hc1_ : w'.cell? ⟨gb231, 1, none⟩ = some (.slice A1_1 l1_1.length c1_1) := (blk_cell BK231.out 1).trans rfl
               refine value_ (w1 := w') (v := .agg #[.slice A1_0 l1_0.length c1_0, .slice A1_1 l1_1.length c1_1]) (by rfl) rfl ?_ ?_
               · go_simp
                 (try simp only [i64_w])
                 try rfl
               refine hK.out _ _ ⟨v237, v240, v243, v246, v249, m11_, m12_, m13_, m15_, (by rw [ha.out]; exact putSel_upk 7 hb_ rfl rfl rfl), Q_HO_231007, Q_BK230, Q_BK231, Q_HB, Q_HO238, Q_HO241, Q_HO244, Q_HO247, fun h0_ => absurd ((hoff 11 (by kernel_rfl)).symm.trans h0_) (by decide), fun h0_ => absurd ((hoff 11 (by kernel_rfl)).symm.trans h0_) (by decide), fun h0_ => absurd ((hoff 12 (by kernel_rfl)).symm.trans h0_) (by decide), fun h0_ => absurd ((hoff 13 (by kernel_rfl)).symm.trans h0_) (by decide), fun h0_ => absurd ((hoff 15 (by kernel_rfl)).symm.trans h0_) (by decide)⟩
             refine steps_cons ?_ ?_
             · rintro b a w' ⟨v237, v240, v243, v246, v249, m11_, m12_, m13_, m15_, ha, Q_HO_231007, Q_BK230, Q_BK231, Q_HB, Q_HO238, Q_HO241, Q_HO244, Q_HO247, Q_HO250, Q_X11_, Q_X12_, Q_X13_, Q_X15_⟩ hb_ hon hoff
               refine ⟨_, rfl, fun K hK => ?_⟩
               have e46 : a.tmps[46]? = some (v246) := by rw [ha]; exact putSel_on (e := (9, 46, v246)) 6 rfl rfl (hon 9 (by kernel_rfl)) rfl
               have e47 : a.tmps[47]? = some (.agg #[.slice A1_0 l1_0.length c1_0, .slice A1_1 l1_1.length c1_1]) := by rw [ha]; exact putSel_on (e := (10, 47, .agg #[.slice A1_0 l1_0.length c1_0, .slice A1_1 l1_1.length c1_1])) 7 rfl rfl (hon 10 (by kernel_rfl)) rfl
               replace ha := Aside0.mk ha
               have HO_231007 := Aside0.mk Q_HO_231007
               have BK230 := Aside0.mk Q_BK230
               have BK231 := Aside0.mk Q_BK231
               have HB := Aside0.mk Q_HB
               have HO244 := Aside0.mk (Q_HO244 (hon 8 (by kernel_rfl)))
               have HO247 := Aside0.mk (Q_HO247 (hon 9 (by kernel_rfl)))
               obtain ⟨Aozc4, cozc4, eozc4⟩ := Kd.R_slice HO247.out
               (first | subst eozc4 | (injection eozc4 with f1_ f2_ f3_; have f4_ := f1_.symm; have f5_ := f3_.symm; clear f1_ f2_ f3_; subst f4_; subst f5_))
               refine goes_ Try.func65 (by kernel_rfl) rfl #[.slice Aozc4 t245.length cozc4, .agg #[.slice A1_0 l1_0.length c1_0, .slice A1_1 l1_1.length c1_1]] (by rfl) rfl rfl (by first | (simp only [List.map_toArray, List.map_cons, List.map_nil, Act.eval, Array.getD_eq_getD_getElem?, Option.getD_some, e46, e47]; done) | (simp only [List.map_toArray, List.map_cons, List.map_nil, Act.eval, Array.getD_eq_getD_getElem?, Option.getD_some, e46, e47]; rfl)) ?_
               with_reducible refine (route_names.calls kj6 _ _ t245 _ _ l1_0 _ _ l1_1 t248 t251 _ ?side1 ?side2 ?side3 ?side4 ?side5 ?side6 A31.out).mono ?_
               (case side1 => repeat (first | exact (Kd.R_reads' HO247.out).2.2 | (with_reducible refine Kd.C_alloc ?_ _) | (with_reducible refine Kd.C_drewN ?_ _) | (with_reducible refine Kd.C_drew ?_)))
               (case side2 => exact (Kd.R_reads' HO247.out).2.1)
               (case side3 => repeat (first | exact (Kd.C_below HR1_0.out HB.out) | (with_reducible refine Kd.C_alloc ?_ _) | (with_reducible refine Kd.C_drewN ?_ _) | (with_reducible refine Kd.C_drew ?_)))
               (case side4 => exact HC1_0.out)
               (case side5 => repeat (first | exact (Kd.C_below HR1_1.out HB.out) | (with_reducible refine Kd.C_alloc ?_ _) | (with_reducible refine Kd.C_drewN ?_ _) | (with_reducible refine Kd.C_drew ?_)))
               (case side6 => exact HC1_1.out)
               rintro e wzc5 ⟨v249, rfl, hozc3, hb⟩
               refine ⟨_, rfl, ?_⟩
               have n0_ := Aside0.mk (Kd.V_elder' (by (with_reducible repeat (first | apply Kd.V_alloc | apply Kd.V_drewN | apply Kd.V_drew)); first | exact HO_231007.out | exact Kd.R_mono HO_231007.out (fun _ h_ => h_.1) | exact Kd.V_mono HO_231007.out (fun _ h_ => h_.1) | exact Kd.N_mono HO_231007.out (fun _ h_ => h_.1)) (Kd.R_base hozc3) hb)
               have n1_ := Aside0.mk (Kd.N_elder' (by (with_reducible repeat (first | apply Kd.N_alloc | apply Kd.N_drewN | apply Kd.N_drew)); first | exact HO244.out | exact Kd.R_mono HO244.out (fun _ h_ => h_.1) | exact Kd.V_mono HO244.out (fun _ h_ => h_.1) | exact Kd.N_mono HO244.out (fun _ h_ => h_.1)) (Kd.R_base hozc3) hb)
               have n2_ := Aside0.mk (Kd.R_elder' (by (with_reducible repeat (first | apply Kd.R_alloc | apply Kd.R_drewN | apply Kd.R_drew)); first | exact HO247.out | exact Kd.R_mono HO247.out (fun _ h_ => h_.1) | exact Kd.V_mono HO247.out (fun _ h_ => h_.1) | exact Kd.N_mono HO247.out (fun _ h_ => h_.1)) (Kd.R_base hozc3) hb)
               have n3_ := Aside0.mk (Kd.R_lower (Kd.R_new' (Kd.R_newM (M := fun k_ => (w.heap.size ≤ k_)) hozc3 (below_size bel_s) (fun k_ h_ => h_)) (Kd.R_lt (by (with_reducible repeat (first | apply Kd.R_alloc | apply Kd.R_drewN | apply Kd.R_drew)); first | exact HO247.out | exact Kd.R_mono HO247.out (fun _ h_ => h_.1) | exact Kd.V_mono HO247.out (fun _ h_ => h_.1) | exact Kd.N_mono HO247.out (fun _ h_ => h_.1)))) (below_size bel_s))
               have n4_ := Aside0.mk (blk_below (g := gb230) (o := .cells #[.string a0_0, .string a0_1, .string a0_2, .string a0_3, .int .i64 a0_4, .int .i64 a0_5, .int .i64 a0_6, .slice A0_7 l0_7.length c0_7] 51 (0, 0)) blk_s hb)
               have n5_ := Aside0.mk (blk_below (g := gb231) (o := .cells #[.slice A1_0 l1_0.length c1_0, .slice A1_1 l1_1.length c1_1] 25 (0, 0)) blk_s hb)
               have n6_ := Aside0.mk (below_step bel_s hb)
               clear HO_231007
               clear HO244
               clear HO247
               clear BK230
               clear BK231
               clear HB
               have HO_231007 := n0_
               have HO244 := n1_
               have HO247 := n2_
               have HO250 := n3_
               have BK230 := n4_
               have BK231 := n5_
               have HB := n6_
               clear n0_ n1_ n2_ n3_ n4_ n5_ n6_
               (try clear hb)
               (try clear hb2)
               (try clear hk)
               (try clear hi)
               (try clear hozc3)
               refine hK.out _ _ ⟨v237, v240, v243, .slice Aozc4 t245.length cozc4, v249, (.tuple #[v249, .int .i64 t251]), m12_, m13_, m15_, (by rw [ha.out]; exact putSel_upk 8 hb_ rfl rfl rfl), (by (with_reducible repeat (first | apply Kd.V_alloc | apply Kd.V_drewN | apply Kd.V_drew)); exact Kd.V_mono HO_231007.out (fun _ hk => by first | exact ⟨hk.1.1, ⟨hk.1.2.1, ⟨hk.1.2.2.1, ⟨hk.2, ⟨hk.1.2.2.2.1, hk.1.2.2.2.2⟩⟩⟩⟩⟩ | exact hk | exact hk.1 | exact hk.2 | (simp [hk]; done) | (simp at hk ⊢; simp [hk]; done))), blk_s, blk_s, bel_s, fun _ h1_ => absurd ((hon 8 (by kernel_rfl)).symm.trans h1_) (by decide), fun _ h1_ => absurd ((hon 8 (by kernel_rfl)).symm.trans h1_) (by decide), fun _ => (by (with_reducible repeat (first | apply Kd.N_alloc | apply Kd.N_drewN | apply Kd.N_drew)); exact Kd.N_mono HO244.out (fun _ hk => by first | exact ⟨hk.1.1, ⟨hk.1.2.1, ⟨hk.2, ⟨hk.1.2.2.1, hk.1.2.2.2⟩⟩⟩⟩ | exact hk | exact hk.1 | exact hk.2 | (simp [hk]; done) | (simp at hk ⊢; simp [hk]; done))), fun _ => (by (with_reducible repeat (first | apply Kd.R_alloc | apply Kd.R_drewN | apply Kd.R_drew)); first | exact HO247.out | exact Kd.R_mono HO247.out (fun _ h_ => h_.1) | exact Kd.V_mono HO247.out (fun _ h_ => h_.1) | exact Kd.N_mono HO247.out (fun _ h_ => h_.1)), fun _ => (by (with_reducible repeat (first | apply Kd.R_alloc | apply Kd.R_drewN | apply Kd.R_drew)); exact Kd.R_mono HO250.out (fun _ hk => by first | exact ⟨hk.1.1, hk.2⟩ | exact hk | exact hk.1 | exact hk.2 | (simp [hk]; done) | (simp at hk ⊢; simp [hk]; done))), fun _ => rfl, fun h0_ => absurd ((hoff 12 (by kernel_rfl)).symm.trans h0_) (by decide), fun h0_ => absurd ((hoff 13 (by kernel_rfl)).symm.trans h0_) (by decide), fun h0_ => absurd ((hoff 15 (by kernel_rfl)).symm.trans h0_) (by decide)⟩
             refine steps_cons ?_ ?_
             · rintro b a w' ⟨v237, v240, v243, v246, v249, m11_, m12_, m13_, m15_, ha, Q_HO_231007, Q_BK230, Q_BK231, Q_HB, Q_HO238, Q_HO241, Q_HO244, Q_HO247, Q_HO250, Q_X11_, Q_X12_, Q_X13_, Q_X15_⟩ hb_ hon hoff
               refine ⟨_, rfl, fun K hK => ?_⟩
               have e48 : a.tmps[48]? = some (m11_) := by rw [ha]; exact putSel_on (e := (11, 48, m11_)) 8 rfl rfl (hon 11 (by kernel_rfl)) rfl
               rw [Q_X11_ (hon 11 (by kernel_rfl))] at e48
               replace ha := Aside0.mk ha
               have HO_231007 := Aside0.mk Q_HO_231007
               have BK230 := Aside0.mk Q_BK230
               have BK231 := Aside0.mk Q_BK231
               have HB := Aside0.mk Q_HB
               have HO244 := Aside0.mk (Q_HO244 (hon 8 (by kernel_rfl)))
               have HO247 := Aside0.mk (Q_HO247 (hon 9 (by kernel_rfl)))
               have HO250 := Aside0.mk (Q_HO250 (hon 11 (by kernel_rfl)))
               refine value_ (w1 := w') (v := .tuple #[v249, .int .i64 t251]) (by rfl) rfl ?_ ?_
               · go_simp
                 (try simp only [i64_w])
                 try rfl
               refine hK.out _ _ ⟨v237, v240, v243, v246, v249, m11_, (.tuple #[v249, .int .i64 t251]), m13_, m15_, (by rw [ha.out]; exact putSel_upk 9 hb_ rfl rfl rfl), Q_HO_231007, Q_BK230, Q_BK231, Q_HB, fun _ h1_ => absurd ((hon 8 (by kernel_rfl)).symm.trans h1_) (by decide), fun _ h1_ => absurd ((hon 8 (by kernel_rfl)).symm.trans h1_) (by decide), Q_HO244, Q_HO247, Q_HO250, Q_X11_, fun _ => rfl, fun h0_ => absurd ((hoff 13 (by kernel_rfl)).symm.trans h0_) (by decide), fun h0_ => absurd ((hoff 15 (by kernel_rfl)).symm.trans h0_) (by decide)⟩
             refine steps_cons ?_ ?_
             · rintro b a w' ⟨v237, v240, v243, v246, v249, m11_, m12_, m13_, m15_, ha, Q_HO_231007, Q_BK230, Q_BK231, Q_HB, Q_HO238, Q_HO241, Q_HO244, Q_HO247, Q_HO250, Q_X11_, Q_X12_, Q_X13_, Q_X15_⟩ hb_ hon hoff
               refine ⟨_, rfl, fun K hK => ?_⟩
               have e36 : a.tmps[36]? = some (m12_) := by rw [ha]; exact putSel_on (e := (12, 36, m12_)) 9 rfl rfl (hon 12 (by kernel_rfl)) rfl
               rw [Q_X12_ (hon 12 (by kernel_rfl))] at e36
               replace ha := Aside0.mk ha
               have HO_231007 := Aside0.mk Q_HO_231007
               have BK230 := Aside0.mk Q_BK230
               have BK231 := Aside0.mk Q_BK231
               have HB := Aside0.mk Q_HB
               have HO244 := Aside0.mk (Q_HO244 (hon 8 (by kernel_rfl)))
               have HO247 := Aside0.mk (Q_HO247 (hon 9 (by kernel_rfl)))
               have HO250 := Aside0.mk (Q_HO250 (hon 11 (by kernel_rfl)))
               obtain ⟨Aozc5, cozc5, eo_⟩ := Kd.R_slice HO250.out
               subst eo_
               refine value_ (w1 := w') (v := .slice Aozc5 t248.length cozc5) (by rfl) rfl ?_ ?_
               · go_simp
                 (try simp only [i64_w])
                 try rfl
               refine hK.out _ _ ⟨v237, v240, v243, v246, .slice Aozc5 t248.length cozc5, m11_, m12_, (.slice Aozc5 t248.length cozc5), m15_, (by rw [ha.out]; exact putSel_upk 10 hb_ rfl rfl rfl), Q_HO_231007, Q_BK230, Q_BK231, Q_HB, fun _ h1_ => absurd ((hon 8 (by kernel_rfl)).symm.trans h1_) (by decide), fun _ h1_ => absurd ((hon 8 (by kernel_rfl)).symm.trans h1_) (by decide), Q_HO244, Q_HO247, Q_HO250, Q_X11_, Q_X12_, fun _ => rfl, fun h0_ => absurd ((hoff 15 (by kernel_rfl)).symm.trans h0_) (by decide)⟩
             refine steps_cons ?_ ?_
             · rintro b a w' ⟨v237, v240, v243, v246, v249, m11_, m12_, m13_, m15_, ha, Q_HO_231007, Q_BK230, Q_BK231, Q_HB, Q_HO238, Q_HO241, Q_HO244, Q_HO247, Q_HO250, Q_X11_, Q_X12_, Q_X13_, Q_X15_⟩ hb_ hon hoff
               refine ⟨_, rfl, fun K hK => ?_⟩
               have e36 : a.tmps[36]? = some (m12_) := by rw [ha]; exact putSel_on (e := (12, 36, m12_)) 9 rfl rfl (hon 12 (by kernel_rfl)) rfl
               rw [Q_X12_ (hon 12 (by kernel_rfl))] at e36
               replace ha := Aside0.mk ha
               have HO_231007 := Aside0.mk Q_HO_231007
               have BK230 := Aside0.mk Q_BK230
               have BK231 := Aside0.mk Q_BK231
               have HB := Aside0.mk Q_HB
               have HO244 := Aside0.mk (Q_HO244 (hon 8 (by kernel_rfl)))
               have HO247 := Aside0.mk (Q_HO247 (hon 9 (by kernel_rfl)))
               have HO250 := Aside0.mk (Q_HO250 (hon 11 (by kernel_rfl)))
               obtain ⟨Aozc6, cozc6, eo_⟩ := Kd.R_slice HO250.out
               subst eo_
               refine value_ (w1 := w') (v := .int .i64 t251) (by rfl) rfl ?_ ?_
               · go_simp
                 (try simp only [i64_w])
                 try rfl
               refine hK.out _ _ ⟨v237, v240, v243, v246, .slice Aozc6 t248.length cozc6, m11_, m12_, m13_, m15_, (by rw [ha.out]; exact putSel_upk 11 hb_ rfl rfl rfl), Q_HO_231007, Q_BK230, Q_BK231, Q_HB, fun _ h1_ => absurd ((hon 8 (by kernel_rfl)).symm.trans h1_) (by decide), fun _ h1_ => absurd ((hon 8 (by kernel_rfl)).symm.trans h1_) (by decide), Q_HO244, Q_HO247, Q_HO250, Q_X11_, Q_X12_, Q_X13_, Q_X15_⟩
             refine steps_cons ?_ ?_
             · rintro b a w' ⟨v237, v240, v243, v246, v249, m11_, m12_, m13_, m15_, ha, Q_HO_231007, Q_BK230, Q_BK231, Q_HB, Q_HO238, Q_HO241, Q_HO244, Q_HO247, Q_HO250, Q_X11_, Q_X12_, Q_X13_, Q_X15_⟩ hb_ hon hoff
               refine ⟨_, rfl, fun K hK => ?_⟩
               have e49 : a.tmps[49]? = some (m13_) := by rw [ha]; exact putSel_on (e := (13, 49, m13_)) 10 rfl rfl (hon 13 (by kernel_rfl)) rfl
               rw [Q_X13_ (hon 13 (by kernel_rfl))] at e49
               replace ha := Aside0.mk ha
               have HO_231007 := Aside0.mk Q_HO_231007
               have BK230 := Aside0.mk Q_BK230
               have BK231 := Aside0.mk Q_BK231
               have HB := Aside0.mk Q_HB
               have HO244 := Aside0.mk (Q_HO244 (hon 8 (by kernel_rfl)))
               have HO247 := Aside0.mk (Q_HO247 (hon 9 (by kernel_rfl)))
               have HO250 := Aside0.mk (Q_HO250 (hon 11 (by kernel_rfl)))
               refine value_ (w1 := w') (v := v249) (by rfl) rfl ?_ ?_
               · go_simp
                 (try simp only [i64_w])
                 try rfl
               refine hK.out _ _ ⟨v237, v240, v243, v246, v249, m11_, m12_, m13_, (v249), (by rw [ha.out]; exact putSel_upk 12 hb_ rfl rfl rfl), Q_HO_231007, Q_BK230, Q_BK231, Q_HB, fun _ h1_ => absurd ((hon 8 (by kernel_rfl)).symm.trans h1_) (by decide), fun _ h1_ => absurd ((hon 8 (by kernel_rfl)).symm.trans h1_) (by decide), Q_HO244, Q_HO247, Q_HO250, Q_X11_, Q_X12_, Q_X13_, fun _ => rfl⟩
             refine steps_cons ?_ ?_
             · rintro b a w' ⟨v237, v240, v243, v246, v249, m11_, m12_, m13_, m15_, ha, Q_HO_231007, Q_BK230, Q_BK231, Q_HB, Q_HO238, Q_HO241, Q_HO244, Q_HO247, Q_HO250, Q_X11_, Q_X12_, Q_X13_, Q_X15_⟩ hb_ hon hoff
               refine ⟨_, rfl, fun K hK => ?_⟩
               have e50 : a.tmps[50]? = some (.int .i64 t251) := by rw [ha]; exact putSel_on (e := (14, 50, .int .i64 t251)) 11 rfl rfl (hon 14 (by kernel_rfl)) rfl
               replace ha := Aside0.mk ha
               have HO_231007 := Aside0.mk Q_HO_231007
               have BK230 := Aside0.mk Q_BK230
               have BK231 := Aside0.mk Q_BK231
               have HB := Aside0.mk Q_HB
               have HO244 := Aside0.mk (Q_HO244 (hon 8 (by kernel_rfl)))
               have HO247 := Aside0.mk (Q_HO247 (hon 9 (by kernel_rfl)))
               have HO250 := Aside0.mk (Q_HO250 (hon 11 (by kernel_rfl)))
               refine value_ (w1 := w') (v := .int .i64 t251) (by rfl) rfl ?_ ?_
               · go_simp
                 (try simp only [i64_w])
                 try rfl
               refine hK.out _ _ ⟨v237, v240, v243, v246, v249, m11_, m12_, m13_, m15_, (by rw [ha.out]; exact putSel_upk 13 hb_ rfl rfl rfl), Q_HO_231007, Q_BK230, Q_BK231, Q_HB, fun _ h1_ => absurd ((hon 8 (by kernel_rfl)).symm.trans h1_) (by decide), fun _ h1_ => absurd ((hon 8 (by kernel_rfl)).symm.trans h1_) (by decide), Q_HO244, Q_HO247, Q_HO250, Q_X11_, Q_X12_, Q_X13_, Q_X15_⟩
             exact steps_nil
           rintro b a wzc5 hall ⟨v237, v240, v243, v246, v249, m11_, m12_, m13_, m15_, ha, Q_HO_231007, Q_BK230, Q_BK231, Q_HB, Q_HO238, Q_HO241, Q_HO244, Q_HO247, Q_HO250, Q_X11_, Q_X12_, Q_X13_, Q_X15_⟩
           clear BK230 BK231 HB HO_231007
           have hb1_ := hall 1 (by kernel_rfl)
           have hb2_ := hall 2 (by kernel_rfl)
           have hb4_ := hall 4 (by kernel_rfl)
           have hb6_ := hall 6 (by kernel_rfl)
           have hb7_ := hall 7 (by kernel_rfl)
           have hb8_ := hall 8 (by kernel_rfl)
           have hb9_ := hall 9 (by kernel_rfl)
           have hb10_ := hall 10 (by kernel_rfl)
           have hb11_ := hall 11 (by kernel_rfl)
           have hb12_ := hall 12 (by kernel_rfl)
           have hb13_ := hall 13 (by kernel_rfl)
           have hb14_ := hall 14 (by kernel_rfl)
           have hb15_ := hall 15 (by kernel_rfl)
           have hb16_ := hall 16 (by kernel_rfl)
           subst ha
           obtain rfl := Q_X11_ hb11_
           obtain rfl := Q_X12_ hb12_
           obtain rfl := Q_X13_ hb13_
           obtain rfl := Q_X15_ hb15_
           simp only [putSel, hb1_, hb2_, hb4_, hb6_, hb7_, hb8_, hb9_, hb10_, hb11_, hb12_, hb13_, hb14_, hb15_, hb16_, if_true, Act.put, List.setIfInBounds_toArray, List.set_cons_zero, List.set_cons_succ]
           have HO_231007 := Aside0.mk Q_HO_231007
           clear Q_HO_231007
           have BK230 := Aside0.mk Q_BK230
           clear Q_BK230
           have BK231 := Aside0.mk Q_BK231
           clear Q_BK231
           have HB := Aside0.mk Q_HB
           clear Q_HB
           clear Q_HO238
           clear Q_HO241
           have HO244 := Aside0.mk (Q_HO244 hb8_)
           clear Q_HO244
           have HO247 := Aside0.mk (Q_HO247 hb9_)
           clear Q_HO247
           have HO250 := Aside0.mk (Q_HO250 hb11_)
           clear Q_HO250
           clear hall hb1_ hb2_ hb4_ hb6_ hb7_ hb8_ hb9_ hb10_ hb11_ hb12_ hb13_ hb14_ hb15_ hb16_
           obtain ⟨Aozc7, cozc7, eozc5⟩ := Kd.R_slice HO250.out
           subst eozc5
           try go_wp2
           go_loopg [10, 56] kj6 (fun kq v10 v56 w' => ∃ (x10_2 : List (S40)) (x56_2 : Int), v56 = .int .i64 x56_2 ∧ Aside0 (route_Expand.l0 kq x10_2 t248 (t248.length : Int) x56_2 l1_0 l1_1 = some (r1, r2)) ∧ Aside0 (kq ≤ kj6) ∧ Aside0 (Kd.R k40 40 w' w.heap.size (fun k_ => (w.heap.size ≤ k_)) v10 x10_2) ∧ Aside0 (Kd.R Kd.string 9 w' w.heap.size (fun k_ => (w.heap.size ≤ k_)) (.slice Aozc7 t248.length cozc7) t248) ∧ Aside0 (w'.heap[gb231]? = some (.cells #[(.slice A1_0 l1_0.length c1_0), (.slice A1_1 l1_1.length c1_1)] 25 (0, 0))) ∧ Aside0 (Below w.heap.size w w'))
           case atStart => exact ⟨(([] : List (S40))), (0), (by first | rfl | (simp; done) | (simp [*]; done)), H', ⟨Nat.le_refl _⟩, ⟨by first | exact Kd.R_nil _ _ _ _ _ | exact Kd.N_nil _ _ _ _ _ | exact Kd.V_nil _ _ _ _ _ | exact Kd.Q_nil _ _ _ _ _ | exact Kd.S_nil _ _ _ _ _⟩, ⟨by (with_reducible repeat (first | apply Kd.R_alloc | apply Kd.R_drewN | apply Kd.R_drew)); exact Kd.R_mono HO250.out (fun _ hk => by first | exact hk.1 | exact hk | exact hk.1 | exact hk.2 | (simp [hk]; done) | (simp at hk ⊢; simp [hk]; done))⟩, ⟨by (with_reducible repeat (first | refine blk_drewN ?_ _ | refine blk_drew ?_ | refine blk_alloc ?_ _)); exact BK231.out⟩, ⟨by repeat (first | (with_reducible first | exact HB.out | apply below_alloc | apply pw_below_drewN | apply below_drew1 | refine below_set ?_ GE230.out | refine below_set ?_ GE231.out) | exact HB.out)⟩⟩
           case round =>
            clear H'
            (try clear c1); (try clear c2); (try clear p2); (try clear c3); (try clear c4); (try clear c5); (try clear c6); (try clear c6b1); (try clear c7); (try clear c10); (try clear c16); (try clear c18); (try clear c24); (try clear c25); (try clear c29); (try clear c32); (try clear c32b0); (try clear c32b1); (try clear hczx34251); (try clear hczx34252); (try clear hczx34253); (try clear hczx34254); (try clear hczx34255); (try clear hczx34256); (try clear hczx34257); (try clear hczx34258); (try clear hczx74591); (try clear hczx74592); (try clear hczzc1); (try clear hczzc2); (try clear hczzc3); (try clear hczzc4); (try clear hczzc5); (try clear hczzc6); (try clear hczzc7); (try clear hczzc8); (try clear hczzc9); (try clear hczzc10); (try clear hczzc11); (try clear hczzc12)
            (try clear hczzc13); (try clear hczzc14); (try clear hczzc15); (try clear hczzc16); (try clear hczzc17); (try clear hczzc18); (try clear hczzc19); (try clear hczzc20); (try clear hczzc21); (try clear hczzc22); (try clear hczzc23); (try clear hczzc24); (try clear hczzc25); (try clear hczzc26); (try clear hczzc27); (try clear hczzc28); (try clear hczzc29); (try clear hczzc30); (try clear hfzx34251); (try clear hfzx34252); (try clear hfzx34253); (try clear hfzx34254); (try clear hfzx34255); (try clear hfzx34256); (try clear hfzx34257); (try clear hfzx34258); (try clear hfzx74591); (try clear hfzx74592); (try clear hfzzc1); (try clear hfzzc2); (try clear hfzzc3); (try clear hfzzc4); (try clear hfzzc5); (try clear hfzzc6); (try clear hfzzc7); (try clear hfzzc8); (try clear hfzzc9); (try clear hfzzc10); (try clear hfzzc11); (try clear hfzzc12)
            (try clear hfzzc13); (try clear hfzzc14); (try clear hfzzc15); (try clear hfzzc16); (try clear hfzzc17); (try clear hfzzc18); (try clear hfzzc19); (try clear hfzzc20); (try clear hfzzc21); (try clear hfzzc22); (try clear hfzzc23); (try clear hfzzc24); (try clear hfzzc25); (try clear hfzzc26); (try clear hfzzc27); (try clear hfzzc28); (try clear hfzzc29); (try clear hfzzc30)
            obtain ⟨x10_2, x56_2, rfl, HA, HK2, HO_10, HO_54, BK231, HB⟩ := hrel
            cases gk with
            | zero => exact absurd HA.out (by simp [route_Expand.l0])
            | succ k2 =>
             have H := HA.out
             clear HA
             simp only [route_Expand.l0] at H
             refine Or.elim (Classical.em (x56_2 < (t248.length : Int))) (fun c48 => ?p7_) (fun c48 => ?n7_)
             case' p7_ =>
              rw [if_pos c48] at H
              have c48b0 : decide (x56_2 < (t248.length : Int)) = true := decide_eq_true c48
              clear c48
              refine Or.elim (Classical.em (0 ≤ x56_2)) (fun c49 => ?p8_) (fun c49 => ?n8_)
              case' p8_ =>
               rw [if_pos c49] at H
               have c49b0 : decide (0 ≤ x56_2) = true := decide_eq_true c49
               clear c49
               refine Or.elim (Classical.em (x56_2 < (t248.length : Int))) (fun c50 => ?p9_) (fun c50 => ?n9_)
               case' p9_ =>
                rw [if_pos c50] at H
                have c50b0 : decide (x56_2 < (t248.length : Int)) = true := decide_eq_true c50
                clear c50
                replace H := Option.bind_eq_some_iff.mp H
                obtain ⟨t254, A510, H⟩ := H
                replace H : (if x56_2 > 0 then (if 0 ≤ (wrap64 (x56_2 - 1)) then (if (wrap64 (x56_2 - 1)) < (x10_2.length : Int) then (if 0 ≤ t254 then (if t254 < (l1_0.length : Int) then (if (((rd_T40 x10_2 (wrap64 (x56_2 - 1))).f1.f0) == ((rd_T40 l1_0 t254).f1.f0) && (((rd_T40 x10_2 (wrap64 (x56_2 - 1))).f1.f1) == ((rd_T40 l1_0 t254).f1.f1))) = true then (some (([] : List (S40)), 10)) else (if x10_2.length < 4398046511104 then (route_Expand.l0 k2 (x10_2 ++ [(⟨(rd_T40 l1_0 t254).f0, (⟨(rd_T40 l1_0 t254).f1.f0, (rd_T40 l1_0 t254).f1.f1⟩ : S36)⟩ : S40)]) t248 (t248.length : Int) (wrap64 (x56_2 + 1)) l1_0 l1_1) else (none))) else (none)) else (none)) else (none)) else (none)) else (if 0 ≤ t254 then (if t254 < (l1_0.length : Int) then (if x10_2.length < 4398046511104 then (route_Expand.l0 k2 (x10_2 ++ [(⟨(rd_T40 l1_0 t254).f0, (⟨(rd_T40 l1_0 t254).f1.f0, (rd_T40 l1_0 t254).f1.f1⟩ : S36)⟩ : S40)]) t248 (t248.length : Int) (wrap64 (x56_2 + 1)) l1_0 l1_1) else (none)) else (none)) else (none))) = some (r1, r2) := H
                have A51 := Aside0.mk A510
                clear A510
                refine Or.elim (Classical.em (x56_2 > 0)) (fun c52 => ?p10_) (fun c52 => ?n10_)
                case' p10_ =>
                 rw [if_pos c52] at H
                 have c52b0 : decide (0 < x56_2) = true := decide_eq_true c52
                 clear c52
                 obtain ⟨ji53, hji53⟩ : ∃ j_ : Int, (wrap64 (x56_2 - 1)) = j_ := ⟨_, rfl⟩
                 replace H : (if 0 ≤ (ji53) then (if (ji53) < (x10_2.length : Int) then (if 0 ≤ t254 then (if t254 < (l1_0.length : Int) then (if (((rd_T40 x10_2 (ji53)).f1.f0) == ((rd_T40 l1_0 t254).f1.f0) && (((rd_T40 x10_2 (ji53)).f1.f1) == ((rd_T40 l1_0 t254).f1.f1))) = true then (some (([] : List (S40)), 10)) else (if x10_2.length < 4398046511104 then (route_Expand.l0 k2 (x10_2 ++ [(⟨(rd_T40 l1_0 t254).f0, (⟨(rd_T40 l1_0 t254).f1.f0, (rd_T40 l1_0 t254).f1.f1⟩ : S36)⟩ : S40)]) t248 (t248.length : Int) (wrap64 (x56_2 + 1)) l1_0 l1_1) else (none))) else (none)) else (none)) else (none)) else (none)) = some (r1, r2) := by first | (rw [hji53] at H; exact H) | (simp only [hji53] at H ⊢; exact H)
                 (try rw [hji53] at A51)
                 have hji53w : (IntKind.i64.wrap (x56_2 - 1)) = ji53 := (i64_w _).trans hji53
                 refine Or.elim (Classical.em (0 ≤ (ji53))) (fun c54 => ?p11_) (fun c54 => ?n11_)
                 case' p11_ =>
                  rw [if_pos c54] at H
                  have c54b0 : decide (0 ≤ (ji53)) = true := decide_eq_true c54
                  clear c54
                  refine Or.elim (Classical.em ((ji53) < (x10_2.length : Int))) (fun c55 => ?p12_) (fun c55 => ?n12_)
                  case' p12_ =>
                   rw [if_pos c55] at H
                   have c55b0 : decide ((ji53) < (x10_2.length : Int)) = true := decide_eq_true c55
                   clear c55
                   refine Or.elim (Classical.em (0 ≤ t254)) (fun c56 => ?p13_) (fun c56 => ?n13_)
                   case' p13_ =>
                    rw [if_pos c56] at H
                    have c56b0 : decide (0 ≤ t254) = true := decide_eq_true c56
                    clear c56
                    refine Or.elim (Classical.em (t254 < (l1_0.length : Int))) (fun c57 => ?p14_) (fun c57 => ?n14_)
                    case' p14_ =>
                     rw [if_pos c57] at H
                     have c57b0 : decide (t254 < (l1_0.length : Int)) = true := decide_eq_true c57
                     clear c57
                     refine Or.elim (Classical.em ((((rd_T40 x10_2 (ji53)).f1.f0) == ((rd_T40 l1_0 t254).f1.f0) && (((rd_T40 x10_2 (ji53)).f1.f1) == ((rd_T40 l1_0 t254).f1.f1))) = true)) (fun c58 => ?p15_) (fun c58 => ?n15_)
                     case' p15_ =>
                      rw [if_pos c58] at H
                      have c58b0 : (((rd_T40 x10_2 (ji53)).f1.f0) == ((rd_T40 l1_0 t254).f1.f0) && (((rd_T40 x10_2 (ji53)).f1.f1) == ((rd_T40 l1_0 t254).f1.f1))) = true := c58
                      (try (have c58b1 : decide (((rd_T40 x10_2 (ji53)).f1.f0) = ((rd_T40 l1_0 t254).f1.f0) && (((rd_T40 x10_2 (ji53)).f1.f1) == ((rd_T40 l1_0 t254).f1.f1))) = true := by simpa using c58))
                      (try (have c58b2 : (((rd_T40 x10_2 (ji53)).f1.f0) == ((rd_T40 l1_0 t254).f1.f0) && (((rd_T40 x10_2 (ji53)).f1.f1) == ((rd_T40 l1_0 t254).f1.f1))) = true := by simpa using c58))
                      clear c58
                      simp only [Option.some.injEq, Prod.mk.injEq] at H
                      obtain ⟨rfl, rfl⟩ := H
                      have p252 : 0 ≤ (x56_2 : Int) := of_decide_eq_true (by first | (with_reducible assumption) | assumption)
                      have q252 : x56_2 < (t248.length : Int) := of_decide_eq_true (by first | (with_reducible assumption) | assumption)
                      obtain ⟨ad252, e252, hx252_0⟩ := Kd.at_string (Kd.R_reads' HO_54.out).2.2 x56_2 p252 q252
                      cases e252
                      replace p252 := eq_true p252
                      replace q252 := eq_true q252
                      have hm6_0 := Aside0.mk trivial
                     case' n15_ =>
                      rw [if_neg c58] at H
                      have c58b0 : (((rd_T40 x10_2 (ji53)).f1.f0) == ((rd_T40 l1_0 t254).f1.f0) && (((rd_T40 x10_2 (ji53)).f1.f1) == ((rd_T40 l1_0 t254).f1.f1))) = false := by simpa using c58
                      (try (have c58b1 : decide (((rd_T40 x10_2 (ji53)).f1.f0) = ((rd_T40 l1_0 t254).f1.f0) && (((rd_T40 x10_2 (ji53)).f1.f1) == ((rd_T40 l1_0 t254).f1.f1))) = false := by simpa using c58))
                      (try (have c58b2 : (((rd_T40 x10_2 (ji53)).f1.f0) == ((rd_T40 l1_0 t254).f1.f0) && (((rd_T40 x10_2 (ji53)).f1.f1) == ((rd_T40 l1_0 t254).f1.f1))) = false := by simpa using c58))
                      (try (have c58b3 : ¬ (((rd_T40 x10_2 (ji53)).f1.f0) = ((rd_T40 l1_0 t254).f1.f0) && (((rd_T40 x10_2 (ji53)).f1.f1) == ((rd_T40 l1_0 t254).f1.f1))) := by simpa using c58))
                      clear c58
                      refine Or.elim (Classical.em (x10_2.length < 4398046511104)) (fun c66 => ?p16_) (fun c66 => ?n16_)
                      case' p16_ =>
                       rw [if_pos c66] at H
                       have LMc66 := Aside0.mk c66
                       clear c66
                       obtain ⟨y258, hy258⟩ : ∃ y_ : List (S40), y_ = (x10_2 ++ [(⟨(rd_T40 l1_0 t254).f0, (⟨(rd_T40 l1_0 t254).f1.f0, (rd_T40 l1_0 t254).f1.f1⟩ : S36)⟩ : S40)]) := ⟨_, rfl⟩
                       replace H : (route_Expand.l0 k2 y258 t248 (t248.length : Int) (wrap64 (x56_2 + 1)) l1_0 l1_1) = some (r1, r2) := by first | (rw [hy258]; with_reducible exact H) | (have H2_ := (Option.bind_some _ _).symm.trans H; rw [hy258]; with_reducible exact H2_) | (have H2_ := (Option.bind_some _ _).symm.trans H; with_reducible exact H2_) | with_reducible exact H | (rw [hy258]; exact H) | exact H
                       have Ny258 := Aside0.mk hy258
                       clear hy258
                       have hm6_1 := Aside0.mk trivial
                      case' n16_ =>
                       rw [if_neg c66] at H
                       exact absurd H (by simp)
                    case' n14_ =>
                     rw [if_neg c57] at H
                     exact absurd H (by simp)
                   case' n13_ =>
                    rw [if_neg c56] at H
                    exact absurd H (by simp)
                  case' n12_ =>
                   rw [if_neg c55] at H
                   exact absurd H (by simp)
                 case' n11_ =>
                  rw [if_neg c54] at H
                  exact absurd H (by simp)
                case' n10_ =>
                 rw [if_neg c52] at H
                 have c52b0 : decide (0 < x56_2) = false := decide_eq_false c52
                 clear c52
                 refine Or.elim (Classical.em (0 ≤ t254)) (fun c76 => ?p17_) (fun c76 => ?n17_)
                 case' p17_ =>
                  rw [if_pos c76] at H
                  have c76b0 : decide (0 ≤ t254) = true := decide_eq_true c76
                  clear c76
                  refine Or.elim (Classical.em (t254 < (l1_0.length : Int))) (fun c77 => ?p18_) (fun c77 => ?n18_)
                  case' p18_ =>
                   rw [if_pos c77] at H
                   have c77b0 : decide (t254 < (l1_0.length : Int)) = true := decide_eq_true c77
                   clear c77
                   refine Or.elim (Classical.em (x10_2.length < 4398046511104)) (fun c78 => ?p19_) (fun c78 => ?n19_)
                   case' p19_ =>
                    rw [if_pos c78] at H
                    have LMc78 := Aside0.mk c78
                    clear c78
                    obtain ⟨y262, hy262⟩ : ∃ y_ : List (S40), y_ = (x10_2 ++ [(⟨(rd_T40 l1_0 t254).f0, (⟨(rd_T40 l1_0 t254).f1.f0, (rd_T40 l1_0 t254).f1.f1⟩ : S36)⟩ : S40)]) := ⟨_, rfl⟩
                    replace H : (route_Expand.l0 k2 y262 t248 (t248.length : Int) (wrap64 (x56_2 + 1)) l1_0 l1_1) = some (r1, r2) := by first | (rw [hy262]; with_reducible exact H) | (have H2_ := (Option.bind_some _ _).symm.trans H; rw [hy262]; with_reducible exact H2_) | (have H2_ := (Option.bind_some _ _).symm.trans H; with_reducible exact H2_) | with_reducible exact H | (rw [hy262]; exact H) | exact H
                    have Ny262 := Aside0.mk hy262
                    clear hy262
                    have hm6_2 := Aside0.mk trivial
                   case' n19_ =>
                    rw [if_neg c78] at H
                    exact absurd H (by simp)
                  case' n18_ =>
                   rw [if_neg c77] at H
                   exact absurd H (by simp)
                 case' n17_ =>
                  rw [if_neg c76] at H
                  exact absurd H (by simp)
               case' n9_ =>
                rw [if_neg c50] at H
                exact absurd H (by simp)
              case' n8_ =>
               rw [if_neg c49] at H
               exact absurd H (by simp)
             case' n7_ =>
              rw [if_neg c48] at H
              have c48b0 : decide (x56_2 < (t248.length : Int)) = false := decide_eq_false c48
              clear c48
              refine Or.elim (Classical.em ((x10_2.length : Int) > 62)) (fun c87 => ?p20_) (fun c87 => ?n20_)
              case' p20_ =>
               rw [if_pos c87] at H
               have c87b0 : decide (62 < (x10_2.length : Int)) = true := decide_eq_true c87
               have c87b1 : decide (62 < x10_2.length) = true := decide_eq_true (by omega)
               clear c87
               simp only [Option.some.injEq, Prod.mk.injEq] at H
               obtain ⟨rfl, rfl⟩ := H
               obtain ⟨Aozc10, cozc10, eozc8⟩ := Kd.R_slice HO_10.out
               subst eozc8
               have hm6_3 := Aside0.mk trivial
              case' n20_ =>
               rw [if_neg c87] at H
               have c87b0 : decide (62 < (x10_2.length : Int)) = false := decide_eq_false c87
               have c87b1 : decide (62 < x10_2.length) = false := decide_eq_false (by omega)
               clear c87
               simp only [Option.some.injEq, Prod.mk.injEq] at H
               obtain ⟨rfl, rfl⟩ := H
               obtain ⟨Aozc11, cozc11, eozc9⟩ := Kd.R_slice HO_10.out
               subst eozc9
               have hm6_4 := Aside0.mk trivial
             all_goals
              first
               | clear hm6_0
                 try go_wp2_with (first | ((with_reducible refine gate_dst (N := 12) rfl ?_); refine box_event ?hg (N := 12) ?hd (cs := #[.string (⟨#[]⟩ : ByteArray)]) (t := 9) ?hr ?_; (case hd => rfl); (case hg => rfl); (case hr => first | (go_simp; done) | (go_simp; rfl)); intro gb253 hg wx617d1 hbox hb; have n0_ := Aside0.mk (Kd.R_below (by (with_reducible repeat (first | apply Kd.R_alloc | apply Kd.R_drewN | apply Kd.R_drew)); first | exact HO_10.out | exact Kd.R_mono HO_10.out (fun _ h_ => h_.1) | exact Kd.V_mono HO_10.out (fun _ h_ => h_.1) | exact Kd.N_mono HO_10.out (fun _ h_ => h_.1)) hb); have n1_ := Aside0.mk (Kd.R_below (Kd.R_elderB (by (with_reducible repeat (first | apply Kd.R_alloc | apply Kd.R_drewN | apply Kd.R_drew)); first | exact HO_54.out | exact Kd.R_mono HO_54.out (fun _ h_ => h_.1) | exact Kd.V_mono HO_54.out (fun _ h_ => h_.1) | exact Kd.N_mono HO_54.out (fun _ h_ => h_.1)) gb253 (Nat.le_of_eq hg.symm)) hb); have n2_ := Aside0.mk (blk_below (g := gb231) (o := .cells #[.slice A1_0 l1_0.length c1_0, .slice A1_1 l1_1.length c1_1] 25 (0, 0)) blk_s hb); have n3_ := Aside0.mk (below_step bel_s hb); have n4_ := Aside0.mk (hbox); have n5_ := Aside0.mk ((by rw [hg]; exact (below_size bel_s) : w.heap.size ≤ gb253)); have n6_ := Aside0.mk ((by rw [hg]; exact (below_size bel_s) : w.heap.size ≤ gb253)); have n7_ := Aside0.mk ((by rw [hg]; exact Nat.ne_of_lt (blk_lt (g := gb231) (o := .cells #[.slice A1_0 l1_0.length c1_0, .slice A1_1 l1_1.length c1_1] 25 (0, 0)) blk_s) : gb231 ≠ gb253)); have n8_ := Aside0.mk ((by rw [hg]; exact Nat.ne_of_gt (blk_lt (g := gb231) (o := .cells #[.slice A1_0 l1_0.length c1_0, .slice A1_1 l1_1.length c1_1] 25 (0, 0)) blk_s) : gb253 ≠ gb231)); clear HO_10; clear HO_54; clear BK231; clear HB; have HO_10 := n0_; have HO_54 := n1_; have BK231 := n2_; have HB := n3_; have BK253 := n4_; have GW253 := n5_; have GE253 := n6_; have NB231_253 := n7_; have NB253_231 := n8_; clear n0_ n1_ n2_ n3_ n4_ n5_ n6_ n7_ n8_; clear hb hbox hg; have hnbx617d1 := NB253_231.out; have hncx617d1 := NB231_253.out; have hczx617d1 : wx617d1.cell? ⟨gb253, 0, none⟩ = some (.string (⟨#[]⟩ : ByteArray)) := (blk_cell BK253.out 0).trans rfl; have hfzx617d1 := blk_frozen BK253.out 0; have hczx617d2 : wx617d1.cell? ⟨gb231, 0, none⟩ = some (.slice A1_0 l1_0.length c1_0) := (blk_cell BK231.out 0).trans rfl; have hczx617d3 : wx617d1.cell? ⟨gb231, 1, none⟩ = some (.slice A1_1 l1_1.length c1_1) := (blk_cell BK231.out 1).trans rfl; have hfzx617d2 := blk_frozen BK231.out 0; have hfzx617d3 := blk_frozen BK231.out 1) | ((with_reducible refine gate_callee (f := 67) rfl ?_); refine goesL_ (some 64) rfl rfl Try.func67 (by kernel_rfl) rfl #[.slice A1_0 l1_0.length c1_0, .func (.func 68) #[] #[.pointer (some ⟨gb253, 0, none⟩)]] rfl any_s ?_; (with_reducible refine (api_Fix_67.calls _ _ l1_0 (route_Expand_1.p (rdOf ByteArray.empty t248 x56_2)) t254 _ ?side1 ?side2 ?side3 A51.out).mono ?_); (case side1 => exact Kd.C_below HR1_0.out bel_s); (case side2 => exact HC1_0.out); (case side3 => exact route_Expand_1.pred (by (with_reducible repeat (first | refine blk_drewN ?_ _ | refine blk_drew ?_ | refine blk_alloc ?_ _)); refine blk_put (cs := #[.string (⟨#[]⟩ : ByteArray)]) ?_ 0 _ rfl; (with_reducible repeat (first | refine blk_drewN ?_ _ | refine blk_drew ?_ | refine blk_alloc ?_ _)); exact BK253.out)); rintro e wxbfb81 ⟨rfl, hb⟩; refine ⟨_, rfl, ?_⟩; have n0_ := Aside0.mk (Kd.R_below (by (with_reducible repeat (first | apply Kd.R_alloc | apply Kd.R_drewN | apply Kd.R_drew)); exact (Kd.R_mono (Kd.R_far (p := ⟨gb253, 0, none⟩) (Kd.R_types HO_10.out BK253.out (by decide)) (fun _ hk => by first | exact hk.2 | exact hk | exact hk.1 | exact hk.2 | (simp [hk]; done) | (simp at hk ⊢; simp [hk]; done)) (.string (rdOf ByteArray.empty t248 x56_2))) (fun _ h_ => h_.1))) hb); have n1_ := Aside0.mk (Kd.R_below (by (with_reducible repeat (first | apply Kd.R_alloc | apply Kd.R_drewN | apply Kd.R_drew)); exact (Kd.R_mono (Kd.R_far (p := ⟨gb253, 0, none⟩) (Kd.R_mono HO_54.out (fun k_ hk => (⟨hk, hk.2⟩ : _ ∧ k_ ≠ gb253))) (fun _ hk => by first | exact hk.2 | exact hk | exact hk.1 | exact hk.2 | (simp [hk]; done) | (simp at hk ⊢; simp [hk]; done)) (.string (rdOf ByteArray.empty t248 x56_2))) (fun _ h_ => h_.1))) hb); have n2_ := Aside0.mk (blk_below (g := gb231) (o := .cells #[.slice A1_0 l1_0.length c1_0, .slice A1_1 l1_1.length c1_1] 25 (0, 0)) blk_s hb); have n3_ := Aside0.mk (blk_below (g := gb253) (o := .cells #[.string (rdOf ByteArray.empty t248 x56_2)] 9 (0, 0)) (by (with_reducible repeat (first | refine blk_drewN ?_ _ | refine blk_drew ?_ | refine blk_alloc ?_ _)); refine blk_put (cs := #[.string (⟨#[]⟩ : ByteArray)]) ?_ 0 _ rfl; (with_reducible repeat (first | refine blk_drewN ?_ _ | refine blk_drew ?_ | refine blk_alloc ?_ _)); exact BK253.out) hb); have n4_ := Aside0.mk (below_step bel_s hb); clear HO_10; clear HO_54; clear BK231; clear BK253; clear HB; have HO_10 := n0_; have HO_54 := n1_; have BK231 := n2_; have BK253 := n3_; have HB := n4_; clear n0_ n1_ n2_ n3_ n4_; (try clear hb); (try clear hb2); (try clear hk); (try clear hi)))
                 have n0_ := Aside0.mk (Kd.R_drew HO_10.out)
                 have n1_ := Aside0.mk (Kd.R_drew HO_54.out)
                 have n2_ := Aside0.mk (blk_drew BK231.out)
                 have n3_ := Aside0.mk (blk_drew BK253.out)
                 have n4_ := Aside0.mk (below_drew1 HB.out)
                 clear HO_10
                 clear HO_54
                 clear BK231
                 clear BK253
                 clear HB
                 have HO_10 := n0_
                 have HO_54 := n1_
                 have BK231 := n2_
                 have BK253 := n3_
                 have HB := n4_
                 clear n0_ n1_ n2_ n3_ n4_
                 obtain ⟨Aoze1, coze1, eoze1⟩ := Kd.R_slice HO_10.out
                 (first | subst eoze1 | (injection eoze1 with f1_ f2_ f3_; have f4_ := f1_.symm; have f5_ := f3_.symm; clear f1_ f2_ f3_; subst f4_; subst f5_))
                 have p255 : 0 ≤ ((ji53) : Int) := of_decide_eq_true (by first | (with_reducible assumption) | assumption)
                 have q255 : (ji53) < (x10_2.length : Int) := of_decide_eq_true (by first | (with_reducible assumption) | assumption)
                 obtain ⟨ad255, e255, hx255_0, hx255_1, hx255_2⟩ := at_T40 (Kd.R_reads' HO_10.out).2.2 (ji53) p255 q255
                 cases e255
                 replace p255 := eq_true p255
                 replace q255 := eq_true q255
                 have p256 : 0 ≤ (t254 : Int) := of_decide_eq_true (by first | (with_reducible assumption) | assumption)
                 have q256 : t254 < (l1_0.length : Int) := of_decide_eq_true (by first | (with_reducible assumption) | assumption)
                 obtain ⟨ad256, e256, hx256_0, hx256_1, hx256_2⟩ := at_T40 HR1_0.out t254 p256 q256
                 have hw256_2 := hx256_2
                 have hw256_1 := hx256_1
                 have hw256_0 := hx256_0
                 cases e256
                 replace hx256_0 := (HB.out.cell (World.block_lt_of_cell? w _ hx256_0)).trans hx256_0
                 replace hx256_1 := (HB.out.cell (World.block_lt_of_cell? w _ hx256_1)).trans hx256_1
                 replace hx256_2 := (HB.out.cell (World.block_lt_of_cell? w _ hx256_2)).trans hx256_2
                 replace p256 := eq_true p256
                 replace q256 := eq_true q256
                 refine start_ (n := 17) (S := fun w' => w'.cell? ⟨gb231, 0, none⟩ = some (.slice (some ad256) l1_0.length c1_0) ∧ w'.cell? ⟨gb231, 1, none⟩ = some (.slice A1_1 l1_1.length c1_1) ∧ w'.cell? (ad255.add (((ji53)).toNat * 3)) = some (.string ((rd_T40 x10_2 (ji53)).f0)) ∧ w'.cell? ⟨(ad255.add (((ji53)).toNat * 3)).block, (ad255.add (((ji53)).toNat * 3)).off + 1, none⟩ = some (.int .i64 ((rd_T40 x10_2 (ji53)).f1.f0)) ∧ w'.cell? ⟨(ad255.add (((ji53)).toNat * 3)).block, (ad255.add (((ji53)).toNat * 3)).off + 2, none⟩ = some (.int .i64 ((rd_T40 x10_2 (ji53)).f1.f1)) ∧ w'.cell? (ad256.add ((t254).toNat * 3)) = some (.string ((rd_T40 l1_0 t254).f0)) ∧ w'.cell? ⟨(ad256.add ((t254).toNat * 3)).block, (ad256.add ((t254).toNat * 3)).off + 1, none⟩ = some (.int .i64 ((rd_T40 l1_0 t254).f1.f0)) ∧ w'.cell? ⟨(ad256.add ((t254).toNat * 3)).block, (ad256.add ((t254).toNat * 3)).off + 2, none⟩ = some (.int .i64 ((rd_T40 l1_0 t254).f1.f1))) (ds := []) #[false, false, false, false, false, false, false, false, false, false, false, false, false, false, false, false, false] (by kernel_rfl) rfl rfl ⟨(blk_cell BK231.out 0).trans rfl, (blk_cell BK231.out 1).trans rfl, hx255_0, hx255_1, hx255_2, ((HB.out.cell (World.block_lt_of_cell? w _ hw256_0)).trans hw256_0), ((HB.out.cell (World.block_lt_of_cell? w _ hw256_1)).trans hw256_1), ((HB.out.cell (World.block_lt_of_cell? w _ hw256_2)).trans hw256_2)⟩ (fun hHeld => ?_); refine with_tabW route_Expand.tab17 route_Expand.bits17 (fun HT_ HW_ => ?_)
                 generalize wxbfb81.drew = wze1 at HO_10 HO_54 BK231 BK253 HB hx255_0 hx255_1 hx255_2 hx256_0 hx256_1 hx256_2 hHeld ⊢
                 refine pure_ (i := 0) (N := some 65) (v := ?_) (a' := ?_) #[true, false, false, false, false, false, false, false, false, false, false, false, false, false, false, false, false] rfl rfl (any_of HT_.out (by kernel_rfl)) (fun _ _ _ h => h) (Or.inl ⟨by rfl, ?_⟩) ?_ ?_
                 rotate_left
                 · intro w'
                   go_simp
                   with_reducible rfl
                 rotate_left
                 · simp only [Act.put, List.setIfInBounds_toArray, List.set_cons_zero, List.set_cons_succ, i64_w, i32_w]
                   rfl
                 refine pure_ (i := 1) (N := some 66) (v := ?_) (a' := ?_) #[true, true, false, false, false, false, false, false, false, false, false, false, false, false, false, false, false] rfl rfl (any_of HT_.out (by kernel_rfl)) (fun _ _ _ h => h) (Or.inl ⟨by rfl, ?_⟩) ?_ ?_
                 rotate_left
                 · intro w'
                   go_simp
                   with_reducible rfl
                 rotate_left
                 · simp only [Act.put, List.setIfInBounds_toArray, List.set_cons_zero, List.set_cons_succ, i64_w, i32_w]
                   rfl
                 refine pure_ (i := 2) (N := some 67) (v := ?_) (a' := ?_) #[true, true, true, false, false, false, false, false, false, false, false, false, false, false, false, false, false] rfl rfl (any_of HT_.out (by kernel_rfl)) (fun _ _ _ h => h) (Or.inl ⟨by rfl, ?_⟩) ?_ ?_
                 rotate_left
                 · intro w'
                   go_simp
                   with_reducible rfl
                 rotate_left
                 · simp only [Act.put, List.setIfInBounds_toArray, List.set_cons_zero, List.set_cons_succ, i64_w, i32_w]
                   rfl
                 refine pure_ (i := 3) (N := some 68) (v := ?_) (a' := ?_) #[true, true, true, true, false, false, false, false, false, false, false, false, false, false, false, false, false] rfl rfl (any_of HT_.out (by kernel_rfl)) (fun _ _ _ h => h) (Or.inl ⟨by rfl, ?_⟩) ?_ ?_
                 rotate_left
                 · intro w'
                   go_simp
                   with_reducible rfl
                 rotate_left
                 · simp only [Act.put, List.setIfInBounds_toArray, List.set_cons_zero, List.set_cons_succ, i64_w, i32_w]
                   rfl
                 refine pure_ (i := 4) (N := some 69) (v := ?_) (a' := ?_) #[true, true, true, true, true, false, false, false, false, false, false, false, false, false, false, false, false] rfl rfl (any_of HT_.out (by kernel_rfl)) (fun _ _ _ h => h) (Or.inl ⟨by rfl, ?_⟩) ?_ ?_
                 rotate_left
                 · intro w'
                   go_simp
                   with_reducible rfl
                 rotate_left
                 · simp only [Act.put, List.setIfInBounds_toArray, List.set_cons_zero, List.set_cons_succ, i64_w, i32_w]
                   rfl
                 refine pure_ (i := 5) (N := some 70) (v := ?_) (a' := ?_) #[true, true, true, true, true, true, false, false, false, false, false, false, false, false, false, false, false] rfl rfl (any_of HT_.out (by kernel_rfl)) (fun _ _ _ h => h) (Or.inl ⟨by rfl, ?_⟩) ?_ ?_
                 rotate_left
                 · intro w'
                   go_simp
                   with_reducible rfl
                 rotate_left
                 · simp only [Act.put, List.setIfInBounds_toArray, List.set_cons_zero, List.set_cons_succ, i64_w, i32_w]
                   rfl
                 refine pure_ (i := 6) (N := some 71) (v := ?_) (a' := ?_) #[true, true, true, true, true, true, true, false, false, false, false, false, false, false, false, false, false] rfl rfl (any_of HT_.out (by kernel_rfl)) (fun _ _ _ h => h) (Or.inl ⟨by rfl, ?_⟩) ?_ ?_
                 rotate_left
                 · intro w'
                   go_simp
                   with_reducible rfl
                 rotate_left
                 · simp only [Act.put, List.setIfInBounds_toArray, List.set_cons_zero, List.set_cons_succ, i64_w, i32_w]
                   rfl
                 refine pure_ (i := 7) (N := some 72) (v := ?_) (a' := ?_) #[true, true, true, true, true, true, true, true, false, false, false, false, false, false, false, false, false] rfl rfl (any_of HT_.out (by kernel_rfl)) (fun _ _ _ h => h) (Or.inl ⟨by rfl, ?_⟩) ?_ ?_
                 rotate_left
                 · intro w'
                   go_simp
                   with_reducible rfl
                 rotate_left
                 · simp only [Act.put, List.setIfInBounds_toArray, List.set_cons_zero, List.set_cons_succ, i64_w, i32_w]
                   rfl
                 refine pure_ (i := 9) (N := some 74) (v := ?_) (a' := ?_) #[true, true, true, true, true, true, true, true, false, true, false, false, false, false, false, false, false] rfl rfl (any_of HT_.out (by kernel_rfl)) (fun _ _ _ h => h) (Or.inl ⟨by rfl, ?_⟩) ?_ ?_
                 rotate_left
                 · intro w'
                   go_simp
                   with_reducible rfl
                 rotate_left
                 · simp only [Act.put, List.setIfInBounds_toArray, List.set_cons_zero, List.set_cons_succ, i64_w, i32_w]
                   rfl
                 refine pure_ (i := 11) (N := some 76) (v := ?_) (a' := ?_) #[true, true, true, true, true, true, true, true, false, true, false, true, false, false, false, false, false] rfl rfl (any_of HT_.out (by kernel_rfl)) (fun _ _ _ h => h) (Or.inl ⟨by rfl, ?_⟩) ?_ ?_
                 rotate_left
                 · intro w'
                   go_simp
                   with_reducible rfl
                 rotate_left
                 · simp only [Act.put, List.setIfInBounds_toArray, List.set_cons_zero, List.set_cons_succ, i64_w, i32_w]
                   rfl
                 refine take_ (i := 8) (N := some 73) (v := ?_) (a' := ?_) #[true, true, true, true, true, true, true, true, true, true, false, true, false, false, false, false, false] rfl rfl (take_ofW HT_.out HW_.out (by kernel_rfl)) (fun _ _ _ h => h) (Or.inl ⟨by rfl, ?_⟩) hHeld ?_ ?_
                 rotate_left
                 · rintro w' ⟨s0, s1, s2, s3, s4, s5, s6, s7⟩
                   go_simp
                   with_reducible rfl
                 rotate_left
                 · simp only [Act.put, List.setIfInBounds_toArray, List.set_cons_zero, List.set_cons_succ, i64_w, i32_w]
                   rfl
                 refine take_ (i := 10) (N := some 75) (v := ?_) (a' := ?_) #[true, true, true, true, true, true, true, true, true, true, true, true, false, false, false, false, false] rfl rfl (take_ofW HT_.out HW_.out (by kernel_rfl)) (fun _ _ _ h => h) (Or.inl ⟨by rfl, ?_⟩) hHeld ?_ ?_
                 rotate_left
                 · rintro w' ⟨s0, s1, s2, s3, s4, s5, s6, s7⟩
                   go_simp
                   with_reducible rfl
                 rotate_left
                 · simp only [Act.put, List.setIfInBounds_toArray, List.set_cons_zero, List.set_cons_succ, i64_w, i32_w]
                   rfl
                 refine pure_ (i := 12) (N := some 77) (v := ?_) (a' := ?_) #[true, true, true, true, true, true, true, true, true, true, true, true, true, false, false, false, false] rfl rfl (any_of HT_.out (by kernel_rfl)) (fun _ _ _ h => h) (Or.inl ⟨by rfl, ?_⟩) ?_ ?_
                 rotate_left
                 · intro w'
                   go_simp
                   with_reducible rfl
                 rotate_left
                 · simp only [Act.put, List.setIfInBounds_toArray, List.set_cons_zero, List.set_cons_succ, i64_w, i32_w]
                   rfl
                 refine pure_ (i := 13) (N := some 78) (v := ?_) (a' := ?_) #[true, true, true, true, true, true, true, true, true, true, true, true, true, true, false, false, false] rfl rfl (any_of HT_.out (by kernel_rfl)) (fun _ _ _ h => h) (Or.inl ⟨by rfl, ?_⟩) ?_ ?_
                 rotate_left
                 · intro w'
                   go_simp
                   with_reducible rfl
                 rotate_left
                 · simp only [Act.put, List.setIfInBounds_toArray, List.set_cons_zero, List.set_cons_succ, i64_w, i32_w]
                   rfl
                 refine take_ (i := 14) (N := some 79) (v := ?_) (a' := ?_) #[true, true, true, true, true, true, true, true, true, true, true, true, true, true, true, false, false] rfl rfl (take_ofW HT_.out HW_.out (by kernel_rfl)) (fun _ _ _ h => h) (Or.inl ⟨by rfl, ?_⟩) hHeld ?_ ?_
                 rotate_left
                 · rintro w' ⟨s0, s1, s2, s3, s4, s5, s6, s7⟩
                   go_simp
                   with_reducible rfl
                 rotate_left
                 · simp only [Act.put, List.setIfInBounds_toArray, List.set_cons_zero, List.set_cons_succ, i64_w, i32_w]
                   rfl
                 refine pure_ (i := 15) (N := some 80) (v := ?_) (a' := ?_) #[true, true, true, true, true, true, true, true, true, true, true, true, true, true, true, true, false] rfl rfl (any_of HT_.out (by kernel_rfl)) (fun _ _ _ h => h) (Or.inl ⟨by rfl, ?_⟩) ?_ ?_
                 rotate_left
                 · intro w'
                   go_simp
                   with_reducible rfl
                 rotate_left
                 · simp only [Act.put, List.setIfInBounds_toArray, List.set_cons_zero, List.set_cons_succ, i64_w, i32_w]
                   rfl
                 refine pure_ (i := 16) (N := some 81) (v := ?_) (a' := ?_) #[true, true, true, true, true, true, true, true, true, true, true, true, true, true, true, true, true] rfl rfl (any_of HT_.out (by kernel_rfl)) (fun _ _ _ h => h) (Or.inl ⟨by rfl, ?_⟩) ?_ ?_
                 rotate_left
                 · intro w'
                   go_simp
                   with_reducible rfl
                 rotate_left
                 · simp only [Act.put, List.setIfInBounds_toArray, List.set_cons_zero, List.set_cons_succ, i64_w, i32_w]
                   rfl
                 refine done_ (done_of HT_.out (by kernel_rfl)) ?_
                 try go_wp2
                 go_ret2
                 exact ⟨_, by first | rfl | (simp [errW_none, errW_some] <;> rfl) | (simp only [← hji53]; first | rfl | (simp [errW_none, errW_some] <;> rfl)) | (simp [*, errW_none, errW_some] <;> rfl), by first | exact Kd.R_nil _ _ _ _ _ | exact Kd.N_nil _ _ _ _ _ | exact Kd.V_nil _ _ _ _ _ | exact Kd.Q_nil _ _ _ _ _ | exact Kd.S_nil _ _ _ _ _, by repeat (first | (with_reducible first | exact HB.out | apply below_alloc | apply pw_below_drewN | apply below_drew1 | refine below_set ?_ GE231.out | refine below_set ?_ GE253.out) | exact HB.out)⟩
               | (first | (have _hm := hm6_1) | (have _hm := hm6_2))
                 have H' := Aside0.mk H
                 clear H
                 have p252 : 0 ≤ (x56_2 : Int) := of_decide_eq_true (by first | (with_reducible assumption) | assumption)
                 have q252 : x56_2 < (t248.length : Int) := of_decide_eq_true (by first | (with_reducible assumption) | assumption)
                 obtain ⟨ad252, e252, hx252_0⟩ := Kd.at_string (Kd.R_reads' HO_54.out).2.2 x56_2 p252 q252
                 cases e252
                 replace p252 := eq_true p252
                 replace q252 := eq_true q252
                 try go_wp2_with (first | ((with_reducible refine gate_dst (N := 12) rfl ?_); refine box_event ?hg (N := 12) ?hd (cs := #[.string (⟨#[]⟩ : ByteArray)]) (t := 9) ?hr ?_; (case hd => rfl); (case hg => rfl); (case hr => first | (go_simp; done) | (go_simp; rfl)); intro gb253 hg wx617d1 hbox hb; have n0_ := Aside0.mk (Kd.R_below (by (with_reducible repeat (first | apply Kd.R_alloc | apply Kd.R_drewN | apply Kd.R_drew)); first | exact HO_10.out | exact Kd.R_mono HO_10.out (fun _ h_ => h_.1) | exact Kd.V_mono HO_10.out (fun _ h_ => h_.1) | exact Kd.N_mono HO_10.out (fun _ h_ => h_.1)) hb); have n1_ := Aside0.mk (Kd.R_below (Kd.R_elderB (by (with_reducible repeat (first | apply Kd.R_alloc | apply Kd.R_drewN | apply Kd.R_drew)); first | exact HO_54.out | exact Kd.R_mono HO_54.out (fun _ h_ => h_.1) | exact Kd.V_mono HO_54.out (fun _ h_ => h_.1) | exact Kd.N_mono HO_54.out (fun _ h_ => h_.1)) gb253 (Nat.le_of_eq hg.symm)) hb); have n2_ := Aside0.mk (blk_below (g := gb231) (o := .cells #[.slice A1_0 l1_0.length c1_0, .slice A1_1 l1_1.length c1_1] 25 (0, 0)) blk_s hb); have n3_ := Aside0.mk (below_step bel_s hb); have n4_ := Aside0.mk (hbox); have n5_ := Aside0.mk ((by rw [hg]; exact (below_size bel_s) : w.heap.size ≤ gb253)); have n6_ := Aside0.mk ((by rw [hg]; exact (below_size bel_s) : w.heap.size ≤ gb253)); have n7_ := Aside0.mk ((by rw [hg]; exact Nat.ne_of_lt (blk_lt (g := gb231) (o := .cells #[.slice A1_0 l1_0.length c1_0, .slice A1_1 l1_1.length c1_1] 25 (0, 0)) blk_s) : gb231 ≠ gb253)); have n8_ := Aside0.mk ((by rw [hg]; exact Nat.ne_of_gt (blk_lt (g := gb231) (o := .cells #[.slice A1_0 l1_0.length c1_0, .slice A1_1 l1_1.length c1_1] 25 (0, 0)) blk_s) : gb253 ≠ gb231)); clear HO_10; clear HO_54; clear BK231; clear HB; have HO_10 := n0_; have HO_54 := n1_; have BK231 := n2_; have HB := n3_; have BK253 := n4_; have GW253 := n5_; have GE253 := n6_; have NB231_253 := n7_; have NB253_231 := n8_; clear n0_ n1_ n2_ n3_ n4_ n5_ n6_ n7_ n8_; clear hb hbox hg; have hnbx617d1 := NB253_231.out; have hncx617d1 := NB231_253.out; have hczx617d1 : wx617d1.cell? ⟨gb253, 0, none⟩ = some (.string (⟨#[]⟩ : ByteArray)) := (blk_cell BK253.out 0).trans rfl; have hfzx617d1 := blk_frozen BK253.out 0; have hczx617d2 : wx617d1.cell? ⟨gb231, 0, none⟩ = some (.slice A1_0 l1_0.length c1_0) := (blk_cell BK231.out 0).trans rfl; have hczx617d3 : wx617d1.cell? ⟨gb231, 1, none⟩ = some (.slice A1_1 l1_1.length c1_1) := (blk_cell BK231.out 1).trans rfl; have hfzx617d2 := blk_frozen BK231.out 0; have hfzx617d3 := blk_frozen BK231.out 1) | ((with_reducible refine gate_callee (f := 67) rfl ?_); refine goesL_ (some 64) rfl rfl Try.func67 (by kernel_rfl) rfl #[.slice A1_0 l1_0.length c1_0, .func (.func 68) #[] #[.pointer (some ⟨gb253, 0, none⟩)]] rfl any_s ?_; (with_reducible refine (api_Fix_67.calls _ _ l1_0 (route_Expand_1.p (rdOf ByteArray.empty t248 x56_2)) t254 _ ?side1 ?side2 ?side3 A51.out).mono ?_); (case side1 => exact Kd.C_below HR1_0.out bel_s); (case side2 => exact HC1_0.out); (case side3 => exact route_Expand_1.pred (by (with_reducible repeat (first | refine blk_drewN ?_ _ | refine blk_drew ?_ | refine blk_alloc ?_ _)); refine blk_put (cs := #[.string (⟨#[]⟩ : ByteArray)]) ?_ 0 _ rfl; (with_reducible repeat (first | refine blk_drewN ?_ _ | refine blk_drew ?_ | refine blk_alloc ?_ _)); exact BK253.out)); rintro e wxbfb81 ⟨rfl, hb⟩; refine ⟨_, rfl, ?_⟩; have n0_ := Aside0.mk (Kd.R_below (by (with_reducible repeat (first | apply Kd.R_alloc | apply Kd.R_drewN | apply Kd.R_drew)); exact (Kd.R_mono (Kd.R_far (p := ⟨gb253, 0, none⟩) (Kd.R_types HO_10.out BK253.out (by decide)) (fun _ hk => by first | exact hk.2 | exact hk | exact hk.1 | exact hk.2 | (simp [hk]; done) | (simp at hk ⊢; simp [hk]; done)) (.string (rdOf ByteArray.empty t248 x56_2))) (fun _ h_ => h_.1))) hb); have n1_ := Aside0.mk (Kd.R_below (by (with_reducible repeat (first | apply Kd.R_alloc | apply Kd.R_drewN | apply Kd.R_drew)); exact (Kd.R_mono (Kd.R_far (p := ⟨gb253, 0, none⟩) (Kd.R_mono HO_54.out (fun k_ hk => (⟨hk, hk.2⟩ : _ ∧ k_ ≠ gb253))) (fun _ hk => by first | exact hk.2 | exact hk | exact hk.1 | exact hk.2 | (simp [hk]; done) | (simp at hk ⊢; simp [hk]; done)) (.string (rdOf ByteArray.empty t248 x56_2))) (fun _ h_ => h_.1))) hb); have n2_ := Aside0.mk (blk_below (g := gb231) (o := .cells #[.slice A1_0 l1_0.length c1_0, .slice A1_1 l1_1.length c1_1] 25 (0, 0)) blk_s hb); have n3_ := Aside0.mk (blk_below (g := gb253) (o := .cells #[.string (rdOf ByteArray.empty t248 x56_2)] 9 (0, 0)) (by (with_reducible repeat (first | refine blk_drewN ?_ _ | refine blk_drew ?_ | refine blk_alloc ?_ _)); refine blk_put (cs := #[.string (⟨#[]⟩ : ByteArray)]) ?_ 0 _ rfl; (with_reducible repeat (first | refine blk_drewN ?_ _ | refine blk_drew ?_ | refine blk_alloc ?_ _)); exact BK253.out) hb); have n4_ := Aside0.mk (below_step bel_s hb); clear HO_10; clear HO_54; clear BK231; clear BK253; clear HB; have HO_10 := n0_; have HO_54 := n1_; have BK231 := n2_; have BK253 := n3_; have HB := n4_; clear n0_ n1_ n2_ n3_ n4_; (try clear hb); (try clear hb2); (try clear hk); (try clear hi)))
                 have n0_ := Aside0.mk (Kd.R_drew HO_10.out)
                 have n1_ := Aside0.mk (Kd.R_drew HO_54.out)
                 have n2_ := Aside0.mk (blk_drew BK231.out)
                 have n3_ := Aside0.mk (blk_drew BK253.out)
                 have n4_ := Aside0.mk (below_drew1 HB.out)
                 clear HO_10
                 clear HO_54
                 clear BK231
                 clear BK253
                 clear HB
                 have HO_10 := n0_
                 have HO_54 := n1_
                 have BK231 := n2_
                 have BK253 := n3_
                 have HB := n4_
                 clear n0_ n1_ n2_ n3_ n4_
                 first
                  | clear hm6_1
                    obtain ⟨Aoze1, coze1, eoze1⟩ := Kd.R_slice HO_10.out
                    (first | subst eoze1 | (injection eoze1 with f1_ f2_ f3_; have f4_ := f1_.symm; have f5_ := f3_.symm; clear f1_ f2_ f3_; subst f4_; subst f5_))
                    have p255 : 0 ≤ ((ji53) : Int) := of_decide_eq_true (by first | (with_reducible assumption) | assumption)
                    have q255 : (ji53) < (x10_2.length : Int) := of_decide_eq_true (by first | (with_reducible assumption) | assumption)
                    obtain ⟨ad255, e255, hx255_0, hx255_1, hx255_2⟩ := at_T40 (Kd.R_reads' HO_10.out).2.2 (ji53) p255 q255
                    cases e255
                    replace p255 := eq_true p255
                    replace q255 := eq_true q255
                    have p256 : 0 ≤ (t254 : Int) := of_decide_eq_true (by first | (with_reducible assumption) | assumption)
                    have q256 : t254 < (l1_0.length : Int) := of_decide_eq_true (by first | (with_reducible assumption) | assumption)
                    obtain ⟨ad256, e256, hx256_0, hx256_1, hx256_2⟩ := at_T40 HR1_0.out t254 p256 q256
                    have hw256_2 := hx256_2
                    have hw256_1 := hx256_1
                    have hw256_0 := hx256_0
                    cases e256
                    replace hx256_0 := (HB.out.cell (World.block_lt_of_cell? w _ hx256_0)).trans hx256_0
                    replace hx256_1 := (HB.out.cell (World.block_lt_of_cell? w _ hx256_1)).trans hx256_1
                    replace hx256_2 := (HB.out.cell (World.block_lt_of_cell? w _ hx256_2)).trans hx256_2
                    replace p256 := eq_true p256
                    replace q256 := eq_true q256
                    refine start_ (n := 17) (S := fun w' => w'.cell? ⟨gb231, 0, none⟩ = some (.slice (some ad256) l1_0.length c1_0) ∧ w'.cell? ⟨gb231, 1, none⟩ = some (.slice A1_1 l1_1.length c1_1) ∧ w'.cell? (ad255.add (((ji53)).toNat * 3)) = some (.string ((rd_T40 x10_2 (ji53)).f0)) ∧ w'.cell? ⟨(ad255.add (((ji53)).toNat * 3)).block, (ad255.add (((ji53)).toNat * 3)).off + 1, none⟩ = some (.int .i64 ((rd_T40 x10_2 (ji53)).f1.f0)) ∧ w'.cell? ⟨(ad255.add (((ji53)).toNat * 3)).block, (ad255.add (((ji53)).toNat * 3)).off + 2, none⟩ = some (.int .i64 ((rd_T40 x10_2 (ji53)).f1.f1)) ∧ w'.cell? (ad256.add ((t254).toNat * 3)) = some (.string ((rd_T40 l1_0 t254).f0)) ∧ w'.cell? ⟨(ad256.add ((t254).toNat * 3)).block, (ad256.add ((t254).toNat * 3)).off + 1, none⟩ = some (.int .i64 ((rd_T40 l1_0 t254).f1.f0)) ∧ w'.cell? ⟨(ad256.add ((t254).toNat * 3)).block, (ad256.add ((t254).toNat * 3)).off + 2, none⟩ = some (.int .i64 ((rd_T40 l1_0 t254).f1.f1))) (ds := []) #[false, false, false, false, false, false, false, false, false, false, false, false, false, false, false, false, false] (by kernel_rfl) rfl rfl ⟨(blk_cell BK231.out 0).trans rfl, (blk_cell BK231.out 1).trans rfl, hx255_0, hx255_1, hx255_2, ((HB.out.cell (World.block_lt_of_cell? w _ hw256_0)).trans hw256_0), ((HB.out.cell (World.block_lt_of_cell? w _ hw256_1)).trans hw256_1), ((HB.out.cell (World.block_lt_of_cell? w _ hw256_2)).trans hw256_2)⟩ (fun hHeld => ?_); refine with_tabW route_Expand.tab17 route_Expand.bits17 (fun HT_ HW_ => ?_)
                    generalize wxbfb81.drew = wze1 at HO_10 HO_54 BK231 BK253 HB hx255_0 hx255_1 hx255_2 hx256_0 hx256_1 hx256_2 hHeld ⊢
                    refine pure_ (i := 0) (N := some 65) (v := ?_) (a' := ?_) #[true, false, false, false, false, false, false, false, false, false, false, false, false, false, false, false, false] rfl rfl (any_of HT_.out (by kernel_rfl)) (fun _ _ _ h => h) (Or.inl ⟨by rfl, ?_⟩) ?_ ?_
                    rotate_left
                    · intro w'
                      go_simp
                      with_reducible rfl
                    rotate_left
                    · simp only [Act.put, List.setIfInBounds_toArray, List.set_cons_zero, List.set_cons_succ, i64_w, i32_w]
                      rfl
                    refine pure_ (i := 1) (N := some 66) (v := ?_) (a' := ?_) #[true, true, false, false, false, false, false, false, false, false, false, false, false, false, false, false, false] rfl rfl (any_of HT_.out (by kernel_rfl)) (fun _ _ _ h => h) (Or.inl ⟨by rfl, ?_⟩) ?_ ?_
                    rotate_left
                    · intro w'
                      go_simp
                      with_reducible rfl
                    rotate_left
                    · simp only [Act.put, List.setIfInBounds_toArray, List.set_cons_zero, List.set_cons_succ, i64_w, i32_w]
                      rfl
                    refine pure_ (i := 2) (N := some 67) (v := ?_) (a' := ?_) #[true, true, true, false, false, false, false, false, false, false, false, false, false, false, false, false, false] rfl rfl (any_of HT_.out (by kernel_rfl)) (fun _ _ _ h => h) (Or.inl ⟨by rfl, ?_⟩) ?_ ?_
                    rotate_left
                    · intro w'
                      go_simp
                      with_reducible rfl
                    rotate_left
                    · simp only [Act.put, List.setIfInBounds_toArray, List.set_cons_zero, List.set_cons_succ, i64_w, i32_w]
                      rfl
                    refine pure_ (i := 3) (N := some 68) (v := ?_) (a' := ?_) #[true, true, true, true, false, false, false, false, false, false, false, false, false, false, false, false, false] rfl rfl (any_of HT_.out (by kernel_rfl)) (fun _ _ _ h => h) (Or.inl ⟨by rfl, ?_⟩) ?_ ?_
                    rotate_left
                    · intro w'
                      go_simp
                      with_reducible rfl
                    rotate_left
                    · simp only [Act.put, List.setIfInBounds_toArray, List.set_cons_zero, List.set_cons_succ, i64_w, i32_w]
                      rfl
                    refine pure_ (i := 4) (N := some 69) (v := ?_) (a' := ?_) #[true, true, true, true, true, false, false, false, false, false, false, false, false, false, false, false, false] rfl rfl (any_of HT_.out (by kernel_rfl)) (fun _ _ _ h => h) (Or.inl ⟨by rfl, ?_⟩) ?_ ?_
                    rotate_left
                    · intro w'
                      go_simp
                      with_reducible rfl
                    rotate_left
                    · simp only [Act.put, List.setIfInBounds_toArray, List.set_cons_zero, List.set_cons_succ, i64_w, i32_w]
                      rfl
                    refine pure_ (i := 5) (N := some 70) (v := ?_) (a' := ?_) #[true, true, true, true, true, true, false, false, false, false, false, false, false, false, false, false, false] rfl rfl (any_of HT_.out (by kernel_rfl)) (fun _ _ _ h => h) (Or.inl ⟨by rfl, ?_⟩) ?_ ?_
                    rotate_left
                    · intro w'
                      go_simp
                      with_reducible rfl
                    rotate_left
                    · simp only [Act.put, List.setIfInBounds_toArray, List.set_cons_zero, List.set_cons_succ, i64_w, i32_w]
                      rfl
                    refine pure_ (i := 6) (N := some 71) (v := ?_) (a' := ?_) #[true, true, true, true, true, true, true, false, false, false, false, false, false, false, false, false, false] rfl rfl (any_of HT_.out (by kernel_rfl)) (fun _ _ _ h => h) (Or.inl ⟨by rfl, ?_⟩) ?_ ?_
                    rotate_left
                    · intro w'
                      go_simp
                      with_reducible rfl
                    rotate_left
                    · simp only [Act.put, List.setIfInBounds_toArray, List.set_cons_zero, List.set_cons_succ, i64_w, i32_w]
                      rfl
                    refine pure_ (i := 7) (N := some 72) (v := ?_) (a' := ?_) #[true, true, true, true, true, true, true, true, false, false, false, false, false, false, false, false, false] rfl rfl (any_of HT_.out (by kernel_rfl)) (fun _ _ _ h => h) (Or.inl ⟨by rfl, ?_⟩) ?_ ?_
                    rotate_left
                    · intro w'
                      go_simp
                      with_reducible rfl
                    rotate_left
                    · simp only [Act.put, List.setIfInBounds_toArray, List.set_cons_zero, List.set_cons_succ, i64_w, i32_w]
                      rfl
                    refine pure_ (i := 9) (N := some 74) (v := ?_) (a' := ?_) #[true, true, true, true, true, true, true, true, false, true, false, false, false, false, false, false, false] rfl rfl (any_of HT_.out (by kernel_rfl)) (fun _ _ _ h => h) (Or.inl ⟨by rfl, ?_⟩) ?_ ?_
                    rotate_left
                    · intro w'
                      go_simp
                      with_reducible rfl
                    rotate_left
                    · simp only [Act.put, List.setIfInBounds_toArray, List.set_cons_zero, List.set_cons_succ, i64_w, i32_w]
                      rfl
                    refine pure_ (i := 11) (N := some 76) (v := ?_) (a' := ?_) #[true, true, true, true, true, true, true, true, false, true, false, true, false, false, false, false, false] rfl rfl (any_of HT_.out (by kernel_rfl)) (fun _ _ _ h => h) (Or.inl ⟨by rfl, ?_⟩) ?_ ?_
                    rotate_left
                    · intro w'
                      go_simp
                      with_reducible rfl
                    rotate_left
                    · simp only [Act.put, List.setIfInBounds_toArray, List.set_cons_zero, List.set_cons_succ, i64_w, i32_w]
                      rfl
                    refine take_ (i := 8) (N := some 73) (v := ?_) (a' := ?_) #[true, true, true, true, true, true, true, true, true, true, false, true, false, false, false, false, false] rfl rfl (take_ofW HT_.out HW_.out (by kernel_rfl)) (fun _ _ _ h => h) (Or.inl ⟨by rfl, ?_⟩) hHeld ?_ ?_
                    rotate_left
                    · rintro w' ⟨s0, s1, s2, s3, s4, s5, s6, s7⟩
                      go_simp
                      with_reducible rfl
                    rotate_left
                    · simp only [Act.put, List.setIfInBounds_toArray, List.set_cons_zero, List.set_cons_succ, i64_w, i32_w]
                      rfl
                    refine take_ (i := 10) (N := some 75) (v := ?_) (a' := ?_) #[true, true, true, true, true, true, true, true, true, true, true, true, false, false, false, false, false] rfl rfl (take_ofW HT_.out HW_.out (by kernel_rfl)) (fun _ _ _ h => h) (Or.inl ⟨by rfl, ?_⟩) hHeld ?_ ?_
                    rotate_left
                    · rintro w' ⟨s0, s1, s2, s3, s4, s5, s6, s7⟩
                      go_simp
                      with_reducible rfl
                    rotate_left
                    · simp only [Act.put, List.setIfInBounds_toArray, List.set_cons_zero, List.set_cons_succ, i64_w, i32_w]
                      rfl
                    refine pure_ (i := 12) (N := some 77) (v := ?_) (a' := ?_) #[true, true, true, true, true, true, true, true, true, true, true, true, true, false, false, false, false] rfl rfl (any_of HT_.out (by kernel_rfl)) (fun _ _ _ h => h) (Or.inl ⟨by rfl, ?_⟩) ?_ ?_
                    rotate_left
                    · intro w'
                      go_simp
                      with_reducible rfl
                    rotate_left
                    · simp only [Act.put, List.setIfInBounds_toArray, List.set_cons_zero, List.set_cons_succ, i64_w, i32_w]
                      rfl
                    refine pure_ (i := 13) (N := some 78) (v := ?_) (a' := ?_) #[true, true, true, true, true, true, true, true, true, true, true, true, true, true, false, false, false] rfl rfl (any_of HT_.out (by kernel_rfl)) (fun _ _ _ h => h) (Or.inl ⟨by rfl, ?_⟩) ?_ ?_
                    rotate_left
                    · intro w'
                      go_simp
                      with_reducible rfl
                    rotate_left
                    · simp only [Act.put, List.setIfInBounds_toArray, List.set_cons_zero, List.set_cons_succ, i64_w, i32_w]
                      rfl
                    refine take_ (i := 14) (N := some 79) (v := ?_) (a' := ?_) #[true, true, true, true, true, true, true, true, true, true, true, true, true, true, true, false, false] rfl rfl (take_ofW HT_.out HW_.out (by kernel_rfl)) (fun _ _ _ h => h) (Or.inl ⟨by rfl, ?_⟩) hHeld ?_ ?_
                    rotate_left
                    · rintro w' ⟨s0, s1, s2, s3, s4, s5, s6, s7⟩
                      go_simp
                      with_reducible rfl
                    rotate_left
                    · simp only [Act.put, List.setIfInBounds_toArray, List.set_cons_zero, List.set_cons_succ, i64_w, i32_w]
                      rfl
                    refine pure_ (i := 15) (N := some 80) (v := ?_) (a' := ?_) #[true, true, true, true, true, true, true, true, true, true, true, true, true, true, true, true, false] rfl rfl (any_of HT_.out (by kernel_rfl)) (fun _ _ _ h => h) (Or.inl ⟨by rfl, ?_⟩) ?_ ?_
                    rotate_left
                    · intro w'
                      go_simp
                      with_reducible rfl
                    rotate_left
                    · simp only [Act.put, List.setIfInBounds_toArray, List.set_cons_zero, List.set_cons_succ, i64_w, i32_w]
                      rfl
                    refine pure_ (i := 16) (N := some 81) (v := ?_) (a' := ?_) #[true, true, true, true, true, true, true, true, true, true, true, true, true, true, true, true, true] rfl rfl (any_of HT_.out (by kernel_rfl)) (fun _ _ _ h => h) (Or.inl ⟨by rfl, ?_⟩) ?_ ?_
                    rotate_left
                    · intro w'
                      go_simp
                      with_reducible rfl
                    rotate_left
                    · simp only [Act.put, List.setIfInBounds_toArray, List.set_cons_zero, List.set_cons_succ, i64_w, i32_w]
                      rfl
                    refine done_ (done_of HT_.out (by kernel_rfl)) ?_
                    have hczze1 : wze1.cell? ⟨gb231, 0, none⟩ = some (.slice (some ad256) l1_0.length c1_0) := (blk_cell BK231.out 0).trans rfl
                    have hczze2 : wze1.cell? ⟨gb231, 1, none⟩ = some (.slice A1_1 l1_1.length c1_1) := (blk_cell BK231.out 1).trans rfl
                    have hfzze1 := blk_frozen BK231.out 0
                    have hfzze2 := blk_frozen BK231.out 1
                    have p257 : 0 ≤ (t254 : Int) := of_decide_eq_true (by first | (with_reducible assumption) | assumption)
                    have q257 : t254 < (l1_0.length : Int) := of_decide_eq_true (by first | (with_reducible assumption) | assumption)
                    obtain ⟨ad257, e257, hx257_0, hx257_1, hx257_2⟩ := at_T40 HR1_0.out t254 p257 q257
                    obtain rfl : ad256 = ad257 := (by injection e257)
                    replace hx257_0 := (HB.out.cell (World.block_lt_of_cell? w _ hx257_0)).trans hx257_0
                    replace hx257_1 := (HB.out.cell (World.block_lt_of_cell? w _ hx257_1)).trans hx257_1
                    replace hx257_2 := (HB.out.cell (World.block_lt_of_cell? w _ hx257_2)).trans hx257_2
                    replace p257 := eq_true p257
                    replace q257 := eq_true q257
                    try go_wp2_with (first | ((with_reducible refine gate_builtin (b := .append) (xs := #[.tmp 82, .tmp 88]) rfl ?_); at_builtin; refine Kd.R_append k40 (w0 := w) w.heap.size rfl (.tmp 82) (.tmp 88) 22 40 (.agg #[(.string ⟨#[]⟩), (.int .i64 0), (.int .i64 0)]) 32 rfl Try.underlying22 info40 rfl (by decide) (by omega) (.slice (some ad255) x10_2.length coze1) x10_2 (⟨(rd_T40 l1_0 t254).f0, (⟨(rd_T40 l1_0 t254).f1.f0, (rd_T40 l1_0 t254).f1.f1⟩ : S36)⟩ : S40) [.string ((rd_T40 l1_0 t254).f0), .int .i64 ((rd_T40 l1_0 t254).f1.f0), .int .i64 ((rd_T40 l1_0 t254).f1.f1)] (fun k_ => (w.heap.size ≤ k_)) (fun _ => False) rfl rfl ?aP (fun _ hk => by first | exact hk.elim | exact hk | exact hk.1 | exact hk.2 | (simp [hk]; done) | (simp at hk ⊢; simp [hk]; done)) ?aF ?aO ?aB ?aS ?aL ?_; (case aP => exact k40_mkM _ _ _ (⟨(rd_T40 l1_0 t254).f0, (⟨(rd_T40 l1_0 t254).f1.f0, (rd_T40 l1_0 t254).f1.f1⟩ : S36)⟩ : S40)); (case aB => exact bel_s); (case aF => exact (fun k_ hk => by first | exact (Nat.le_trans (below_size bel_s) hk) | exact hk | exact hk.1 | exact hk.2 | (simp [hk]; done) | (simp at hk ⊢; simp [hk]; done))); (case aO => exact (by (with_reducible repeat (first | apply Kd.R_alloc | apply Kd.R_drewN | apply Kd.R_drew)); first | exact HO_10.out | exact Kd.R_mono HO_10.out (fun _ h_ => h_.1) | exact Kd.V_mono HO_10.out (fun _ h_ => h_.1) | exact Kd.N_mono HO_10.out (fun _ h_ => h_.1))); (case aS => exact (below_size bel_s)); (case aL => have := LMc66.out; omega); intro v259 wxc8b21 ho hb hg hat; rw [← Ny258.out] at ho; have n0_ := Aside0.mk (Kd.R_over' (by (with_reducible repeat (first | apply Kd.R_alloc | apply Kd.R_drewN | apply Kd.R_drew)); first | exact HO_54.out | exact Kd.R_mono HO_54.out (fun _ h_ => h_.1) | exact Kd.V_mono HO_54.out (fun _ h_ => h_.1) | exact Kd.N_mono HO_54.out (fun _ h_ => h_.1)) (Kd.R_typed (by (with_reducible repeat (first | apply Kd.R_alloc | apply Kd.R_drewN | apply Kd.R_drew)); first | exact HO_10.out | exact Kd.R_mono HO_10.out (fun _ h_ => h_.1) | exact Kd.V_mono HO_10.out (fun _ h_ => h_.1) | exact Kd.N_mono HO_10.out (fun _ h_ => h_.1))) (by decide) hg); have n1_ := Aside0.mk (blk_grown (g := gb231) (o := .cells #[.slice (some ad256) l1_0.length c1_0, .slice A1_1 l1_1.length c1_1] 25 (0, 0)) blk_s hg (Kd.R_ne HO_10.out BK231.out (by decide))); have n2_ := Aside0.mk (blk_grown (g := gb253) (o := .cells #[.string (rdOf ByteArray.empty t248 x56_2)] 9 (0, 0)) blk_s hg (Kd.R_ne HO_10.out BK253.out (by decide))); have n3_ := Aside0.mk (hb); have n4_ := Aside0.mk (ho); clear HO_54; clear BK231; clear BK253; clear HB; clear HO_10; have HO_54 := n0_; have BK231 := n1_; have BK253 := n2_; have HB := n3_; have HO260 := n4_; clear n0_ n1_ n2_ n3_ n4_; clear ho hb hg hat))
                    first | go_roundg k2 | (subst hji53; go_roundg k2)
                    case measure => have := HJ6.out; have := HK2.out; omega
                    case rel => exact ⟨(y258), (wrap64 (x56_2 + 1)), (by first | rfl | (simp; done) | (simp [*]; done)), H', ⟨by have := HJ6.out; have := HK2.out; omega⟩, ⟨by (with_reducible repeat (first | apply Kd.R_alloc | apply Kd.R_drewN | apply Kd.R_drew)); exact HO260.out⟩, ⟨by (with_reducible repeat (first | apply Kd.R_alloc | apply Kd.R_drewN | apply Kd.R_drew)); exact Kd.R_mono HO_54.out (fun _ hk => by first | exact hk.1 | exact hk | exact hk.1 | exact hk.2 | (simp [hk]; done) | (simp at hk ⊢; simp [hk]; done))⟩, ⟨by (with_reducible repeat (first | refine blk_drewN ?_ _ | refine blk_drew ?_ | refine blk_alloc ?_ _)); exact BK231.out⟩, ⟨by repeat (first | (with_reducible first | exact HB.out | apply below_alloc | apply pw_below_drewN | apply below_drew1 | refine below_set ?_ GE231.out | refine below_set ?_ GE253.out) | exact HB.out)⟩⟩
                  | clear hm6_2
                    refine start_ (n := 17) (S := fun w' => True) (ds := []) #[false, false, false, false, false, false, false, false, false, false, false, false, false, false, false, false, false] (by kernel_rfl) rfl rfl trivial (fun hHeld => ?_); refine with_tabW route_Expand.tab17 route_Expand.bits17 (fun HT_ HW_ => ?_)
                    generalize wxbfb81.drew = wze1 at HO_10 HO_54 BK231 BK253 HB hHeld ⊢
                    refine pure_ (i := 0) (N := some 65) (v := ?_) (a' := ?_) #[true, false, false, false, false, false, false, false, false, false, false, false, false, false, false, false, false] rfl rfl (any_of HT_.out (by kernel_rfl)) (fun _ _ _ h => h) (Or.inl ⟨by rfl, ?_⟩) ?_ ?_
                    rotate_left
                    · intro w'
                      go_simp
                      with_reducible rfl
                    rotate_left
                    · simp only [Act.put, List.setIfInBounds_toArray, List.set_cons_zero, List.set_cons_succ, i64_w, i32_w]
                      rfl
                    refine pure_ (i := 1) (N := some 66) (v := ?_) (a' := ?_) #[true, true, false, false, false, false, false, false, false, false, false, false, false, false, false, false, false] rfl rfl (any_of HT_.out (by kernel_rfl)) (fun _ _ _ h => h) (Or.inl ⟨by rfl, ?_⟩) ?_ ?_
                    rotate_left
                    · intro w'
                      go_simp
                      with_reducible rfl
                    rotate_left
                    · simp only [Act.put, List.setIfInBounds_toArray, List.set_cons_zero, List.set_cons_succ, i64_w, i32_w]
                      rfl
                    refine pure_ (i := 2) (N := some 67) (v := ?_) (a' := ?_) #[true, true, true, false, false, false, false, false, false, false, false, false, false, false, false, false, false] rfl rfl (any_of HT_.out (by kernel_rfl)) (fun _ _ _ h => h) (Or.inl ⟨by rfl, ?_⟩) ?_ ?_
                    rotate_left
                    · intro w'
                      go_simp
                      with_reducible rfl
                    rotate_left
                    · simp only [Act.put, List.setIfInBounds_toArray, List.set_cons_zero, List.set_cons_succ, i64_w, i32_w]
                      rfl
                    refine pure_ (i := 3) (N := some 68) (v := undef) (a' := ?_) #[true, true, true, true, false, false, false, false, false, false, false, false, false, false, false, false, false] rfl rfl (any_of HT_.out (by kernel_rfl)) (fun _ _ _ h => h) (Or.inr ⟨by rfl, rfl⟩) ?_ ?_
                    rotate_left
                    · simp only [Act.put, List.setIfInBounds_toArray, List.set_cons_zero, List.set_cons_succ, i64_w, i32_w]
                      rfl
                    refine pure_ (i := 4) (N := some 69) (v := undef) (a' := ?_) #[true, true, true, true, true, false, false, false, false, false, false, false, false, false, false, false, false] rfl rfl (any_of HT_.out (by kernel_rfl)) (fun _ _ _ h => h) (Or.inr ⟨by rfl, rfl⟩) ?_ ?_
                    rotate_left
                    · simp only [Act.put, List.setIfInBounds_toArray, List.set_cons_zero, List.set_cons_succ, i64_w, i32_w]
                      rfl
                    refine pure_ (i := 5) (N := some 70) (v := undef) (a' := ?_) #[true, true, true, true, true, true, false, false, false, false, false, false, false, false, false, false, false] rfl rfl (any_of HT_.out (by kernel_rfl)) (fun _ _ _ h => h) (Or.inr ⟨by rfl, rfl⟩) ?_ ?_
                    rotate_left
                    · simp only [Act.put, List.setIfInBounds_toArray, List.set_cons_zero, List.set_cons_succ, i64_w, i32_w]
                      rfl
                    refine pure_ (i := 6) (N := some 71) (v := undef) (a' := ?_) #[true, true, true, true, true, true, true, false, false, false, false, false, false, false, false, false, false] rfl rfl (any_of HT_.out (by kernel_rfl)) (fun _ _ _ h => h) (Or.inr ⟨by rfl, rfl⟩) ?_ ?_
                    rotate_left
                    · simp only [Act.put, List.setIfInBounds_toArray, List.set_cons_zero, List.set_cons_succ, i64_w, i32_w]
                      rfl
                    refine pure_ (i := 7) (N := some 72) (v := undef) (a' := ?_) #[true, true, true, true, true, true, true, true, false, false, false, false, false, false, false, false, false] rfl rfl (any_of HT_.out (by kernel_rfl)) (fun _ _ _ h => h) (Or.inr ⟨by rfl, rfl⟩) ?_ ?_
                    rotate_left
                    · simp only [Act.put, List.setIfInBounds_toArray, List.set_cons_zero, List.set_cons_succ, i64_w, i32_w]
                      rfl
                    refine pure_ (i := 8) (N := some 73) (v := undef) (a' := ?_) #[true, true, true, true, true, true, true, true, true, false, false, false, false, false, false, false, false] rfl rfl (any_of HT_.out (by kernel_rfl)) (fun _ _ _ h => h) (Or.inr ⟨by rfl, rfl⟩) ?_ ?_
                    rotate_left
                    · simp only [Act.put, List.setIfInBounds_toArray, List.set_cons_zero, List.set_cons_succ, i64_w, i32_w]
                      rfl
                    refine pure_ (i := 9) (N := some 74) (v := undef) (a' := ?_) #[true, true, true, true, true, true, true, true, true, true, false, false, false, false, false, false, false] rfl rfl (any_of HT_.out (by kernel_rfl)) (fun _ _ _ h => h) (Or.inr ⟨by rfl, rfl⟩) ?_ ?_
                    rotate_left
                    · simp only [Act.put, List.setIfInBounds_toArray, List.set_cons_zero, List.set_cons_succ, i64_w, i32_w]
                      rfl
                    refine pure_ (i := 10) (N := some 75) (v := undef) (a' := ?_) #[true, true, true, true, true, true, true, true, true, true, true, false, false, false, false, false, false] rfl rfl (any_of HT_.out (by kernel_rfl)) (fun _ _ _ h => h) (Or.inr ⟨by rfl, rfl⟩) ?_ ?_
                    rotate_left
                    · simp only [Act.put, List.setIfInBounds_toArray, List.set_cons_zero, List.set_cons_succ, i64_w, i32_w]
                      rfl
                    refine pure_ (i := 11) (N := some 76) (v := undef) (a' := ?_) #[true, true, true, true, true, true, true, true, true, true, true, true, false, false, false, false, false] rfl rfl (any_of HT_.out (by kernel_rfl)) (fun _ _ _ h => h) (Or.inr ⟨by rfl, rfl⟩) ?_ ?_
                    rotate_left
                    · simp only [Act.put, List.setIfInBounds_toArray, List.set_cons_zero, List.set_cons_succ, i64_w, i32_w]
                      rfl
                    refine pure_ (i := 12) (N := some 77) (v := undef) (a' := ?_) #[true, true, true, true, true, true, true, true, true, true, true, true, true, false, false, false, false] rfl rfl (any_of HT_.out (by kernel_rfl)) (fun _ _ _ h => h) (Or.inr ⟨by rfl, rfl⟩) ?_ ?_
                    rotate_left
                    · simp only [Act.put, List.setIfInBounds_toArray, List.set_cons_zero, List.set_cons_succ, i64_w, i32_w]
                      rfl
                    refine pure_ (i := 13) (N := some 78) (v := undef) (a' := ?_) #[true, true, true, true, true, true, true, true, true, true, true, true, true, true, false, false, false] rfl rfl (any_of HT_.out (by kernel_rfl)) (fun _ _ _ h => h) (Or.inr ⟨by rfl, rfl⟩) ?_ ?_
                    rotate_left
                    · simp only [Act.put, List.setIfInBounds_toArray, List.set_cons_zero, List.set_cons_succ, i64_w, i32_w]
                      rfl
                    refine pure_ (i := 14) (N := some 79) (v := undef) (a' := ?_) #[true, true, true, true, true, true, true, true, true, true, true, true, true, true, true, false, false] rfl rfl (any_of HT_.out (by kernel_rfl)) (fun _ _ _ h => h) (Or.inr ⟨by rfl, rfl⟩) ?_ ?_
                    rotate_left
                    · simp only [Act.put, List.setIfInBounds_toArray, List.set_cons_zero, List.set_cons_succ, i64_w, i32_w]
                      rfl
                    refine pure_ (i := 15) (N := some 80) (v := undef) (a' := ?_) #[true, true, true, true, true, true, true, true, true, true, true, true, true, true, true, true, false] rfl rfl (any_of HT_.out (by kernel_rfl)) (fun _ _ _ h => h) (Or.inr ⟨by rfl, rfl⟩) ?_ ?_
                    rotate_left
                    · simp only [Act.put, List.setIfInBounds_toArray, List.set_cons_zero, List.set_cons_succ, i64_w, i32_w]
                      rfl
                    refine pure_ (i := 16) (N := some 81) (v := ?_) (a' := ?_) #[true, true, true, true, true, true, true, true, true, true, true, true, true, true, true, true, true] rfl rfl (any_of HT_.out (by kernel_rfl)) (fun _ _ _ h => h) (Or.inl ⟨by rfl, ?_⟩) ?_ ?_
                    rotate_left
                    · intro w'
                      go_simp
                      with_reducible rfl
                    rotate_left
                    · simp only [Act.put, List.setIfInBounds_toArray, List.set_cons_zero, List.set_cons_succ, i64_w, i32_w]
                      rfl
                    refine done_ (done_of HT_.out (by kernel_rfl)) ?_
                    have hczze1 : wze1.cell? ⟨gb231, 0, none⟩ = some (.slice A1_0 l1_0.length c1_0) := (blk_cell BK231.out 0).trans rfl
                    have hczze2 : wze1.cell? ⟨gb231, 1, none⟩ = some (.slice A1_1 l1_1.length c1_1) := (blk_cell BK231.out 1).trans rfl
                    have hfzze1 := blk_frozen BK231.out 0
                    have hfzze2 := blk_frozen BK231.out 1
                    have p261 : 0 ≤ (t254 : Int) := of_decide_eq_true (by first | (with_reducible assumption) | assumption)
                    have q261 : t254 < (l1_0.length : Int) := of_decide_eq_true (by first | (with_reducible assumption) | assumption)
                    obtain ⟨ad261, e261, hx261_0, hx261_1, hx261_2⟩ := at_T40 HR1_0.out t254 p261 q261
                    cases e261
                    replace hx261_0 := (HB.out.cell (World.block_lt_of_cell? w _ hx261_0)).trans hx261_0
                    replace hx261_1 := (HB.out.cell (World.block_lt_of_cell? w _ hx261_1)).trans hx261_1
                    replace hx261_2 := (HB.out.cell (World.block_lt_of_cell? w _ hx261_2)).trans hx261_2
                    replace p261 := eq_true p261
                    replace q261 := eq_true q261
                    try go_wp2_with (first | ((with_reducible refine gate_builtin (b := .append) (xs := #[.tmp 82, .tmp 88]) rfl ?_); at_builtin; refine Kd.R_append k40 (w0 := w) w.heap.size rfl (.tmp 82) (.tmp 88) 22 40 (.agg #[(.string ⟨#[]⟩), (.int .i64 0), (.int .i64 0)]) 32 rfl Try.underlying22 info40 rfl (by decide) (by omega) u10 x10_2 (⟨(rd_T40 l1_0 t254).f0, (⟨(rd_T40 l1_0 t254).f1.f0, (rd_T40 l1_0 t254).f1.f1⟩ : S36)⟩ : S40) [.string ((rd_T40 l1_0 t254).f0), .int .i64 ((rd_T40 l1_0 t254).f1.f0), .int .i64 ((rd_T40 l1_0 t254).f1.f1)] (fun k_ => (w.heap.size ≤ k_)) (fun _ => False) rfl rfl ?aP (fun _ hk => by first | exact hk.elim | exact hk | exact hk.1 | exact hk.2 | (simp [hk]; done) | (simp at hk ⊢; simp [hk]; done)) ?aF ?aO ?aB ?aS ?aL ?_; (case aP => exact k40_mkM _ _ _ (⟨(rd_T40 l1_0 t254).f0, (⟨(rd_T40 l1_0 t254).f1.f0, (rd_T40 l1_0 t254).f1.f1⟩ : S36)⟩ : S40)); (case aB => exact bel_s); (case aF => exact (fun k_ hk => by first | exact (Nat.le_trans (below_size bel_s) hk) | exact hk | exact hk.1 | exact hk.2 | (simp [hk]; done) | (simp at hk ⊢; simp [hk]; done))); (case aO => exact (by (with_reducible repeat (first | apply Kd.R_alloc | apply Kd.R_drewN | apply Kd.R_drew)); first | exact HO_10.out | exact Kd.R_mono HO_10.out (fun _ h_ => h_.1) | exact Kd.V_mono HO_10.out (fun _ h_ => h_.1) | exact Kd.N_mono HO_10.out (fun _ h_ => h_.1))); (case aS => exact (below_size bel_s)); (case aL => have := LMc78.out; omega); intro v263 wx18111 ho hb hg hat; rw [← Ny262.out] at ho; have n0_ := Aside0.mk (Kd.R_over' (by (with_reducible repeat (first | apply Kd.R_alloc | apply Kd.R_drewN | apply Kd.R_drew)); first | exact HO_54.out | exact Kd.R_mono HO_54.out (fun _ h_ => h_.1) | exact Kd.V_mono HO_54.out (fun _ h_ => h_.1) | exact Kd.N_mono HO_54.out (fun _ h_ => h_.1)) (Kd.R_typed (by (with_reducible repeat (first | apply Kd.R_alloc | apply Kd.R_drewN | apply Kd.R_drew)); first | exact HO_10.out | exact Kd.R_mono HO_10.out (fun _ h_ => h_.1) | exact Kd.V_mono HO_10.out (fun _ h_ => h_.1) | exact Kd.N_mono HO_10.out (fun _ h_ => h_.1))) (by decide) hg); have n1_ := Aside0.mk (blk_grown (g := gb231) (o := .cells #[.slice (some ad261) l1_0.length c1_0, .slice A1_1 l1_1.length c1_1] 25 (0, 0)) blk_s hg (Kd.R_ne HO_10.out BK231.out (by decide))); have n2_ := Aside0.mk (blk_grown (g := gb253) (o := .cells #[.string (rdOf ByteArray.empty t248 x56_2)] 9 (0, 0)) blk_s hg (Kd.R_ne HO_10.out BK253.out (by decide))); have n3_ := Aside0.mk (hb); have n4_ := Aside0.mk (ho); clear HO_54; clear BK231; clear BK253; clear HB; clear HO_10; have HO_54 := n0_; have BK231 := n1_; have BK253 := n2_; have HB := n3_; have HO264 := n4_; clear n0_ n1_ n2_ n3_ n4_; clear ho hb hg hat))
                    go_roundg k2
                    case measure => have := HJ6.out; have := HK2.out; omega
                    case rel => exact ⟨(y262), (wrap64 (x56_2 + 1)), (by first | rfl | (simp; done) | (simp [*]; done)), H', ⟨by have := HJ6.out; have := HK2.out; omega⟩, ⟨by (with_reducible repeat (first | apply Kd.R_alloc | apply Kd.R_drewN | apply Kd.R_drew)); exact HO264.out⟩, ⟨by (with_reducible repeat (first | apply Kd.R_alloc | apply Kd.R_drewN | apply Kd.R_drew)); exact Kd.R_mono HO_54.out (fun _ hk => by first | exact hk.1 | exact hk | exact hk.1 | exact hk.2 | (simp [hk]; done) | (simp at hk ⊢; simp [hk]; done))⟩, ⟨by (with_reducible repeat (first | refine blk_drewN ?_ _ | refine blk_drew ?_ | refine blk_alloc ?_ _)); exact BK231.out⟩, ⟨by repeat (first | (with_reducible first | exact HB.out | apply below_alloc | apply pw_below_drewN | apply below_drew1 | refine below_set ?_ GE231.out | refine below_set ?_ GE253.out) | exact HB.out)⟩⟩
               | (first | (have _hm := hm6_3) | (have _hm := hm6_4))
                 go_wp2
                 go_ret2
                 first
                  | clear hm6_3
                    exact ⟨_, by first | rfl | (simp [errW_none, errW_some] <;> rfl) | (simp [*, errW_none, errW_some] <;> rfl), by first | exact Kd.R_nil _ _ _ _ _ | exact Kd.N_nil _ _ _ _ _ | exact Kd.V_nil _ _ _ _ _ | exact Kd.Q_nil _ _ _ _ _ | exact Kd.S_nil _ _ _ _ _, by repeat (first | (with_reducible first | exact HB.out | apply below_alloc | apply pw_below_drewN | apply below_drew1 | refine below_set ?_ GE231.out) | exact HB.out)⟩
                  | clear hm6_4
                    exact ⟨_, by first | rfl | (simp [errW_none, errW_some] <;> rfl) | (simp [*, errW_none, errW_some] <;> rfl), by (with_reducible repeat (first | apply Kd.R_alloc | apply Kd.R_drewN | apply Kd.R_drew)); exact HO_10.out, by repeat (first | (with_reducible first | exact HB.out | apply below_alloc | apply pw_below_drewN | apply below_drew1 | refine below_set ?_ GE231.out) | exact HB.out)⟩
         · rw [if_neg c32] at H
           have c32b0 : (t251 == 0) = false := beq_eq_false_iff_ne.mpr c32
           have c32b1 : (t251 != 0) = true := bne_iff_ne.mpr c32
           simp only [Option.some.injEq, Prod.mk.injEq] at H
           obtain ⟨rfl, rfl⟩ := H
           try go_wp2
           have n0_ := Aside0.mk (Kd.V_drew HO_231007.out)
           have n1_ := Aside0.mk (blk_drew BK230.out)
           have n2_ := Aside0.mk (blk_drew BK231.out)
           have n3_ := Aside0.mk (below_drew1 HB.out)
           clear HO_231007
           clear BK230
           clear BK231
           clear HB
           have HO_231007 := n0_
           have BK230 := n1_
           have BK231 := n2_
           have HB := n3_
           clear n0_ n1_ n2_ n3_
           refine start_ (n := 17) (S := fun w' => True) (ds := []) #[false, false, false, false, false, false, false, false, false, false, false, false, false, false, false, false, false] (by kernel_rfl) rfl rfl trivial (fun hHeld => ?_); refine with_tabW route_Expand.tab9 route_Expand.bits9 (fun HT_ HW_ => ?_)
           generalize wc.drew = wzc1 at HO_231007 BK230 BK231 HB hHeld ⊢
           refine pure_ (i := 0) (N := some 37) (v := ?_) (a' := ?_) #[true, false, false, false, false, false, false, false, false, false, false, false, false, false, false, false, false] rfl rfl (any_of HT_.out (by kernel_rfl)) (fun _ _ _ h => h) (Or.inl ⟨by rfl, ?_⟩) ?_ ?_
           rotate_left
           · intro w'
             go_simp
             with_reducible rfl
           rotate_left
           · simp only [Act.put, List.setIfInBounds_toArray, List.set_cons_zero, List.set_cons_succ, i64_w, i32_w]
             rfl
           refine pure_ (i := 3) (N := some 40) (v := ?_) (a' := ?_) #[true, false, false, true, false, false, false, false, false, false, false, false, false, false, false, false, false] rfl rfl (any_of HT_.out (by kernel_rfl)) (fun _ _ _ h => h) (Or.inl ⟨by rfl, ?_⟩) ?_ ?_
           rotate_left
           · intro w'
             go_simp
             with_reducible rfl
           rotate_left
           · simp only [Act.put, List.setIfInBounds_toArray, List.set_cons_zero, List.set_cons_succ, i64_w, i32_w]
             rfl
           refine pure_ (i := 5) (N := some 42) (v := ?_) (a' := ?_) #[true, false, false, true, false, true, false, false, false, false, false, false, false, false, false, false, false] rfl rfl (any_of HT_.out (by kernel_rfl)) (fun _ _ _ h => h) (Or.inl ⟨by rfl, ?_⟩) ?_ ?_
           rotate_left
           · intro w'
             go_simp
             with_reducible rfl
           rotate_left
           · simp only [Act.put, List.setIfInBounds_toArray, List.set_cons_zero, List.set_cons_succ, i64_w, i32_w]
             rfl
           refine inv_at [1, 2, 4, 6, 7, 8, 9, 10, 11, 12, 13, 14, 15, 16] (fun a0_ b a w' => ∃ (v237 : Value) (v240 : Value) (v243 : Value) (v246 : Value) (v249 : Value) (m11_ : Value) (m12_ : Value) (m13_ : Value) (m15_ : Value), a = putSel a0_ b [(1, 38, .string a0_2), (2, 39, v237), (4, 41, .slice A0_7 l0_7.length c0_7), (6, 43, .string a0_3), (7, 44, v240), (8, 45, v243), (9, 46, v246), (10, 47, .agg #[.slice A1_0 l1_0.length c1_0, .slice A1_1 l1_1.length c1_1]), (11, 48, m11_), (12, 36, m12_), (13, 49, m13_), (14, 50, .int .i64 t251), (15, 8, m15_), (16, 9, .int .i64 t251)] ∧ (Kd.V Kd.string 9 w' w.heap.size (fun k_ => (P0_7_ k_ ∨ w.heap.size ≤ k_) ∧ k_ ≠ gb230 ∧ k_ ≠ gb231) (.slice A0_7 l0_7.length c0_7) l0_7) ∧ (w'.heap[gb230]? = some (.cells #[.string a0_0, .string a0_1, .string a0_2, .string a0_3, .int .i64 a0_4, .int .i64 a0_5, .int .i64 a0_6, .slice A0_7 l0_7.length c0_7] 51 (0, 0))) ∧ (w'.heap[gb231]? = some (.cells #[.slice A1_0 l1_0.length c1_0, .slice A1_1 l1_1.length c1_1] 25 (0, 0))) ∧ (Below w.heap.size w w') ∧ (b 2 = true → b 8 = false → Kd.R Kd.string 9 w' w.heap.size (fun k_ => (w.heap.size ≤ k_)) v237 y236) ∧ (b 7 = true → b 8 = false → Kd.R Kd.string 9 w' w.heap.size (fun k_ => (w.heap.size ≤ k_)) v240 y239) ∧ (b 8 = true → Kd.N (Kd.slice 9 Kd.string) 27 w' w.heap.size (fun k_ => (P0_7_ k_ ∨ w.heap.size ≤ k_) ∧ k_ ≠ gb230 ∧ k_ ≠ gb231) v243 y242) ∧ (b 9 = true → Kd.R Kd.string 9 w' w.heap.size (fun k_ => (w.heap.size ≤ k_)) v246 t245) ∧ (b 11 = true → Kd.R Kd.string 9 w' w.heap.size (fun k_ => (w.heap.size ≤ k_)) v249 t248) ∧ (b 11 = true → (m11_ : Value) = .tuple #[v249, .int .i64 t251]) ∧ (b 12 = true → (m12_ : Value) = .tuple #[v249, .int .i64 t251]) ∧ (b 13 = true → (m13_ : Value) = v249) ∧ (b 15 = true → (m15_ : Value) = v249)) HT_.out HW_.out (by kernel_rfl) (by kernel_rfl) ?_ ?_ ?_
           · exact ⟨.bool false, .bool false, .bool false, .bool false, .bool false, .bool false, .bool false, .bool false, .bool false, by simp only [putSel, Bool.false_eq_true, if_false], HO_231007.out, BK230.out, BK231.out, HB.out, fun h_ => absurd h_ (by decide), fun h_ => absurd h_ (by decide), fun h_ => absurd h_ (by decide), fun h_ => absurd h_ (by decide), fun h_ => absurd h_ (by decide), fun h_ => absurd h_ (by decide), fun h_ => absurd h_ (by decide), fun h_ => absurd h_ (by decide), fun h_ => absurd h_ (by decide)⟩
           · skip
             clear BK230 BK231 HB HO_231007
             refine steps_cons ?_ ?_
             · rintro b a w' ⟨v237, v240, v243, v246, v249, m11_, m12_, m13_, m15_, ha, Q_HO_231007, Q_BK230, Q_BK231, Q_HB, Q_HO238, Q_HO241, Q_HO244, Q_HO247, Q_HO250, Q_X11_, Q_X12_, Q_X13_, Q_X15_⟩ hb_ hon hoff
               refine ⟨_, rfl, fun K hK => ?_⟩
               have e37 : a.tmps[37]? = some (.pointer (some ⟨gb230, 2, none⟩)) := by rw [ha]; exact (putSel_off rfl).trans rfl
               replace ha := Aside0.mk ha
               have HO_231007 := Aside0.mk Q_HO_231007
               have BK230 := Aside0.mk Q_BK230
               have BK231 := Aside0.mk Q_BK231
               have HB := Aside0.mk Q_HB
               have hc0_ : w'.cell? ⟨gb230, 0, none⟩ = some (.string a0_0) := (blk_cell BK230.out 0).trans rfl
               have hc1_ : w'.cell? ⟨gb230, 1, none⟩ = some (.string a0_1) := (blk_cell BK230.out 1).trans rfl
               have hc2_ : w'.cell? ⟨gb230, 2, none⟩ = some (.string a0_2) := (blk_cell BK230.out 2).trans rfl
               have hc3_ : w'.cell? ⟨gb230, 3, none⟩ = some (.string a0_3) := (blk_cell BK230.out 3).trans rfl
               have hc4_ : w'.cell? ⟨gb230, 4, none⟩ = some (.int .i64 a0_4) := (blk_cell BK230.out 4).trans rfl
               have hc5_ : w'.cell? ⟨gb230, 5, none⟩ = some (.int .i64 a0_5) := (blk_cell BK230.out 5).trans rfl
               have hc6_ : w'.cell? ⟨gb230, 6, none⟩ = some (.int .i64 a0_6) := (blk_cell BK230.out 6).trans rfl
               have hc7_ : w'.cell? ⟨gb230, 7, none⟩ = some (.slice A0_7 l0_7.length c0_7) := (blk_cell BK230.out 7).trans rfl
               refine value_ (w1 := w') (v := .string a0_2) (by rfl) rfl ?_ ?_
               · go_simp
                 (try simp only [i64_w])
                 try rfl
               refine hK.out _ _ ⟨v237, v240, v243, v246, v249, m11_, m12_, m13_, m15_, (by rw [ha.out]; exact putSel_upk 0 hb_ rfl rfl rfl), Q_HO_231007, Q_BK230, Q_BK231, Q_HB, fun h0_ _ => absurd ((hoff 2 (by kernel_rfl)).symm.trans h0_) (by decide), Q_HO241, fun h0_ => absurd ((hoff 8 (by kernel_rfl)).symm.trans h0_) (by decide), fun h0_ => absurd ((hoff 9 (by kernel_rfl)).symm.trans h0_) (by decide), fun h0_ => absurd ((hoff 11 (by kernel_rfl)).symm.trans h0_) (by decide), fun h0_ => absurd ((hoff 11 (by kernel_rfl)).symm.trans h0_) (by decide), fun h0_ => absurd ((hoff 12 (by kernel_rfl)).symm.trans h0_) (by decide), fun h0_ => absurd ((hoff 13 (by kernel_rfl)).symm.trans h0_) (by decide), fun h0_ => absurd ((hoff 15 (by kernel_rfl)).symm.trans h0_) (by decide)⟩
             refine steps_cons ?_ ?_
             · rintro b a w' ⟨v237, v240, v243, v246, v249, m11_, m12_, m13_, m15_, ha, Q_HO_231007, Q_BK230, Q_BK231, Q_HB, Q_HO238, Q_HO241, Q_HO244, Q_HO247, Q_HO250, Q_X11_, Q_X12_, Q_X13_, Q_X15_⟩ hb_ hon hoff
               refine ⟨_, rfl, fun K hK => ?_⟩
               have e38 : a.tmps[38]? = some (.string a0_2) := by rw [ha]; exact putSel_on (e := (1, 38, .string a0_2)) 0 rfl rfl (hon 1 (by kernel_rfl)) rfl
               replace ha := Aside0.mk ha
               have HO_231007 := Aside0.mk Q_HO_231007
               have BK230 := Aside0.mk Q_BK230
               have BK231 := Aside0.mk Q_BK231
               have HB := Aside0.mk Q_HB
               refine Kd.R_lit_step Kd.string _ 9 ?hg (N := 39) ?hd (xs := ([a0_2] : List ByteArray)) (inner := [.string a0_2]) (ok := fun _ => True) (okp := fun _ => True) ?hr ?hp (fun _ hk => hk) trivial (Below.refl _ _) (Nat.le_refl _) (by simp) ?_; (case hd => rfl); (case hg => rfl); (case hr => first | (go_simp; done) | (go_simp; rfl)); (case hp => exact (Reps.one (show Kd.M Kd.string _ _ _ a0_2 [.string a0_2] from rfl) (Reps.none _ _)))
               intro v237 wzc2 hozc1 hb hg_ hnew_
               clear hg_ hnew_
               (first | rw [← Ny236.out] at hozc1 | (simp only [Int.reduceToNat] at hozc1; rw [← Ny236.out] at hozc1))
               have n0_ := Aside0.mk (Kd.V_elder' (by (with_reducible repeat (first | apply Kd.V_alloc | apply Kd.V_drewN | apply Kd.V_drew)); first | exact HO_231007.out | exact Kd.R_mono HO_231007.out (fun _ h_ => h_.1) | exact Kd.V_mono HO_231007.out (fun _ h_ => h_.1) | exact Kd.N_mono HO_231007.out (fun _ h_ => h_.1)) (Kd.R_base hozc1) hb)
               have n1_ := Aside0.mk (Kd.R_lower (Kd.R_newM (M := fun k_ => (w.heap.size ≤ k_)) hozc1 (below_size bel_s) (fun k_ h_ => h_)) (below_size bel_s))
               have n2_ := Aside0.mk (blk_below (g := gb230) (o := .cells #[.string a0_0, .string a0_1, .string a0_2, .string a0_3, .int .i64 a0_4, .int .i64 a0_5, .int .i64 a0_6, .slice A0_7 l0_7.length c0_7] 51 (0, 0)) blk_s hb)
               have n3_ := Aside0.mk (blk_below (g := gb231) (o := .cells #[.slice A1_0 l1_0.length c1_0, .slice A1_1 l1_1.length c1_1] 25 (0, 0)) blk_s hb)
               have n4_ := Aside0.mk (below_step bel_s hb)
               have z_HO241 := fun (h0_ : b 7 = true) (h1_ : b 8 = false) => (show Kd.R Kd.string 9 wzc2 w.heap.size (fun k_ => (w.heap.size ≤ k_)) v240 y239 from by first | exact (Kd.R_elder' (by (with_reducible repeat (first | apply Kd.R_alloc | apply Kd.R_drewN | apply Kd.R_drew)); exact (Q_HO241 h0_ h1_)) (Kd.R_base hozc1) hb) | exact Kd.R_mono (Kd.R_elder' (by (with_reducible repeat (first | apply Kd.R_alloc | apply Kd.R_drewN | apply Kd.R_drew)); exact (Q_HO241 h0_ h1_)) (Kd.R_base hozc1) hb) (fun _ h_ => by first | trivial | exact h_ | exact h_.1))
               clear HO_231007
               clear BK230
               clear BK231
               clear HB
               have HO_231007 := n0_
               have HO238 := n1_
               have BK230 := n2_
               have BK231 := n3_
               have HB := n4_
               clear n0_ n1_ n2_ n3_ n4_
               clear hb hozc1
               refine hK.out _ _ ⟨v237, v240, v243, v246, v249, m11_, m12_, m13_, m15_, (by rw [ha.out]; exact putSel_upk 1 hb_ rfl rfl rfl), (by (with_reducible repeat (first | apply Kd.V_alloc | apply Kd.V_drewN | apply Kd.V_drew)); exact Kd.V_mono HO_231007.out (fun _ hk => by first | exact ⟨hk.1.1, ⟨hk.2, ⟨hk.1.2.1, hk.1.2.2⟩⟩⟩ | exact hk | exact hk.1 | exact hk.2 | (simp [hk]; done) | (simp at hk ⊢; simp [hk]; done))), blk_s, blk_s, bel_s, fun _ _ => (by (with_reducible repeat (first | apply Kd.R_alloc | apply Kd.R_drewN | apply Kd.R_drew)); exact Kd.R_mono HO238.out (fun _ hk => by first | exact hk.1 | exact hk | exact hk.1 | exact hk.2 | (simp [hk]; done) | (simp at hk ⊢; simp [hk]; done))), z_HO241, fun h0_ => absurd ((hoff 8 (by kernel_rfl)).symm.trans h0_) (by decide), fun h0_ => absurd ((hoff 9 (by kernel_rfl)).symm.trans h0_) (by decide), fun h0_ => absurd ((hoff 11 (by kernel_rfl)).symm.trans h0_) (by decide), fun h0_ => absurd ((hoff 11 (by kernel_rfl)).symm.trans h0_) (by decide), fun h0_ => absurd ((hoff 12 (by kernel_rfl)).symm.trans h0_) (by decide), fun h0_ => absurd ((hoff 13 (by kernel_rfl)).symm.trans h0_) (by decide), fun h0_ => absurd ((hoff 15 (by kernel_rfl)).symm.trans h0_) (by decide)⟩
             refine steps_cons ?_ ?_
             · rintro b a w' ⟨v237, v240, v243, v246, v249, m11_, m12_, m13_, m15_, ha, Q_HO_231007, Q_BK230, Q_BK231, Q_HB, Q_HO238, Q_HO241, Q_HO244, Q_HO247, Q_HO250, Q_X11_, Q_X12_, Q_X13_, Q_X15_⟩ hb_ hon hoff
               refine ⟨_, rfl, fun K hK => ?_⟩
               have e40 : a.tmps[40]? = some (.pointer (some ⟨gb230, 7, none⟩)) := by rw [ha]; exact (putSel_off rfl).trans rfl
               replace ha := Aside0.mk ha
               have HO_231007 := Aside0.mk Q_HO_231007
               have BK230 := Aside0.mk Q_BK230
               have BK231 := Aside0.mk Q_BK231
               have HB := Aside0.mk Q_HB
               have hc0_ : w'.cell? ⟨gb230, 0, none⟩ = some (.string a0_0) := (blk_cell BK230.out 0).trans rfl
               have hc1_ : w'.cell? ⟨gb230, 1, none⟩ = some (.string a0_1) := (blk_cell BK230.out 1).trans rfl
               have hc2_ : w'.cell? ⟨gb230, 2, none⟩ = some (.string a0_2) := (blk_cell BK230.out 2).trans rfl
               have hc3_ : w'.cell? ⟨gb230, 3, none⟩ = some (.string a0_3) := (blk_cell BK230.out 3).trans rfl
               have hc4_ : w'.cell? ⟨gb230, 4, none⟩ = some (.int .i64 a0_4) := (blk_cell BK230.out 4).trans rfl
               have hc5_ : w'.cell? ⟨gb230, 5, none⟩ = some (.int .i64 a0_5) := (blk_cell BK230.out 5).trans rfl
               have hc6_ : w'.cell? ⟨gb230, 6, none⟩ = some (.int .i64 a0_6) := (blk_cell BK230.out 6).trans rfl
               have hc7_ : w'.cell? ⟨gb230, 7, none⟩ = some (.slice A0_7 l0_7.length c0_7) := (blk_cell BK230.out 7).trans rfl
               refine value_ (w1 := w') (v := .slice A0_7 l0_7.length c0_7) (by rfl) rfl ?_ ?_
               · go_simp
                 (try simp only [i64_w])
                 try rfl
               refine hK.out _ _ ⟨v237, v240, v243, v246, v249, m11_, m12_, m13_, m15_, (by rw [ha.out]; exact putSel_upk 2 hb_ rfl rfl rfl), Q_HO_231007, Q_BK230, Q_BK231, Q_HB, Q_HO238, Q_HO241, fun h0_ => absurd ((hoff 8 (by kernel_rfl)).symm.trans h0_) (by decide), fun h0_ => absurd ((hoff 9 (by kernel_rfl)).symm.trans h0_) (by decide), fun h0_ => absurd ((hoff 11 (by kernel_rfl)).symm.trans h0_) (by decide), fun h0_ => absurd ((hoff 11 (by kernel_rfl)).symm.trans h0_) (by decide), fun h0_ => absurd ((hoff 12 (by kernel_rfl)).symm.trans h0_) (by decide), fun h0_ => absurd ((hoff 13 (by kernel_rfl)).symm.trans h0_) (by decide), fun h0_ => absurd ((hoff 15 (by kernel_rfl)).symm.trans h0_) (by decide)⟩
             refine steps_cons ?_ ?_
             · rintro b a w' ⟨v237, v240, v243, v246, v249, m11_, m12_, m13_, m15_, ha, Q_HO_231007, Q_BK230, Q_BK231, Q_HB, Q_HO238, Q_HO241, Q_HO244, Q_HO247, Q_HO250, Q_X11_, Q_X12_, Q_X13_, Q_X15_⟩ hb_ hon hoff
               refine ⟨_, rfl, fun K hK => ?_⟩
               have e42 : a.tmps[42]? = some (.pointer (some ⟨gb230, 3, none⟩)) := by rw [ha]; exact (putSel_off rfl).trans rfl
               replace ha := Aside0.mk ha
               have HO_231007 := Aside0.mk Q_HO_231007
               have BK230 := Aside0.mk Q_BK230
               have BK231 := Aside0.mk Q_BK231
               have HB := Aside0.mk Q_HB
               have hc0_ : w'.cell? ⟨gb230, 0, none⟩ = some (.string a0_0) := (blk_cell BK230.out 0).trans rfl
               have hc1_ : w'.cell? ⟨gb230, 1, none⟩ = some (.string a0_1) := (blk_cell BK230.out 1).trans rfl
               have hc2_ : w'.cell? ⟨gb230, 2, none⟩ = some (.string a0_2) := (blk_cell BK230.out 2).trans rfl
               have hc3_ : w'.cell? ⟨gb230, 3, none⟩ = some (.string a0_3) := (blk_cell BK230.out 3).trans rfl
               have hc4_ : w'.cell? ⟨gb230, 4, none⟩ = some (.int .i64 a0_4) := (blk_cell BK230.out 4).trans rfl
               have hc5_ : w'.cell? ⟨gb230, 5, none⟩ = some (.int .i64 a0_5) := (blk_cell BK230.out 5).trans rfl
               have hc6_ : w'.cell? ⟨gb230, 6, none⟩ = some (.int .i64 a0_6) := (blk_cell BK230.out 6).trans rfl
               have hc7_ : w'.cell? ⟨gb230, 7, none⟩ = some (.slice A0_7 l0_7.length c0_7) := (blk_cell BK230.out 7).trans rfl
               refine value_ (w1 := w') (v := .string a0_3) (by rfl) rfl ?_ ?_
               · go_simp
                 (try simp only [i64_w])
                 try rfl
               refine hK.out _ _ ⟨v237, v240, v243, v246, v249, m11_, m12_, m13_, m15_, (by rw [ha.out]; exact putSel_upk 3 hb_ rfl rfl rfl), Q_HO_231007, Q_BK230, Q_BK231, Q_HB, Q_HO238, fun h0_ _ => absurd ((hoff 7 (by kernel_rfl)).symm.trans h0_) (by decide), fun h0_ => absurd ((hoff 8 (by kernel_rfl)).symm.trans h0_) (by decide), fun h0_ => absurd ((hoff 9 (by kernel_rfl)).symm.trans h0_) (by decide), fun h0_ => absurd ((hoff 11 (by kernel_rfl)).symm.trans h0_) (by decide), fun h0_ => absurd ((hoff 11 (by kernel_rfl)).symm.trans h0_) (by decide), fun h0_ => absurd ((hoff 12 (by kernel_rfl)).symm.trans h0_) (by decide), fun h0_ => absurd ((hoff 13 (by kernel_rfl)).symm.trans h0_) (by decide), fun h0_ => absurd ((hoff 15 (by kernel_rfl)).symm.trans h0_) (by decide)⟩
             refine steps_cons ?_ ?_
             · rintro b a w' ⟨v237, v240, v243, v246, v249, m11_, m12_, m13_, m15_, ha, Q_HO_231007, Q_BK230, Q_BK231, Q_HB, Q_HO238, Q_HO241, Q_HO244, Q_HO247, Q_HO250, Q_X11_, Q_X12_, Q_X13_, Q_X15_⟩ hb_ hon hoff
               refine ⟨_, rfl, fun K hK => ?_⟩
               have e43 : a.tmps[43]? = some (.string a0_3) := by rw [ha]; exact putSel_on (e := (6, 43, .string a0_3)) 3 rfl rfl (hon 6 (by kernel_rfl)) rfl
               replace ha := Aside0.mk ha
               have HO_231007 := Aside0.mk Q_HO_231007
               have BK230 := Aside0.mk Q_BK230
               have BK231 := Aside0.mk Q_BK231
               have HB := Aside0.mk Q_HB
               refine Kd.R_lit_step Kd.string _ 9 ?hg (N := 44) ?hd (xs := ([a0_3] : List ByteArray)) (inner := [.string a0_3]) (ok := fun _ => True) (okp := fun _ => True) ?hr ?hp (fun _ hk => hk) trivial (Below.refl _ _) (Nat.le_refl _) (by simp) ?_; (case hd => rfl); (case hg => rfl); (case hr => first | (go_simp; done) | (go_simp; rfl)); (case hp => exact (Reps.one (show Kd.M Kd.string _ _ _ a0_3 [.string a0_3] from rfl) (Reps.none _ _)))
               intro v240 wzc2 hozc1 hb hg_ hnew_
               clear hg_ hnew_
               (first | rw [← Ny239.out] at hozc1 | (simp only [Int.reduceToNat] at hozc1; rw [← Ny239.out] at hozc1))
               have n0_ := Aside0.mk (Kd.V_elder' (by (with_reducible repeat (first | apply Kd.V_alloc | apply Kd.V_drewN | apply Kd.V_drew)); first | exact HO_231007.out | exact Kd.R_mono HO_231007.out (fun _ h_ => h_.1) | exact Kd.V_mono HO_231007.out (fun _ h_ => h_.1) | exact Kd.N_mono HO_231007.out (fun _ h_ => h_.1)) (Kd.R_base hozc1) hb)
               have n1_ := Aside0.mk (Kd.R_lower (Kd.R_newM (M := fun k_ => (w.heap.size ≤ k_)) hozc1 (below_size bel_s) (fun k_ h_ => h_)) (below_size bel_s))
               have n2_ := Aside0.mk (blk_below (g := gb230) (o := .cells #[.string a0_0, .string a0_1, .string a0_2, .string a0_3, .int .i64 a0_4, .int .i64 a0_5, .int .i64 a0_6, .slice A0_7 l0_7.length c0_7] 51 (0, 0)) blk_s hb)
               have n3_ := Aside0.mk (blk_below (g := gb231) (o := .cells #[.slice A1_0 l1_0.length c1_0, .slice A1_1 l1_1.length c1_1] 25 (0, 0)) blk_s hb)
               have n4_ := Aside0.mk (below_step bel_s hb)
               have z_HO238 := fun (h0_ : b 2 = true) (h1_ : b 8 = false) => (show Kd.R Kd.string 9 wzc2 w.heap.size (fun k_ => (w.heap.size ≤ k_)) v237 y236 from by first | exact (Kd.R_elder' (by (with_reducible repeat (first | apply Kd.R_alloc | apply Kd.R_drewN | apply Kd.R_drew)); exact (Q_HO238 h0_ h1_)) (Kd.R_base hozc1) hb) | exact Kd.R_mono (Kd.R_elder' (by (with_reducible repeat (first | apply Kd.R_alloc | apply Kd.R_drewN | apply Kd.R_drew)); exact (Q_HO238 h0_ h1_)) (Kd.R_base hozc1) hb) (fun _ h_ => by first | trivial | exact h_ | exact h_.1))
               clear HO_231007
               clear BK230
               clear BK231
               clear HB
               have HO_231007 := n0_
               have HO241 := n1_
               have BK230 := n2_
               have BK231 := n3_
               have HB := n4_
               clear n0_ n1_ n2_ n3_ n4_
               clear hb hozc1
               refine hK.out _ _ ⟨v237, v240, v243, v246, v249, m11_, m12_, m13_, m15_, (by rw [ha.out]; exact putSel_upk 4 hb_ rfl rfl rfl), (by (with_reducible repeat (first | apply Kd.V_alloc | apply Kd.V_drewN | apply Kd.V_drew)); exact Kd.V_mono HO_231007.out (fun _ hk => by first | exact ⟨hk.1.1, ⟨hk.2, ⟨hk.1.2.1, hk.1.2.2⟩⟩⟩ | exact hk | exact hk.1 | exact hk.2 | (simp [hk]; done) | (simp at hk ⊢; simp [hk]; done))), blk_s, blk_s, bel_s, z_HO238, fun _ _ => (by (with_reducible repeat (first | apply Kd.R_alloc | apply Kd.R_drewN | apply Kd.R_drew)); exact Kd.R_mono HO241.out (fun _ hk => by first | exact hk.1 | exact hk | exact hk.1 | exact hk.2 | (simp [hk]; done) | (simp at hk ⊢; simp [hk]; done))), fun h0_ => absurd ((hoff 8 (by kernel_rfl)).symm.trans h0_) (by decide), fun h0_ => absurd ((hoff 9 (by kernel_rfl)).symm.trans h0_) (by decide), fun h0_ => absurd ((hoff 11 (by kernel_rfl)).symm.trans h0_) (by decide), fun h0_ => absurd ((hoff 11 (by kernel_rfl)).symm.trans h0_) (by decide), fun h0_ => absurd ((hoff 12 (by kernel_rfl)).symm.trans h0_) (by decide), fun h0_ => absurd ((hoff 13 (by kernel_rfl)).symm.trans h0_) (by decide), fun h0_ => absurd ((hoff 15 (by kernel_rfl)).symm.trans h0_) (by decide)⟩
             refine steps_cons ?_ ?_
             · rintro b a w' ⟨v237, v240, v243, v246, v249, m11_, m12_, m13_, m15_, ha, Q_HO_231007, Q_BK230, Q_BK231, Q_HB, Q_HO238, Q_HO241, Q_HO244, Q_HO247, Q_HO250, Q_X11_, Q_X12_, Q_X13_, Q_X15_⟩ hb_ hon hoff
               refine ⟨_, rfl, fun K hK => ?_⟩
               have e39 : a.tmps[39]? = some (v237) := by rw [ha]; exact putSel_on (e := (2, 39, v237)) 1 rfl rfl (hon 2 (by kernel_rfl)) rfl
               have e41 : a.tmps[41]? = some (.slice A0_7 l0_7.length c0_7) := by rw [ha]; exact putSel_on (e := (4, 41, .slice A0_7 l0_7.length c0_7)) 2 rfl rfl (hon 4 (by kernel_rfl)) rfl
               have e44 : a.tmps[44]? = some (v240) := by rw [ha]; exact putSel_on (e := (7, 44, v240)) 4 rfl rfl (hon 7 (by kernel_rfl)) rfl
               replace ha := Aside0.mk ha
               have HO_231007 := Aside0.mk Q_HO_231007
               have BK230 := Aside0.mk Q_BK230
               have BK231 := Aside0.mk Q_BK231
               have HB := Aside0.mk Q_HB
               have HO238 := Aside0.mk (Q_HO238 (hon 2 (by kernel_rfl)) hb_)
               have HO241 := Aside0.mk (Q_HO241 (hon 7 (by kernel_rfl)) hb_)
               obtain ⟨Aozc1, cozc1, eozc1⟩ := Kd.R_slice HO238.out
               (first | subst eozc1 | (injection eozc1 with f1_ f2_ f3_; have f4_ := f1_.symm; have f5_ := f3_.symm; clear f1_ f2_ f3_; subst f4_; subst f5_))
               obtain ⟨Aozc2, cozc2, eozc2⟩ := Kd.R_slice HO241.out
               (first | subst eozc2 | (injection eozc2 with f1_ f2_ f3_; have f4_ := f1_.symm; have f5_ := f3_.symm; clear f1_ f2_ f3_; subst f4_; subst f5_))
               refine Kd.N_lit_step (Kd.slice 9 Kd.string) _ 27 ?hg (N' := 45) ?hd (xs := ([y236, l0_7, y239] : List (List ByteArray))) (inner := [.slice Aozc1 y236.length cozc1, .slice A0_7 l0_7.length c0_7, .slice Aozc2 y239.length cozc2]) (ok := (fun k_ => (P0_7_ k_ ∨ w.heap.size ≤ k_) ∧ k_ ≠ gb230 ∧ k_ ≠ gb231)) (okp := (fun k_ => (P0_7_ k_ ∨ w.heap.size ≤ k_) ∧ k_ ≠ gb230 ∧ k_ ≠ gb231)) ?hr ?hp (fun _ hk => hk) ((show ∀ k_, w'.heap.size ≤ k_ → (fun k_ => (P0_7_ k_ ∨ w.heap.size ≤ k_) ∧ k_ ≠ gb230 ∧ k_ ≠ gb231) k_ from fun k_ hk => ⟨(.inr (Nat.le_trans (below_size bel_s) hk)), Kd.freshB (g := gb230) (o := .cells #[.string a0_0, .string a0_1, .string a0_2, .string a0_3, .int .i64 a0_4, .int .i64 a0_5, .int .i64 a0_6, .slice A0_7 l0_7.length c0_7] 51 (0, 0)) blk_s k_ hk, Kd.freshB (g := gb231) (o := .cells #[.slice A1_0 l1_0.length c1_0, .slice A1_1 l1_1.length c1_1] 25 (0, 0)) blk_s k_ hk⟩) _ (Nat.le_refl _)) (Below.refl _ _) (Nat.le_refl _) (by simp) ?_; (case hd => rfl); (case hg => rfl); (case hr => first | (go_simp; done) | (go_simp; rfl)); (case hp => exact (Reps.one (show Kd.FK (Kd.slice 9 Kd.string) _ _ y236 [.slice Aozc1 y236.length cozc1] from (Kd.FK_slice_mk (Kd.R_reads' (Kd.R_mono (ok' := (fun k_ => (P0_7_ k_ ∨ w.heap.size ≤ k_) ∧ k_ ≠ gb230 ∧ k_ ≠ gb231)) (Kd.R_types (Kd.R_types (HO238.out) BK230.out (by decide)) BK231.out (by decide)) (fun k_ hk => by first | exact ⟨(.inr (hk.1.1.1)), ⟨hk.1.2, hk.2⟩⟩ | exact hk | exact hk.1 | exact hk.2 | (simp [hk]; done) | (simp at hk ⊢; simp [hk]; done)))).2.1 (Kd.R_F (Kd.R_mono (ok' := (fun k_ => (P0_7_ k_ ∨ w.heap.size ≤ k_) ∧ k_ ≠ gb230 ∧ k_ ≠ gb231)) (Kd.R_types (Kd.R_types (HO238.out) BK230.out (by decide)) BK231.out (by decide)) (fun k_ hk => by first | exact ⟨(.inr (hk.1.1.1)), ⟨hk.1.2, hk.2⟩⟩ | exact hk | exact hk.1 | exact hk.2 | (simp [hk]; done) | (simp at hk ⊢; simp [hk]; done)))))) (Reps.one (show Kd.FK (Kd.slice 9 Kd.string) _ _ l0_7 [.slice A0_7 l0_7.length c0_7] from (Kd.FK_slice_mk (Kd.V_reads' (Kd.V_mono (ok' := (fun k_ => (P0_7_ k_ ∨ w.heap.size ≤ k_) ∧ k_ ≠ gb230 ∧ k_ ≠ gb231)) (HO_231007.out) (fun k_ hk => by first | exact ⟨hk.1, ⟨hk.2.2.2.1, hk.2.2.2.2⟩⟩ | exact hk | exact hk.1 | exact hk.2 | (simp [hk]; done) | (simp at hk ⊢; simp [hk]; done)))).2.1 (Kd.V_F (Kd.V_mono (ok' := (fun k_ => (P0_7_ k_ ∨ w.heap.size ≤ k_) ∧ k_ ≠ gb230 ∧ k_ ≠ gb231)) (HO_231007.out) (fun k_ hk => by first | exact ⟨hk.1, ⟨hk.2.2.2.1, hk.2.2.2.2⟩⟩ | exact hk | exact hk.1 | exact hk.2 | (simp [hk]; done) | (simp at hk ⊢; simp [hk]; done)))))) (Reps.one (show Kd.FK (Kd.slice 9 Kd.string) _ _ y239 [.slice Aozc2 y239.length cozc2] from (Kd.FK_slice_mk (Kd.R_reads' (Kd.R_mono (ok' := (fun k_ => (P0_7_ k_ ∨ w.heap.size ≤ k_) ∧ k_ ≠ gb230 ∧ k_ ≠ gb231)) (Kd.R_types (Kd.R_types (HO241.out) BK230.out (by decide)) BK231.out (by decide)) (fun k_ hk => by first | exact ⟨(.inr (hk.1.1.1)), ⟨hk.1.2, hk.2⟩⟩ | exact hk | exact hk.1 | exact hk.2 | (simp [hk]; done) | (simp at hk ⊢; simp [hk]; done)))).2.1 (Kd.R_F (Kd.R_mono (ok' := (fun k_ => (P0_7_ k_ ∨ w.heap.size ≤ k_) ∧ k_ ≠ gb230 ∧ k_ ≠ gb231)) (Kd.R_types (Kd.R_types (HO241.out) BK230.out (by decide)) BK231.out (by decide)) (fun k_ hk => by first | exact ⟨(.inr (hk.1.1.1)), ⟨hk.1.2, hk.2⟩⟩ | exact hk | exact hk.1 | exact hk.2 | (simp [hk]; done) | (simp at hk ⊢; simp [hk]; done)))))) (Reps.none _ _)))))
               intro v243 wzc3 hozc2 hb hg_ hnew_
               clear hg_ hnew_
               (first | rw [← Ny242.out] at hozc2 | (simp only [Int.reduceToNat] at hozc2; rw [← Ny242.out] at hozc2))
               have n0_ := Aside0.mk (Kd.V_elder' (by (with_reducible repeat (first | apply Kd.V_alloc | apply Kd.V_drewN | apply Kd.V_drew)); first | exact HO_231007.out | exact Kd.R_mono HO_231007.out (fun _ h_ => h_.1) | exact Kd.V_mono HO_231007.out (fun _ h_ => h_.1) | exact Kd.N_mono HO_231007.out (fun _ h_ => h_.1)) (Kd.N_base hozc2) hb)
               have n1_ := Aside0.mk (Kd.N_lower hozc2 (below_size bel_s))
               have n2_ := Aside0.mk (blk_below (g := gb230) (o := .cells #[.string a0_0, .string a0_1, .string a0_2, .string a0_3, .int .i64 a0_4, .int .i64 a0_5, .int .i64 a0_6, .slice A0_7 l0_7.length c0_7] 51 (0, 0)) blk_s hb)
               have n3_ := Aside0.mk (blk_below (g := gb231) (o := .cells #[.slice A1_0 l1_0.length c1_0, .slice A1_1 l1_1.length c1_1] 25 (0, 0)) blk_s hb)
               have n4_ := Aside0.mk (below_step bel_s hb)
               clear HO_231007
               clear BK230
               clear BK231
               clear HB
               clear HO238
               clear HO241
               have HO_231007 := n0_
               have HO244 := n1_
               have BK230 := n2_
               have BK231 := n3_
               have HB := n4_
               clear n0_ n1_ n2_ n3_ n4_
               clear hb hozc2
               refine hK.out _ _ ⟨.slice Aozc1 y236.length cozc1, .slice Aozc2 y239.length cozc2, v243, v246, v249, m11_, m12_, m13_, m15_, (by rw [ha.out]; exact putSel_upk 5 hb_ rfl rfl rfl), (by (with_reducible repeat (first | apply Kd.V_alloc | apply Kd.V_drewN | apply Kd.V_drew)); exact Kd.V_mono HO_231007.out (fun _ hk => by first | exact ⟨hk.1.1, ⟨hk.2, ⟨hk.1.2.2.2.1, hk.1.2.2.2.2⟩⟩⟩ | exact hk | exact hk.1 | exact hk.2 | (simp [hk]; done) | (simp at hk ⊢; simp [hk]; done))), blk_s, blk_s, bel_s, fun _ h1_ => absurd ((up_self b 8).symm.trans h1_) (by decide), fun _ h1_ => absurd ((up_self b 8).symm.trans h1_) (by decide), fun _ => (by (with_reducible repeat (first | apply Kd.N_alloc | apply Kd.N_drewN | apply Kd.N_drew)); first | exact HO244.out | exact Kd.R_mono HO244.out (fun _ h_ => h_.1) | exact Kd.V_mono HO244.out (fun _ h_ => h_.1) | exact Kd.N_mono HO244.out (fun _ h_ => h_.1)), fun h0_ => absurd ((hoff 9 (by kernel_rfl)).symm.trans h0_) (by decide), fun h0_ => absurd ((hoff 11 (by kernel_rfl)).symm.trans h0_) (by decide), fun h0_ => absurd ((hoff 11 (by kernel_rfl)).symm.trans h0_) (by decide), fun h0_ => absurd ((hoff 12 (by kernel_rfl)).symm.trans h0_) (by decide), fun h0_ => absurd ((hoff 13 (by kernel_rfl)).symm.trans h0_) (by decide), fun h0_ => absurd ((hoff 15 (by kernel_rfl)).symm.trans h0_) (by decide)⟩
             refine steps_cons ?_ ?_
             · rintro b a w' ⟨v237, v240, v243, v246, v249, m11_, m12_, m13_, m15_, ha, Q_HO_231007, Q_BK230, Q_BK231, Q_HB, Q_HO238, Q_HO241, Q_HO244, Q_HO247, Q_HO250, Q_X11_, Q_X12_, Q_X13_, Q_X15_⟩ hb_ hon hoff
               refine ⟨_, rfl, fun K hK => ?_⟩
               have e45 : a.tmps[45]? = some (v243) := by rw [ha]; exact putSel_on (e := (8, 45, v243)) 5 rfl rfl (hon 8 (by kernel_rfl)) rfl
               replace ha := Aside0.mk ha
               have HO_231007 := Aside0.mk Q_HO_231007
               have BK230 := Aside0.mk Q_BK230
               have BK231 := Aside0.mk Q_BK231
               have HB := Aside0.mk Q_HB
               have HO244 := Aside0.mk (Q_HO244 (hon 8 (by kernel_rfl)))
               obtain ⟨Aozc3, cozc3, eozc3⟩ := Kd.N_slice HO244.out
               (first | subst eozc3 | (injection eozc3 with f1_ f2_ f3_; have f4_ := f1_.symm; have f5_ := f3_.symm; clear f1_ f2_ f3_; subst f4_; subst f5_))
               refine goes_ Try.func66 (by kernel_rfl) rfl #[.slice Aozc3 y242.length cozc3] (by rfl) rfl rfl (by first | (simp only [List.map_toArray, List.map_cons, List.map_nil, Act.eval, Array.getD_eq_getD_getElem?, Option.getD_some, e45]; done) | (simp only [List.map_toArray, List.map_cons, List.map_nil, Act.eval, Array.getD_eq_getD_getElem?, Option.getD_some, e45]; rfl)) ?_
               with_reducible refine (slices_Concat_string_string.calls kj6 _ _ y242 t245 _ ?side1 ?side2 A30.out).mono ?_
               (case side1 => repeat (first | exact (Kd.N_reads' HO244.out).2.2 | (with_reducible refine Kd.C_alloc ?_ _) | (with_reducible refine Kd.C_drewN ?_ _) | (with_reducible refine Kd.C_drew ?_)))
               (case side2 => exact (Kd.N_reads' HO244.out).2.1)
               rintro e wzc4 ⟨v246, rfl, hozc3, hb⟩
               refine ⟨_, rfl, ?_⟩
               have n0_ := Aside0.mk (Kd.V_elder' (by (with_reducible repeat (first | apply Kd.V_alloc | apply Kd.V_drewN | apply Kd.V_drew)); first | exact HO_231007.out | exact Kd.R_mono HO_231007.out (fun _ h_ => h_.1) | exact Kd.V_mono HO_231007.out (fun _ h_ => h_.1) | exact Kd.N_mono HO_231007.out (fun _ h_ => h_.1)) (Kd.R_base hozc3) hb)
               have n1_ := Aside0.mk (Kd.N_elder' (by (with_reducible repeat (first | apply Kd.N_alloc | apply Kd.N_drewN | apply Kd.N_drew)); first | exact HO244.out | exact Kd.R_mono HO244.out (fun _ h_ => h_.1) | exact Kd.V_mono HO244.out (fun _ h_ => h_.1) | exact Kd.N_mono HO244.out (fun _ h_ => h_.1)) (Kd.R_base hozc3) hb)
               have n2_ := Aside0.mk (Kd.R_lower (Kd.R_newM (M := fun k_ => (w.heap.size ≤ k_)) hozc3 (below_size bel_s) (fun k_ h_ => h_)) (below_size bel_s))
               have n3_ := Aside0.mk (blk_below (g := gb230) (o := .cells #[.string a0_0, .string a0_1, .string a0_2, .string a0_3, .int .i64 a0_4, .int .i64 a0_5, .int .i64 a0_6, .slice A0_7 l0_7.length c0_7] 51 (0, 0)) blk_s hb)
               have n4_ := Aside0.mk (blk_below (g := gb231) (o := .cells #[.slice A1_0 l1_0.length c1_0, .slice A1_1 l1_1.length c1_1] 25 (0, 0)) blk_s hb)
               have n5_ := Aside0.mk (below_step bel_s hb)
               clear HO_231007
               clear HO244
               clear BK230
               clear BK231
               clear HB
               have HO_231007 := n0_
               have HO244 := n1_
               have HO247 := n2_
               have BK230 := n3_
               have BK231 := n4_
               have HB := n5_
               clear n0_ n1_ n2_ n3_ n4_ n5_
               (try clear hb)
               (try clear hb2)
               (try clear hk)
               (try clear hi)
               (try clear hozc3)
               refine hK.out _ _ ⟨v237, v240, .slice Aozc3 y242.length cozc3, v246, v249, m11_, m12_, m13_, m15_, (by rw [ha.out]; exact putSel_upk 6 hb_ rfl rfl rfl), (by (with_reducible repeat (first | apply Kd.V_alloc | apply Kd.V_drewN | apply Kd.V_drew)); exact Kd.V_mono HO_231007.out (fun _ hk => by first | exact ⟨hk.1.1, ⟨hk.1.2.1, ⟨hk.2, ⟨hk.1.2.2.1, hk.1.2.2.2⟩⟩⟩⟩ | exact hk | exact hk.1 | exact hk.2 | (simp [hk]; done) | (simp at hk ⊢; simp [hk]; done))), blk_s, blk_s, bel_s, fun _ h1_ => absurd ((hon 8 (by kernel_rfl)).symm.trans h1_) (by decide), fun _ h1_ => absurd ((hon 8 (by kernel_rfl)).symm.trans h1_) (by decide), fun _ => (by (with_reducible repeat (first | apply Kd.N_alloc | apply Kd.N_drewN | apply Kd.N_drew)); exact Kd.N_mono HO244.out (fun _ hk => by first | exact ⟨hk.1.1, ⟨hk.2, ⟨hk.1.2.1, hk.1.2.2⟩⟩⟩ | exact hk | exact hk.1 | exact hk.2 | (simp [hk]; done) | (simp at hk ⊢; simp [hk]; done))), fun _ => (by (with_reducible repeat (first | apply Kd.R_alloc | apply Kd.R_drewN | apply Kd.R_drew)); exact Kd.R_mono HO247.out (fun _ hk => by first | exact hk.1 | exact hk | exact hk.1 | exact hk.2 | (simp [hk]; done) | (simp at hk ⊢; simp [hk]; done))), fun h0_ => absurd ((hoff 11 (by kernel_rfl)).symm.trans h0_) (by decide), fun h0_ => absurd ((hoff 11 (by kernel_rfl)).symm.trans h0_) (by decide), fun h0_ => absurd ((hoff 12 (by kernel_rfl)).symm.trans h0_) (by decide), fun h0_ => absurd ((hoff 13 (by kernel_rfl)).symm.trans h0_) (by decide), fun h0_ => absurd ((hoff 15 (by kernel_rfl)).symm.trans h0_) (by decide)⟩
             refine steps_cons ?_ ?_
             · rintro b a w' ⟨v237, v240, v243, v246, v249, m11_, m12_, m13_, m15_, ha, Q_HO_231007, Q_BK230, Q_BK231, Q_HB, Q_HO238, Q_HO241, Q_HO244, Q_HO247, Q_HO250, Q_X11_, Q_X12_, Q_X13_, Q_X15_⟩ hb_ hon hoff
               refine ⟨_, rfl, fun K hK => ?_⟩
               have e3 : a.tmps[3]? = some (.pointer (some ⟨gb231, 0, none⟩)) := by rw [ha]; exact (putSel_off rfl).trans rfl
               replace ha := Aside0.mk ha
               have HO_231007 := Aside0.mk Q_HO_231007
               have BK230 := Aside0.mk Q_BK230
               have BK231 := Aside0.mk Q_BK231
               have HB := Aside0.mk Q_HB
               have hc0_ : w'.cell? ⟨gb231, 0, none⟩ = some (.slice A1_0 l1_0.length c1_0) := (blk_cell BK231.out 0).trans rfl
               have hc1_ : w'.cell? ⟨gb231, 1, none⟩ = some (.slice A1_1 l1_1.length c1_1) := (blk_cell BK231.out 1).trans rfl
               refine value_ (w1 := w') (v := .agg #[.slice A1_0 l1_0.length c1_0, .slice A1_1 l1_1.length c1_1]) (by rfl) rfl ?_ ?_
               · go_simp
                 (try simp only [i64_w])
                 try rfl
               refine hK.out _ _ ⟨v237, v240, v243, v246, v249, m11_, m12_, m13_, m15_, (by rw [ha.out]; exact putSel_upk 7 hb_ rfl rfl rfl), Q_HO_231007, Q_BK230, Q_BK231, Q_HB, Q_HO238, Q_HO241, Q_HO244, Q_HO247, fun h0_ => absurd ((hoff 11 (by kernel_rfl)).symm.trans h0_) (by decide), fun h0_ => absurd ((hoff 11 (by kernel_rfl)).symm.trans h0_) (by decide), fun h0_ => absurd ((hoff 12 (by kernel_rfl)).symm.trans h0_) (by decide), fun h0_ => absurd ((hoff 13 (by kernel_rfl)).symm.trans h0_) (by decide), fun h0_ => absurd ((hoff 15 (by kernel_rfl)).symm.trans h0_) (by decide)⟩
             refine steps_cons ?_ ?_
             · rintro b a w' ⟨v237, v240, v243, v246, v249, m11_, m12_, m13_, m15_, ha, Q_HO_231007, Q_BK230, Q_BK231, Q_HB, Q_HO238, Q_HO241, Q_HO244, Q_HO247, Q_HO250, Q_X11_, Q_X12_, Q_X13_, Q_X15_⟩ hb_ hon hoff
               refine ⟨_, rfl, fun K hK => ?_⟩
               have e46 : a.tmps[46]? = some (v246) := by rw [ha]; exact putSel_on (e := (9, 46, v246)) 6 rfl rfl (hon 9 (by kernel_rfl)) rfl
               have e47 : a.tmps[47]? = some (.agg #[.slice A1_0 l1_0.length c1_0, .slice A1_1 l1_1.length c1_1]) := by rw [ha]; exact putSel_on (e := (10, 47, .agg #[.slice A1_0 l1_0.length c1_0, .slice A1_1 l1_1.length c1_1])) 7 rfl rfl (hon 10 (by kernel_rfl)) rfl
               replace ha := Aside0.mk ha
               have HO_231007 := Aside0.mk Q_HO_231007
               have BK230 := Aside0.mk Q_BK230
               have BK231 := Aside0.mk Q_BK231
               have HB := Aside0.mk Q_HB
               have HO244 := Aside0.mk (Q_HO244 (hon 8 (by kernel_rfl)))
               have HO247 := Aside0.mk (Q_HO247 (hon 9 (by kernel_rfl)))
               obtain ⟨Aozc4, cozc4, eozc4⟩ := Kd.R_slice HO247.out
               (first | subst eozc4 | (injection eozc4 with f1_ f2_ f3_; have f4_ := f1_.symm; have f5_ := f3_.symm; clear f1_ f2_ f3_; subst f4_; subst f5_))
               refine goes_ Try.func65 (by kernel_rfl) rfl #[.slice Aozc4 t245.length cozc4, .agg #[.slice A1_0 l1_0.length c1_0, .slice A1_1 l1_1.length c1_1]] (by rfl) rfl rfl (by first | (simp only [List.map_toArray, List.map_cons, List.map_nil, Act.eval, Array.getD_eq_getD_getElem?, Option.getD_some, e46, e47]; done) | (simp only [List.map_toArray, List.map_cons, List.map_nil, Act.eval, Array.getD_eq_getD_getElem?, Option.getD_some, e46, e47]; rfl)) ?_
               with_reducible refine (route_names.calls kj6 _ _ t245 _ _ l1_0 _ _ l1_1 t248 t251 _ ?side1 ?side2 ?side3 ?side4 ?side5 ?side6 A31.out).mono ?_
               (case side1 => repeat (first | exact (Kd.R_reads' HO247.out).2.2 | (with_reducible refine Kd.C_alloc ?_ _) | (with_reducible refine Kd.C_drewN ?_ _) | (with_reducible refine Kd.C_drew ?_)))
               (case side2 => exact (Kd.R_reads' HO247.out).2.1)
               (case side3 => repeat (first | exact (Kd.C_below HR1_0.out HB.out) | (with_reducible refine Kd.C_alloc ?_ _) | (with_reducible refine Kd.C_drewN ?_ _) | (with_reducible refine Kd.C_drew ?_)))
               (case side4 => exact HC1_0.out)
               (case side5 => repeat (first | exact (Kd.C_below HR1_1.out HB.out) | (with_reducible refine Kd.C_alloc ?_ _) | (with_reducible refine Kd.C_drewN ?_ _) | (with_reducible refine Kd.C_drew ?_)))
               (case side6 => exact HC1_1.out)
               rintro e wzc5 ⟨v249, rfl, hozc3, hb⟩
               refine ⟨_, rfl, ?_⟩
               have n0_ := Aside0.mk (Kd.V_elder' (by (with_reducible repeat (first | apply Kd.V_alloc | apply Kd.V_drewN | apply Kd.V_drew)); first | exact HO_231007.out | exact Kd.R_mono HO_231007.out (fun _ h_ => h_.1) | exact Kd.V_mono HO_231007.out (fun _ h_ => h_.1) | exact Kd.N_mono HO_231007.out (fun _ h_ => h_.1)) (Kd.R_base hozc3) hb)
               have n1_ := Aside0.mk (Kd.N_elder' (by (with_reducible repeat (first | apply Kd.N_alloc | apply Kd.N_drewN | apply Kd.N_drew)); first | exact HO244.out | exact Kd.R_mono HO244.out (fun _ h_ => h_.1) | exact Kd.V_mono HO244.out (fun _ h_ => h_.1) | exact Kd.N_mono HO244.out (fun _ h_ => h_.1)) (Kd.R_base hozc3) hb)
               have n2_ := Aside0.mk (Kd.R_elder' (by (with_reducible repeat (first | apply Kd.R_alloc | apply Kd.R_drewN | apply Kd.R_drew)); first | exact HO247.out | exact Kd.R_mono HO247.out (fun _ h_ => h_.1) | exact Kd.V_mono HO247.out (fun _ h_ => h_.1) | exact Kd.N_mono HO247.out (fun _ h_ => h_.1)) (Kd.R_base hozc3) hb)
               have n3_ := Aside0.mk (Kd.R_lower (Kd.R_new' (Kd.R_newM (M := fun k_ => (w.heap.size ≤ k_)) hozc3 (below_size bel_s) (fun k_ h_ => h_)) (Kd.R_lt (by (with_reducible repeat (first | apply Kd.R_alloc | apply Kd.R_drewN | apply Kd.R_drew)); first | exact HO247.out | exact Kd.R_mono HO247.out (fun _ h_ => h_.1) | exact Kd.V_mono HO247.out (fun _ h_ => h_.1) | exact Kd.N_mono HO247.out (fun _ h_ => h_.1)))) (below_size bel_s))
               have n4_ := Aside0.mk (blk_below (g := gb230) (o := .cells #[.string a0_0, .string a0_1, .string a0_2, .string a0_3, .int .i64 a0_4, .int .i64 a0_5, .int .i64 a0_6, .slice A0_7 l0_7.length c0_7] 51 (0, 0)) blk_s hb)
               have n5_ := Aside0.mk (blk_below (g := gb231) (o := .cells #[.slice A1_0 l1_0.length c1_0, .slice A1_1 l1_1.length c1_1] 25 (0, 0)) blk_s hb)
               have n6_ := Aside0.mk (below_step bel_s hb)
               clear HO_231007
               clear HO244
               clear HO247
               clear BK230
               clear BK231
               clear HB
               have HO_231007 := n0_
               have HO244 := n1_
               have HO247 := n2_
               have HO250 := n3_
               have BK230 := n4_
               have BK231 := n5_
               have HB := n6_
               clear n0_ n1_ n2_ n3_ n4_ n5_ n6_
               (try clear hb)
               (try clear hb2)
               (try clear hk)
               (try clear hi)
               (try clear hozc3)
               refine hK.out _ _ ⟨v237, v240, v243, .slice Aozc4 t245.length cozc4, v249, (.tuple #[v249, .int .i64 t251]), m12_, m13_, m15_, (by rw [ha.out]; exact putSel_upk 8 hb_ rfl rfl rfl), (by (with_reducible repeat (first | apply Kd.V_alloc | apply Kd.V_drewN | apply Kd.V_drew)); exact Kd.V_mono HO_231007.out (fun _ hk => by first | exact ⟨hk.1.1, ⟨hk.1.2.1, ⟨hk.1.2.2.1, ⟨hk.2, ⟨hk.1.2.2.2.1, hk.1.2.2.2.2⟩⟩⟩⟩⟩ | exact hk | exact hk.1 | exact hk.2 | (simp [hk]; done) | (simp at hk ⊢; simp [hk]; done))), blk_s, blk_s, bel_s, fun _ h1_ => absurd ((hon 8 (by kernel_rfl)).symm.trans h1_) (by decide), fun _ h1_ => absurd ((hon 8 (by kernel_rfl)).symm.trans h1_) (by decide), fun _ => (by (with_reducible repeat (first | apply Kd.N_alloc | apply Kd.N_drewN | apply Kd.N_drew)); exact Kd.N_mono HO244.out (fun _ hk => by first | exact ⟨hk.1.1, ⟨hk.1.2.1, ⟨hk.2, ⟨hk.1.2.2.1, hk.1.2.2.2⟩⟩⟩⟩ | exact hk | exact hk.1 | exact hk.2 | (simp [hk]; done) | (simp at hk ⊢; simp [hk]; done))), fun _ => (by (with_reducible repeat (first | apply Kd.R_alloc | apply Kd.R_drewN | apply Kd.R_drew)); first | exact HO247.out | exact Kd.R_mono HO247.out (fun _ h_ => h_.1) | exact Kd.V_mono HO247.out (fun _ h_ => h_.1) | exact Kd.N_mono HO247.out (fun _ h_ => h_.1)), fun _ => (by (with_reducible repeat (first | apply Kd.R_alloc | apply Kd.R_drewN | apply Kd.R_drew)); exact Kd.R_mono HO250.out (fun _ hk => by first | exact ⟨hk.1.1, hk.2⟩ | exact hk | exact hk.1 | exact hk.2 | (simp [hk]; done) | (simp at hk ⊢; simp [hk]; done))), fun _ => rfl, fun h0_ => absurd ((hoff 12 (by kernel_rfl)).symm.trans h0_) (by decide), fun h0_ => absurd ((hoff 13 (by kernel_rfl)).symm.trans h0_) (by decide), fun h0_ => absurd ((hoff 15 (by kernel_rfl)).symm.trans h0_) (by decide)⟩
             refine steps_cons ?_ ?_
             · rintro b a w' ⟨v237, v240, v243, v246, v249, m11_, m12_, m13_, m15_, ha, Q_HO_231007, Q_BK230, Q_BK231, Q_HB, Q_HO238, Q_HO241, Q_HO244, Q_HO247, Q_HO250, Q_X11_, Q_X12_, Q_X13_, Q_X15_⟩ hb_ hon hoff
               refine ⟨_, rfl, fun K hK => ?_⟩
               have e48 : a.tmps[48]? = some (m11_) := by rw [ha]; exact putSel_on (e := (11, 48, m11_)) 8 rfl rfl (hon 11 (by kernel_rfl)) rfl
               rw [Q_X11_ (hon 11 (by kernel_rfl))] at e48
               replace ha := Aside0.mk ha
               have HO_231007 := Aside0.mk Q_HO_231007
               have BK230 := Aside0.mk Q_BK230
               have BK231 := Aside0.mk Q_BK231
               have HB := Aside0.mk Q_HB
               have HO244 := Aside0.mk (Q_HO244 (hon 8 (by kernel_rfl)))
               have HO247 := Aside0.mk (Q_HO247 (hon 9 (by kernel_rfl)))
               have HO250 := Aside0.mk (Q_HO250 (hon 11 (by kernel_rfl)))
               refine value_ (w1 := w') (v := .tuple #[v249, .int .i64 t251]) (by rfl) rfl ?_ ?_
               · go_simp
                 (try simp only [i64_w])
                 try rfl
               refine hK.out _ _ ⟨v237, v240, v243, v246, v249, m11_, (.tuple #[v249, .int .i64 t251]), m13_, m15_, (by rw [ha.out]; exact putSel_upk 9 hb_ rfl rfl rfl), Q_HO_231007, Q_BK230, Q_BK231, Q_HB, fun _ h1_ => absurd ((hon 8 (by kernel_rfl)).symm.trans h1_) (by decide), fun _ h1_ => absurd ((hon 8 (by kernel_rfl)).symm.trans h1_) (by decide), Q_HO244, Q_HO247, Q_HO250, Q_X11_, fun _ => rfl, fun h0_ => absurd ((hoff 13 (by kernel_rfl)).symm.trans h0_) (by decide), fun h0_ => absurd ((hoff 15 (by kernel_rfl)).symm.trans h0_) (by decide)⟩
             refine steps_cons ?_ ?_
             · rintro b a w' ⟨v237, v240, v243, v246, v249, m11_, m12_, m13_, m15_, ha, Q_HO_231007, Q_BK230, Q_BK231, Q_HB, Q_HO238, Q_HO241, Q_HO244, Q_HO247, Q_HO250, Q_X11_, Q_X12_, Q_X13_, Q_X15_⟩ hb_ hon hoff
               refine ⟨_, rfl, fun K hK => ?_⟩
               have e36 : a.tmps[36]? = some (m12_) := by rw [ha]; exact putSel_on (e := (12, 36, m12_)) 9 rfl rfl (hon 12 (by kernel_rfl)) rfl
               rw [Q_X12_ (hon 12 (by kernel_rfl))] at e36
               replace ha := Aside0.mk ha
               have HO_231007 := Aside0.mk Q_HO_231007
               have BK230 := Aside0.mk Q_BK230
               have BK231 := Aside0.mk Q_BK231
               have HB := Aside0.mk Q_HB
               have HO244 := Aside0.mk (Q_HO244 (hon 8 (by kernel_rfl)))
               have HO247 := Aside0.mk (Q_HO247 (hon 9 (by kernel_rfl)))
               have HO250 := Aside0.mk (Q_HO250 (hon 11 (by kernel_rfl)))
               obtain ⟨Aozc5, cozc5, eo_⟩ := Kd.R_slice HO250.out
               subst eo_
               refine value_ (w1 := w') (v := .slice Aozc5 t248.length cozc5) (by rfl) rfl ?_ ?_
               · go_simp
                 (try simp only [i64_w])
                 try rfl
               refine hK.out _ _ ⟨v237, v240, v243, v246, .slice Aozc5 t248.length cozc5, m11_, m12_, (.slice Aozc5 t248.length cozc5), m15_, (by rw [ha.out]; exact putSel_upk 10 hb_ rfl rfl rfl), Q_HO_231007, Q_BK230, Q_BK231, Q_HB, fun _ h1_ => absurd ((hon 8 (by kernel_rfl)).symm.trans h1_) (by decide), fun _ h1_ => absurd ((hon 8 (by kernel_rfl)).symm.trans h1_) (by decide), Q_HO244, Q_HO247, Q_HO250, Q_X11_, Q_X12_, fun _ => rfl, fun h0_ => absurd ((hoff 15 (by kernel_rfl)).symm.trans h0_) (by decide)⟩
             refine steps_cons ?_ ?_
             · rintro b a w' ⟨v237, v240, v243, v246, v249, m11_, m12_, m13_, m15_, ha, Q_HO_231007, Q_BK230, Q_BK231, Q_HB, Q_HO238, Q_HO241, Q_HO244, Q_HO247, Q_HO250, Q_X11_, Q_X12_, Q_X13_, Q_X15_⟩ hb_ hon hoff
               refine ⟨_, rfl, fun K hK => ?_⟩
               have e36 : a.tmps[36]? = some (m12_) := by rw [ha]; exact putSel_on (e := (12, 36, m12_)) 9 rfl rfl (hon 12 (by kernel_rfl)) rfl
               rw [Q_X12_ (hon 12 (by kernel_rfl))] at e36
               replace ha := Aside0.mk ha
               have HO_231007 := Aside0.mk Q_HO_231007
               have BK230 := Aside0.mk Q_BK230
               have BK231 := Aside0.mk Q_BK231
               have HB := Aside0.mk Q_HB
               have HO244 := Aside0.mk (Q_HO244 (hon 8 (by kernel_rfl)))
               have HO247 := Aside0.mk (Q_HO247 (hon 9 (by kernel_rfl)))
               have HO250 := Aside0.mk (Q_HO250 (hon 11 (by kernel_rfl)))
               obtain ⟨Aozc6, cozc6, eo_⟩ := Kd.R_slice HO250.out
               subst eo_
               refine value_ (w1 := w') (v := .int .i64 t251) (by rfl) rfl ?_ ?_
               · go_simp
                 (try simp only [i64_w])
                 try rfl
               refine hK.out _ _ ⟨v237, v240, v243, v246, .slice Aozc6 t248.length cozc6, m11_, m12_, m13_, m15_, (by rw [ha.out]; exact putSel_upk 11 hb_ rfl rfl rfl), Q_HO_231007, Q_BK230, Q_BK231, Q_HB, fun _ h1_ => absurd ((hon 8 (by kernel_rfl)).symm.trans h1_) (by decide), fun _ h1_ => absurd ((hon 8 (by kernel_rfl)).symm.trans h1_) (by decide), Q_HO244, Q_HO247, Q_HO250, Q_X11_, Q_X12_, Q_X13_, Q_X15_⟩
             refine steps_cons ?_ ?_
             · rintro b a w' ⟨v237, v240, v243, v246, v249, m11_, m12_, m13_, m15_, ha, Q_HO_231007, Q_BK230, Q_BK231, Q_HB, Q_HO238, Q_HO241, Q_HO244, Q_HO247, Q_HO250, Q_X11_, Q_X12_, Q_X13_, Q_X15_⟩ hb_ hon hoff
               refine ⟨_, rfl, fun K hK => ?_⟩
               have e49 : a.tmps[49]? = some (m13_) := by rw [ha]; exact putSel_on (e := (13, 49, m13_)) 10 rfl rfl (hon 13 (by kernel_rfl)) rfl
               rw [Q_X13_ (hon 13 (by kernel_rfl))] at e49
               replace ha := Aside0.mk ha
               have HO_231007 := Aside0.mk Q_HO_231007
               have BK230 := Aside0.mk Q_BK230
               have BK231 := Aside0.mk Q_BK231
               have HB := Aside0.mk Q_HB
               have HO244 := Aside0.mk (Q_HO244 (hon 8 (by kernel_rfl)))
               have HO247 := Aside0.mk (Q_HO247 (hon 9 (by kernel_rfl)))
               have HO250 := Aside0.mk (Q_HO250 (hon 11 (by kernel_rfl)))
               refine value_ (w1 := w') (v := v249) (by rfl) rfl ?_ ?_
               · go_simp
                 (try simp only [i64_w])
                 try rfl
               refine hK.out _ _ ⟨v237, v240, v243, v246, v249, m11_, m12_, m13_, (v249), (by rw [ha.out]; exact putSel_upk 12 hb_ rfl rfl rfl), Q_HO_231007, Q_BK230, Q_BK231, Q_HB, fun _ h1_ => absurd ((hon 8 (by kernel_rfl)).symm.trans h1_) (by decide), fun _ h1_ => absurd ((hon 8 (by kernel_rfl)).symm.trans h1_) (by decide), Q_HO244, Q_HO247, Q_HO250, Q_X11_, Q_X12_, Q_X13_, fun _ => rfl⟩
             refine steps_cons ?_ ?_
             · rintro b a w' ⟨v237, v240, v243, v246, v249, m11_, m12_, m13_, m15_, ha, Q_HO_231007, Q_BK230, Q_BK231, Q_HB, Q_HO238, Q_HO241, Q_HO244, Q_HO247, Q_HO250, Q_X11_, Q_X12_, Q_X13_, Q_X15_⟩ hb_ hon hoff
               refine ⟨_, rfl, fun K hK => ?_⟩
               have e50 : a.tmps[50]? = some (.int .i64 t251) := by rw [ha]; exact putSel_on (e := (14, 50, .int .i64 t251)) 11 rfl rfl (hon 14 (by kernel_rfl)) rfl
               replace ha := Aside0.mk ha
               have HO_231007 := Aside0.mk Q_HO_231007
               have BK230 := Aside0.mk Q_BK230
               have BK231 := Aside0.mk Q_BK231
               have HB := Aside0.mk Q_HB
               have HO244 := Aside0.mk (Q_HO244 (hon 8 (by kernel_rfl)))
               have HO247 := Aside0.mk (Q_HO247 (hon 9 (by kernel_rfl)))
               have HO250 := Aside0.mk (Q_HO250 (hon 11 (by kernel_rfl)))
               refine value_ (w1 := w') (v := .int .i64 t251) (by rfl) rfl ?_ ?_
               · go_simp
                 (try simp only [i64_w])
                 try rfl
               refine hK.out _ _ ⟨v237, v240, v243, v246, v249, m11_, m12_, m13_, m15_, (by rw [ha.out]; exact putSel_upk 13 hb_ rfl rfl rfl), Q_HO_231007, Q_BK230, Q_BK231, Q_HB, fun _ h1_ => absurd ((hon 8 (by kernel_rfl)).symm.trans h1_) (by decide), fun _ h1_ => absurd ((hon 8 (by kernel_rfl)).symm.trans h1_) (by decide), Q_HO244, Q_HO247, Q_HO250, Q_X11_, Q_X12_, Q_X13_, Q_X15_⟩
             exact steps_nil
           rintro b a wzc5 hall ⟨v237, v240, v243, v246, v249, m11_, m12_, m13_, m15_, ha, Q_HO_231007, Q_BK230, Q_BK231, Q_HB, Q_HO238, Q_HO241, Q_HO244, Q_HO247, Q_HO250, Q_X11_, Q_X12_, Q_X13_, Q_X15_⟩
           clear BK230 BK231 HB HO_231007
           have hb1_ := hall 1 (by kernel_rfl)
           have hb2_ := hall 2 (by kernel_rfl)
           have hb4_ := hall 4 (by kernel_rfl)
           have hb6_ := hall 6 (by kernel_rfl)
           have hb7_ := hall 7 (by kernel_rfl)
           have hb8_ := hall 8 (by kernel_rfl)
           have hb9_ := hall 9 (by kernel_rfl)
           have hb10_ := hall 10 (by kernel_rfl)
           have hb11_ := hall 11 (by kernel_rfl)
           have hb12_ := hall 12 (by kernel_rfl)
           have hb13_ := hall 13 (by kernel_rfl)
           have hb14_ := hall 14 (by kernel_rfl)
           have hb15_ := hall 15 (by kernel_rfl)
           have hb16_ := hall 16 (by kernel_rfl)
           subst ha
           obtain rfl := Q_X11_ hb11_
           obtain rfl := Q_X12_ hb12_
           obtain rfl := Q_X13_ hb13_
           obtain rfl := Q_X15_ hb15_
           simp only [putSel, hb1_, hb2_, hb4_, hb6_, hb7_, hb8_, hb9_, hb10_, hb11_, hb12_, hb13_, hb14_, hb15_, hb16_, if_true, Act.put, List.setIfInBounds_toArray, List.set_cons_zero, List.set_cons_succ]
           have HO_231007 := Aside0.mk Q_HO_231007
           clear Q_HO_231007
           have BK230 := Aside0.mk Q_BK230
           clear Q_BK230
           have BK231 := Aside0.mk Q_BK231
           clear Q_BK231
           have HB := Aside0.mk Q_HB
           clear Q_HB
           clear Q_HO238
           clear Q_HO241
           have HO244 := Aside0.mk (Q_HO244 hb8_)
           clear Q_HO244
           have HO247 := Aside0.mk (Q_HO247 hb9_)
           clear Q_HO247
           have HO250 := Aside0.mk (Q_HO250 hb11_)
           clear Q_HO250
           clear hall hb1_ hb2_ hb4_ hb6_ hb7_ hb8_ hb9_ hb10_ hb11_ hb12_ hb13_ hb14_ hb15_ hb16_
           try go_wp2
           go_ret2
           exact ⟨_, by first | rfl | (simp [errW_none, errW_some] <;> rfl) | (simp [*, errW_none, errW_some] <;> rfl), by first | exact Kd.R_nil _ _ _ _ _ | exact Kd.N_nil _ _ _ _ _ | exact Kd.V_nil _ _ _ _ _ | exact Kd.Q_nil _ _ _ _ _ | exact Kd.S_nil _ _ _ _ _, by repeat (first | (with_reducible first | exact HB.out | apply below_alloc | apply pw_below_drewN | apply below_drew1 | refine below_set ?_ GE230.out | refine below_set ?_ GE231.out) | exact HB.out)⟩
   | clear hm1_1
     go_wp2_with (first | ((with_reducible refine gate_dst (N := 2) rfl ?_); refine box_event ?hg (N := 2) ?hd (cs := #[.string a0_0, .string a0_1, .string a0_2, .string a0_3, .int .i64 a0_4, .int .i64 a0_5, .int .i64 a0_6, .slice A0_7 l0_7.length c0_7]) (t := 51) ?hr ?_; (case hd => rfl); (case hg => rfl); (case hr => first | (go_simp; done) | (go_simp; rfl)); intro gb230 hg wxcea41 hbox hb; have n0_ := Aside0.mk (Kd.V_below (Kd.V_elderB (by (with_reducible repeat (first | apply Kd.V_alloc | apply Kd.V_drewN | apply Kd.V_drew)); first | exact HO0_7.out | exact Kd.R_mono HO0_7.out (fun _ h_ => h_.1) | exact Kd.V_mono HO0_7.out (fun _ h_ => h_.1) | exact Kd.N_mono HO0_7.out (fun _ h_ => h_.1)) gb230 (Nat.le_of_eq hg.symm)) hb); have n1_ := Aside0.mk (below_step bel_s hb); have n2_ := Aside0.mk (hbox); have n3_ := Aside0.mk ((by rw [hg]; exact (below_size bel_s) : w.heap.size ≤ gb230)); have n4_ := Aside0.mk ((by rw [hg]; exact (below_size bel_s) : w.heap.size ≤ gb230)); clear HO0_7; clear HB; have HO0_7 := n0_; have HB := n1_; have BK230 := n2_; have GW230 := n3_; have GE230 := n4_; clear n0_ n1_ n2_ n3_ n4_; clear hb hbox hg) | ((with_reducible refine gate_dst (N := 3) rfl ?_); refine box_event ?hg (N := 3) ?hd (cs := #[.slice A1_0 l1_0.length c1_0, .slice A1_1 l1_1.length c1_1]) (t := 25) ?hr ?_; (case hd => rfl); (case hg => rfl); (case hr => first | (go_simp; done) | (go_simp; rfl)); intro gb231 hg wx34251 hbox hb; have n0_ := Aside0.mk (Kd.V_below (Kd.V_elderB (by (with_reducible repeat (first | apply Kd.V_alloc | apply Kd.V_drewN | apply Kd.V_drew)); first | exact HO0_7.out | exact Kd.R_mono HO0_7.out (fun _ h_ => h_.1) | exact Kd.V_mono HO0_7.out (fun _ h_ => h_.1) | exact Kd.N_mono HO0_7.out (fun _ h_ => h_.1)) gb231 (Nat.le_of_eq hg.symm)) hb); have n1_ := Aside0.mk (blk_below (g := gb230) (o := .cells #[.string a0_0, .string a0_1, .string a0_2, .string a0_3, .int .i64 a0_4, .int .i64 a0_5, .int .i64 a0_6, .slice A0_7 l0_7.length c0_7] 51 (0, 0)) blk_s hb); have n2_ := Aside0.mk (below_step bel_s hb); have n3_ := Aside0.mk (hbox); have n4_ := Aside0.mk ((by rw [hg]; exact (below_size bel_s) : w.heap.size ≤ gb231)); have n5_ := Aside0.mk ((by rw [hg]; exact (below_size bel_s) : w.heap.size ≤ gb231)); have n6_ := Aside0.mk ((by rw [hg]; exact Nat.ne_of_lt (blk_lt (g := gb230) (o := .cells #[.string a0_0, .string a0_1, .string a0_2, .string a0_3, .int .i64 a0_4, .int .i64 a0_5, .int .i64 a0_6, .slice A0_7 l0_7.length c0_7] 51 (0, 0)) blk_s) : gb230 ≠ gb231)); have n7_ := Aside0.mk ((by rw [hg]; exact Nat.ne_of_gt (blk_lt (g := gb230) (o := .cells #[.string a0_0, .string a0_1, .string a0_2, .string a0_3, .int .i64 a0_4, .int .i64 a0_5, .int .i64 a0_6, .slice A0_7 l0_7.length c0_7] 51 (0, 0)) blk_s) : gb231 ≠ gb230)); clear HO0_7; clear BK230; clear HB; have HO0_7 := n0_; have BK230 := n1_; have HB := n2_; have BK231 := n3_; have GW231 := n4_; have GE231 := n5_; have NB230_231 := n6_; have NB231_230 := n7_; clear n0_ n1_ n2_ n3_ n4_ n5_ n6_ n7_; clear hb hbox hg; have hnbx34251 := NB230_231.out; have hncx34251 := NB231_230.out; have hczx34251 : wx34251.cell? ⟨gb230, 0, none⟩ = some (.string a0_0) := (blk_cell BK230.out 0).trans rfl; have hczx34252 : wx34251.cell? ⟨gb230, 1, none⟩ = some (.string a0_1) := (blk_cell BK230.out 1).trans rfl; have hczx34253 : wx34251.cell? ⟨gb230, 2, none⟩ = some (.string a0_2) := (blk_cell BK230.out 2).trans rfl; have hczx34254 : wx34251.cell? ⟨gb230, 3, none⟩ = some (.string a0_3) := (blk_cell BK230.out 3).trans rfl; have hczx34255 : wx34251.cell? ⟨gb230, 4, none⟩ = some (.int .i64 a0_4) := (blk_cell BK230.out 4).trans rfl; have hczx34256 : wx34251.cell? ⟨gb230, 5, none⟩ = some (.int .i64 a0_5) := (blk_cell BK230.out 5).trans rfl; have hczx34257 : wx34251.cell? ⟨gb230, 6, none⟩ = some (.int .i64 a0_6) := (blk_cell BK230.out 6).trans rfl; have hczx34258 : wx34251.cell? ⟨gb230, 7, none⟩ = some (.slice A0_7 l0_7.length c0_7) := (blk_cell BK230.out 7).trans rfl; have hfzx34251 := blk_frozen BK230.out 0; have hfzx34252 := blk_frozen BK230.out 1; have hfzx34253 := blk_frozen BK230.out 2; have hfzx34254 := blk_frozen BK230.out 3; have hfzx34255 := blk_frozen BK230.out 4; have hfzx34256 := blk_frozen BK230.out 5; have hfzx34257 := blk_frozen BK230.out 6; have hfzx34258 := blk_frozen BK230.out 7) | ((with_reducible refine gate_callee (f := 63) rfl ?_); refine goesL_ (some 15) rfl rfl Try.func63 (by kernel_rfl) rfl #[.agg #[.string a0_0, .string a0_1, .string a0_2, .string a0_3, .int .i64 a0_4, .int .i64 a0_5, .int .i64 a0_6, .slice A0_7 l0_7.length c0_7]] rfl any_s ?_; (with_reducible refine (plantext_Check.calls k a0_0 a0_1 a0_2 a0_3 a0_4 a0_5 a0_6 _ _ l0_7 t232 _ ?side1 ?side2 A3.out).mono ?_); (case side1 => repeat (first | exact (Kd.V_reads' HO0_7.out).2.2 | (with_reducible refine Kd.C_alloc ?_ _) | (with_reducible refine Kd.C_drewN ?_ _) | (with_reducible refine Kd.C_drew ?_))); (case side2 => exact (Kd.V_reads' HO0_7.out).2.1); rintro e wx74591 ⟨rfl, hb⟩; refine ⟨_, rfl, ?_⟩; have n0_ := Aside0.mk (Kd.V_below (by (with_reducible repeat (first | apply Kd.V_alloc | apply Kd.V_drewN | apply Kd.V_drew)); first | exact HO0_7.out | exact Kd.R_mono HO0_7.out (fun _ h_ => h_.1) | exact Kd.V_mono HO0_7.out (fun _ h_ => h_.1) | exact Kd.N_mono HO0_7.out (fun _ h_ => h_.1)) hb); have n1_ := Aside0.mk (blk_below (g := gb230) (o := .cells #[.string a0_0, .string a0_1, .string a0_2, .string a0_3, .int .i64 a0_4, .int .i64 a0_5, .int .i64 a0_6, .slice A0_7 l0_7.length c0_7] 51 (0, 0)) blk_s hb); have n2_ := Aside0.mk (blk_below (g := gb231) (o := .cells #[.slice A1_0 l1_0.length c1_0, .slice A1_1 l1_1.length c1_1] 25 (0, 0)) blk_s hb); have n3_ := Aside0.mk (below_step bel_s hb); clear HO0_7; clear BK230; clear BK231; clear HB; have HO0_7 := n0_; have BK230 := n1_; have BK231 := n2_; have HB := n3_; clear n0_ n1_ n2_ n3_; (try clear hb); (try clear hb2); (try clear hk); (try clear hi); have hczx74591 : wx74591.cell? ⟨gb231, 0, none⟩ = some (.slice A1_0 l1_0.length c1_0) := (blk_cell BK231.out 0).trans rfl; have hczx74592 : wx74591.cell? ⟨gb231, 1, none⟩ = some (.slice A1_1 l1_1.length c1_1) := (blk_cell BK231.out 1).trans rfl; have hfzx74591 := blk_frozen BK231.out 0; have hfzx74592 := blk_frozen BK231.out 1) | ((with_reducible refine gate_callee (f := 63) rfl ?_); refine goesL_ (some 15) rfl rfl Try.func63 (by kernel_rfl) rfl #[.agg #[.string a0_0, .string a0_1, .string a0_2, .string a0_3, .int .i64 a0_4, .int .i64 a0_5, .int .i64 a0_6, .slice A0_7 l0_7.length c0_7]] rfl any_s ?_; (with_reducible refine (plantext_Check.calls k a0_0 a0_1 a0_2 a0_3 a0_4 a0_5 a0_6 _ _ l0_7 t232 _ ?side1 ?side2 A3.out).mono ?_); (case side1 => repeat (first | exact (Kd.V_reads' HO0_7.out).2.2 | (with_reducible refine Kd.C_alloc ?_ _) | (with_reducible refine Kd.C_drewN ?_ _) | (with_reducible refine Kd.C_drew ?_))); (case side2 => exact (Kd.V_reads' HO0_7.out).2.1); rintro e wx19e81 ⟨rfl, hb⟩; refine ⟨_, rfl, ?_⟩; have n0_ := Aside0.mk (Kd.V_below (by (with_reducible repeat (first | apply Kd.V_alloc | apply Kd.V_drewN | apply Kd.V_drew)); first | exact HO0_7.out | exact Kd.R_mono HO0_7.out (fun _ h_ => h_.1) | exact Kd.V_mono HO0_7.out (fun _ h_ => h_.1) | exact Kd.N_mono HO0_7.out (fun _ h_ => h_.1)) hb); have n1_ := Aside0.mk (blk_below (g := gb230) (o := .cells #[.string a0_0, .string a0_1, .string a0_2, .string a0_3, .int .i64 a0_4, .int .i64 a0_5, .int .i64 a0_6, .slice A0_7 l0_7.length c0_7] 51 (0, 0)) blk_s hb); have n2_ := Aside0.mk (blk_below (g := gb231) (o := .cells #[.slice A1_0 l1_0.length c1_0, .slice A1_1 l1_1.length c1_1] 25 (0, 0)) blk_s hb); have n3_ := Aside0.mk (below_step bel_s hb); clear HO0_7; clear BK230; clear BK231; clear HB; have HO0_7 := n0_; have BK230 := n1_; have BK231 := n2_; have HB := n3_; clear n0_ n1_ n2_ n3_; (try clear hb); (try clear hb2); (try clear hk); (try clear hi)) | ((with_reducible refine gate_callee (f := 49) rfl ?_); refine goesL_ (some 20) rfl rfl Try.func49 (by kernel_rfl) rfl #[.agg #[.slice A1_0 l1_0.length c1_0, .slice A1_1 l1_1.length c1_1]] rfl any_s ?_; (with_reducible refine (chart_Check.calls k _ _ l1_0 _ _ l1_1 t233 _ ?side1 ?side2 ?side3 ?side4 A5.out).mono ?_); (case side1 => repeat (first | exact (Kd.C_below HR1_0.out HB.out) | (with_reducible refine Kd.C_alloc ?_ _) | (with_reducible refine Kd.C_drewN ?_ _) | (with_reducible refine Kd.C_drew ?_))); (case side2 => exact HC1_0.out); (case side3 => repeat (first | exact (Kd.C_below HR1_1.out HB.out) | (with_reducible refine Kd.C_alloc ?_ _) | (with_reducible refine Kd.C_drewN ?_ _) | (with_reducible refine Kd.C_drew ?_))); (case side4 => exact HC1_1.out); rintro e wxfea21 ⟨rfl, hb⟩; refine ⟨_, rfl, ?_⟩; have n0_ := Aside0.mk (Kd.V_below (by (with_reducible repeat (first | apply Kd.V_alloc | apply Kd.V_drewN | apply Kd.V_drew)); first | exact HO0_7.out | exact Kd.R_mono HO0_7.out (fun _ h_ => h_.1) | exact Kd.V_mono HO0_7.out (fun _ h_ => h_.1) | exact Kd.N_mono HO0_7.out (fun _ h_ => h_.1)) hb); have n1_ := Aside0.mk (blk_below (g := gb230) (o := .cells #[.string a0_0, .string a0_1, .string a0_2, .string a0_3, .int .i64 a0_4, .int .i64 a0_5, .int .i64 a0_6, .slice A0_7 l0_7.length c0_7] 51 (0, 0)) blk_s hb); have n2_ := Aside0.mk (blk_below (g := gb231) (o := .cells #[.slice A1_0 l1_0.length c1_0, .slice A1_1 l1_1.length c1_1] 25 (0, 0)) blk_s hb); have n3_ := Aside0.mk (below_step bel_s hb); clear HO0_7; clear BK230; clear BK231; clear HB; have HO0_7 := n0_; have BK230 := n1_; have BK231 := n2_; have HB := n3_; clear n0_ n1_ n2_ n3_; (try clear hb); (try clear hb2); (try clear hk); (try clear hi)))
     go_ret2
     exact ⟨_, by first | rfl | (simp [errW_none, errW_some] <;> rfl) | (simp [*, errW_none, errW_some] <;> rfl), by first | exact Kd.R_nil _ _ _ _ _ | exact Kd.N_nil _ _ _ _ _ | exact Kd.V_nil _ _ _ _ _ | exact Kd.Q_nil _ _ _ _ _ | exact Kd.S_nil _ _ _ _ _, by repeat (first | (with_reducible first | exact HB.out | apply below_alloc | apply pw_below_drewN | apply below_drew1 | refine below_set ?_ GE230.out | refine below_set ?_ GE231.out) | exact HB.out)⟩

end Go.Proofs.Ytbpbpojnfhhbjaa.PRouteLength
