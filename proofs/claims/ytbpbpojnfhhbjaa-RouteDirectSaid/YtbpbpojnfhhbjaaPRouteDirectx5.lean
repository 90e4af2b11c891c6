/- Made by a program of this session (wip/tools/myprint.py, over the kit's printer): that the Go functions answer as the Lean functions printed beside them. -/
import Derived.Test.YtbpbpojnfhhbjaaTSq2
import Derived.Test.YtbpbpojnfhhbjaaPRouteDirectx0
import Derived.Test.YtbpbpojnfhhbjaaPRouteDirectx2
import Derived.Test.YtbpbpojnfhhbjaaPRouteDirectx4
namespace Go.Proofs.Ytbpbpojnfhhbjaa.PRouteDirect
open Go.RowKit Go.Proofs.YtbpbpojnfhhbjaaW.PrintWords Go.Proofs.YtbpbpojnfhhbjaaW.PrintLast Go.Proofs.YtbpbpojnfhhbjaaW.PrintMore
attribute [local go_sem] max2_int min2_int max_two min_two max_three min_three max_four min_four   -- for this text's walks alone
set_option linter.unusedVariables false
set_option linter.unusedSimpArgs false

/-! ### api_Fix_99: function 99 -/
/-- Whether a predicate holds somewhere. -/
def api_Fix_99.f (l0 : List (S40)) (p : (S40) → Bool) : Option Bool := some (l0.any p)
set_option maxHeartbeats 8000000 in
set_option maxRecDepth 100000 in
theorem api_Fix_99.calls (A0 : Option Addr) (c0 : Nat) (l0 : List (S40)) (p : (S40) → Bool) {F : Value} (r : Bool) (w : World) (hr0 : Kd.C k40 w A0 l0.length l0) (hc0 : l0.length ≤ c0) (hp : IdxF.Pred Try.prog k40 true F p w) (h : api_Fix_99.f l0 p = some r) :
    Calls Try.prog 99 #[.slice A0 l0.length c0, F] w fun e w' => e = .returned (.bool r) ∧ Below w.heap.size w w' := by
  obtain rfl := Option.some.inj h; clear h; rw [← IdxF.idx_any]; have hi := api_Fix_67.calls A0 c0 l0 p (IdxF.idx p l0) w hr0 hc0 hp rfl; obtain ⟨g, lb, rfl, eg, hp⟩ := hp; have e6 : ∀ args w, (callFunc 67 args).run Try.prog w = .ok (.enter 67 args) w := enters_of Try.func67 (by kernel_rfl) rfl; go_enter Try.func99, Try.ntmps99; go_wp2_with (go_at_call 67; refine hi.mono ?_; rintro e w' ⟨rfl, hb'⟩); go_ret; exact ⟨rfl, hb'⟩

/-! ### route_isFix_1: function 100 -/
/-- Whether an element has this name. -/
def route_isFix_1.p (s : ByteArray) (x : S40) : Bool := decide (x.f0 = s)
set_option maxHeartbeats 8000000 in
set_option maxRecDepth 100000 in
theorem route_isFix_1.pred {s : ByteArray} {b ty : Nat} {w : World} (hb : w.heap[b]? = some (.cells #[.string s] ty (0, 0))) : IdxF.Pred Try.prog k40 true (.func (.func 100) #[] #[.pointer (some ⟨b, 0, none⟩)]) (route_isFix_1.p s) w := by
  refine ⟨100, _, rfl, enters_of Try.func100 (by kernel_rfl) rfl, fun W x cs hW hK => ?_⟩; obtain rfl := k40_open hK; have hbW := blk_below hb hW; have hc : W.cell? ⟨b, 0, none⟩ = some (.string s) := (blk_cell hbW 0).trans rfl; have hlt := blk_lt hbW; clear hb hbW hW; unfold route_isFix_1.p; change Calls Try.prog 100 #[.agg #[.string x.f0, .int .i64 x.f1.f0, .int .i64 x.f1.f1], .pointer (some ⟨b, 0, none⟩)] W _; generalize x.f0 = x0; go_enter Try.func100, Try.ntmps100; go_wp2; go_ret
  exact ⟨by first | rfl | (rw [IdxF.str_eq]; rfl), below_alloc (Below.refl _ _) _⟩

/-! ### route_isFix: function 64 -/
def route_isFix.f (l0_0 : List (S40)) (l0_1 : List (S48)) (a1 : ByteArray) : Option (Bool) := (api_Fix_99.f l0_0 (route_isFix_1.p a1)).bind fun t141 => (some t141)
set_option maxHeartbeats 8000000 in
set_option maxRecDepth 100000 in
theorem route_isFix.calls (A0_0 : Option Addr) (c0_0 : Nat) (l0_0 : List (S40)) (A0_1 : Option Addr) (c0_1 : Nat) (l0_1 : List (S48)) (a1 : ByteArray) (r : Bool) (w : World) (hr0_0 : Kd.C k40 w A0_0 l0_0.length l0_0) (hc0_0 : l0_0.length ≤ c0_0) (hr0_1 : Kd.C k48 w A0_1 l0_1.length l0_1) (hc0_1 : l0_1.length ≤ c0_1) (h : route_isFix.f l0_0 l0_1 a1 = some r) :
    Calls Try.prog 64 #[.agg #[.slice A0_0 l0_0.length c0_0, .slice A0_1 l0_1.length c0_1], .string a1] w fun e w' => e = .returned (.bool r) ∧ Below w.heap.size w w' := by
 have hu25 := Try.underlying25; have HR0_0 := Aside0.mk hr0_0; have HC0_0 := Aside0.mk hc0_0; clear hr0_0 hc0_0; have HR0_1 := Aside0.mk hr0_1; have HC0_1 := Aside0.mk hc0_1; clear hr0_1 hc0_1; have HB := Aside0.mk (Below.refl w.heap.size w); have H : ((api_Fix_99.f l0_0 (route_isFix_1.p a1)).bind fun t141 => (some t141)) = some r := h; clear h; replace H := Option.bind_eq_some_iff.mp H; obtain ⟨t141, A30, H⟩ := H; replace H : (some t141) = some r := H; have A3 := Aside0.mk A30; clear A30; obtain rfl := Option.some.inj H; go_enter Try.func64, Try.ntmps64
 go_wp2_with (first | ((with_reducible refine gate_dst (N := 2) rfl ?_); refine box_s #[.slice A0_0 l0_0.length c0_0, .slice A0_1 l0_1.length c0_1] 25 ?_; intro gb139 hg w4 hbox hb; have n0_ := st HB hb; have n1_ := Aside0.mk (hbox); have n2_ := ge HB hg; have n3_ := ge HB hg; clear HB; have HB := n0_; have BK139 := n1_; have GW139 := n2_; have GE139 := n3_; clear n0_ n1_ n2_ n3_; clear hb hbox hg) | ((with_reducible refine gate_dst (N := 3) rfl ?_); refine box_s #[.string a1] 9 ?_; intro gb140 hg w5 hbox hb; have n0_ := kp BK139 hb; have n1_ := st HB hb; have n2_ := Aside0.mk (hbox); have n3_ := ge HB hg; have n4_ := ge HB hg; have n5_ := nl BK139 hg; have n6_ := nr BK139 hg; clear BK139; clear HB; have BK139 := n0_; have HB := n1_; have BK140 := n2_; have GW140 := n3_; have GE140 := n4_; have NB139_140 := n5_; have NB140_139 := n6_; clear n0_ n1_ n2_ n3_ n4_ n5_ n6_; clear hb hbox hg; have hnb6 := NB139_140.out; have hnc6 := NB140_139.out; have hcz7_0 : w5.cell? ⟨gb139, 0, none⟩ = some (.slice A0_0 l0_0.length c0_0) := bc BK139 0; have hcz7_1 : w5.cell? ⟨gb139, 1, none⟩ = some (.slice A0_1 l0_1.length c0_1) := bc BK139 1; have hfz7_0 := blk_frozen BK139.out 0; have hfz7_1 := blk_frozen BK139.out 1) | ((with_reducible refine gate_callee (f := 99) rfl ?_); refine goesL_ (some 8) rfl rfl Try.func99 (by kernel_rfl) rfl #[.slice A0_0 l0_0.length c0_0, .func (.func 100) #[] #[.pointer (some ⟨gb140, 0, none⟩)]] rfl any_s ?_; (with_reducible refine (api_Fix_99.calls _ _ l0_0 (route_isFix_1.p a1) t141 _ ?side1 ?side2 ?side3 A3.out).mono ?_); (case side1 => exact cb_s (Kd.C_below HR0_0.out HB.out)); (case side2 => exact HC0_0.out); (case side3 => exact route_isFix_1.pred blk_s); rintro e w8 ⟨rfl, hb⟩; refine ⟨_, rfl, ?_⟩; have n0_ := kp BK139 hb; have n1_ := kp BK140 hb; have n2_ := st HB hb; clear BK139; clear BK140; clear HB; have BK139 := n0_; have BK140 := n1_; have HB := n2_; clear n0_ n1_ n2_; (try clear hb); (try clear hb2); (try clear hk); (try clear hi)))
 go_ret
 exact ⟨by first | rfl | (simp [errW_none, errW_some] <;> rfl) | (simp [*, errW_none, errW_some] <;> rfl), by repeat (first | (with_reducible first | exact HB.out | apply below_alloc | apply pw_below_drewN | apply below_drew1 | refine below_set ?_ GE139.out | refine below_set ?_ GE140.out) | exact HB.out)⟩

/-! ### chart_Between_1: function 51 -/
/-- Whether an element has this name. -/
def chart_Between_1.p (s : ByteArray) (x : S48) : Bool := decide (x.f0 = s)
set_option maxHeartbeats 8000000 in
set_option maxRecDepth 100000 in
theorem chart_Between_1.pred {s : ByteArray} {b ty : Nat} {w : World} (hb : w.heap[b]? = some (.cells #[.string s] ty (0, 0))) : IdxF.Pred Try.prog k48 true (.func (.func 51) #[] #[.pointer (some ⟨b, 0, none⟩)]) (chart_Between_1.p s) w := by
  refine ⟨51, _, rfl, enters_of Try.func51 (by kernel_rfl) rfl, fun W x cs hW hK => ?_⟩; obtain ⟨A1, c1, rfl, _⟩ := k48_open hK; have hbW := blk_below hb hW; have hc : W.cell? ⟨b, 0, none⟩ = some (.string s) := (blk_cell hbW 0).trans rfl; have hlt := blk_lt hbW; clear hb hbW hW; unfold chart_Between_1.p; change Calls Try.prog 51 #[.agg #[.string x.f0, .slice A1 x.f1.length c1], .pointer (some ⟨b, 0, none⟩)] W _; generalize x.f0 = x0; go_enter Try.func51, Try.ntmps51; go_wp2; go_ret
  exact ⟨by first | rfl | (rw [IdxF.str_eq]; rfl), below_alloc (Below.refl _ _) _⟩

/-! ### slices_Clone_string_string: function 53 -/
def slices_Clone_string_string.f (l0 : List ByteArray) : Option (List ByteArray) := (some (([] : List ByteArray) : List ByteArray)).bind fun y142 => (if y142.length + l0.length < 8796093022208 then (some (y142 ++ l0)) else (none))
theorem slices_Clone_string_string.nil_ (A_ : Option Addr) (n_ c_ : Nat) (w_ : World) : (binOp .eql 27 (.slice A_ n_ c_) (.slice none 0 0)).run Try.prog w_ = .ok (.bool A_.isNone) w_ := by
  have hu := Try.underlying27; have hd : Op.maxDepth = (Op.maxDepth - 1) + 1 := rfl
  cases A_ <;> (simp only [binOp, Op.equal]; rw [hd]; simp [Op.equalIn, Sem.run_bind, run_underlying hu])
attribute [local go_sem high] slices_Clone_string_string.nil_
set_option maxHeartbeats 8000000 in
set_option maxRecDepth 100000 in
theorem slices_Clone_string_string.calls (A0 : Option Addr) (c0 : Nat) (l0 : List ByteArray) (r : List ByteArray) (w : World) (hr0 : Kd.C Kd.string w A0 l0.length l0) (hc0 : l0.length ≤ c0) (h : slices_Clone_string_string.f l0 = some r) :
    Calls Try.prog 53 #[.slice A0 l0.length c0] w fun e w' => ∃ v0_ : Value, e = .returned (v0_) ∧ Kd.R Kd.string 9 w' w.heap.size (fun _ => True) v0_ r ∧ Below w.heap.size w w' := by
  have hu_ := Try.underlying27
  obtain rfl | ⟨ad0_, hA0_⟩ : A0 = none ∨ ∃ ad_, A0 = some ad_ := by
    cases A0 with
    | none => exact Or.inl rfl
    | some a_ => exact Or.inr ⟨a_, rfl⟩
  · have hl0_ : l0 = [] := by
      cases l0 with
      | nil => rfl
      | cons x_ xs_ => obtain ⟨ad_, e_, _⟩ := hr0.2.2 (by simp); cases e_
    subst hl0_
    have hr_ : r = [] := by
      unfold slices_Clone_string_string.f at h
      simpa using h.symm
    subst hr_; go_enter Try.func53, Try.ntmps53
    try go_wp2
    go_ret; exact ⟨_, rfl, Kd.R_nil _ _ _ _ _, Below.refl _ _⟩
  · subst hA0_; have HR0 := Aside0.mk hr0; have HC0 := Aside0.mk hc0; clear hr0 hc0; have HB := Aside0.mk (Below.refl w.heap.size w); have H : ((some (([] : List ByteArray) : List ByteArray)).bind fun y142 => (if y142.length + l0.length < 8796093022208 then (some (y142 ++ l0)) else (none))) = some r := h; clear h; obtain ⟨y142, hy142⟩ : ∃ y_ : List ByteArray, y_ = (([] : List ByteArray)) := ⟨_, rfl⟩
    replace H : (if y142.length + l0.length < 8796093022208 then (some (y142 ++ l0)) else (none)) = some r := by first | (rw [hy142]; with_reducible exact H) | (have H2_ := (Option.bind_some _ _).symm.trans H; rw [hy142]; with_reducible exact H2_) | (have H2_ := (Option.bind_some _ _).symm.trans H; with_reducible exact H2_) | with_reducible exact H | (rw [hy142]; exact H) | exact H
    have Ny142 := Aside0.mk hy142; clear hy142
    by_cases c2 : y142.length + l0.length < 8796093022208
    · rw [if_pos c2] at H; have LMc2 := Aside0.mk c2; clear c2; obtain ⟨y145, hy145⟩ : ∃ y_ : List ByteArray, y_ = (y142 ++ l0) := ⟨_, rfl⟩
      replace H : (some y145) = some r := by first | (rw [hy145]; with_reducible exact H) | (have H2_ := (Option.bind_some _ _).symm.trans H; rw [hy145]; with_reducible exact H2_) | (have H2_ := (Option.bind_some _ _).symm.trans H; with_reducible exact H2_) | with_reducible exact H | (rw [hy145]; exact H) | exact H
      have Ny145 := Aside0.mk hy145; clear hy145; obtain rfl := Option.some.inj H; go_enter Try.func53, Try.ntmps53
      go_wp2_with (first | ((with_reducible refine gate_dst (N := 5) rfl ?_); refine Kd.R_lit Kd.string _ 9 ?hg (N := 5) ?hd (xs := ([] : List ByteArray)) (inner := []) (ok := fun _ => True) (okp := fun _ => True) ?hr ?hp (fun _ hk => hk) trivial (Below.refl _ _) (Nat.le_refl _) (by simp) ?_; (case hd => rfl); (case hg => rfl); (case hr => first | (go_simp; done) | (go_simp; rfl)); (case hp => exact (Reps.none _ _)); intro v143 w3 ho4 hb hg_ hnew_; clear hg_ hnew_; (first | rw [← Ny142.out] at ho4 | (simp only [Int.reduceToNat] at ho4; rw [← Ny142.out] at ho4)); have n0_ := Aside0.mk (Kd.R_lower ho4 bz_s); have n1_ := st HB hb; clear HB; have HO144 := n0_; have HB := n1_; clear n0_ n1_; clear hb ho4) | ((with_reducible refine gate_builtin (b := .append) (xs := #[.tmp 5, .tmp 6]) rfl ?_); at_builtin; refine Kd.R_append_rows Kd.string (w0 := w) w.heap.size rfl (.tmp 5) (.tmp 6) 27 9 (.string ⟨#[]⟩) 16 rfl Try.underlying27 info9 rfl (by decide) (by omega) v143 y142 l0 _ _ _ (fun _ => True) (fun _ => False) rfl rfl ?aO ?aR (fun _ _ h => h) (fun _ h => h.elim) ?aF ?aB ?aS ?aL ?_; (case aR => exact cb_s (Kd.C_below HR0.out HB.out)); (case aB => exact bel_s); (case aF => exact (fun _ _ => trivial)); (case aO => exact (by (with_reducible repeat (first | apply Kd.R_alloc | apply Kd.R_drewN | apply Kd.R_drew)); exact HO144.out)); (case aS => exact bz_s); (case aL => have := LMc2.out; omega); intro v146 w5 ho hb hg hat; rw [← Ny145.out] at ho; have n0_ := Aside0.mk (hb); have n1_ := Aside0.mk (ho); clear HB; clear HO144; have HB := n0_; have HO147 := n1_; clear n0_ n1_; clear ho hb hg hat))
      go_ret
      exact ⟨_, by first | rfl | (simp [errW_none, errW_some] <;> rfl) | (simp [*, errW_none, errW_some] <;> rfl), by (with_reducible repeat (first | apply Kd.R_alloc | apply Kd.R_drewN | apply Kd.R_drew)); exact HO147.out, by repeat (first | (with_reducible first | exact HB.out | apply below_alloc | apply pw_below_drewN | apply below_drew1) | exact HB.out)⟩
    · rw [if_neg c2] at H; exact absurd H (by simp)

/-! ### slices_Reverse_string_string: function 54 -/
def slices_Reverse_string_string.l0 : Nat → List ByteArray → Int → Int → Option (List ByteArray)
  | 0, _, _, _ => none
  | k + 1, x0, x2, x3 => if x2 < x3 then (if 0 ≤ x3 then (if x3 < (x0.length : Int) then (if 0 ≤ x2 then (if x2 < (x0.length : Int) then (slices_Reverse_string_string.l0 k ((x0.set (x2 : Int).toNat (rdOf ByteArray.empty x0 x3)).set (x3 : Int).toNat (rdOf ByteArray.empty x0 x2)) (wrap64 (x2 + 1)) (wrap64 (x3 - 1))) else (none)) else (none)) else (none)) else (none)) else (some x0)
def slices_Reverse_string_string.f (k : Nat) (l0 : List ByteArray) : Option (List ByteArray) := slices_Reverse_string_string.l0 k l0 0 (wrap64 ((l0.length : Int) - 1))
theorem slices_Reverse_string_string.mono_l : ∀ k, (∀ y0 y1 y2, LeO (slices_Reverse_string_string.l0 k y0 y1 y2) (slices_Reverse_string_string.l0 (k + 1) y0 y1 y2))
  | 0 => fun _ _ _ r h => by simp [slices_Reverse_string_string.l0] at h
  | k + 1 => by
    have ih0 := slices_Reverse_string_string.mono_l k
    · intro y0 y1 y2; unfold slices_Reverse_string_string.l0
      repeat' first
      | (with_reducible exact ih0 _ _ _)
      | (with_reducible exact LeO.refl _)
      | (with_reducible exact LeO.none _)
      | (with_reducible refine LeO.ite ?_ ?_)
      | (with_reducible refine LeO.bind ?_ (fun _ => ?_))
      | exact ih0 _ _ _
      | exact LeO.none _
      | refine LeO.ite ?_ ?_
      | refine LeO.bind ?_ (fun _ => ?_)
theorem slices_Reverse_string_string.mono : ∀ a0 k, LeO (slices_Reverse_string_string.f k a0) (slices_Reverse_string_string.f (k + 1) a0) := by
  intro a0 k; have ih0 := slices_Reverse_string_string.mono_l k; unfold slices_Reverse_string_string.f
  repeat' first
      | (with_reducible exact ih0 _ _ _)
      | (with_reducible exact LeO.refl _)
      | (with_reducible exact LeO.none _)
      | (with_reducible refine LeO.ite ?_ ?_)
      | (with_reducible refine LeO.bind ?_ (fun _ => ?_))
      | exact ih0 _ _ _
      | exact LeO.none _
      | refine LeO.ite ?_ ?_
      | refine LeO.bind ?_ (fun _ => ?_)
def slices_Reverse_string_string.T3 : Bool × List (List Nat × List Nat) := (true, [([], []), ([], []), ([], []), ([], []), ([], []), ([], []), ([4, 5], [4, 5]), ([6], [6]), ([], []), ([], []), ([8, 9], [8, 9]), ([10], [10]), ([0, 1, 0, 1, 4, 5, 6, 7, 11], [0, 1]), ([12, 7, 0, 1, 4, 5, 6, 7, 11], [7, 12]), ([2, 3, 0, 1, 2, 3, 4, 5, 6, 7, 8, 9, 10, 11, 12, 13], [2, 3]), ([14, 11, 13, 0, 1, 2, 3, 4, 5, 6, 7, 8, 9, 10, 11, 12, 13], [11, 14])])
def slices_Reverse_string_string.B3 : List Nat := [0, 0, 0, 0, 0, 0, 48, 112, 0, 0, 768, 1792, 4083, 8179, 16383, 32767]
theorem slices_Reverse_string_string.tab3 : rtab .any (opsOf Try.f54 3) = slices_Reverse_string_string.T3 := by kernel_rfl
theorem slices_Reverse_string_string.bits3 : waitsOk slices_Reverse_string_string.T3.2 slices_Reverse_string_string.B3 = true := by kernel_rfl
set_option maxHeartbeats 8000000 in
set_option maxRecDepth 100000 in
theorem slices_Reverse_string_string.calls (k : Nat) (P0_ : Nat → Prop) (u9000_ : Value) (l0 : List ByteArray) (r : List ByteArray) (w0 w : World) (hB : Below w0.heap.size w0 w) (ho0 : Kd.R Kd.string 9 w w0.heap.size P0_ u9000_ l0) (h : slices_Reverse_string_string.f k l0 = some r) :
    Calls Try.prog 54 #[u9000_] w fun e w' => e = .returned (.tuple #[]) ∧ Kd.R Kd.string 9 w' w0.heap.size (fun k_ => (P0_ k_ ∨ w.heap.size ≤ k_)) u9000_ r ∧ Below w0.heap.size w0 w' ∧ Kept w w' (fun k_ => P0_ k_) := by
 have HO0 := Aside0.mk (show Kd.R Kd.string 9 w w0.heap.size (fun k_ => (P0_ k_ ∨ w.heap.size ≤ k_)) u9000_ l0 from Kd.R_mono ho0 (fun k_ hk => (.inl hk))); have HK := Aside0.mk (Kept.refl w (fun k_ => P0_ k_)); have HW0 := Aside0.mk hB.size; have HB := Aside0.mk hB; clear hB; have H : (slices_Reverse_string_string.l0 k l0 0 (wrap64 ((l0.length : Int) - 1))) = some r := h; clear h; have H' := Aside0.mk H; clear H; obtain ⟨Ao2, co2, eo2⟩ := Kd.R_slice HO0.out; subst eo2; go_enter Try.func54, Try.ntmps54; go_wp2; go_loopg [2, 3] k (fun kq v2 v3 w' => ∃ (x0_1 : List ByteArray) (x2_1 : Int) (x3_1 : Int), v2 = .int .i64 x2_1 ∧ v3 = .int .i64 x3_1 ∧ Aside0 (slices_Reverse_string_string.l0 kq x0_1 x2_1 x3_1 = some r) ∧ Aside0 (kq ≤ k) ∧ Aside0 (Kd.R Kd.string 9 w' w0.heap.size (fun k_ => (P0_ k_ ∨ w.heap.size ≤ k_)) (.slice Ao2 l0.length co2) x0_1) ∧ Aside0 (Kept w w' (fun k_ => P0_ k_)) ∧ Aside0 (Below w0.heap.size w0 w'))
 case atStart => exact ⟨(l0), (0), (wrap64 ((l0.length : Int) - 1)), (by first | rfl | (simp; done) | (simp [*]; done)), (by first | rfl | (simp; done) | (simp [*]; done)), H', ⟨Nat.le_refl _⟩, ⟨by (with_reducible repeat (first | apply Kd.R_alloc | apply Kd.R_drewN | apply Kd.R_drew)); exact HO0.out⟩, ⟨by repeat (first | (with_reducible first | exact HK.out | apply Kept.alloc | apply Kept.drewN | apply Kept.drew) | exact HK.out)⟩, ⟨by repeat (first | (with_reducible first | exact HB.out | apply below_alloc | apply pw_below_drewN | apply below_drew1) | exact HB.out)⟩⟩
 case round =>
  clear H'
  (try clear p2)
  obtain ⟨x0_1, x2_1, x3_1, rfl, rfl, HA, HK1, HO_0, HK, HB⟩ := hrel; have hl0_1 := (Kd.R_reads' HO_0.out).1; rw [hl0_1] at HO_0
  (try simp only [hl0_1])
  cases gk with
  | zero => exact absurd HA.out (by simp [slices_Reverse_string_string.l0])
  | succ k1 =>
   have H := HA.out; clear HA; simp only [slices_Reverse_string_string.l0] at H
   by_cases c3 : x2_1 < x3_1
   · rw [if_pos c3] at H; have c3b0 : decide (x2_1 < x3_1) = true := decide_eq_true c3; clear c3
     by_cases c4 : 0 ≤ x3_1
     · rw [if_pos c4] at H; have c4b0 : decide (0 ≤ x3_1) = true := decide_eq_true c4; clear c4
       by_cases c5 : x3_1 < (x0_1.length : Int)
       · rw [if_pos c5] at H; have c5b0 : decide (x3_1 < (x0_1.length : Int)) = true := decide_eq_true c5
         (try (have c5b0_hl0_1 := c5b0; simp only [hl0_1] at c5b0_hl0_1))
         clear c5
         by_cases c6 : 0 ≤ x2_1
         · rw [if_pos c6] at H; have c6b0 : decide (0 ≤ x2_1) = true := decide_eq_true c6; clear c6
           by_cases c7 : x2_1 < (x0_1.length : Int)
           · rw [if_pos c7] at H; have c7b0 : decide (x2_1 < (x0_1.length : Int)) = true := decide_eq_true c7
             (try (have c7b0_hl0_1 := c7b0; simp only [hl0_1] at c7b0_hl0_1))
             clear c7; obtain ⟨y150, hy150⟩ : ∃ y_ : List ByteArray, y_ = (x0_1.set (x2_1 : Int).toNat (rdOf ByteArray.empty x0_1 x3_1)) := ⟨_, rfl⟩
             replace H : (slices_Reverse_string_string.l0 k1 (y150.set (x3_1 : Int).toNat (rdOf ByteArray.empty x0_1 x2_1)) (wrap64 (x2_1 + 1)) (wrap64 (x3_1 - 1))) = some r := by first | (rw [hy150]; with_reducible exact H) | (have H2_ := (Option.bind_some _ _).symm.trans H; rw [hy150]; with_reducible exact H2_) | (have H2_ := (Option.bind_some _ _).symm.trans H; with_reducible exact H2_) | with_reducible exact H | (rw [hy150]; exact H) | exact H
             have Ny150 := Aside0.mk hy150; clear hy150; obtain ⟨y151, hy151⟩ : ∃ y_ : List ByteArray, y_ = (y150.set (x3_1 : Int).toNat (rdOf ByteArray.empty x0_1 x2_1)) := ⟨_, rfl⟩
             replace H : (slices_Reverse_string_string.l0 k1 y151 (wrap64 (x2_1 + 1)) (wrap64 (x3_1 - 1))) = some r := by first | (rw [hy151]; with_reducible exact H) | (have H2_ := (Option.bind_some _ _).symm.trans H; rw [hy151]; with_reducible exact H2_) | (have H2_ := (Option.bind_some _ _).symm.trans H; with_reducible exact H2_) | with_reducible exact H | (rw [hy151]; exact H) | exact H
             have Ny151 := Aside0.mk hy151; clear hy151; have H' := Aside0.mk H; clear H
             try go_wp2
             have n0_ := Aside0.mk (Kd.R_drew HO_0.out); have n1_ := Aside0.mk (Kept.drew HK.out); have n2_ := Aside0.mk (below_drew1 HB.out); clear HO_0; clear HK; clear HB; have HO_0 := n0_; have HK := n1_; have HB := n2_; clear n0_ n1_ n2_
             have p148 : 0 ≤ (x3_1 : Int) := of_decide_eq_true (by first | (with_reducible assumption) | assumption)
             have q148 : x3_1 < (x0_1.length : Int) := of_decide_eq_true (by first | (with_reducible assumption) | assumption)
             obtain ⟨ad148, e148, hx148_0⟩ := Kd.at_string (Kd.R_reads' HO_0.out).2.2 x3_1 p148 q148; cases e148; replace p148 := eq_true p148; replace q148 := eq_true q148
             have p149 : 0 ≤ (x2_1 : Int) := of_decide_eq_true (by first | (with_reducible assumption) | assumption)
             have q149 : x2_1 < (x0_1.length : Int) := of_decide_eq_true (by first | (with_reducible assumption) | assumption)
             obtain ⟨ad149, e149, hx149_0⟩ := Kd.at_string (Kd.R_reads' HO_0.out).2.2 x2_1 p149 q149; obtain rfl : ad148 = ad149 := (by injection e149); replace p149 := eq_true p149; replace q149 := eq_true q149
             have p8 : 0 ≤ (x2_1 : Int) := of_decide_eq_true (by first | (with_reducible assumption) | assumption)
             have q8 : (x2_1 : Int) < ((x0_1.length : Int) : Int) := of_decide_eq_true (by first | (with_reducible assumption) | assumption)
             obtain ⟨go8, cozc1, eozc1, gb8, gl8, cl8, HG8⟩ := Kd.R_form HO_0.out (by omega)
             (first | cases eozc1 | (injection eozc1 with ea_ en_ ec_; (first | subst ea_ | (injection ea_ with ea_; subst ea_)); subst ec_; clear en_))
             have GB8 := Aside0.mk gb8; have GG8 := Aside0.mk HG8; clear gb8 gl8 HG8; have HMgo8 := Aside0.mk (show (P0_ go8 ∨ w.heap.size ≤ go8) from (HO_0.out.1 _ rfl))
             (first | simp only [add_plain] at hx148_0 | skip)
             (first | simp only [add_plain] at hx149_0 | skip)
             obtain ⟨hx8_0, hf8_0⟩ := Kd.R_celln (⟨#[]⟩ : ByteArray) HO_0.out (x2_1 : Int) p8 q8; replace p8 := eq_true p8; replace q8 := eq_true q8; have HP11 := Kd.R_putn HO_0.out (x2_1 : Int) (rdOf ByteArray.empty x0_1 x3_1); rw [← Ny150.out] at HP11; have HQ11 := Aside0.mk HP11; clear HP11
             have p9 : 0 ≤ (x3_1 : Int) := of_decide_eq_true (by first | (with_reducible assumption) | assumption)
             have q9 : (x3_1 : Int) < ((x0_1.length : Int) : Int) := of_decide_eq_true (by first | (with_reducible assumption) | assumption)
             obtain ⟨hx9_0, hf9_0⟩ := Kd.R_celln (⟨#[]⟩ : ByteArray) HQ11.out (x3_1 : Int) p9 q9; replace p9 := eq_true p9; replace q9 := eq_true q9; have HP12 := Kd.R_putn HQ11.out (x3_1 : Int) (rdOf ByteArray.empty x0_1 x2_1); rw [← Ny151.out] at HP12; have HQ12 := Aside0.mk HP12; clear HP12; refine start_ (n := 16) (S := fun w' => w'.cell? ⟨go8, (x3_1).toNat, none⟩ = some (.string (rdOf ByteArray.empty x0_1 x3_1)) ∧ w'.cell? ⟨go8, (x2_1).toNat, none⟩ = some (.string (rdOf ByteArray.empty x0_1 x2_1))) (ds := [13, 15]) #[false, false, false, false, false, false, false, false, false, false, false, false, false, false, false, false] (by kernel_rfl) rfl rfl ⟨hx148_0, hx149_0⟩ (fun hHeld => ?_); refine with_tabW slices_Reverse_string_string.tab3 slices_Reverse_string_string.bits3 (fun HT_ HW_ => ?_); generalize wr.drew = wzc1 at HO_0 HK HB GG8 HQ11 HQ12 hf8_0 hf9_0 hx148_0 hx149_0 hx8_0 hx9_0 hHeld ⊢; refine pu_ 0 14 HT_ (h := ?_); refine pu_ 1 15 HT_ (h := ?_); refine pu_ 2 16 HT_ (h := ?_); refine pu_ 3 17 HT_ (h := ?_); refine pu_ 4 18 HT_ (h := ?_); refine pu_ 5 19 HT_ (h := ?_); refine pu_ 6 20 HT_ (h := ?_); refine pu_ 8 22 HT_ (h := ?_); refine pu_ 9 23 HT_ (h := ?_); refine pu_ 10 24 HT_ (h := ?_); refine tk_ 7 21 HT_ HW_ hHeld (h := ?_); refine tk_ 11 25 HT_ HW_ hHeld (h := ?_); refine pu_ 12 26 HT_ (h := ?_); refine last_ (i := 13) (N := none) #[true, true, true, true, true, true, true, true, true, true, true, true, true, true, false, false] rfl rfl (one_of HT_.out (by kernel_rfl)) (by decide) (fun K hK => ?_)
             (with_reducible refine skip_ (w1 := ?_) ?hA_ ?hB_ ?_ ?_); (case hA_ => rfl); (case hB_ => rfl)
             rotate_left
             · go_simp; rfl
             refine hK.out _ _ ?_; clear hK K; refine pu_ 14 27 HT_ (h := ?_); refine last_ (i := 15) (N := none) #[true, true, true, true, true, true, true, true, true, true, true, true, true, true, true, true] rfl rfl (one_of HT_.out (by kernel_rfl)) (by decide) (fun K hK => ?_)
             (with_reducible refine skip_ (w1 := ?_) ?hA_ ?hB_ ?_ ?_); (case hA_ => rfl); (case hB_ => rfl)
             rotate_left
             · go_simp; rfl
             refine hK.out _ _ ?_; clear hK K; refine done_ (done_of HT_.out (by kernel_rfl)) ?_
             try go_wp2
             (try simp only [← hl0_1])
             go_roundg k1
             case measure => have := HK1.out; omega
             case rel => exact ⟨(y151), (wrap64 (x2_1 + 1)), (wrap64 (x3_1 - 1)), (by first | rfl | (simp; done) | (simp [*]; done)), (by first | rfl | (simp; done) | (simp [*]; done)), H', ⟨by have := HK1.out; omega⟩, ⟨by (try simp only [hl0_1]); (with_reducible repeat (first | apply Kd.R_alloc | apply Kd.R_drewN | apply Kd.R_drew)); exact HQ12.out⟩, ⟨by repeat (first | (with_reducible first | exact HK.out | apply Kept.alloc | apply Kept.drewN | apply Kept.drew | refine Kept.setCell ?_ HMgo8.out _ | refine Kept.setCell ?_ HMgo8.out _) | exact HK.out)⟩, ⟨by repeat (first | (with_reducible first | exact HB.out | apply below_alloc | apply pw_below_drewN | apply below_drew1 | refine below_set ?_ GB8.out | refine below_set ?_ GB8.out) | exact HB.out)⟩⟩
           · rw [if_neg c7] at H; exact absurd H (by simp)
         · rw [if_neg c6] at H; exact absurd H (by simp)
       · rw [if_neg c5] at H; exact absurd H (by simp)
     · rw [if_neg c4] at H; exact absurd H (by simp)
   · rw [if_neg c3] at H; have c3b0 : decide (x2_1 < x3_1) = false := decide_eq_false c3; clear c3; obtain rfl := Option.some.inj H; go_wp2
     first | go_end0 | ((try simp only [Exit.inBlock, Exit.then]); refine bodyPost_ret (results_none rfl _ _ _) rfl ?_)
     exact ⟨by first | rfl | (simp [errW_none, errW_some] <;> rfl) | (simp [*, errW_none, errW_some] <;> rfl), (by first | exact (by (with_reducible repeat (first | apply Kd.R_alloc | apply Kd.R_drewN | apply Kd.R_drew)); exact HO_0.out) | (simp only [hl0_1]; exact (by (with_reducible repeat (first | apply Kd.R_alloc | apply Kd.R_drewN | apply Kd.R_drew)); exact HO_0.out))), by repeat (first | (with_reducible first | exact HB.out | apply below_alloc | apply pw_below_drewN | apply below_drew1) | exact HB.out), by repeat (first | (with_reducible first | exact HK.out | apply Kept.alloc | apply Kept.drewN | apply Kept.drew) | exact HK.out)⟩

/-! ### chart_Between: function 16 -/
def chart_Between.j0 : Nat → List ByteArray → Int → Int → Bool → Option (List ByteArray × Int)
  | 0, _, _, _, _ => none
  | k + 1, x12, x13, x14, x39 => if x39 = true then (some (([] : List ByteArray), 6)) else (if x13 ≤ x14 then (if 0 ≤ x13 then (if x13 ≤ (wrap64 (x14 + 1)) then (if (wrap64 (x14 + 1)) ≤ (x12.length : Int) then ((slices_Clone_string_string.f ((x12.take ((wrap64 (x14 + 1)) : Int).toNat).drop (x13 : Int).toNat)).bind fun t160 => (some (t160, 0))) else (none)) else (none)) else (none)) else (if 0 ≤ x14 then (if x14 ≤ (wrap64 (x13 + 1)) then (if (wrap64 (x13 + 1)) ≤ (x12.length : Int) then ((slices_Clone_string_string.f ((x12.take ((wrap64 (x13 + 1)) : Int).toNat).drop (x14 : Int).toNat)).bind fun t164 => ((slices_Reverse_string_string.f k t164).bind fun t167 => (some (t167, 0)))) else (none)) else (none)) else (none)))
def chart_Between.f (k : Nat) (l0_0 : List (S40)) (l0_1 : List (S48)) (a1 : ByteArray) (a2 : ByteArray) (a3 : ByteArray) : Option (List ByteArray × Int) := (chart_Check.f k l0_0 l0_1).bind fun t154 => (if t154 = 0 then ((api_Airway_50.f l0_1 (chart_Between_1.p a1)).bind fun t155 => (if t155 < 0 then (some (([] : List ByteArray), 6)) else (if 0 ≤ t155 then (if t155 < (l0_1.length : Int) then ((slices_Index_string_string.f k ((rd_T48 l0_1 t155).f1) a2).bind fun t157 => ((slices_Index_string_string.f k ((rd_T48 l0_1 t155).f1) a3).bind fun t158 => (if t157 < 0 then (chart_Between.j0 k ((rd_T48 l0_1 t155).f1) t157 t158 true) else (chart_Between.j0 k ((rd_T48 l0_1 t155).f1) t157 t158 (decide (t158 < 0)))))) else (none)) else (none)))) else (some (([] : List ByteArray), t154)))
theorem chart_Between.mono_l : ∀ k, (∀ y0 y1 y2 y3, LeO (chart_Between.j0 k y0 y1 y2 y3) (chart_Between.j0 (k + 1) y0 y1 y2 y3))
  | 0 => fun _ _ _ _ r h => by simp [chart_Between.j0] at h
  | k + 1 => by
    have ih0 := chart_Between.mono_l k
    · intro y0 y1 y2 y3; unfold chart_Between.j0
      repeat' first
      | (with_reducible exact ih0 _ _ _ _)
      | (with_reducible exact chart_Check.mono _ _ _)
      | (with_reducible exact slices_Index_string_string.mono _ _ _)
      | (with_reducible exact slices_Reverse_string_string.mono _ _)
      | (with_reducible exact LeO.refl _)
      | (with_reducible exact LeO.none _)
      | (with_reducible refine LeO.ite ?_ ?_)
      | (with_reducible refine LeO.bind ?_ (fun _ => ?_))
      | exact ih0 _ _ _ _
      | exact chart_Check.mono _ _ _
      | exact slices_Index_string_string.mono _ _ _
      | exact slices_Reverse_string_string.mono _ _
      | exact LeO.none _
      | refine LeO.ite ?_ ?_
      | refine LeO.bind ?_ (fun _ => ?_)
theorem chart_Between.mono : ∀ a0 a1 a2 a3 a4 k, LeO (chart_Between.f k a0 a1 a2 a3 a4) (chart_Between.f (k + 1) a0 a1 a2 a3 a4) := by
  intro a0 a1 a2 a3 a4 k; have ih0 := chart_Between.mono_l k; unfold chart_Between.f
  repeat' first
      | (with_reducible exact ih0 _ _ _ _)
      | (with_reducible exact chart_Check.mono _ _ _)
      | (with_reducible exact slices_Index_string_string.mono _ _ _)
      | (with_reducible exact slices_Reverse_string_string.mono _ _)
      | (with_reducible exact LeO.refl _)
      | (with_reducible exact LeO.none _)
      | (with_reducible refine LeO.ite ?_ ?_)
      | (with_reducible refine LeO.bind ?_ (fun _ => ?_))
      | exact ih0 _ _ _ _
      | exact chart_Check.mono _ _ _
      | exact slices_Index_string_string.mono _ _ _
      | exact slices_Reverse_string_string.mono _ _
      | exact LeO.none _
      | refine LeO.ite ?_ ?_
      | refine LeO.bind ?_ (fun _ => ?_)
set_option maxHeartbeats 8000000 in
set_option maxRecDepth 100000 in
theorem chart_Between.calls (k : Nat) (A0_0 : Option Addr) (c0_0 : Nat) (l0_0 : List (S40)) (A0_1 : Option Addr) (c0_1 : Nat) (l0_1 : List (S48)) (a1 : ByteArray) (a2 : ByteArray) (a3 : ByteArray) (r1 : List ByteArray) (r2 : Int) (w : World) (hr0_0 : Kd.C k40 w A0_0 l0_0.length l0_0) (hc0_0 : l0_0.length ≤ c0_0) (hr0_1 : Kd.C k48 w A0_1 l0_1.length l0_1) (hc0_1 : l0_1.length ≤ c0_1) (h : chart_Between.f k l0_0 l0_1 a1 a2 a3 = some (r1, r2)) :
    Calls Try.prog 16 #[.agg #[.slice A0_0 l0_0.length c0_0, .slice A0_1 l0_1.length c0_1], .string a1, .string a2, .string a3] w fun e w' => ∃ v0_ : Value, e = .returned (.tuple #[v0_, .int .i64 r2]) ∧ Kd.R Kd.string 9 w' w.heap.size (fun _ => True) v0_ r1 ∧ Below w.heap.size w w' := by
 have hu25 := Try.underlying25; have HR0_0 := Aside0.mk hr0_0; have HC0_0 := Aside0.mk hc0_0; clear hr0_0 hc0_0; have HR0_1 := Aside0.mk hr0_1; have HC0_1 := Aside0.mk hc0_1; clear hr0_1 hc0_1; have HB := Aside0.mk (Below.refl w.heap.size w); have H : ((chart_Check.f k l0_0 l0_1).bind fun t154 => (if t154 = 0 then ((api_Airway_50.f l0_1 (chart_Between_1.p a1)).bind fun t155 => (if t155 < 0 then (some (([] : List ByteArray), 6)) else (if 0 ≤ t155 then (if t155 < (l0_1.length : Int) then ((slices_Index_string_string.f k ((rd_T48 l0_1 t155).f1) a2).bind fun t157 => ((slices_Index_string_string.f k ((rd_T48 l0_1 t155).f1) a3).bind fun t158 => (if t157 < 0 then (chart_Between.j0 k ((rd_T48 l0_1 t155).f1) t157 t158 true) else (chart_Between.j0 k ((rd_T48 l0_1 t155).f1) t157 t158 (decide (t158 < 0)))))) else (none)) else (none)))) else (some (([] : List ByteArray), t154)))) = some (r1, r2) := h; clear h; replace H := Option.bind_eq_some_iff.mp H; obtain ⟨t154, A50, H⟩ := H; replace H : (if t154 = 0 then ((api_Airway_50.f l0_1 (chart_Between_1.p a1)).bind fun t155 => (if t155 < 0 then (some (([] : List ByteArray), 6)) else (if 0 ≤ t155 then (if t155 < (l0_1.length : Int) then ((slices_Index_string_string.f k ((rd_T48 l0_1 t155).f1) a2).bind fun t157 => ((slices_Index_string_string.f k ((rd_T48 l0_1 t155).f1) a3).bind fun t158 => (if t157 < 0 then (chart_Between.j0 k ((rd_T48 l0_1 t155).f1) t157 t158 true) else (chart_Between.j0 k ((rd_T48 l0_1 t155).f1) t157 t158 (decide (t158 < 0)))))) else (none)) else (none)))) else (some (([] : List ByteArray), t154))) = some (r1, r2) := H; have A5 := Aside0.mk A50; clear A50; refine Or.elim (Classical.em (t154 = 0)) (fun c6 => ?p2_) (fun c6 => ?n2_)
 case' p2_ =>
  rw [if_pos c6] at H; have c6b0 : (t154 == 0) = true := beq_iff_eq.mpr c6; have c6b1 : (t154 != 0) = false := bne_eq_false_iff_eq.mpr c6; clear c6; replace H := Option.bind_eq_some_iff.mp H; obtain ⟨t155, A70, H⟩ := H; replace H : (if t155 < 0 then (some (([] : List ByteArray), 6)) else (if 0 ≤ t155 then (if t155 < (l0_1.length : Int) then ((slices_Index_string_string.f k ((rd_T48 l0_1 t155).f1) a2).bind fun t157 => ((slices_Index_string_string.f k ((rd_T48 l0_1 t155).f1) a3).bind fun t158 => (if t157 < 0 then (chart_Between.j0 k ((rd_T48 l0_1 t155).f1) t157 t158 true) else (chart_Between.j0 k ((rd_T48 l0_1 t155).f1) t157 t158 (decide (t158 < 0)))))) else (none)) else (none))) = some (r1, r2) := H; have A7 := Aside0.mk A70; clear A70; refine Or.elim (Classical.em (t155 < 0)) (fun c8 => ?p3_) (fun c8 => ?n3_)
  case' p3_ =>
   rw [if_pos c8] at H; have c8b0 : decide (t155 < 0) = true := decide_eq_true c8; clear c8; simp only [Option.some.injEq, Prod.mk.injEq] at H; obtain ⟨rfl, rfl⟩ := H; have hm1_0 := Aside0.mk trivial
  case' n3_ =>
   rw [if_neg c8] at H; have c8b0 : decide (t155 < 0) = false := decide_eq_false c8; clear c8; refine Or.elim (Classical.em (0 ≤ t155)) (fun c16 => ?p4_) (fun c16 => ?n4_)
   case' p4_ =>
    rw [if_pos c16] at H; have c16b0 : decide (0 ≤ t155) = true := decide_eq_true c16; clear c16; refine Or.elim (Classical.em (t155 < (l0_1.length : Int))) (fun c17 => ?p5_) (fun c17 => ?n5_)
    case' p5_ =>
     rw [if_pos c17] at H; have c17b0 : decide (t155 < (l0_1.length : Int)) = true := decide_eq_true c17; clear c17; replace H := Option.bind_eq_some_iff.mp H; obtain ⟨t157, A180, H⟩ := H; replace H : ((slices_Index_string_string.f k ((rd_T48 l0_1 t155).f1) a3).bind fun t158 => (if t157 < 0 then (chart_Between.j0 k ((rd_T48 l0_1 t155).f1) t157 t158 true) else (chart_Between.j0 k ((rd_T48 l0_1 t155).f1) t157 t158 (decide (t158 < 0))))) = some (r1, r2) := H; have A18 := Aside0.mk A180; clear A180; replace H := Option.bind_eq_some_iff.mp H; obtain ⟨t158, A190, H⟩ := H; replace H : (if t157 < 0 then (chart_Between.j0 k ((rd_T48 l0_1 t155).f1) t157 t158 true) else (chart_Between.j0 k ((rd_T48 l0_1 t155).f1) t157 t158 (decide (t158 < 0)))) = some (r1, r2) := H; have A19 := Aside0.mk A190; clear A190; have HC20 := Aside0.mk H; clear H; have hm1_1 := Aside0.mk trivial
    case' n5_ =>
     rw [if_neg c17] at H; exact absurd H (by simp)
   case' n4_ =>
    rw [if_neg c16] at H; exact absurd H (by simp)
 case' n2_ =>
  rw [if_neg c6] at H; have c6b0 : (t154 == 0) = false := beq_eq_false_iff_ne.mpr c6; have c6b1 : (t154 != 0) = true := bne_iff_ne.mpr c6; simp only [Option.some.injEq, Prod.mk.injEq] at H; obtain ⟨rfl, rfl⟩ := H; have hm1_0 := Aside0.mk trivial
 all_goals
  go_enter Try.func16, Try.ntmps16
  first
   | clear hm1_0
     go_wp2_with (first | ((with_reducible refine gate_dst (N := 4) rfl ?_); refine box_s #[.slice A0_0 l0_0.length c0_0, .slice A0_1 l0_1.length c0_1] 25 ?_; intro gb152 hg wx97a71 hbox hb; have n0_ := st HB hb; have n1_ := Aside0.mk (hbox); have n2_ := ge HB hg; have n3_ := ge HB hg; clear HB; have HB := n0_; have BK152 := n1_; have GW152 := n2_; have GE152 := n3_; clear n0_ n1_ n2_ n3_; clear hb hbox hg) | ((with_reducible refine gate_dst (N := 5) rfl ?_); refine box_s #[.string a1] 9 ?_; intro gb153 hg wx7dfd1 hbox hb; have n0_ := kp BK152 hb; have n1_ := st HB hb; have n2_ := Aside0.mk (hbox); have n3_ := ge HB hg; have n4_ := ge HB hg; have n5_ := nl BK152 hg; have n6_ := nr BK152 hg; clear BK152; clear HB; have BK152 := n0_; have HB := n1_; have BK153 := n2_; have GW153 := n3_; have GE153 := n4_; have NB152_153 := n5_; have NB153_152 := n6_; clear n0_ n1_ n2_ n3_ n4_ n5_ n6_; clear hb hbox hg; have hnbx7dfd1 := NB152_153.out; have hncx7dfd1 := NB153_152.out; have hczx7dfd1 : wx7dfd1.cell? ⟨gb152, 0, none⟩ = some (.slice A0_0 l0_0.length c0_0) := bc BK152 0; have hczx7dfd2 : wx7dfd1.cell? ⟨gb152, 1, none⟩ = some (.slice A0_1 l0_1.length c0_1) := bc BK152 1; have hfzx7dfd1 := blk_frozen BK152.out 0; have hfzx7dfd2 := blk_frozen BK152.out 1) | ((with_reducible refine gate_callee (f := 49) rfl ?_); refine goesL_ (some 17) rfl rfl Try.func49 (by kernel_rfl) rfl #[.agg #[.slice A0_0 l0_0.length c0_0, .slice A0_1 l0_1.length c0_1]] rfl any_s ?_; (with_reducible refine (chart_Check.calls k _ _ l0_0 _ _ l0_1 t154 _ ?side1 ?side2 ?side3 ?side4 A5.out).mono ?_); (case side1 => exact cb_s (Kd.C_below HR0_0.out HB.out)); (case side2 => exact HC0_0.out); (case side3 => exact cb_s (Kd.C_below HR0_1.out HB.out)); (case side4 => exact HC0_1.out); rintro e wx1b901 ⟨rfl, hb⟩; refine ⟨_, rfl, ?_⟩; have n0_ := kp BK152 hb; have n1_ := kp BK153 hb; have n2_ := st HB hb; clear BK152; clear BK153; clear HB; have BK152 := n0_; have BK153 := n1_; have HB := n2_; clear n0_ n1_ n2_; (try clear hb); (try clear hb2); (try clear hk); (try clear hi); have hczx1b901 : wx1b901.cell? ⟨gb152, 0, none⟩ = some (.slice A0_0 l0_0.length c0_0) := bc BK152 0; have hczx1b902 : wx1b901.cell? ⟨gb152, 1, none⟩ = some (.slice A0_1 l0_1.length c0_1) := bc BK152 1; have hfzx1b901 := blk_frozen BK152.out 0; have hfzx1b902 := blk_frozen BK152.out 1) | ((with_reducible refine gate_callee (f := 49) rfl ?_); refine goesL_ (some 17) rfl rfl Try.func49 (by kernel_rfl) rfl #[.agg #[.slice A0_0 l0_0.length c0_0, .slice A0_1 l0_1.length c0_1]] rfl any_s ?_; (with_reducible refine (chart_Check.calls k _ _ l0_0 _ _ l0_1 t154 _ ?side1 ?side2 ?side3 ?side4 A5.out).mono ?_); (case side1 => exact cb_s (Kd.C_below HR0_0.out HB.out)); (case side2 => exact HC0_0.out); (case side3 => exact cb_s (Kd.C_below HR0_1.out HB.out)); (case side4 => exact HC0_1.out); rintro e wx54161 ⟨rfl, hb⟩; refine ⟨_, rfl, ?_⟩; have n0_ := kp BK152 hb; have n1_ := kp BK153 hb; have n2_ := st HB hb; clear BK152; clear BK153; clear HB; have BK152 := n0_; have BK153 := n1_; have HB := n2_; clear n0_ n1_ n2_; (try clear hb); (try clear hb2); (try clear hk); (try clear hi)) | ((with_reducible refine gate_callee (f := 50) rfl ?_); refine goesL_ (some 24) rfl rfl Try.func50 (by kernel_rfl) rfl #[.slice A0_1 l0_1.length c0_1, .func (.func 51) #[] #[.pointer (some ⟨gb153, 0, none⟩)]] rfl any_s ?_; (with_reducible refine (api_Airway_50.calls _ _ l0_1 (chart_Between_1.p a1) t155 _ ?side1 ?side2 ?side3 A7.out).mono ?_); (case side1 => exact cb_s (Kd.C_below HR0_1.out HB.out)); (case side2 => exact HC0_1.out); (case side3 => exact chart_Between_1.pred blk_s); rintro e wxfb221 ⟨rfl, hb⟩; refine ⟨_, rfl, ?_⟩; have n0_ := kp BK152 hb; have n1_ := kp BK153 hb; have n2_ := st HB hb; clear BK152; clear BK153; clear HB; have BK152 := n0_; have BK153 := n1_; have HB := n2_; clear n0_ n1_ n2_; (try clear hb); (try clear hb2); (try clear hk); (try clear hi)))
     go_ret2
     exact ⟨_, by first | rfl | (simp [errW_none, errW_some] <;> rfl) | (simp [*, errW_none, errW_some] <;> rfl), by first | exact Kd.R_nil _ _ _ _ _ | exact Kd.N_nil _ _ _ _ _ | exact Kd.V_nil _ _ _ _ _ | exact Kd.Q_nil _ _ _ _ _ | exact Kd.S_nil _ _ _ _ _, by repeat (first | (with_reducible first | exact HB.out | apply below_alloc | apply pw_below_drewN | apply below_drew1 | refine below_set ?_ GE152.out | refine below_set ?_ GE153.out) | exact HB.out)⟩
   | clear hm1_1
     go_upto_region 9 with (first | ((with_reducible refine gate_dst (N := 4) rfl ?_); refine box_s #[.slice A0_0 l0_0.length c0_0, .slice A0_1 l0_1.length c0_1] 25 ?_; intro gb152 hg wx97a71 hbox hb; have n0_ := st HB hb; have n1_ := Aside0.mk (hbox); have n2_ := ge HB hg; have n3_ := ge HB hg; clear HB; have HB := n0_; have BK152 := n1_; have GW152 := n2_; have GE152 := n3_; clear n0_ n1_ n2_ n3_; clear hb hbox hg) | ((with_reducible refine gate_dst (N := 5) rfl ?_); refine box_s #[.string a1] 9 ?_; intro gb153 hg wx7dfd1 hbox hb; have n0_ := kp BK152 hb; have n1_ := st HB hb; have n2_ := Aside0.mk (hbox); have n3_ := ge HB hg; have n4_ := ge HB hg; have n5_ := nl BK152 hg; have n6_ := nr BK152 hg; clear BK152; clear HB; have BK152 := n0_; have HB := n1_; have BK153 := n2_; have GW153 := n3_; have GE153 := n4_; have NB152_153 := n5_; have NB153_152 := n6_; clear n0_ n1_ n2_ n3_ n4_ n5_ n6_; clear hb hbox hg; have hnbx7dfd1 := NB152_153.out; have hncx7dfd1 := NB153_152.out; have hczx7dfd1 : wx7dfd1.cell? ⟨gb152, 0, none⟩ = some (.slice A0_0 l0_0.length c0_0) := bc BK152 0; have hczx7dfd2 : wx7dfd1.cell? ⟨gb152, 1, none⟩ = some (.slice A0_1 l0_1.length c0_1) := bc BK152 1; have hfzx7dfd1 := blk_frozen BK152.out 0; have hfzx7dfd2 := blk_frozen BK152.out 1) | ((with_reducible refine gate_callee (f := 49) rfl ?_); refine goesL_ (some 17) rfl rfl Try.func49 (by kernel_rfl) rfl #[.agg #[.slice A0_0 l0_0.length c0_0, .slice A0_1 l0_1.length c0_1]] rfl any_s ?_; (with_reducible refine (chart_Check.calls k _ _ l0_0 _ _ l0_1 t154 _ ?side1 ?side2 ?side3 ?side4 A5.out).mono ?_); (case side1 => exact cb_s (Kd.C_below HR0_0.out HB.out)); (case side2 => exact HC0_0.out); (case side3 => exact cb_s (Kd.C_below HR0_1.out HB.out)); (case side4 => exact HC0_1.out); rintro e wx1b901 ⟨rfl, hb⟩; refine ⟨_, rfl, ?_⟩; have n0_ := kp BK152 hb; have n1_ := kp BK153 hb; have n2_ := st HB hb; clear BK152; clear BK153; clear HB; have BK152 := n0_; have BK153 := n1_; have HB := n2_; clear n0_ n1_ n2_; (try clear hb); (try clear hb2); (try clear hk); (try clear hi); have hczx1b901 : wx1b901.cell? ⟨gb152, 0, none⟩ = some (.slice A0_0 l0_0.length c0_0) := bc BK152 0; have hczx1b902 : wx1b901.cell? ⟨gb152, 1, none⟩ = some (.slice A0_1 l0_1.length c0_1) := bc BK152 1; have hfzx1b901 := blk_frozen BK152.out 0; have hfzx1b902 := blk_frozen BK152.out 1) | ((with_reducible refine gate_callee (f := 50) rfl ?_); refine goesL_ (some 24) rfl rfl Try.func50 (by kernel_rfl) rfl #[.slice A0_1 l0_1.length c0_1, .func (.func 51) #[] #[.pointer (some ⟨gb153, 0, none⟩)]] rfl any_s ?_; (with_reducible refine (api_Airway_50.calls _ _ l0_1 (chart_Between_1.p a1) t155 _ ?side1 ?side2 ?side3 A7.out).mono ?_); (case side1 => exact cb_s (Kd.C_below HR0_1.out HB.out)); (case side2 => exact HC0_1.out); (case side3 => exact chart_Between_1.pred blk_s); rintro e wx95781 ⟨rfl, hb⟩; refine ⟨_, rfl, ?_⟩; have n0_ := kp BK152 hb; have n1_ := kp BK153 hb; have n2_ := st HB hb; clear BK152; clear BK153; clear HB; have BK152 := n0_; have BK153 := n1_; have HB := n2_; clear n0_ n1_ n2_; (try clear hb); (try clear hb2); (try clear hk); (try clear hi); have hczx95781 : wx95781.cell? ⟨gb152, 0, none⟩ = some (.slice A0_0 l0_0.length c0_0) := bc BK152 0; have hczx95782 : wx95781.cell? ⟨gb152, 1, none⟩ = some (.slice A0_1 l0_1.length c0_1) := bc BK152 1; have hfzx95781 := blk_frozen BK152.out 0; have hfzx95782 := blk_frozen BK152.out 1; have p156 : 0 ≤ (t155 : Int) := of_decide_eq_true (by first | (with_reducible assumption) | assumption); have q156 : t155 < (l0_1.length : Int) := of_decide_eq_true (by first | (with_reducible assumption) | assumption); obtain ⟨ad156, A156_1, c156_1, e156, hx156_0, hx156_1, hl156_1, hi156_1⟩ := at_T48 HR0_1.out t155 p156 q156; cases e156; replace hx156_0 := cl HB hx156_0; replace hx156_1 := cl HB hx156_1; have HR156_1 := Aside0.mk hi156_1; have HC156_1 := Aside0.mk hl156_1; clear hi156_1 hl156_1; replace p156 := eq_true p156; replace q156 := eq_true q156) | ((with_reducible refine gate_callee (f := 52) rfl ?_); refine goesL_ (some 35) rfl rfl Try.func52 (by kernel_rfl) rfl #[.slice A156_1 ((rd_T48 l0_1 t155).f1).length c156_1, .string a2] rfl any_s ?_; (with_reducible refine (slices_Index_string_string.calls k _ _ ((rd_T48 l0_1 t155).f1) a2 t157 _ ?side1 ?side2 A18.out).mono ?_); (case side1 => exact cb_s (Kd.C_below HR156_1.out HB.out)); (case side2 => exact HC156_1.out); rintro e wxcc011 ⟨rfl, hb⟩; refine ⟨_, rfl, ?_⟩; have n0_ := kp BK152 hb; have n1_ := kp BK153 hb; have n2_ := st HB hb; clear BK152; clear BK153; clear HB; have BK152 := n0_; have BK153 := n1_; have HB := n2_; clear n0_ n1_ n2_; (try clear hb); (try clear hb2); (try clear hk); (try clear hi)) | ((with_reducible refine gate_callee (f := 52) rfl ?_); refine goesL_ (some 38) rfl rfl Try.func52 (by kernel_rfl) rfl #[.slice A156_1 ((rd_T48 l0_1 t155).f1).length c156_1, .string a3] rfl any_s ?_; (with_reducible refine (slices_Index_string_string.calls k _ _ ((rd_T48 l0_1 t155).f1) a3 t158 _ ?side1 ?side2 A19.out).mono ?_); (case side1 => exact cb_s (Kd.C_below HR156_1.out HB.out)); (case side2 => exact HC156_1.out); rintro e wx010a1 ⟨rfl, hb⟩; refine ⟨_, rfl, ?_⟩; have n0_ := kp BK152 hb; have n1_ := kp BK153 hb; have n2_ := st HB hb; clear BK152; clear BK153; clear HB; have BK152 := n0_; have BK153 := n1_; have HB := n2_; clear n0_ n1_ n2_; (try clear hb); (try clear hb2); (try clear hk); (try clear hi)))
     (try simp only [Act.put, List.setIfInBounds_toArray, List.set_cons_zero, List.set_cons_succ])
     go_cut [39] (fun v39 wc => ∃ (kq : Nat) (x39_19 : Bool), v39 = .bool x39_19 ∧ Aside0 (chart_Between.j0 kq ((rd_T48 l0_1 t155).f1) t157 t158 x39_19 = some (r1, r2)) ∧ Aside0 (kq ≤ k) ∧ Aside0 (wc.heap[gb152]? = some (.cells #[(.slice A0_0 l0_0.length c0_0), (.slice (some ad156) l0_1.length c0_1)] 25 (0, 0))) ∧ Aside0 (wc.heap[gb153]? = some (.cells #[.string a1] 9 (0, 0))) ∧ Aside0 (Below w.heap.size w wc))
     case first =>
      have H := HC20.out; clear HC20; refine Or.elim (Classical.em (t157 < 0)) (fun c31 => ?p7_) (fun c31 => ?n7_)
      case' p7_ =>
       rw [if_pos c31] at H; have c31b0 : decide (t157 < 0) = true := decide_eq_true c31; clear c31
       (first | rw [c31b0] | (simp only [i64_w, i32_w]; rw [c31b0]) | skip)
      case' n7_ =>
       rw [if_neg c31] at H; have c31b0 : decide (t157 < 0) = false := decide_eq_false c31; clear c31
       (first | rw [c31b0] | (simp only [i64_w, i32_w]; rw [c31b0]) | skip)
      all_goals
       have H' := Aside0.mk H; clear H; go_wp2; go_meet
       case rel => first | (exact ⟨_, (true), (by first | rfl | (simp; done) | (simp [*]; done)), H', ⟨by first | omega | exact Nat.le_refl _⟩, ⟨by (with_reducible repeat (first | refine blk_drewN ?_ _ | refine blk_drew ?_ | refine blk_alloc ?_ _)); exact BK152.out⟩, ⟨by (with_reducible repeat (first | refine blk_drewN ?_ _ | refine blk_drew ?_ | refine blk_alloc ?_ _)); exact BK153.out⟩, ⟨by repeat (first | (with_reducible first | exact HB.out | apply below_alloc | apply pw_below_drewN | apply below_drew1 | refine below_set ?_ GE152.out | refine below_set ?_ GE153.out) | exact HB.out)⟩⟩) | (exact ⟨_, (decide (t158 < 0)), (by first | rfl | (simp; done) | (simp [*]; done)), H', ⟨by first | omega | exact Nat.le_refl _⟩, ⟨by (with_reducible repeat (first | refine blk_drewN ?_ _ | refine blk_drew ?_ | refine blk_alloc ?_ _)); exact BK152.out⟩, ⟨by (with_reducible repeat (first | refine blk_drewN ?_ _ | refine blk_drew ?_ | refine blk_alloc ?_ _)); exact BK153.out⟩, ⟨by repeat (first | (with_reducible first | exact HB.out | apply below_alloc | apply pw_below_drewN | apply below_drew1 | refine below_set ?_ GE152.out | refine below_set ?_ GE153.out) | exact HB.out)⟩⟩)
     case rest =>
      clear HC20
      (try clear c1); (try clear p1); (try clear q1); (try clear hx1); (try clear c2); (try clear p2); (try clear c3); (try clear c4); (try clear c5); (try clear c6); (try clear c6b0); (try clear c6b1); (try clear c8); (try clear c8b0); (try clear c11); (try clear c15); (try clear p15); (try clear q15); (try clear hx15); (try clear c16); (try clear c16b0); (try clear c17); (try clear c17b0); (try clear c23); (try clear c31); (try clear c31b0); (try clear hczza1); (try clear hczza2); (try clear hczza3); (try clear hczza4); (try clear hczx7dfd1); (try clear hczx7dfd2); (try clear hczx1b901); (try clear hczx1b902); (try clear hczx95781); (try clear hczx95782); (try clear hfzza1); (try clear hfzza2); (try clear hfzza3); (try clear hfzza4)
      (try clear hfzx7dfd1); (try clear hfzx7dfd2); (try clear hfzx1b901); (try clear hfzx1b902); (try clear hfzx95781); (try clear hfzx95782); (try clear hx156_0); (try clear hx156_1); (try clear p156); (try clear q156)
      obtain ⟨kq, x39_19, rfl, HA, HJ19, BK152, BK153, HB⟩ := hcut
      cases kq with
      | zero => exact absurd HA.out (by simp [chart_Between.j0])
      | succ kj19 =>
       have H := HA.out; clear HA; simp only [chart_Between.j0] at H; refine Or.elim (Classical.em (x39_19 = true)) (fun c32 => ?p9_) (fun c32 => ?n9_)
       case' p9_ =>
        subst c32
        have H1 : (some (([] : List ByteArray), 6)) = some (r1, r2) := by rw [if_pos rfl] at H; exact H
        clear H; have H := H1; clear H1; simp only [Option.some.injEq, Prod.mk.injEq] at H; obtain ⟨rfl, rfl⟩ := H; have hm8_0 := Aside0.mk trivial
       case' n9_ =>
        replace c32 := Bool.eq_false_iff.mpr c32; subst c32
        have H1 : (if t157 ≤ t158 then (if 0 ≤ t157 then (if t157 ≤ (wrap64 (t158 + 1)) then (if (wrap64 (t158 + 1)) ≤ (((rd_T48 l0_1 t155).f1).length : Int) then ((slices_Clone_string_string.f ((((rd_T48 l0_1 t155).f1).take ((wrap64 (t158 + 1)) : Int).toNat).drop (t157 : Int).toNat)).bind fun t160 => (some (t160, 0))) else (none)) else (none)) else (none)) else (if 0 ≤ t158 then (if t158 ≤ (wrap64 (t157 + 1)) then (if (wrap64 (t157 + 1)) ≤ (((rd_T48 l0_1 t155).f1).length : Int) then ((slices_Clone_string_string.f ((((rd_T48 l0_1 t155).f1).take ((wrap64 (t157 + 1)) : Int).toNat).drop (t158 : Int).toNat)).bind fun t164 => ((slices_Reverse_string_string.f kj19 t164).bind fun t167 => (some (t167, 0)))) else (none)) else (none)) else (none))) = some (r1, r2) := by rw [if_neg (show ¬ (false = true) by decide)] at H; exact H
        clear H; have H := H1; clear H1; refine Or.elim (Classical.em (t157 ≤ t158)) (fun c33 => ?p10_) (fun c33 => ?n10_)
        case' p10_ =>
         rw [if_pos c33] at H; have c33b0 : decide (t157 ≤ t158) = true := decide_eq_true c33; clear c33; refine Or.elim (Classical.em (0 ≤ t157)) (fun c34 => ?p11_) (fun c34 => ?n11_)
         case' p11_ =>
          rw [if_pos c34] at H; have c34b0 := eq_true c34; have c34b1 : decide (0 ≤ t157) = true := decide_eq_true c34; clear c34; refine Or.elim (Classical.em (t157 ≤ (wrap64 (t158 + 1)))) (fun c35 => ?p12_) (fun c35 => ?n12_)
          case' p12_ =>
           rw [if_pos c35] at H; have c35b0 := eq_true c35; have c35b1 : decide (t157 ≤ (wrap64 (t158 + 1))) = true := decide_eq_true c35; refine Or.elim (Classical.em ((wrap64 (t158 + 1)) ≤ (((rd_T48 l0_1 t155).f1).length : Int))) (fun c36 => ?p13_) (fun c36 => ?n13_)
           case' p13_ =>
            rw [if_pos c36] at H; have c36b0 := eq_true c36; have c36b1 : decide ((wrap64 (t158 + 1)) ≤ (((rd_T48 l0_1 t155).f1).length : Int)) = true := decide_eq_true c36; replace H := Option.bind_eq_some_iff.mp H; obtain ⟨t160, A370, H⟩ := H; replace H : (some (t160, 0)) = some (r1, r2) := H; have A37 := Aside0.mk A370; clear A370; simp only [Option.some.injEq, Prod.mk.injEq] at H; obtain ⟨rfl, rfl⟩ := H; obtain ⟨i038, hi038, _, hsz38, _⟩ := info_parts info9
            obtain ⟨A38, hcut38, hA38, hC38⟩ := print_mid_of (P := Try.prog) Value.string (⟨#[]⟩ : ByteArray) 27 9 .i64 .i64 Try.underlying27 hi038 hsz38 A156_1 c156_1 ((rd_T48 l0_1 t155).f1) t157 (wrap64 (t158 + 1)) (of_decide_eq_true (by first | (with_reducible assumption) | assumption)) (by first | omega | exact of_decide_eq_true (by first | (with_reducible assumption) | assumption)) (of_decide_eq_true (by first | (with_reducible assumption) | assumption)) HC156_1.out
            have HR159 := Aside0.mk (Kd.C_of_reads (h1 := fun _ => rfl) (hA38 _ (Kd.reads_of_C HR156_1.out))); have HC159 := Aside0.mk hC38; clear hA38 hC38 hi038 hsz38; have hm8_1 := Aside0.mk trivial
           case' n13_ =>
            rw [if_neg c36] at H; exact absurd H (by simp)
          case' n12_ =>
           rw [if_neg c35] at H; exact absurd H (by simp)
         case' n11_ =>
          rw [if_neg c34] at H; exact absurd H (by simp)
        case' n10_ =>
         rw [if_neg c33] at H; have c33b0 : decide (t157 ≤ t158) = false := decide_eq_false c33; clear c33; refine Or.elim (Classical.em (0 ≤ t158)) (fun c40 => ?p14_) (fun c40 => ?n14_)
         case' p14_ =>
          rw [if_pos c40] at H; have c40b0 := eq_true c40; have c40b1 : decide (0 ≤ t158) = true := decide_eq_true c40; clear c40; refine Or.elim (Classical.em (t158 ≤ (wrap64 (t157 + 1)))) (fun c41 => ?p15_) (fun c41 => ?n15_)
          case' p15_ =>
           rw [if_pos c41] at H; have c41b0 := eq_true c41; have c41b1 : decide (t158 ≤ (wrap64 (t157 + 1))) = true := decide_eq_true c41; refine Or.elim (Classical.em ((wrap64 (t157 + 1)) ≤ (((rd_T48 l0_1 t155).f1).length : Int))) (fun c42 => ?p16_) (fun c42 => ?n16_)
           case' p16_ =>
            rw [if_pos c42] at H; have c42b0 := eq_true c42; have c42b1 : decide ((wrap64 (t157 + 1)) ≤ (((rd_T48 l0_1 t155).f1).length : Int)) = true := decide_eq_true c42; replace H := Option.bind_eq_some_iff.mp H; obtain ⟨t164, A430, H⟩ := H; replace H : ((slices_Reverse_string_string.f kj19 t164).bind fun t167 => (some (t167, 0))) = some (r1, r2) := H; have A43 := Aside0.mk A430; clear A430; replace H := Option.bind_eq_some_iff.mp H; obtain ⟨t167, A440, H⟩ := H; replace H : (some (t167, 0)) = some (r1, r2) := H; have A44 := Aside0.mk A440; clear A440; simp only [Option.some.injEq, Prod.mk.injEq] at H; obtain ⟨rfl, rfl⟩ := H; obtain ⟨i045, hi045, _, hsz45, _⟩ := info_parts info9
            obtain ⟨A45, hcut45, hA45, hC45⟩ := print_mid_of (P := Try.prog) Value.string (⟨#[]⟩ : ByteArray) 27 9 .i64 .i64 Try.underlying27 hi045 hsz45 A156_1 c156_1 ((rd_T48 l0_1 t155).f1) t158 (wrap64 (t157 + 1)) (of_decide_eq_true (by first | (with_reducible assumption) | assumption)) (by first | omega | exact of_decide_eq_true (by first | (with_reducible assumption) | assumption)) (of_decide_eq_true (by first | (with_reducible assumption) | assumption)) HC156_1.out
            have HR163 := Aside0.mk (Kd.C_of_reads (h1 := fun _ => rfl) (hA45 _ (Kd.reads_of_C HR156_1.out))); have HC163 := Aside0.mk hC45; clear hA45 hC45 hi045 hsz45; have hm8_2 := Aside0.mk trivial
           case' n16_ =>
            rw [if_neg c42] at H; exact absurd H (by simp)
          case' n15_ =>
           rw [if_neg c41] at H; exact absurd H (by simp)
         case' n14_ =>
          rw [if_neg c40] at H; exact absurd H (by simp)
       all_goals
        first
         | clear hm8_0; go_wp2; go_ret2
           exact ⟨_, by first | rfl | (simp [errW_none, errW_some] <;> rfl) | (simp [*, errW_none, errW_some] <;> rfl), by first | exact Kd.R_nil _ _ _ _ _ | exact Kd.N_nil _ _ _ _ _ | exact Kd.V_nil _ _ _ _ _ | exact Kd.Q_nil _ _ _ _ _ | exact Kd.S_nil _ _ _ _ _, by repeat (first | (with_reducible first | exact HB.out | apply below_alloc | apply pw_below_drewN | apply below_drew1 | refine below_set ?_ GE152.out | refine below_set ?_ GE153.out) | exact HB.out)⟩
         | (first | (have _hm := hm8_1) | (have _hm := hm8_2))
           go_wp2_with (first | ((with_reducible refine gate_callee (f := 53) rfl ?_); refine goesL_ (some 55) rfl rfl Try.func53 (by kernel_rfl) rfl #[.slice A38 ((((rd_T48 l0_1 t155).f1).take ((wrap64 (t158 + 1)) : Int).toNat).drop (t157 : Int).toNat).length (c156_1 - t157.toNat)] rfl (by (try simp only [List.map_toArray, List.map_cons, List.map_nil]); first | done | (rw [show ((((rd_T48 l0_1 t155).f1).take ((wrap64 (t158 + 1)) : Int).toNat).drop (t157 : Int).toNat).length = ((wrap64 (t158 + 1)).toNat - t157.toNat) from (by rw [List.length_drop, List.length_take]; have h_ : ((wrap64 (t158 + 1)) : Int) ≤ (((rd_T48 l0_1 t155).f1).length : Int) := of_decide_eq_true (by first | (with_reducible assumption) | assumption); omega)] <;> rfl) | rfl | (simp only [List.length_drop, List.length_take]; rfl)) ?_; (with_reducible refine (slices_Clone_string_string.calls _ _ ((((rd_T48 l0_1 t155).f1).take ((wrap64 (t158 + 1)) : Int).toNat).drop (t157 : Int).toNat) t160 _ ?side1 ?side2 A37.out).mono ?_); (case side1 => exact cb_s (Kd.C_below HR159.out HB.out)); (case side2 => exact HC159.out); rintro e wxd6d31 ⟨v161, rfl, hoxd6d31, hb⟩; refine ⟨_, rfl, ?_⟩; have n0_ := Aside0.mk (Kd.R_lower (Kd.R_newB hoxd6d31 (g := gb153) (o := .cells #[.string a1] 9 (0, 0)) blk_s) bz_s); have n1_ := kp BK152 hb; have n2_ := kp BK153 hb; have n3_ := st HB hb; clear BK152; clear BK153; clear HB; have HO162 := n0_; have BK152 := n1_; have BK153 := n2_; have HB := n3_; clear n0_ n1_ n2_ n3_; (try clear hb); (try clear hb2); (try clear hk); (try clear hi); (try clear hoxd6d31)) | ((with_reducible refine gate_callee (f := 53) rfl ?_); refine goesL_ (some 61) rfl rfl Try.func53 (by kernel_rfl) rfl #[.slice A45 ((((rd_T48 l0_1 t155).f1).take ((wrap64 (t157 + 1)) : Int).toNat).drop (t158 : Int).toNat).length (c156_1 - t158.toNat)] rfl (by (try simp only [List.map_toArray, List.map_cons, List.map_nil]); first | done | (rw [show ((((rd_T48 l0_1 t155).f1).take ((wrap64 (t157 + 1)) : Int).toNat).drop (t158 : Int).toNat).length = ((wrap64 (t157 + 1)).toNat - t158.toNat) from (by rw [List.length_drop, List.length_take]; have h_ : ((wrap64 (t157 + 1)) : Int) ≤ (((rd_T48 l0_1 t155).f1).length : Int) := of_decide_eq_true (by first | (with_reducible assumption) | assumption); omega)] <;> rfl) | rfl | (simp only [List.length_drop, List.length_take]; rfl)) ?_; (with_reducible refine (slices_Clone_string_string.calls _ _ ((((rd_T48 l0_1 t155).f1).take ((wrap64 (t157 + 1)) : Int).toNat).drop (t158 : Int).toNat) t164 _ ?side1 ?side2 A43.out).mono ?_); (case side1 => exact cb_s (Kd.C_below HR163.out HB.out)); (case side2 => exact HC163.out); rintro e wx48d21 ⟨v165, rfl, hox48d21, hb⟩; refine ⟨_, rfl, ?_⟩; have n0_ := Aside0.mk (Kd.R_lower (Kd.R_newB hox48d21 (g := gb153) (o := .cells #[.string a1] 9 (0, 0)) blk_s) bz_s); have n1_ := kp BK152 hb; have n2_ := kp BK153 hb; have n3_ := st HB hb; clear BK152; clear BK153; clear HB; have HO166 := n0_; have BK152 := n1_; have BK153 := n2_; have HB := n3_; clear n0_ n1_ n2_ n3_; (try clear hb); (try clear hb2); (try clear hk); (try clear hi); (try clear hox48d21); obtain ⟨Aox48d21, cox48d21, eox48d21⟩ := Kd.R_slice HO166.out; subst eox48d21) | ((with_reducible refine gate_callee (f := 54) rfl ?_); refine goesL_ (some 63) rfl rfl Try.func54 (by kernel_rfl) rfl #[.slice Aox48d21 t164.length cox48d21] rfl any_s ?_; (with_reducible refine (slices_Reverse_string_string.calls kj19 (fun k_ => some k_ = (.slice Aox48d21 t164.length cox48d21 : Value).ownBlock) (.slice Aox48d21 t164.length cox48d21) t164 t167 w _ ?side1 ?side2 A44.out).mono ?_); (case side1 => repeat (first | (with_reducible first | exact HB.out | apply below_alloc | apply pw_below_drewN | apply below_drew1 | refine below_set ?_ GE152.out | refine below_set ?_ GE153.out) | exact HB.out)); (case side2 => exact Kd.R_tight rfl HO166.out); rintro e wxcf791 ⟨rfl, hy0, hb, hkp⟩; refine ⟨_, rfl, ?_⟩; have n0_ := Aside0.mk (blk_kept blk_s hkp (fun hs_ => (fun e_ => (Kd.R_ne HO166.out BK152.out (by decide)) e_) hs_)); have n1_ := Aside0.mk (blk_kept blk_s hkp (fun hs_ => (fun e_ => (Kd.R_away HO166.out (fun _ hk => hk.2)) e_) hs_)); have n2_ := Aside0.mk (Kd.R_reok rfl hy0 (fun k_ e_ => HO166.out.1 k_ e_)); have n3_ := Aside0.mk (hb); clear BK152; clear BK153; clear HO166; clear HB; have BK152 := n0_; have BK153 := n1_; have HO166 := n2_; have HB := n3_; clear n0_ n1_ n2_ n3_; (try clear hb); (try clear hkp); (try clear hy0)))
           go_ret2
           first
            | clear hm8_1
              exact ⟨_, by first | rfl | (simp [errW_none, errW_some] <;> rfl) | (simp [*, errW_none, errW_some] <;> rfl), by (with_reducible repeat (first | apply Kd.R_alloc | apply Kd.R_drewN | apply Kd.R_drew)); exact Kd.R_mono HO162.out (fun _ hk => trivial), by repeat (first | (with_reducible first | exact HB.out | apply below_alloc | apply pw_below_drewN | apply below_drew1 | refine below_set ?_ GE152.out | refine below_set ?_ GE153.out) | exact HB.out)⟩
            | clear hm8_2
              exact ⟨_, by first | rfl | (simp [errW_none, errW_some] <;> rfl) | (simp [*, errW_none, errW_some] <;> rfl), by (with_reducible repeat (first | apply Kd.R_alloc | apply Kd.R_drewN | apply Kd.R_drew)); exact Kd.R_mono HO166.out (fun _ hk => trivial), by repeat (first | (with_reducible first | exact HB.out | apply below_alloc | apply pw_below_drewN | apply below_drew1 | refine below_set ?_ GE152.out | refine below_set ?_ GE153.out) | exact HB.out)⟩

/-! ### route_isAirway_1: function 137 -/
/-- Whether an element has this name. -/
def route_isAirway_1.p (s : ByteArray) (x : S48) : Bool := decide (x.f0 = s)
set_option maxHeartbeats 8000000 in
set_option maxRecDepth 100000 in
theorem route_isAirway_1.pred {s : ByteArray} {b ty : Nat} {w : World} (hb : w.heap[b]? = some (.cells #[.string s] ty (0, 0))) : IdxF.Pred Try.prog k48 true (.func (.func 137) #[] #[.pointer (some ⟨b, 0, none⟩)]) (route_isAirway_1.p s) w := by
  refine ⟨137, _, rfl, enters_of Try.func137 (by kernel_rfl) rfl, fun W x cs hW hK => ?_⟩; obtain ⟨A1, c1, rfl, _⟩ := k48_open hK; have hbW := blk_below hb hW; have hc : W.cell? ⟨b, 0, none⟩ = some (.string s) := (blk_cell hbW 0).trans rfl; have hlt := blk_lt hbW; clear hb hbW hW; unfold route_isAirway_1.p; change Calls Try.prog 137 #[.agg #[.string x.f0, .slice A1 x.f1.length c1], .pointer (some ⟨b, 0, none⟩)] W _; generalize x.f0 = x0; go_enter Try.func137, Try.ntmps137; go_wp2; go_ret
  exact ⟨by first | rfl | (rw [IdxF.str_eq]; rfl), below_alloc (Below.refl _ _) _⟩

/-! ### route_isAirway: function 101 -/
def route_isAirway.f (l0_0 : List (S40)) (l0_1 : List (S48)) (a1 : ByteArray) : Option (Bool) := (api_Airway_121.f l0_1 (route_isAirway_1.p a1)).bind fun t170 => (some t170)
set_option maxHeartbeats 8000000 in
set_option maxRecDepth 100000 in
theorem route_isAirway.calls (A0_0 : Option Addr) (c0_0 : Nat) (l0_0 : List (S40)) (A0_1 : Option Addr) (c0_1 : Nat) (l0_1 : List (S48)) (a1 : ByteArray) (r : Bool) (w : World) (hr0_0 : Kd.C k40 w A0_0 l0_0.length l0_0) (hc0_0 : l0_0.length ≤ c0_0) (hr0_1 : Kd.C k48 w A0_1 l0_1.length l0_1) (hc0_1 : l0_1.length ≤ c0_1) (h : route_isAirway.f l0_0 l0_1 a1 = some r) :
    Calls Try.prog 101 #[.agg #[.slice A0_0 l0_0.length c0_0, .slice A0_1 l0_1.length c0_1], .string a1] w fun e w' => e = .returned (.bool r) ∧ Below w.heap.size w w' := by
 have hu25 := Try.underlying25; have HR0_0 := Aside0.mk hr0_0; have HC0_0 := Aside0.mk hc0_0; clear hr0_0 hc0_0; have HR0_1 := Aside0.mk hr0_1; have HC0_1 := Aside0.mk hc0_1; clear hr0_1 hc0_1; have HB := Aside0.mk (Below.refl w.heap.size w); have H : ((api_Airway_121.f l0_1 (route_isAirway_1.p a1)).bind fun t170 => (some t170)) = some r := h; clear h; replace H := Option.bind_eq_some_iff.mp H; obtain ⟨t170, A30, H⟩ := H; replace H : (some t170) = some r := H; have A3 := Aside0.mk A30; clear A30; obtain rfl := Option.some.inj H; go_enter Try.func101, Try.ntmps101
 go_wp2_with (first | ((with_reducible refine gate_dst (N := 2) rfl ?_); refine box_s #[.slice A0_0 l0_0.length c0_0, .slice A0_1 l0_1.length c0_1] 25 ?_; intro gb168 hg w4 hbox hb; have n0_ := st HB hb; have n1_ := Aside0.mk (hbox); have n2_ := ge HB hg; have n3_ := ge HB hg; clear HB; have HB := n0_; have BK168 := n1_; have GW168 := n2_; have GE168 := n3_; clear n0_ n1_ n2_ n3_; clear hb hbox hg) | ((with_reducible refine gate_dst (N := 3) rfl ?_); refine box_s #[.string a1] 9 ?_; intro gb169 hg w5 hbox hb; have n0_ := kp BK168 hb; have n1_ := st HB hb; have n2_ := Aside0.mk (hbox); have n3_ := ge HB hg; have n4_ := ge HB hg; have n5_ := nl BK168 hg; have n6_ := nr BK168 hg; clear BK168; clear HB; have BK168 := n0_; have HB := n1_; have BK169 := n2_; have GW169 := n3_; have GE169 := n4_; have NB168_169 := n5_; have NB169_168 := n6_; clear n0_ n1_ n2_ n3_ n4_ n5_ n6_; clear hb hbox hg; have hnb6 := NB168_169.out; have hnc6 := NB169_168.out; have hcz7_0 : w5.cell? ⟨gb168, 0, none⟩ = some (.slice A0_0 l0_0.length c0_0) := bc BK168 0; have hcz7_1 : w5.cell? ⟨gb168, 1, none⟩ = some (.slice A0_1 l0_1.length c0_1) := bc BK168 1; have hfz7_0 := blk_frozen BK168.out 0; have hfz7_1 := blk_frozen BK168.out 1) | ((with_reducible refine gate_callee (f := 121) rfl ?_); refine goesL_ (some 8) rfl rfl Try.func121 (by kernel_rfl) rfl #[.slice A0_1 l0_1.length c0_1, .func (.func 137) #[] #[.pointer (some ⟨gb169, 0, none⟩)]] rfl any_s ?_; (with_reducible refine (api_Airway_121.calls _ _ l0_1 (route_isAirway_1.p a1) t170 _ ?side1 ?side2 ?side3 A3.out).mono ?_); (case side1 => exact cb_s (Kd.C_below HR0_1.out HB.out)); (case side2 => exact HC0_1.out); (case side3 => exact route_isAirway_1.pred blk_s); rintro e w8 ⟨rfl, hb⟩; refine ⟨_, rfl, ?_⟩; have n0_ := kp BK168 hb; have n1_ := kp BK169 hb; have n2_ := st HB hb; clear BK168; clear BK169; clear HB; have BK168 := n0_; have BK169 := n1_; have HB := n2_; clear n0_ n1_ n2_; (try clear hb); (try clear hb2); (try clear hk); (try clear hi)))
 go_ret
 exact ⟨by first | rfl | (simp [errW_none, errW_some] <;> rfl) | (simp [*, errW_none, errW_some] <;> rfl), by repeat (first | (with_reducible first | exact HB.out | apply below_alloc | apply pw_below_drewN | apply below_drew1 | refine below_set ?_ GE168.out | refine below_set ?_ GE169.out) | exact HB.out)⟩

end Go.Proofs.Ytbpbpojnfhhbjaa.PRouteDirect
