/- Made by a program of this session (wip/tools/myprint.py, over the kit's printer): that the Go functions answer as the Lean functions printed beside them. -/
import Derived.Test.YthghilclgobpbaaTSq2
import Derived.Test.YthghilclgobpbaaPVolumeOverlapx0
namespace Go.Proofs.Ythghilclgobpbaa.PVolumeOverlap
open Go.RowKit Go.Proofs.YthghilclgobpbaaW.PrintWords Go.Proofs.YthghilclgobpbaaW.PrintLast Go.Proofs.YthghilclgobpbaaW.PrintMore
attribute [local go_sem] max2_int min2_int max_two min_two max_three min_three max_four min_four   -- for this text's walks alone
set_option linter.unusedVariables false
set_option linter.unusedSimpArgs false

/-! ### volume_CheckSpans: function 62 -/
def volume_CheckSpans.l0 : Nat → List (S62) → Int → Int → Option (Int)
  | 0, _, _, _ => none
  | k + 1, x8, x9, x10 => if x10 < x9 then (if 0 ≤ x10 then (if x10 < (x8.length : Int) then (if ((rd_T62 x8 x10).f0) < 0 then (some 12) else (if ((rd_T62 x8 x10).f1) > 200000 then (some 12) else (if ((rd_T62 x8 x10).f0) ≥ ((rd_T62 x8 x10).f1) then (some 12) else (volume_CheckSpans.l0 k x8 x9 (wrap64 (x10 + 1)))))) else (none)) else (none)) else (some 0)
def volume_CheckSpans.f (k : Nat) (l0 : List (S62)) : Option (Int) := if (l0.length : Int) > 256 then (some 2) else (volume_CheckSpans.l0 k l0 (l0.length : Int) 0)
theorem volume_CheckSpans.mono_l : ∀ k, (∀ y0 y1 y2, LeO (volume_CheckSpans.l0 k y0 y1 y2) (volume_CheckSpans.l0 (k + 1) y0 y1 y2))
  | 0 => fun _ _ _ r h => by simp [volume_CheckSpans.l0] at h
  | k + 1 => by
    have ih0 := volume_CheckSpans.mono_l k
    · intro y0 y1 y2; unfold volume_CheckSpans.l0
      repeat' first
      | (with_reducible exact ih0 _ _ _)
      | (with_reducible exact LeO.refl _)
      | (with_reducible exact LeO.none _)
      | (with_reducible refine LeO.ite ?_ ?_)
      | (with_reducible refine LeO.bind ?_ (fun _ => ?_))
      | exact ih0 _ _ _
      | exact LeO.none _
      | refine LeO.ite ?_ ?_
      | refine LeO.bind ?_ (fun _ => ?_)
theorem volume_CheckSpans.mono : ∀ a0 k, LeO (volume_CheckSpans.f k a0) (volume_CheckSpans.f (k + 1) a0) := by
  intro a0 k; have ih0 := volume_CheckSpans.mono_l k; unfold volume_CheckSpans.f
  repeat' first
      | (with_reducible exact ih0 _ _ _)
      | (with_reducible exact LeO.refl _)
      | (with_reducible exact LeO.none _)
      | (with_reducible refine LeO.ite ?_ ?_)
      | (with_reducible refine LeO.bind ?_ (fun _ => ?_))
      | exact ih0 _ _ _
      | exact LeO.none _
      | refine LeO.ite ?_ ?_
      | refine LeO.bind ?_ (fun _ => ?_)
set_option maxHeartbeats 8000000 in
set_option maxRecDepth 100000 in
theorem volume_CheckSpans.calls (k : Nat) (A0 : Option Addr) (c0 : Nat) (l0 : List (S62)) (r : Int) (w : World) (hr0 : Kd.C k62 w A0 l0.length l0) (hc0 : l0.length ≤ c0) (h : volume_CheckSpans.f k l0 = some r) :
    Calls Try.prog 62 #[.slice A0 l0.length c0] w fun e w' => e = .returned (.int .i64 r) ∧ Below w.heap.size w w' := by
 have hu62 := Try.underlying62; have HR0 := Aside0.mk hr0; have HC0 := Aside0.mk hc0; clear hr0 hc0; have HB := Aside0.mk (Below.refl w.heap.size w); have H : (if (l0.length : Int) > 256 then (some 2) else (volume_CheckSpans.l0 k l0 (l0.length : Int) 0)) = some r := h; clear h
 by_cases c2 : (l0.length : Int) > 256
 · rw [if_pos c2] at H; have c2b0 : decide (256 < (l0.length : Int)) = true := decide_eq_true c2; have c2b1 : decide (256 < l0.length) = true := decide_eq_true (by omega); clear c2; obtain rfl := Option.some.inj H; go_enter Try.func62, Try.ntmps62; go_wp2; go_ret
   exact ⟨by first | rfl | (simp [errW_none, errW_some] <;> rfl) | (simp [*, errW_none, errW_some] <;> rfl), by repeat (first | (with_reducible first | exact HB.out | apply below_alloc | apply pw_below_drewN | apply below_drew1) | exact HB.out)⟩
 · rw [if_neg c2] at H; have c2b0 : decide (256 < (l0.length : Int)) = false := decide_eq_false c2; have c2b1 : decide (256 < l0.length) = false := decide_eq_false (by omega); clear c2; have H' := Aside0.mk H; clear H; go_enter Try.func62, Try.ntmps62; go_wp2; go_loopg [10] k (fun kq v10 w' => ∃ (x10_1 : Int), v10 = .int .i64 x10_1 ∧ Aside0 (volume_CheckSpans.l0 kq l0 (l0.length : Int) x10_1 = some r) ∧ Aside0 (kq ≤ k) ∧ Aside0 (Below w.heap.size w w'))
   case atStart => exact ⟨(0), (by first | rfl | (simp; done) | (simp [*]; done)), H', ⟨Nat.le_refl _⟩, ⟨by repeat (first | (with_reducible first | exact HB.out | apply below_alloc | apply pw_below_drewN | apply below_drew1) | exact HB.out)⟩⟩
   case round =>
    clear H'
    (try clear c2); (try clear c2b0); (try clear c2b1); (try clear p2)
    obtain ⟨x10_1, rfl, HA, HK1, HB⟩ := hrel
    cases gk with
    | zero => exact absurd HA.out (by simp [volume_CheckSpans.l0])
    | succ k1 =>
     have H := HA.out; clear HA; simp only [volume_CheckSpans.l0] at H; refine Or.elim (Classical.em (x10_1 < (l0.length : Int))) (fun c3 => ?p2_) (fun c3 => ?n2_)
     case' p2_ =>
      rw [if_pos c3] at H; have c3b0 : decide (x10_1 < (l0.length : Int)) = true := decide_eq_true c3; clear c3; refine Or.elim (Classical.em (0 ≤ x10_1)) (fun c4 => ?p3_) (fun c4 => ?n3_)
      case' p3_ =>
       rw [if_pos c4] at H; have c4b0 : decide (0 ≤ x10_1) = true := decide_eq_true c4; clear c4; refine Or.elim (Classical.em (x10_1 < (l0.length : Int))) (fun c5 => ?p4_) (fun c5 => ?n4_)
       case' p4_ =>
        rw [if_pos c5] at H; have c5b0 : decide (x10_1 < (l0.length : Int)) = true := decide_eq_true c5; clear c5; refine Or.elim (Classical.em (((rd_T62 l0 x10_1).f0) < 0)) (fun c6 => ?p5_) (fun c6 => ?n5_)
        case' p5_ =>
         rw [if_pos c6] at H; have c6b0 : decide (((rd_T62 l0 x10_1).f0) < 0) = true := decide_eq_true c6; clear c6; have hm1_0 := Aside0.mk trivial
        case' n5_ =>
         rw [if_neg c6] at H; have c6b0 : decide (((rd_T62 l0 x10_1).f0) < 0) = false := decide_eq_false c6; clear c6; refine Or.elim (Classical.em (((rd_T62 l0 x10_1).f1) > 200000)) (fun c9 => ?p6_) (fun c9 => ?n6_)
         case' p6_ =>
          rw [if_pos c9] at H; have c9b0 : decide (200000 < ((rd_T62 l0 x10_1).f1)) = true := decide_eq_true c9; clear c9; have hm1_0 := Aside0.mk trivial
         case' n6_ =>
          rw [if_neg c9] at H; have c9b0 : decide (200000 < ((rd_T62 l0 x10_1).f1)) = false := decide_eq_false c9; clear c9; refine Or.elim (Classical.em (((rd_T62 l0 x10_1).f0) ≥ ((rd_T62 l0 x10_1).f1))) (fun c12 => ?p7_) (fun c12 => ?n7_)
          case' p7_ =>
           rw [if_pos c12] at H; have c12b0 : decide (((rd_T62 l0 x10_1).f1) ≤ ((rd_T62 l0 x10_1).f0)) = true := decide_eq_true c12; clear c12; have hm1_0 := Aside0.mk trivial
          case' n7_ =>
           rw [if_neg c12] at H; have c12b0 : decide (((rd_T62 l0 x10_1).f1) ≤ ((rd_T62 l0 x10_1).f0)) = false := decide_eq_false c12; clear c12; have hm1_1 := Aside0.mk trivial
       case' n4_ =>
        rw [if_neg c5] at H; exact absurd H (by simp)
      case' n3_ =>
       rw [if_neg c4] at H; exact absurd H (by simp)
     case' n2_ =>
      rw [if_neg c3] at H; have c3b0 : decide (x10_1 < (l0.length : Int)) = false := decide_eq_false c3; clear c3; have hm1_2 := Aside0.mk trivial
     all_goals
      first
       | (first | (have _hm := hm1_0) | (have _hm := hm1_2))
         obtain rfl := Option.some.inj H
         first
          | clear hm1_0
            have p193 : 0 ≤ (x10_1 : Int) := of_decide_eq_true (by first | (with_reducible assumption) | assumption)
            have q193 : x10_1 < (l0.length : Int) := of_decide_eq_true (by first | (with_reducible assumption) | assumption)
            obtain ⟨ad193, e193, hx193_0, hx193_1⟩ := at_T62 HR0.out x10_1 p193 q193; cases e193; replace hx193_0 := cl HB hx193_0; replace hx193_1 := cl HB hx193_1; replace p193 := eq_true p193; replace q193 := eq_true q193
            go_wp2_with (first | ((with_reducible refine gate_dst (N := 4) rfl ?_); refine box_s #[.int .i64 0, .int .i64 0] 62 ?_; intro gb194 hg wx63551 hbox hb; have n0_ := st HB hb; have n1_ := Aside0.mk (hbox); have n2_ := ge HB hg; have n3_ := ge HB hg; clear HB; have HB := n0_; have BK194 := n1_; have GW194 := n2_; have GE194 := n3_; clear n0_ n1_ n2_ n3_; clear hb hbox hg; have hczx63551 : wx63551.cell? ⟨gb194, 0, none⟩ = some (.int .i64 0) := bc BK194 0; have hczx63552 : wx63551.cell? ⟨gb194, 1, none⟩ = some (.int .i64 0) := bc BK194 1; have hfzx63551 := blk_frozen BK194.out 0; have hfzx63552 := blk_frozen BK194.out 1))
            go_ret
            exact ⟨by first | rfl | (simp [errW_none, errW_some] <;> rfl) | (simp [*, errW_none, errW_some] <;> rfl), by repeat (first | (with_reducible first | exact HB.out | apply below_alloc | apply pw_below_drewN | apply below_drew1 | refine below_set ?_ GE194.out) | exact HB.out)⟩
          | clear hm1_2; go_wp2; go_ret
            exact ⟨by first | rfl | (simp [errW_none, errW_some] <;> rfl) | (simp [*, errW_none, errW_some] <;> rfl), by repeat (first | (with_reducible first | exact HB.out | apply below_alloc | apply pw_below_drewN | apply below_drew1) | exact HB.out)⟩
       | clear hm1_1; have H' := Aside0.mk H; clear H
         have p193 : 0 ≤ (x10_1 : Int) := of_decide_eq_true (by first | (with_reducible assumption) | assumption)
         have q193 : x10_1 < (l0.length : Int) := of_decide_eq_true (by first | (with_reducible assumption) | assumption)
         obtain ⟨ad193, e193, hx193_0, hx193_1⟩ := at_T62 HR0.out x10_1 p193 q193; cases e193; replace hx193_0 := cl HB hx193_0; replace hx193_1 := cl HB hx193_1; replace p193 := eq_true p193; replace q193 := eq_true q193
         go_wp2_with (first | ((with_reducible refine gate_dst (N := 4) rfl ?_); refine box_s #[.int .i64 0, .int .i64 0] 62 ?_; intro gb194 hg wx63551 hbox hb; have n0_ := st HB hb; have n1_ := Aside0.mk (hbox); have n2_ := ge HB hg; have n3_ := ge HB hg; clear HB; have HB := n0_; have BK194 := n1_; have GW194 := n2_; have GE194 := n3_; clear n0_ n1_ n2_ n3_; clear hb hbox hg; have hczx63551 : wx63551.cell? ⟨gb194, 0, none⟩ = some (.int .i64 0) := bc BK194 0; have hczx63552 : wx63551.cell? ⟨gb194, 1, none⟩ = some (.int .i64 0) := bc BK194 1; have hfzx63551 := blk_frozen BK194.out 0; have hfzx63552 := blk_frozen BK194.out 1))
         go_roundg k1
         case measure => have := HK1.out; omega
         case rel => exact ⟨(wrap64 (x10_1 + 1)), (by first | rfl | (simp; done) | (simp [*]; done)), H', ⟨by have := HK1.out; omega⟩, ⟨by repeat (first | (with_reducible first | exact HB.out | apply below_alloc | apply pw_below_drewN | apply below_drew1 | refine below_set ?_ GE194.out) | exact HB.out)⟩⟩

/-! ### api_Span_63: function 63 -/
def api_Span_63.f (l0 : List (S62)) : Option ((List (S62))) := (some (([] : List (S62)) : List (S62))).bind fun y195 => (if y195.length + l0.length < 8796093022208 then (some (y195 ++ l0)) else (none))
theorem api_Span_63.nil_ (A_ : Option Addr) (n_ c_ : Nat) (w_ : World) : (binOp .eql 56 (.slice A_ n_ c_) (.slice none 0 0)).run Try.prog w_ = .ok (.bool A_.isNone) w_ := by
  have hu := Try.underlying56; have hd : Op.maxDepth = (Op.maxDepth - 1) + 1 := rfl
  cases A_ <;> (simp only [binOp, Op.equal]; rw [hd]; simp [Op.equalIn, Sem.run_bind, run_underlying hu])
attribute [local go_sem high] api_Span_63.nil_
set_option maxHeartbeats 8000000 in
set_option maxRecDepth 100000 in
theorem api_Span_63.calls (A0 : Option Addr) (c0 : Nat) (l0 : List (S62)) (r : List (S62)) (w : World) (hr0 : Kd.C k62 w A0 l0.length l0) (hc0 : l0.length ≤ c0) (h : api_Span_63.f l0 = some r) :
    Calls Try.prog 63 #[.slice A0 l0.length c0] w fun e w' => ∃ v0_ : Value, e = .returned (v0_) ∧ Kd.R k62 62 w' w.heap.size (fun _ => True) v0_ r ∧ Below w.heap.size w w' := by
  have hu_ := Try.underlying56
  obtain rfl | ⟨ad0_, hA0_⟩ : A0 = none ∨ ∃ ad_, A0 = some ad_ := by
    cases A0 with
    | none => exact Or.inl rfl
    | some a_ => exact Or.inr ⟨a_, rfl⟩
  · have hl0_ : l0 = [] := by
      cases l0 with
      | nil => rfl
      | cons x_ xs_ => obtain ⟨ad_, e_, _⟩ := hr0.2.2 (by simp); cases e_
    subst hl0_
    have hr_ : r = [] := by
      unfold api_Span_63.f at h
      simpa using h.symm
    subst hr_; go_enter Try.func63, Try.ntmps63
    try go_wp2
    go_ret; exact ⟨_, rfl, Kd.R_nil _ _ _ _ _, Below.refl _ _⟩
  · subst hA0_; have HR0 := Aside0.mk hr0; have HC0 := Aside0.mk hc0; clear hr0 hc0; have HB := Aside0.mk (Below.refl w.heap.size w); have H : ((some (([] : List (S62)) : List (S62))).bind fun y195 => (if y195.length + l0.length < 8796093022208 then (some (y195 ++ l0)) else (none))) = some r := h; clear h; obtain ⟨y195, hy195⟩ : ∃ y_ : List (S62), y_ = (([] : List (S62))) := ⟨_, rfl⟩
    replace H : (if y195.length + l0.length < 8796093022208 then (some (y195 ++ l0)) else (none)) = some r := by first | (rw [hy195]; with_reducible exact H) | (have H2_ := (Option.bind_some _ _).symm.trans H; rw [hy195]; with_reducible exact H2_) | (have H2_ := (Option.bind_some _ _).symm.trans H; with_reducible exact H2_) | with_reducible exact H | (rw [hy195]; exact H) | exact H
    have Ny195 := Aside0.mk hy195; clear hy195
    by_cases c2 : y195.length + l0.length < 8796093022208
    · rw [if_pos c2] at H; have LMc2 := Aside0.mk c2; clear c2; obtain ⟨y198, hy198⟩ : ∃ y_ : List (S62), y_ = (y195 ++ l0) := ⟨_, rfl⟩
      replace H : (some y198) = some r := by first | (rw [hy198]; with_reducible exact H) | (have H2_ := (Option.bind_some _ _).symm.trans H; rw [hy198]; with_reducible exact H2_) | (have H2_ := (Option.bind_some _ _).symm.trans H; with_reducible exact H2_) | with_reducible exact H | (rw [hy198]; exact H) | exact H
      have Ny198 := Aside0.mk hy198; clear hy198; obtain rfl := Option.some.inj H; go_enter Try.func63, Try.ntmps63
      go_wp2_with (first | ((with_reducible refine gate_dst (N := 5) rfl ?_); refine Kd.R_lit k62 _ 62 ?hg (N := 5) ?hd (xs := ([] : List (S62))) (inner := []) (ok := fun _ => True) (okp := fun _ => True) ?hr ?hp (fun _ hk => hk) trivial (Below.refl _ _) (Nat.le_refl _) (by simp) ?_; (case hd => rfl); (case hg => rfl); (case hr => first | (go_simp; done) | (go_simp; rfl)); (case hp => exact (Reps.none _ _)); intro v196 w3 ho4 hb hg_ hnew_; clear hg_ hnew_; (first | rw [← Ny195.out] at ho4 | (simp only [Int.reduceToNat] at ho4; rw [← Ny195.out] at ho4)); have n0_ := Aside0.mk (Kd.R_lower ho4 bz_s); have n1_ := st HB hb; clear HB; have HO197 := n0_; have HB := n1_; clear n0_ n1_; clear hb ho4) | ((with_reducible refine gate_builtin (b := .append) (xs := #[.tmp 5, .tmp 6]) rfl ?_); at_builtin; refine Kd.R_append_rows k62 (w0 := w) w.heap.size rfl (.tmp 5) (.tmp 6) 56 62 (.agg #[(.int .i64 0), (.int .i64 0)]) 16 rfl Try.underlying56 info62 rfl (by decide) (by omega) v196 y195 l0 _ _ _ (fun _ => True) (fun _ => False) rfl rfl ?aO ?aR (fun _ _ h => h) (fun _ h => h.elim) ?aF ?aB ?aS ?aL ?_; (case aR => exact cb_s (Kd.C_below HR0.out HB.out)); (case aB => exact bel_s); (case aF => exact (fun _ _ => trivial)); (case aO => exact (by (with_reducible repeat (first | apply Kd.R_alloc | apply Kd.R_drewN | apply Kd.R_drew)); exact HO197.out)); (case aS => exact bz_s); (case aL => have := LMc2.out; omega); intro v199 w5 ho hb hg hat; rw [← Ny198.out] at ho; have n0_ := Aside0.mk (hb); have n1_ := Aside0.mk (ho); clear HB; clear HO197; have HB := n0_; have HO200 := n1_; clear n0_ n1_; clear ho hb hg hat))
      go_ret
      exact ⟨_, by first | rfl | (simp [errW_none, errW_some] <;> rfl) | (simp [*, errW_none, errW_some] <;> rfl), by (with_reducible repeat (first | apply Kd.R_alloc | apply Kd.R_drewN | apply Kd.R_drew)); exact HO200.out, by repeat (first | (with_reducible first | exact HB.out | apply below_alloc | apply pw_below_drewN | apply below_drew1) | exact HB.out)⟩
    · rw [if_neg c2] at H; exact absurd H (by simp)

/-! ### api_Span_64: function 64 -/
section
open Go.Shelf Go.Lib Go.Sort
/-- An interval whose beginning is a small number. -/
abbrev SpB : Type := { x : S62 // 0 ≤ x.f0 ∧ x.f0 ≤ 1000000 }
instance : Inhabited SpB := ⟨⟨⟨0, 0⟩, by decide⟩⟩
def encS (x : SpB) : List Value := [.int .i64 x.1.f0, .int .i64 x.1.f1]
def cfS (x y : SpB) : Int := x.1.f0 - y.1.f0
theorem ltS (x y : SpB) : ltOf cfS x y = decide (x.1.f0 < y.1.f0) := by
  unfold ltOf cfS
  by_cases h : x.1.f0 < y.1.f0
  · rw [decide_eq_true h, decide_eq_true (by omega)]
  · rw [decide_eq_false h, decide_eq_false (by omega)]
theorem swoS : SWO (ltOf cfS) where
  irrefl x := by rw [ltS]; simp
  trans x y z h1 h2 := by rw [ltS] at *; simp at *; omega
  ntrans x y z h1 h2 := by rw [ltS] at *; simp at *; omega
def okAll (l : List S62) : Bool := decide (l.length ≤ 1000000) && l.all fun x => decide (0 ≤ x.f0 ∧ x.f0 ≤ 1000000)
theorem okAll_mem {l : List S62} (h : okAll l = true) : ∀ x ∈ l, 0 ≤ x.f0 ∧ x.f0 ≤ 1000000 := by
  unfold okAll at h; rw [Bool.and_eq_true] at h; intro x hx; exact of_decide_eq_true (List.all_eq_true.1 h.2 x hx)
theorem okAll_len {l : List S62} (h : okAll l = true) : l.length ≤ 1000000 := by
  unfold okAll at h; rw [Bool.and_eq_true] at h; exact of_decide_eq_true h.1
def liftS (l : List S62) (h : okAll l = true) : Array SpB := (l.pmap (fun x hx => (⟨x, hx⟩ : SpB)) (okAll_mem h)).toArray
/-- What the row holds, sorted. -/
def sortS (l : List S62) (h : okAll l = true) : Array SpB := pdq (ltOf cfS) (liftS l h) 0 (liftS l h).size (Lib.bitLen (liftS l h).size) true true
theorem liftS_size (l : List S62) (h : okAll l = true) : (liftS l h).size = l.length := by unfold liftS; rw [List.size_toArray]; exact List.length_pmap
theorem sortS_spec (l : List S62) (h : okAll l = true) : PermIn 0 (liftS l h).size (liftS l h) (sortS l h) ∧ SortedIn (ltOf cfS) 0 (liftS l h).size (sortS l h) :=
  pdq_sorts (ltOf cfS) swoS (liftS l h) 0 (liftS l h).size (Lib.bitLen (liftS l h).size) true true (Nat.zero_le _) (Nat.le_refl _) (Or.inl rfl)
set_option maxHeartbeats 1000000 in
theorem closureS (x y : SpB) (W : World) : Calls Try.prog 65 #[.agg #[.int .i64 x.1.f0, .int .i64 x.1.f1], .agg #[.int .i64 y.1.f0, .int .i64 y.1.f1]] W fun e w' => e = .returned (.int .i64 (cfS x y)) ∧ ∃ q os', w' = grow (W.drewN q) os' := by
  have hw : IntKind.i64.wrap (x.1.f0 - y.1.f0) = cfS x y := by
    have := x.2; have := y.2; rw [IntKind.wrap_i64]; unfold cfS
    omega
  generalize cfS x y = r at hw ⊢; go_enter Try.func65, Try.ntmps65; go_wp2; go_ret; exact ⟨by simp, 0, _, by rw [alloc_eq_grow, alloc_eq_grow, grow_grow]; rfl⟩
theorem laysS (blk off size : Nat) (w : World) : CmpLays Try.prog 65 #[] encS 2 cfS blk off size w := fun _ _ _ _ x y => closureS x y _
theorem sort_calls (blk cap : Nat) (d : Array SpB) (w : World) (hH : HoldsK encS 2 w blk 0 d) (hblk : blk < w.heap.size) (hsz : d.size < 4611686018427387904) :
    Calls Try.prog 64 #[.slice (some ⟨blk, 0, none⟩) d.size cap, .func (.func 65) #[] #[]] w fun e w' => e = .returned (.tuple #[]) ∧ ∃ n os, w' = sortWorldK encS 2 w blk 0 n (pdq (ltOf cfS) d 0 d.size (Lib.bitLen d.size) true true) os := by
  have eg : ∀ args w, (callFunc 65 args).run Try.prog w = .ok (.enter 65 args) w := enters_of Try.func65 (by kernel_rfl) rfl
  have hcon := AnyQ.slices_SortFunc_eq Try.spanSort 2 Try.isAgg62 Try.sizeOf62 encS (fun _ => rfl) (fun x v hv => by simp [encS] at hv; rcases hv with rfl | rfl <;> rfl) cfS swoS 65 #[] blk 0 cap d w eg (laysS blk 0 d.size w) hH hblk hsz
  exact hcon
/-- The list that the sort leaves. -/
def sortedS (l : List S62) (h : okAll l = true) : List S62 := (sortS l h).toList.map (·.1)
theorem liftS_list (l : List S62) (h : okAll l = true) : (liftS l h).toList.map (·.1) = l := by
  unfold liftS; rw [List.toList_toArray, List.map_pmap, List.pmap_eq_map, List.map_id']
theorem sortedS_perm (l : List S62) (h : okAll l = true) : (sortedS l h).Perm l := by
  have hp := (sortS_spec l h).1; have hs := hp.1; have h3 := hp.2.2; rw [← hs, Array.extract_size, hs, Array.extract_size] at h3; have := h3.map (·.1); rw [liftS_list] at this; exact this
theorem sortedS_length (l : List S62) (h : okAll l = true) : (sortedS l h).length = l.length := (sortedS_perm l h).length_eq
theorem sortedS_sorted (l : List S62) (h : okAll l = true) : (sortedS l h).Pairwise fun x y => x.f0 ≤ y.f0 := by
  have hs := (sortS_spec l h).2; have hz : (sortS l h).size = (liftS l h).size := (sortS_spec l h).1.1; rw [List.pairwise_iff_getElem]; intro i j hi hj hij; unfold sortedS at hi hj; rw [List.length_map, Array.length_toList] at hi hj; have := hs i j (Nat.zero_le _) hij (by omega); rw [ltS, getElem!_pos _ i hi, getElem!_pos _ j hj] at this; unfold sortedS; rw [List.getElem_map, List.getElem_map, Array.getElem_toList, Array.getElem_toList]; have := of_decide_eq_false this
  omega
def flatS (l : List S62) : List Value := l.flatMap fun x => [.int .i64 x.f0, .int .i64 x.f1]
theorem flatS_length (l : List S62) : (flatS l).length = l.length * 2 := by
  unfold flatS
  induction l with
  | nil => rfl
  | cons x l ih => rw [List.flatMap_cons, List.length_append, ih]; simp; omega
theorem flatS_at (l : List S62) : ∀ q x, l[q]? = some x → ((flatS l).drop (q * 2)).take 2 = [.int .i64 x.f0, .int .i64 x.f1] := by
  unfold flatS
  induction l with
  | nil => intro q x h; simp at h
  | cons y l ih =>
    intro q x h
    cases q with
    | zero => obtain rfl : y = x := by simpa using h
              rfl
    | succ q =>
      rw [List.flatMap_cons, show (q + 1) * 2 = 2 + q * 2 by omega, ← List.drop_drop]; exact ih q x (by simpa using h)
theorem list_pairs {a b : List Value} {n : Nat} (ha : a.length = n * 2) (hb : b.length = n * 2) (h : ∀ q, q < n → (a.drop (q * 2)).take 2 = (b.drop (q * 2)).take 2) : a = b := by
  apply List.ext_getElem?; intro t
  by_cases ht : t < n * 2
  · have e : ∀ c : List Value, c[t]? = ((c.drop (t / 2 * 2)).take 2)[t % 2]? := fun c => by
      rw [List.getElem?_take_of_lt (by omega), List.getElem?_drop, show t / 2 * 2 + t % 2 = t by omega]
    rw [e a, e b, h (t / 2) (by omega)]
  · rw [List.getElem?_eq_none (by omega), List.getElem?_eq_none (by omega)]
theorem flatK_list (d : Array SpB) : (flatK encS 2 d).toList = flatS (d.toList.map (·.1)) := by
  refine list_pairs (n := d.size) (by simp) (by rw [flatS_length, List.length_map, Array.length_toList]) fun q hq => ?_
  rw [flatS_at _ q d[q].1 (by rw [List.getElem?_map, Array.getElem?_toList, Array.getElem?_eq_getElem hq]; rfl)]; apply List.ext_getElem?; intro t; have hsz : (flatK encS 2 d).size = d.size * 2 := size_flatK _ _ _
  by_cases ht : t < 2
  · rw [List.getElem?_take_of_lt ht, List.getElem?_drop, Array.getElem?_toList, Array.getElem?_eq_getElem (by omega), ← getElem!_pos _ (q * 2 + t) (by omega), get_flatK _ _ _ _ (by omega), show (q * 2 + t) / 2 = q by omega, show (q * 2 + t) % 2 = t by omega, getElem!_pos d q hq]
    rcases t with _ | _ | t
    · rfl
    · rfl
    · omega
  · rw [List.getElem?_eq_none (by simp; omega), List.getElem?_eq_none (by simp; omega)]
theorem heap_sortedK {w : World} {g n : Nat} {os : Array Obj} {cur : Array Value} {e : TypeId} {fr : Nat × Nat} (d : Array SpB) (hb : w.heap[g]? = some (.cells cur e fr)) :
    (sortWorldK encS 2 w g 0 n d os).heap[g]? = some (.cells (putCells id 0 (flatK encS 2 d) cur) e fr) := by
  have hg : g < w.heap.size := (Array.getElem?_eq_some_iff.1 hb).1; unfold sortWorldK putRowK; rw [heap_grow_old _ _ (by simpa using hg)]; simp [putRow, mapBlock, Sort.ahead, Array.getElem?_modify, hb, onCells]
theorem grownBy_sortedK {w : World} {g n : Nat} {os : Array Obj} (d : Array SpB) : w.grownBy (sortWorldK encS 2 w g 0 n d os) (some g) := by
  refine ⟨rfl, rfl, rfl, by simp [sortWorldK, putRowK], fun k hk hne => ?_⟩; unfold sortWorldK putRowK; rw [heap_grow_old _ _ (by simpa using hk)]
  have : g ≠ k := fun e => hne (by rw [e])
  simp [putRow, mapBlock, Sort.ahead, Array.getElem?_modify, this]
theorem take_putCellsK (cur F : Array Value) (h : F.size ≤ cur.size) : (putCells id 0 F cur).toList.take F.size = F.toList := by
  apply List.ext_getElem?; intro j
  by_cases hj : j < F.size
  · rw [List.getElem?_take_of_lt hj, Array.getElem?_toList]; simp [putCells, hj, show j < cur.size by omega]
  · rw [List.getElem?_take_eq_none (by omega), List.getElem?_eq_none (by simp; omega)]
theorem sort_kd {w : World} {base : Nat} {ok : Nat → Prop} {v : Value} {l : List S62} (h : okAll l = true) (ho : Kd.R k62 62 w base ok v l) :
    Calls Try.prog 64 #[v, .func (.func 65) #[] #[]] w fun e w' => e = .returned (.tuple #[]) ∧ w.grownBy w' v.ownBlock ∧ Kd.R k62 62 w' base ok v (sortedS l h) := by
  obtain ⟨hok, inner, ⟨hil, hown⟩, hil2, hreps⟩ := ho; have hsz2 : k62.sz = 2 := rfl; rw [hsz2] at hil hown hil2 hreps
  have hin : inner = flatS l := by
    refine list_pairs hil (flatS_length l) fun q hq => ?_
    rw [flatS_at l q l[q] (List.getElem?_eq_getElem hq)]; exact k62_openM (hreps q l[q] (List.getElem?_eq_getElem hq))
  subst hin
  rcases hown with ⟨rfl, hn⟩ | ⟨g, cap, cur, rfl, hbg, hb, hcap, hmax, hsz, htake⟩
  · obtain rfl : l = [] := List.eq_nil_of_length_eq_zero hn; have hs : sortedS [] h = [] := List.eq_nil_of_length_eq_zero (by rw [sortedS_length]; rfl); rw [hs]; refine (AnyF.slices_SortFunc_none Try.spanSort none 0 _ w).mono ?_; rintro e w' ⟨rfl, rfl⟩; exact ⟨rfl, World.grownBy.refl _ _, hok, [], own_nil _ _ _ _, Reps.none _ _⟩
  · have hfl : (flatK encS 2 (liftS l h)).toList = flatS l := by rw [flatK_list, liftS_list]
    have hH : HoldsK encS 2 w g 0 (liftS l h) := by
      intro j hj; refine ⟨?_, by simp [World.frozen?, hb]⟩; rw [Nat.zero_add, blk_cell hb]
      have hj' : j < l.length * 2 := by rw [size_flatK, liftS_size] at hj; exact hj
      have h1 : (cur.toList.take (l.length * 2))[j]? = (flatK encS 2 (liftS l h)).toList[j]? := by rw [htake, hfl]
      rw [List.getElem?_take_of_lt hj', Array.getElem?_toList, Array.getElem?_toList, Array.getElem?_eq_getElem hj] at h1; rw [h1, getElem!_pos _ j hj]; rfl
    have hc := sort_calls g cap (liftS l h) w hH (blk_lt hb) (by have := okAll_len h; rw [liftS_size]; omega); rw [liftS_size] at hc; refine hc.mono ?_; rintro e w' ⟨rfl, n, os, rfl⟩
    have hS : pdq (ltOf cfS) (liftS l h) 0 l.length (Lib.bitLen l.length) true true = sortS l h := by unfold sortS; rw [liftS_size]
    rw [hS]; have hsl := sortedS_length l h; have hf2 : (flatK encS 2 (sortS l h)).toList = flatS (sortedS l h) := flatK_list _
    have hf3 : (flatK encS 2 (sortS l h)).size = l.length * 2 := by rw [← Array.length_toList, hf2, flatS_length, hsl]
    have htk := take_putCellsK cur (flatK encS 2 (sortS l h)) (by rw [hf3, hsz]; omega); refine ⟨rfl, grownBy_sortedK _, hok, flatS (sortedS l h), ⟨by rw [flatS_length]; rfl, .inr ⟨g, cap, _, by rw [hsl], hbg, heap_sortedK _ hb, by omega, hmax, by simp [putCells, hsz]; rfl, ?_⟩⟩, by rw [flatS_length]; rfl, fun q x hq => ?_⟩
    · rw [hsl, hsz2, ← hf3, htk, hf2]
    · rw [hsz2, flatS_at _ q x hq]; exact k62_mkM _ _ _ _
def api_Span_64.f (l0 : List S62) (_ : Unit) : Option (List S62) := if h : okAll l0 = true then some (sortedS l0 h) else none
theorem api_Span_64.calls (P0_ : Nat → Prop) (u9000_ : Value) (l0 : List S62) (u_ : Unit) (r : List S62) (w0 w : World) (hB : Below w0.heap.size w0 w) (ho0 : Kd.R k62 62 w w0.heap.size P0_ u9000_ l0) (h : api_Span_64.f l0 u_ = some r) :
    Calls Try.prog 64 #[u9000_, .func (.func 65) #[] #[]] w fun e w' => e = .returned (.tuple #[]) ∧ Kd.R k62 62 w' w0.heap.size (fun k_ => (P0_ k_ ∨ w.heap.size ≤ k_)) u9000_ r ∧ Below w0.heap.size w0 w' ∧ Kept w w' (fun k_ => P0_ k_) := by
  unfold api_Span_64.f at h
  by_cases hk : okAll l0 = true
  · rw [dif_pos hk] at h; obtain rfl := Option.some.inj h; refine (sort_kd hk ho0).mono ?_; rintro e w' ⟨rfl, hg, hr⟩; exact ⟨rfl, Kd.R_mono hr (fun _ h => .inl h), hB.grown hg hB.size (fun k hk => Kd.R_base ho0 k hk), Kept.of_grown hg (Kept.refl _ _) (fun k hk => .inl (ho0.1 k hk))⟩
  · rw [dif_neg hk] at h; cases h
end

/-! ### volume_Union_1: function 65 -/
def volume_Union_1.f (a0_0 : Int) (a0_1 : Int) (a1_0 : Int) (a1_1 : Int) : Option (Int) := some (wrap64 (a0_0 - a1_0))
set_option maxHeartbeats 8000000 in
set_option maxRecDepth 100000 in
theorem volume_Union_1.calls (a0_0 : Int) (a0_1 : Int) (a1_0 : Int) (a1_1 : Int) (r : Int) (w : World) (h : volume_Union_1.f a0_0 a0_1 a1_0 a1_1 = some r) :
    Calls Try.prog 65 #[.agg #[.int .i64 a0_0, .int .i64 a0_1], .agg #[.int .i64 a1_0, .int .i64 a1_1]] w fun e w' => e = .returned (.int .i64 r) ∧ Below w.heap.size w w' := by
 have hu62 := Try.underlying62; have HB := Aside0.mk (Below.refl w.heap.size w); have H : (some (wrap64 (a0_0 - a1_0))) = some r := h; clear h; obtain rfl := Option.some.inj H; go_enter Try.func65, Try.ntmps65
 go_wp2_with (first | ((with_reducible refine gate_dst (N := 2) rfl ?_); refine box_s #[.int .i64 a0_0, .int .i64 a0_1] 62 ?_; intro gb201 hg w3 hbox hb; have n0_ := st HB hb; have n1_ := Aside0.mk (hbox); have n2_ := ge HB hg; have n3_ := ge HB hg; clear HB; have HB := n0_; have BK201 := n1_; have GW201 := n2_; have GE201 := n3_; clear n0_ n1_ n2_ n3_; clear hb hbox hg) | ((with_reducible refine gate_dst (N := 3) rfl ?_); refine box_s #[.int .i64 a1_0, .int .i64 a1_1] 62 ?_; intro gb202 hg w4 hbox hb; have n0_ := kp BK201 hb; have n1_ := st HB hb; have n2_ := Aside0.mk (hbox); have n3_ := ge HB hg; have n4_ := ge HB hg; have n5_ := nl BK201 hg; have n6_ := nr BK201 hg; clear BK201; clear HB; have BK201 := n0_; have HB := n1_; have BK202 := n2_; have GW202 := n3_; have GE202 := n4_; have NB201_202 := n5_; have NB202_201 := n6_; clear n0_ n1_ n2_ n3_ n4_ n5_ n6_; clear hb hbox hg; have hnb5 := NB201_202.out; have hnc5 := NB202_201.out; have hcz6_0 : w4.cell? ⟨gb201, 0, none⟩ = some (.int .i64 a0_0) := bc BK201 0; have hcz6_1 : w4.cell? ⟨gb201, 1, none⟩ = some (.int .i64 a0_1) := bc BK201 1; have hfz6_0 := blk_frozen BK201.out 0; have hfz6_1 := blk_frozen BK201.out 1; have hcz7_0 : w4.cell? ⟨gb202, 0, none⟩ = some (.int .i64 a1_0) := bc BK202 0; have hcz7_1 : w4.cell? ⟨gb202, 1, none⟩ = some (.int .i64 a1_1) := bc BK202 1; have hfz7_0 := blk_frozen BK202.out 0; have hfz7_1 := blk_frozen BK202.out 1))
 go_ret
 exact ⟨by first | rfl | (simp [errW_none, errW_some] <;> rfl) | (simp [*, errW_none, errW_some] <;> rfl), by repeat (first | (with_reducible first | exact HB.out | apply below_alloc | apply pw_below_drewN | apply below_drew1 | refine below_set ?_ GE201.out | refine below_set ?_ GE202.out) | exact HB.out)⟩

end Go.Proofs.Ythghilclgobpbaa.PVolumeOverlap
