/- Made by a program of this session (wip/tools/myprint.py, over the kit's printer): that the Go functions answer as the Lean functions printed beside them. -/
import Derived.Test.YthghilclgobpbaaTSq2
import Derived.Test.YthghilclgobpbaaPProbeAllx0
import Derived.Shelf.SlSortCmp.NoneTotal
import Derived.Test.YthghilclgobpbaaTClashSort
namespace Go.Proofs.Ythghilclgobpbaa.PProbeAll
open Go.RowKit Go.Proofs.YthghilclgobpbaaW.PrintWords Go.Proofs.YthghilclgobpbaaW.PrintLast Go.Proofs.YthghilclgobpbaaW.PrintMore
attribute [local go_sem] max2_int min2_int max_two min_two max_three min_three max_four min_four   -- for this text's walks alone
set_option linter.unusedVariables false
set_option linter.unusedSimpArgs false

/-! ### api_Clash: function 47 -/
-- IMPORT Test.YthghilclgobpbaaClashSort Shelf.SlSortCmp.NoneTotal
section
open Go.Shelf Go.Lib Go.Sort
/-- A clash. -/
abbrev Cl : Type := S64
instance : Inhabited Cl := ⟨⟨0, 0, 0, 0⟩⟩
def encS (x : Cl) : List Value := [.int .i64 x.f0, .int .i64 x.f1, .int .i64 x.f2, .int .i64 x.f3]
def cmpI (x y : Int) : Int := if x < y then -1 else if y < x then 1 else 0
def orI (a b c : Int) : Int := if a = 0 then (if b = 0 then c else b) else a
def cfS (x y : Cl) : Int := orI (cmpI x.f2 y.f2) (cmpI x.f0 y.f0) (cmpI x.f1 y.f1)
def ltC (x y : Cl) : Prop := x.f2 < y.f2 ∨ x.f2 = y.f2 ∧ (x.f0 < y.f0 ∨ x.f0 = y.f0 ∧ x.f1 < y.f1)
instance (x y : Cl) : Decidable (ltC x y) := by unfold ltC; infer_instance
theorem ltS (x y : Cl) : ltOf cfS x y = decide (ltC x y) := by
  unfold ltOf; apply decide_eq_decide.2; unfold cfS orI cmpI ltC
  (repeat' split) <;> omega
theorem swoS : SWO (ltOf cfS) where
  irrefl x := by rw [ltS]; simp [ltC]
  trans x y z h1 h2 := by rw [ltS, decide_eq_true_eq] at h1 h2 ⊢; unfold ltC at h1 h2 ⊢; omega
  ntrans x y z h1 h2 := by rw [ltS, decide_eq_false_iff_not] at h1 h2 ⊢; unfold ltC at h1 h2 ⊢; omega
/-- What the row holds, sorted. -/
def sortS (l : List Cl) : Array Cl := pdq (ltOf cfS) l.toArray 0 l.toArray.size (Lib.bitLen l.toArray.size) true true
theorem sortS_spec (l : List Cl) : PermIn 0 l.toArray.size l.toArray (sortS l) ∧ SortedIn (ltOf cfS) 0 l.toArray.size (sortS l) :=
  pdq_sorts (ltOf cfS) swoS l.toArray 0 l.toArray.size (Lib.bitLen l.toArray.size) true true (Nat.zero_le _) (Nat.le_refl _) (Or.inl rfl)
set_option maxHeartbeats 1000000 in
theorem isNaN_any (x : Int) (w : World) : Calls Try.prog 72 #[.int .i64 x] w fun e w' => e = .returned (.bool false) ∧ w = w' := by
  go_enter Try.func72, Try.ntmps72; go_wp2; go_ret; exact ⟨by simp, rfl⟩
set_option maxHeartbeats 1000000 in
theorem Compare_any (x y : Int) (w : World) : Calls Try.prog 50 #[.int .i64 x, .int .i64 y] w fun e w' => e = .returned (.int .i64 (cmpI x y)) ∧ w = w' := by
  have key : ∀ r, cmpI x y = r → Calls Try.prog 50 #[.int .i64 x, .int .i64 y] w fun e w' => e = .returned (.int .i64 r) ∧ w = w' := by
    intro r hr; unfold cmpI at hr
    by_cases h1 : x < y
    · rw [if_pos h1] at hr; subst hr; go_enter Try.func50, Try.ntmps50; go_wp2_with (go_at_call 72; refine (isNaN_any _ _).mono ?_; rintro e w' ⟨rfl, rfl⟩); go_ret; simp
    · rw [if_neg h1] at hr
      by_cases h2 : y < x
      · rw [if_pos h2] at hr; subst hr; go_enter Try.func50, Try.ntmps50; go_wp2_with (go_at_call 72; refine (isNaN_any _ _).mono ?_; rintro e w' ⟨rfl, rfl⟩); go_ret; simp
      · rw [if_neg h2] at hr; subst hr; go_enter Try.func50, Try.ntmps50; go_wp2_with (go_at_call 72; refine (isNaN_any _ _).mono ?_; rintro e w' ⟨rfl, rfl⟩); go_ret; simp
  exact key _ rfl
set_option maxHeartbeats 2000000 in
theorem Or_any (g : Nat) (a b c : Int) (w : World) (h0 : w.cell? ⟨g, 0, none⟩ = some (.int .i64 a)) (h1 : w.cell? ⟨g, 1, none⟩ = some (.int .i64 b)) (h2 : w.cell? ⟨g, 2, none⟩ = some (.int .i64 c)) :
    Calls Try.prog 49 #[.slice (some ⟨g, 0, none⟩) 3 3] w fun e w' => e = .returned (.int .i64 (orI a b c)) ∧ w = w' := by
  have key : ∀ r, orI a b c = r → Calls Try.prog 49 #[.slice (some ⟨g, 0, none⟩) 3 3] w fun e w' => e = .returned (.int .i64 r) ∧ w = w' := by
    intro r hr; unfold orI at hr; have HR := Lib.hid hr; clear hr; go_enter Try.func49, Try.ntmps49; go_wp2; go_loop [8] (fun i => i = .int .i64 0 ∨ (i = .int .i64 1 ∧ a = 0) ∨ (i = .int .i64 2 ∧ a = 0 ∧ b = 0) ∨ (i = .int .i64 3 ∧ a = 0 ∧ b = 0 ∧ c = 0)) (fun i => (3 - intOf i).toNat)
    case atStart => exact .inl rfl
    case round =>
      rcases hrel with rfl | ⟨rfl, ha⟩ | ⟨rfl, ha, hb⟩ | ⟨rfl, ha, hb, hc⟩
      · by_cases c0 : a = 0
        · subst c0; go_wp2; go_round
          case rel => simp
          case measure => simp [intOf]
        · go_wp2; go_ret; have h_ := HR.out; simp only [c0, if_false] at h_; rw [h_]; simp
      · subst ha
        by_cases c0 : b = 0
        · subst c0; go_wp2; go_round
          case rel => simp
          case measure => simp [intOf]
        · go_wp2; go_ret; have h_ := HR.out; simp only [if_true, c0, if_false] at h_; rw [h_]; simp
      · subst ha; subst hb
        by_cases c0 : c = 0
        · subst c0; go_wp2; go_round
          case rel => simp
          case measure => simp [intOf]
        · go_wp2; go_ret; have h_ := HR.out; simp only [if_true] at h_; rw [h_]; simp
      · subst ha; subst hb; subst hc; go_wp2; go_ret; have h_ := HR.out; simp only [if_true] at h_; rw [← h_]; simp
  exact key _ rfl
/-- Draws and new blocks alone. -/
def Gr (w w' : World) : Prop := ∃ (q : Nat) (os : Array Obj), w' = grow (w.drewN q) os
theorem Gr.refl (w : World) : Gr w w := ⟨0, #[], by rw [grow_empty]; rfl⟩
theorem Gr.alloc {w w' : World} (h : Gr w w') (o : Obj) : Gr w (w'.alloc o) := by
  obtain ⟨q, os, rfl⟩ := h; exact ⟨q, os ++ #[o], by rw [alloc_eq_grow, grow_grow]⟩
theorem Gr.drewN {w w' : World} (h : Gr w w') (n : Nat) : Gr w (w'.drewN n) := by
  obtain ⟨q, os, rfl⟩ := h; exact ⟨q + n, os, by rw [← World.drewN_drewN]; rfl⟩
theorem Gr.drew {w w' : World} (h : Gr w w') : Gr w w'.drew := h.drewN 1
set_option maxHeartbeats 4000000 in
set_option maxRecDepth 100000 in
theorem closureS (x y : Cl) (w : World) : Calls Try.prog 48 #[.agg #[.int .i64 x.f0, .int .i64 x.f1, .int .i64 x.f2, .int .i64 x.f3], .agg #[.int .i64 y.f0, .int .i64 y.f1, .int .i64 y.f2, .int .i64 y.f3]] w fun e w' => e = .returned (.int .i64 (cfS x y)) ∧ Gr w w' := by
  obtain ⟨x0, x1, x2, x3⟩ := x; obtain ⟨y0, y1, y2, y3⟩ := y; have hr : cfS ⟨x0, x1, x2, x3⟩ ⟨y0, y1, y2, y3⟩ = orI (cmpI x2 y2) (cmpI x0 y0) (cmpI x1 y1) := rfl; rw [hr]; dsimp only; clear hr; go_enter Try.func48, Try.ntmps48; go_wp2
  go_region_held3 (fun w' => w'.cell? ⟨w.heap.size, 0, none⟩ = some (.int .i64 x0) ∧ w'.cell? ⟨w.heap.size, 1, none⟩ = some (.int .i64 x1) ∧ w'.cell? ⟨w.heap.size, 2, none⟩ = some (.int .i64 x2) ∧ w'.cell? ⟨w.heap.size + 1, 0, none⟩ = some (.int .i64 y0) ∧ w'.cell? ⟨w.heap.size + 1, 1, none⟩ = some (.int .i64 y1) ∧ w'.cell? ⟨w.heap.size + 1, 2, none⟩ = some (.int .i64 y2)) (go_keep)
    (first | (go_at_call 50; refine (Compare_any _ _ _).mono ?_; rintro e w' ⟨rfl, rfl⟩) | (go_at_call 49; refine (Or_any (w.heap.size + 2) (cmpI x2 y2) (cmpI x0 y0) (cmpI x1 y1) _ (by simp [go_sem]) (by simp [go_sem]) (by simp [go_sem])).mono ?_; rintro e w' ⟨rfl, rfl⟩))
  all_goals
    go_wp2; go_ret; exact ⟨rfl, by repeat (first | exact Gr.refl _ | apply Gr.alloc | apply Gr.drewN | apply Gr.drew)⟩
theorem laysS (blk off size : Nat) (w : World) : CmpLays Try.prog 48 #[] encS 4 cfS blk off size w := fun _ _ _ _ x y => closureS x y _
theorem sort_calls (blk cap : Nat) (d : Array Cl) (w : World) (hH : HoldsK encS 4 w blk 0 d) (hblk : blk < w.heap.size) (hsz : d.size < 4611686018427387904) :
    Calls Try.prog 47 #[.slice (some ⟨blk, 0, none⟩) d.size cap, .func (.func 48) #[] #[]] w fun e w' => e = .returned (.tuple #[]) ∧ ∃ n os, w' = sortWorldK encS 4 w blk 0 n (pdq (ltOf cfS) d 0 d.size (Lib.bitLen d.size) true true) os := by
  have eg : ∀ args w, (callFunc 48 args).run Try.prog w = .ok (.enter 48 args) w := enters_of Try.func48 (by kernel_rfl) rfl
  have hcon := AnyQ.slices_SortFunc_eq Try.clashSort 4 Try.isAgg64 Try.sizeOf64 encS (fun _ => rfl) (fun x v hv => by simp [encS] at hv; rcases hv with rfl | rfl | rfl | rfl <;> rfl) cfS swoS 48 #[] blk 0 cap d w eg (laysS blk 0 d.size w) hH hblk hsz
  exact hcon
/-- The list that the sort leaves. -/
def sortedS (l : List Cl) : List Cl := (sortS l).toList
theorem sortedS_perm (l : List Cl) : (sortedS l).Perm l := by
  have hp := (sortS_spec l).1; have hs := hp.1; have h3 := hp.2.2; rw [← hs, Array.extract_size, hs, Array.extract_size] at h3; exact h3
theorem sortedS_length (l : List Cl) : (sortedS l).length = l.length := (sortedS_perm l).length_eq
theorem sortedS_sorted (l : List Cl) : (sortedS l).Pairwise fun x y => ¬ ltC y x := by
  have hs := (sortS_spec l).2; have hz : (sortS l).size = l.toArray.size := (sortS_spec l).1.1; rw [List.pairwise_iff_getElem]; intro i j hi hj hij; unfold sortedS at hi hj; rw [Array.length_toList] at hi hj; have := hs i j (Nat.zero_le _) hij (by omega); rw [ltS, getElem!_pos _ i hi, getElem!_pos _ j hj] at this; unfold sortedS; rw [Array.getElem_toList, Array.getElem_toList]; exact of_decide_eq_false this
def flatS (l : List Cl) : List Value := l.flatMap fun x => [.int .i64 x.f0, .int .i64 x.f1, .int .i64 x.f2, .int .i64 x.f3]
theorem flatS_length (l : List Cl) : (flatS l).length = l.length * 4 := by
  unfold flatS
  induction l with
  | nil => rfl
  | cons x l ih => rw [List.flatMap_cons, List.length_append, ih]; simp; omega
theorem flatS_at (l : List Cl) : ∀ q x, l[q]? = some x → ((flatS l).drop (q * 4)).take 4 = [.int .i64 x.f0, .int .i64 x.f1, .int .i64 x.f2, .int .i64 x.f3] := by
  unfold flatS
  induction l with
  | nil => intro q x h; simp at h
  | cons y l ih =>
    intro q x h
    cases q with
    | zero => obtain rfl : y = x := by simpa using h
              rfl
    | succ q =>
      rw [List.flatMap_cons, show (q + 1) * 4 = 4 + q * 4 by omega, ← List.drop_drop]; exact ih q x (by simpa using h)
theorem list_pairs {a b : List Value} {n : Nat} (ha : a.length = n * 4) (hb : b.length = n * 4) (h : ∀ q, q < n → (a.drop (q * 4)).take 4 = (b.drop (q * 4)).take 4) : a = b := by
  apply List.ext_getElem?; intro t
  by_cases ht : t < n * 4
  · have e : ∀ c : List Value, c[t]? = ((c.drop (t / 4 * 4)).take 4)[t % 4]? := fun c => by
      rw [List.getElem?_take_of_lt (by omega), List.getElem?_drop, show t / 4 * 4 + t % 4 = t by omega]
    rw [e a, e b, h (t / 4) (by omega)]
  · rw [List.getElem?_eq_none (by omega), List.getElem?_eq_none (by omega)]
theorem flatK_list (d : Array Cl) : (flatK encS 4 d).toList = flatS d.toList := by
  refine list_pairs (n := d.size) (by simp) (by rw [flatS_length, Array.length_toList]) fun q hq => ?_
  rw [flatS_at _ q d[q] (by rw [Array.getElem?_toList, Array.getElem?_eq_getElem hq])]; apply List.ext_getElem?; intro t; have hsz : (flatK encS 4 d).size = d.size * 4 := size_flatK _ _ _
  by_cases ht : t < 4
  · rw [List.getElem?_take_of_lt ht, List.getElem?_drop, Array.getElem?_toList, Array.getElem?_eq_getElem (by omega), ← getElem!_pos _ (q * 4 + t) (by omega), get_flatK _ _ _ _ (by omega), show (q * 4 + t) / 4 = q by omega, show (q * 4 + t) % 4 = t by omega, getElem!_pos d q hq]
    rcases t with _ | _ | _ | _ | t
    · rfl
    · rfl
    · rfl
    · rfl
    · omega
  · rw [List.getElem?_eq_none (by simp; omega), List.getElem?_eq_none (by simp; omega)]
theorem heap_sortedK {w : World} {g n : Nat} {os : Array Obj} {cur : Array Value} {e : TypeId} {fr : Nat × Nat} (d : Array Cl) (hb : w.heap[g]? = some (.cells cur e fr)) :
    (sortWorldK encS 4 w g 0 n d os).heap[g]? = some (.cells (putCells id 0 (flatK encS 4 d) cur) e fr) := by
  have hg : g < w.heap.size := (Array.getElem?_eq_some_iff.1 hb).1; unfold sortWorldK putRowK; rw [heap_grow_old _ _ (by simpa using hg)]; simp [putRow, mapBlock, Sort.ahead, Array.getElem?_modify, hb, onCells]
theorem grownBy_sortedK {w : World} {g n : Nat} {os : Array Obj} (d : Array Cl) : w.grownBy (sortWorldK encS 4 w g 0 n d os) (some g) := by
  refine ⟨rfl, rfl, rfl, by simp [sortWorldK, putRowK], fun k hk hne => ?_⟩; unfold sortWorldK putRowK; rw [heap_grow_old _ _ (by simpa using hk)]
  have : g ≠ k := fun e => hne (by rw [e])
  simp [putRow, mapBlock, Sort.ahead, Array.getElem?_modify, this]
theorem take_putCellsK (cur F : Array Value) (h : F.size ≤ cur.size) : (putCells id 0 F cur).toList.take F.size = F.toList := by
  apply List.ext_getElem?; intro j
  by_cases hj : j < F.size
  · rw [List.getElem?_take_of_lt hj, Array.getElem?_toList]; simp [putCells, hj, show j < cur.size by omega]
  · rw [List.getElem?_take_eq_none (by omega), List.getElem?_eq_none (by simp; omega)]
theorem sort_kd {w : World} {base : Nat} {ok : Nat → Prop} {v : Value} {l : List Cl} (h : l.length ≤ 1000000) (ho : Kd.R k64 64 w base ok v l) :
    Calls Try.prog 47 #[v, .func (.func 48) #[] #[]] w fun e w' => e = .returned (.tuple #[]) ∧ w.grownBy w' v.ownBlock ∧ Kd.R k64 64 w' base ok v (sortedS l) := by
  obtain ⟨hok, inner, ⟨hil, hown⟩, hil2, hreps⟩ := ho; have hsz2 : k64.sz = 4 := rfl; rw [hsz2] at hil hown hil2 hreps
  have hin : inner = flatS l := by
    refine list_pairs hil (flatS_length l) fun q hq => ?_
    rw [flatS_at l q l[q] (List.getElem?_eq_getElem hq)]; exact k64_openM (hreps q l[q] (List.getElem?_eq_getElem hq))
  subst hin
  rcases hown with ⟨rfl, hn⟩ | ⟨g, cap, cur, rfl, hbg, hb, hcap, hmax, hsz, htake⟩
  · obtain rfl : l = [] := List.eq_nil_of_length_eq_zero hn; have hs : sortedS [] = [] := List.eq_nil_of_length_eq_zero (by rw [sortedS_length]; rfl); rw [hs]; refine (AnyF.slices_SortFunc_none Try.clashSort none 0 _ w).mono ?_; rintro e w' ⟨rfl, rfl⟩; exact ⟨rfl, World.grownBy.refl _ _, hok, [], own_nil _ _ _ _, Reps.none _ _⟩
  · have hfl : (flatK encS 4 l.toArray).toList = flatS l := by rw [flatK_list]
    have hH : HoldsK encS 4 w g 0 l.toArray := by
      intro j hj; refine ⟨?_, by simp [World.frozen?, hb]⟩; rw [Nat.zero_add, blk_cell hb]
      have hj' : j < l.length * 4 := by rw [size_flatK, List.size_toArray] at hj; exact hj
      have h1 : (cur.toList.take (l.length * 4))[j]? = (flatK encS 4 l.toArray).toList[j]? := by rw [htake, hfl]
      rw [List.getElem?_take_of_lt hj', Array.getElem?_toList, Array.getElem?_toList, Array.getElem?_eq_getElem hj] at h1; rw [h1, getElem!_pos _ j hj]; rfl
    have hc := sort_calls g cap l.toArray w hH (blk_lt hb) (by rw [List.size_toArray]; omega); rw [List.size_toArray] at hc; refine hc.mono ?_; rintro e w' ⟨rfl, n, os, rfl⟩
    have hS : pdq (ltOf cfS) l.toArray 0 l.length (Lib.bitLen l.length) true true = sortS l := by unfold sortS; rw [List.size_toArray]
    rw [hS]; have hsl := sortedS_length l; have hf2 : (flatK encS 4 (sortS l)).toList = flatS (sortedS l) := flatK_list _
    have hf3 : (flatK encS 4 (sortS l)).size = l.length * 4 := by rw [← Array.length_toList, hf2, flatS_length, hsl]
    have htk := take_putCellsK cur (flatK encS 4 (sortS l)) (by rw [hf3, hsz]; omega); refine ⟨rfl, grownBy_sortedK _, hok, flatS (sortedS l), ⟨by rw [flatS_length]; rfl, .inr ⟨g, cap, _, by rw [hsl], hbg, heap_sortedK _ hb, by omega, hmax, by simp [putCells, hsz]; rfl, ?_⟩⟩, by rw [flatS_length]; rfl, fun q x hq => ?_⟩
    · rw [hsl, hsz2, ← hf3, htk, hf2]
    · rw [hsz2, flatS_at _ q x hq]; exact k64_mkM _ _ _ _
def api_Clash.f (l0 : List S64) (_ : Unit) : Option (List S64) := if l0.length ≤ 1000000 then some (sortedS l0) else none
theorem api_Clash.calls (P0_ : Nat → Prop) (u9000_ : Value) (l0 : List S64) (u_ : Unit) (r : List S64) (w0 w : World) (hB : Below w0.heap.size w0 w) (ho0 : Kd.R k64 64 w w0.heap.size P0_ u9000_ l0) (h : api_Clash.f l0 u_ = some r) :
    Calls Try.prog 47 #[u9000_, .func (.func 48) #[] #[]] w fun e w' => e = .returned (.tuple #[]) ∧ Kd.R k64 64 w' w0.heap.size (fun k_ => (P0_ k_ ∨ w.heap.size ≤ k_)) u9000_ r ∧ Below w0.heap.size w0 w' ∧ Kept w w' (fun k_ => P0_ k_) := by
  unfold api_Clash.f at h
  by_cases hk : l0.length ≤ 1000000
  · rw [if_pos hk] at h; obtain rfl := Option.some.inj h; refine (sort_kd hk ho0).mono ?_; rintro e w' ⟨rfl, hg, hr⟩; exact ⟨rfl, Kd.R_mono hr (fun _ h => .inl h), hB.grown hg hB.size (fun k hk => Kd.R_base ho0 k hk), Kept.of_grown hg (Kept.refl _ _) (fun k hk => .inl (ho0.1 k hk))⟩
  · rw [if_neg hk] at h; cases h
end

end Go.Proofs.Ythghilclgobpbaa.PProbeAll
