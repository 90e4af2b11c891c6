/- A queue's items are copied: int. -/
import Derived.Test.YthghilclgobpbaaHeapFnsI
import Derived.Test.YthghilclgobpbaaHeapQI
import Derived.Test.YthghilclgobpbaaHeapPushI
namespace Go.Proofs.YthghilclgobpbaaH.I
open Go Go.RowKit Go.Proofs.YthghilclgobpbaaH Go.Proofs.YthghilclgobpbaaW.PrintWords Go.Proofs.YthghilclgobpbaaW.PrintLast
set_option linter.unusedVariables false
set_option linter.unusedSimpArgs false
attribute [local go_sem ↓] Go.wp_at_zero Go.wp_at_succ
theorem nil_eql (A_ : Option Addr) (n_ c_ : Nat) (w_ : World) : (binOp .eql 71 (.slice A_ n_ c_) (.slice none 0 0)).run Try.prog w_ = .ok (.bool A_.isNone) w_ := by
  have hu := Try.underlying71
  have hd : Op.maxDepth = (Op.maxDepth - 1) + 1 := rfl
  cases A_ <;> (simp only [binOp, Op.equal]; rw [hd]; simp [Op.equalIn, Sem.run_bind, run_underlying hu])
set_option maxRecDepth 100000 in
set_option maxHeartbeats 2000000 in
theorem clone_nil (w : World) : Calls Try.prog 30 #[.slice none 0 0] w fun e w' => e = .returned (.slice none 0 0) ∧ w = w' := by
  have hnil := nil_eql none 0 0
  have hn : (none : Option Addr).isNone = true := rfl
  rw [hn] at hnil
  go_enter Try.func30, Try.ntmps30
  go_wp2
  go_ret
  exact ⟨rfl, rfl⟩
theorem flat_one (l : List (It V)) : ∀ u ∈ flat l, u.oneCell' = true := by
  intro u hu
  unfold flat at hu
  obtain ⟨x, _, hx⟩ := List.mem_flatMap.1 hu
  simp only [cells, List.mem_cons, List.not_mem_nil, or_false] at hx
  rcases hx with rfl | rfl | rfl <;> rfl
theorem Row.news {w : World} {g cap : Nat} {l : List (It V)} (h : Row w g cap l) : ∀ j u, (flat l)[j]? = some u → w.cell? ((⟨g, 0, none⟩ : Addr).add j) = some u := by
  intro j u hu
  have hlt : j < l.length * 3 := by
    have := (List.getElem?_eq_some_iff.1 hu).1
    rwa [flat_length] at this
  obtain ⟨cur, h1, _, _, _, h5⟩ := h
  have hadd : (⟨g, 0, none⟩ : Addr).add j = ⟨g, j, none⟩ := by unfold Addr.add; split <;> simp_all
  rw [hadd, cell_of_row w g j cur _ _ h1, ← hu]
  obtain ⟨i, r, hi, hr, rfl⟩ : ∃ i r, i < l.length ∧ r < 3 ∧ j = i * 3 + r := ⟨j / 3, j % 3, by omega, by omega, by omega⟩
  obtain ⟨a1, a2, a3⟩ := h5 i hi
  obtain ⟨b1, b2, b3⟩ := flat_get l i hi
  rcases r with _ | _ | _ | r
  · exact a1.trans b1.symm
  · exact a2.trans b2.symm
  · exact a3.trans b3.symm
  · omega
theorem gateB {P : Program} {ops : Array Oper} {rest : List Oper} {o : Oper} {a : Act} {Q : Exit → Act → World → Prop} {W : World} {b : Builtin} {xs : Array Operand} {ts : Array TypeId} (_ho : o.op = .call { callee := .builtin b, args := xs, argTypes := ts }) (h : wpList P ops Q (o :: rest) a W) : wpList P ops Q (o :: rest) a W := h
theorem wpList_lit {ops : Array Oper} {rest : List Oper} {o : Oper} {a : Act} {Q : Exit → Act → World → Prop} {W w1 : World} {v : Value} {t : TypeId} (hgd : o.guard = none) (hop : o.op = .buildSlice t 0 #[]) (hrun : (Instr.buildSlice t 0 #[]).run Try.prog W = .ok v w1) (h : wpList Try.prog ops Q rest (a.put o.dst v) w1) : wpList Try.prog ops Q (o :: rest) a W :=
  wpList_plain hgd fun K hK => by
    unfold Oper.wp execOp
    simp only [hop, List.map_toArray, List.map_nil, Sem.run_bind, Sem.run_pure, Result.andThen_ok, hrun]
    exact hK _ _ h
theorem lit_run (w : World) : (Instr.buildSlice 71 0 #[]).run Try.prog w = .ok (.slice (some ⟨w.heap.size, 0, none⟩) 0 0) (w.alloc (.cells #[] 75)) := by kernel_rfl
theorem ownsRow_zero (w : World) : (w.alloc (.cells #[] 75)).ownsRow w.heap.size 75 3 (.slice (some ⟨w.heap.size, 0, none⟩) 0 0) 0 [] :=
  ⟨rfl, .inr ⟨w.heap.size, 0, #[], rfl, Nat.le_refl _, heap_alloc_new w _, Nat.le_refl _, by unfold maxLen; omega, rfl, rfl⟩⟩
theorem le_block {w : World} {base e size n : Nat} {v : Value} {xs : List Value} (h : w.ownsRow base e size v n xs) {k : Nat} (hk : v.ownBlock = some k) : base ≤ k := (h.lt k hk).1
set_option maxRecDepth 100000 in
set_option maxHeartbeats 2000000 in
theorem clone_some {w : World} {g cap : Nat} {l : List (It V)} (h : Row w g cap l) (hn : l.length ≤ 1000) :
    Calls Try.prog 30 #[.slice (some ⟨g, 0, none⟩) l.length cap] w fun e w' => ∃ A' cap', e = .returned (.slice A' l.length cap') ∧ (l = [] ∨ ∃ g', A' = some ⟨g', 0, none⟩ ∧ Row w' g' cap' l ∧ w.heap.size ≤ g') ∧ Below w.heap.size w w' := by
  obtain ⟨i0, hi0, hz0, hz1, hz2⟩ := info_parts infoI
  have hnil := nil_eql (some ⟨g, 0, none⟩) l.length cap
  have hn1 : (some (⟨g, 0, none⟩ : Addr)).isNone = false := rfl
  rw [hn1] at hnil
  by_cases h0 : l = []
  · subst h0
    have hl : ([] : List (It V)).length = 0 := rfl
    rw [hl] at hnil ⊢
    clear h hn hl
    go_enter Try.func30, Try.ntmps30
    go_wp2
    go_ret
    exact ⟨_, _, rfl, .inl trivial, below_alloc (Below.refl _ _) _⟩
  · have h0' : 0 < l.length := List.length_pos_iff.2 h0
    have HR := Aside0.mk h
    have HN := Aside0.mk hn
    have HP := Aside0.mk h0'
    have HW := Aside0.mk (Row.below h (below_alloc (Below.refl w.heap.size w) (.cells #[] 75)))
    clear h hn h0' h0
    go_enter Try.func30, Try.ntmps30
    obtain ⟨v5, hv5⟩ : ∃ v5, (Value.slice (some ⟨w.heap.size, 0, none⟩) 0 0) = v5 := ⟨_, rfl⟩
    have hown5 : (w.alloc (.cells #[] 75)).ownsRow w.heap.size 75 3 v5 0 [] := by rw [← hv5]; exact ownsRow_zero _
    have hlit := lit_run w
    rw [hv5] at hlit
    clear hv5
    have HO := Aside0.mk hown5
    have HL := Aside0.mk hlit
    clear hown5 hlit
    go_wp2_with (first | ((with_reducible refine gate_dst (N := 5) rfl ?_); refine wpList_lit rfl rfl HL.out ?_) | ((with_reducible refine gateB (b := .append) (xs := #[.tmp 5, .tmp 6]) rfl ?_); at_builtin; refine wpList_append_lies _ rfl _ _ _ rfl w.heap.size 75 i0 _ 3 24 Try.underlying71 hi0 hz0 hz1 hz2 rfl (by omega) v5 0 [] rfl HO.out ⟨g, 0, none⟩ l.length cap (flat l) rfl (flat_length l) (Row.news HW.out) (flat_one l) HP.out (by have := HN.out; unfold maxLen; omega) (by have := HN.out; omega) (by simp) (w.heap.size + 1) (by simp) ?_; intro gg cap' w1 hown1 hgrow1 hat1 hlt1; rw [Nat.zero_add, List.nil_append] at hown1; rw [Nat.zero_add]; have HR1 := Aside0.mk (And.intro hown1 (And.intro hgrow1 hat1)); clear hown1 hgrow1 hat1))
    go_ret
    obtain ⟨hown1, hgrow1, hat1⟩ := HR1.out
    refine ⟨_, _, rfl, .inr ⟨gg, rfl, Row.of_own hown1 HP.out, ?_⟩, ?_⟩
    · rcases hat1 with h | h
      · exact le_block HO.out h
      · omega
    · exact (below_alloc (Below.refl _ _) _).grown hgrow1 (by simp) (fun k hk => le_block HO.out hk)
end Go.Proofs.YthghilclgobpbaaH.I
