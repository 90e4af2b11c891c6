import Derived.Test.YthpbpdobghceeaaGreatDoorTWords
import Derived.ChangeSlices
import Derived.SizedLaws
import Derived.ChangeArms
import Derived.DataElems
namespace Go.Proofs.YthpbpdobghceeaaGreatDoorO
open Go.ChangeShapes Go.WideShapes Go.RowKit Go.Proofs.YthpbpdobghceeaaGreatDoorW.PrintWords
set_option linter.unusedVariables false
structure Opens (P : Program) {α : Type} (k : Kd α) (t : Nat) (G : α → Prop) : Prop where
  size : P.cellsOf t = k.sz
  op : ∀ {H : Type} (enc : TypeId × Value → H) (W : World) (fuel : Nat) (cs : List Value) (y : DataW H × List MemPlace),
    DataW.trod enc P W 0 (fun _ => true) true fuel t cs = some y → (∀ q ∈ DataW.weights P t y.1, q ≤ reachBytes) → ∃ x, k.K W x cs ∧ G x
section
variable {P : Program} {α β γ : Type}
theorem opens_int {k : IntKind} {t : Nat} (hu : P.underlying t = some (.int k)) (hc : P.cellsOf t = 1) : Opens P (Kd.int k) t (fun x => (Lit.int k x).wf = true) where
  size := hc
  op := by
    intro H enc W fuel cs y h _
    obtain ⟨n, rfl, rfl, hw⟩ := DataW.trod_int hu h
    exact ⟨n, rfl, hw⟩
theorem opens_string {t : Nat} (hu : P.underlying t = some .string) (hc : P.cellsOf t = 1) : Opens P Kd.string t (fun s => s.size ≤ reachBytes) where
  size := hc
  op := by
    intro H enc W fuel cs y h hw
    obtain ⟨s, rfl, rfl, _⟩ := DataW.trod_string hu h
    refine ⟨s, rfl, ?_⟩
    have := hw s.data.toList.length (by simp [DataW.weights])
    simpa using this
theorem list_of {p : Nat → α → Prop} : ∀ n : Nat, (∀ i, i < n → ∃ x, p i x) → ∃ xs : List α, xs.length = n ∧ ∀ i x, xs[i]? = some x → p i x
  | 0, _ => ⟨[], rfl, fun i x h => by simp at h⟩
  | n + 1, h => by
    obtain ⟨xs, hl, hx⟩ := list_of n (fun i hi => h i (by omega))
    obtain ⟨z, hz⟩ := h n (by omega)
    refine ⟨xs ++ [z], by simp [hl], fun i x hi => ?_⟩
    by_cases hlt : i < n
    · rw [List.getElem?_append_left (by omega)] at hi
      exact hx i x hi
    · rw [List.getElem?_append_right (by omega), hl] at hi
      have : i - n = 0 := by
        rcases Nat.eq_zero_or_pos (i - n) with h0 | h0
        · exact h0
        · rw [List.getElem?_eq_none (by simp; omega)] at hi
          cases hi
      rw [this] at hi
      obtain rfl : z = x := by simpa using hi
      obtain rfl : i = n := by omega
      exact hz
theorem weights_all {H : Type} {e : Nat} : ∀ (l : List (DataW H)) (d : DataW H), d ∈ l → ∀ q ∈ DataW.weights P e d, q ∈ DataW.weightsAll P e l
  | d0 :: r, d, h, q, hq => by
    simp only [DataW.weightsAll, List.mem_append]
    rcases List.mem_cons.1 h with rfl | h
    · exact Or.inl hq
    · exact Or.inr (weights_all r d h q hq)
theorem opens_slice {k : Kd α} {t e B : Nat} {G : α → Prop} (hu : P.underlying t = some (.slice e)) (hc : P.cellsOf t = 1) (hB : P.bytesOf e = B) (h : Opens P k e G) :
    Opens P (Kd.slice e k) t (fun xs => xs.length * B ≤ reachBytes ∧ ∀ x ∈ xs, G x) where
  size := hc
  op := by
    intro H enc W fuel cs y hy hw
    rcases DataW.trod_slice hu hy with ⟨rfl, rfl⟩ | ⟨a, len, cap, elems, rest, n, _, rfl, rfl, _, hl, hm, hlen, hel, _, _⟩
    · exact ⟨[], ⟨none, 0, rfl, Nat.le_refl _, rfl, by simp, fun h0 => absurd h0 (by simp)⟩, by simp, by simp⟩
    · simp only [DataW.weights, hu, List.length_map] at hw
      have hbig : (elems.length + rest.length) * P.bytesOf e ≤ reachBytes := hw _ List.mem_cons_self
      have each : ∀ i, i < len → ∃ x, (∃ c, c.length = k.sz ∧ k.K W x c ∧ ∀ j u, c[j]? = some u → W.cell? (a.add (i * k.sz + j)) = some u) ∧ G x := by
        intro i hi
        have h1 := hel i hi
        obtain ⟨z, hz⟩ : ∃ z, elems[i]? = some z := ⟨_, List.getElem?_eq_getElem (by omega)⟩
        rw [hz, Option.bind_eq_some_iff] at h1
        obtain ⟨c, hc1, hc2⟩ := h1
        obtain ⟨_, hcl, hcell⟩ := World.cells?_some hc1
        obtain ⟨x, hx, hg⟩ := h.op enc W n c z hc2 (fun q hq => hw q (List.mem_cons_of_mem _ (List.mem_append_left _ (weights_all _ z.1 (List.mem_map_of_mem (List.mem_of_getElem? hz)) q hq))))
        refine ⟨x, ⟨c, k.K_len hx, hx, fun j u hj => ?_⟩, hg⟩
        have hjl : j < c.length := (List.getElem?_eq_some_iff.1 hj).1
        have h2 := hcell j (by omega)
        rw [Addr.add_add, h.size] at h2
        rw [h2]; exact hj
      obtain ⟨xs, hxl, hxs⟩ := list_of len each
      refine ⟨xs, ⟨some a, cap, by rw [hxl], by rw [hxl]; exact hl, ⟨rfl, by unfold maxLen at hm; omega, fun _ => ⟨a, rfl, fun j p hj => ?_⟩⟩⟩, ?_, fun x hx => ?_⟩
      · obtain ⟨c, h1, h2, h3⟩ := (hxs j p hj).1
        exact ⟨c, h1, h2, h3⟩
      · rw [hB] at hbig
        rw [hxl, ← hlen]
        exact Nat.le_trans (Nat.mul_le_mul_right _ (by omega)) hbig
      · obtain ⟨i, hi⟩ := List.getElem?_of_mem hx
        exact (hxs i x hi).2
structure OpensF (P : Program) {α : Type} (k : Kd α) (fs : List Field) (off : Nat) (G : α → Prop) : Prop where
  op : ∀ {H : Type} (enc : TypeId × Value → H) (W : World) (n : Nat) (cs : List Value) (ys : List (DataW H × List MemPlace)), cs.length = off + k.sz → ys.length = fs.length →
    (∀ (i : Nat) (f : Field), fs[i]? = some f → DataW.trod enc P W 0 (fun _ => true) true n f.type ((cs.drop f.offset).take (P.cellsOf f.type)) = ys[i]?) →
    (∀ q ∈ DataW.weightsEach P (fs.map (·.type)) (ys.map (·.1)), q ≤ reachBytes) → ∃ x, k.K W x (cs.drop off) ∧ G x
theorem opensF_one {k : Kd α} {f : Field} {off : Nat} {G : α → Prop} (h : Opens P k f.type G) (ho : f.offset = off) : OpensF P k [f] off G where
  op := by
    intro H enc W n cs ys hl hyl hf hw
    match ys, hyl with
    | [y], _ =>
      have h0 := hf 0 f rfl
      rw [ho, h.size, List.take_of_length_le (by rw [List.length_drop]; omega)] at h0
      exact h.op enc W n _ y (by simpa using h0) (fun q hq => hw q (by simp [DataW.weightsEach, hq]))
theorem opensF_cons {k : Kd α} {k2 : Kd β} {f : Field} {r : List Field} {off : Nat} {G : α → Prop} {G2 : β → Prop} (h : Opens P k f.type G) (ho : f.offset = off) (h2 : OpensF P k2 r (off + k.sz) G2) :
    OpensF P (Kd.pair k k2) (f :: r) off (fun x => G x.1 ∧ G2 x.2) where
  op := by
    intro H enc W n cs ys hl hyl hf hw
    match ys, hyl with
    | y :: ys', hyl =>
      have h0 := hf 0 f rfl
      rw [ho, h.size] at h0
      have hl' : cs.length = off + (k.sz + k2.sz) := hl
      obtain ⟨x, hx, hg⟩ := h.op enc W n _ y (by simpa using h0) (fun q hq => hw q (by simp [DataW.weightsEach, hq]))
      obtain ⟨x2, hx2, hg2⟩ := h2.op enc W n cs ys' (by omega) (by simpa using hyl) (fun i f' hi => by have := hf (i + 1) f' (by simpa using hi); simpa using this) (fun q hq => hw q (by simp only [List.map_cons, DataW.weightsEach, List.mem_append]; exact Or.inr hq))
      refine ⟨(x, x2), ⟨_, _, ?_, hx, hx2⟩, hg, hg2⟩
      rw [← List.drop_drop, List.take_append_drop]
theorem opens_struct {k : Kd α} {t : Nat} {fs : Array Field} {G : α → Prop} {f : β → α} {g : α → β} (hu : P.underlying t = some (.struct fs)) (hc : P.cellsOf t = k.sz) (hF : OpensF P k fs.toList 0 G) (hfg : ∀ a, f (g a) = a) :
    Opens P (Kd.iso k f) t (fun x => G (f x)) where
  size := hc
  op := by
    intro H enc W fuel cs y hy hw
    obtain ⟨xs, n, _, rfl, hl, hlen, hf⟩ := DataW.trod_struct hu hy
    simp only [DataW.weights, hu] at hw
    obtain ⟨x, hx, hg⟩ := hF.op enc W n cs xs (by omega) (by simpa using hlen) (fun i f' hi => hf i f' (by simpa using hi)) hw
    refine ⟨g x, ?_, ?_⟩
    · show k.K W (f (g x)) cs
      rw [hfg]; simpa using hx
    · show G (f (g x))
      rw [hfg]; exact hg
theorem Opens.good {k : Kd α} {t : Nat} {G G2 : α → Prop} (h : Opens P k t G) (hG : ∀ x, G x → G2 x) : Opens P k t G2 where
  size := h.size
  op := by
    intro H enc W fuel cs y hy hw
    obtain ⟨x, hx, hg⟩ := h.op enc W fuel cs y hy hw
    exact ⟨x, hx, hG x hg⟩
theorem Opens.arg {k : Kd α} {t : Nat} {G : α → Prop} (h : Opens P k t G) {H : Type} {enc : TypeId × Value → H} {W : World} {v : Value} {d : DataW H} {p : List MemPlace} {ts : List TypeId} {ds : List (DataW H)} {j : Nat}
    (hsz : (DataW.weightsEach P ts ds).all (· ≤ reachBytes) = true) (ht : ts[j]? = some t) (hd : ds[j]? = some d) (hv : DataW.Trod enc P W 0 (fun _ => true) true t v d p) : ∃ x, k.K W x v.cells.toList ∧ G x := by
  obtain ⟨fuel, hf⟩ := hv
  exact h.op enc W fuel _ _ hf (fun q hq => by
    have := List.all_eq_true.1 hsz q (DataW.weights_mem_each ht hd q hq)
    simpa using this)
end
end Go.Proofs.YthpbpdobghceeaaGreatDoorO
