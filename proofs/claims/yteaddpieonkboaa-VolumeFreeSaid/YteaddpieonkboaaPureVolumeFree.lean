/- VolumeFree: free and occupied times of an interval add up to its length. -/
import Derived.Test.YteaddpieonkboaaPVolumeFreex
import Derived.Test.YteaddpieonkboaaMath
namespace Go.Proofs.Yteaddpieonkboaa.Pure
open Go Go.RowKit Go.Proofs.Yteaddpieonkboaa.PVolumeFree Go.Proofs.YteaddpieonkboaaW.PrintWords Go.Proofs.YteaddpieonkboaaW.PrintLast Go.Proofs.YteaddpieonkboaaW.PrintMore Go.Proofs.YteaddpieonkboaaM
abbrev Sp := S58
def spOk (x : Sp) : Prop := 0 ≤ x.f0 ∧ x.f1 ≤ 200000 ∧ x.f0 < x.f1
instance (x : Sp) : Decidable (spOk x) := inferInstanceAs (Decidable (_ ∧ _ ∧ _))
def LOk (l : List Sp) : Prop := l.length ≤ 256 ∧ ∀ x ∈ l, spOk x
theorem rdS {l : List Sp} {i : Nat} (h : i < l.length) : rd_T58 l (i : Int) = l[i] := by
  unfold rd_T58
  rw [Int.toNat_natCast, List.getD_eq_getElem?_getD, List.getElem?_eq_getElem h]
  rfl
theorem chk_l (l : List Sp) (hl : l.length ≤ 256) : ∀ (d k i : Nat), i + d = l.length → d < k →
    ∃ e, volume_CheckSpans.l0 k l (l.length : Int) (i : Int) = some e ∧ (e = 0 ↔ ∀ x ∈ l.drop i, spOk x)
  | 0, k, i, hi, hk => by
    obtain ⟨k, rfl⟩ : ∃ m, k = m + 1 := ⟨k - 1, by omega⟩
    refine ⟨0, by rw [volume_CheckSpans.l0, if_neg (by omega)], fun _ => ?_, fun _ => rfl⟩
    rw [List.drop_of_length_le (by omega)]
    intro x hx; cases hx
  | d + 1, k, i, hi, hk => by
    obtain ⟨k, rfl⟩ : ∃ m, k = m + 1 := ⟨k - 1, by omega⟩
    have hlt : i < l.length := by omega
    obtain ⟨e, he, hz⟩ := chk_l l hl d k (i + 1) (by omega) (by omega)
    rw [volume_CheckSpans.l0, if_pos (by omega), if_pos (by omega), if_pos (by omega), rdS hlt, List.drop_eq_getElem_cons hlt]
    have no : ¬ spOk l[i] → ((12 : Int) = 0 ↔ ∀ x ∈ l[i] :: l.drop (i + 1), spOk x) := fun h => ⟨fun h2 => by omega, fun h2 => absurd (h2 _ List.mem_cons_self) h⟩
    by_cases c1 : l[i].f0 < 0
    · rw [if_pos c1]
      exact ⟨12, rfl, no (fun h => by have := h.1; omega)⟩
    rw [if_neg c1]
    by_cases c2 : l[i].f1 > 200000
    · rw [if_pos c2]
      exact ⟨12, rfl, no (fun h => by have := h.2.1; omega)⟩
    rw [if_neg c2]
    by_cases c3 : l[i].f0 ≥ l[i].f1
    · rw [if_pos c3]
      exact ⟨12, rfl, no (fun h => by have := h.2.2; omega)⟩
    rw [if_neg c3, w64 (x := (i : Int) + 1) (by omega) (by omega), show ((i : Int) + 1) = ((i + 1 : Nat) : Int) by omega]
    refine ⟨e, he, hz.trans ⟨fun h x hx => ?_, fun h x hx => h x (List.mem_cons_of_mem _ hx)⟩⟩
    rcases List.mem_cons.1 hx with rfl | hx
    · exact ⟨by omega, by omega, by omega⟩
    · exact h x hx
theorem chk (l : List Sp) (k : Nat) (hk : 300 ≤ k) : ∃ e, volume_CheckSpans.f k l = some e ∧ (e = 0 ↔ LOk l) := by
  unfold volume_CheckSpans.f
  by_cases c : (l.length : Int) > 256
  · rw [if_pos c]
    exact ⟨2, rfl, fun h => by omega, fun h => by have := h.1; omega⟩
  · rw [if_neg c]
    obtain ⟨e, he, hz⟩ := chk_l l (by omega) l.length k 0 (by omega) (by omega)
    rw [List.drop_zero] at hz
    exact ⟨e, he, fun h => ⟨by omega, hz.1 h⟩, fun h => hz.2 h.2⟩
/-- The merging of what is sorted: o is done, p is the last one. -/
def mg (o : List Sp) (p : Sp) : List Sp → List Sp
  | [] => o ++ [p]
  | s :: r => if s.f0 ≤ p.f1 then mg o ⟨p.f0, mx p.f1 s.f1⟩ r else mg (o ++ [p]) s r
theorem lastS (o : List Sp) (p : Sp) (h : (o ++ [p]).length < 1000000) : wrap64 (((o ++ [p]).length : Int) - 1) = (o.length : Int) ∧ rd_T58 (o ++ [p]) (o.length : Int) = p := by
  have e : (o ++ [p]).length = o.length + 1 := by rw [List.length_append]; rfl
  refine ⟨by rw [e, w64 (by omega) (by omega)]; omega, ?_⟩
  rw [rdS (by omega), List.getElem_append_right (Nat.le_refl _)]
  simp
theorem union_l (xs : List Sp) (hx : xs.length ≤ 256) : ∀ (d k i : Nat) (o : List Sp) (p : Sp), i + d = xs.length → d < k → o.length + 1 ≤ i →
    volume_Union.l0 k (o ++ [p]) xs (xs.length : Int) (i : Int) = some (mg o p (xs.drop i), 0)
  | 0, k, i, o, p, hi, hk, ho => by
    obtain ⟨k, rfl⟩ : ∃ m, k = m + 1 := ⟨k - 1, by omega⟩
    rw [volume_Union.l0, if_neg (by omega), List.drop_of_length_le (by omega), mg]
  | d + 1, k, i, o, p, hi, hk, ho => by
    obtain ⟨k, rfl⟩ : ∃ m, k = m + 1 := ⟨k - 1, by omega⟩
    have hlt : i < xs.length := by omega
    have e : (o ++ [p]).length = o.length + 1 := by rw [List.length_append]; rfl
    obtain ⟨e1, e2⟩ := lastS o p (by omega)
    rw [volume_Union.l0, if_pos (by omega), if_pos (by omega), if_pos (by omega), if_pos (show ((o ++ [p]).length : Int) > 0 by omega), e1, if_pos (by omega), if_pos (by omega), e2, rdS hlt, List.drop_eq_getElem_cons hlt, mg,
      w64 (x := (i : Int) + 1) (by omega) (by omega), show ((i : Int) + 1) = ((i + 1 : Nat) : Int) by omega]
    by_cases c : xs[i].f0 ≤ p.f1
    · rw [if_pos c, if_pos c, Int.toNat_natCast, List.set_append_right _ _ (Nat.le_refl _), Nat.sub_self, List.set_cons_zero]
      exact union_l xs hx d k (i + 1) o _ (by omega) (by omega) (by omega)
    · rw [if_neg c, if_neg c, if_pos (by omega)]
      exact union_l xs hx d k (i + 1) (o ++ [p]) _ (by omega) (by omega) (by omega)
def cov (t : Int) (l : List Sp) : Prop := ∃ x ∈ l, x.f0 ≤ t ∧ t < x.f1
def Apt (l : List Sp) : Prop := l.Pairwise fun a b => a.f1 < b.f0
theorem mg_spec : ∀ (r o : List Sp) (p : Sp), Apt (o ++ [p]) → (∀ x ∈ o ++ [p], spOk x) → (∀ x ∈ r, spOk x ∧ p.f0 ≤ x.f0) → r.Pairwise (fun x y => x.f0 ≤ y.f0) →
    Apt (mg o p r) ∧ (∀ x ∈ mg o p r, spOk x) ∧ (∀ t, cov t (mg o p r) ↔ cov t (o ++ [p]) ∨ cov t r) ∧ (mg o p r).length ≤ o.length + 1 + r.length
  | [], o, p, h1, h2, h3, h4 => by
    rw [mg]
    refine ⟨h1, h2, fun t => ⟨fun h => .inl h, fun h => h.elim id (fun ⟨x, hx, _⟩ => by cases hx)⟩, by rw [List.length_append]; simp⟩
  | s :: r, o, p, h1, h2, h3, h4 => by
    obtain ⟨so, ps⟩ := h3 s List.mem_cons_self
    have po := h2 p (by simp)
    obtain ⟨h4a, h4b⟩ := List.pairwise_cons.1 h4
    unfold Apt at h1
    rw [List.pairwise_append] at h1
    obtain ⟨ha, hb, hc⟩ := h1
    rw [mg]
    by_cases c : s.f0 ≤ p.f1
    · rw [if_pos c]
      have hm : p.f1 ≤ mx p.f1 s.f1 ∧ s.f1 ≤ mx p.f1 s.f1 ∧ (mx p.f1 s.f1 = p.f1 ∨ mx p.f1 s.f1 = s.f1) := by unfold mx; split <;> omega
      obtain ⟨p1, p2, p3⟩ := po
      obtain ⟨s1, s2, s3⟩ := so
      have np : spOk ⟨p.f0, mx p.f1 s.f1⟩ := ⟨p1, by show mx p.f1 s.f1 ≤ 200000; omega, by show p.f0 < mx p.f1 s.f1; omega⟩
      obtain ⟨g1, g2, g3, g4⟩ := mg_spec r o ⟨p.f0, mx p.f1 s.f1⟩
        (by unfold Apt; rw [List.pairwise_append]; refine ⟨ha, List.pairwise_singleton _ _, fun a h b hb => ?_⟩; obtain rfl := List.mem_singleton.1 hb; exact hc a h p (by simp))
        (by intro x hx; rcases List.mem_append.1 hx with hx | hx; exact h2 x (List.mem_append_left _ hx); obtain rfl := List.mem_singleton.1 hx; exact np)
        (fun x hx => h3 x (List.mem_cons_of_mem _ hx)) h4b
      refine ⟨g1, g2, fun t => (g3 t).trans ⟨?_, ?_⟩, by rw [List.length_cons]; omega⟩
      · rintro (⟨x, hx, t1, t2⟩ | ⟨x, hx, t1, t2⟩)
        · rcases List.mem_append.1 hx with hx | hx
          · exact .inl ⟨x, List.mem_append_left _ hx, t1, t2⟩
          · obtain rfl := List.mem_singleton.1 hx
            dsimp only at t1 t2
            by_cases ct : t < p.f1
            · exact .inl ⟨p, by simp, t1, ct⟩
            · exact .inr ⟨s, List.mem_cons_self, by omega, by omega⟩
        · exact .inr ⟨x, List.mem_cons_of_mem _ hx, t1, t2⟩
      · rintro (⟨x, hx, t1, t2⟩ | ⟨x, hx, t1, t2⟩)
        · rcases List.mem_append.1 hx with hx | hx
          · exact .inl ⟨x, List.mem_append_left _ hx, t1, t2⟩
          · obtain rfl := List.mem_singleton.1 hx
            exact .inl ⟨⟨x.f0, mx x.f1 s.f1⟩, by simp, t1, by show t < mx x.f1 s.f1; omega⟩
        · rcases List.mem_cons.1 hx with rfl | hx
          · exact .inl ⟨⟨p.f0, mx p.f1 x.f1⟩, by simp, by show p.f0 ≤ t; omega, by show t < mx p.f1 x.f1; omega⟩
          · exact .inr ⟨x, hx, t1, t2⟩
    · rw [if_neg c]
      obtain ⟨g1, g2, g3, g4⟩ := mg_spec r (o ++ [p]) s
        (by
          unfold Apt; rw [List.pairwise_append]; refine ⟨by rw [List.pairwise_append]; exact ⟨ha, hb, hc⟩, List.pairwise_singleton _ _, fun a h b hb => ?_⟩
          obtain rfl := List.mem_singleton.1 hb
          rcases List.mem_append.1 h with h | h
          · have := hc a h p (by simp); have := po.2.2; omega
          · obtain rfl := List.mem_singleton.1 h; omega)
        (by intro x hx; rcases List.mem_append.1 hx with hx | hx; exact h2 x hx; obtain rfl := List.mem_singleton.1 hx; exact so)
        (fun x hx => ⟨(h3 x (List.mem_cons_of_mem _ hx)).1, h4a x hx⟩) h4b
      refine ⟨g1, g2, fun t => (g3 t).trans ⟨?_, ?_⟩, by rw [List.length_append] at g4; rw [List.length_cons]; simp at g4; omega⟩
      · rintro (⟨x, hx, t1, t2⟩ | ⟨x, hx, t1, t2⟩)
        · rcases List.mem_append.1 hx with hx | hx
          · exact .inl ⟨x, hx, t1, t2⟩
          · obtain rfl := List.mem_singleton.1 hx
            exact .inr ⟨x, List.mem_cons_self, t1, t2⟩
        · exact .inr ⟨x, List.mem_cons_of_mem _ hx, t1, t2⟩
      · rintro (⟨x, hx, t1, t2⟩ | ⟨x, hx, t1, t2⟩)
        · exact .inl ⟨x, List.mem_append_left _ hx, t1, t2⟩
        · rcases List.mem_cons.1 hx with rfl | hx
          · exact .inl ⟨x, by simp, t1, t2⟩
          · exact .inr ⟨x, hx, t1, t2⟩
theorem okAll_of {l : List Sp} (h : LOk l) : okAll l = true := by
  unfold okAll
  rw [Bool.and_eq_true]
  refine ⟨decide_eq_true (by have := h.1; omega), List.all_eq_true.2 fun x hx => decide_eq_true ?_⟩
  obtain ⟨a, b, c⟩ := h.2 x hx
  exact ⟨a, by omega⟩
def joinS : List Sp → List Sp
  | [] => []
  | s :: r => mg [] s r
theorem union_f (l : List Sp) (k : Nat) (hk : 300 ≤ k) (h : LOk l) : volume_Union.f k l = some (joinS (sortedS l (okAll_of h)), 0) := by
  obtain ⟨e, he, hz⟩ := chk l k hk
  obtain rfl : e = 0 := hz.2 h
  have hl := h.1
  have hs := sortedS_length l (okAll_of h)
  unfold volume_Union.f
  rw [he, Option.bind_some, if_pos rfl]
  unfold api_Span_60.f api_Span_61.f
  rw [Option.bind_some, if_pos (by simp; omega), Option.bind_some, List.nil_append, dif_pos (okAll_of h), Option.bind_some]
  rw [← hs]
  generalize sortedS l (okAll_of h) = m at hs
  obtain ⟨k, rfl⟩ : ∃ q, k = q + 1 := ⟨k - 1, by omega⟩
  cases m with
  | nil => rw [volume_Union.l0]; rfl
  | cons s r =>
    have e0 : rd_T58 (s :: r) 0 = s := rfl
    rw [List.length_cons] at hs
    rw [volume_Union.l0, if_pos (by rw [List.length_cons]; omega), if_pos (by omega), if_pos (by rw [List.length_cons]; omega), if_neg (by simp), if_pos (by simp), e0, w64 (by omega) (by omega), List.nil_append]
    exact union_l (s :: r) (by rw [List.length_cons]; omega) r.length k 1 [] s (by rw [List.length_cons]; omega) (by omega) (by simp)
theorem union_ok (l : List Sp) (k : Nat) (hk : 300 ≤ k) (h : LOk l) : ∃ u, volume_Union.f k l = some (u, 0) ∧ Apt u ∧ (∀ x ∈ u, spOk x) ∧ (∀ t, cov t u ↔ cov t l) ∧ u.length ≤ 256 := by
  refine ⟨_, union_f l k hk h, ?_⟩
  have hp := sortedS_perm l (okAll_of h)
  have hs := sortedS_sorted l (okAll_of h)
  have hl := h.1
  rw [← hp.length_eq] at hl
  have hm : ∀ t, cov t (sortedS l (okAll_of h)) ↔ cov t l := fun t => ⟨fun ⟨x, hx, g⟩ => ⟨x, hp.mem_iff.1 hx, g⟩, fun ⟨x, hx, g⟩ => ⟨x, hp.mem_iff.2 hx, g⟩⟩
  have ho : ∀ x ∈ sortedS l (okAll_of h), spOk x := fun x hx => h.2 x (hp.mem_iff.1 hx)
  generalize sortedS l (okAll_of h) = m at hp hs hl hm ho
  cases m with
  | nil => exact ⟨List.Pairwise.nil, fun x hx => (by cases hx), hm, by simp [joinS]⟩
  | cons s r =>
    obtain ⟨sa, sb⟩ := List.pairwise_cons.1 hs
    obtain ⟨g1, g2, g3, g4⟩ := mg_spec r [] s (List.pairwise_singleton _ _) (fun x hx => by obtain rfl := List.mem_singleton.1 hx; exact ho x List.mem_cons_self) (fun x hx => ⟨ho x (List.mem_cons_of_mem _ hx), sa x hx⟩) sb
    refine ⟨g1, g2, fun t => (g3 t).trans (Iff.trans ⟨?_, ?_⟩ (hm t)), by rw [List.length_cons] at hl; show (mg [] s r).length ≤ 256; rw [List.length_nil] at g4; omega⟩
    · rintro (⟨x, hx, g⟩ | ⟨x, hx, g⟩)
      · obtain rfl := List.mem_singleton.1 hx
        exact ⟨x, List.mem_cons_self, g⟩
      · exact ⟨x, List.mem_cons_of_mem _ hx, g⟩
    · rintro ⟨x, hx, g⟩
      rcases List.mem_cons.1 hx with rfl | hx
      · exact .inl ⟨x, by simp, g⟩
      · exact .inr ⟨x, hx, g⟩
theorem union_bad (l : List Sp) (k : Nat) (hk : 300 ≤ k) (h : ¬ LOk l) : ∃ e, e ≠ 0 ∧ volume_Union.f k l = some ([], e) := by
  obtain ⟨e, he, hz⟩ := chk l k hk
  have h0 : e ≠ 0 := fun h0 => h (hz.1 h0)
  refine ⟨e, h0, ?_⟩
  unfold volume_Union.f
  rw [he, Option.bind_some, if_neg h0]
theorem works (k : Nat) (hk : 300 ≤ k) : skywaykeep1_volumeWorks.f k = some true := by
  have hL : LOk [⟨3, 6⟩, ⟨6, 8⟩, ⟨1, 2⟩] := ⟨by simp, by decide⟩
  unfold skywaykeep1_volumeWorks.f
  rw [union_f _ k hk hL]
  have hp := sortedS_perm _ (okAll_of hL)
  have hs := sortedS_sorted _ (okAll_of hL)
  have e : sortedS [⟨3, 6⟩, ⟨6, 8⟩, ⟨1, 2⟩] (okAll_of hL) = [⟨1, 2⟩, ⟨3, 6⟩, ⟨6, 8⟩] := by
    refine List.Perm.eq_of_pairwise (le := fun x y => x.f0 ≤ y.f0) ?_ hs (by decide) (hp.trans (List.perm_append_comm (l₁ := ([⟨3, 6⟩, ⟨6, 8⟩] : List Sp)) (l₂ := ([⟨1, 2⟩] : List Sp))))
    intro a b ha hb h1 h2
    have ha' := hp.mem_iff.1 ha
    simp only [List.mem_cons, List.not_mem_nil, or_false] at ha' hb
    rcases ha' with rfl | rfl | rfl <;> rcases hb with rfl | rfl | rfl <;> first | rfl | (dsimp only at h1 h2; omega)
  rw [e]
  rfl
/-- What is free from a time on. -/
def fr (t : Int) : Int → List Sp → List Sp
  | a, [] => if a < t then [⟨a, t⟩] else []
  | a, s :: r => if a < mn s.f0 t then ⟨a, mn s.f0 t⟩ :: fr t (mx a s.f1) r else fr t (mx a s.f1) r
theorem fr_len (t : Int) : ∀ (r : List Sp) (a : Int), (fr t a r).length ≤ r.length + 1
  | [], a => by rw [fr]; split <;> simp
  | s :: r, a => by
    have := fr_len t r (mx a s.f1)
    rw [fr]
    split
    · rw [List.length_cons, List.length_cons]; omega
    · rw [List.length_cons]; omega
theorem free_l (xs : List Sp) (hx : xs.length ≤ 256) (t : Int) : ∀ (d k i : Nat) (o : List Sp) (a : Int), i + d = xs.length → d < k → o.length ≤ i →
    volume_Free.l0 k t o a xs (xs.length : Int) (i : Int) = some (o ++ fr t a (xs.drop i), 0)
  | 0, k, i, o, a, hi, hk, ho => by
    obtain ⟨k, rfl⟩ : ∃ m, k = m + 1 := ⟨k - 1, by omega⟩
    rw [volume_Free.l0, if_neg (by omega), List.drop_of_length_le (by omega), fr]
    by_cases c : a < t
    · rw [if_pos c, if_pos c, if_pos (by omega)]
    · rw [if_neg c, if_neg c, List.append_nil]
  | d + 1, k, i, o, a, hi, hk, ho => by
    obtain ⟨k, rfl⟩ : ∃ m, k = m + 1 := ⟨k - 1, by omega⟩
    have hlt : i < xs.length := by omega
    rw [volume_Free.l0, if_pos (by omega), if_pos (by omega), if_pos (by omega), rdS hlt, List.drop_eq_getElem_cons hlt, fr, w64 (x := (i : Int) + 1) (by omega) (by omega), show ((i : Int) + 1) = ((i + 1 : Nat) : Int) by omega]
    by_cases c : a < mn xs[i].f0 t
    · rw [if_pos c, if_pos c, if_pos (by omega), free_l xs hx t d k (i + 1) _ _ (by omega) (by omega) (by rw [List.length_append]; simp; omega), List.append_assoc, List.singleton_append]
    · rw [if_neg c, if_neg c, free_l xs hx t d k (i + 1) _ _ (by omega) (by omega) (by omega)]
/-- What Free answers. -/
theorem free_f (l : List Sp) (a b : Int) (k : Nat) (hk : 300 ≤ k) {u : List Sp} (hu : volume_Union.f k l = some (u, 0)) (hl : u.length ≤ 256) :
    volume_Free.f k l a b = some (if 0 ≤ a ∧ b ≤ 200000 ∧ a ≤ b then (fr b a u, 0) else ([], 12)) := by
  unfold volume_Free.f
  rw [hu, Option.bind_some]
  dsimp only
  rw [if_pos rfl]
  obtain ⟨k, rfl⟩ : ∃ m, k = m + 1 := ⟨k - 1, by omega⟩
  by_cases c1 : a < 0
  · rw [if_pos c1, volume_Free.j0, if_pos rfl, if_neg (by omega)]
  rw [if_neg c1]
  by_cases c2 : b > 200000
  · rw [if_pos c2, volume_Free.j0, if_pos rfl, if_neg (by omega)]
  rw [if_neg c2, volume_Free.j0]
  by_cases c3 : a > b
  · rw [if_pos (decide_eq_true c3), if_neg (by omega)]
  rw [if_neg (by simp; omega), if_pos (by omega)]
  exact free_l u hl b u.length k 0 [] a (by omega) (by omega) (by simp)
theorem free_bad (l : List Sp) (a b : Int) (k : Nat) {e : Int} (h0 : e ≠ 0) (hu : volume_Union.f k l = some ([], e)) : volume_Free.f k l a b = some ([], e) := by
  unfold volume_Free.f
  rw [hu, Option.bind_some]
  dsimp only
  rw [if_neg h0]
def sumF : List Sp → Int
  | [] => 0
  | x :: r => (x.f1 - x.f0) + sumF r
theorem sumF_app (a b : List Sp) : sumF (a ++ b) = sumF a + sumF b := by
  induction a with
  | nil => simp [sumF]
  | cons x r ih => rw [List.cons_append, sumF, sumF, ih]; omega
/-- What a list covers of an interval. -/
def sumU (f t : Int) : List Sp → Int
  | [] => 0
  | x :: r => mx 0 (mn x.f1 t - mx x.f0 f) + sumU f t r
theorem mxd (a b : Int) : (a < b ∧ mx a b = b) ∨ (b ≤ a ∧ mx a b = a) := by unfold mx; split <;> omega
theorem mnd (a b : Int) : (b < a ∧ mn a b = b) ∨ (a ≤ b ∧ mn a b = a) := by unfold mn; split <;> omega
theorem fr_sum (f t : Int) (hft : f ≤ t) : ∀ (r : List Sp) (at_ : Int), Apt r → (∀ x ∈ r, spOk x) → f ≤ at_ → (at_ = f ∨ ∀ x ∈ r, at_ ≤ x.f0) → sumF (fr t at_ r) + sumU f t r = t - mn at_ t
  | [], a, h1, h2, h3, h4 => by
    rw [fr, sumU]
    rcases mnd a t with ⟨c, e⟩ | ⟨c, e⟩
    · rw [if_neg (by omega), e]; simp [sumF]
    · by_cases c2 : a < t
      · rw [if_pos c2, e]; simp [sumF]
      · rw [if_neg c2, e]; simp [sumF]; omega
  | s :: r, a, h1, h2, h3, h4 => by
    obtain ⟨g1, g2⟩ := List.pairwise_cons.1 h1
    obtain ⟨s1, s2, s3⟩ := h2 s List.mem_cons_self
    have hs : a = f ∨ a ≤ s.f0 := h4.elim .inl fun h => .inr (h s List.mem_cons_self)
    have hx : mx a s.f1 = f ∨ ∀ x ∈ r, mx a s.f1 ≤ x.f0 := by
      rcases mxd a s.f1 with ⟨c, e⟩ | ⟨c, e⟩
      · exact .inr fun x hx => by have := g1 x hx; omega
      · exact .inl (by omega)
    have ih := fr_sum f t hft r (mx a s.f1) g2 (fun x hx => h2 x (List.mem_cons_of_mem _ hx)) (by rcases mxd a s.f1 with ⟨c, e⟩ | ⟨c, e⟩ <;> omega) hx
    rw [fr, sumU]
    have e1 := mxd a s.f1
    have e2 := mnd s.f0 t
    have e3 := mnd s.f1 t
    have e4 := mxd s.f0 f
    have e5 := mxd 0 (mn s.f1 t - mx s.f0 f)
    have e6 := mnd a t
    have e7 := mnd (mx a s.f1) t
    by_cases c : a < mn s.f0 t
    · rw [if_pos c, sumF]
      dsimp only
      omega
    · rw [if_neg c]
      omega
theorem sumU_bd (a b : Int) : ∀ r : List Sp, (∀ x ∈ r, spOk x) → 0 ≤ sumU a b r ∧ sumU a b r ≤ 200000 * r.length
  | [], _ => by simp [sumU]
  | x :: r, h => by
    have ih := sumU_bd a b r (fun y hy => h y (List.mem_cons_of_mem _ hy))
    obtain ⟨s1, s2, s3⟩ := h x List.mem_cons_self
    have e3 := mnd x.f1 b
    have e4 := mxd x.f0 a
    have e5 := mxd 0 (mn x.f1 b - mx x.f0 a)
    rw [sumU, List.length_cons]
    omega
theorem sumF_bd : ∀ r : List Sp, (∀ x ∈ r, spOk x) → 0 ≤ sumF r ∧ sumF r ≤ 200000 * r.length
  | [], _ => by simp [sumF]
  | x :: r, h => by
    have ih := sumF_bd r (fun y hy => h y (List.mem_cons_of_mem _ hy))
    obtain ⟨s1, s2, s3⟩ := h x List.mem_cons_self
    rw [sumF, List.length_cons]
    omega
theorem l1_f (us : List Sp) (hl : us.length ≤ 300) (hu : ∀ x ∈ us, spOk x) {a b : Int} (ha : 0 ≤ a) (hb : b ≤ 200000) (hab : a ≤ b) : ∀ (d k i : Nat) (acc : Int), i + d = us.length → d < k → 0 ≤ acc → acc ≤ 200000 * (300 + i) →
    skywaykeep1_VolumeFree.l1 k a b acc us (us.length : Int) (i : Int) = some (acc + sumU a b (us.drop i) == b - a)
  | 0, k, i, acc, hi, hk, h1, h2 => by
    obtain ⟨k, rfl⟩ : ∃ m, k = m + 1 := ⟨k - 1, by omega⟩
    rw [skywaykeep1_VolumeFree.l1, if_neg (by omega), List.drop_of_length_le (by omega), sumU, Int.add_zero, w64 (x := b - a) (by omega) (by omega)]
  | d + 1, k, i, acc, hi, hk, h1, h2 => by
    obtain ⟨k, rfl⟩ : ∃ m, k = m + 1 := ⟨k - 1, by omega⟩
    have hlt : i < us.length := by omega
    obtain ⟨s1, s2, s3⟩ := hu us[i] (List.getElem_mem hlt)
    have e3 := mnd us[i].f1 b
    have e4 := mxd us[i].f0 a
    have e5 := mxd 0 (mn us[i].f1 b - mx us[i].f0 a)
    rw [skywaykeep1_VolumeFree.l1, if_pos (by omega), if_pos (by omega), if_pos (by omega), rdS hlt, List.drop_eq_getElem_cons hlt, sumU, w64 (x := mn us[i].f1 b - mx us[i].f0 a) (by omega) (by omega), w64 (x := acc + mx 0 (mn us[i].f1 b - mx us[i].f0 a)) (by omega) (by omega),
      w64 (x := (i : Int) + 1) (by omega) (by omega), show ((i : Int) + 1) = ((i + 1 : Nat) : Int) by omega, l1_f us hl hu ha hb hab d k (i + 1) _ (by omega) (by omega) (by omega) (by omega), Int.add_assoc]
theorem l0_f (us : List Sp) (hl : us.length ≤ 300) (hu : ∀ x ∈ us, spOk x) {a b : Int} (ha : 0 ≤ a) (hb : b ≤ 200000) (hab : a ≤ b) (fs : List Sp) (hfl : fs.length ≤ 300) (hf : ∀ x ∈ fs, spOk x) : ∀ (d k i : Nat) (acc : Int), i + d = fs.length → d + 400 < k → 0 ≤ acc → acc ≤ 200000 * i →
    skywaykeep1_VolumeFree.l0 k a b us acc fs (fs.length : Int) (i : Int) = some (acc + sumF (fs.drop i) + sumU a b us == b - a)
  | 0, k, i, acc, hi, hk, h1, h2 => by
    obtain ⟨k, rfl⟩ : ∃ m, k = m + 1 := ⟨k - 1, by omega⟩
    rw [skywaykeep1_VolumeFree.l0, if_neg (by omega), List.drop_of_length_le (by omega), sumF, Int.add_zero]
    exact l1_f us hl hu ha hb hab us.length k 0 acc (by omega) (by omega) h1 (by omega)
  | d + 1, k, i, acc, hi, hk, h1, h2 => by
    obtain ⟨k, rfl⟩ : ∃ m, k = m + 1 := ⟨k - 1, by omega⟩
    have hlt : i < fs.length := by omega
    obtain ⟨s1, s2, s3⟩ := hf fs[i] (List.getElem_mem hlt)
    rw [skywaykeep1_VolumeFree.l0, if_pos (by omega), if_pos (by omega), if_pos (by omega), rdS hlt, List.drop_eq_getElem_cons hlt, sumF, w64 (x := fs[i].f1 - fs[i].f0) (by omega) (by omega), w64 (x := acc + (fs[i].f1 - fs[i].f0)) (by omega) (by omega),
      w64 (x := (i : Int) + 1) (by omega) (by omega), show ((i : Int) + 1) = ((i + 1 : Nat) : Int) by omega, l0_f us hl hu ha hb hab fs hfl hf d k (i + 1) _ (by omega) (by omega) (by omega) (by omega), Int.add_assoc acc]
theorem fr_ok {f t : Int} (hf : 0 ≤ f) (ht : t ≤ 200000) : ∀ (r : List Sp) (a : Int), (∀ x ∈ r, spOk x) → f ≤ a → ∀ x ∈ fr t a r, spOk x
  | [], a, h, ha => by
    rw [fr]
    by_cases c : a < t
    · rw [if_pos c]
      intro x hx
      obtain rfl := List.mem_singleton.1 hx
      exact ⟨by dsimp only; omega, ht, c⟩
    · rw [if_neg c]; intro x hx; cases hx
  | s :: r, a, h, ha => by
    have e1 := mxd a s.f1
    have e2 := mnd s.f0 t
    have ih := fr_ok hf ht r (mx a s.f1) (fun x hx => h x (List.mem_cons_of_mem _ hx)) (by omega)
    rw [fr]
    by_cases c : a < mn s.f0 t
    · rw [if_pos c]
      intro x hx
      rcases List.mem_cons.1 hx with rfl | hx
      · exact ⟨by dsimp only; omega, by dsimp only; omega, c⟩
      · exact ih x hx
    · rw [if_neg c]; exact ih
theorem VolumeFree : skywaykeep1_VolumeFree.Pure := by
  intro l a b _ _ _
  refine ⟨2000, ?_⟩
  unfold skywaykeep1_VolumeFree.f
  rw [works 2000 (by decide), Option.bind_some, if_pos rfl]
  by_cases h : LOk l
  · obtain ⟨u, hu, u1, u2, u3, u4⟩ := union_ok l 2000 (by decide) h
    rw [free_f l a b 2000 (by decide) hu u4, hu, Option.bind_some, Option.bind_some]
    by_cases c : 0 ≤ a ∧ b ≤ 200000 ∧ a ≤ b
    · rw [if_pos c]
      dsimp only
      obtain ⟨c1, c2, c3⟩ := c
      have e := mnd a b
      have hs := fr_sum a b c3 u a u1 u2 (Int.le_refl _) (.inl rfl)
      have hl := fr_len b u a
      rw [if_pos rfl, show (2000 : Nat) = 1999 + 1 from rfl, skywaykeep1_VolumeFree.j0, if_neg (by decide)]
      have := l0_f u (by omega) u2 c1 c2 c3 (fr b a u) (by omega) (fr_ok c1 c2 u a u2 (Int.le_refl _)) (fr b a u).length 1999 0 0 (by omega) (by omega) (by omega) (by omega)
      rw [List.drop_zero, Int.zero_add] at this
      rw [show ((0 : Nat) : Int) = 0 from rfl] at this
      rw [this]
      congr 1
      exact beq_iff_eq.2 (by omega)
    · rw [if_neg c]
      dsimp only
      rw [if_neg (by decide), show (2000 : Nat) = 1999 + 1 from rfl, skywaykeep1_VolumeFree.j0]
      rfl
  · obtain ⟨e, h0, hu⟩ := union_bad l 2000 (by decide) h
    rw [free_bad l a b 2000 h0 hu, hu, Option.bind_some, Option.bind_some]
    dsimp only
    rw [if_neg h0, show (2000 : Nat) = 1999 + 1 from rfl, skywaykeep1_VolumeFree.j0]
    rfl
end Go.Proofs.Yteaddpieonkboaa.Pure
