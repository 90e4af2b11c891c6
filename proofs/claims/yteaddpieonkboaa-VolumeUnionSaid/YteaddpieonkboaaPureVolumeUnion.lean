/- VolumeUnion: a time is in the union exactly if it is in one of the intervals, and otherwise free. -/
import Derived.Test.YteaddpieonkboaaPVolumeUnionx
import Derived.Test.YteaddpieonkboaaMath
namespace Go.Proofs.Yteaddpieonkboaa.Pure
open Go Go.RowKit Go.Proofs.Yteaddpieonkboaa.PVolumeUnion Go.Proofs.YteaddpieonkboaaW.PrintWords Go.Proofs.YteaddpieonkboaaW.PrintLast Go.Proofs.YteaddpieonkboaaW.PrintMore Go.Proofs.YteaddpieonkboaaM
abbrev Sp := S58
def spOk (x : Sp) : Prop := 0 ≤ x.f0 ∧ x.f1 ≤ 200000 ∧ x.f0 < x.f1
instance (x : Sp) : Decidable (spOk x) := inferInstanceAs (Decidable (_ ∧ _ ∧ _))
def LOk (l : List Sp) : Prop := l.length ≤ 256 ∧ ∀ x ∈ l, spOk x
theorem rdS {l : List Sp} {i : Nat} (h : i < l.length) : rd_T58 l (i : Int) = l[i] := by
  unfold rd_T58
  rw [Int.toNat_natCast, List.getD_eq_getElem?_getD, List.getElem?_eq_getElem h]
  rfl
theorem chk_l (l : List Sp) (hl : l.length ≤ 256) : ∀ (d k i : Nat), i + d = l.length → d < k →
    ∃ e, volume_CheckSpans.l0 k l (l.length : Int) (i : Int) = some e ∧ (e = 0 ↔ ∀ x ∈ l.drop i, spOk x)
  | 0, k, i, hi, hk => by
    obtain ⟨k, rfl⟩ : ∃ m, k = m + 1 := ⟨k - 1, by omega⟩
    refine ⟨0, by rw [volume_CheckSpans.l0, if_neg (by omega)], fun _ => ?_, fun _ => rfl⟩
    rw [List.drop_of_length_le (by omega)]
    intro x hx; cases hx
  | d + 1, k, i, hi, hk => by
    obtain ⟨k, rfl⟩ : ∃ m, k = m + 1 := ⟨k - 1, by omega⟩
    have hlt : i < l.length := by omega
    obtain ⟨e, he, hz⟩ := chk_l l hl d k (i + 1) (by omega) (by omega)
    rw [volume_CheckSpans.l0, if_pos (by omega), if_pos (by omega), if_pos (by omega), rdS hlt, List.drop_eq_getElem_cons hlt]
    have no : ¬ spOk l[i] → ((12 : Int) = 0 ↔ ∀ x ∈ l[i] :: l.drop (i + 1), spOk x) := fun h => ⟨fun h2 => by omega, fun h2 => absurd (h2 _ List.mem_cons_self) h⟩
    by_cases c1 : l[i].f0 < 0
    · rw [if_pos c1]
      exact ⟨12, rfl, no (fun h => by have := h.1; omega)⟩
    rw [if_neg c1]
    by_cases c2 : l[i].f1 > 200000
    · rw [if_pos c2]
      exact ⟨12, rfl, no (fun h => by have := h.2.1; omega)⟩
    rw [if_neg c2]
    by_cases c3 : l[i].f0 ≥ l[i].f1
    · rw [if_pos c3]
      exact ⟨12, rfl, no (fun h => by have := h.2.2; omega)⟩
    rw [if_neg c3, w64 (x := (i : Int) + 1) (by omega) (by omega), show ((i : Int) + 1) = ((i + 1 : Nat) : Int) by omega]
    refine ⟨e, he, hz.trans ⟨fun h x hx => ?_, fun h x hx => h x (List.mem_cons_of_mem _ hx)⟩⟩
    rcases List.mem_cons.1 hx with rfl | hx
    · exact ⟨by omega, by omega, by omega⟩
    · exact h x hx
theorem chk (l : List Sp) (k : Nat) (hk : 300 ≤ k) : ∃ e, volume_CheckSpans.f k l = some e ∧ (e = 0 ↔ LOk l) := by
  unfold volume_CheckSpans.f
  by_cases c : (l.length : Int) > 256
  · rw [if_pos c]
    exact ⟨2, rfl, fun h => by omega, fun h => by have := h.1; omega⟩
  · rw [if_neg c]
    obtain ⟨e, he, hz⟩ := chk_l l (by omega) l.length k 0 (by omega) (by omega)
    rw [List.drop_zero] at hz
    exact ⟨e, he, fun h => ⟨by omega, hz.1 h⟩, fun h => hz.2 h.2⟩
/-- The merging of what is sorted: o is done, p is the last one. -/
def mg (o : List Sp) (p : Sp) : List Sp → List Sp
  | [] => o ++ [p]
  | s :: r => if s.f0 ≤ p.f1 then mg o ⟨p.f0, mx p.f1 s.f1⟩ r else mg (o ++ [p]) s r
theorem lastS (o : List Sp) (p : Sp) (h : (o ++ [p]).length < 1000000) : wrap64 (((o ++ [p]).length : Int) - 1) = (o.length : Int) ∧ rd_T58 (o ++ [p]) (o.length : Int) = p := by
  have e : (o ++ [p]).length = o.length + 1 := by rw [List.length_append]; rfl
  refine ⟨by rw [e, w64 (by omega) (by omega)]; omega, ?_⟩
  rw [rdS (by omega), List.getElem_append_right (Nat.le_refl _)]
  simp
theorem union_l (xs : List Sp) (hx : xs.length ≤ 256) : ∀ (d k i : Nat) (o : List Sp) (p : Sp), i + d = xs.length → d < k → o.length + 1 ≤ i →
    volume_Union.l0 k (o ++ [p]) xs (xs.length : Int) (i : Int) = some (mg o p (xs.drop i), 0)
  | 0, k, i, o, p, hi, hk, ho => by
    obtain ⟨k, rfl⟩ : ∃ m, k = m + 1 := ⟨k - 1, by omega⟩
    rw [volume_Union.l0, if_neg (by omega), List.drop_of_length_le (by omega), mg]
  | d + 1, k, i, o, p, hi, hk, ho => by
    obtain ⟨k, rfl⟩ : ∃ m, k = m + 1 := ⟨k - 1, by omega⟩
    have hlt : i < xs.length := by omega
    have e : (o ++ [p]).length = o.length + 1 := by rw [List.length_append]; rfl
    obtain ⟨e1, e2⟩ := lastS o p (by omega)
    rw [volume_Union.l0, if_pos (by omega), if_pos (by omega), if_pos (by omega), if_pos (show ((o ++ [p]).length : Int) > 0 by omega), e1, if_pos (by omega), if_pos (by omega), e2, rdS hlt, List.drop_eq_getElem_cons hlt, mg,
      w64 (x := (i : Int) + 1) (by omega) (by omega), show ((i : Int) + 1) = ((i + 1 : Nat) : Int) by omega]
    by_cases c : xs[i].f0 ≤ p.f1
    · rw [if_pos c, if_pos c, Int.toNat_natCast, List.set_append_right _ _ (Nat.le_refl _), Nat.sub_self, List.set_cons_zero]
      exact union_l xs hx d k (i + 1) o _ (by omega) (by omega) (by omega)
    · rw [if_neg c, if_neg c, if_pos (by omega)]
      exact union_l xs hx d k (i + 1) (o ++ [p]) _ (by omega) (by omega) (by omega)
def cov (t : Int) (l : List Sp) : Prop := ∃ x ∈ l, x.f0 ≤ t ∧ t < x.f1
def Apt (l : List Sp) : Prop := l.Pairwise fun a b => a.f1 < b.f0
theorem mg_spec : ∀ (r o : List Sp) (p : Sp), Apt (o ++ [p]) → (∀ x ∈ o ++ [p], spOk x) → (∀ x ∈ r, spOk x ∧ p.f0 ≤ x.f0) → r.Pairwise (fun x y => x.f0 ≤ y.f0) →
    Apt (mg o p r) ∧ (∀ x ∈ mg o p r, spOk x) ∧ (∀ t, cov t (mg o p r) ↔ cov t (o ++ [p]) ∨ cov t r) ∧ (mg o p r).length ≤ o.length + 1 + r.length
  | [], o, p, h1, h2, h3, h4 => by
    rw [mg]
    refine ⟨h1, h2, fun t => ⟨fun h => .inl h, fun h => h.elim id (fun ⟨x, hx, _⟩ => by cases hx)⟩, by rw [List.length_append]; simp⟩
  | s :: r, o, p, h1, h2, h3, h4 => by
    obtain ⟨so, ps⟩ := h3 s List.mem_cons_self
    have po := h2 p (by simp)
    obtain ⟨h4a, h4b⟩ := List.pairwise_cons.1 h4
    unfold Apt at h1
    rw [List.pairwise_append] at h1
    obtain ⟨ha, hb, hc⟩ := h1
    rw [mg]
    by_cases c : s.f0 ≤ p.f1
    · rw [if_pos c]
      have hm : p.f1 ≤ mx p.f1 s.f1 ∧ s.f1 ≤ mx p.f1 s.f1 ∧ (mx p.f1 s.f1 = p.f1 ∨ mx p.f1 s.f1 = s.f1) := by unfold mx; split <;> omega
      obtain ⟨p1, p2, p3⟩ := po
      obtain ⟨s1, s2, s3⟩ := so
      have np : spOk ⟨p.f0, mx p.f1 s.f1⟩ := ⟨p1, by show mx p.f1 s.f1 ≤ 200000; omega, by show p.f0 < mx p.f1 s.f1; omega⟩
      obtain ⟨g1, g2, g3, g4⟩ := mg_spec r o ⟨p.f0, mx p.f1 s.f1⟩
        (by unfold Apt; rw [List.pairwise_append]; refine ⟨ha, List.pairwise_singleton _ _, fun a h b hb => ?_⟩; obtain rfl := List.mem_singleton.1 hb; exact hc a h p (by simp))
        (by intro x hx; rcases List.mem_append.1 hx with hx | hx; exact h2 x (List.mem_append_left _ hx); obtain rfl := List.mem_singleton.1 hx; exact np)
        (fun x hx => h3 x (List.mem_cons_of_mem _ hx)) h4b
      refine ⟨g1, g2, fun t => (g3 t).trans ⟨?_, ?_⟩, by rw [List.length_cons]; omega⟩
      · rintro (⟨x, hx, t1, t2⟩ | ⟨x, hx, t1, t2⟩)
        · rcases List.mem_append.1 hx with hx | hx
          · exact .inl ⟨x, List.mem_append_left _ hx, t1, t2⟩
          · obtain rfl := List.mem_singleton.1 hx
            dsimp only at t1 t2
            by_cases ct : t < p.f1
            · exact .inl ⟨p, by simp, t1, ct⟩
            · exact .inr ⟨s, List.mem_cons_self, by omega, by omega⟩
        · exact .inr ⟨x, List.mem_cons_of_mem _ hx, t1, t2⟩
      · rintro (⟨x, hx, t1, t2⟩ | ⟨x, hx, t1, t2⟩)
        · rcases List.mem_append.1 hx with hx | hx
          · exact .inl ⟨x, List.mem_append_left _ hx, t1, t2⟩
          · obtain rfl := List.mem_singleton.1 hx
            exact .inl ⟨⟨x.f0, mx x.f1 s.f1⟩, by simp, t1, by show t < mx x.f1 s.f1; omega⟩
        · rcases List.mem_cons.1 hx with rfl | hx
          · exact .inl ⟨⟨p.f0, mx p.f1 x.f1⟩, by simp, by show p.f0 ≤ t; omega, by show t < mx p.f1 x.f1; omega⟩
          · exact .inr ⟨x, hx, t1, t2⟩
    · rw [if_neg c]
      obtain ⟨g1, g2, g3, g4⟩ := mg_spec r (o ++ [p]) s
        (by
          unfold Apt; rw [List.pairwise_append]; refine ⟨by rw [List.pairwise_append]; exact ⟨ha, hb, hc⟩, List.pairwise_singleton _ _, fun a h b hb => ?_⟩
          obtain rfl := List.mem_singleton.1 hb
          rcases List.mem_append.1 h with h | h
          · have := hc a h p (by simp); have := po.2.2; omega
          · obtain rfl := List.mem_singleton.1 h; omega)
        (by intro x hx; rcases List.mem_append.1 hx with hx | hx; exact h2 x hx; obtain rfl := List.mem_singleton.1 hx; exact so)
        (fun x hx => ⟨(h3 x (List.mem_cons_of_mem _ hx)).1, h4a x hx⟩) h4b
      refine ⟨g1, g2, fun t => (g3 t).trans ⟨?_, ?_⟩, by rw [List.length_append] at g4; rw [List.length_cons]; simp at g4; omega⟩
      · rintro (⟨x, hx, t1, t2⟩ | ⟨x, hx, t1, t2⟩)
        · rcases List.mem_append.1 hx with hx | hx
          · exact .inl ⟨x, hx, t1, t2⟩
          · obtain rfl := List.mem_singleton.1 hx
            exact .inr ⟨x, List.mem_cons_self, t1, t2⟩
        · exact .inr ⟨x, List.mem_cons_of_mem _ hx, t1, t2⟩
      · rintro (⟨x, hx, t1, t2⟩ | ⟨x, hx, t1, t2⟩)
        · exact .inl ⟨x, List.mem_append_left _ hx, t1, t2⟩
        · rcases List.mem_cons.1 hx with rfl | hx
          · exact .inl ⟨x, by simp, t1, t2⟩
          · exact .inr ⟨x, hx, t1, t2⟩
theorem okAll_of {l : List Sp} (h : LOk l) : okAll l = true := by
  unfold okAll
  rw [Bool.and_eq_true]
  refine ⟨decide_eq_true (by have := h.1; omega), List.all_eq_true.2 fun x hx => decide_eq_true ?_⟩
  obtain ⟨a, b, c⟩ := h.2 x hx
  exact ⟨a, by omega⟩
def joinS : List Sp → List Sp
  | [] => []
  | s :: r => mg [] s r
theorem union_f (l : List Sp) (k : Nat) (hk : 300 ≤ k) (h : LOk l) : volume_Union.f k l = some (joinS (sortedS l (okAll_of h)), 0) := by
  obtain ⟨e, he, hz⟩ := chk l k hk
  obtain rfl : e = 0 := hz.2 h
  have hl := h.1
  have hs := sortedS_length l (okAll_of h)
  unfold volume_Union.f
  rw [he, Option.bind_some, if_pos rfl]
  unfold api_Span_60.f api_Span_61.f
  rw [Option.bind_some, if_pos (by simp; omega), Option.bind_some, List.nil_append, dif_pos (okAll_of h), Option.bind_some]
  rw [← hs]
  generalize sortedS l (okAll_of h) = m at hs
  obtain ⟨k, rfl⟩ : ∃ q, k = q + 1 := ⟨k - 1, by omega⟩
  cases m with
  | nil => rw [volume_Union.l0]; rfl
  | cons s r =>
    have e0 : rd_T58 (s :: r) 0 = s := rfl
    rw [List.length_cons] at hs
    rw [volume_Union.l0, if_pos (by rw [List.length_cons]; omega), if_pos (by omega), if_pos (by rw [List.length_cons]; omega), if_neg (by simp), if_pos (by simp), e0, w64 (by omega) (by omega), List.nil_append]
    exact union_l (s :: r) (by rw [List.length_cons]; omega) r.length k 1 [] s (by rw [List.length_cons]; omega) (by omega) (by simp)
theorem union_ok (l : List Sp) (k : Nat) (hk : 300 ≤ k) (h : LOk l) : ∃ u, volume_Union.f k l = some (u, 0) ∧ Apt u ∧ (∀ x ∈ u, spOk x) ∧ (∀ t, cov t u ↔ cov t l) ∧ u.length ≤ 256 := by
  refine ⟨_, union_f l k hk h, ?_⟩
  have hp := sortedS_perm l (okAll_of h)
  have hs := sortedS_sorted l (okAll_of h)
  have hl := h.1
  rw [← hp.length_eq] at hl
  have hm : ∀ t, cov t (sortedS l (okAll_of h)) ↔ cov t l := fun t => ⟨fun ⟨x, hx, g⟩ => ⟨x, hp.mem_iff.1 hx, g⟩, fun ⟨x, hx, g⟩ => ⟨x, hp.mem_iff.2 hx, g⟩⟩
  have ho : ∀ x ∈ sortedS l (okAll_of h), spOk x := fun x hx => h.2 x (hp.mem_iff.1 hx)
  generalize sortedS l (okAll_of h) = m at hp hs hl hm ho
  cases m with
  | nil => exact ⟨List.Pairwise.nil, fun x hx => (by cases hx), hm, by simp [joinS]⟩
  | cons s r =>
    obtain ⟨sa, sb⟩ := List.pairwise_cons.1 hs
    obtain ⟨g1, g2, g3, g4⟩ := mg_spec r [] s (List.pairwise_singleton _ _) (fun x hx => by obtain rfl := List.mem_singleton.1 hx; exact ho x List.mem_cons_self) (fun x hx => ⟨ho x (List.mem_cons_of_mem _ hx), sa x hx⟩) sb
    refine ⟨g1, g2, fun t => (g3 t).trans (Iff.trans ⟨?_, ?_⟩ (hm t)), by rw [List.length_cons] at hl; show (mg [] s r).length ≤ 256; rw [List.length_nil] at g4; omega⟩
    · rintro (⟨x, hx, g⟩ | ⟨x, hx, g⟩)
      · obtain rfl := List.mem_singleton.1 hx
        exact ⟨x, List.mem_cons_self, g⟩
      · exact ⟨x, List.mem_cons_of_mem _ hx, g⟩
    · rintro ⟨x, hx, g⟩
      rcases List.mem_cons.1 hx with rfl | hx
      · exact .inl ⟨x, by simp, g⟩
      · exact .inr ⟨x, hx, g⟩
theorem union_bad (l : List Sp) (k : Nat) (hk : 300 ≤ k) (h : ¬ LOk l) : ∃ e, e ≠ 0 ∧ volume_Union.f k l = some ([], e) := by
  obtain ⟨e, he, hz⟩ := chk l k hk
  have h0 : e ≠ 0 := fun h0 => h (hz.1 h0)
  refine ⟨e, h0, ?_⟩
  unfold volume_Union.f
  rw [he, Option.bind_some, if_neg h0]
theorem works (k : Nat) (hk : 300 ≤ k) : skywaykeep1_volumeWorks.f k = some true := by
  have hL : LOk [⟨3, 6⟩, ⟨6, 8⟩, ⟨1, 2⟩] := ⟨by simp, by decide⟩
  unfold skywaykeep1_volumeWorks.f
  rw [union_f _ k hk hL]
  have hp := sortedS_perm _ (okAll_of hL)
  have hs := sortedS_sorted _ (okAll_of hL)
  have e : sortedS [⟨3, 6⟩, ⟨6, 8⟩, ⟨1, 2⟩] (okAll_of hL) = [⟨1, 2⟩, ⟨3, 6⟩, ⟨6, 8⟩] := by
    refine List.Perm.eq_of_pairwise (le := fun x y => x.f0 ≤ y.f0) ?_ hs (by decide) (hp.trans (List.perm_append_comm (l₁ := ([⟨3, 6⟩, ⟨6, 8⟩] : List Sp)) (l₂ := ([⟨1, 2⟩] : List Sp))))
    intro a b ha hb h1 h2
    have ha' := hp.mem_iff.1 ha
    simp only [List.mem_cons, List.not_mem_nil, or_false] at ha' hb
    rcases ha' with rfl | rfl | rfl <;> rcases hb with rfl | rfl | rfl <;> first | rfl | (dsimp only at h1 h2; omega)
  rw [e]
  rfl
/-- What is free from a time on. -/
def fr (t : Int) : Int → List Sp → List Sp
  | a, [] => if a < t then [⟨a, t⟩] else []
  | a, s :: r => if a < mn s.f0 t then ⟨a, mn s.f0 t⟩ :: fr t (mx a s.f1) r else fr t (mx a s.f1) r
theorem fr_len (t : Int) : ∀ (r : List Sp) (a : Int), (fr t a r).length ≤ r.length + 1
  | [], a => by rw [fr]; split <;> simp
  | s :: r, a => by
    have := fr_len t r (mx a s.f1)
    rw [fr]
    split
    · rw [List.length_cons, List.length_cons]; omega
    · rw [List.length_cons]; omega
theorem free_l (xs : List Sp) (hx : xs.length ≤ 256) (t : Int) : ∀ (d k i : Nat) (o : List Sp) (a : Int), i + d = xs.length → d < k → o.length ≤ i →
    volume_Free.l0 k t o a xs (xs.length : Int) (i : Int) = some (o ++ fr t a (xs.drop i), 0)
  | 0, k, i, o, a, hi, hk, ho => by
    obtain ⟨k, rfl⟩ : ∃ m, k = m + 1 := ⟨k - 1, by omega⟩
    rw [volume_Free.l0, if_neg (by omega), List.drop_of_length_le (by omega), fr]
    by_cases c : a < t
    · rw [if_pos c, if_pos c, if_pos (by omega)]
    · rw [if_neg c, if_neg c, List.append_nil]
  | d + 1, k, i, o, a, hi, hk, ho => by
    obtain ⟨k, rfl⟩ : ∃ m, k = m + 1 := ⟨k - 1, by omega⟩
    have hlt : i < xs.length := by omega
    rw [volume_Free.l0, if_pos (by omega), if_pos (by omega), if_pos (by omega), rdS hlt, List.drop_eq_getElem_cons hlt, fr, w64 (x := (i : Int) + 1) (by omega) (by omega), show ((i : Int) + 1) = ((i + 1 : Nat) : Int) by omega]
    by_cases c : a < mn xs[i].f0 t
    · rw [if_pos c, if_pos c, if_pos (by omega), free_l xs hx t d k (i + 1) _ _ (by omega) (by omega) (by rw [List.length_append]; simp; omega), List.append_assoc, List.singleton_append]
    · rw [if_neg c, if_neg c, free_l xs hx t d k (i + 1) _ _ (by omega) (by omega) (by omega)]
/-- What Free answers. -/
theorem free_f (l : List Sp) (a b : Int) (k : Nat) (hk : 300 ≤ k) {u : List Sp} (hu : volume_Union.f k l = some (u, 0)) (hl : u.length ≤ 256) :
    volume_Free.f k l a b = some (if 0 ≤ a ∧ b ≤ 200000 ∧ a ≤ b then (fr b a u, 0) else ([], 12)) := by
  unfold volume_Free.f
  rw [hu, Option.bind_some]
  dsimp only
  rw [if_pos rfl]
  obtain ⟨k, rfl⟩ : ∃ m, k = m + 1 := ⟨k - 1, by omega⟩
  by_cases c1 : a < 0
  · rw [if_pos c1, volume_Free.j0, if_pos rfl, if_neg (by omega)]
  rw [if_neg c1]
  by_cases c2 : b > 200000
  · rw [if_pos c2, volume_Free.j0, if_pos rfl, if_neg (by omega)]
  rw [if_neg c2, volume_Free.j0]
  by_cases c3 : a > b
  · rw [if_pos (decide_eq_true c3), if_neg (by omega)]
  rw [if_neg (by simp; omega), if_pos (by omega)]
  exact free_l u hl b u.length k 0 [] a (by omega) (by omega) (by simp)
theorem free_bad (l : List Sp) (a b : Int) (k : Nat) {e : Int} (h0 : e ≠ 0) (hu : volume_Union.f k l = some ([], e)) : volume_Free.f k l a b = some ([], e) := by
  unfold volume_Free.f
  rw [hu, Option.bind_some]
  dsimp only
  rw [if_neg h0]
theorem mxd (a b : Int) : (a < b ∧ mx a b = b) ∨ (b ≤ a ∧ mx a b = a) := by unfold mx; split <;> omega
theorem mnd (a b : Int) : (b < a ∧ mn a b = b) ∨ (a ≤ b ∧ mn a b = a) := by unfold mn; split <;> omega
theorem any_cov (t : Int) (l : List Sp) : l.any (volume_During_1.p t) = true ↔ cov t l := by
  rw [List.any_eq_true]
  unfold volume_During_1.p cov
  constructor
  · rintro ⟨x, hx, h⟩
    rw [Bool.and_eq_true] at h
    have h1 := of_decide_eq_true h.1
    have h2 := of_decide_eq_true h.2
    exact ⟨x, hx, by omega, h2⟩
  · rintro ⟨x, hx, h1, h2⟩
    exact ⟨x, hx, by rw [decide_eq_true (show t ≥ x.f0 by omega), decide_eq_true h2]; rfl⟩
theorem dur_ok (l : List Sp) (t : Int) (k : Nat) (hk : 300 ≤ k) (h : LOk l) : volume_During.f k l t = some (l.any (volume_During_1.p t), 0) := by
  obtain ⟨e, he, hz⟩ := chk l k hk
  obtain rfl : e = 0 := hz.2 h
  unfold volume_During.f
  rw [he, Option.bind_some, if_pos rfl]
  rfl
theorem fr_from (T : Int) : ∀ (r : List Sp) (a : Int), ∀ x ∈ fr T a r, a ≤ x.f0
  | [], a => by
    rw [fr]
    split
    · intro x hx; obtain rfl := List.mem_singleton.1 hx; exact Int.le_refl _
    · intro x hx; cases hx
  | s :: r, a => by
    have ih := fr_from T r (mx a s.f1)
    have e := mxd a s.f1
    rw [fr]
    split
    · intro x hx
      rcases List.mem_cons.1 hx with rfl | hx
      · exact Int.le_refl _
      · have := ih x hx; omega
    · intro x hx
      have := ih x hx; omega
theorem fr_srt (T : Int) : ∀ (r : List Sp) (a : Int), (∀ x ∈ r, spOk x) → (fr T a r).Pairwise fun x y => x.f1 ≤ y.f0
  | [], a, _ => by
    rw [fr]
    split
    · exact List.pairwise_singleton _ _
    · exact List.Pairwise.nil
  | s :: r, a, h => by
    have ih := fr_srt T r (mx a s.f1) (fun x hx => h x (List.mem_cons_of_mem _ hx))
    have e := mxd a s.f1
    have e2 := mnd s.f0 T
    have hs := (h s List.mem_cons_self).2.2
    rw [fr]
    split
    · refine List.pairwise_cons.2 ⟨fun y hy => ?_, ih⟩
      have := fr_from T r _ y hy
      dsimp only
      omega
    · exact ih
theorem fr_cov (t T : Int) : ∀ (r : List Sp) (a : Int), Apt r → (∀ x ∈ r, spOk x) → (∀ x ∈ r, a ≤ x.f0) → (cov t (fr T a r) ↔ a ≤ t ∧ t < T ∧ ¬ cov t r)
  | [], a, _, _, _ => by
    rw [fr]
    constructor
    · rintro ⟨x, hx, h1, h2⟩
      split at hx
      · obtain rfl := List.mem_singleton.1 hx
        exact ⟨h1, h2, fun ⟨y, hy, _⟩ => by cases hy⟩
      · cases hx
    · rintro ⟨h1, h2, _⟩
      rw [if_pos (by omega)]
      exact ⟨⟨a, T⟩, by simp, h1, h2⟩
  | s :: r, a, hA, hok, ha => by
    obtain ⟨g1, g2⟩ := List.pairwise_cons.1 hA
    obtain ⟨s1, s2, s3⟩ := hok s List.mem_cons_self
    have hs := ha s List.mem_cons_self
    have em : mx a s.f1 = s.f1 := by rcases mxd a s.f1 with ⟨_, e⟩ | ⟨_, e⟩ <;> omega
    have ih := fr_cov t T r s.f1 g2 (fun x hx => hok x (List.mem_cons_of_mem _ hx)) (fun x hx => by have := g1 x hx; omega)
    have hc : cov t (s :: r) ↔ (s.f0 ≤ t ∧ t < s.f1) ∨ cov t r := by
      constructor
      · rintro ⟨x, hx, h⟩
        rcases List.mem_cons.1 hx with rfl | hx
        · exact .inl h
        · exact .inr ⟨x, hx, h⟩
      · rintro (h | ⟨x, hx, h⟩)
        · exact ⟨s, List.mem_cons_self, h⟩
        · exact ⟨x, List.mem_cons_of_mem _ hx, h⟩
    have hlow : cov t r → s.f1 < t := by
      rintro ⟨x, hx, h1, h2⟩
      have := g1 x hx
      omega
    have e2 := mnd s.f0 T
    rw [fr, em, hc]
    by_cases c : a < mn s.f0 T
    · rw [if_pos c]
      have hcons : cov t (⟨a, mn s.f0 T⟩ :: fr T s.f1 r) ↔ (a ≤ t ∧ t < mn s.f0 T) ∨ cov t (fr T s.f1 r) := by
        constructor
        · rintro ⟨x, hx, h⟩
          rcases List.mem_cons.1 hx with rfl | hx
          · exact .inl h
          · exact .inr ⟨x, hx, h⟩
        · rintro (h | ⟨x, hx, h⟩)
          · exact ⟨_, List.mem_cons_self, h⟩
          · exact ⟨x, List.mem_cons_of_mem _ hx, h⟩
      rw [hcons, ih]
      by_cases q : cov t r
      · have := hlow q
        constructor
        · rintro (h | h)
          · omega
          · exact absurd q h.2.2
        · rintro ⟨_, _, h⟩
          exact absurd (.inr q) h
      · constructor
        · rintro (h | h)
          · exact ⟨by omega, by omega, fun h2 => h2.elim (fun h3 => by omega) q⟩
          · exact ⟨by omega, by omega, fun h2 => h2.elim (fun h3 => by omega) q⟩
        · rintro ⟨h1, h2, h3⟩
          by_cases c2 : t < mn s.f0 T
          · exact .inl ⟨h1, c2⟩
          · refine .inr ⟨?_, h2, q⟩
            have : ¬ (s.f0 ≤ t ∧ t < s.f1) := fun h4 => h3 (.inl h4)
            omega
    · rw [if_neg c, ih]
      by_cases q : cov t r
      · constructor
        · rintro ⟨_, _, h⟩
          exact absurd q h
        · rintro ⟨_, _, h⟩
          exact absurd (.inr q) h
      · constructor
        · rintro ⟨h1, h2, h3⟩
          exact ⟨by omega, h2, fun h4 => h4.elim (fun h5 => by omega) q⟩
        · rintro ⟨h1, h2, h3⟩
          refine ⟨?_, h2, q⟩
          have : ¬ (s.f0 ≤ t ∧ t < s.f1) := fun h4 => h3 (.inl h4)
          omega
theorem fr_ok {f t : Int} (hf : 0 ≤ f) (ht : t ≤ 200000) : ∀ (r : List Sp) (a : Int), (∀ x ∈ r, spOk x) → f ≤ a → ∀ x ∈ fr t a r, spOk x
  | [], a, h, ha => by
    rw [fr]
    by_cases c : a < t
    · rw [if_pos c]
      intro x hx
      obtain rfl := List.mem_singleton.1 hx
      exact ⟨by dsimp only; omega, ht, c⟩
    · rw [if_neg c]; intro x hx; cases hx
  | s :: r, a, h, ha => by
    have e1 := mxd a s.f1
    have e2 := mnd s.f0 t
    have ih := fr_ok hf ht r (mx a s.f1) (fun x hx => h x (List.mem_cons_of_mem _ hx)) (by omega)
    rw [fr]
    by_cases c : a < mn s.f0 t
    · rw [if_pos c]
      intro x hx
      rcases List.mem_cons.1 hx with rfl | hx
      · exact ⟨by dsimp only; omega, by dsimp only; omega, c⟩
      · exact ih x hx
    · rw [if_neg c]; exact ih
/-- The last loop. -/
theorem l0_f (u : List Sp) (hu : Apt u) (hl : u.length ≤ 256) (t : Int) (b x : Bool) : ∀ (d k i : Nat), 1 ≤ i → i + d = max u.length 1 → d < k →
    skywaykeep1_VolumeUnion.l0 k t b u x (i : Int) = some (x == (!b && decide (0 ≤ t ∧ t < 200000)))
  | 0, k, i, h1, hi, hk => by
    obtain ⟨k, rfl⟩ : ∃ m, k = m + 1 := ⟨k - 1, by omega⟩
    rw [skywaykeep1_VolumeUnion.l0, if_neg (by omega)]
    cases b
    · rw [if_neg (by decide)]
      by_cases c : t ≥ 0
      · rw [if_pos c, decide_eq_decide.2 (show t < 200000 ↔ 0 ≤ t ∧ t < 200000 by omega)]; rfl
      · rw [if_neg c, decide_eq_false (show ¬ (0 ≤ t ∧ t < 200000) by omega)]; rfl
    · rw [if_pos rfl]; rfl
  | d + 1, k, i, h1, hi, hk => by
    obtain ⟨k, rfl⟩ : ∃ m, k = m + 1 := ⟨k - 1, by omega⟩
    have hlt : i < u.length := by omega
    have hap := List.pairwise_iff_getElem.1 hu (i - 1) i (by omega) hlt (by omega)
    rw [skywaykeep1_VolumeUnion.l0, if_pos (by omega), if_pos (by omega), w64 (x := (i : Int) - 1) (by omega) (by omega), if_pos (by omega), if_pos (by omega), rdS hlt, show ((i : Int) - 1) = ((i - 1 : Nat) : Int) by omega, rdS (show i - 1 < u.length by omega), if_neg (by omega),
      w64 (x := (i : Int) + 1) (by omega) (by omega), show ((i : Int) + 1) = ((i + 1 : Nat) : Int) by omega]
    exact l0_f u hu hl t b x d k (i + 1) (by omega) (by omega) (by omega)
theorem any_eq {t : Int} {a b : List Sp} (h : cov t a ↔ cov t b) : a.any (volume_During_1.p t) = b.any (volume_During_1.p t) :=
  Bool.eq_iff_iff.2 ((any_cov t a).trans (h.trans (any_cov t b).symm))
theorem VolumeUnion : skywaykeep1_VolumeUnion.Pure := by
  intro l t _ _
  refine ⟨2000, ?_⟩
  unfold skywaykeep1_VolumeUnion.f
  rw [works 2000 (by decide), Option.bind_some, if_pos rfl]
  by_cases h : LOk l
  · obtain ⟨u, hu, u1, u2, u3, u4⟩ := union_ok l 2000 (by decide) h
    have hLu : LOk u := ⟨u4, u2⟩
    rw [dur_ok l t 2000 (by decide) h, Option.bind_some, hu, Option.bind_some, free_f l 0 200000 2000 (by decide) hu u4, if_pos (by decide), Option.bind_some]
    dsimp only
    rw [if_pos rfl, dur_ok u t 2000 (by decide) hLu, Option.bind_some, any_eq (u3 t)]
    dsimp only
    have fl := fr_len 200000 u 0
    have fo := fr_ok (Int.le_refl 0) (Int.le_refl 200000) u 0 u2 (Int.le_refl _)
    have fs := fr_srt 200000 u 0 u2
    have fc := fr_cov t 200000 u 0 u1 u2 (fun x hx => (u2 x hx).1)
    rw [u3 t] at fc
    generalize fr 200000 0 u = F at fl fo fs fc
    have fin : ∀ G : List Sp, LOk G → (cov t G ↔ cov t F) → skywaykeep1_VolumeUnion.j0 2000 t (l.any (volume_During_1.p t)) u 0 G 0 (l.any (volume_During_1.p t)) 0 = some true := by
      intro G hG hc
      rw [show (2000 : Nat) = 1999 + 1 from rfl, skywaykeep1_VolumeUnion.j0, dur_ok G t 1999 (by decide) hG, Option.bind_some]
      dsimp only
      rw [if_pos rfl, if_pos rfl, if_pos rfl, if_pos rfl, show (1999 : Nat) = 1998 + 1 from rfl, skywaykeep1_VolumeUnion.j1, if_neg (by simp)]
      have := l0_f u u1 u4 t (l.any (volume_During_1.p t)) (G.any (volume_During_1.p t)) (max u.length 1 - 1) 1998 1 (by omega) (by omega) (by omega)
      rw [show ((1 : Nat) : Int) = 1 from rfl] at this
      rw [this]
      congr 1
      rw [beq_iff_eq]
      refine Bool.eq_iff_iff.2 ?_
      rw [any_cov, hc, fc, Bool.and_eq_true, Bool.not_eq_true', decide_eq_true_iff]
      have hn : (l.any (volume_During_1.p t) = false) ↔ ¬ cov t l := by rw [← any_cov]; simp
      rw [hn]
      exact ⟨fun ⟨a, b, c⟩ => ⟨c, a, b⟩, fun ⟨c, a, b⟩ => ⟨a, b, c⟩⟩
    by_cases c : (F.length : Int) > 256
    · rw [if_pos c, if_pos (by omega), Option.bind_some]
      cases F with
      | nil => simp at c
      | cons x F =>
        have e0 : (x :: F).take (1 : Int).toNat = [x] := rfl
        have e1 : rd_T58 [x] 0 = x := rfl
        rw [e0, if_pos (by simp), e1]
        by_cases c2 : t ≥ x.f1
        · rw [if_pos c2, if_pos rfl, if_pos rfl, if_pos rfl]
          congr 1
          exact beq_self_eq_true _
        · rw [if_neg c2]
          refine fin [x] ⟨by simp, fun y hy => by obtain rfl := List.mem_singleton.1 hy; exact fo y List.mem_cons_self⟩ ⟨?_, ?_⟩
          · rintro ⟨y, hy, g⟩
            obtain rfl := List.mem_singleton.1 hy
            exact ⟨y, List.mem_cons_self, g⟩
          · rintro ⟨y, hy, g1, g2⟩
            rcases List.mem_cons.1 hy with rfl | hy
            · exact ⟨y, by simp, g1, g2⟩
            · have := (List.pairwise_cons.1 fs).1 y hy
              omega
    · rw [if_neg c]
      exact fin F ⟨by omega, fo⟩ Iff.rfl
  · obtain ⟨e, he, hz⟩ := chk l 2000 (by decide)
    have h0 : e ≠ 0 := fun g => h (hz.1 g)
    have hd : volume_During.f 2000 l t = some (false, e) := by
      unfold volume_During.f
      rw [he, Option.bind_some, if_neg h0]
    have hu : volume_Union.f 2000 l = some ([], e) := by
      unfold volume_Union.f
      rw [he, Option.bind_some, if_neg h0]
    rw [hd, hu, free_bad l 0 200000 2000 h0 hu, Option.bind_some, Option.bind_some, Option.bind_some]
    dsimp only
    rw [if_neg h0, if_pos rfl, if_pos rfl, show (((([] : List Sp).length : Nat) : Int) + ((([] : List Sp).length : Nat) : Int)) = 0 from rfl, w64 (by decide) (by decide)]
    rfl
end Go.Proofs.Yteaddpieonkboaa.Pure
