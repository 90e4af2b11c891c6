/- AircraftReach: for all types of aircraft, heights and times, a height can be reached in a time exactly if the climb or descent does not take longer. -/
import Derived.Test.YtfchcleochphoaaDoorPAircraftReachx
import Derived.Test.YtfchcleochphoaaDoorMath
namespace Go.Proofs.YtfchcleochphoaaDoor.Pure
open Go Go.RowKit Go.Proofs.YtfchcleochphoaaDoor Go.Proofs.YtfchcleochphoaaDoor.PAircraftReach Go.Proofs.YtfchcleochphoaaDoorW.PrintWords Go.Proofs.YtfchcleochphoaaDoorW.PrintLast Go.Proofs.YtfchcleochphoaaDoorM
theorem name_l0 (s : ByteArray) : ∀ (d i : Nat), i + d = s.size → s.size ≤ 8 → ∃ b, chart_Name.l0 (d + 1) s (s.size : Int) (i : Int) = some b
  | 0, i, h, _ => ⟨true, by rw [chart_Name.l0, if_neg (by omega)]⟩
  | d + 1, i, h, h8 => by
    obtain ⟨b, hb⟩ := name_l0 s d (i + 1) (by omega) h8
    have hw : wrap64 ((i : Int) + 1) = ((i + 1 : Nat) : Int) := by rw [w64 (by omega) (by omega)]; omega
    rw [chart_Name.l0, if_pos (by omega), if_pos (by omega), if_pos (by omega), hw, hb]
    (repeat' split) <;> exact ⟨_, rfl⟩
theorem name_some (s : ByteArray) : ∃ b, ∀ k, 10 ≤ k → chart_Name.f k s = some b := by
  have key : ∃ b, chart_Name.f 10 s = some b := by
    unfold chart_Name.f
    by_cases h0 : (s.size : Int) = 0
    · rw [if_pos h0, chart_Name.j0, if_pos rfl]; exact ⟨_, rfl⟩
    · rw [if_neg h0]
      by_cases h8 : (s.size : Int) > 8
      · rw [if_pos h8, chart_Name.j0, if_pos rfl]; exact ⟨_, rfl⟩
      · rw [if_neg h8, if_pos (by omega)]
        obtain ⟨b, hb⟩ := name_l0 s s.size 0 (by omega) (by omega)
        have hb9 : chart_Name.l0 9 s (s.size : Int) 0 = some b := at_rounds (g := fun k => chart_Name.l0 k s (s.size : Int) 0) (fun k => (chart_Name.mono_l k).2 _ _ _) (show s.size + 1 ≤ 9 by omega) hb
        rw [chart_Name.j0, chart_Name.j0, hb9]
        (repeat' split) <;> exact ⟨_, rfl⟩
  obtain ⟨b, hb⟩ := key
  exact ⟨b, fun k hk => at_rounds (chart_Name.mono s) hk hb⟩
/-- What a type's check answers. -/
def chk (b : Bool) (wk ce cl de sl fa : Int) : Int :=
  if b = true then (if wk < 0 ∨ wk > 3 then 1 else if ce < 1 ∨ ce > 60000 ∨ cl < 1 ∨ cl > 200 ∨ de < 1 ∨ de > 200 then 4 else if sl < 1 ∨ sl > 400 ∨ fa < 1 ∨ fa > 400 then 4 else if sl > fa then 3 else 0) else 5
theorem chk_zero {b : Bool} {wk ce cl de sl fa : Int} (h : chk b wk ce cl de sl fa = 0) : b = true ∧ 0 ≤ wk ∧ wk ≤ 3 ∧ 1 ≤ ce ∧ ce ≤ 60000 ∧ 1 ≤ cl ∧ cl ≤ 200 ∧ 1 ≤ de ∧ de ≤ 200 ∧ 1 ≤ sl ∧ sl ≤ fa ∧ fa ≤ 400 := by
  unfold chk at h
  cases b
  · simp at h
  · simp only [if_true] at h
    by_cases c1 : wk < 0 ∨ wk > 3
    · rw [if_pos c1] at h; omega
    rw [if_neg c1] at h
    by_cases c2 : ce < 1 ∨ ce > 60000 ∨ cl < 1 ∨ cl > 200 ∨ de < 1 ∨ de > 200
    · rw [if_pos c2] at h; omega
    rw [if_neg c2] at h
    by_cases c3 : sl < 1 ∨ sl > 400 ∨ fa < 1 ∨ fa > 400
    · rw [if_pos c3] at h; omega
    rw [if_neg c3] at h
    by_cases c4 : sl > fa
    · rw [if_pos c4] at h; omega
    exact ⟨rfl, by omega, by omega, by omega, by omega, by omega, by omega, by omega, by omega, by omega, by omega, by omega⟩
theorem check_k (s : ByteArray) (wk ce cl de sl fa : Int) : ∃ b, ∀ k, 20 ≤ k → aircraft_Check.f k s wk ce cl de sl fa = some (chk b wk ce cl de sl fa) := by
  obtain ⟨b, hb⟩ := name_some s
  refine ⟨b, fun k hk => ?_⟩
  obtain ⟨k, rfl⟩ : ∃ m, k = m + 4 := ⟨k - 4, by omega⟩
  unfold aircraft_Check.f chk
  rw [hb _ (by omega), Option.bind_some]
  cases b
  · rfl
  rw [if_pos rfl, if_pos rfl]
  have j3 : ∀ k x, aircraft_Check.j3 (k + 1) x s wk ce cl de sl fa = some (if x = true then 4 else if sl > fa then 3 else 0) := by
    intro k x; rw [aircraft_Check.j3]; (repeat' split) <;> rfl
  have j2 : ∀ k x, aircraft_Check.j2 (k + 2) x s wk ce cl de sl fa = some (if x = true then 4 else if sl < 1 ∨ sl > 400 ∨ fa < 1 ∨ fa > 400 then 4 else if sl > fa then 3 else 0) := by
    intro k x
    rw [aircraft_Check.j2]
    simp only [j3]
    cases x
    · by_cases c1 : sl < 1 <;> by_cases c2 : sl > 400 <;> by_cases c3 : fa < 1 <;> by_cases c4 : fa > 400 <;> simp [c1, c2, c3, c4]
    · simp
  have j1 : ∀ k x, aircraft_Check.j1 (k + 3) x s wk ce cl de sl fa = some (if x = true ∨ cl < 1 ∨ cl > 200 ∨ de < 1 ∨ de > 200 then 4 else if sl < 1 ∨ sl > 400 ∨ fa < 1 ∨ fa > 400 then 4 else if sl > fa then 3 else 0) := by
    intro k x
    rw [aircraft_Check.j1]
    simp only [j2]
    cases x
    · by_cases c1 : cl < 1 <;> by_cases c2 : cl > 200 <;> by_cases c3 : de < 1 <;> by_cases c4 : de > 200 <;> simp [c1, c2, c3, c4]
    · simp
  have j0 : ∀ x, aircraft_Check.j0 (k + 4) x s wk ce cl de sl fa = some (if x = true then 1 else if ce < 1 ∨ ce > 60000 ∨ cl < 1 ∨ cl > 200 ∨ de < 1 ∨ de > 200 then 4 else if sl < 1 ∨ sl > 400 ∨ fa < 1 ∨ fa > 400 then 4 else if sl > fa then 3 else 0) := by
    intro x
    rw [aircraft_Check.j0]
    simp only [j1]
    cases x
    · by_cases c1 : ce < 1 <;> by_cases c2 : ce > 60000 <;> simp [c1, c2]
    · simp
  simp only [j0]
  by_cases c1 : wk < 0 <;> by_cases c2 : wk > 3 <;> simp [c1, c2]
theorem down (k : Nat) (a b : Int) (a1 : -9223372036854775808 ≤ a) (a2 : a ≤ 9223372036854775807) (hb : b ≠ 0) (hno : ¬ (a = -9223372036854775808 ∧ b = -1)) : num_DivDown.f (k + 1) a b = some (Int.fdiv a b, 0) := by
  obtain ⟨r1, r2⟩ := fdiv_range a1 a2 hb hno
  have hf := tdiv_floor a b hb
  have main : num_DivDown.j0 (k + 1) a b false = some (Int.fdiv a b, 0) := by
    rw [num_DivDown.j0, if_neg (by decide), if_neg hb]
    by_cases h0 : Int.tmod a b = 0
    · rw [if_pos h0] at hf ⊢
      rw [hf, w64 r1 r2]
    · rw [if_neg h0] at hf ⊢
      by_cases hs : ((decide (a < 0)) != (decide (b < 0))) = true
      · rw [if_pos hs] at hf ⊢
        have ht : -9223372036854775808 ≤ Int.tdiv a b ∧ Int.tdiv a b ≤ 9223372036854775807 := by
          refine ⟨by omega, ?_⟩
          have h1 := Int.tdiv_nonpos_of_nonneg_of_nonpos (a := a) (b := b)
          by_cases ha : a < 0
          · have hb' : 0 < b := by
              simp [ha] at hs
              omega
            have h2 : Int.tdiv a b ≤ 0 := by
              have := Int.tdiv_nonneg (a := -a) (b := b) (by omega) (by omega)
              rw [Int.neg_tdiv] at this
              omega
            omega
          · have hb' : b < 0 := by
              simp [ha] at hs
              exact hs
            have := h1 (by omega) (by omega)
            omega
        rw [w64 ht.1 ht.2, hf, w64 r1 r2]
      · rw [if_neg hs] at hf ⊢
        rw [hf, w64 r1 r2]
  rw [num_DivDown.f, if_neg hb]
  by_cases ha : a = -9223372036854775808
  · rw [if_pos ha]
    have : (b == -1) = false := beq_eq_false_iff_ne.mpr (fun h => hno ⟨ha, h⟩)
    rw [this]
    exact main
  · rw [if_neg ha]
    exact main
theorem down_pos (k : Nat) (a b : Int) (a1 : -9223372036854775808 ≤ a) (a2 : a ≤ 9223372036854775807) (hb : 0 < b) : num_DivDown.f (k + 1) a b = some (a / b, 0) := by
  rw [down k a b a1 a2 (by omega) (by omega), fdiv_pos hb]
theorem dup (k : Nat) (a b : Int) (a1 : -9223372036854775808 ≤ a) (a2 : a ≤ 9223372036854775807) (hb : b ≠ 0) (hno : ¬ (a = -9223372036854775808 ∧ b = -1)) : num_DivUp.f (k + 1) a b = some (if Int.tmod a b = 0 then Int.fdiv a b else Int.fdiv a b + 1, 0) := by
  rw [num_DivUp.f, down k a b a1 a2 hb hno]
  simp only [Option.bind_some, if_true]
  rw [if_neg hb]
  by_cases h0 : Int.tmod a b = 0
  · rw [if_pos h0, if_pos h0]
  · rw [if_neg h0, if_neg h0]
    obtain ⟨r1, r2⟩ := fdiv_range a1 a2 hb hno
    have : Int.fdiv a b < 9223372036854775807 := by
      rcases Int.lt_or_le (Int.fdiv a b) 9223372036854775807 with h | h
      · exact h
      · exfalso
        have e : Int.fdiv a b = 9223372036854775807 := by omega
        have hm := Int.mul_fdiv_add_fmod a b
        rw [e] at hm
        have hn : Int.fmod a b ≠ 0 := fun h => h0 (Int.dvd_iff_tmod_eq_zero.1 (Int.dvd_iff_fmod_eq_zero.2 h))
        rcases Int.lt_or_le 0 b with hp | hp
        · have := Int.fmod_nonneg_of_pos a hp
          have := Int.fmod_lt_of_pos a hp
          omega
        · have h1 := Int.mul_fdiv_add_fmod (-a) (-b)
          rw [Int.neg_fdiv_neg, e] at h1
          have := Int.fmod_nonneg_of_pos (-a) (show 0 < -b by omega)
          have := Int.fmod_lt_of_pos (-a) (show 0 < -b by omega)
          omega
    rw [w64 (by omega) (by omega)]
theorem up_pos (k : Nat) (a b : Int) (a1 : -9223372036854775808 ≤ a) (a2 : a ≤ 9223372036854775807) (hb : 0 < b) : num_DivUp.f (k + 1) a b = some (if a % b = 0 then a / b else a / b + 1, 0) := by
  rw [dup k a b a1 a2 (by omega) (by omega), fdiv_pos hb]
  have : Int.tmod a b = 0 ↔ a % b = 0 := by rw [← Int.dvd_iff_tmod_eq_zero]; exact Int.dvd_iff_emod_eq_zero
  by_cases h : a % b = 0
  · rw [if_pos h, if_pos (this.2 h)]
  · rw [if_neg h, if_neg (fun g => h (this.1 g))]
def htE (x : Int) : Bool := decide (x < 0) || decide (x > 60000)
theorem h1_l (ce : Int) (nm : ByteArray) (wk cl de sl fa : Int) (l : List Int) (hl : l.length ≤ 1000) : ∀ (d k i : Nat), i + d = l.length → d + 1 ≤ k →
    aircraft_heights.l1 k l (l.length : Int) (i : Int) nm wk ce cl de sl fa = some (if (l.drop i).any (fun h => decide (h > ce)) = true then 20 else 0)
  | 0, k, i, hi, hk => by
    obtain ⟨k, rfl⟩ : ∃ m, k = m + 1 := ⟨k - 1, by omega⟩
    rw [aircraft_heights.l1, if_neg (by omega), List.drop_eq_nil_of_le (by omega)]
    rfl
  | d + 1, k, i, hi, hk => by
    obtain ⟨k, rfl⟩ : ∃ m, k = m + 1 := ⟨k - 1, by omega⟩
    have hlt : i < l.length := by omega
    have hrd : rd l (i : Int) = l[i] := by unfold rd; rw [Int.toNat_natCast, List.getD_eq_getElem?_getD, List.getElem?_eq_getElem hlt]; rfl
    rw [aircraft_heights.l1, if_pos (by omega), if_pos (by omega), if_pos (by omega), hrd, List.drop_eq_getElem_cons hlt, List.any_cons]
    by_cases c : l[i] > ce
    · rw [if_pos c, decide_eq_true c]; rfl
    · rw [if_neg c, decide_eq_false c, w64 (x := (i : Int) + 1) (by omega) (by omega), show (i : Int) + 1 = ((i + 1 : Nat) : Int) by omega, h1_l ce nm wk cl de sl fa l hl d k (i + 1) (by omega) (by omega)]
      rfl
theorem h0_l (ce : Int) (nm : ByteArray) (wk cl de sl fa : Int) (l : List Int) (hl : l.length ≤ 1000) : ∀ (d k i : Nat), i + d = l.length → d + 1 + l.length + 1 ≤ k →
    aircraft_heights.l0 k l l (l.length : Int) (i : Int) nm wk ce cl de sl fa = some (if (l.drop i).any htE = true then 4 else if l.any (fun h => decide (h > ce)) = true then 20 else 0)
  | 0, k, i, hi, hk => by
    obtain ⟨k, rfl⟩ : ∃ m, k = m + 1 := ⟨k - 1, by omega⟩
    have h := h1_l ce nm wk cl de sl fa l hl l.length k 0 (by omega) (by omega)
    rw [List.drop_zero] at h
    rw [aircraft_heights.l0, if_neg (by omega), List.drop_eq_nil_of_le (by omega), if_neg (by decide)]
    exact h
  | d + 1, k, i, hi, hk => by
    obtain ⟨k, rfl⟩ : ∃ m, k = m + 1 := ⟨k - 1, by omega⟩
    have hlt : i < l.length := by omega
    have hrd : rd l (i : Int) = l[i] := by unfold rd; rw [Int.toNat_natCast, List.getD_eq_getElem?_getD, List.getElem?_eq_getElem hlt]; rfl
    rw [aircraft_heights.l0, if_pos (by omega), if_pos (by omega), if_pos (by omega), hrd, List.drop_eq_getElem_cons hlt, List.any_cons]
    by_cases c : l[i] < 0
    · rw [if_pos c, show htE l[i] = true by unfold htE; rw [decide_eq_true c]; rfl]; rfl
    rw [if_neg c]
    by_cases c2 : l[i] > 60000
    · rw [if_pos c2, show htE l[i] = true by unfold htE; rw [decide_eq_true c2, Bool.or_true]]; rfl
    · rw [if_neg c2, show htE l[i] = false by unfold htE; rw [decide_eq_false c, decide_eq_false c2]; rfl, w64 (x := (i : Int) + 1) (by omega) (by omega), show (i : Int) + 1 = ((i + 1 : Nat) : Int) by omega, h0_l ce nm wk cl de sl fa l hl d k (i + 1) (by omega) (by omega)]
      rfl
theorem heights_f (nm : ByteArray) (wk ce cl de sl fa : Int) (l : List Int) (hl : l.length ≤ 10) {e : Int} (he : ∀ k, 20 ≤ k → aircraft_Check.f k nm wk ce cl de sl fa = some e) (k : Nat) (hk : 50 ≤ k) :
    aircraft_heights.f k nm wk ce cl de sl fa l = some (if e = 0 then (if l.any htE = true then 4 else if l.any (fun h => decide (h > ce)) = true then 20 else 0) else e) := by
  unfold aircraft_heights.f
  rw [he k (by omega), Option.bind_some]
  by_cases c : e = 0
  · rw [if_pos c, if_pos c]
    have h := h0_l ce nm wk cl de sl fa l (by omega) l.length k 0 (by omega) (by omega)
    rw [List.drop_zero] at h
    exact h
  · rw [if_neg c, if_neg c]
theorem mx_def (a b : Int) : a ≤ mx a b ∧ b ≤ mx a b ∧ (mx a b = a ∨ mx a b = b) := by
  unfold mx
  split
  · exact ⟨by omega, by omega, Or.inr rfl⟩
  · exact ⟨by omega, by omega, Or.inl rfl⟩
theorem mn_def (a b : Int) : mn a b ≤ a ∧ mn a b ≤ b ∧ (mn a b = a ∨ mn a b = b) := by
  unfold mn
  split
  · exact ⟨by omega, by omega, Or.inr rfl⟩
  · exact ⟨by omega, by omega, Or.inl rfl⟩
/-- Whether a quotient, rounded up, is at most s. -/
theorem up_le {z d s : Int} (hd : 0 < d) : (if z % d = 0 then z / d else z / d + 1) ≤ s ↔ z ≤ s * d := by
  have h1 := Int.ediv_mul_add_emod z d
  have h2 := Int.emod_nonneg z (show d ≠ 0 by omega)
  have h3 := Int.emod_lt_of_pos z hd
  constructor
  · intro h
    by_cases c : z % d = 0
    · rw [if_pos c] at h
      have := Int.mul_le_mul_of_nonneg_right h (Int.le_of_lt hd)
      omega
    · rw [if_neg c] at h
      have h4 := Int.mul_le_mul_of_nonneg_right h (Int.le_of_lt hd)
      rw [Int.add_mul, Int.one_mul] at h4
      omega
  · intro h
    rcases Int.lt_or_le s (if z % d = 0 then z / d else z / d + 1) with g | g
    · exfalso
      by_cases c : z % d = 0
      · rw [if_pos c] at g
        have h4 := Int.mul_le_mul_of_nonneg_right (show s + 1 ≤ z / d by omega) (Int.le_of_lt hd)
        rw [Int.add_mul, Int.one_mul] at h4
        omega
      · rw [if_neg c] at g
        have h4 := Int.mul_le_mul_of_nonneg_right (show s ≤ z / d by omega) (Int.le_of_lt hd)
        omega
    · exact g
theorem works (k : Nat) (hk : 60 ≤ k) : skywaykeep1_aircraftWorks.f k = some true := by
  have h : skywaykeep1_aircraftWorks.f 60 = some true := by decide +kernel
  exact at_rounds skywaykeep1_aircraftWorks.mono hk h
theorem reach_f (nm : ByteArray) (wk ce cl de sl fa a s : Int) {e : Int} (he : aircraft_heights.f 60 nm wk ce cl de sl fa [a] = some e) (k : Nat) (hk : 60 ≤ k) :
    aircraft_Reach.f k nm wk ce cl de sl fa a s = some (if (e = 0 ∨ e = 20) ∧ (s < 0 ∨ s > 200000) then (0, 0, 4) else if e = 0 then (mx 0 (wrap64 (a - wrap64 (s * de))), mn ce (wrap64 (a + wrap64 (s * cl))), 0) else (0, 0, e)) := by
  obtain ⟨k, rfl⟩ : ∃ m, k = m + 3 := ⟨k - 3, by omega⟩
  have he' : aircraft_heights.f (k + 3) nm wk ce cl de sl fa [a] = some e := at_rounds (fun q => aircraft_heights.mono _ _ _ _ _ _ _ _ q) hk he
  have j1 : ∀ x, aircraft_Reach.j1 (k + 2) a s e x nm wk ce cl de sl fa = some (if x = true then (0, 0, 4) else if e = 0 then (mx 0 (wrap64 (a - wrap64 (s * de))), mn ce (wrap64 (a + wrap64 (s * cl))), 0) else (0, 0, e)) := by
    intro x
    rw [aircraft_Reach.j1]
    cases x
    · simp only [Bool.false_eq_true, if_false]; split <;> rfl
    · rfl
  have j0 : ∀ x, aircraft_Reach.j0 (k + 3) a s e x nm wk ce cl de sl fa = some (if x = true ∧ (s < 0 ∨ s > 200000) then (0, 0, 4) else if e = 0 then (mx 0 (wrap64 (a - wrap64 (s * de))), mn ce (wrap64 (a + wrap64 (s * cl))), 0) else (0, 0, e)) := by
    intro x
    rw [aircraft_Reach.j0, j1, j1]
    cases x
    · simp only [Bool.false_eq_true, if_false, false_and]; split <;> rfl
    · rw [if_pos rfl]
      by_cases c1 : s < 0
      · rw [if_pos c1, if_pos rfl, if_pos ⟨rfl, Or.inl c1⟩]
      · rw [if_neg c1]
        by_cases c2 : s > 200000
        · rw [decide_eq_true c2, if_pos rfl, if_pos ⟨rfl, Or.inr c2⟩]
        · rw [decide_eq_false c2, if_neg (show ¬ (false = true) by decide), if_neg (show ¬ (true = true ∧ (s < 0 ∨ s > 200000)) from fun h => h.2.elim c1 c2)]
  unfold aircraft_Reach.f
  rw [he', Option.bind_some, j0, j0]
  by_cases c : e = 0
  · rw [if_pos c]
    by_cases c2 : s < 0 ∨ s > 200000
    · rw [if_pos ⟨rfl, c2⟩, if_pos ⟨Or.inl c, c2⟩]
    · rw [if_neg (show ¬ (true = true ∧ (s < 0 ∨ s > 200000)) from fun h => c2 h.2), if_neg (show ¬ ((e = 0 ∨ e = 20) ∧ (s < 0 ∨ s > 200000)) from fun h => c2 h.2)]
  · rw [if_neg c]
    by_cases c2 : s < 0 ∨ s > 200000
    · by_cases c3 : e = 20
      · rw [if_pos ⟨by rw [c3]; rfl, c2⟩, if_pos ⟨Or.inr c3, c2⟩]
      · rw [if_neg (show ¬ ((e == 20) = true ∧ (s < 0 ∨ s > 200000)) from fun h => c3 (beq_iff_eq.1 h.1)), if_neg (show ¬ ((e = 0 ∨ e = 20) ∧ (s < 0 ∨ s > 200000)) from fun h => h.1.elim c c3)]
    · rw [if_neg (show ¬ ((e == 20) = true ∧ (s < 0 ∨ s > 200000)) from fun h => c2 h.2), if_neg (show ¬ ((e = 0 ∨ e = 20) ∧ (s < 0 ∨ s > 200000)) from fun h => c2 h.2)]
theorem any1 {p : Int → Bool} {a : Int} (h : ¬ [a].any p = true) : p a = false := by
  rw [List.any_cons, List.any_nil, Bool.or_false] at h
  exact Bool.eq_false_iff.mpr h
theorem any2 {p : Int → Bool} {a b : Int} (h : ¬ [a, b].any p = true) : p a = false ∧ p b = false := by
  rw [List.any_cons, List.any_cons, List.any_nil, Bool.or_false, Bool.or_eq_true] at h
  exact ⟨Bool.eq_false_iff.mpr (fun g => h (Or.inl g)), Bool.eq_false_iff.mpr (fun g => h (Or.inr g))⟩
theorem htE_no {x : Int} (h : htE x = false) : 0 ≤ x ∧ x ≤ 60000 := by
  unfold htE at h
  rw [Bool.or_eq_false_iff, decide_eq_false_iff_not, decide_eq_false_iff_not] at h
  omega
/-- A type whose check finds nothing. -/
def KOk (ce cl de : Int) : Prop := 1 ≤ ce ∧ ce ≤ 60000 ∧ 1 ≤ cl ∧ cl ≤ 200 ∧ 1 ≤ de ∧ de ≤ 200
theorem reach_ex (nm : ByteArray) (wk ce cl de sl fa a s : Int) : ∃ R, aircraft_Reach.f 100 nm wk ce cl de sl fa a s = some R ∧
    ((R.2.2 ≠ 0 ∧ R.1 = 0 ∧ R.2.1 = 0) ∨ (R = (mx 0 (wrap64 (a - wrap64 (s * de))), mn ce (wrap64 (a + wrap64 (s * cl))), 0) ∧ KOk ce cl de ∧ (0 ≤ a ∧ a ≤ ce) ∧ 0 ≤ s ∧ s ≤ 200000)) := by
  obtain ⟨nb, hc⟩ := check_k nm wk ce cl de sl fa
  have hh := heights_f nm wk ce cl de sl fa [a] (by simp) hc 60 (by decide)
  refine ⟨_, reach_f nm wk ce cl de sl fa a s hh 100 (by decide), ?_⟩
  by_cases c0 : chk nb wk ce cl de sl fa = 0
  · obtain ⟨_, _, _, k1, k2, k3, k4, k5, k6, _, _, _⟩ := chk_zero c0
    rw [if_pos c0]
    by_cases cA : ([a].any htE) = true
    · rw [if_pos cA, if_neg (by omega), if_neg (by decide)]
      exact Or.inl ⟨by decide, rfl, rfl⟩
    rw [if_neg cA]
    by_cases cE : ([a].any fun h => decide (h > ce)) = true
    · rw [if_pos cE]
      by_cases cs : s < 0 ∨ s > 200000
      · rw [if_pos ⟨Or.inr rfl, cs⟩]
        exact Or.inl ⟨by decide, rfl, rfl⟩
      · rw [if_neg (fun h => cs h.2), if_neg (by decide)]
        exact Or.inl ⟨by decide, rfl, rfl⟩
    rw [if_neg cE]
    have h1 := htE_no (any1 cA)
    have h2 := of_decide_eq_false (any1 cE)
    by_cases cs : s < 0 ∨ s > 200000
    · rw [if_pos ⟨Or.inl rfl, cs⟩]
      exact Or.inl ⟨by decide, rfl, rfl⟩
    · rw [if_neg (fun h => cs h.2), if_pos rfl]
      exact Or.inr ⟨rfl, ⟨k1, k2, k3, k4, k5, k6⟩, ⟨h1.1, by omega⟩, by omega, by omega⟩
  · rw [if_neg c0]
    by_cases cs : (chk nb wk ce cl de sl fa = 0 ∨ chk nb wk ce cl de sl fa = 20) ∧ (s < 0 ∨ s > 200000)
    · rw [if_pos cs]
      exact Or.inl ⟨by decide, rfl, rfl⟩
    · rw [if_neg cs, if_neg c0]
      exact Or.inl ⟨c0, rfl, rfl⟩
def upq (z d : Int) : Int := if z % d = 0 then z / d else z / d + 1
theorem climb_ex (nm : ByteArray) (wk ce cl de sl fa a b : Int) : ∃ C, aircraft_Climb.f 100 nm wk ce cl de sl fa a b = some C ∧
    ((C.2 ≠ 0 ∧ C.1 = 0) ∨ (C = (if b ≥ a then upq (b - a) cl else upq (a - b) de, 0) ∧ KOk ce cl de ∧ (0 ≤ a ∧ a ≤ ce) ∧ 0 ≤ b ∧ b ≤ ce)) := by
  obtain ⟨nb, hc⟩ := check_k nm wk ce cl de sl fa
  have hh2 := heights_f nm wk ce cl de sl fa [a, b] (by simp) hc 100 (by decide)
  unfold aircraft_Climb.f
  rw [hh2, Option.bind_some]
  by_cases c0 : chk nb wk ce cl de sl fa = 0
  · obtain ⟨_, _, _, k1, k2, k3, k4, k5, k6, _, _, _⟩ := chk_zero c0
    rw [if_pos c0]
    by_cases cA : ([a, b].any htE) = true
    · rw [if_pos cA, if_neg (by decide)]
      exact ⟨_, rfl, Or.inl ⟨by decide, rfl⟩⟩
    rw [if_neg cA]
    by_cases cE : ([a, b].any fun h => decide (h > ce)) = true
    · rw [if_pos cE, if_neg (by decide)]
      exact ⟨_, rfl, Or.inl ⟨by decide, rfl⟩⟩
    rw [if_neg cE, if_pos rfl]
    obtain ⟨g1, g2⟩ := any2 cA
    obtain ⟨g3, g4⟩ := any2 cE
    have h1 := htE_no g1
    have h2 := htE_no g2
    have h3 := of_decide_eq_false g3
    have h4 := of_decide_eq_false g4
    have fin : KOk ce cl de ∧ (0 ≤ a ∧ a ≤ ce) ∧ 0 ≤ b ∧ b ≤ ce := ⟨⟨k1, k2, k3, k4, k5, k6⟩, ⟨h1.1, by omega⟩, h2.1, by omega⟩
    by_cases cm : b ≥ a
    · rw [if_pos cm, if_pos cm, w64 (x := b - a) (by omega) (by omega), up_pos 99 (b - a) cl (by omega) (by omega) (by omega), Option.bind_some]
      exact ⟨_, rfl, Or.inr ⟨rfl, fin⟩⟩
    · rw [if_neg cm, if_neg cm, w64 (x := a - b) (by omega) (by omega), up_pos 99 (a - b) de (by omega) (by omega) (by omega), Option.bind_some]
      exact ⟨_, rfl, Or.inr ⟨rfl, fin⟩⟩
  · rw [if_neg c0, if_neg c0]
    exact ⟨_, rfl, Or.inl ⟨c0, rfl⟩⟩
theorem AircraftReach : skywaykeep1_AircraftReach.Pure := by
  intro nm wk ce cl de sl fa a b s _ _ _ _ _ _ _ ha hb hs
  rw [wf64] at ha hb hs
  refine ⟨100, ?_⟩
  unfold skywaykeep1_AircraftReach.f
  rw [works 100 (by decide), Option.bind_some, if_pos rfl]
  obtain ⟨R, hR, r⟩ := reach_ex nm wk ce cl de sl fa a s
  obtain ⟨C, hC, c⟩ := climb_ex nm wk ce cl de sl fa a b
  rw [hR, Option.bind_some, hC, Option.bind_some]
  rcases r with ⟨r1, r2, r3⟩ | ⟨rfl, ⟨k1, k2, k3, k4, k5, k6⟩, ⟨a1, a2⟩, s1, s2⟩
  · rw [if_neg r1, if_pos r2, if_pos r3]
    rcases c with ⟨c1, c2⟩ | ⟨rfl, _⟩
    · rw [if_neg c1, c2]; rfl
    · rw [if_pos rfl]
  · dsimp only
    rw [if_pos rfl]
    rcases c with ⟨c1, c2⟩ | ⟨rfl, _, _, b1, b2⟩
    · rw [if_neg c1, c2]; rfl
    · dsimp only
      rw [if_pos rfl]
      have d1 : 0 ≤ s * de ∧ s * de ≤ 200000 * 200 := ⟨Int.mul_nonneg s1 (by omega), Int.mul_le_mul s2 k6 (by omega) (by decide)⟩
      have d2 : 0 ≤ s * cl ∧ s * cl ≤ 200000 * 200 := ⟨Int.mul_nonneg s1 (by omega), Int.mul_le_mul s2 k4 (by omega) (by decide)⟩
      rw [w64 (x := s * de) (by omega) (by omega), w64 (x := s * cl) (by omega) (by omega), w64 (x := a - s * de) (by omega) (by omega), w64 (x := a + s * cl) (by omega) (by omega)]
      obtain ⟨m1, m2, m3⟩ := mx_def 0 (a - s * de)
      obtain ⟨n1, n2, n3⟩ := mn_def ce (a + s * cl)
      rw [if_pos (by omega), if_pos (by omega)]
      by_cases cm : b ≥ a
      · have hu : (upq (b - a) cl ≤ s) ↔ (b - a ≤ s * cl) := up_le (by omega)
        rw [if_pos cm, if_pos (by omega)]
        congr 1
        rw [beq_iff_eq]
        exact decide_eq_decide.2 (by omega)
      · have hu : (upq (a - b) de ≤ s) ↔ (a - b ≤ s * de) := up_le (by omega)
        rw [if_neg cm]
        by_cases cl2 : mx 0 (a - s * de) ≤ b
        · rw [if_pos cl2]
          congr 1
          rw [beq_iff_eq]
          exact decide_eq_decide.2 (by omega)
        · rw [if_neg cl2, decide_eq_false (by omega)]
          rfl
end Go.Proofs.YtfchcleochphoaaDoor.Pure
