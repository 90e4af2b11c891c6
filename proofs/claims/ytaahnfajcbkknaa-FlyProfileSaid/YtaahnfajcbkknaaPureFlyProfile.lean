/- FlyProfile: for all types, heights and times a flight's height starts and ends at 0, is never above the planned one, and a second later is within reach of one second's climb or descent. -/
import Derived.Test.YtaahnfajcbkknaaPFlyProfilex
import Derived.Test.YtaahnfajcbkknaaMath
namespace Go.Proofs.Ytaahnfajcbkknaa.Pure
open Go Go.RowKit Go.Proofs.Ytaahnfajcbkknaa.PFlyProfile Go.Proofs.YtaahnfajcbkknaaW.PrintWords Go.Proofs.YtaahnfajcbkknaaW.PrintLast Go.Proofs.YtaahnfajcbkknaaW.PrintMore Go.Proofs.YtaahnfajcbkknaaM

theorem down (k : Nat) (a b : Int) (a1 : -9223372036854775808 ≤ a) (a2 : a ≤ 9223372036854775807) (hb : b ≠ 0) (hno : ¬ (a = -9223372036854775808 ∧ b = -1)) : num_DivDown.f (k + 1) a b = some (Int.fdiv a b, 0) := by
  obtain ⟨r1, r2⟩ := fdiv_range a1 a2 hb hno
  have hf := tdiv_floor a b hb
  have main : num_DivDown.j0 (k + 1) a b false = some (Int.fdiv a b, 0) := by
    rw [num_DivDown.j0, if_neg (by decide), if_neg hb]
    by_cases h0 : Int.tmod a b = 0
    · rw [if_pos h0] at hf ⊢
      rw [hf, w64 r1 r2]
    · rw [if_neg h0] at hf ⊢
      by_cases hs : ((decide (a < 0)) != (decide (b < 0))) = true
      · rw [if_pos hs] at hf ⊢
        have ht : -9223372036854775808 ≤ Int.tdiv a b ∧ Int.tdiv a b ≤ 9223372036854775807 := by
          refine ⟨by omega, ?_⟩
          have h1 := Int.tdiv_nonpos_of_nonneg_of_nonpos (a := a) (b := b)
          by_cases ha : a < 0
          · have hb' : 0 < b := by
              simp [ha] at hs
              omega
            have h2 : Int.tdiv a b ≤ 0 := by
              have := Int.tdiv_nonneg (a := -a) (b := b) (by omega) (by omega)
              rw [Int.neg_tdiv] at this
              omega
            omega
          · have hb' : b < 0 := by
              simp [ha] at hs
              exact hs
            have := h1 (by omega) (by omega)
            omega
        rw [w64 ht.1 ht.2, hf, w64 r1 r2]
      · rw [if_neg hs] at hf ⊢
        rw [hf, w64 r1 r2]
  rw [num_DivDown.f, if_neg hb]
  by_cases ha : a = -9223372036854775808
  · rw [if_pos ha]
    have : (b == -1) = false := beq_eq_false_iff_ne.mpr (fun h => hno ⟨ha, h⟩)
    rw [this]
    exact main
  · rw [if_neg ha]
    exact main
theorem down_pos (k : Nat) (a b : Int) (a1 : -9223372036854775808 ≤ a) (a2 : a ≤ 9223372036854775807) (hb : 0 < b) : num_DivDown.f (k + 1) a b = some (a / b, 0) := by
  rw [down k a b a1 a2 (by omega) (by omega), fdiv_pos hb]
theorem up (k : Nat) (a b : Int) (a1 : -9223372036854775808 ≤ a) (a2 : a ≤ 9223372036854775807) (hb : b ≠ 0) (hno : ¬ (a = -9223372036854775808 ∧ b = -1)) : num_DivUp.f (k + 1) a b = some (if Int.tmod a b = 0 then Int.fdiv a b else Int.fdiv a b + 1, 0) := by
  rw [num_DivUp.f, down k a b a1 a2 hb hno]
  simp only [Option.bind_some, if_true]
  rw [if_neg hb]
  by_cases h0 : Int.tmod a b = 0
  · rw [if_pos h0, if_pos h0]
  · rw [if_neg h0, if_neg h0]
    obtain ⟨r1, r2⟩ := fdiv_range a1 a2 hb hno
    have : Int.fdiv a b < 9223372036854775807 := by
      rcases Int.lt_or_le (Int.fdiv a b) 9223372036854775807 with h | h
      · exact h
      · exfalso
        have e : Int.fdiv a b = 9223372036854775807 := by omega
        have hm := Int.mul_fdiv_add_fmod a b
        rw [e] at hm
        have hn : Int.fmod a b ≠ 0 := fun h => h0 (Int.dvd_iff_tmod_eq_zero.1 (Int.dvd_iff_fmod_eq_zero.2 h))
        rcases Int.lt_or_le 0 b with hp | hp
        · have := Int.fmod_nonneg_of_pos a hp
          have := Int.fmod_lt_of_pos a hp
          omega
        · have h1 := Int.mul_fdiv_add_fmod (-a) (-b)
          rw [Int.neg_fdiv_neg, e] at h1
          have := Int.fmod_nonneg_of_pos (-a) (show 0 < -b by omega)
          have := Int.fmod_lt_of_pos (-a) (show 0 < -b by omega)
          omega
    rw [w64 (by omega) (by omega)]
theorem up_pos (k : Nat) (a b : Int) (a1 : -9223372036854775808 ≤ a) (a2 : a ≤ 9223372036854775807) (hb : 0 < b) : num_DivUp.f (k + 1) a b = some (if a % b = 0 then a / b else a / b + 1, 0) := by
  rw [up k a b a1 a2 (by omega) (by omega), fdiv_pos hb]
  have : Int.tmod a b = 0 ↔ a % b = 0 := by rw [← Int.dvd_iff_tmod_eq_zero]; exact Int.dvd_iff_emod_eq_zero
  by_cases h : a % b = 0
  · rw [if_pos h, if_pos (this.2 h)]
  · rw [if_neg h, if_neg (fun g => h (this.1 g))]
theorem name_l0 (s : ByteArray) : ∀ (d i : Nat), i + d = s.size → s.size ≤ 8 → ∃ b, chart_Name.l0 (d + 1) s (s.size : Int) (i : Int) = some b
  | 0, i, h, _ => ⟨true, by rw [chart_Name.l0, if_neg (by omega)]⟩
  | d + 1, i, h, h8 => by
    obtain ⟨b, hb⟩ := name_l0 s d (i + 1) (by omega) h8
    have hw : wrap64 ((i : Int) + 1) = ((i + 1 : Nat) : Int) := by rw [w64 (by omega) (by omega)]; omega
    rw [chart_Name.l0, if_pos (by omega), if_pos (by omega), if_pos (by omega), hw, hb]
    (repeat' split) <;> exact ⟨_, rfl⟩
theorem name_some (s : ByteArray) : ∃ b, ∀ k, 10 ≤ k → chart_Name.f k s = some b := by
  have key : ∃ b, chart_Name.f 10 s = some b := by
    unfold chart_Name.f
    by_cases h0 : (s.size : Int) = 0
    · rw [if_pos h0, chart_Name.j0, if_pos rfl]; exact ⟨_, rfl⟩
    · rw [if_neg h0]
      by_cases h8 : (s.size : Int) > 8
      · rw [if_pos h8, chart_Name.j0, if_pos rfl]; exact ⟨_, rfl⟩
      · rw [if_neg h8, if_pos (by omega)]
        obtain ⟨b, hb⟩ := name_l0 s s.size 0 (by omega) (by omega)
        have hb9 : chart_Name.l0 9 s (s.size : Int) 0 = some b := at_rounds (g := fun k => chart_Name.l0 k s (s.size : Int) 0) (fun k => (chart_Name.mono_l k).2 _ _ _) (show s.size + 1 ≤ 9 by omega) hb
        rw [chart_Name.j0, chart_Name.j0, hb9]
        (repeat' split) <;> exact ⟨_, rfl⟩
  obtain ⟨b, hb⟩ := key
  exact ⟨b, fun k hk => at_rounds (chart_Name.mono s) hk hb⟩
/-- What a type's check answers. -/
def chk (b : Bool) (wk ce cl de sl fa : Int) : Int :=
  if b = true then (if wk < 0 ∨ wk > 3 then 1 else if ce < 1 ∨ ce > 60000 ∨ cl < 1 ∨ cl > 200 ∨ de < 1 ∨ de > 200 then 4 else if sl < 1 ∨ sl > 400 ∨ fa < 1 ∨ fa > 400 then 4 else if sl > fa then 3 else 0) else 5
theorem chk_zero {b : Bool} {wk ce cl de sl fa : Int} (h : chk b wk ce cl de sl fa = 0) : b = true ∧ 0 ≤ wk ∧ wk ≤ 3 ∧ 1 ≤ ce ∧ ce ≤ 60000 ∧ 1 ≤ cl ∧ cl ≤ 200 ∧ 1 ≤ de ∧ de ≤ 200 ∧ 1 ≤ sl ∧ sl ≤ fa ∧ fa ≤ 400 := by
  unfold chk at h
  cases b
  · simp at h
  · simp only [if_true] at h
    by_cases c1 : wk < 0 ∨ wk > 3
    · rw [if_pos c1] at h; omega
    rw [if_neg c1] at h
    by_cases c2 : ce < 1 ∨ ce > 60000 ∨ cl < 1 ∨ cl > 200 ∨ de < 1 ∨ de > 200
    · rw [if_pos c2] at h; omega
    rw [if_neg c2] at h
    by_cases c3 : sl < 1 ∨ sl > 400 ∨ fa < 1 ∨ fa > 400
    · rw [if_pos c3] at h; omega
    rw [if_neg c3] at h
    by_cases c4 : sl > fa
    · rw [if_pos c4] at h; omega
    exact ⟨rfl, by omega, by omega, by omega, by omega, by omega, by omega, by omega, by omega, by omega, by omega, by omega⟩
theorem check_k (s : ByteArray) (wk ce cl de sl fa : Int) : ∃ b, ∀ k, 20 ≤ k → aircraft_Check.f k s wk ce cl de sl fa = some (chk b wk ce cl de sl fa) := by
  obtain ⟨b, hb⟩ := name_some s
  refine ⟨b, fun k hk => ?_⟩
  obtain ⟨k, rfl⟩ : ∃ m, k = m + 4 := ⟨k - 4, by omega⟩
  unfold aircraft_Check.f chk
  rw [hb _ (by omega), Option.bind_some]
  cases b
  · rfl
  rw [if_pos rfl, if_pos rfl]
  have j3 : ∀ k x, aircraft_Check.j3 (k + 1) x s wk ce cl de sl fa = some (if x = true then 4 else if sl > fa then 3 else 0) := by
    intro k x; rw [aircraft_Check.j3]; (repeat' split) <;> rfl
  have j2 : ∀ k x, aircraft_Check.j2 (k + 2) x s wk ce cl de sl fa = some (if x = true then 4 else if sl < 1 ∨ sl > 400 ∨ fa < 1 ∨ fa > 400 then 4 else if sl > fa then 3 else 0) := by
    intro k x
    rw [aircraft_Check.j2]
    simp only [j3]
    cases x
    · by_cases c1 : sl < 1 <;> by_cases c2 : sl > 400 <;> by_cases c3 : fa < 1 <;> by_cases c4 : fa > 400 <;> simp [c1, c2, c3, c4]
    · simp
  have j1 : ∀ k x, aircraft_Check.j1 (k + 3) x s wk ce cl de sl fa = some (if x = true ∨ cl < 1 ∨ cl > 200 ∨ de < 1 ∨ de > 200 then 4 else if sl < 1 ∨ sl > 400 ∨ fa < 1 ∨ fa > 400 then 4 else if sl > fa then 3 else 0) := by
    intro k x
    rw [aircraft_Check.j1]
    simp only [j2]
    cases x
    · by_cases c1 : cl < 1 <;> by_cases c2 : cl > 200 <;> by_cases c3 : de < 1 <;> by_cases c4 : de > 200 <;> simp [c1, c2, c3, c4]
    · simp
  have j0 : ∀ x, aircraft_Check.j0 (k + 4) x s wk ce cl de sl fa = some (if x = true then 1 else if ce < 1 ∨ ce > 60000 ∨ cl < 1 ∨ cl > 200 ∨ de < 1 ∨ de > 200 then 4 else if sl < 1 ∨ sl > 400 ∨ fa < 1 ∨ fa > 400 then 4 else if sl > fa then 3 else 0) := by
    intro x
    rw [aircraft_Check.j0]
    simp only [j1]
    cases x
    · by_cases c1 : ce < 1 <;> by_cases c2 : ce > 60000 <;> simp [c1, c2]
    · simp
  simp only [j0]
  by_cases c1 : wk < 0 <;> by_cases c2 : wk > 3 <;> simp [c1, c2]
theorem flyWorks (k : Nat) (hk : 60 ≤ k) : skywaykeep1_flyWorks.f k = some true := by
  have h : skywaykeep1_flyWorks.f 60 = some true := by decide +kernel
  exact at_rounds skywaykeep1_flyWorks.mono hk h
theorem profile (k : Nat) (hk : 20 ≤ k) {s : ByteArray} {wk ce cl de sl fa : Int} {b : Bool} (hc : ∀ k, 20 ≤ k → aircraft_Check.f k s wk ce cl de sl fa = some (chk b wk ce cl de sl fa)) (h0 : chk b wk ce cl de sl fa = 0)
    {h t a : Int} (g1 : h ≤ ce) (g2 : 0 ≤ h) (g3 : 0 ≤ t) (g4 : t ≤ 200000) (g5 : 0 ≤ a) (g6 : a ≤ t) : fly_Profile.f k s wk ce cl de sl fa h t a = some (mn (mn h (cl * a)) (de * (t - a)), 0) := by
  obtain ⟨_, _, _, c1, c2, c3, c4, c5, c6, _, _, _⟩ := chk_zero h0
  have m1 := mul_bd (show -200 ≤ cl by omega) c4 (show -200000 ≤ a by omega) (show a ≤ 200000 by omega)
  have m2 := mul_bd (show -200 ≤ de by omega) c6 (show -200000 ≤ t - a by omega) (show t - a ≤ 200000 by omega)
  unfold fly_Profile.f
  rw [hc k hk, h0, Option.bind_some, if_pos rfl, if_neg (by omega), if_neg (by omega), if_neg (by omega), if_neg (by omega), if_neg (by omega), if_neg (by omega), w64 (x := t - a) (by omega) (by omega), w64 (x := cl * a) (by omega) (by omega), w64 (x := de * (t - a)) (by omega) (by omega)]
theorem heights (k : Nat) (hk : 20 ≤ k) {s : ByteArray} {wk ce cl de sl fa : Int} {b : Bool} (hc : ∀ k, 20 ≤ k → aircraft_Check.f k s wk ce cl de sl fa = some (chk b wk ce cl de sl fa)) (h0 : chk b wk ce cl de sl fa = 0)
    {x y : Int} (x1 : 0 ≤ x) (x2 : x ≤ ce) (y1 : 0 ≤ y) (y2 : y ≤ ce) : aircraft_heights.f k s wk ce cl de sl fa [x, y] = some 0 := by
  obtain ⟨_, _, _, c1, c2, _⟩ := chk_zero h0
  unfold aircraft_heights.f
  rw [hc k hk, h0, Option.bind_some, if_pos rfl]
  obtain ⟨k, rfl⟩ : ∃ m, k = m + 6 := ⟨k - 6, by omega⟩
  have r0 : rd [x, y] 0 = x := rfl
  have r1 : rd [x, y] 1 = y := rfl
  have w1 : wrap64 (0 + 1) = 1 := w64 (by decide) (by decide)
  have w2 : wrap64 (1 + 1) = 2 := w64 (by decide) (by decide)
  have e : (([x, y] : List Int).length : Int) = 2 := rfl
  rw [e]
  rw [aircraft_heights.l0, e, if_pos (by decide), if_pos (by decide), if_pos (by decide), r0, if_neg (by omega), if_neg (by omega), w1]
  rw [aircraft_heights.l0, e, if_pos (by decide), if_pos (by decide), if_pos (by decide), r1, if_neg (by omega), if_neg (by omega), w2]
  rw [aircraft_heights.l0, e, if_neg (by decide)]
  rw [aircraft_heights.l1, e, if_pos (by decide), if_pos (by decide), if_pos (by decide), r0, if_neg (by omega), w1]
  rw [aircraft_heights.l1, e, if_pos (by decide), if_pos (by decide), if_pos (by decide), r1, if_neg (by omega), w2]
  rw [aircraft_heights.l1, if_neg (by decide)]
theorem climb_one (k : Nat) (hk : 20 ≤ k) {s : ByteArray} {wk ce cl de sl fa : Int} {b : Bool} (hc : ∀ k, 20 ≤ k → aircraft_Check.f k s wk ce cl de sl fa = some (chk b wk ce cl de sl fa)) (h0 : chk b wk ce cl de sl fa = 0)
    {x y : Int} (x1 : 0 ≤ x) (x2 : x ≤ ce) (y1 : 0 ≤ y) (y2 : y ≤ ce) (u : y - x ≤ cl) (d : x - y ≤ de) : ∃ n, aircraft_Climb.f k s wk ce cl de sl fa x y = some (n, 0) ∧ n ≤ 1 := by
  obtain ⟨_, _, _, c1, c2, c3, c4, c5, c6, _⟩ := chk_zero h0
  have one : ∀ z c : Int, 0 ≤ z → z ≤ c → 0 < c → (if z % c = 0 then z / c else z / c + 1) ≤ 1 := by
    intro z c z0 zc hc
    rcases Int.lt_or_eq_of_le zc with h | h
    · rw [Int.ediv_eq_zero_of_lt z0 h]; split <;> omega
    · subst h
      rw [Int.ediv_self (by omega), Int.emod_self, if_pos rfl]; omega
  unfold aircraft_Climb.f
  rw [heights k hk hc h0 x1 x2 y1 y2, Option.bind_some, if_pos rfl]
  obtain ⟨k, rfl⟩ : ∃ m, k = m + 1 := ⟨k - 1, by omega⟩
  by_cases hge : y ≥ x
  · rw [if_pos hge, w64 (by omega) (by omega), up_pos k (y - x) cl (by omega) (by omega) (by omega), Option.bind_some]
    exact ⟨_, rfl, one _ _ (by omega) u (by omega)⟩
  · rw [if_neg hge, w64 (by omega) (by omega), up_pos k (x - y) de (by omega) (by omega) (by omega), Option.bind_some]
    exact ⟨_, rfl, one _ _ (by omega) d (by omega)⟩
theorem FlyProfile : skywaykeep1_FlyProfile.Pure := by
  intro s wk ce cl de sl fa h t a hs hwk hce hcl hde hsl hfa hh ht ha
  obtain ⟨b, hc⟩ := check_k s wk ce cl de sl fa
  refine ⟨60, ?_⟩
  unfold skywaykeep1_FlyProfile.f
  rw [flyWorks 60 (by decide), Option.bind_some, if_pos rfl]
  by_cases h0 : chk b wk ce cl de sl fa = 0
  rotate_left
  · have e : ∀ h t a, fly_Profile.f 60 s wk ce cl de sl fa h t a = some (0, chk b wk ce cl de sl fa) := by
      intro h t a
      unfold fly_Profile.f
      rw [hc 60 (by decide), Option.bind_some, if_neg h0]
    rw [e, Option.bind_some, if_neg h0]
    rfl
  by_cases hr : h ≤ ce ∧ 0 ≤ h ∧ 0 ≤ t ∧ t ≤ 200000 ∧ 0 ≤ a ∧ a ≤ t
  rotate_left
  · have e : ∃ r, r ≠ 0 ∧ fly_Profile.f 60 s wk ce cl de sl fa h t a = some (0, r) := by
      unfold fly_Profile.f
      rw [hc 60 (by decide), h0, Option.bind_some, if_pos rfl]
      by_cases c1 : h > ce
      · rw [if_pos c1]; exact ⟨_, by decide, rfl⟩
      rw [if_neg c1]
      by_cases c2 : h < 0
      · rw [if_pos c2]; exact ⟨_, by decide, rfl⟩
      rw [if_neg c2]
      by_cases c3 : t < 0
      · rw [if_pos c3]; exact ⟨_, by decide, rfl⟩
      rw [if_neg c3]
      by_cases c4 : t > 200000
      · rw [if_pos c4]; exact ⟨_, by decide, rfl⟩
      rw [if_neg c4]
      by_cases c5 : a < 0
      · rw [if_pos c5]; exact ⟨_, by decide, rfl⟩
      rw [if_neg c5]
      by_cases c6 : a > t
      · rw [if_pos c6]; exact ⟨_, by decide, rfl⟩
      exact absurd ⟨by omega, by omega, by omega, by omega, by omega, by omega⟩ hr
    obtain ⟨r, hr0, he⟩ := e
    rw [he, Option.bind_some, if_neg hr0]
    rfl
  obtain ⟨g1, g2, g3, g4, g5, g6⟩ := hr
  obtain ⟨_, _, _, c1, c2, c3, c4, c5, c6, _⟩ := chk_zero h0
  have pr := fun {x y : Int} (z1 : 0 ≤ x) (z2 : x ≤ t) => profile 60 (by decide) hc h0 g1 g2 g3 g4 z1 z2
  rw [pr (y := 0) g5 g6, pr (y := 0) (Int.le_refl 0) g3, pr (y := 0) g3 (Int.le_refl t), Option.bind_some, Option.bind_some, Option.bind_some, if_pos rfl, if_pos rfl, if_pos rfl]
  have p1 := Int.mul_nonneg (show 0 ≤ cl by omega) g5
  have p2 := Int.mul_nonneg (show 0 ≤ de by omega) (show 0 ≤ t - a by omega)
  have p3 := Int.mul_nonneg (show 0 ≤ cl by omega) g3
  have p4 := Int.mul_nonneg (show 0 ≤ de by omega) g3
  have z1 : mn (mn h (cl * 0)) (de * (t - 0)) = 0 := by rw [Int.mul_zero, Int.sub_zero]; unfold mn; (repeat' split) <;> omega
  have z2 : mn (mn h (cl * t)) (de * (t - t)) = 0 := by rw [Int.sub_self, Int.mul_zero]; unfold mn; (repeat' split) <;> omega
  rw [z1, z2, if_pos rfl, if_pos rfl]
  have hm : 0 ≤ mn (mn h (cl * a)) (de * (t - a)) ∧ mn (mn h (cl * a)) (de * (t - a)) ≤ h := by unfold mn; (repeat' split) <;> omega
  rw [if_neg (by omega), decide_eq_false (by omega), skywaykeep1_FlyProfile.j0, if_neg (by decide)]
  by_cases hat : a = t
  · rw [if_pos hat]
  · rw [if_neg hat, w64 (by omega) (by omega)]
    have e1 : cl * (a + 1) = cl * a + cl := by rw [Int.mul_add, Int.mul_one]
    have e2 : de * (t - (a + 1)) = de * (t - a) - de := by rw [show t - (a + 1) = (t - a) - 1 by omega, Int.mul_sub, Int.mul_one]
    have p5 := Int.mul_nonneg (show 0 ≤ de by omega) (show 0 ≤ t - (a + 1) by omega)
    have hm2 : 0 ≤ mn (mn h (cl * (a + 1))) (de * (t - (a + 1))) ∧ mn (mn h (cl * (a + 1))) (de * (t - (a + 1))) ≤ h := by
      rw [e1]; unfold mn; (repeat' split) <;> omega
    have hu : mn (mn h (cl * (a + 1))) (de * (t - (a + 1))) - mn (mn h (cl * a)) (de * (t - a)) ≤ cl := by
      rw [e1, e2]; unfold mn; (repeat' split) <;> omega
    have hd : mn (mn h (cl * a)) (de * (t - a)) - mn (mn h (cl * (a + 1))) (de * (t - (a + 1))) ≤ de := by
      rw [e1, e2] at *; unfold mn; (repeat' split) <;> omega
    obtain ⟨n, hn, hn1⟩ := climb_one 59 (by decide) hc h0 hm.1 (by omega) hm2.1 (by omega) hu hd
    rw [profile 59 (by decide) hc h0 g1 g2 g3 g4 (by omega) (by omega), Option.bind_some, hn, Option.bind_some, if_pos rfl, if_pos rfl, decide_eq_true hn1]
end Go.Proofs.Ytaahnfajcbkknaa.Pure
