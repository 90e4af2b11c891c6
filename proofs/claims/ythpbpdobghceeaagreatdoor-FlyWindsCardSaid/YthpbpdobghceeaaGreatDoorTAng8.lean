import Derived.Test.YthpbpdobghceeaaGreatDoorTAng6
namespace Go.Proofs.YthpbpdobghceeaaGreatDoor.Ang
open Go Go.RowKit
theorem sinI_half (h : Int) : sinI (h + 2048) = -sinI h := (circ_at h).2.2.1
theorem cosI_half (h : Int) : cosI (h + 2048) = -cosI h := by
  unfold cosI
  rw [show h + 2048 + 1024 = h + 1024 + 2048 by omega]
  exact sinI_half _
theorem cosI_neg (h : Int) : cosI (-h) = cosI h := (circ_at h).2.2.2.1
theorem sinI_quarter (h : Int) : sinI (h + 1024) = cosI h := rfl
theorem cosI_quarter (h : Int) : cosI (h + 1024) = -sinI h := by
  unfold cosI
  rw [show h + 1024 + 1024 = h + 2048 by omega]
  exact sinI_half h
theorem sinI_neg (h : Int) : sinI (-h) = -sinI h := by
  have h1 : sinI (-h) = cosI (-h - 1024) := by unfold cosI; rw [show -h - 1024 + 1024 = -h by omega]
  rw [h1, show -h - 1024 = -(h + 1024) by omega, cosI_neg, cosI_quarter]
theorem cosI_mod {a b : Int} (h : a % 4096 = b % 4096) : cosI a = cosI b := sinI_mod (by omega)
def aft (x y h : Int) : Int := cosI h * x - sinI h * y
theorem aft_mod (x y : Int) {a b : Int} (h : a % 4096 = b % 4096) : aft x y a = aft x y b := by
  unfold aft
  rw [cosI_mod h, sinI_mod h]
theorem aft_half (x y h : Int) : aft x y (h + 2048) = -aft x y h := by
  unfold aft
  rw [cosI_half, sinI_half]
  grind
def crs (i j : Int) : Int := sinI j * cosI i - cosI j * sinI i
def bigs : Nat → Bool
  | 0 => true
  | n + 1 => (n == 0 || decide (25 ≤ sinL n)) && bigs n
theorem bigs_at : ∀ {d : Nat}, bigs d = true → ∀ i, 1 ≤ i → i < d → 25 ≤ sinL i
  | 0, _, i, _, h => absurd h (Nat.not_lt_zero _)
  | n + 1, hb, i, h1, h2 => by
    rw [bigs, Bool.and_eq_true, Bool.or_eq_true] at hb
    by_cases c : i = n
    · subst c
      rcases hb.1 with h | h
      · have := beq_iff_eq.1 h; omega
      · exact of_decide_eq_true h
    · exact bigs_at hb.2 i h1 (by omega)
theorem bigs_all : bigs 2048 = true := by decide +kernel
theorem sinI_big {k : Int} (h1 : 1 ≤ k) (h2 : k ≤ 2047) : 25 ≤ sinI k := by
  have h := bigs_at bigs_all k.toNat (by omega) (by omega)
  have e : sinL k.toNat = sinI k := by unfold sinI; exact congrArg sinL (by omega)
  rwa [e] at h
theorem crs_big (i : Int) {k : Int} (h1 : 1 ≤ k) (h2 : k ≤ 2047) : 360449 ≤ crs i (i + k) := by
  obtain ⟨s1, _⟩ := sums_at ((i + k) % 4096) ((-i) % 4096) (by omega) (by omega)
  have e1 : sinI ((i + k) % 4096) = sinI (i + k) := sinI_mod (by omega)
  have e2 : cosI ((i + k) % 4096) = cosI (i + k) := cosI_mod (by omega)
  have e3 : sinI ((-i) % 4096) = -sinI i := (sinI_mod (by omega)).trans (sinI_neg i)
  have e4 : cosI ((-i) % 4096) = cosI i := (cosI_mod (by omega)).trans (cosI_neg i)
  have e5 : sinI ((i + k) % 4096 + (-i) % 4096) = sinI k := sinI_mod (by omega)
  obtain ⟨_, s2⟩ := sums_at ((i + k) % 4096) ((-i) % 4096) (by omega) (by omega)
  rw [e1, e2, e3, e4, e5] at s1 s2
  have hb := sinI_big h1 h2
  have e6 : sinI (i + k) * cosI i + cosI (i + k) * -sinI i = crs i (i + k) := by unfold crs; grind
  rw [e6] at s1 s2
  omega
theorem crs_rev (i j : Int) : crs i j = -crs j i := by unfold crs; grind
theorem cramer (x y i j m : Int) : crs i j * aft x y m = crs m j * aft x y i + crs i m * aft x y j := by
  unfold crs aft
  grind
theorem passed {x y h : Int} (h0 : 0 ≤ aft x y h) (h1 : aft x y (h + 1) < 0) {k : Int} (k1 : 1 ≤ k) (k2 : k ≤ 2047) : aft x y (h + k) < 0 := by
  by_cases c : k = 1
  · rw [c]; exact h1
  · have c1 := crs_big h (k := 1) (by omega) (by omega)
    have c2 := crs_big (h + 1) (k := k - 1) (by omega) (by omega)
    have c3 := crs_big h (k := k) (by omega) (by omega)
    rw [show h + 1 + (k - 1) = h + k by omega] at c2
    have key := cramer x y h (h + 1) (h + k)
    rw [crs_rev (h + k) (h + 1)] at key
    have n1 : 0 ≤ crs (h + 1) (h + k) * aft x y h := Int.mul_nonneg (by omega) h0
    have n2 : crs h (h + k) * aft x y (h + 1) < 0 := Int.mul_neg_of_pos_of_neg (by omega) h1
    have n3 : crs h (h + 1) * aft x y (h + k) < 0 := by rw [key]; rw [Int.neg_mul]; omega
    by_cases c4 : aft x y (h + k) < 0
    · exact c4
    · have := Int.mul_nonneg (show 0 ≤ crs h (h + 1) by omega) (show 0 ≤ aft x y (h + k) by omega)
      omega
theorem once {x y h g : Int} (h0 : 0 ≤ aft x y h) (h1 : aft x y (h + 1) < 0) (g0 : 0 ≤ aft x y g) (g1 : aft x y (g + 1) < 0) : h % 4096 = g % 4096 := by
  obtain ⟨d, hd⟩ : ∃ d, (g - h) % 4096 = d := ⟨_, rfl⟩
  by_cases c0 : d = 0
  · omega
  · by_cases c1 : d ≤ 2047
    · have := passed h0 h1 (k := d) (by omega) c1
      rw [aft_mod x y (show (h + d) % 4096 = g % 4096 by omega)] at this
      omega
    · by_cases c2 : d = 2048
      · have e1 : aft x y (g + 1) = -aft x y (h + 1) := by
          rw [← aft_half]
          exact aft_mod x y (by omega)
        omega
      · have := passed g0 g1 (k := 4096 - d) (by omega) (by omega)
        rw [aft_mod x y (show (g + (4096 - d)) % 4096 = h % 4096 by omega)] at this
        omega
theorem some_side {x y : Int} (h : x ≠ 0 ∨ y ≠ 0) : ∃ m : Int, aft x y m < 0 := by
  have q0 : cosI 0 = 16384 := by decide +kernel
  have q1 : sinI 0 = 0 := by decide +kernel
  have a0 : aft x y 0 = 16384 * x := by unfold aft; rw [q0, q1]; omega
  have a1 : aft x y 1024 = -(16384 * y) := by
    unfold aft
    have := cosI_quarter 0
    have s := sinI_quarter 0
    rw [Int.zero_add] at this s
    rw [this, s, q0, q1]; omega
  have b0 := aft_half x y 0
  have b1 := aft_half x y 1024
  rcases Int.lt_trichotomy (aft x y 0) 0 with c | c | c
  · exact ⟨_, c⟩
  · rcases Int.lt_trichotomy (aft x y 1024) 0 with d | d | d
    · exact ⟨_, d⟩
    · omega
    · exact ⟨1024 + 2048, by omega⟩
  · exact ⟨0 + 2048, by omega⟩
theorem down_some {x y : Int} (h : x ≠ 0 ∨ y ≠ 0) (s : Int) : ∃ d : Nat, d ≤ 4096 ∧ 0 ≤ aft x y (s - d) := by
  obtain ⟨m, hm⟩ := some_side h
  have hm2 := aft_half x y m
  refine ⟨((s - (m + 2048)) % 4096).toNat, by omega, ?_⟩
  rw [aft_mod x y (show (s - (((s - (m + 2048)) % 4096).toNat : Nat)) % 4096 = (m + 2048) % 4096 by omega)]
  omega
theorem up_some {x y : Int} (h : x ≠ 0 ∨ y ≠ 0) (s : Int) : ∃ d : Nat, d ≤ 4096 ∧ aft x y (s + d) < 0 := by
  obtain ⟨m, hm⟩ := some_side h
  refine ⟨((m - s) % 4096).toNat, by omega, ?_⟩
  rw [aft_mod x y (show (s + (((m - s) % 4096).toNat : Nat)) % 4096 = m % 4096 by omega)]
  exact hm
def Pass (x y h : Int) : Prop := 0 ≤ aft x y h ∧ aft x y (h + 1) < 0
def near1 (x y h : Int) : Int := (if -aft x y (h + 1) < aft x y h then h + 1 else h) % 4096
def ofI (x y : Int) : Int := match (List.range 4096).find? (fun n => decide (0 ≤ aft x y (n : Nat)) && decide (aft x y ((n : Nat) + 1) < 0)) with
  | some n => near1 x y (n : Nat)
  | none => 0
theorem near1_eq {x y h g : Int} (hp : Pass x y h) (gp : Pass x y g) : near1 x y h = near1 x y g := by
  have e := once hp.1 hp.2 gp.1 gp.2
  unfold near1
  rw [aft_mod x y e, aft_mod x y (show (h + 1) % 4096 = (g + 1) % 4096 by omega)]
  split <;> omega
theorem ofI_eq {x y h : Int} (hp : Pass x y h) : ofI x y = near1 x y h := by
  unfold ofI
  split
  · rename_i n hn
    have hc := List.find?_some hn
    simp only [Bool.and_eq_true, decide_eq_true_eq] at hc
    exact near1_eq hc hp
  · rename_i hn
    have hm := List.find?_eq_none.1 hn (h % 4096).toNat (List.mem_range.2 (by omega))
    refine absurd ?_ hm
    simp only [Bool.and_eq_true, decide_eq_true_eq]
    rw [aft_mod x y (show (((h % 4096).toNat : Nat) : Int) % 4096 = h % 4096 by omega), aft_mod x y (show (((h % 4096).toNat : Nat) + 1 : Int) % 4096 = (h + 1) % 4096 by omega)]
    exact hp
theorem prod_bd {a b A B : Int} (h1 : -A ≤ a) (h2 : a ≤ A) (h3 : -B ≤ b) (h4 : b ≤ B) : -(A * B) ≤ a * b ∧ a * b ≤ A * B := mul_bd h1 h2 h3 h4
end Go.Proofs.YthpbpdobghceeaaGreatDoor.Ang
