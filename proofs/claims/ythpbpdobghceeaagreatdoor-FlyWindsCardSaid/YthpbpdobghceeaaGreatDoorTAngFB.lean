import Ieee.Arith
namespace Go.Proofs.YthpbpdobghceeaaGreatDoor.FB
open Ieee
abbrev D : Format := Ieee.double
def Up (m : Nat) (i h : Int) : Prop := m = 0 ∨ ∃ k : Nat, h = i + k ∧ m ≤ 2 ^ k
def Lo (m : Nat) (i l : Int) : Prop := m ≠ 0 ∧ l ≤ i + m.log2
theorem Up.mono {m : Nat} {i h h' : Int} (a : Up m i h) (hh : h ≤ h') : Up m i h' := by
  rcases a with rfl | ⟨k, rfl, hk⟩
  · exact .inl rfl
  · exact .inr ⟨k + (h' - (i + k)).toNat, by omega, Nat.le_trans hk (Nat.pow_le_pow_right (by decide) (by omega))⟩
theorem Lo.mono {m : Nat} {i l l' : Int} (a : Lo m i l) (h : l' ≤ l) : Lo m i l' := ⟨a.1, Int.le_trans h a.2⟩
theorem log2_of {n k : Nat} (h1 : 2 ^ k ≤ n) (h2 : n < 2 ^ (k + 1)) : n.log2 = k := by
  have h0 : n ≠ 0 := by have := Nat.two_pow_pos k; omega
  have a := (Nat.le_log2 h0).2 h1
  have b := (Nat.log2_lt h0).2 h2
  omega
theorem lt_pow (n : Nat) : n < 2 ^ (n.log2 + 1) := Nat.lt_log2_self
theorem pow_le {n : Nat} (h : n ≠ 0) : 2 ^ n.log2 ≤ n := Nat.log2_self_le h
theorem shl_log2 {m : Nat} (h : m ≠ 0) (a : Nat) : (m * 2 ^ a).log2 = m.log2 + a := by
  refine log2_of ?_ ?_
  · rw [Nat.pow_add]; exact Nat.mul_le_mul_right _ (pow_le h)
  · rw [show m.log2 + a + 1 = (m.log2 + 1) + a by omega, Nat.pow_add]; exact Nat.mul_lt_mul_of_pos_right (lt_pow m) (Nat.two_pow_pos a)
theorem Up.log2 {m : Nat} {i h : Int} (a : Up m i h) (hm : m ≠ 0) : i + m.log2 ≤ h := by
  rcases a with rfl | ⟨k, rfl, hk⟩
  · exact absurd rfl hm
  · have : m.log2 ≤ k := by
      have h1 := pow_le hm
      exact (Nat.pow_le_pow_iff_right (by decide : 1 < 2)).1 (Nat.le_trans h1 hk)
    omega
theorem cut_zero (neg : Bool) (n : Nat) : Toward.even.cut neg n 0 = n := by
  unfold Toward.cut
  simp only [Nat.zero_min, Nat.shiftLeft_zero, Nat.div_one, Nat.mod_one]
  simp
theorem cut_le (neg : Bool) (n d : Nat) : Toward.even.cut neg n d ≤ n / 2 ^ (min d (n.log2 + 2)) + 1 := by
  unfold Toward.cut
  simp only [Nat.shiftLeft_eq, Nat.one_mul]
  exact Nat.add_le_add_left (Bool.toNat_le _) _
theorem le_cut (neg : Bool) (n d : Nat) : n / 2 ^ (min d (n.log2 + 2)) ≤ Toward.even.cut neg n d := by
  unfold Toward.cut
  simp only [Nat.shiftLeft_eq, Nat.one_mul]
  exact Nat.le_add_right _ _
theorem cut_exact (neg : Bool) (a d : Nat) : Toward.even.cut neg (2 ^ (a + d)) d = 2 ^ a := by
  unfold Toward.cut
  have hl : (2 ^ (a + d)).log2 = a + d := Nat.log2_two_pow
  simp only [Nat.shiftLeft_eq, Nat.one_mul, hl]
  rw [show min d (a + d + 2) = d by omega]
  have h1 : 2 ^ (a + d) / 2 ^ d = 2 ^ a := by rw [Nat.pow_add, Nat.mul_div_cancel _ (Nat.two_pow_pos d)]
  have h2 : 2 ^ (a + d) % 2 ^ d = 0 := by rw [Nat.pow_add]; exact Nat.mul_mod_left _ _
  have h3 := Nat.two_pow_pos d
  rw [h1, h2]
  simp
theorem kept_normal (neg : Bool) (mag : Nat) (place last : Int) (hm : mag ≠ 0) (h : place + mag.log2 = last + 52) :
    2 ^ 52 ≤ Toward.even.cut neg (mag <<< (place - last).toNat) (last - place).toNat ∧ Toward.even.cut neg (mag <<< (place - last).toNat) (last - place).toNat ≤ 2 ^ 53 ∧
      (mag = 2 ^ mag.log2 → Toward.even.cut neg (mag <<< (place - last).toNat) (last - place).toNat = 2 ^ 52) := by
  have hp := pow_le hm
  have hq := lt_pow mag
  by_cases c : last ≤ place
  · obtain ⟨d, hd⟩ : ∃ d : Nat, place = last + d := ⟨(place - last).toNat, by omega⟩
    rw [show (place - last).toNat = d by omega, show (last - place).toNat = 0 by omega, cut_zero, Nat.shiftLeft_eq]
    have hl : mag.log2 + d = 52 := by omega
    have e1 : 2 ^ 52 = 2 ^ mag.log2 * 2 ^ d := by rw [← Nat.pow_add, hl]
    have e2 : 2 ^ 53 = 2 ^ (mag.log2 + 1) * 2 ^ d := by rw [← Nat.pow_add]; congr 1; omega
    refine ⟨?_, ?_, fun e => ?_⟩
    · rw [e1]; exact Nat.mul_le_mul_right _ hp
    · rw [e2]; exact Nat.mul_le_mul_right _ (Nat.le_of_lt hq)
    · rw [e1, ← e]
  · obtain ⟨d, hd⟩ : ∃ d : Nat, last = place + d := ⟨(last - place).toNat, by omega⟩
    rw [show (place - last).toNat = 0 by omega, show (last - place).toNat = d by omega, Nat.shiftLeft_zero]
    have hl : mag.log2 = 52 + d := by omega
    have hmin : min d (mag.log2 + 2) = d := by omega
    have a := le_cut neg mag d
    have b := cut_le neg mag d
    rw [hmin] at a b
    have h1 : 2 ^ 52 ≤ mag / 2 ^ d := by
      rw [Nat.le_div_iff_mul_le (Nat.two_pow_pos d), ← Nat.pow_add, ← hl]; exact hp
    have h2 : mag / 2 ^ d < 2 ^ 53 := by
      rw [Nat.div_lt_iff_lt_mul (Nat.two_pow_pos d), ← Nat.pow_add, show 53 + d = mag.log2 + 1 by omega]; exact hq
    refine ⟨by omega, by omega, fun e => ?_⟩
    rw [e, hl]
    exact cut_exact neg 52 d
theorem kept_small (neg : Bool) (mag : Nat) (place : Int) (h : place + mag.log2 < -1022) :
    Toward.even.cut neg (mag <<< (place - -1074).toNat) (-1074 - place).toNat ≤ 2 ^ 52 := by
  have hq := lt_pow mag
  by_cases c : -1074 ≤ place
  · obtain ⟨d, hd⟩ : ∃ d : Nat, place = -1074 + d := ⟨(place - -1074).toNat, by omega⟩
    rw [show (place - -1074).toNat = d by omega, show (-1074 - place).toNat = 0 by omega, cut_zero, Nat.shiftLeft_eq]
    have h1 : mag * 2 ^ d ≤ 2 ^ (mag.log2 + 1) * 2 ^ d := Nat.mul_le_mul_right _ (Nat.le_of_lt hq)
    rw [← Nat.pow_add] at h1
    exact Nat.le_trans h1 (Nat.pow_le_pow_right (by decide) (by omega))
  · obtain ⟨d, hd⟩ : ∃ d : Nat, -1074 = place + d := ⟨(-1074 - place).toNat, by omega⟩
    rw [show (place - -1074).toNat = 0 by omega, show (-1074 - place).toNat = d by omega, Nat.shiftLeft_zero]
    have b := cut_le neg mag d
    have h1 : mag / 2 ^ (min d (mag.log2 + 2)) < 2 ^ 52 := by
      rw [Nat.div_lt_iff_lt_mul (Nat.two_pow_pos _), ← Nat.pow_add]
      exact Nat.lt_of_lt_of_le hq (Nat.pow_le_pow_right (by decide) (by omega))
    omega
theorem read_word (neg : Bool) (r : Nat) (h : r < D.infRung) :
    D.read (D.word neg r) = if r < D.binade then .number neg r D.leastPlace else .number neg (D.binade + r % D.binade) (D.leastPlace + (r / D.binade - 1 : Nat)) := by
  have hi : D.infRung = 9218868437227405312 := by decide
  have hs : D.signWeight = 9223372036854775808 := by decide
  have hb : D.binade = 4503599627370496 := by decide
  rw [hi] at h
  unfold Format.read Format.word
  rw [hi, hs, hb]
  cases neg
  · have h1 : r / 9223372036854775808 % 2 = 0 := by omega
    have h2 : r % 9223372036854775808 = r := by omega
    simp only [Bool.false_eq_true, if_false, h1, h2]
    rw [if_pos h]
    rfl
  · have h1 : (9223372036854775808 + r) / 9223372036854775808 % 2 = 1 := by omega
    have h2 : (9223372036854775808 + r) % 9223372036854775808 = r := by omega
    simp only [if_true, h1, h2]
    rw [if_pos h]
    rfl
theorem leastPlace_eq : D.leastPlace = -1074 := by decide
theorem binade_eq : D.binade = 4503599627370496 := by decide
theorem infRung_eq : D.infRung = 9218868437227405312 := by decide
theorem near_normal (neg : Bool) (mag : Nat) (place E : Int) (hm : mag ≠ 0) (hE : place + mag.log2 = E) (h1 : -1022 ≤ E) (h2 : E ≤ 1000) :
    ∃ m i, D.read (D.nearest neg mag place) = .number neg m i ∧ Lo m i E ∧ Up m i (E + 1) ∧ (mag = 2 ^ mag.log2 → Up m i E) := by
  obtain ⟨k1, k2, k3⟩ := kept_normal neg mag place (E - 52) hm (by omega)
  unfold Format.nearest
  rw [if_neg hm]
  have hl : max (place + mag.log2 - D.fractionBits) D.leastPlace = E - 52 := by
    rw [leastPlace_eq, show ((D.fractionBits : Nat) : Int) = 52 from rfl]; omega
  simp only [hl]
  generalize Toward.even.cut neg (mag <<< (place - (E - 52)).toNat) (E - 52 - place).toNat = kept at *
  obtain ⟨e, he⟩ : ∃ e : Nat, E = e - 1022 := ⟨(E + 1022).toNat, by omega⟩
  rw [leastPlace_eq, show (E - 52 - -1074).toNat = e by omega, binade_eq, infRung_eq]
  rw [show (2 : Nat) ^ 52 = 4503599627370496 by decide] at k1 k3
  rw [show (2 : Nat) ^ 53 = 9007199254740992 by decide] at k2
  have hr : e * 4503599627370496 + kept < 9218868437227405312 := by omega
  rw [Nat.min_eq_left (Nat.le_of_lt hr), read_word _ _ (by rw [infRung_eq]; exact hr), binade_eq, leastPlace_eq, if_neg (by omega)]
  rcases Nat.lt_or_ge kept 9007199254740992 with c | c
  · have d1 : (e * 4503599627370496 + kept) / 4503599627370496 = e + 1 := by omega
    have d2 : (e * 4503599627370496 + kept) % 4503599627370496 = kept - 4503599627370496 := by omega
    rw [d1, d2, show 4503599627370496 + (kept - 4503599627370496) = kept by omega]
    have hk : kept.log2 = 52 := log2_of (by omega) (by omega)
    refine ⟨kept, _, rfl, ⟨by omega, by rw [hk]; omega⟩, .inr ⟨53, by omega, by omega⟩, fun e => .inr ⟨52, by omega, by rw [k3 e]; decide⟩⟩
  · have d1 : (e * 4503599627370496 + kept) / 4503599627370496 = e + 2 := by omega
    have d2 : (e * 4503599627370496 + kept) % 4503599627370496 = 0 := by omega
    rw [d1, d2]
    have hk : (4503599627370496 + 0 : Nat).log2 = 52 := log2_of (by decide) (by decide)
    refine ⟨_, _, rfl, ⟨by omega, by rw [hk]; omega⟩, .inr ⟨52, by omega, by decide⟩, fun e => absurd (k3 e) (by omega)⟩
theorem near_small (neg : Bool) (mag : Nat) (place : Int) (hm : mag ≠ 0) (hE : place + mag.log2 < -1022) :
    ∃ m i, D.read (D.nearest neg mag place) = .number neg m i ∧ Up m i (-1022) := by
  have k := kept_small neg mag place hE
  unfold Format.nearest
  rw [if_neg hm]
  have hl : max (place + mag.log2 - D.fractionBits) D.leastPlace = -1074 := by
    rw [leastPlace_eq, show ((D.fractionBits : Nat) : Int) = 52 from rfl]; omega
  simp only [hl]
  generalize Toward.even.cut neg (mag <<< (place - -1074).toNat) (-1074 - place).toNat = kept at *
  rw [leastPlace_eq, show (-1074 - -1074 : Int).toNat = 0 from rfl, Nat.zero_mul, Nat.zero_add, infRung_eq]
  rw [show (2 : Nat) ^ 52 = 4503599627370496 by decide] at k
  rw [Nat.min_eq_left (by omega), read_word _ _ (by rw [infRung_eq]; omega), binade_eq, leastPlace_eq]
  split
  · exact ⟨_, _, rfl, .inr ⟨52, by omega, by omega⟩⟩
  · have : kept = 4503599627370496 := by omega
    subst this
    exact ⟨_, _, rfl, .inr ⟨52, by decide, by decide⟩⟩
theorem near_up (neg : Bool) (mag : Nat) (place h : Int) (hu : Up mag place h) (h1 : -1022 ≤ h) (h2 : h ≤ 1000) :
    ∃ m i, D.read (D.nearest neg mag place) = .number neg m i ∧ Up m i h ∧ ∀ l, Lo mag place l → -1022 ≤ l → Lo m i l := by
  by_cases hm : mag = 0
  · subst hm
    refine ⟨0, D.leastPlace, ?_, .inl rfl, fun l hl => absurd rfl hl.1⟩
    unfold Format.nearest
    rw [if_pos rfl, read_word _ _ (by decide), if_pos (by decide)]
  · have he := hu.log2 hm
    rcases Int.lt_or_le (place + mag.log2) (-1022) with c | c
    · obtain ⟨m, i, h3, h4⟩ := near_small neg mag place hm c
      exact ⟨m, i, h3, h4.mono h1, fun l hl hl2 => absurd hl.2 (by omega)⟩
    · obtain ⟨m, i, h3, h4, h5, h6⟩ := near_normal neg mag place _ hm rfl c (by omega)
      refine ⟨m, i, h3, ?_, fun l hl hl2 => h4.mono hl.2⟩
      by_cases hlt : place + mag.log2 < h
      · exact h5.mono (by omega)
      · have e : place + mag.log2 = h := by omega
        rw [e] at h6
        refine h6 ?_
        rcases hu with rfl | ⟨k, rfl, hk⟩
        · exact absurd rfl hm
        · have : mag.log2 = k := by omega
          rw [this]
          exact Nat.le_antisymm hk (by rw [← this]; exact pow_le hm)
def dS (d : Datum) (s : Bool) (h : Int) : Prop := ∃ m i, d = .number s m i ∧ Up m i h
def dL (d : Datum) (s : Bool) (l h : Int) : Prop := ∃ m i, d = .number s m i ∧ Up m i h ∧ Lo m i l
abbrev S (b : Nat) (s : Bool) (h : Int) : Prop := dS (D.read b) s h
abbrev L (b : Nat) (s : Bool) (l h : Int) : Prop := dL (D.read b) s l h
def U (b : Nat) (h : Int) : Prop := ∃ s, S b s h
theorem dL.dS {d : Datum} {s : Bool} {l h : Int} (a : dL d s l h) : dS d s h := by obtain ⟨m, i, h1, h2, _⟩ := a; exact ⟨m, i, h1, h2⟩
theorem dS.mono {d : Datum} {s : Bool} {h h' : Int} (a : dS d s h) (k : h ≤ h') : dS d s h' := by obtain ⟨m, i, h1, h2⟩ := a; exact ⟨m, i, h1, h2.mono k⟩
theorem dL.mono {d : Datum} {s : Bool} {l h l' h' : Int} (a : dL d s l h) (j : l' ≤ l) (k : h ≤ h') : dL d s l' h' := by obtain ⟨m, i, h1, h2, h3⟩ := a; exact ⟨m, i, h1, h2.mono k, h3.mono j⟩
theorem dS.U {b : Nat} {s : Bool} {h : Int} (a : S b s h) : U b h := ⟨s, a⟩
theorem dL.U {b : Nat} {s : Bool} {l h : Int} (a : L b s l h) : FB.U b h := ⟨s, a.dS⟩
theorem U.mono {b : Nat} {h h' : Int} (a : U b h) (k : h ≤ h') : U b h' := by obtain ⟨s, a⟩ := a; exact ⟨s, a.mono k⟩
theorem write_S {d : Datum} {s : Bool} {h : Int} (a : dS d s h) (h1 : -1022 ≤ h) (h2 : h ≤ 1000) : S (D.write d) s h := by
  obtain ⟨m, i, rfl, hu⟩ := a
  obtain ⟨m', i', r, u, _⟩ := near_up s m i h hu h1 h2
  exact ⟨m', i', r, u⟩
theorem write_L {d : Datum} {s : Bool} {l h : Int} (a : dL d s l h) (h0 : -1022 ≤ l) (h2 : h ≤ 1000) : L (D.write d) s l h := by
  obtain ⟨m, i, rfl, hu, hl⟩ := a
  have := hu.log2 hl.1
  have := hl.2
  obtain ⟨m', i', r, u, lo⟩ := near_up s m i h hu (by omega) h2
  exact ⟨m', i', r, u, lo l hl h0⟩
theorem Up.mul {m n : Nat} {i j h k : Int} (a : Up m i h) (b : Up n j k) : Up (m * n) (i + j) (h + k) := by
  rcases a with rfl | ⟨p, rfl, hp⟩
  · exact .inl (Nat.zero_mul _)
  · rcases b with rfl | ⟨q, rfl, hq⟩
    · exact .inl (Nat.mul_zero _)
    · exact .inr ⟨p + q, by omega, by rw [Nat.pow_add]; exact Nat.mul_le_mul hp hq⟩
theorem Lo.mul {m n : Nat} {i j h k : Int} (a : Lo m i h) (b : Lo n j k) : Lo (m * n) (i + j) (h + k) := by
  refine ⟨Nat.mul_ne_zero a.1 b.1, ?_⟩
  have : m.log2 + n.log2 ≤ (m * n).log2 := by
    refine (Nat.le_log2 (Nat.mul_ne_zero a.1 b.1)).2 ?_
    rw [Nat.pow_add]
    exact Nat.mul_le_mul (pow_le a.1) (pow_le b.1)
  have := a.2
  have := b.2
  omega
theorem mul_S {x y : Nat} {s t : Bool} {h k : Int} (a : S x s h) (b : S y t k) (h1 : -1022 ≤ h + k := by decide) (h2 : h + k ≤ 1000 := by decide) : ∃ z, D.mul x y = some z ∧ S z (s ^^ t) (h + k) := by
  obtain ⟨m, i, hx, hu⟩ := a
  obtain ⟨n, j, hy, hv⟩ := b
  refine ⟨D.write (.number (s ^^ t) (m * n) (i + j)), ?_, write_S ⟨_, _, rfl, hu.mul hv⟩ h1 h2⟩
  unfold Format.mul
  rw [hx, hy]
  rfl
theorem mul_U {x y : Nat} {h k : Int} (a : U x h) (b : U y k) (h1 : -1022 ≤ h + k := by decide) (h2 : h + k ≤ 1000 := by decide) : ∃ z, D.mul x y = some z ∧ U z (h + k) := by
  obtain ⟨s, a⟩ := a
  obtain ⟨t, b⟩ := b
  obtain ⟨z, h3, h4⟩ := mul_S a b h1 h2
  exact ⟨z, h3, _, h4⟩
theorem Up.shl {m : Nat} {i h base : Int} (a : Up m i h) (hb : base ≤ i) : Up (m * 2 ^ (i - base).toNat) base h := by
  rcases a with rfl | ⟨p, rfl, hp⟩
  · exact .inl (Nat.zero_mul _)
  · exact .inr ⟨p + (i - base).toNat, by omega, by rw [Nat.pow_add]; exact Nat.mul_le_mul_right _ hp⟩
theorem Lo.shl {m : Nat} {i l base : Int} (a : Lo m i l) (hb : base ≤ i) : Lo (m * 2 ^ (i - base).toNat) base l := by
  refine ⟨Nat.mul_ne_zero a.1 (Nat.ne_of_gt (Nat.two_pow_pos _)), ?_⟩
  rw [shl_log2 a.1]
  have := a.2
  omega
theorem Up.add {m n : Nat} {i h : Int} (a : Up m i h) (b : Up n i h) : Up (m + n) i (h + 1) := by
  rcases a with rfl | ⟨p, rfl, hp⟩
  · rw [Nat.zero_add]; exact b.mono (by omega)
  · rcases b with rfl | ⟨q, hq, hn⟩
    · rw [Nat.add_zero]; exact Or.inr ⟨p + 1, by omega, by rw [Nat.pow_succ]; omega⟩
    · obtain rfl : p = q := by omega
      exact .inr ⟨p + 1, by omega, by rw [Nat.pow_succ]; omega⟩
theorem Up.le {m n : Nat} {i h : Int} (a : Up m i h) (b : n ≤ m) : Up n i h := by
  rcases a with rfl | ⟨p, rfl, hp⟩
  · exact .inl (by omega)
  · exact .inr ⟨p, rfl, by omega⟩
theorem Lo.ge {m n : Nat} {i h : Int} (a : Lo m i h) (b : m ≤ n) : Lo n i h := by
  have h0 : n ≠ 0 := by have := a.1; omega
  refine ⟨h0, ?_⟩
  have : m.log2 ≤ n.log2 := (Nat.le_log2 h0).2 (Nat.le_trans (pow_le a.1) b)
  have := a.2
  omega
theorem signed_eq (s : Bool) (m u : Nat) : signed s m u = if s then -((m * 2 ^ u : Nat) : Int) else ((m * 2 ^ u : Nat) : Int) := by
  unfold signed; rw [Nat.shiftLeft_eq]
theorem sum_same {d e : Datum} {s : Bool} {h k : Int} (a : dS d s h) (b : dS e s k) : ∃ f, d.sum e = some f ∧ dS f s (max h k + 1) ∧ ((∃ l, dL d s l h ∧ True) ∨ True) ∧ (∀ c k', dL e s c k' → ∃ m i, f = .number s m i ∧ Lo m i c) ∧ (∀ c k', dL d s c k' → ∃ m i, f = .number s m i ∧ Lo m i c) := by
  obtain ⟨m, i, rfl, hu⟩ := a
  obtain ⟨n, j, rfl, hv⟩ := b
  have ha := (hu.shl (Int.min_le_left i j)).mono (Int.le_max_left h k)
  have hb := (hv.shl (Int.min_le_right i j)).mono (Int.le_max_right h k)
  have hs := ha.add hb
  have key : Datum.sum (.number s m i) (.number s n j) = some (.number s (m * 2 ^ (i - min i j).toNat + n * 2 ^ (j - min i j).toNat) (min i j)) := by
    unfold Datum.sum
    simp only [signed_eq]
    generalize m * 2 ^ (i - min i j).toNat = A
    generalize n * 2 ^ (j - min i j).toNat = B
    cases s
    · simp only [Bool.false_eq_true, if_false, Bool.and_self]
      congr 2 <;> first | omega | (split <;> simp <;> omega)
    · simp only [if_true, Bool.and_self]
      congr 2 <;> first | omega | (split <;> simp <;> omega)
  refine ⟨_, key, ⟨_, _, rfl, hs⟩, .inr trivial, ?_, ?_⟩
  · rintro c k' ⟨n', j', e, _, hl⟩
    cases e
    exact ⟨_, _, rfl, (hl.shl (Int.min_le_right i j)).ge (Nat.le_add_left _ _)⟩
  · rintro c k' ⟨n', j', e, _, hl⟩
    cases e
    exact ⟨_, _, rfl, (hl.shl (Int.min_le_left i j)).ge (Nat.le_add_right _ _)⟩
theorem sum_opp {d e : Datum} {s : Bool} {h k : Int} (a : dS d s h) (b : dS e (!s) k) : ∃ f t, d.sum e = some f ∧ dS f t (max h k) := by
  obtain ⟨m, i, rfl, hu⟩ := a
  obtain ⟨n, j, rfl, hv⟩ := b
  have ha := (hu.shl (Int.min_le_left i j)).mono (Int.le_max_left h k)
  have hb := (hv.shl (Int.min_le_right i j)).mono (Int.le_max_right h k)
  unfold Datum.sum
  simp only [signed_eq]
  generalize m * 2 ^ (i - min i j).toNat = A at *
  generalize n * 2 ^ (j - min i j).toNat = B at *
  refine ⟨_, _, rfl, _, _, rfl, ?_⟩
  rcases Nat.le_total A B with c | c
  · refine hb.le ?_
    cases s <;> simp <;> omega
  · refine ha.le ?_
    cases s <;> simp <;> omega
theorem sum_any {d e : Datum} {s t : Bool} {h k : Int} (a : dS d s h) (b : dS e t k) : ∃ f t, d.sum e = some f ∧ dS f t (max h k + 1) := by
  by_cases c : t = s
  · subst c
    obtain ⟨f, h1, h2, _⟩ := sum_same a b
    exact ⟨f, t, h1, h2⟩
  · obtain rfl : t = !s := by cases s <;> cases t <;> simp_all
    obtain ⟨f, t, h1, h2⟩ := sum_opp a b
    exact ⟨f, t, h1, h2.mono (by omega)⟩
theorem dS.opposite {d : Datum} {s : Bool} {h : Int} (a : dS d s h) : dS d.opposite (!s) h := by obtain ⟨m, i, rfl, hu⟩ := a; exact ⟨m, i, rfl, hu⟩
theorem dL.opposite {d : Datum} {s : Bool} {l h : Int} (a : dL d s l h) : dL d.opposite (!s) l h := by obtain ⟨m, i, rfl, hu⟩ := a; exact ⟨m, i, rfl, hu⟩
theorem add_S {x y : Nat} {s : Bool} {h k : Int} (a : S x s h) (b : S y s k) (h1 : -1022 ≤ max h k + 1 := by decide) (h2 : max h k + 1 ≤ 1000 := by decide) : ∃ z, D.add x y = some z ∧ S z s (max h k + 1) := by
  obtain ⟨f, e, hf, _⟩ := sum_same a b
  exact ⟨_, by unfold Format.add; rw [e]; rfl, write_S hf h1 h2⟩
theorem add_L {x y : Nat} {s : Bool} {l h k : Int} (a : S x s h) (b : L y s l k) (h1 : -1022 ≤ l := by decide) (h2 : max h k + 1 ≤ 1000 := by decide) : ∃ z, D.add x y = some z ∧ L z s l (max h k + 1) := by
  obtain ⟨f, e, hf, _, hl, _⟩ := sum_same a b.dS
  obtain ⟨m, i, e1, hl2⟩ := hl _ _ b
  obtain ⟨m', i', e', hu⟩ := hf
  subst e1
  cases e'
  exact ⟨_, by unfold Format.add; rw [e]; rfl, write_L ⟨_, _, rfl, hu, hl2⟩ h1 h2⟩
theorem add_U {x y : Nat} {h k : Int} (a : U x h) (b : U y k) (h1 : -1022 ≤ max h k + 1 := by decide) (h2 : max h k + 1 ≤ 1000 := by decide) : ∃ z, D.add x y = some z ∧ U z (max h k + 1) := by
  obtain ⟨s, a⟩ := a
  obtain ⟨t, b⟩ := b
  obtain ⟨f, t', e, hf⟩ := sum_any a b
  exact ⟨_, by unfold Format.add; rw [e]; rfl, t', write_S hf h1 h2⟩
theorem sub_S {x y : Nat} {s : Bool} {h k : Int} (a : S x s h) (b : S y s k) (h1 : -1022 ≤ max h k := by decide) (h2 : max h k ≤ 1000 := by decide) : ∃ z, D.sub x y = some z ∧ U z (max h k) := by
  obtain ⟨f, t', e, hf⟩ := sum_opp a b.opposite
  exact ⟨_, by unfold Format.sub; rw [e]; rfl, t', write_S hf h1 h2⟩
theorem sub_U {x y : Nat} {h k : Int} (a : U x h) (b : U y k) (h1 : -1022 ≤ max h k + 1 := by decide) (h2 : max h k + 1 ≤ 1000 := by decide) : ∃ z, D.sub x y = some z ∧ U z (max h k + 1) := by
  obtain ⟨s, a⟩ := a
  obtain ⟨t, b⟩ := b
  obtain ⟨f, t', e, hf⟩ := sum_any a b.opposite
  exact ⟨_, by unfold Format.sub; rw [e]; rfl, t', write_S hf h1 h2⟩
theorem Up.quot {m n : Nat} {i j h c : Int} (a : Up m i h) (b : Lo n j c) : Up (2 * ((m <<< (54 + n.log2 - m.log2)) / n) + ((m <<< (54 + n.log2 - m.log2)) % n != 0).toNat) (i - j - (54 + n.log2 - m.log2 : Nat) - 1) (h - c) := by
  rcases a with rfl | ⟨p, rfl, hp⟩
  · left; simp
  · by_cases hm : m = 0
    · subst hm; left; simp
    right
    have hlm : m.log2 ≤ p := (Nat.pow_le_pow_iff_right (by decide : 1 < 2)).1 (Nat.le_trans (pow_le hm) hp)
    have hn := pow_le b.1
    have hc := b.2
    generalize hM : 54 + n.log2 - m.log2 = more
    have hmore : n.log2 < p + more + 1 := by omega
    rw [Nat.shiftLeft_eq]
    have hd : m * 2 ^ more ≤ 2 ^ (p + more) := by rw [Nat.pow_add]; exact Nat.mul_le_mul_right _ hp
    have hsp : 2 ^ (p + more) = 2 ^ (p + more - n.log2) * 2 ^ n.log2 := by rw [← Nat.pow_add]; congr 1; omega
    refine ⟨p + more - n.log2 + 1 + ((j + n.log2) - c).toNat, by omega, ?_⟩
    have key : 2 * (m * 2 ^ more / n) + (m * 2 ^ more % n != 0).toNat ≤ 2 ^ (p + more - n.log2 + 1) := by
      have hle : m * 2 ^ more ≤ 2 ^ (p + more - n.log2) * n := Nat.le_trans (by rw [hsp] at hd; exact hd) (Nat.mul_le_mul_left _ hn)
      have hpos : 0 < n := Nat.pos_of_ne_zero b.1
      rw [Nat.pow_succ]
      generalize m * 2 ^ more = A at *
      generalize 2 ^ (p + more - n.log2) = T at *
      rcases Nat.lt_or_eq_of_le hle with c | c
      · have h7 : A / n < T := (Nat.div_lt_iff_lt_mul hpos).2 c
        have h8 := Bool.toNat_le (A % n != 0)
        omega
      · subst c
        rw [Nat.mul_div_cancel _ hpos, Nat.mul_mod_left]
        simp
        omega
    exact Nat.le_trans key (Nat.pow_le_pow_right (by decide) (by omega))
theorem Lo.quot {m n : Nat} {i j l k : Int} (a : Lo m i l) (b : Up n j k) (hn : n ≠ 0) : Lo (2 * ((m <<< (54 + n.log2 - m.log2)) / n) + ((m <<< (54 + n.log2 - m.log2)) % n != 0).toNat) (i - j - (54 + n.log2 - m.log2 : Nat) - 1) (l - k - 1) := by
  have hk := b.log2 hn
  have hl := a.2
  generalize hM : 54 + n.log2 - m.log2 = more
  rw [Nat.shiftLeft_eq]
  have h1 : 2 ^ (m.log2 + more) ≤ m * 2 ^ more := by rw [Nat.pow_add]; exact Nat.mul_le_mul_right _ (pow_le a.1)
  have h2 := lt_pow n
  have h3 : 2 ^ (m.log2 + more - n.log2 - 1) ≤ m * 2 ^ more / n := by
    rw [Nat.le_div_iff_mul_le (Nat.pos_of_ne_zero hn)]
    refine Nat.le_trans (Nat.mul_le_mul_left _ (Nat.le_of_lt h2)) ?_
    rw [← Nat.pow_add]
    exact Nat.le_trans (Nat.pow_le_pow_right (by decide) (by omega)) h1
  have h4 := Nat.two_pow_pos (m.log2 + more - n.log2 - 1)
  refine ⟨by omega, ?_⟩
  have h5 : m.log2 + more - n.log2 ≤ (2 * (m * 2 ^ more / n) + (m * 2 ^ more % n != 0).toNat).log2 := by
    refine (Nat.le_log2 (by omega)).2 ?_
    have : 2 ^ (m.log2 + more - n.log2) = 2 * 2 ^ (m.log2 + more - n.log2 - 1) := by rw [← Nat.pow_succ']; congr 1; omega
    omega
  omega
theorem div_S {x y : Nat} {s t : Bool} {h c k : Int} (a : S x s h) (b : L y t c k) (h1 : -1022 ≤ h - c := by decide) (h2 : h - c ≤ 1000 := by decide) : ∃ z, D.div x y = some z ∧ S z (s ^^ t) (h - c) := by
  obtain ⟨m, i, hx, hu⟩ := a
  obtain ⟨n, j, hy, hv, hn⟩ := b
  have hd : Datum.quotient (D.fractionBits + 2) (.number s m i) (.number t n j) = some (.number (s ^^ t) (2 * ((m <<< (54 + n.log2 - m.log2)) / n) + ((m <<< (54 + n.log2 - m.log2)) % n != 0).toNat) (i - j - (54 + n.log2 - m.log2 : Nat) - 1)) := by
    unfold Datum.quotient
    simp only
    rw [if_neg hn.1]
    rfl
  exact ⟨_, by unfold Format.div; rw [hx, hy, hd]; rfl, write_S ⟨_, _, rfl, hu.quot hn⟩ h1 h2⟩
theorem div_L {x y : Nat} {s t : Bool} {l h c k : Int} (a : L x s l h) (b : L y t c k) (h1 : -1022 ≤ l - k - 1 := by decide) (h2 : h - c ≤ 1000 := by decide) : ∃ z, D.div x y = some z ∧ L z (s ^^ t) (l - k - 1) (h - c) := by
  obtain ⟨m, i, hx, hu, hm⟩ := a
  obtain ⟨n, j, hy, hv, hn⟩ := b
  have hd : Datum.quotient (D.fractionBits + 2) (.number s m i) (.number t n j) = some (.number (s ^^ t) (2 * ((m <<< (54 + n.log2 - m.log2)) / n) + ((m <<< (54 + n.log2 - m.log2)) % n != 0).toNat) (i - j - (54 + n.log2 - m.log2 : Nat) - 1)) := by
    unfold Datum.quotient
    simp only
    rw [if_neg hn.1]
    rfl
  exact ⟨_, by unfold Format.div; rw [hx, hy, hd]; rfl, write_L ⟨_, _, rfl, hu.quot hn, hm.quot hv hn.1⟩ h1 h2⟩
theorem div_U {x y : Nat} {t : Bool} {h c k : Int} (a : U x h) (b : L y t c k) (h1 : -1022 ≤ h - c := by decide) (h2 : h - c ≤ 1000 := by decide) : ∃ z, D.div x y = some z ∧ U z (h - c) := by
  obtain ⟨s, a⟩ := a
  obtain ⟨z, h3, h4⟩ := div_S a b h1 h2
  exact ⟨z, h3, _, h4⟩
theorem cmp_le {a b : Int} (h : compare a b ≠ .gt) : a ≤ b := by
  by_cases c : a ≤ b
  · exact c
  · refine absurd ?_ h
    show compareOfLessAndEq a b = .gt
    unfold compareOfLessAndEq
    rw [if_neg (by omega), if_neg (by omega)]
theorem cmp_gt {a b : Int} (h : compare a b = .gt) : b < a := by
  have h' : compareOfLessAndEq a b = .gt := h
  unfold compareOfLessAndEq at h'
  split at h'
  · cases h'
  · split at h'
    · cases h'
    · omega
theorem order_pos {x y : Nat} {l h c k : Int} (a : L x false l h) (b : L y false c k) : ∃ o, D.order x y = some o ∧ (o ≠ .gt → S x false k) ∧ (o = .gt → L x false c h) := by
  obtain ⟨m, i, hx, hu, hm⟩ := a
  obtain ⟨n, j, hy, hv, hn⟩ := b
  unfold Format.order S L
  rw [hx, hy]
  unfold Datum.order
  simp only [signed_eq, Bool.false_eq_true, if_false]
  refine ⟨_, rfl, fun ho => ?_, fun ho => ?_⟩
  · have : m * 2 ^ (i - min i j).toNat ≤ n * 2 ^ (j - min i j).toNat := by
      have h1 := cmp_le ho
      exact Int.ofNat_le.1 h1
    have hv' := (hv.shl (Int.min_le_right i j)).le this
    refine ⟨m, i, rfl, ?_⟩
    rcases hv' with h0 | ⟨p, rfl, hp⟩
    · exact absurd h0 (Nat.mul_ne_zero hm.1 (Nat.ne_of_gt (Nat.two_pow_pos _)))
    · have hpow : (i - min i j).toNat ≤ p := by
        refine (Nat.pow_le_pow_iff_right (by decide : 1 < 2)).1 (Nat.le_trans ?_ hp)
        exact Nat.le_mul_of_pos_left _ (Nat.pos_of_ne_zero hm.1)
      refine .inr ⟨p - (i - min i j).toNat, by omega, ?_⟩
      refine Nat.le_of_mul_le_mul_right (c := 2 ^ (i - min i j).toNat) ?_ (Nat.two_pow_pos _)
      rw [← Nat.pow_add, show p - (i - min i j).toNat + (i - min i j).toNat = p by omega]
      exact hp
  · have : n * 2 ^ (j - min i j).toNat < m * 2 ^ (i - min i j).toNat := by
      have h1 := cmp_gt ho
      exact Int.ofNat_lt.1 h1
    have hn' := (hn.shl (Int.min_le_right i j)).ge (Nat.le_of_lt this)
    refine ⟨m, i, rfl, hu, hm.1, ?_⟩
    have := hn'.2
    rw [shl_log2 hm.1] at this
    omega
end Go.Proofs.YthpbpdobghceeaaGreatDoor.FB
