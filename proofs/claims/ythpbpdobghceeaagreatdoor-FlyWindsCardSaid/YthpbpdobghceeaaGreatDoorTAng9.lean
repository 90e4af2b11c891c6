import Derived.Test.YthpbpdobghceeaaGreatDoorTAng7
import Derived.Test.YthpbpdobghceeaaGreatDoorTAng8
import Derived.Test.YthpbpdobghceeaaGreatDoorTAngFC
namespace Go.Proofs.YthpbpdobghceeaaGreatDoor.Ang
open Go Go.RowKit
abbrev RetF (r : Nat) (w : World) (e : Ending) (w' : World) : Prop := e = .returned (.float .f64 r) ∧ w' = w
theorem floor_any {x r : Nat} (h : Extern.MathFloor.toIntegral "math.archFloor" .down #[.float .f64 x] = (pure (.float .f64 r) : Sem Value)) (w : World) : Calls Tryz.prog 95 #[.float .f64 x] w (RetF r w) := by
  have c1 := floor_run x r h
  go_enter Tryz.func95, Tryz.ntmps95
  go_wp2
  go_ret
  exact ⟨rfl, rfl⟩
theorem word_lt (n : Int) : floatOfInt .f64 n < 18446744073709551616 := by
  show FB.D.write (.number (decide (n < 0)) n.natAbs 0) < _
  have key : ∀ (s : Bool) (r : Nat), r ≤ 9218868437227405312 → FB.D.word s r < 18446744073709551616 := fun s r hr => by
    have hs : FB.D.signWeight = 9223372036854775808 := by decide
    unfold Ieee.Format.word
    rw [hs]
    split <;> omega
  show FB.D.nearest _ _ _ < _
  unfold Ieee.Format.nearest
  split
  · exact key _ _ (by omega)
  · exact key _ _ (by rw [FB.infRung_eq]; exact Nat.min_le_right _ _)
set_option maxRecDepth 100000 in
set_option maxHeartbeats 1000000 in
theorem xatan_any {x : Nat} {s : Bool} (hx : FB.S x s 2) : ∃ r, FB.U r 21 ∧ ∀ w, Calls Tryz.prog 178 #[.float .f64 x] w (RetF r w) := by
  obtain ⟨z, hz, uz⟩ := FB.mul_S hx hx
  rw [show (s ^^ s) = false by cases s <;> rfl] at uz
  obtain ⟨p0, h0, u0⟩ := FB.mul_S (FB.dL.dS (FB.chkL_ok (b := 13829429103926125972) (s := true) (l := -1) (h := 0) (by decide +kernel))) uz
  obtain ⟨p1, h1, u1⟩ := FB.add_S u0 (FB.dL.dS (FB.chkL_ok (b := 13848613196940411002) (s := true) (l := 4) (h := 5) (by decide +kernel)))
  obtain ⟨p2, h2, u2⟩ := FB.mul_S u1 uz
  obtain ⟨p3, h3, u3⟩ := FB.add_S u2 (FB.dL.dS (FB.chkL_ok (b := 13858350711815275123) (s := true) (l := 6) (h := 7) (by decide +kernel)))
  obtain ⟨p4, h4, u4⟩ := FB.mul_S u3 uz
  obtain ⟨p5, h5, u5⟩ := FB.add_S u4 (FB.dL.dS (FB.chkL_ok (b := 13861719834326579749) (s := true) (l := 6) (h := 7) (by decide +kernel)))
  obtain ⟨p6, h6, u6⟩ := FB.mul_S u5 uz
  obtain ⟨p7, h7, u7⟩ := FB.add_S u6 (FB.dL.dS (FB.chkL_ok (b := 13857635882265799822) (s := true) (l := 6) (h := 7) (by decide +kernel)))
  obtain ⟨p8, h8, u8⟩ := FB.mul_S uz u7
  obtain ⟨q0, k0, v0⟩ := FB.add_L uz (FB.chkL_ok (b := 4627690253511319612) (s := false) (l := 4) (h := 5) (by decide +kernel))
  obtain ⟨q1, k1, v1⟩ := FB.mul_S v0.dS uz
  obtain ⟨q2, k2, v2⟩ := FB.add_L v1 (FB.chkL_ok (b := 4640010388282866213) (s := false) (l := 7) (h := 8) (by decide +kernel))
  obtain ⟨q3, k3, v3⟩ := FB.mul_S v2.dS uz
  obtain ⟨q4, k4, v4⟩ := FB.add_L v3 (FB.chkL_ok (b := 4646322940342877755) (s := false) (l := 8) (h := 9) (by decide +kernel))
  obtain ⟨q5, k5, v5⟩ := FB.mul_S v4.dS uz
  obtain ⟨q6, k6, v6⟩ := FB.add_L v5 (FB.chkL_ok (b := 4647246694406179306) (s := false) (l := 8) (h := 9) (by decide +kernel))
  obtain ⟨q7, k7, v7⟩ := FB.mul_S v6.dS uz
  obtain ⟨q8, k8, v8⟩ := FB.add_L v7 (FB.chkL_ok (b := 4641049159275471596) (s := false) (l := 7) (h := 8) (by decide +kernel))
  obtain ⟨t0, m0, n0⟩ := FB.div_S u8 v8
  obtain ⟨t1, m1, n1⟩ := FB.mul_S hx n0
  obtain ⟨t2, m2, n2⟩ := FB.add_U n1.U hx.U
  have a0 := op2 (op := .mul) hz
  have a1 := op2 (op := .mul) h0
  have a2 := op2 (op := .add) h1
  have a3 := op2 (op := .mul) h2
  have a4 := op2 (op := .add) h3
  have a5 := op2 (op := .mul) h4
  have a6 := op2 (op := .add) h5
  have a7 := op2 (op := .mul) h6
  have a8 := op2 (op := .add) h7
  have a9 := op2 (op := .mul) h8
  have b0 := op2 (op := .add) k0
  have b1 := op2 (op := .mul) k1
  have b2 := op2 (op := .add) k2
  have b3 := op2 (op := .mul) k3
  have b4 := op2 (op := .add) k4
  have b5 := op2 (op := .mul) k5
  have b6 := op2 (op := .add) k6
  have b7 := op2 (op := .mul) k7
  have b8 := op2 (op := .add) k8
  have c0 := op2 (op := .quo) m0
  have c1 := op2 (op := .mul) m1
  have c2 := op2 (op := .add) m2
  refine ⟨t2, n2.mono (by decide), fun w => ?_⟩
  clear hx hz uz h0 u0 h1 u1 h2 u2 h3 u3 h4 u4 h5 u5 h6 u6 h7 u7 h8 u8 k0 v0 k1 v1 k2 v2 k3 v3 k4 v4 k5 v5 k6 v6 k7 v7 k8 v8 m0 n0 m1 n1 m2 n2
  go_enter Tryz.func178, Tryz.ntmps178
  go_wp2
  go_ret
  exact ⟨rfl, rfl⟩
set_option maxRecDepth 100000 in
set_option maxHeartbeats 1000000 in
theorem satan_any {x : Nat} {l h : Int} (hx : FB.L x false l h) : ∃ r, FB.U r 23 ∧ ∀ w, Calls Tryz.prog 174 #[.float .f64 x] w (RetF r w) := by
  obtain ⟨o1, ho1, hle1, _⟩ := FB.order_pos hx (FB.chkL_ok (b := 4604119971053405471) (s := false) (l := -1) (h := 0) (by decide +kernel))
  have ho1' : FloatKind.f64.format.order x 4604119971053405471 = some o1 := ho1
  by_cases c1 : o1 ≠ .gt
  · obtain ⟨r, hr, hc⟩ := xatan_any (FB.dS.mono (hle1 c1) (by decide))
    have e1 : (some o1 == some Ordering.lt || some o1 == some Ordering.eq) = true := by cases o1 <;> first | rfl | exact absurd rfl c1
    have e2 : (FloatKind.f64.format.order x 4604119971053405471 == some .lt || FloatKind.f64.format.order x 4604119971053405471 == some .eq) = true := by rw [ho1']; exact e1
    refine ⟨r, hr.mono (by decide), fun w => ?_⟩
    clear ho1 hle1 hr hx e1 ho1'
    go_enter Tryz.func174, Tryz.ntmps174
    go_wp2_with (go_at_call 178; refine (hc _).mono ?_; rintro e w' ⟨rfl, rfl⟩)
    go_ret
    exact ⟨rfl, rfl⟩
  · have c1' : o1 = .gt := Classical.not_not.1 c1
    subst c1'
    have e2 : (FloatKind.f64.format.order x 4604119971053405471 == some .lt || FloatKind.f64.format.order x 4604119971053405471 == some .eq) = false := by rw [ho1']; rfl
    obtain ⟨o2, ho2, hle2, hgt2⟩ := FB.order_pos hx (FB.chkL_ok (b := 4612618744449965542) (s := false) (l := 1) (h := 2) (by decide +kernel))
    have ho2' : FloatKind.f64.format.order x 4612618744449965542 = some o2 := ho2
    by_cases c2 : o2 = .gt
    · have e3 : (FloatKind.f64.format.order x 4612618744449965542 == some .gt) = true := by rw [ho2', c2]; rfl
      obtain ⟨m, i, hm, hu, hl⟩ := hgt2 c2
      have hone : FB.L 4607182418800017408 false 0 0 := FB.chkL_ok (by decide +kernel)
      obtain ⟨q, hq, uq⟩ := FB.div_S hone.dS (⟨m, i, hm, hu, hl⟩ : FB.L x false 1 h)
      obtain ⟨r, hr, hc⟩ := xatan_any (FB.dS.mono uq (by decide))
      obtain ⟨t, ht, ut⟩ := FB.sub_U (FB.dL.U (FB.chkL_ok (b := 4609753056924675352) (s := false) (l := 0) (h := 1) (by decide +kernel))) hr
      obtain ⟨v, hv, uv⟩ := FB.add_U ut (FB.dL.U (FB.chkL_ok (b := 4364452196894661639) (s := false) (l := -60) (h := 0) (by decide +kernel)))
      have a0 := op2 (op := .quo) hq
      have a1 := op2 (op := .sub) ht
      have a2 := op2 (op := .add) hv
      refine ⟨v, uv.mono (by decide), fun w => ?_⟩
      clear ho1 hle1 hr hx ho1' ho2 ho2' hle2 hgt2 hm hu hl hone hq uq ht ut hv uv c1
      go_enter Tryz.func174, Tryz.ntmps174
      go_wp2_with (go_at_call 178; refine (hc _).mono ?_; rintro e w' ⟨rfl, rfl⟩)
      go_ret
      exact ⟨rfl, rfl⟩
    · have e3 : (FloatKind.f64.format.order x 4612618744449965542 == some .gt) = false := by
        rw [ho2']
        cases o2 <;> first | rfl | exact absurd rfl c2
      have hx2 : FB.S x false 2 := hle2 c2
      have hone : FB.L 4607182418800017408 false 0 0 := FB.chkL_ok (by decide +kernel)
      obtain ⟨d, hd, ud⟩ := FB.sub_S hx2 hone.dS
      obtain ⟨f, hf, uf⟩ := FB.add_L hx2 hone
      obtain ⟨q, hq, uq⟩ := FB.div_U ud uf
      obtain ⟨s, us⟩ := uq
      obtain ⟨r, hr, hc⟩ := xatan_any (FB.dS.mono us (by decide))
      obtain ⟨t, ht, ut⟩ := FB.add_U (FB.dL.U (FB.chkL_ok (b := 4605249457297304856) (s := false) (l := -1) (h := 0) (by decide +kernel))) hr
      obtain ⟨v, hv, uv⟩ := FB.add_U ut (FB.dL.U (FB.chkL_ok (b := 4359948597267291143) (s := false) (l := -60) (h := 0) (by decide +kernel)))
      have a0 := op2 (op := .sub) hd
      have a1 := op2 (op := .add) hf
      have a2 := op2 (op := .quo) hq
      have a3 := op2 (op := .add) ht
      have a4 := op2 (op := .add) hv
      refine ⟨v, uv.mono (by decide), fun w => ?_⟩
      clear ho1 hle1 hr hx ho1' ho2 ho2' hle2 hgt2 hx2 hone hd ud hf uf hq us ht ut hv uv c1 c2
      go_enter Tryz.func174, Tryz.ntmps174
      go_wp2_with (go_at_call 178; refine (hc _).mono ?_; rintro e w' ⟨rfl, rfl⟩)
      go_ret
      exact ⟨rfl, rfl⟩
theorem neg_run (x : Nat) (w : World) : (Op.unary .neg (.float .f64 x)).run Tryz.prog w = .ok (.float .f64 (Op.negFloat .f64 x)) w := rfl
set_option maxRecDepth 100000 in
theorem atan_any {x : Nat} {s : Bool} {l h : Int} (hx : FB.L x s l h) : ∃ r, FB.U r 23 ∧ ∀ w, Calls Tryz.prog 160 #[.float .f64 x] w (RetF r w) := by
  have hz : FloatKind.f64.format.order x 0 = some (if s then .lt else .gt) := FB.order_zero hx
  have inner : ∃ r, FB.U r 23 ∧ ∀ w, Calls Tryz.prog 170 #[.float .f64 x] w (RetF r w) := by
    cases s
    · obtain ⟨r, hr, hc⟩ := satan_any hx
      have e1 : (FloatKind.f64.format.order x 0 == some .eq) = false := by rw [hz]; rfl
      have e2 : (FloatKind.f64.format.order x 0 == some .gt) = true := by rw [hz]; rfl
      refine ⟨r, hr, fun w => ?_⟩
      clear hx hz hr
      go_enter Tryz.func170, Tryz.ntmps170
      go_wp2_with (go_at_call 174; refine (hc _).mono ?_; rintro e w' ⟨rfl, rfl⟩)
      go_ret
      exact ⟨rfl, rfl⟩
    · obtain ⟨r, hr, hc⟩ := satan_any (FB.neg_L hx)
      have e1 : (FloatKind.f64.format.order x 0 == some .eq) = false := by rw [hz]; rfl
      have e2 : (FloatKind.f64.format.order x 0 == some .gt) = false := by rw [hz]; rfl
      refine ⟨Op.negFloat .f64 r, FB.neg_U hr, fun w => ?_⟩
      have m1 := neg_run x
      have m2 := neg_run r
      clear hx hz hr
      go_enter Tryz.func170, Tryz.ntmps170
      go_wp2_with (go_at_call 174; refine (hc _).mono ?_; rintro e w' ⟨rfl, rfl⟩)
      go_ret
      exact ⟨rfl, rfl⟩
  obtain ⟨r, hr, hc⟩ := inner
  refine ⟨r, hr, fun w => ?_⟩
  clear hz hx hr
  go_enter Tryz.func160, Tryz.ntmps160
  go_wp2_with (go_at_call 170; refine (hc _).mono ?_; rintro e w' ⟨rfl, rfl⟩)
  go_ret
  exact ⟨rfl, rfl⟩
theorem pos_lt {n : Int} (h : 0 < n) : floatOfInt .f64 n < 9223372036854775808 := by
  show FB.D.write (.number (decide (n < 0)) n.natAbs 0) < _
  rw [decide_eq_false (by omega)]
  have key : ∀ (r : Nat), r ≤ 9218868437227405312 → FB.D.word false r < 9223372036854775808 := fun r hr => by
    unfold Ieee.Format.word
    rw [if_neg (by decide)]
    omega
  show FB.D.nearest _ _ _ < _
  unfold Ieee.Format.nearest
  split
  · exact key _ (by omega)
  · exact key _ (by rw [FB.infRung_eq]; exact Nat.min_le_right _ _)
theorem abs_any (x : Nat) (hx : x < 18446744073709551616) (w : World) : Calls Tryz.prog 167 #[.float .f64 x] w (RetF (x % 9223372036854775808) w) := by
  have c1 := bits_run x
  have c2 := frombits_run (x % 9223372036854775808)
  have hb : bits .andNot .u64 (x : Int) 9223372036854775808 = ((x % 9223372036854775808 : Nat) : Int) := by
    have h := u64_andNot_nat x 9223372036854775808 (by omega) (by decide)
    rw [show ((9223372036854775808 : Nat) : Int) = 9223372036854775808 from rfl] at h
    rw [h]
    congr 1
    rw [show 18446744073709551615 - 9223372036854775808 = 2 ^ 63 - 1 by decide, Nat.and_two_pow_sub_one_eq_mod]
  have c2' : ∀ w : World, (callFunc 162 #[.int .u64 (bits .andNot .u64 (x : Int) 9223372036854775808)]).run Tryz.prog w = .ok (.value (.float .f64 (x % 9223372036854775808))) w := fun w => by rw [hb]; exact c2 w
  clear hb c2
  generalize x % 9223372036854775808 = y at *
  go_enter Tryz.func167, Tryz.ntmps167
  go_wp2
  go_ret
  exact ⟨rfl, rfl⟩
theorem isInf_any {x : Nat} {h : Int} (hx : x < 18446744073709551616) (hu : FB.U x h) (h2 : h ≤ 1000) (w : World) : Calls Tryz.prog 155 #[.float .f64 x, .int .i64 0] w fun e w' => e = .returned (.bool false) ∧ w' = w := by
  have hb : (FloatKind.f64.format.order (x % 9223372036854775808) big == some .gt) = false := (FB.order_big (FB.abs_U hu) h2).1
  have hc := abs_any x hx
  generalize x % 9223372036854775808 = y at *
  clear hu h2 hx
  go_enter Tryz.func155, Tryz.ntmps155
  go_wp2_with (go_at_call 167; refine (hc _).mono ?_; rintro e w' ⟨rfl, rfl⟩)
  go_ret
  exact ⟨rfl, rfl⟩
theorem copysign_any {s : Nat} (hs : s < 18446744073709551616) : ∃ r, FB.U r 1 ∧ ∀ w, Calls Tryz.prog 159 #[.float .f64 4609753056924675352, .float .f64 s] w (RetF r w) := by
  have hb2 : s &&& 9223372036854775808 = 0 ∨ s &&& 9223372036854775808 = 9223372036854775808 := by
    have h1 : (s &&& 2 ^ 63) / 2 ^ 63 = s / 2 ^ 63 &&& 1 := by rw [Nat.and_div_two_pow, Nat.div_self (by decide)]
    have h2 : (s &&& 2 ^ 63) % 2 ^ 63 = 0 := by rw [Nat.and_mod_two_pow, Nat.mod_self, Nat.and_zero]
    rw [show (9223372036854775808 : Nat) = 2 ^ 63 by decide]
    generalize hw : s &&& 2 ^ 63 = v at *
    have h3 : s / 2 ^ 63 = 0 ∨ s / 2 ^ 63 = 1 := by omega
    rcases h3 with h3 | h3 <;> rw [h3] at h1 <;> simp at h1 <;> omega
  have c1 := bits_run 4609753056924675352
  have c1' := bits_run s
  have b1 : bits .andNot .u64 4609753056924675352 9223372036854775808 = 4609753056924675352 := by decide
  have b2 : bits .and .u64 (s : Int) 9223372036854775808 = ((s &&& 9223372036854775808 : Nat) : Int) := bits_and_u64_nat s 9223372036854775808 hs (by decide)
  have e1 : ((4609753056924675352 : Nat) : Int) = 4609753056924675352 := rfl
  rcases hb2 with e | e
  · rw [e] at b2
    have c2 := frombits_run 4609753056924675352
    have b3 : bits .or .u64 4609753056924675352 0 = 4609753056924675352 := by decide
    rw [e1] at c1 c2
    refine ⟨4609753056924675352, FB.dL.U (FB.chkL_ok (s := false) (l := 0) (by decide +kernel)), fun w => ?_⟩
    clear e e1 hs
    go_enter Tryz.func159, Tryz.ntmps159
    go_wp2
    go_ret
    exact ⟨rfl, rfl⟩
  · rw [e] at b2
    have c2 := frombits_run 13833125093779451160
    have e2 : ((13833125093779451160 : Nat) : Int) = 13833125093779451160 := rfl
    have b3 : bits .or .u64 4609753056924675352 9223372036854775808 = 13833125093779451160 := by decide
    rw [e1] at c1
    rw [e2] at c2
    refine ⟨13833125093779451160, FB.dL.U (FB.chkL_ok (s := true) (l := 0) (by decide +kernel)), fun w => ?_⟩
    clear e e1 e2 hs
    go_enter Tryz.func159, Tryz.ntmps159
    go_wp2
    go_ret
    exact ⟨rfl, rfl⟩
theorem copy0 (f : Nat) (hf : f < 9223372036854775808) (w : World) : Calls Tryz.prog 159 #[.float .f64 f, .float .f64 0] w (RetF f w) := by
  have c1 := bits_run f
  have c1' := bits_run 0
  have b1 : bits .andNot .u64 (f : Int) 9223372036854775808 = (f : Int) := by
    have h := u64_andNot_nat f 9223372036854775808 (by omega) (by decide)
    rw [show ((9223372036854775808 : Nat) : Int) = 9223372036854775808 from rfl] at h
    rw [h]
    congr 1
    rw [show 18446744073709551615 - 9223372036854775808 = 2 ^ 63 - 1 by decide, Nat.and_two_pow_sub_one_eq_mod]
    omega
  have b2 : bits .and .u64 0 9223372036854775808 = 0 := by decide
  have b3 : bits .or .u64 (f : Int) 0 = (f : Int) := by
    have h := bits_or_u64_nat f 0 (by omega) (by decide)
    rw [Nat.or_zero] at h
    exact h
  have c2 := frombits_run f
  have e0 : ((0 : Nat) : Int) = 0 := rfl
  rw [e0] at c1'
  clear hf e0
  go_enter Tryz.func159, Tryz.ntmps159
  go_wp2
  go_ret
  exact ⟨rfl, rfl⟩
theorem signbit_pos {x : Nat} (hx : x < 9223372036854775808) (w : World) : Calls Tryz.prog 158 #[.float .f64 x] w fun e w' => e = .returned (.bool false) ∧ w' = w := by
  have c1 := bits_run x
  have h0 : ((x : Int) < 0) = False := eq_false (by omega)
  have hw : IntKind.i64.wrap (x : Int) = (x : Int) := by rw [IntKind.wrap_i64]; omega
  have hw2 : wrap64 (x : Int) = (x : Int) := by unfold wrap64; omega
  clear hx
  go_enter Tryz.func158, Tryz.ntmps158
  go_wp2
  go_ret
  exact ⟨by simp, rfl⟩
theorem flt_zero : floatOfInt .f64 0 = 0 := by decide +kernel
set_option maxRecDepth 100000 in
set_option maxHeartbeats 1000000 in
theorem atan2_in {x y : Int} (hne : x ≠ 0 ∨ y ≠ 0) (x1 : -2000000 ≤ x) (x2 : x ≤ 2000000) (y1 : -2000000 ≤ y) (y2 : y ≤ 2000000) :
    ∃ r, FB.U r 24 ∧ ∀ w, Calls Tryz.prog 141 #[.float .f64 (floatOfInt .f64 x), .float .f64 (floatOfInt .f64 y)] w (RetF r w) := by
  have wx := word_lt x
  have wy := word_lt y
  have n0 := isNaN_calls 0 (by decide +kernel)
  by_cases cx : x = 0
  · subst cx
    have cy : y ≠ 0 := by omega
    have ly := FB.int_L cy y1 y2
    have py : 0 < y → floatOfInt .f64 y < 9223372036854775808 := fun h => pos_lt h
    rw [flt_zero] at wx ⊢
    have oy : FloatKind.f64.format.order (floatOfInt .f64 y) 0 = some (if decide (y < 0) then .lt else .gt) := FB.order_zero ly
    have ny := isNaN_calls (floatOfInt .f64 y) (FB.order_self ly.U)
    have by_ := bits_run (floatOfInt .f64 y)
    have e0 : (FloatKind.f64.format.order 0 0 == some .eq) = true := by decide +kernel
    generalize floatOfInt .f64 y = fy at *
    by_cases c : y < 0
    · rw [decide_eq_true c] at oy
      have e1 : (FloatKind.f64.format.order fy 0 == some .gt || FloatKind.f64.format.order fy 0 == some .eq) = false := by rw [oy]; rfl
      refine ⟨4614256656552045848, FB.dL.U (FB.chkL_ok (s := false) (l := 1) (by decide +kernel)), fun w => ?_⟩
      clear py ly oy hne cy c x1 x2 y1 y2 wx wy by_
      go_enter Tryz.func141, Tryz.ntmps141
      go_wp2_with (first | (go_at_call 154; with_reducible refine (n0 _).mono ?_; rintro e w' ⟨rfl, rfl⟩) | (go_at_call 154; with_reducible refine (ny _).mono ?_; rintro e w' ⟨rfl, rfl⟩) | (go_at_call 159; refine (copy0 4614256656552045848 (by decide) _).mono ?_; rintro e w' ⟨rfl, rfl⟩))
      go_ret
      exact ⟨rfl, rfl⟩
    · have hpy := py (by omega)
      rw [decide_eq_false c] at oy
      have e1 : (FloatKind.f64.format.order fy 0 == some .gt || FloatKind.f64.format.order fy 0 == some .eq) = true := by rw [oy]; rfl
      refine ⟨0, FB.dS.U (s := false) ⟨0, -1074, FB.read_zero, .inl rfl⟩, fun w => ?_⟩
      clear py ly oy hne cy c x1 x2 y1 y2 wx wy by_
      go_enter Tryz.func141, Tryz.ntmps141
      go_wp2_with (first | (go_at_call 154; with_reducible refine (n0 _).mono ?_; rintro e w' ⟨rfl, rfl⟩) | (go_at_call 154; with_reducible refine (ny _).mono ?_; rintro e w' ⟨rfl, rfl⟩) | (go_at_call 158; refine (signbit_pos hpy _).mono ?_; rintro e w' ⟨rfl, rfl⟩) | (go_at_call 159; refine (copy0 0 (by decide) _).mono ?_; rintro e w' ⟨rfl, rfl⟩))
      go_ret
      exact ⟨rfl, rfl⟩
  · have lx := FB.int_L cx x1 x2
    have ox : FloatKind.f64.format.order (floatOfInt .f64 x) 0 = some (if decide (x < 0) then .lt else .gt) := FB.order_zero lx
    have e0 : (FloatKind.f64.format.order (floatOfInt .f64 x) 0 == some .eq) = false := by rw [ox]; cases decide (x < 0) <;> rfl
    have nx := isNaN_calls (floatOfInt .f64 x) (FB.order_self lx.U)
    by_cases cy : y = 0
    · subst cy
      rw [flt_zero]
      have e1 : (FloatKind.f64.format.order 0 0 == some .eq) = true := by decide +kernel
      generalize floatOfInt .f64 x = fx at *
      obtain ⟨r, hr, hc⟩ := copysign_any wx
      refine ⟨r, hr.mono (by decide), fun w => ?_⟩
      clear hr lx ox hne cx x1 x2 y1 y2 wx wy
      go_enter Tryz.func141, Tryz.ntmps141
      go_wp2_with (first | (go_at_call 154; with_reducible refine (n0 _).mono ?_; rintro e w' ⟨rfl, rfl⟩) | (go_at_call 154; with_reducible refine (nx _).mono ?_; rintro e w' ⟨rfl, rfl⟩) | (go_at_call 159; refine (hc _).mono ?_; rintro e w' ⟨rfl, rfl⟩))
      go_ret
      exact ⟨rfl, rfl⟩
    · have ly := FB.int_L cy y1 y2
      have oy : FloatKind.f64.format.order (floatOfInt .f64 y) 0 = some (if decide (y < 0) then .lt else .gt) := FB.order_zero ly
      have e1 : (FloatKind.f64.format.order (floatOfInt .f64 y) 0 == some .eq) = false := by rw [oy]; cases decide (y < 0) <;> rfl
      have ny := isNaN_calls (floatOfInt .f64 y) (FB.order_self ly.U)
      have ix := isInf_any wx lx.U (by decide)
      have iy := isInf_any wy ly.U (by decide)
      obtain ⟨q, hq, lq⟩ := FB.div_L lx ly
      obtain ⟨a, ha, hca⟩ := atan_any lq
      have aq := op2 (op := .quo) hq
      obtain ⟨u, hu, uu⟩ := FB.add_U ha (FB.dL.U (FB.chkL_ok (b := 4614256656552045848) (s := false) (l := 1) (h := 2) (by decide +kernel)))
      obtain ⟨v, hv, uv⟩ := FB.sub_U ha (FB.dL.U (FB.chkL_ok (b := 4614256656552045848) (s := false) (l := 1) (h := 2) (by decide +kernel)))
      have au := op2 (op := .add) hu
      have av := op2 (op := .sub) hv
      generalize floatOfInt .f64 x = fx at *
      generalize floatOfInt .f64 y = fy at *
      by_cases c : y < 0
      · rw [decide_eq_true c] at oy
        have e2 : (FloatKind.f64.format.order fy 0 == some .lt) = true := by rw [oy]; rfl
        by_cases d : (FloatKind.f64.format.order a 0 == some .lt || FloatKind.f64.format.order a 0 == some .eq) = true
        · refine ⟨u, uu, fun w => ?_⟩
          clear lx ly ox oy hq lq ha hu uu hv uv wx wy hne cx cy c x1 x2 y1 y2 av
          go_enter Tryz.func141, Tryz.ntmps141
          go_wp2_with (first | (go_at_call 154; with_reducible refine (nx _).mono ?_; rintro e w' ⟨rfl, rfl⟩) | (go_at_call 154; with_reducible refine (ny _).mono ?_; rintro e w' ⟨rfl, rfl⟩) | (go_at_call 155; with_reducible refine (ix _).mono ?_; rintro e w' ⟨rfl, rfl⟩) | (go_at_call 155; with_reducible refine (iy _).mono ?_; rintro e w' ⟨rfl, rfl⟩) | (go_at_call 160; refine (hca _).mono ?_; rintro e w' ⟨rfl, rfl⟩))
          go_ret
          exact ⟨rfl, rfl⟩
        · have d' : (FloatKind.f64.format.order a 0 == some .lt || FloatKind.f64.format.order a 0 == some .eq) = false := by simpa using d
          refine ⟨v, uv, fun w => ?_⟩
          clear lx ly ox oy hq lq ha hu uu hv uv wx wy hne cx cy c x1 x2 y1 y2 au d
          go_enter Tryz.func141, Tryz.ntmps141
          go_wp2_with (first | (go_at_call 154; with_reducible refine (nx _).mono ?_; rintro e w' ⟨rfl, rfl⟩) | (go_at_call 154; with_reducible refine (ny _).mono ?_; rintro e w' ⟨rfl, rfl⟩) | (go_at_call 155; with_reducible refine (ix _).mono ?_; rintro e w' ⟨rfl, rfl⟩) | (go_at_call 155; with_reducible refine (iy _).mono ?_; rintro e w' ⟨rfl, rfl⟩) | (go_at_call 160; refine (hca _).mono ?_; rintro e w' ⟨rfl, rfl⟩))
          go_ret
          exact ⟨rfl, rfl⟩
      · rw [decide_eq_false c] at oy
        have e2 : (FloatKind.f64.format.order fy 0 == some .lt) = false := by rw [oy]; rfl
        refine ⟨a, ha.mono (by decide), fun w => ?_⟩
        clear lx ly ox oy hq lq ha hu uu hv uv wx wy hne cx cy c x1 x2 y1 y2 au av
        go_enter Tryz.func141, Tryz.ntmps141
        go_wp2_with (first | (go_at_call 154; with_reducible refine (nx _).mono ?_; rintro e w' ⟨rfl, rfl⟩) | (go_at_call 154; with_reducible refine (ny _).mono ?_; rintro e w' ⟨rfl, rfl⟩) | (go_at_call 155; with_reducible refine (ix _).mono ?_; rintro e w' ⟨rfl, rfl⟩) | (go_at_call 155; with_reducible refine (iy _).mono ?_; rintro e w' ⟨rfl, rfl⟩) | (go_at_call 160; refine (hca _).mono ?_; rintro e w' ⟨rfl, rfl⟩))
        go_ret
        exact ⟨rfl, rfl⟩
set_option maxRecDepth 100000 in
theorem atan2_any {x y : Int} (hne : x ≠ 0 ∨ y ≠ 0) (x1 : -2000000 ≤ x) (x2 : x ≤ 2000000) (y1 : -2000000 ≤ y) (y2 : y ≤ 2000000) :
    ∃ r, FB.U r 24 ∧ ∀ w, Calls Tryz.prog 96 #[.float .f64 (floatOfInt .f64 x), .float .f64 (floatOfInt .f64 y)] w (RetF r w) := by
  obtain ⟨r, hr, hc⟩ := atan2_in hne x1 x2 y1 y2
  refine ⟨r, hr, fun w => ?_⟩
  clear hr hne x1 x2 y1 y2
  generalize floatOfInt .f64 x = fx at *
  generalize floatOfInt .f64 y = fy at *
  go_enter Tryz.func96, Tryz.ntmps96
  go_wp2_with (go_at_call 141; refine (hc _).mono ?_; rintro e w' ⟨rfl, rfl⟩)
  go_ret
  exact ⟨rfl, rfl⟩
end Go.Proofs.YthpbpdobghceeaaGreatDoor.Ang
