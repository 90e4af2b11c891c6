/- Made by a program of this session (wip/tools/myprint.py, over the kit's printer): that the Go functions answer as the Lean functions printed beside them. -/
import Derived.Test.YtbpbpojnfhhbjaaPProbeFirstx0
import Derived.Test.YtbpbpojnfhhbjaaPProbeFirstx1
import Derived.Test.YtbpbpojnfhhbjaaPProbeFirstx5
namespace Go.Proofs.Ytbpbpojnfhhbjaa.PProbeFirst
open Go.RowKit Go.Proofs.YtbpbpojnfhhbjaaW.PrintWords Go.Proofs.YtbpbpojnfhhbjaaW.PrintLast Go.Proofs.YtbpbpojnfhhbjaaW.PrintMore
attribute [local go_sem] max2_int min2_int max_two min_two max_three min_three max_four min_four   -- for this text's walks alone
set_option linter.unusedVariables false
set_option linter.unusedSimpArgs false

/-! ### skywaykeep1_ProbeFirst: function 14 -/
section
open Go
def skywaykeep1_ProbeFirst.g (k : Nat) (l0 l1 : List S88) (s0 s1 t when e : Int) : Option Bool :=
  (skywaykeep1_ProbeFirst_1.f k l0 l1 s0 s1 t).bind fun q => if (q.2 && (!q.1 && ((e == 8) || decide (t < when)))) = true then some false else if e = 8 then some (when == 0) else (skywaykeep1_ProbeFirst_1.f k l0 l1 s0 s1 when).bind fun q2 => some (q2.2 && !q2.1)
def skywaykeep1_ProbeFirst.f (k : Nat) (l0 l1 : List S88) (a2_0 a2_1 a3 : Int) : Option Bool :=
  (skywaykeep1_probeWorks.f k).bind fun b => if b = true then ((skywaykeep1_long.f k ([l0, l1] : List (List S88))).bind fun g => if g = true then some true else
    (probe_First.f k l0 l1 a2_0 a2_1).bind fun we => if we.2 = 0 ∨ we.2 = 8 then (if 0 < (l0.length : Int) then skywaykeep1_ProbeFirst.g k l0 l1 a2_0 a2_1 (wrap64 ((rd_T88 l0 0).f0.f0 + Int.tmod (wrap64 (Int.tmod a3 1500 + 1500)) 1500)) we.1 we.2 else none) else some (we.1 == 0)) else some false
set_option maxRecDepth 100000 in
set_option maxHeartbeats 8000000 in
theorem skywaykeep1_ProbeFirst.calls (k : Nat) (A0 : Option Addr) (c0 : Nat) (l0 : List S88) (A1 : Option Addr) (c1 : Nat) (l1 : List S88) (a2_0 a2_1 a3 : Int) (r : Bool) (w : World) (hr0 : Kd.C k88 w A0 l0.length l0) (hc0 : l0.length ≤ c0) (hr1 : Kd.C k88 w A1 l1.length l1) (hc1 : l1.length ≤ c1) (h : skywaykeep1_ProbeFirst.f k l0 l1 a2_0 a2_1 a3 = some r) :
    Calls Try.prog 14 #[.slice A0 l0.length c0, .slice A1 l1.length c1, .agg #[.int .i64 a2_0, .int .i64 a2_1], .int .i64 a3] w fun e w' => e = .returned (.bool r) ∧ Below w.heap.size w w' := by
  unfold skywaykeep1_ProbeFirst.f at h
  obtain ⟨b, hb, h⟩ := Option.bind_eq_some_iff.1 h
  obtain ⟨W0, hW0⟩ : ∃ W0, ((w.alloc (.cells #[.slice A0 l0.length c0] 82)).alloc (.cells #[.slice A1 l1.length c1] 82)).alloc (.cells #[.int .i64 a2_0, .int .i64 a2_1] 100) = W0 := ⟨_, rfl⟩
  have hB0 : Below w.heap.size w W0 := by rw [← hW0]; exact below_alloc (below_alloc (below_alloc (Below.refl _ _) _) _) _
  have X0 : W0.heap[w.heap.size]? = some (.cells #[.slice A0 l0.length c0] 82 (0, 0)) := by rw [← hW0]; exact blk_alloc (blk_alloc (blk_new w _) _) _
  have X1 : W0.heap[w.heap.size + 1]? = some (.cells #[.slice A1 l1.length c1] 82 (0, 0)) := by rw [← hW0]; have := blk_alloc (blk_new (w.alloc (.cells #[.slice A0 l0.length c0] 82)) (.cells #[.slice A1 l1.length c1] 82)) (.cells #[.int .i64 a2_0, .int .i64 a2_1] 100); simpa using this
  have X2 : W0.heap[w.heap.size + 1 + 1]? = some (.cells #[.int .i64 a2_0, .int .i64 a2_1] 100 (0, 0)) := by rw [← hW0]; have := blk_new ((w.alloc (.cells #[.slice A0 l0.length c0] 82)).alloc (.cells #[.slice A1 l1.length c1] 82)) (.cells #[.int .i64 a2_0, .int .i64 a2_1] 100); simpa using this
  have HR0 := Aside0.mk hr0
  have HR1 := Aside0.mk hr1
  have HX := Aside0.mk (And.intro X0 (And.intro X1 X2))
  have HB0 := Aside0.mk hB0
  have HH := Aside0.mk h
  clear hr0 hr1 X0 X1 X2 hB0 h
  go_enter Try.func14, Try.ntmps14
  go_wp2_with (go_at_call 43; refine (skywaykeep1_probeWorks.calls k b _ hb).mono ?_; rintro e w1 ⟨rfl, hb1⟩; clear hb; have B1 := Aside0.mk (below_step HB0.out hb1); have X := Aside0.mk (And.intro (blk_below HX.out.1 hb1) (And.intro (blk_below HX.out.2.1 hb1) (blk_below HX.out.2.2 hb1))); clear HX HB0 hb1; have y0 := (blk_cell X.out.1 0).trans rfl; have y1 := (blk_cell X.out.2.1 0).trans rfl; cases b)
  · obtain rfl : false = r := by simpa using HH.out
    go_wp2
    go_ret
    exact ⟨rfl, B1.out⟩
  · have h := HH.out
    clear HH
    simp only [↓reduceIte] at h
    obtain ⟨g, hg, h⟩ := Option.bind_eq_some_iff.1 h
    have HH := Aside0.mk h
    clear h
    go_wp2_with fail
    have hB2 := below_alloc B1.out (.cells #[.slice A0 l0.length c0, .slice A1 l1.length c1] 82)
    refine (skywaykeep1_long.calls k (some ⟨w1.heap.size, 0, none⟩) 2 [l0, l1] g _ (row_two (blk_new w1 _) (Kd.C_below HR0.out hB2) hc0 (Kd.C_below HR1.out hB2) hc1) (Nat.le_refl _) hg).mono ?_
    rintro e w3 ⟨rfl, hb3⟩
    have B3 := Aside0.mk (below_step hB2 hb3)
    have hb13 : Below w1.heap.size w1 w3 := below_step (below_alloc (Below.refl _ _) _) hb3
    have X3 := Aside0.mk (And.intro (blk_below X.out.1 hb13) (And.intro (blk_below X.out.2.1 hb13) (blk_below X.out.2.2 hb13)))
    clear y0 y1 hb3 hb13 hB2 hg X B1
    have y0 := (blk_cell X3.out.1 0).trans rfl
    have y1 := (blk_cell X3.out.2.1 0).trans rfl
    have y2 := (blk_cell X3.out.2.2 0).trans rfl
    have y3 := (blk_cell X3.out.2.2 1).trans rfl
    cases g
    · have h := HH.out
      clear HH
      simp only [↓reduceIte, Bool.false_eq_true] at h
      obtain ⟨⟨when, e⟩, hwe, h⟩ := Option.bind_eq_some_iff.1 h
      by_cases g0 : e = 0 ∨ e = 8
      · rw [if_pos g0] at h
        by_cases hl : 0 < (l0.length : Int)
        · rw [if_pos hl] at h
          obtain ⟨ad, rfl, hx, _⟩ := at_T88 HR0.out 0 (by omega) hl
          rw [show ((0 : Int)).toNat = 0 from rfl, show 0 * 6 = 0 from rfl, Addr.add_zero'] at hx
          have hxl := World.block_lt_of_cell? w _ hx
          obtain ⟨ta, hta⟩ : ∃ ta, (rd_T88 l0 0).f0.f0 = ta := ⟨_, rfl⟩
          rw [hta] at hx h
          obtain ⟨m1, hm1⟩ : ∃ m1, wrap64 (Int.tmod a3 1500 + 1500) = m1 := ⟨_, rfl⟩
          rw [hm1] at h
          have hm1w : IntKind.i64.wrap (Int.tmod a3 1500 + 1500) = m1 := (i64_w _).trans hm1
          obtain ⟨t1, ht1⟩ : ∃ t1, wrap64 (ta + Int.tmod m1 1500) = t1 := ⟨_, rfl⟩
          rw [ht1] at h
          have ht1w : IntKind.i64.wrap (ta + Int.tmod m1 1500) = t1 := (i64_w _).trans ht1
          have hl0 : (0 < l0.length) = True := eq_true (by omega)
          obtain ⟨⟨q1, q2⟩, hq, _⟩ := Option.bind_eq_some_iff.1 h
          have hq0 := Aside0.mk hq
          have HH := Aside0.mk h
          have eg : ∀ args w, (callFunc 45 args).run Try.prog w = .ok (.enter 45 args) w := enters_of Try.func45 (by kernel_rfl) rfl
          clear h hl hta
          rcases g0 with rfl | rfl
          · by_cases ht : t1 < when
            · have dT : decide (t1 < when) = true := decide_eq_true ht
              clear ht
              go_wp2_with (first | (go_at_call 44; refine (probe_First.calls k (some ad) c0 l0 A1 c1 l1 a2_0 a2_1 when 0 _ (Kd.C_below HR0.out B3.out) hc0 (Kd.C_below HR1.out B3.out) hc1 hwe).mono ?_; rintro e_ w4 ⟨rfl, hb4⟩; clear hwe; have B4 := Aside0.mk (below_step B3.out hb4); have X4 := Aside0.mk (And.intro (blk_below X3.out.1 hb4) (And.intro (blk_below X3.out.2.1 hb4) (blk_below X3.out.2.2 hb4))); clear y0 y1 y2 y3 hb4 X3 B3; have y0 := (blk_cell X4.out.1 0).trans rfl; have x4 := (B4.out.cell hxl).trans hx) | (go_at_fn 45; refine (skywaykeep1_ProbeFirst_1.calls k X4.out.1 X4.out.2.1 X4.out.2.2 (Kd.C_below HR0.out B4.out) hc0 (Kd.C_below HR1.out B4.out) hc1 hq).mono ?_; rintro e_ w5 ⟨rfl, hb5⟩; clear hq; have B5 := Aside0.mk (below_step B4.out hb5); have X5 := Aside0.mk (And.intro (blk_below X4.out.1 hb5) (And.intro (blk_below X4.out.2.1 hb5) (blk_below X4.out.2.2 hb5))); clear y0 x4 hb5 X4 B4; rcases q1 with _ | _ <;> rcases q2 with _ | _))
              · obtain ⟨⟨z1, z2⟩, hz, hr⟩ : ∃ z, skywaykeep1_ProbeFirst_1.f k l0 l1 a2_0 a2_1 when = some z ∧ (z.2 && !z.1) = r := by simpa [skywaykeep1_ProbeFirst.g, hq0.out, dT, Option.bind_eq_some_iff] using HH.out
                have HZ := Aside0.mk hr
                clear hr HH hq0
                go_wp2_with (go_at_fn 45; refine (skywaykeep1_ProbeFirst_1.calls k X5.out.1 X5.out.2.1 X5.out.2.2 (Kd.C_below HR0.out B5.out) hc0 (Kd.C_below HR1.out B5.out) hc1 hz).mono ?_; rintro e_ w6 ⟨rfl, hb6⟩; clear hz; have B6 := Aside0.mk (below_step B5.out hb6); clear hb6; rcases z1 with _ | _ <;> rcases z2 with _ | _)
                all_goals
                  obtain rfl := HZ.out
                  go_wp2
                  go_ret
                  exact ⟨rfl, B6.out⟩
              · obtain rfl : false = r := by simpa [skywaykeep1_ProbeFirst.g, hq0.out, dT] using HH.out
                go_wp2
                go_ret
                exact ⟨rfl, B5.out⟩
              · obtain ⟨⟨z1, z2⟩, hz, hr⟩ : ∃ z, skywaykeep1_ProbeFirst_1.f k l0 l1 a2_0 a2_1 when = some z ∧ (z.2 && !z.1) = r := by simpa [skywaykeep1_ProbeFirst.g, hq0.out, dT, Option.bind_eq_some_iff] using HH.out
                have HZ := Aside0.mk hr
                clear hr HH hq0
                go_wp2_with (go_at_fn 45; refine (skywaykeep1_ProbeFirst_1.calls k X5.out.1 X5.out.2.1 X5.out.2.2 (Kd.C_below HR0.out B5.out) hc0 (Kd.C_below HR1.out B5.out) hc1 hz).mono ?_; rintro e_ w6 ⟨rfl, hb6⟩; clear hz; have B6 := Aside0.mk (below_step B5.out hb6); clear hb6; rcases z1 with _ | _ <;> rcases z2 with _ | _)
                all_goals
                  obtain rfl := HZ.out
                  go_wp2
                  go_ret
                  exact ⟨rfl, B6.out⟩
              · obtain ⟨⟨z1, z2⟩, hz, hr⟩ : ∃ z, skywaykeep1_ProbeFirst_1.f k l0 l1 a2_0 a2_1 when = some z ∧ (z.2 && !z.1) = r := by simpa [skywaykeep1_ProbeFirst.g, hq0.out, dT, Option.bind_eq_some_iff] using HH.out
                have HZ := Aside0.mk hr
                clear hr HH hq0
                go_wp2_with (go_at_fn 45; refine (skywaykeep1_ProbeFirst_1.calls k X5.out.1 X5.out.2.1 X5.out.2.2 (Kd.C_below HR0.out B5.out) hc0 (Kd.C_below HR1.out B5.out) hc1 hz).mono ?_; rintro e_ w6 ⟨rfl, hb6⟩; clear hz; have B6 := Aside0.mk (below_step B5.out hb6); clear hb6; rcases z1 with _ | _ <;> rcases z2 with _ | _)
                all_goals
                  obtain rfl := HZ.out
                  go_wp2
                  go_ret
                  exact ⟨rfl, B6.out⟩
            · have dT : decide (t1 < when) = false := decide_eq_false ht
              clear ht
              go_wp2_with (first | (go_at_call 44; refine (probe_First.calls k (some ad) c0 l0 A1 c1 l1 a2_0 a2_1 when 0 _ (Kd.C_below HR0.out B3.out) hc0 (Kd.C_below HR1.out B3.out) hc1 hwe).mono ?_; rintro e_ w4 ⟨rfl, hb4⟩; clear hwe; have B4 := Aside0.mk (below_step B3.out hb4); have X4 := Aside0.mk (And.intro (blk_below X3.out.1 hb4) (And.intro (blk_below X3.out.2.1 hb4) (blk_below X3.out.2.2 hb4))); clear y0 y1 y2 y3 hb4 X3 B3; have y0 := (blk_cell X4.out.1 0).trans rfl; have x4 := (B4.out.cell hxl).trans hx) | (go_at_fn 45; refine (skywaykeep1_ProbeFirst_1.calls k X4.out.1 X4.out.2.1 X4.out.2.2 (Kd.C_below HR0.out B4.out) hc0 (Kd.C_below HR1.out B4.out) hc1 hq).mono ?_; rintro e_ w5 ⟨rfl, hb5⟩; clear hq; have B5 := Aside0.mk (below_step B4.out hb5); have X5 := Aside0.mk (And.intro (blk_below X4.out.1 hb5) (And.intro (blk_below X4.out.2.1 hb5) (blk_below X4.out.2.2 hb5))); clear y0 x4 hb5 X4 B4; rcases q1 with _ | _ <;> rcases q2 with _ | _))
              · obtain ⟨⟨z1, z2⟩, hz, hr⟩ : ∃ z, skywaykeep1_ProbeFirst_1.f k l0 l1 a2_0 a2_1 when = some z ∧ (z.2 && !z.1) = r := by simpa [skywaykeep1_ProbeFirst.g, hq0.out, dT, Option.bind_eq_some_iff] using HH.out
                have HZ := Aside0.mk hr
                clear hr HH hq0
                go_wp2_with (go_at_fn 45; refine (skywaykeep1_ProbeFirst_1.calls k X5.out.1 X5.out.2.1 X5.out.2.2 (Kd.C_below HR0.out B5.out) hc0 (Kd.C_below HR1.out B5.out) hc1 hz).mono ?_; rintro e_ w6 ⟨rfl, hb6⟩; clear hz; have B6 := Aside0.mk (below_step B5.out hb6); clear hb6; rcases z1 with _ | _ <;> rcases z2 with _ | _)
                all_goals
                  obtain rfl := HZ.out
                  go_wp2
                  go_ret
                  exact ⟨rfl, B6.out⟩
              · obtain ⟨⟨z1, z2⟩, hz, hr⟩ : ∃ z, skywaykeep1_ProbeFirst_1.f k l0 l1 a2_0 a2_1 when = some z ∧ (z.2 && !z.1) = r := by simpa [skywaykeep1_ProbeFirst.g, hq0.out, dT, Option.bind_eq_some_iff] using HH.out
                have HZ := Aside0.mk hr
                clear hr HH hq0
                go_wp2_with (go_at_fn 45; refine (skywaykeep1_ProbeFirst_1.calls k X5.out.1 X5.out.2.1 X5.out.2.2 (Kd.C_below HR0.out B5.out) hc0 (Kd.C_below HR1.out B5.out) hc1 hz).mono ?_; rintro e_ w6 ⟨rfl, hb6⟩; clear hz; have B6 := Aside0.mk (below_step B5.out hb6); clear hb6; rcases z1 with _ | _ <;> rcases z2 with _ | _)
                all_goals
                  obtain rfl := HZ.out
                  go_wp2
                  go_ret
                  exact ⟨rfl, B6.out⟩
              · obtain ⟨⟨z1, z2⟩, hz, hr⟩ : ∃ z, skywaykeep1_ProbeFirst_1.f k l0 l1 a2_0 a2_1 when = some z ∧ (z.2 && !z.1) = r := by simpa [skywaykeep1_ProbeFirst.g, hq0.out, dT, Option.bind_eq_some_iff] using HH.out
                have HZ := Aside0.mk hr
                clear hr HH hq0
                go_wp2_with (go_at_fn 45; refine (skywaykeep1_ProbeFirst_1.calls k X5.out.1 X5.out.2.1 X5.out.2.2 (Kd.C_below HR0.out B5.out) hc0 (Kd.C_below HR1.out B5.out) hc1 hz).mono ?_; rintro e_ w6 ⟨rfl, hb6⟩; clear hz; have B6 := Aside0.mk (below_step B5.out hb6); clear hb6; rcases z1 with _ | _ <;> rcases z2 with _ | _)
                all_goals
                  obtain rfl := HZ.out
                  go_wp2
                  go_ret
                  exact ⟨rfl, B6.out⟩
              · obtain ⟨⟨z1, z2⟩, hz, hr⟩ : ∃ z, skywaykeep1_ProbeFirst_1.f k l0 l1 a2_0 a2_1 when = some z ∧ (z.2 && !z.1) = r := by simpa [skywaykeep1_ProbeFirst.g, hq0.out, dT, Option.bind_eq_some_iff] using HH.out
                have HZ := Aside0.mk hr
                clear hr HH hq0
                go_wp2_with (go_at_fn 45; refine (skywaykeep1_ProbeFirst_1.calls k X5.out.1 X5.out.2.1 X5.out.2.2 (Kd.C_below HR0.out B5.out) hc0 (Kd.C_below HR1.out B5.out) hc1 hz).mono ?_; rintro e_ w6 ⟨rfl, hb6⟩; clear hz; have B6 := Aside0.mk (below_step B5.out hb6); clear hb6; rcases z1 with _ | _ <;> rcases z2 with _ | _)
                all_goals
                  obtain rfl := HZ.out
                  go_wp2
                  go_ret
                  exact ⟨rfl, B6.out⟩
          · by_cases ht : t1 < when
            · have dT : decide (t1 < when) = true := decide_eq_true ht
              clear ht
              go_wp2_with (first | (go_at_call 44; refine (probe_First.calls k (some ad) c0 l0 A1 c1 l1 a2_0 a2_1 when 8 _ (Kd.C_below HR0.out B3.out) hc0 (Kd.C_below HR1.out B3.out) hc1 hwe).mono ?_; rintro e_ w4 ⟨rfl, hb4⟩; clear hwe; have B4 := Aside0.mk (below_step B3.out hb4); have X4 := Aside0.mk (And.intro (blk_below X3.out.1 hb4) (And.intro (blk_below X3.out.2.1 hb4) (blk_below X3.out.2.2 hb4))); clear y0 y1 y2 y3 hb4 X3 B3; have y0 := (blk_cell X4.out.1 0).trans rfl; have x4 := (B4.out.cell hxl).trans hx) | (go_at_fn 45; refine (skywaykeep1_ProbeFirst_1.calls k X4.out.1 X4.out.2.1 X4.out.2.2 (Kd.C_below HR0.out B4.out) hc0 (Kd.C_below HR1.out B4.out) hc1 hq).mono ?_; rintro e_ w5 ⟨rfl, hb5⟩; clear hq; have B5 := Aside0.mk (below_step B4.out hb5); have X5 := Aside0.mk (And.intro (blk_below X4.out.1 hb5) (And.intro (blk_below X4.out.2.1 hb5) (blk_below X4.out.2.2 hb5))); clear y0 x4 hb5 X4 B4; rcases q1 with _ | _ <;> rcases q2 with _ | _))
              · obtain rfl : (when == 0) = r := by simpa [skywaykeep1_ProbeFirst.g, hq0.out, dT] using HH.out
                go_wp2
                go_ret
                exact ⟨rfl, B5.out⟩
              · obtain rfl : false = r := by simpa [skywaykeep1_ProbeFirst.g, hq0.out, dT] using HH.out
                go_wp2
                go_ret
                exact ⟨rfl, B5.out⟩
              · obtain rfl : (when == 0) = r := by simpa [skywaykeep1_ProbeFirst.g, hq0.out, dT] using HH.out
                go_wp2
                go_ret
                exact ⟨rfl, B5.out⟩
              · obtain rfl : (when == 0) = r := by simpa [skywaykeep1_ProbeFirst.g, hq0.out, dT] using HH.out
                go_wp2
                go_ret
                exact ⟨rfl, B5.out⟩
            · have dT : decide (t1 < when) = false := decide_eq_false ht
              clear ht
              go_wp2_with (first | (go_at_call 44; refine (probe_First.calls k (some ad) c0 l0 A1 c1 l1 a2_0 a2_1 when 8 _ (Kd.C_below HR0.out B3.out) hc0 (Kd.C_below HR1.out B3.out) hc1 hwe).mono ?_; rintro e_ w4 ⟨rfl, hb4⟩; clear hwe; have B4 := Aside0.mk (below_step B3.out hb4); have X4 := Aside0.mk (And.intro (blk_below X3.out.1 hb4) (And.intro (blk_below X3.out.2.1 hb4) (blk_below X3.out.2.2 hb4))); clear y0 y1 y2 y3 hb4 X3 B3; have y0 := (blk_cell X4.out.1 0).trans rfl; have x4 := (B4.out.cell hxl).trans hx) | (go_at_fn 45; refine (skywaykeep1_ProbeFirst_1.calls k X4.out.1 X4.out.2.1 X4.out.2.2 (Kd.C_below HR0.out B4.out) hc0 (Kd.C_below HR1.out B4.out) hc1 hq).mono ?_; rintro e_ w5 ⟨rfl, hb5⟩; clear hq; have B5 := Aside0.mk (below_step B4.out hb5); have X5 := Aside0.mk (And.intro (blk_below X4.out.1 hb5) (And.intro (blk_below X4.out.2.1 hb5) (blk_below X4.out.2.2 hb5))); clear y0 x4 hb5 X4 B4; rcases q1 with _ | _ <;> rcases q2 with _ | _))
              · obtain rfl : (when == 0) = r := by simpa [skywaykeep1_ProbeFirst.g, hq0.out, dT] using HH.out
                go_wp2
                go_ret
                exact ⟨rfl, B5.out⟩
              · obtain rfl : false = r := by simpa [skywaykeep1_ProbeFirst.g, hq0.out, dT] using HH.out
                go_wp2
                go_ret
                exact ⟨rfl, B5.out⟩
              · obtain rfl : (when == 0) = r := by simpa [skywaykeep1_ProbeFirst.g, hq0.out, dT] using HH.out
                go_wp2
                go_ret
                exact ⟨rfl, B5.out⟩
              · obtain rfl : (when == 0) = r := by simpa [skywaykeep1_ProbeFirst.g, hq0.out, dT] using HH.out
                go_wp2
                go_ret
                exact ⟨rfl, B5.out⟩
        · rw [if_neg hl] at h; cases h
      · rw [if_neg g0] at h
        have e0 : (e == 0) = false := beq_eq_false_iff_ne.2 (fun z => g0 (.inl z))
        have e8 : (e == 8) = false := beq_eq_false_iff_ne.2 (fun z => g0 (.inr z))
        have e0' : (e != 0) = true := bne_iff_ne.2 (fun z => g0 (.inl z))
        have e8' : (e != 8) = true := bne_iff_ne.2 (fun z => g0 (.inr z))
        obtain rfl : (when == 0) = r := by simpa using h
        clear g0 h
        go_wp2_with (go_at_call 44; refine (probe_First.calls k A0 c0 l0 A1 c1 l1 a2_0 a2_1 when e _ (Kd.C_below HR0.out B3.out) hc0 (Kd.C_below HR1.out B3.out) hc1 hwe).mono ?_; rintro e_ w4 ⟨rfl, hb4⟩; clear hwe; have B4 := Aside0.mk (below_step B3.out hb4); have X4 := Aside0.mk (And.intro (blk_below X3.out.1 hb4) (And.intro (blk_below X3.out.2.1 hb4) (blk_below X3.out.2.2 hb4))); clear y0 y1 y2 y3 hb4 X3 B3; have y0 := (blk_cell X4.out.1 0).trans rfl; have y1 := (blk_cell X4.out.2.1 0).trans rfl)
        go_ret
        exact ⟨rfl, B4.out⟩
    · have h := HH.out
      clear HH
      obtain rfl : true = r := by simpa using h
      clear h
      go_wp2
      go_ret
      exact ⟨rfl, B3.out⟩
end

/-- What is told of a value of struct type 36 that came in. -/
def good36 (x : S36) : Prop := ((Lit.int .i64 x.f0).wf = true) ∧ (Lit.int .i64 x.f1).wf = true
/-- What is told of a value of struct type 71 that came in. -/
def good71 (x : S71) : Prop := ((Lit.int .i64 x.f0).wf = true) ∧ (good36 x.f1) ∧ (Lit.int .i64 x.f2).wf = true
/-- What is told of a value of struct type 88 that came in. -/
def good88 (x : S88) : Prop := (good71 x.f0) ∧ ((Lit.int .i64 x.f1).wf = true) ∧ (Lit.int .i64 x.f2).wf = true
/-- What is told of a value of struct type 100 that came in. -/
def good100 (x : S100) : Prop := ((Lit.int .i64 x.f0).wf = true) ∧ (Lit.int .i64 x.f1).wf = true
/-- THE ONE PURE STATEMENT of skywaykeep1_ProbeFirst. -/
def skywaykeep1_ProbeFirst.Pure : Prop := ∀ (l0 : List (S88)) (l1 : List (S88)) (a2_0 : Int) (a2_1 : Int) (a3 : Int), (l0.length * 48 ≤ 140737488351232 ∧ ∀ y0 ∈ l0, good88 y0) → (l1.length * 48 ≤ 140737488351232 ∧ ∀ y0 ∈ l1, good88 y0) → ((Lit.int .i64 a2_0).wf = true) → ((Lit.int .i64 a2_1).wf = true) → ((Lit.int .i64 a3).wf = true) → ∃ k, skywaykeep1_ProbeFirst.f k l0 l1 a2_0 a2_1 a3 = some true

end Go.Proofs.Ytbpbpojnfhhbjaa.PProbeFirst
