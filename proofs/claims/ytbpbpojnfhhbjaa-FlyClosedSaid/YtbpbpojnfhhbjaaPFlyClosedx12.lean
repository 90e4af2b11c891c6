/- Made by a program of this session (wip/tools/myprint.py, over the kit's printer): that the Go functions answer as the Lean functions printed beside them. -/
import Derived.Test.YtbpbpojnfhhbjaaPFlyClosedx0
import Derived.Test.YtbpbpojnfhhbjaaPFlyClosedx4
import Derived.Test.YtbpbpojnfhhbjaaPFlyClosedx10
import Derived.Test.YtbpbpojnfhhbjaaPFlyClosedx11
import Derived.IntWalk
namespace Go.Proofs.Ytbpbpojnfhhbjaa.PFlyClosed
open Go.RowKit Go.Proofs.YtbpbpojnfhhbjaaW.PrintWords Go.Proofs.YtbpbpojnfhhbjaaW.PrintLast Go.Proofs.YtbpbpojnfhhbjaaW.PrintMore
attribute [local go_sem] max2_int min2_int max_two min_two max_three min_three max_four min_four   -- for this text's walks alone
set_option linter.unusedVariables false
set_option linter.unusedSimpArgs false

/-! ### skywaykeep1_FlyClosed: function 10 -/
-- IMPORT IntWalk
section
open Go Go.RowKit
theorem nil_iff (s : ByteArray) : s.toList = [] ↔ s = ⟨#[]⟩ := by
  have := IdxF.bytes_eq (a := s) (b := ⟨#[]⟩)
  rwa [show (⟨#[]⟩ : ByteArray).toList = [] by simp] at this
theorem below_drw {w W : World} (h : Below w.heap.size w W) : Below w.heap.size w W.drew := ⟨h.os, h.tape, h.output, h.size, h.block⟩
def skywaykeep1_FlyClosed.go (k : Nat) (l0 : List S71) (nm : ByteArray) (when e t : Int) : List S65 → Option Bool
  | [] => some ((e == 8 && decide (nm = ⟨#[]⟩)) && when == 0)
  | x :: xs => (skywaykeep1_FlyClosed_1.f k l0 x t).bind fun b => if (b && ((e == 8) || decide (t < when))) = true then some false else if e = 0 ∧ x.f0 = nm then (skywaykeep1_FlyClosed_1.f k l0 x when).bind fun p => if p = true then some true else some (decide (t < when) && b) else skywaykeep1_FlyClosed.go k l0 nm when e t xs
def skywaykeep1_FlyClosed.f (k : Nat) (l0 : List S71) (l1 : List S65) (a2 : Int) : Option Bool :=
  (skywaykeep1_flyWorks.f k).bind fun b => if b = true then (if 0 < (l0.length : Int) ∧ wrap64 ((rd_T71 l0 ((l0.length : Int) - 1)).f0 - (rd_T71 l0 0).f0) > 2000 then some true else
    (fly_Closed.f k l0 l1).bind fun c => if c.2.2 ≠ 0 ∧ c.2.2 ≠ 8 then some (decide (c.1 = ⟨#[]⟩) && c.2.1 == 0) else
      if 0 < (l0.length : Int) then skywaykeep1_FlyClosed.go k l0 c.1 c.2.1 c.2.2 (wrap64 ((rd_T71 l0 0).f0 + Int.tmod (wrap64 (Int.tmod a2 2000 + 2000)) 2000)) l1 else none) else some false
set_option maxRecDepth 100000 in
set_option maxHeartbeats 8000000 in
theorem skywaykeep1_FlyClosed.calls (k : Nat) (A0 : Option Addr) (c0 : Nat) (l0 : List S71) (A1 : Option Addr) (c1 : Nat) (l1 : List S65) (a2 : Int) (r : Bool) (w : World) (hr0 : Kd.C k71 w A0 l0.length l0) (hc0 : l0.length ≤ c0) (hr1 : Kd.C k65 w A1 l1.length l1) (hc1 : l1.length ≤ c1) (h : skywaykeep1_FlyClosed.f k l0 l1 a2 = some r) :
    Calls Try.prog 10 #[.slice A0 l0.length c0, .slice A1 l1.length c1, .int .i64 a2] w fun e w' => e = .returned (.bool r) ∧ Below w.heap.size w w' := by
  unfold skywaykeep1_FlyClosed.f at h
  obtain ⟨b, hb, h⟩ := Option.bind_eq_some_iff.1 h
  obtain ⟨W0, hW0⟩ : ∃ W0, w.alloc (.cells #[.slice A0 l0.length c0] 69) = W0 := ⟨_, rfl⟩
  have hB0 : Below w.heap.size w W0 := by rw [← hW0]; exact below_alloc (Below.refl _ _) _
  have HX := Aside0.mk (show W0.heap[w.heap.size]? = some (.cells #[.slice A0 l0.length c0] 69 (0, 0)) by rw [← hW0]; exact blk_new w _)
  have HR0 := Aside0.mk hr0
  have HR1 := Aside0.mk hr1
  have HB0 := Aside0.mk hB0
  have HH := Aside0.mk h
  clear hr0 hr1 hB0 h
  go_enter Try.func10, Try.ntmps10
  go_wp2_with (go_at_call 29; refine (skywaykeep1_flyWorks.calls k b _ hb).mono ?_; rintro e w1 ⟨rfl, hb1⟩; clear hb; have B1 := Aside0.mk (below_step HB0.out hb1); have X := Aside0.mk (blk_below HX.out hb1); clear HX HB0 hb1; have y0 := (blk_cell X.out 0).trans rfl; cases b)
  · obtain rfl : false = r := by simpa using HH.out
    go_wp2
    go_ret
    exact ⟨rfl, B1.out⟩
  · have h := HH.out
    clear HH
    simp only [↓reduceIte] at h
    by_cases g0 : 0 < (l0.length : Int)
    · have gd : (0 < l0.length) = True := eq_true (by omega)
      have gd' : decide (0 < (l0.length : Int)) = true := decide_eq_true g0
      have big := HR0.out.2.1
      obtain ⟨i, hi⟩ : ∃ i, (l0.length : Int) - 1 = i := ⟨_, rfl⟩
      rw [hi] at h
      have hiw : IntKind.i64.wrap ((l0.length : Int) - 1) = i := by rw [← hi]; exact IntWalk.i64_in _ (by omega)
      have i0 : (0 ≤ i) = True := eq_true (by omega)
      have i1 : (i < (l0.length : Int)) = True := eq_true (by omega)
      obtain ⟨ad, rfl, x0, _⟩ := at_T71 HR0.out 0 (by omega) g0
      obtain ⟨ad', e', x1, _⟩ := at_T71 HR0.out i (by omega) (by omega)
      obtain rfl : ad = ad' := by injection e'
      rw [show ((0 : Int)).toNat = 0 from rfl, show 0 * 4 = 0 from rfl, Addr.add_zero'] at x0
      have x0l := World.block_lt_of_cell? w _ x0
      have x1l := World.block_lt_of_cell? w _ x1
      generalize hta : (rd_T71 l0 0).f0 = ta at *
      generalize (rd_T71 l0 i).f0 = ua at *
      obtain ⟨s1, h1⟩ : ∃ s, wrap64 (ua - ta) = s := ⟨_, rfl⟩
      rw [h1] at h
      have h1w : IntKind.i64.wrap (ua - ta) = s1 := (i64_w _).trans h1
      have X0 := Aside0.mk x0
      have X1 := Aside0.mk x1
      have G0 := Aside0.mk g0
      have HI := Aside0.mk hi
      have z0 := (B1.out.cell x0l).trans X0.out
      have z1 := (B1.out.cell x1l).trans X1.out
      clear e' hi big x0 x1 g0 h1
      by_cases g1 : s1 > 2000
      · rw [if_pos ⟨G0.out, g1⟩] at h
        have d1 : decide (s1 > 2000) = true := decide_eq_true g1
        have d2 : decide (2000 < s1) = true := decide_eq_true g1
        clear g1
        obtain rfl : true = r := Option.some.inj h
        clear h
        go_wp2
        go_region
        go_wp2
        go_ret
        exact ⟨rfl, below_drw B1.out⟩
      · rw [if_neg (fun g => g1 g.2)] at h
        have d1 : decide (s1 > 2000) = false := decide_eq_false g1
        have d2 : decide (2000 < s1) = false := decide_eq_false g1
        clear g1
        obtain ⟨⟨nm, when, e⟩, hc, h⟩ := Option.bind_eq_some_iff.1 h
        dsimp only at h
        go_wp2
        go_region
        have B2 := Aside0.mk (below_drw B1.out)
        have XD := Aside0.mk (show w1.drew.heap[w.heap.size]? = some (.cells #[.slice (some ad) l0.length c0] 69 (0, 0)) from X.out)
        have y1 : w1.drew.cell? ⟨w.heap.size, 0, none⟩ = some (.slice (some ad) l0.length c0) := y0
        generalize w1.drew = w2 at *
        clear y0 z0 z1 X B1
        by_cases q : e ≠ 0 ∧ e ≠ 8
        · rw [if_pos q] at h
          have e0 : (e == 0) = false := beq_eq_false_iff_ne.2 q.1
          have e8 : (e == 8) = false := beq_eq_false_iff_ne.2 q.2
          have e0' : (e != 0) = true := bne_iff_ne.2 q.1
          have e8' : (e != 8) = true := bne_iff_ne.2 q.2
          have HH := Aside0.mk (Option.some.inj h)
          clear q h
          go_wp2_with (go_at_call 30; refine (fly_Closed.calls k (some ad) c0 l0 A1 c1 l1 nm when e _ (Kd.C_below HR0.out B2.out) hc0 (Kd.C_below HR1.out B2.out) hc1 hc).mono ?_; rintro e_ w3 ⟨rfl, hb3⟩; clear hc; have B3 := Aside0.mk (below_step B2.out hb3); have X3 := Aside0.mk (blk_below XD.out hb3); clear y1 XD B2 hb3; have y3 := (blk_cell X3.out 0).trans rfl; have z3 := (B3.out.cell x0l).trans X0.out)
          all_goals
            go_ret
            refine ⟨congrArg (fun b => Ending.returned (Value.bool b)) (HH.out.symm.trans ?_).symm, B3.out⟩
            first | (rw [decide_eq_true ((nil_iff nm).1 (by assumption))]; rfl) | (rw [decide_eq_false (fun g => absurd ((nil_iff nm).2 g) (by assumption))]; rfl)
        · rw [if_neg q, if_pos G0.out] at h
          have q' : e = 0 ∨ e = 8 := by omega
          clear q
          obtain ⟨m1, hm1⟩ : ∃ m1, wrap64 (Int.tmod a2 2000 + 2000) = m1 := ⟨_, rfl⟩
          rw [hm1] at h
          have hm1w : IntKind.i64.wrap (Int.tmod a2 2000 + 2000) = m1 := (i64_w _).trans hm1
          obtain ⟨t1, ht1⟩ : ∃ t1, wrap64 (ta + Int.tmod m1 2000) = t1 := ⟨_, rfl⟩
          rw [ht1] at h
          have ht1w : IntKind.i64.wrap (ta + Int.tmod m1 2000) = t1 := (i64_w _).trans ht1
          have HG := Aside0.mk h
          clear h hm1 ht1
          rcases q' with rfl | rfl
          · have eg : ∀ args w, (callFunc 31 args).run Try.prog w = .ok (.enter 31 args) w := enters_of Try.func31 (by kernel_rfl) rfl
            go_wp2_with (go_at_call 30; refine (fly_Closed.calls k (some ad) c0 l0 A1 c1 l1 nm when 0 _ (Kd.C_below HR0.out B2.out) hc0 (Kd.C_below HR1.out B2.out) hc1 hc).mono ?_; rintro e_ w3 ⟨rfl, hb3⟩; clear hc; have B3 := Aside0.mk (below_step B2.out hb3); have X3 := Aside0.mk (blk_below XD.out hb3); clear y1 XD B2 hb3; have y3 := (blk_cell X3.out 0).trans rfl; have z3 := (B3.out.cell x0l).trans X0.out)
            go_loopg [64] l1.length (fun gg s64 wr => ∃ kk : Nat, kk ≤ l1.length ∧ l1.length - kk ≤ gg ∧ s64 = .int .i64 kk ∧ Aside0 (Below w.heap.size w wr) ∧ Aside0 (wr.heap[w.heap.size]? = some (.cells #[.slice (some ad) l0.length c0] 69 (0, 0))) ∧ Aside0 (skywaykeep1_FlyClosed.go k l0 nm when 0 t1 (l1.drop kk) = some r))
            case atStart => exact ⟨0, Nat.zero_le _, by omega, rfl, B3, X3, HG⟩
            case round =>
              clear HG B3 X3 y3 z3
              obtain ⟨kk, hkk, hg, rfl, BW, XW, HG⟩ := hrel
              have hgo := HG.out
              by_cases hlt : kk < l1.length
              · have hltz : (kk : Int) < (l1.length : Int) := by omega
                obtain ⟨ad1, A2, c2, A3, c3, e1, m0, m1, m2, m3, m4, hp1, hp2, hp3, hp4⟩ := at_T65 (Kd.C_below HR1.out BW.out) (kk : Int) (by omega) hltz
                have hx : rd_T65 l1 (kk : Int) = l1[kk] := by unfold rd_T65; rw [Int.toNat_natCast, List.getD_eq_getElem?_getD, List.getElem?_eq_getElem hlt]; rfl
                rw [List.drop_eq_getElem_cons hlt, ← hx, skywaykeep1_FlyClosed.go] at hgo
                clear hx HG
                generalize rd_T65 l1 (kk : Int) = X at *
                obtain ⟨nx, ⟨p, lo, hi⟩, sp⟩ := X
                dsimp only at m0 m1 m2 m3 m4 hp1 hp2 hp3 hp4 hgo
                rw [Int.toNat_natCast] at m0 m1 m2 m3 m4
                subst e1
                have HP := Aside0.mk hp2
                have HP2 := Aside0.mk hp4
                clear hp2 hp4
                obtain ⟨bb, hbb, hg1⟩ := Option.bind_eq_some_iff.1 hgo
                have hbb0 := Aside0.mk hbb
                clear hgo
                have BA1 := Aside0.mk (below_alloc (Below.refl _ wr) (.cells #[.string nx, .slice A2 p.length c2, .int .i64 lo, .int .i64 hi, .slice A3 sp.length c3] 65))
                have BA := Aside0.mk (below_step BW.out BA1.out)
                have XA := Aside0.mk (blk_alloc XW.out (.cells #[.string nx, .slice A2 p.length c2, .int .i64 lo, .int .i64 hi, .slice A3 sp.length c3] 65))
                have l0_ := blk_lt XW.out
                by_cases ht : t1 < when
                · have dT : decide (t1 < when) = true := decide_eq_true ht
                  rw [dT] at hg1
                  clear ht
                  rcases bb with _ | _
                  · simp only [Bool.false_and, Bool.false_eq_true, if_false, Bool.true_and] at hg1
                    by_cases c : nx = nm
                    · rw [if_pos ⟨trivial, c⟩] at hg1
                      have cb : (nx.toList == nm.toList) = true := by rw [IdxF.str_eq]; exact decide_eq_true c
                      clear c
                      obtain ⟨pp, hpp, hg2⟩ := Option.bind_eq_some_iff.1 hg1
                      have HG := Aside0.mk hg2
                      clear hg1 hg2
                      go_wp2_with (first | (go_at_fn 31; refine (skywaykeep1_FlyClosed_1.calls k XA.out (Kd.C_below HR0.out BA.out) hc0 (Kd.C_below HP.out BA1.out) hp1 (Kd.C_below HP2.out BA1.out) hp3 hbb).mono ?_; rintro e_ w5 ⟨rfl, hb5⟩; clear hbb; have B5 := Aside0.mk (below_step BA.out hb5); have X5 := Aside0.mk (blk_below XA.out hb5); have M5 := Aside0.mk (blk_below (blk_new wr (.cells #[.string nx, .slice A2 p.length c2, .int .i64 lo, .int .i64 hi, .slice A3 sp.length c3] 65)) hb5); have R5 := Aside0.mk (And.intro (Kd.C_below (Kd.C_below HP.out BA1.out) hb5) (Kd.C_below (Kd.C_below HP2.out BA1.out) hb5)); clear hb5 BA BA1 XA; have n0 := (blk_cell M5.out 0).trans rfl; have n1 := (blk_cell M5.out 1).trans rfl; have n2 := (blk_cell M5.out 2).trans rfl; have n3 := (blk_cell M5.out 3).trans rfl; have n4 := (blk_cell M5.out 4).trans rfl) | (go_at_fn 31; refine (skywaykeep1_FlyClosed_1.calls k X5.out (Kd.C_below HR0.out B5.out) hc0 R5.out.1 hp1 R5.out.2 hp3 hpp).mono ?_; rintro e_ w6 ⟨rfl, hb6⟩; clear hpp n0 n1 n2 n3 n4; have B6 := Aside0.mk (below_step B5.out hb6); have X6 := Aside0.mk (blk_below X5.out hb6); have M6 := Aside0.mk (blk_below M5.out hb6); have R6 := Aside0.mk (And.intro (Kd.C_below R5.out.1 hb6) (Kd.C_below R5.out.2 hb6)); clear hb6 B5 X5 R5 M5; have n0 := (blk_cell M6.out 0).trans rfl; have n1 := (blk_cell M6.out 1).trans rfl; have n2 := (blk_cell M6.out 2).trans rfl; have n3 := (blk_cell M6.out 3).trans rfl; have n4 := (blk_cell M6.out 4).trans rfl; rcases pp with _ | _) | (go_at_fn 31; refine (skywaykeep1_FlyClosed_1.calls k X6.out (Kd.C_below HR0.out B6.out) hc0 R6.out.1 hp1 R6.out.2 hp3 hbb0.out).mono ?_; rintro e_ w7 ⟨rfl, hb7⟩; have B7 := Aside0.mk (below_step B6.out hb7); clear hb7 n0 n1 n2 n3 n4))
                      · obtain rfl : false = r := by simpa using HG.out
                        go_ret
                        exact ⟨rfl, B7.out⟩
                      · obtain rfl : true = r := by simpa using HG.out
                        go_ret
                        exact ⟨rfl, B6.out⟩
                    · rw [if_neg (fun g => c g.2)] at hg1
                      have cb : (nx.toList == nm.toList) = false := by rw [IdxF.str_eq]; exact decide_eq_false c
                      have HG := Aside0.mk hg1
                      clear hg1 c
                      go_wp2_with (go_at_fn 31; refine (skywaykeep1_FlyClosed_1.calls k XA.out (Kd.C_below HR0.out BA.out) hc0 (Kd.C_below HP.out BA1.out) hp1 (Kd.C_below HP2.out BA1.out) hp3 hbb).mono ?_; rintro e_ w5 ⟨rfl, hb5⟩; clear hbb; have B5 := Aside0.mk (below_step BA.out hb5); have X5 := Aside0.mk (blk_below XA.out hb5); have M5 := Aside0.mk (blk_below (blk_new wr (.cells #[.string nx, .slice A2 p.length c2, .int .i64 lo, .int .i64 hi, .slice A3 sp.length c3] 65)) hb5); have R5 := Aside0.mk (And.intro (Kd.C_below (Kd.C_below HP.out BA1.out) hb5) (Kd.C_below (Kd.C_below HP2.out BA1.out) hb5)); clear hb5 BA BA1 XA; have n0 := (blk_cell M5.out 0).trans rfl; have n1 := (blk_cell M5.out 1).trans rfl; have n2 := (blk_cell M5.out 2).trans rfl; have n3 := (blk_cell M5.out 3).trans rfl; have n4 := (blk_cell M5.out 4).trans rfl)
                      go_roundg (l1.length - (kk + 1))
                      case measure => omega
                      case rel => have big1 := HR1.out.2.1; exact ⟨kk + 1, by omega, by omega, (by first | (rw [IntWalk.i64_in ((kk : Int) + 1) (by omega)]; rfl) | (rw [(i64_w ((kk : Int) + 1)).symm.trans (IntWalk.i64_in ((kk : Int) + 1) (by omega))]; rfl)), B5, X5, HG⟩
                  · obtain rfl : false = r := by simpa using hg1
                    clear hg1
                    go_wp2_with (go_at_fn 31; refine (skywaykeep1_FlyClosed_1.calls k XA.out (Kd.C_below HR0.out BA.out) hc0 (Kd.C_below HP.out BA1.out) hp1 (Kd.C_below HP2.out BA1.out) hp3 hbb).mono ?_; rintro e_ w5 ⟨rfl, hb5⟩; clear hbb; have B5 := Aside0.mk (below_step BA.out hb5); have X5 := Aside0.mk (blk_below XA.out hb5); have M5 := Aside0.mk (blk_below (blk_new wr (.cells #[.string nx, .slice A2 p.length c2, .int .i64 lo, .int .i64 hi, .slice A3 sp.length c3] 65)) hb5); have R5 := Aside0.mk (And.intro (Kd.C_below (Kd.C_below HP.out BA1.out) hb5) (Kd.C_below (Kd.C_below HP2.out BA1.out) hb5)); clear hb5 BA BA1 XA; have n0 := (blk_cell M5.out 0).trans rfl; have n1 := (blk_cell M5.out 1).trans rfl; have n2 := (blk_cell M5.out 2).trans rfl; have n3 := (blk_cell M5.out 3).trans rfl; have n4 := (blk_cell M5.out 4).trans rfl)
                    go_ret
                    exact ⟨rfl, B5.out⟩
                · have dT : decide (t1 < when) = false := decide_eq_false ht
                  rw [dT] at hg1
                  clear ht
                  have hg3 : (if (0 : Int) = 0 ∧ nx = nm then (skywaykeep1_FlyClosed_1.f k l0 ⟨nx, ⟨p, lo, hi⟩, sp⟩ when).bind fun p => if p = true then some true else some (false && bb) else skywaykeep1_FlyClosed.go k l0 nm when 0 t1 (l1.drop (kk + 1))) = some r := by
                    rw [if_neg (by cases bb <;> decide)] at hg1
                    exact hg1
                  clear hg1
                  by_cases c : nx = nm
                  · rw [if_pos ⟨rfl, c⟩] at hg3
                    have cb : (nx.toList == nm.toList) = true := by rw [IdxF.str_eq]; exact decide_eq_true c
                    clear c
                    obtain ⟨pp, hpp, hg2⟩ := Option.bind_eq_some_iff.1 hg3
                    have HG := Aside0.mk hg2
                    clear hg3 hg2
                    rcases bb with _ | _
                    all_goals
                      go_wp2_with (first | (go_at_fn 31; refine (skywaykeep1_FlyClosed_1.calls k XA.out (Kd.C_below HR0.out BA.out) hc0 (Kd.C_below HP.out BA1.out) hp1 (Kd.C_below HP2.out BA1.out) hp3 hbb).mono ?_; rintro e_ w5 ⟨rfl, hb5⟩; clear hbb; have B5 := Aside0.mk (below_step BA.out hb5); have X5 := Aside0.mk (blk_below XA.out hb5); have M5 := Aside0.mk (blk_below (blk_new wr (.cells #[.string nx, .slice A2 p.length c2, .int .i64 lo, .int .i64 hi, .slice A3 sp.length c3] 65)) hb5); have R5 := Aside0.mk (And.intro (Kd.C_below (Kd.C_below HP.out BA1.out) hb5) (Kd.C_below (Kd.C_below HP2.out BA1.out) hb5)); clear hb5 BA BA1 XA; have n0 := (blk_cell M5.out 0).trans rfl; have n1 := (blk_cell M5.out 1).trans rfl; have n2 := (blk_cell M5.out 2).trans rfl; have n3 := (blk_cell M5.out 3).trans rfl; have n4 := (blk_cell M5.out 4).trans rfl) | (go_at_fn 31; refine (skywaykeep1_FlyClosed_1.calls k X5.out (Kd.C_below HR0.out B5.out) hc0 R5.out.1 hp1 R5.out.2 hp3 hpp).mono ?_; rintro e_ w6 ⟨rfl, hb6⟩; clear hpp n0 n1 n2 n3 n4; have B6 := Aside0.mk (below_step B5.out hb6); have X6 := Aside0.mk (blk_below X5.out hb6); have M6 := Aside0.mk (blk_below M5.out hb6); have R6 := Aside0.mk (And.intro (Kd.C_below R5.out.1 hb6) (Kd.C_below R5.out.2 hb6)); clear hb6 B5 X5 R5 M5; have n0 := (blk_cell M6.out 0).trans rfl; have n1 := (blk_cell M6.out 1).trans rfl; have n2 := (blk_cell M6.out 2).trans rfl; have n3 := (blk_cell M6.out 3).trans rfl; have n4 := (blk_cell M6.out 4).trans rfl; rcases pp with _ | _))
                      · obtain rfl : false = r := by simpa using HG.out
                        go_ret
                        exact ⟨rfl, B6.out⟩
                      · obtain rfl : true = r := by simpa using HG.out
                        go_ret
                        exact ⟨rfl, B6.out⟩
                  · rw [if_neg (fun g => c g.2)] at hg3
                    have cb : (nx.toList == nm.toList) = false := by rw [IdxF.str_eq]; exact decide_eq_false c
                    have HG := Aside0.mk hg3
                    clear hg3 c
                    rcases bb with _ | _
                    all_goals
                      go_wp2_with (go_at_fn 31; refine (skywaykeep1_FlyClosed_1.calls k XA.out (Kd.C_below HR0.out BA.out) hc0 (Kd.C_below HP.out BA1.out) hp1 (Kd.C_below HP2.out BA1.out) hp3 hbb).mono ?_; rintro e_ w5 ⟨rfl, hb5⟩; clear hbb; have B5 := Aside0.mk (below_step BA.out hb5); have X5 := Aside0.mk (blk_below XA.out hb5); have M5 := Aside0.mk (blk_below (blk_new wr (.cells #[.string nx, .slice A2 p.length c2, .int .i64 lo, .int .i64 hi, .slice A3 sp.length c3] 65)) hb5); have R5 := Aside0.mk (And.intro (Kd.C_below (Kd.C_below HP.out BA1.out) hb5) (Kd.C_below (Kd.C_below HP2.out BA1.out) hb5)); clear hb5 BA BA1 XA; have n0 := (blk_cell M5.out 0).trans rfl; have n1 := (blk_cell M5.out 1).trans rfl; have n2 := (blk_cell M5.out 2).trans rfl; have n3 := (blk_cell M5.out 3).trans rfl; have n4 := (blk_cell M5.out 4).trans rfl)
                      go_roundg (l1.length - (kk + 1))
                      case measure => omega
                      case rel => have big1 := HR1.out.2.1; exact ⟨kk + 1, by omega, by omega, (by first | (rw [IntWalk.i64_in ((kk : Int) + 1) (by omega)]; rfl) | (rw [(i64_w ((kk : Int) + 1)).symm.trans (IntWalk.i64_in ((kk : Int) + 1) (by omega))]; rfl)), B5, X5, HG⟩
              · have hltz : decide ((kk : Int) < (l1.length : Int)) = false := decide_eq_false (by omega)
                rw [List.drop_eq_nil_of_le (by omega), skywaykeep1_FlyClosed.go] at hgo
                obtain rfl : false = r := by simpa using hgo
                clear hgo HG
                go_wp2
                go_ret
                exact ⟨rfl, BW.out⟩
          · have eg : ∀ args w, (callFunc 31 args).run Try.prog w = .ok (.enter 31 args) w := enters_of Try.func31 (by kernel_rfl) rfl
            go_wp2_with (go_at_call 30; refine (fly_Closed.calls k (some ad) c0 l0 A1 c1 l1 nm when 8 _ (Kd.C_below HR0.out B2.out) hc0 (Kd.C_below HR1.out B2.out) hc1 hc).mono ?_; rintro e_ w3 ⟨rfl, hb3⟩; clear hc; have B3 := Aside0.mk (below_step B2.out hb3); have X3 := Aside0.mk (blk_below XD.out hb3); clear y1 XD B2 hb3; have y3 := (blk_cell X3.out 0).trans rfl; have z3 := (B3.out.cell x0l).trans X0.out)
            go_loopg [64] l1.length (fun gg s64 wr => ∃ kk : Nat, kk ≤ l1.length ∧ l1.length - kk ≤ gg ∧ s64 = .int .i64 kk ∧ Aside0 (Below w.heap.size w wr) ∧ Aside0 (wr.heap[w.heap.size]? = some (.cells #[.slice (some ad) l0.length c0] 69 (0, 0))) ∧ Aside0 (skywaykeep1_FlyClosed.go k l0 nm when 8 t1 (l1.drop kk) = some r))
            case atStart => exact ⟨0, Nat.zero_le _, by omega, rfl, B3, X3, HG⟩
            case round =>
              clear HG B3 X3 y3 z3
              obtain ⟨kk, hkk, hg, rfl, BW, XW, HG⟩ := hrel
              have hgo := HG.out
              by_cases hlt : kk < l1.length
              · have hltz : (kk : Int) < (l1.length : Int) := by omega
                obtain ⟨ad1, A2, c2, A3, c3, e1, m0, m1, m2, m3, m4, hp1, hp2, hp3, hp4⟩ := at_T65 (Kd.C_below HR1.out BW.out) (kk : Int) (by omega) hltz
                have hx : rd_T65 l1 (kk : Int) = l1[kk] := by unfold rd_T65; rw [Int.toNat_natCast, List.getD_eq_getElem?_getD, List.getElem?_eq_getElem hlt]; rfl
                rw [List.drop_eq_getElem_cons hlt, ← hx, skywaykeep1_FlyClosed.go] at hgo
                clear hx HG
                generalize rd_T65 l1 (kk : Int) = X at *
                obtain ⟨nx, ⟨p, lo, hi⟩, sp⟩ := X
                dsimp only at m0 m1 m2 m3 m4 hp1 hp2 hp3 hp4 hgo
                rw [Int.toNat_natCast] at m0 m1 m2 m3 m4
                subst e1
                have HP := Aside0.mk hp2
                have HP2 := Aside0.mk hp4
                clear hp2 hp4
                obtain ⟨bb, hbb, hg1⟩ := Option.bind_eq_some_iff.1 hgo
                have hbb0 := Aside0.mk hbb
                clear hgo
                have BA1 := Aside0.mk (below_alloc (Below.refl _ wr) (.cells #[.string nx, .slice A2 p.length c2, .int .i64 lo, .int .i64 hi, .slice A3 sp.length c3] 65))
                have BA := Aside0.mk (below_step BW.out BA1.out)
                have XA := Aside0.mk (blk_alloc XW.out (.cells #[.string nx, .slice A2 p.length c2, .int .i64 lo, .int .i64 hi, .slice A3 sp.length c3] 65))
                have l0_ := blk_lt XW.out
                rcases bb with _ | _
                · have hg3 : skywaykeep1_FlyClosed.go k l0 nm when 8 t1 (l1.drop (kk + 1)) = some r := by
                    rw [if_neg (by simp), if_neg (fun g => absurd g.1 (by decide))] at hg1
                    exact hg1
                  have HG := Aside0.mk hg3
                  clear hg1 hg3
                  go_wp2_with (go_at_fn 31; refine (skywaykeep1_FlyClosed_1.calls k XA.out (Kd.C_below HR0.out BA.out) hc0 (Kd.C_below HP.out BA1.out) hp1 (Kd.C_below HP2.out BA1.out) hp3 hbb).mono ?_; rintro e_ w5 ⟨rfl, hb5⟩; clear hbb; have B5 := Aside0.mk (below_step BA.out hb5); have X5 := Aside0.mk (blk_below XA.out hb5); have M5 := Aside0.mk (blk_below (blk_new wr (.cells #[.string nx, .slice A2 p.length c2, .int .i64 lo, .int .i64 hi, .slice A3 sp.length c3] 65)) hb5); have R5 := Aside0.mk (And.intro (Kd.C_below (Kd.C_below HP.out BA1.out) hb5) (Kd.C_below (Kd.C_below HP2.out BA1.out) hb5)); clear hb5 BA BA1 XA; have n0 := (blk_cell M5.out 0).trans rfl; have n1 := (blk_cell M5.out 1).trans rfl; have n2 := (blk_cell M5.out 2).trans rfl; have n3 := (blk_cell M5.out 3).trans rfl; have n4 := (blk_cell M5.out 4).trans rfl)
                  go_roundg (l1.length - (kk + 1))
                  case measure => omega
                  case rel => have big1 := HR1.out.2.1; exact ⟨kk + 1, by omega, by omega, (by first | (rw [IntWalk.i64_in ((kk : Int) + 1) (by omega)]; rfl) | (rw [(i64_w ((kk : Int) + 1)).symm.trans (IntWalk.i64_in ((kk : Int) + 1) (by omega))]; rfl)), B5, X5, HG⟩
                · obtain rfl : false = r := by simpa using hg1
                  clear hg1
                  go_wp2_with (go_at_fn 31; refine (skywaykeep1_FlyClosed_1.calls k XA.out (Kd.C_below HR0.out BA.out) hc0 (Kd.C_below HP.out BA1.out) hp1 (Kd.C_below HP2.out BA1.out) hp3 hbb).mono ?_; rintro e_ w5 ⟨rfl, hb5⟩; clear hbb; have B5 := Aside0.mk (below_step BA.out hb5); have X5 := Aside0.mk (blk_below XA.out hb5); have M5 := Aside0.mk (blk_below (blk_new wr (.cells #[.string nx, .slice A2 p.length c2, .int .i64 lo, .int .i64 hi, .slice A3 sp.length c3] 65)) hb5); have R5 := Aside0.mk (And.intro (Kd.C_below (Kd.C_below HP.out BA1.out) hb5) (Kd.C_below (Kd.C_below HP2.out BA1.out) hb5)); clear hb5 BA BA1 XA; have n0 := (blk_cell M5.out 0).trans rfl; have n1 := (blk_cell M5.out 1).trans rfl; have n2 := (blk_cell M5.out 2).trans rfl; have n3 := (blk_cell M5.out 3).trans rfl; have n4 := (blk_cell M5.out 4).trans rfl)
                  go_ret
                  exact ⟨rfl, B5.out⟩
              · have hltz : decide ((kk : Int) < (l1.length : Int)) = false := decide_eq_false (by omega)
                rw [List.drop_eq_nil_of_le (by omega), skywaykeep1_FlyClosed.go] at hgo
                have HG := Aside0.mk (Option.some.inj hgo)
                clear hgo
                go_wp2
                all_goals
                  go_ret
                  refine ⟨congrArg (fun b => Ending.returned (Value.bool b)) (HG.out.symm.trans ?_).symm, BW.out⟩
                  first | (rw [decide_eq_true ((nil_iff nm).1 (by assumption))]; rfl) | (rw [decide_eq_false (fun g => absurd ((nil_iff nm).2 g) (by assumption))]; rfl)
    · have gd : (0 < l0.length) = False := eq_false (by omega)
      have gd' : decide (0 < (l0.length : Int)) = false := decide_eq_false g0
      rw [if_neg (fun g => g0 g.1)] at h
      obtain ⟨⟨nm, when, e⟩, hc, h⟩ := Option.bind_eq_some_iff.1 h
      dsimp only at h
      by_cases q : e ≠ 0 ∧ e ≠ 8
      · rw [if_pos q] at h
        go_wp2
        go_region
        have B2 := Aside0.mk (below_drw B1.out)
        have y1 : w1.drew.cell? ⟨w.heap.size, 0, none⟩ = some (.slice A0 l0.length c0) := y0
        generalize w1.drew = w2 at *
        clear y0 X B1
        have e0 : (e == 0) = false := beq_eq_false_iff_ne.2 q.1
        have e8 : (e == 8) = false := beq_eq_false_iff_ne.2 q.2
        have e0' : (e != 0) = true := bne_iff_ne.2 q.1
        have e8' : (e != 8) = true := bne_iff_ne.2 q.2
        have HH := Aside0.mk (Option.some.inj h)
        clear q h
        go_wp2_with (go_at_call 30; refine (fly_Closed.calls k A0 c0 l0 A1 c1 l1 nm when e _ (Kd.C_below HR0.out B2.out) hc0 (Kd.C_below HR1.out B2.out) hc1 hc).mono ?_; rintro e_ w3 ⟨rfl, hb3⟩; clear hc; have B3 := Aside0.mk (below_step B2.out hb3); clear y1 B2 hb3)
        all_goals
          go_ret
          refine ⟨congrArg (fun b => Ending.returned (Value.bool b)) (HH.out.symm.trans ?_).symm, B3.out⟩
          first | (rw [decide_eq_true ((nil_iff nm).1 (by assumption))]; rfl) | (rw [decide_eq_false (fun g => absurd ((nil_iff nm).2 g) (by assumption))]; rfl)
      · rw [if_neg q, if_neg g0] at h; cases h
end

/-- What is told of a value of struct type 36 that came in. -/
def good36 (x : S36) : Prop := ((Lit.int .i64 x.f0).wf = true) ∧ (Lit.int .i64 x.f1).wf = true
/-- What is told of a value of struct type 71 that came in. -/
def good71 (x : S71) : Prop := ((Lit.int .i64 x.f0).wf = true) ∧ (good36 x.f1) ∧ (Lit.int .i64 x.f2).wf = true
/-- What is told of a value of struct type 62 that came in. -/
def good62 (x : S62) : Prop := (x.f0.length * 16 ≤ 140737488351232 ∧ ∀ y0 ∈ x.f0, good36 y0) ∧ ((Lit.int .i64 x.f1).wf = true) ∧ (Lit.int .i64 x.f2).wf = true
/-- What is told of a value of struct type 140 that came in. -/
def good140 (x : S140) : Prop := ((Lit.int .i64 x.f0).wf = true) ∧ (Lit.int .i64 x.f1).wf = true
/-- What is told of a value of struct type 65 that came in. -/
def good65 (x : S65) : Prop := (x.f0.size ≤ 140737488351232) ∧ (good62 x.f1) ∧ x.f2.length * 16 ≤ 140737488351232 ∧ ∀ y0 ∈ x.f2, good140 y0
/-- THE ONE PURE STATEMENT of skywaykeep1_FlyClosed. -/
def skywaykeep1_FlyClosed.Pure : Prop := ∀ (l0 : List (S71)) (l1 : List (S65)) (a2 : Int), (l0.length * 32 ≤ 140737488351232 ∧ ∀ y0 ∈ l0, good71 y0) → (l1.length * 80 ≤ 140737488351232 ∧ ∀ y0 ∈ l1, good65 y0) → ((Lit.int .i64 a2).wf = true) → ∃ k, skywaykeep1_FlyClosed.f k l0 l1 a2 = some true

end Go.Proofs.Ytbpbpojnfhhbjaa.PFlyClosed
