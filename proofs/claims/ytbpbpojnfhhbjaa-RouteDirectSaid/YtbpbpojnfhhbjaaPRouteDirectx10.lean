/- Made by a program of this session (wip/tools/myprint.py, over the kit's printer): that the Go functions answer as the Lean functions printed beside them. -/
import Derived.Test.YtbpbpojnfhhbjaaTSq2
import Derived.Test.YtbpbpojnfhhbjaaPRouteDirectx0
import Derived.Test.YtbpbpojnfhhbjaaPRouteDirectx1
import Derived.Test.YtbpbpojnfhhbjaaPRouteDirectx8
import Derived.Test.YtbpbpojnfhhbjaaPRouteDirectx9
import Derived.Deep.AppendLies
namespace Go.Proofs.Ytbpbpojnfhhbjaa.PRouteDirect
open Go.RowKit Go.Proofs.YtbpbpojnfhhbjaaW.PrintWords Go.Proofs.YtbpbpojnfhhbjaaW.PrintLast Go.Proofs.YtbpbpojnfhhbjaaW.PrintMore
attribute [local go_sem] max2_int min2_int max_two min_two max_three min_three max_four min_four   -- for this text's walks alone
set_option linter.unusedVariables false
set_option linter.unusedSimpArgs false

/-! ### skywaykeep1_RouteDirect: function 7 -/
-- IMPORT Deep.AppendLies
section
open Go Go.RowKit
/-- The names between the first and the last of a way. -/
def skywaykeep1_RouteDirect.nms (l : List S40) : List ByteArray := ((l.take (l.length - 1)).drop 1).map (fun x => x.f0)
theorem eqA40 (d : Nat) (w : World) (x0 y0 : ByteArray) (x1 y1 : Int) (x2 y2 : Int) :
    (Op.equalIn (d + 3) 40 (.agg #[.string x0, .int .i64 x1, .int .i64 x2]) (.agg #[.string y0, .int .i64 y1, .int .i64 y2])).run Try.prog w = .ok (x0.toList == y0.toList && (x1 == y1 && (x2 == y2))) w := by
  refine eqA_of Try.underlying40 (by kernel_rfl) ?_; refine eqf_cons (by rfl) (by go_simp; rfl) (by go_simp; rfl) (by go_simp) ?_; exact eqf_last (by rfl) (by go_simp) (by go_simp) (eqA36 d w x1 y1 x2 y2)
attribute [local go_sem high] eqA40
theorem R_addr {kd : Kd S40} {e : Nat} {w : World} {base : Nat} {ok : Nat → Prop} {ad : Addr} {n c : Nat} {l : List S40} (h : Kd.R kd e w base ok (.slice (some ad) n c) l) : ∃ g, ad = ⟨g, 0, none⟩ := by
  obtain ⟨hok, inner, ⟨hil, hown⟩, hil2, hreps⟩ := h
  rcases hown with ⟨h, _⟩ | ⟨g, cap, cur, h, _⟩
  · cases h
  · simp at h; exact ⟨g, h.1⟩
theorem nms_get (x : List S40) (n : Nat) (hx : x.length = n + 2) (i : Nat) (hi : i < n) : (skywaykeep1_RouteDirect.nms x)[i]? = some (x[i + 1]'(by omega)).f0 := by
  unfold skywaykeep1_RouteDirect.nms; rw [List.getElem?_map, List.getElem?_drop, List.getElem?_take_of_lt (by omega), show 1 + i = i + 1 by omega, List.getElem?_eq_getElem (by omega)]; rfl
theorem fix_cells {w : World} {g : Nat} {x : List S40} (h : Kd.C k40 w (some ⟨g, 0, none⟩) x.length x) (i : Nat) (hi : i < x.length) :
    w.cell? ⟨g, i * 3, none⟩ = some (.string x[i].f0) ∧ w.cell? ⟨g, i * 3 + 1, none⟩ = some (.int .i64 x[i].f1.f0) ∧ w.cell? ⟨g, i * 3 + 2, none⟩ = some (.int .i64 x[i].f1.f1) := by
  obtain ⟨ad, e, h0, h1, h2⟩ := at_T40 h (i : Int) (by omega) (by omega); obtain rfl : (⟨g, 0, none⟩ : Addr) = ad := Option.some.inj e
  have hadd : ∀ j, (⟨g, 0, none⟩ : Addr).add j = ⟨g, j, none⟩ := fun j => by unfold Addr.add; split <;> simp_all
  have hrd : rd_T40 x (i : Int) = x[i] := by
    unfold rd_T40; rw [Int.toNat_natCast, List.getD_eq_getElem?_getD, List.getElem?_eq_getElem hi]; rfl
  rw [hadd, hrd, Int.toNat_natCast] at h0 h1 h2; exact ⟨h0, h1, h2⟩
open Classical in
noncomputable def skywaykeep1_RouteDirect.f (k : Nat) (a0_0 : ByteArray) (a0_1 : ByteArray) (a0_2 : ByteArray) (a0_3 : ByteArray) (a0_4 : Int) (a0_5 : Int) (a0_6 : Int) (l0_7 : List ByteArray) (l1_0 : List S40) (l1_1 : List S48) : Option Bool :=
  (skywaykeep1_routeWorks.f k).bind fun t => if t = true then ((route_Expand.f k a0_0 a0_1 a0_2 a0_3 a0_4 a0_5 a0_6 l0_7 l1_0 l1_1).bind fun x => if x.2 = 0 then (if 20 < x.1.length then some true else if x.1.length < 2 then some true else
    (route_Expand.f k a0_0 a0_1 a0_2 a0_3 a0_4 a0_5 a0_6 (skywaykeep1_RouteDirect.nms x.1) l1_0 l1_1).bind fun y => if y.2 = 0 ∧ y.1 = x.1 then some true else none) else some ((x.1.length : Int) == 0)) else none
set_option maxRecDepth 100000 in
set_option maxHeartbeats 8000000 in
theorem skywaykeep1_RouteDirect.calls (k : Nat) (a0_0 : ByteArray) (a0_1 : ByteArray) (a0_2 : ByteArray) (a0_3 : ByteArray) (a0_4 : Int) (a0_5 : Int) (a0_6 : Int) (A0_7 : Option Addr) (c0_7 : Nat) (l0_7 : List ByteArray) (A1_0 : Option Addr) (c1_0 : Nat) (l1_0 : List (S40)) (A1_1 : Option Addr) (c1_1 : Nat) (l1_1 : List (S48)) (r : Bool) (w : World) (hr0_7 : Kd.C Kd.string w A0_7 l0_7.length l0_7) (hc0_7 : l0_7.length ≤ c0_7) (hr1_0 : Kd.C k40 w A1_0 l1_0.length l1_0) (hc1_0 : l1_0.length ≤ c1_0) (hr1_1 : Kd.C k48 w A1_1 l1_1.length l1_1) (hc1_1 : l1_1.length ≤ c1_1) (h : skywaykeep1_RouteDirect.f k a0_0 a0_1 a0_2 a0_3 a0_4 a0_5 a0_6 l0_7 l1_0 l1_1 = some r) :
    Calls Try.prog 7 #[.agg #[.string a0_0, .string a0_1, .string a0_2, .string a0_3, .int .i64 a0_4, .int .i64 a0_5, .int .i64 a0_6, .slice A0_7 l0_7.length c0_7], .agg #[.slice A1_0 l1_0.length c1_0, .slice A1_1 l1_1.length c1_1]] w fun e w' => e = .returned (.bool r) ∧ Below w.heap.size w w' := by
  unfold skywaykeep1_RouteDirect.f at h; replace h := Option.bind_eq_some_iff.1 h; obtain ⟨t, ht, h⟩ := h
  by_cases c0 : t = true
  · subst c0; rw [if_pos rfl] at h; replace h := Option.bind_eq_some_iff.1 h; obtain ⟨⟨x, e⟩, hx, h⟩ := h; have HT := Aside0.mk ht; have HX := Aside0.mk hx; have HH := Aside0.mk h; have HR0 := Aside0.mk hr0_7; have HR1 := Aside0.mk hr1_0; have HR2 := Aside0.mk hr1_1; have HC0 := Aside0.mk hc0_7; have HC1 := Aside0.mk hc1_0; have HC2 := Aside0.mk hc1_1; clear h ht hx hr0_7 hr1_0 hr1_1 hc0_7 hc1_0 hc1_1; have hu51 := Try.underlying51; have hu25 := Try.underlying25; have hu40 := Try.underlying40; obtain ⟨W0, hW0⟩ : ∃ W0, (w.alloc (.cells #[.string a0_0, .string a0_1, .string a0_2, .string a0_3, .int .i64 a0_4, .int .i64 a0_5, .int .i64 a0_6, .slice A0_7 l0_7.length c0_7] 51)).alloc (.cells #[.slice A1_0 l1_0.length c1_0, .slice A1_1 l1_1.length c1_1] 25) = W0 := ⟨_, rfl⟩; have HB0 : Aside0 (Below w.heap.size w W0) := ⟨by rw [← hW0]; exact below_alloc (below_alloc (Below.refl _ _) _) _⟩; have HP0 : Aside0 (W0.heap[w.heap.size]? = some (.cells #[.string a0_0, .string a0_1, .string a0_2, .string a0_3, .int .i64 a0_4, .int .i64 a0_5, .int .i64 a0_6, .slice A0_7 l0_7.length c0_7] 51 (0, 0))) := ⟨by rw [← hW0]; exact blk_alloc (blk_new w _) _⟩
    have HQ0 : Aside0 (W0.heap[w.heap.size + 1]? = some (.cells #[.slice A1_0 l1_0.length c1_0, .slice A1_1 l1_1.length c1_1] 25 (0, 0))) := ⟨by
      rw [← hW0]; have := blk_new (w.alloc (.cells #[.string a0_0, .string a0_1, .string a0_2, .string a0_3, .int .i64 a0_4, .int .i64 a0_5, .int .i64 a0_6, .slice A0_7 l0_7.length c0_7] 51)) (.cells #[.slice A1_0 l1_0.length c1_0, .slice A1_1 l1_1.length c1_1] 25)
      simpa using this⟩
    go_enter Try.func7, Try.ntmps7; go_wp2_with fail; clear hW0; refine (skywaykeep1_routeWorks.calls k true _ HT.out).mono ?_; rintro e_ w1 ⟨rfl, hb1⟩; have HB1 := Aside0.mk (below_step HB0.out hb1); have HP1 := Aside0.mk (blk_below HP0.out hb1); have HQ1 := Aside0.mk (blk_below HQ0.out hb1); clear HB0 HP0 HQ0 hb1 HT; have p0 := bc HP1 0; have p1 := bc HP1 1; have p2 := bc HP1 2; have p3 := bc HP1 3; have p4 := bc HP1 4; have p5 := bc HP1 5; have p6 := bc HP1 6; have p7 := bc HP1 7; have q0 := bc HQ1 0; have q1 := bc HQ1 1; go_wp2_with fail; refine (route_Expand.calls k a0_0 a0_1 a0_2 a0_3 a0_4 a0_5 a0_6 (fun k_ => k_ < w.heap.size) _ _ l0_7 _ _ l1_0 _ _ l1_1 x e _ (Kd.V_mk HC0.out (Kd.F_below (Kd.C_F Kd.heap_string HR0.out) HB1.out)) (Kd.C_below HR1.out HB1.out) HC1.out (Kd.C_below HR2.out HB1.out) HC2.out HX.out).mono ?_; rintro e_ w2 ⟨v, rfl, hR, hb2⟩; obtain ⟨A, c, rfl, hlc, hC⟩ := Kd.R_reads hR; have HXR := Aside0.mk hR; have HLC := Aside0.mk hlc; have HXC := Aside0.mk hC; have HB2 := Aside0.mk (below_step HB1.out hb2); have HP2 := Aside0.mk (blk_below HP1.out hb2); have HQ2 := Aside0.mk (blk_below HQ1.out hb2); clear HB1 HP1 HQ1 hb2 HX hR hlc hC p0 p1 p2 p3 p4 p5 p6 p7 q0 q1; have h := HH.out; clear HH
    by_cases c1 : e = 0
    · subst c1; rw [if_pos rfl] at h
      by_cases c2 : 20 < x.length
      · rw [if_pos c2] at h; obtain rfl := Option.some.inj h; have d1 : decide ((20 : Int) < (x.length : Int)) = true := decide_eq_true (by omega); have d2 : decide (20 < x.length) = true := decide_eq_true c2; clear c2 h; go_wp2; go_ret; exact ⟨rfl, HB2.out⟩
      · rw [if_neg c2] at h; have d1 : decide ((20 : Int) < (x.length : Int)) = false := decide_eq_false (by omega); have d2 : decide (20 < x.length) = false := decide_eq_false c2
        by_cases c3 : x.length < 2
        · rw [if_pos c3] at h; obtain rfl := Option.some.inj h; have d3 : decide ((x.length : Int) < 2) = true := decide_eq_true (by omega); have d4 : decide (x.length < 2) = true := decide_eq_true c3; clear c2 c3 h; go_wp2; go_ret; exact ⟨rfl, HB2.out⟩
        · rw [if_neg c3] at h; have d3 : decide ((x.length : Int) < 2) = false := decide_eq_false (by omega); have d4 : decide (x.length < 2) = false := decide_eq_false c3; have HH := Aside0.mk h; clear h; have HN2 := Aside0.mk c2; have HN3 := Aside0.mk c3; clear c2 c3; obtain ⟨ad, rfl, _⟩ := at_T40 HXC.out 0 (by omega) (by have := HN3.out; omega); obtain ⟨g, rfl⟩ := R_addr HXR.out; obtain ⟨n, hn⟩ : ∃ n, x.length = n + 2 := ⟨x.length - 2, by have := HN3.out; omega⟩
          have hw1 : IntKind.i64.wrap ((x.length : Int) - 1) = ((n + 1 : Nat) : Int) := by rw [IntWalk.i64_in _ (by have := HN2.out; omega)]; omega
          have p0 := bc HP2 0; have p1 := bc HP2 1; have p2 := bc HP2 2; have p3 := bc HP2 3; have p4 := bc HP2 4; have p5 := bc HP2 5; have p6 := bc HP2 6; have p7 := bc HP2 7; have s1 : (0 ≤ ((n : Int) + 1)) = True := eq_true (by omega); have s2 : ((n : Int) + 1 ≤ (c : Int)) = True := eq_true (by have := HLC.out; omega); have s3 : (n + 1 ≤ c) = True := eq_true (by have := HLC.out; omega); have s4 : (c = 1) = False := eq_false (by have := HLC.out; omega); have hgen := Aside0.mk hn; clear hn; go_wp2_with fail; have HNM : Aside0 ((skywaykeep1_RouteDirect.nms x).length = n) := ⟨by unfold skywaykeep1_RouteDirect.nms; rw [List.length_map, List.length_drop, List.length_take, hgen.out]; omega⟩; have HNI : Aside0 (∀ i (h : i < n), (skywaykeep1_RouteDirect.nms x)[i]? = some (x[i + 1]'(by have := hgen.out; omega)).f0) := ⟨fun i h => nms_get x n hgen.out i h⟩; have hq0 : (w2.alloc (.cells #[.string a0_0, .string a0_1, .string a0_2, .string a0_3, .int .i64 a0_4, .int .i64 a0_5, .int .i64 a0_6, .slice none 0 0] 51)).heap[w2.heap.size]? = some (.cells #[.string a0_0, .string a0_1, .string a0_2, .string a0_3, .int .i64 a0_4, .int .i64 a0_5, .int .i64 a0_6, .slice none 0 0] 51 (0, 0)) := blk_new w2 _; have HQB := Aside0.mk hq0; have HRN : Aside0 (Kd.R Kd.string 9 (w2.alloc (.cells #[.string a0_0, .string a0_1, .string a0_2, .string a0_3, .int .i64 a0_4, .int .i64 a0_5, .int .i64 a0_6, .slice none 0 0] 51)) (w2.heap.size + 1) (fun _ => True) (.slice none 0 0) ((skywaykeep1_RouteDirect.nms x).take 0)) := ⟨Kd.R_nil _ _ _ _ _⟩; have HB3 : Aside0 (Below w2.heap.size w2 (w2.alloc (.cells #[.string a0_0, .string a0_1, .string a0_2, .string a0_3, .int .i64 a0_4, .int .i64 a0_5, .int .i64 a0_6, .slice none 0 0] 51))) := ⟨below_alloc (Below.refl _ _) _⟩; clear hq0 p0 p1 p2 p3 p4 p5 p6 p7 hw1 s1 s2 s3 s4; go_loopg [48] n (fun gas s48 wr => ∃ (i : Nat) (v : Value), i ≤ n ∧ n - i ≤ gas ∧ s48 = .int .i64 i ∧ Aside0 (wr.heap[w2.heap.size]? = some (.cells #[.string a0_0, .string a0_1, .string a0_2, .string a0_3, .int .i64 a0_4, .int .i64 a0_5, .int .i64 a0_6, v] 51 (0, 0))) ∧ Aside0 (Kd.R Kd.string 9 wr (w2.heap.size + 1) (fun _ => True) v ((skywaykeep1_RouteDirect.nms x).take i)) ∧ Aside0 (Below w2.heap.size w2 wr) ∧ Aside0 (w2.heap.size + 1 ≤ wr.heap.size))
          case atStart => exact ⟨0, _, Nat.zero_le _, Nat.le_refl _, rfl, HQB, HRN, HB3, ⟨by simp⟩⟩
          case round =>
            clear HQB HRN HB3; obtain ⟨i, v, hi, hgas, rfl, HQB, HRN, HB3, HS3⟩ := hrel
            by_cases hlt : i < n
            · have hnx : i + 1 < x.length := by have := hgen.out; omega
              obtain ⟨nm, hnm⟩ : ∃ y, x[i + 1] = y := ⟨_, rfl⟩; obtain ⟨k0, k1, k2⟩ := fix_cells (Kd.C_below HXC.out HB3.out) (i + 1) hnx; rw [hnm] at k0 k1 k2; have HNMI : Aside0 ((skywaykeep1_RouteDirect.nms x)[i]? = some nm.f0) := ⟨by rw [HNI.out i hlt, hnm]⟩; obtain ⟨s, ⟨px, py⟩⟩ := nm; dsimp only at k0 k1 k2; rw [show (i + 1) * 3 = 3 + i * 3 by omega] at k0 k1 k2
              have hi0 : (0 : Int) ≤ (i : Int) := by omega
              have hi1 : (i : Int) < (n : Int) := by omega
              have hd : decide (i < n) = true := decide_eq_true hlt; have y0 : wr.cell? ⟨w2.heap.size, 7, none⟩ = some v := bc HQB 7
              have hbl : w2.heap.size < wr.heap.size := by have := HS3.out; omega
              clear hnm hnx
              have hvl : v.ownBlock ≠ some w2.heap.size := fun e => by have := Kd.R_base HRN.out _ e; omega
              have HVL := Aside0.mk hvl; clear hvl; go_wp2_with ((with_reducible refine gate_builtin (b := .append) (xs := #[.tmp 53, .tmp 56]) rfl ?_); at_builtin; refine Kd.R_append Kd.string (w0 := wr) (w2.heap.size + 1) rfl (.tmp 53) (.tmp 56) 27 9 (.string ⟨#[]⟩) 16 rfl Try.underlying27 info9 rfl (by decide) (by omega) v ((skywaykeep1_RouteDirect.nms x).take i) s [.string s] (fun _ => True) (fun _ => False) rfl (by show Value.slice (some ⟨wr.heap.size + 1, 0, none⟩) 1 1 = _; rw [World.size_alloc]) ?hp (fun _ h => h.elim) (fun _ _ => trivial) ?hR ?hB ?hS ?hL ?_; (case hp => rfl); (case hR => exact Kd.R_alloc HRN.out _); (case hB => exact (Below.refl _ wr).alloc HS3.out _); (case hS => simp; have := HS3.out; omega); (case hL => rw [List.length_take, HNM.out]; have := HN2.out; have := hgen.out; omega); intro v1 w3 ho3 hb3 hg3 hat3; obtain ⟨A9, c9, hv9⟩ := Kd.R_slice ho3; obtain ⟨L9, hL9⟩ : ∃ L9, ((skywaykeep1_RouteDirect.nms x).take i ++ [s]).length = L9 := ⟨_, rfl⟩; rw [hL9] at hv9; clear hL9; subst hv9; have HO3 := Aside0.mk ho3; have HBB3 := Aside0.mk hb3; have HG3 := Aside0.mk hg3; clear ho3 hb3 hg3 hat3; have HQ3 : Aside0 (w3.heap[w2.heap.size]? = some (.cells #[.string a0_0, .string a0_1, .string a0_2, .string a0_3, .int .i64 a0_4, .int .i64 a0_5, .int .i64 a0_6, v] 51 (0, 0))) := ⟨(HG3.out.block _ (by simp; have := HS3.out; omega) (fun e => HVL.out e.symm)).trans ((Below.heap_alloc _ _ _ (by have := HS3.out; omega)).trans HQB.out)⟩; have z0 : w3.cell? ⟨w2.heap.size, 7, none⟩ = some v := bc HQ3 7; have z1 := blk_frozen HQ3.out 7; clear y0); have HB4 : Aside0 (Below w2.heap.size w2 (w3.setCell ⟨w2.heap.size, 7, none⟩ (.slice A9 L9 c9))) := ⟨(HB3.out.trans (HBB3.out.mono (by omega))).setCell (Nat.le_refl _) _⟩; have HQ4 : Aside0 ((w3.setCell ⟨w2.heap.size, 7, none⟩ (.slice A9 L9 c9)).heap[w2.heap.size]? = some (.cells #[.string a0_0, .string a0_1, .string a0_2, .string a0_3, .int .i64 a0_4, .int .i64 a0_5, .int .i64 a0_6, .slice A9 L9 c9] 51 (0, 0))) := ⟨(blk_set HQ3.out 7 (.slice A9 L9 c9)).trans rfl⟩; have HO4 : Aside0 (Kd.R Kd.string 9 (w3.setCell ⟨w2.heap.size, 7, none⟩ (.slice A9 L9 c9)) (w2.heap.size + 1) (fun _ => True) (.slice A9 L9 c9) ((skywaykeep1_RouteDirect.nms x).take i ++ [s])) := ⟨Kd.R_mono (Kd.R_move (Kd.R_bound HO3.out) (fun k hk => Below.heap_setCell _ _ _ _ (by intro e; have h1 := hk.2.1; simp at e; omega))) (fun _ _ => trivial)⟩; have HS4 : Aside0 (w2.heap.size + 1 ≤ (w3.setCell ⟨w2.heap.size, 7, none⟩ (.slice A9 L9 c9)).heap.size) := ⟨by have h1 := HBB3.out.size; have h2 := HS3.out; simp; omega⟩
              have HTK : Aside0 ((skywaykeep1_RouteDirect.nms x).take i ++ [s] = (skywaykeep1_RouteDirect.nms x).take (i + 1)) := ⟨by
                have h := HNMI.out; obtain ⟨h1, h2⟩ := List.getElem?_eq_some_iff.1 h
                rw [List.take_succ_eq_append_getElem h1, h2]⟩
              go_roundg (n - (i + 1))
              case measure => omega
              case rel => exact ⟨i + 1, _, by omega, by omega, (by rw [show wrap64 ((i : Int) + 1) = ((i + 1 : Nat) : Int) by have h1 := HN2.out; have h2 := hgen.out; unfold wrap64; omega]), HQ4, ⟨by rw [← HTK.out]; exact HO4.out⟩, HB4, HS4⟩
            · obtain rfl : i = n := by omega
              have hd : decide (i < i) = false := decide_eq_false (by omega); have hd2 : decide ((i : Int) < (i : Int)) = false := decide_eq_false (by omega)
              have hRN : Kd.R Kd.string 9 wr (w2.heap.size + 1) (fun _ => True) v (skywaykeep1_RouteDirect.nms x) := by
                have h := HRN.out; rw [List.take_of_length_le (by rw [HNM.out]; exact Nat.le_refl _)] at h; exact h
              obtain ⟨A3, c3, rfl, hc3, hC3⟩ := Kd.R_reads hRN; have HC3 := Aside0.mk hc3; have HCC3 := Aside0.mk hC3; have h := HH.out; replace h := Option.bind_eq_some_iff.1 h; obtain ⟨⟨y, e2⟩, hy, h⟩ := h; dsimp only at h
              by_cases cy : e2 = 0 ∧ y = x
              · rw [if_pos cy] at h; obtain ⟨rfl, rfl⟩ := cy; obtain rfl := Option.some.inj h; have HY := Aside0.mk hy; have z0 : wr.cell? ⟨w2.heap.size, 0, none⟩ = some (.string a0_0) := bc HQB 0; have z1 : wr.cell? ⟨w2.heap.size, 1, none⟩ = some (.string a0_1) := bc HQB 1; have z2 : wr.cell? ⟨w2.heap.size, 2, none⟩ = some (.string a0_2) := bc HQB 2; have z3 : wr.cell? ⟨w2.heap.size, 3, none⟩ = some (.string a0_3) := bc HQB 3; have z4 : wr.cell? ⟨w2.heap.size, 4, none⟩ = some (.int .i64 a0_4) := bc HQB 4; have z5 : wr.cell? ⟨w2.heap.size, 5, none⟩ = some (.int .i64 a0_5) := bc HQB 5; have z6 : wr.cell? ⟨w2.heap.size, 6, none⟩ = some (.int .i64 a0_6) := bc HQB 6; have z7 : wr.cell? ⟨w2.heap.size, 7, none⟩ = some (.slice A3 (skywaykeep1_RouteDirect.nms y).length c3) := bc HQB 7; have HQ3 := Aside0.mk (blk_below HQ2.out HB3.out); have q0 : wr.cell? ⟨w.heap.size + 1, 0, none⟩ = some (.slice A1_0 l1_0.length c1_0) := bc HQ3 0; have q1 : wr.cell? ⟨w.heap.size + 1, 1, none⟩ = some (.slice A1_1 l1_1.length c1_1) := bc HQ3 1; have HBW : Aside0 (Below w.heap.size w wr) := ⟨below_step HB2.out HB3.out⟩; have HX3 := Aside0.mk (Kd.C_below HXC.out HB3.out); clear hgas hlt hi h hy hRN hc3 hC3; go_wp2_with fail; refine (route_Expand.calls k a0_0 a0_1 a0_2 a0_3 a0_4 a0_5 a0_6 (fun k_ => k_ < wr.heap.size) _ _ (skywaykeep1_RouteDirect.nms y) _ _ l1_0 _ _ l1_1 y 0 _ (Kd.V_mk HC3.out (Kd.C_F Kd.heap_string HCC3.out)) (Kd.C_below HR1.out HBW.out) HC1.out (Kd.C_below HR2.out HBW.out) HC2.out HY.out).mono ?_; rintro e_ w4 ⟨v4, rfl, hR4, hb4⟩; obtain ⟨A4, c4, rfl, hlc4, hC4⟩ := Kd.R_reads hR4; obtain ⟨ad4, rfl, _⟩ := at_T40 hC4 0 (by omega) (by have := HN3.out; omega); obtain ⟨g4, rfl⟩ := R_addr hR4; have HX4 := Aside0.mk (Kd.C_below HX3.out hb4); have HY4 := Aside0.mk hC4; have HBW4 := Aside0.mk (below_step HBW.out hb4); clear hR4 hlc4 hC4 hb4 z0 z1 z2 z3 z4 z5 z6 z7 q0 q1; go_wp2_with fail; go_loopg [77] y.length (fun gas s77 wr => ∃ j : Nat, j ≤ y.length ∧ y.length - j ≤ gas ∧ s77 = .int .i64 j ∧ Aside0 (Kd.C k40 wr (some ⟨g, 0, none⟩) y.length y) ∧ Aside0 (Kd.C k40 wr (some ⟨g4, 0, none⟩) y.length y) ∧ Aside0 (Below w.heap.size w wr))
                case atStart => exact ⟨0, Nat.zero_le _, Nat.le_refl _, rfl, HX4, HY4, HBW4⟩
                case round =>
                  clear HX4 HY4 HBW4 HBW HX3 HQB HB3 HS3 HRN HCC3; obtain ⟨j, hj, hgas, rfl, HX4, HY4, HBW4⟩ := hrel
                  by_cases hlt : j < y.length
                  · obtain ⟨k0, k1, k2⟩ := fix_cells HX4.out j hlt; obtain ⟨m0, m1, m2⟩ := fix_cells HY4.out j hlt; generalize y[j].f0 = s at k0 m0; generalize y[j].f1.f0 = px at k1 m1; generalize y[j].f1.f1 = py at k2 m2
                    have hj0 : (0 : Int) ≤ (j : Int) := by omega
                    have hj1 : (j : Int) < (y.length : Int) := by omega
                    have hd : decide (j < y.length) = true := decide_eq_true hlt; have b0 : (s.toList == s.toList) = true := beq_self_eq_true _
                    have b1 : (px == px) = true := by simp
                    have b2 : (py == py) = true := by simp
                    go_wp2; go_region; go_wp2; go_roundg (y.length - (j + 1))
                    case measure => omega
                    case rel => exact ⟨j + 1, by omega, by omega, (by rw [show wrap64 ((j : Int) + 1) = ((j + 1 : Nat) : Int) by have h1 := HN2.out; unfold wrap64; omega]), ⟨Kd.C_below HX4.out (Below.refl _ _).drew⟩, ⟨Kd.C_below HY4.out (Below.refl _ _).drew⟩, ⟨HBW4.out.drew⟩⟩
                  · obtain rfl : j = y.length := by omega
                    have hd : decide (y.length < y.length) = false := decide_eq_false (by omega); have hd2 : decide ((y.length : Int) < (y.length : Int)) = false := decide_eq_false (by omega); clear hgas hlt hj; go_wp2; go_ret; exact ⟨rfl, HBW4.out⟩
              · rw [if_neg cy] at h; cases h
    · rw [if_neg c1] at h; obtain rfl := Option.some.inj h; have d1 : (e == 0) = false := beq_eq_false_iff_ne.2 c1; have d2 : (e != 0) = true := bne_iff_ne.2 c1; clear c1 h; go_wp2; go_ret; exact ⟨rfl, HB2.out⟩
  · rw [if_neg c0] at h; cases h
end

/-- What is told of a value of struct type 51 that came in. -/
def good51 (x : S51) : Prop := (x.f0.size ≤ 140737488351232) ∧ (x.f1.size ≤ 140737488351232) ∧ (x.f2.size ≤ 140737488351232) ∧ (x.f3.size ≤ 140737488351232) ∧ ((Lit.int .i64 x.f4).wf = true) ∧ ((Lit.int .i64 x.f5).wf = true) ∧ ((Lit.int .i64 x.f6).wf = true) ∧ x.f7.length * 16 ≤ 140737488351232 ∧ ∀ y0 ∈ x.f7, y0.size ≤ 140737488351232
/-- What is told of a value of struct type 36 that came in. -/
def good36 (x : S36) : Prop := ((Lit.int .i64 x.f0).wf = true) ∧ (Lit.int .i64 x.f1).wf = true
/-- What is told of a value of struct type 40 that came in. -/
def good40 (x : S40) : Prop := (x.f0.size ≤ 140737488351232) ∧ good36 x.f1
/-- What is told of a value of struct type 48 that came in. -/
def good48 (x : S48) : Prop := (x.f0.size ≤ 140737488351232) ∧ x.f1.length * 16 ≤ 140737488351232 ∧ ∀ y0 ∈ x.f1, y0.size ≤ 140737488351232
/-- What is told of a value of struct type 25 that came in. -/
def good25 (x : S25) : Prop := (x.f0.length * 32 ≤ 140737488351232 ∧ ∀ y0 ∈ x.f0, good40 y0) ∧ x.f1.length * 40 ≤ 140737488351232 ∧ ∀ y0 ∈ x.f1, good48 y0
/-- THE ONE PURE STATEMENT of skywaykeep1_RouteDirect. -/
def skywaykeep1_RouteDirect.Pure : Prop := ∀ (a0_0 : ByteArray) (a0_1 : ByteArray) (a0_2 : ByteArray) (a0_3 : ByteArray) (a0_4 : Int) (a0_5 : Int) (a0_6 : Int) (l0_7 : List ByteArray) (l1_0 : List (S40)) (l1_1 : List (S48)), (a0_0.size ≤ 140737488351232) → (a0_1.size ≤ 140737488351232) → (a0_2.size ≤ 140737488351232) → (a0_3.size ≤ 140737488351232) → ((Lit.int .i64 a0_4).wf = true) → ((Lit.int .i64 a0_5).wf = true) → ((Lit.int .i64 a0_6).wf = true) → (l0_7.length * 16 ≤ 140737488351232 ∧ ∀ y0 ∈ l0_7, y0.size ≤ 140737488351232) → (l1_0.length * 32 ≤ 140737488351232 ∧ ∀ y0 ∈ l1_0, good40 y0) → (l1_1.length * 40 ≤ 140737488351232 ∧ ∀ y0 ∈ l1_1, good48 y0) → ∃ k, skywaykeep1_RouteDirect.f k a0_0 a0_1 a0_2 a0_3 a0_4 a0_5 a0_6 l0_7 l1_0 l1_1 = some true

end Go.Proofs.Ytbpbpojnfhhbjaa.PRouteDirect
