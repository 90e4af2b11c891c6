/- What Push does: string. -/
import Derived.Test.YthghilclgobpbaaHeapQS
import Derived.Test.YthghilclgobpbaaReg
namespace Go.Proofs.YthghilclgobpbaaH.S
open Go Go.RowKit Go.Proofs.YthghilclgobpbaaH Go.Proofs.YthghilclgobpbaaR Go.Proofs.YthghilclgobpbaaW.PrintWords Go.Proofs.YthghilclgobpbaaW.PrintLast
set_option linter.unusedVariables false
set_option linter.unusedSimpArgs false
attribute [local go_sem ↓] Go.wp_at_zero Go.wp_at_succ
theorem infoI : (Try.prog.info? 109).map (fun i => (i.zero, i.size, i.bytes)) = some (some (.agg #[.int .i64 0, .int .i64 0, ev (⟨#[]⟩ : ByteArray)]), 3, 32) := by kernel_rfl
/-- What Push leaves. -/
def PushPost (q base : Nat) (l : List (It V)) (x : It V) (w : World) (e : Ending) (w' : World) : Prop :=
  e = .returned (.tuple #[]) ∧ ∃ l', Q w' q base l' (x.o + 1) ∧ Heap l' ∧ l'.Perm (x :: l) ∧ Below base w w'
set_option maxHeartbeats 8000000 in
set_option maxRecDepth 100000 in
theorem push_any (q base : Nat) (l : List (It V)) (p ord : Int) (x : V) (w : World) (hQ : Q w q base l ord) (hh : Heap l) (hn : l.length ≤ 1000) (ho : 0 ≤ ord) (ho2 : ord ≤ 100000) (hbase : base ≤ w.heap.size) :
    Calls Try.prog 25 #[.pointer (some ⟨q, 0, none⟩), .int .i64 p, ev x] w (PushPost q base l ⟨p, ord, x⟩ w) := by
  obtain ⟨i0, hi0, hz0, hz1, hz2⟩ := info_parts infoI
  obtain ⟨A, c, hq, hown, hne, hbq⟩ := hQ.own
  have hlt := hQ.lt
  have HH := Lib.hid hh
  have HNE := Lib.hid hne
  have HB : Aside0 (Below base w w.drew) := ⟨(Below.refl _ _).drew⟩
  have HQ0 : Aside0 (w.drew.heap[q]? = some (.cells #[.slice A l.length c, .int .i64 ord] 107 (0, 0))) := ⟨hq⟩
  have HN : Aside0 (w.drew.ownsRow base 109 3 (.slice A l.length c) l.length (flat l)) := ⟨hown⟩
  have HBS : Aside0 (base ≤ w.drew.heap.size) := ⟨hbase⟩
  have HLT : Aside0 (q < w.drew.heap.size) := ⟨hlt⟩
  clear hh hq hown hne hQ hbase hlt
  go_enter Try.func25, Try.ntmps25
  go_wp2_with fail
  refine sw_ (fun w' => w'.cell? ⟨q, 0, none⟩ = some (.slice A l.length c) ∧ w'.cell? ⟨q, 1, none⟩ = some (.int .i64 ord)) [16] ⟨(blk_cell HQ0.out 0).trans rfl, (blk_cell HQ0.out 1).trans rfl⟩ (fun hHeld => ?_)
  generalize w.drew = W at HB HQ0 HN HBS HLT hHeld ⊢
  refine pw_ 0 8 (h := ?_)
  refine pw_ 1 9 (h := ?_)
  refine pw_ 2 10 (h := ?_)
  refine pw_ 3 11 (h := ?_)
  refine pw_ 5 13 (h := ?_)
  refine pw_ 6 14 (h := ?_)
  refine pw_ 7 15 (h := ?_)
  refine pw_ 8 16 (h := ?_)
  refine pw_ 10 18 (h := ?_)
  refine tw_ 4 12 hHeld (h := ?_)
  refine tw_ 9 17 hHeld (h := ?_)
  refine pw_ 11 19 (h := ?_)
  refine ow_ 12 (some 20) (fun K hK => ?_)
  refine vw_ (h := ?_)
  refine hK.out _ _ ⟨(World.cell?_alloc_past _ _ _ HLT.out).trans hHeld.1, (World.cell?_alloc_past _ _ _ HLT.out).trans hHeld.2⟩ (fun hHeld => ?_)
  clear hK K
  refine nw_ 20 (h := ?_)
  refine ow_ 13 (some 21) (fun K hK => ?_)
  refine step_append_lies _ (by rfl) _ _ _ (by rfl) base 109 i0 _ 3 32 Try.underlying105 hi0 hz0 hz1 hz2 rfl (by omega) (.slice A l.length c) l.length (flat l) (by rfl) (HN.out.alloc _)
        ⟨W.heap.size, 0, none⟩ 1 1 [.int .i64 p, .int .i64 ord, ev x] (by rfl) (by rfl) (World.news_of_block (cs := #[.int .i64 p, .int .i64 ord, ev x]) (t := 109) (fr := (0, 0)) (heap_alloc_new W _)) (by simp [Value.oneCell', ev])
        (by omega) (by unfold maxLen; omega) (by omega) (by have := HBS.out; simp; omega) (W.heap.size + 1) (by simp) ?_
  intro gg cap w1 hown1 hgrow hat hlt1
  have hq1 : w1.heap[q]? = some (.cells #[.slice A l.length c, .int .i64 ord] 107 (0, 0)) := (hgrow.block q (by have := HLT.out; simp; omega) (Ne.symm HNE.out)).trans ((Below.heap_alloc W _ q HLT.out).trans HQ0.out)
  refine hK.out _ _ ⟨(blk_cell hq1 0).trans rfl, (blk_cell hq1 1).trans rfl⟩ (fun hHeld => ?_)
  clear hK K
  have HQ1 := Aside0.mk hq1
  have HB1 : Aside0 (Below base w w1) := ⟨((HB.out.alloc HBS.out _).grown hgrow (by have := HBS.out; simp; omega) (fun k hk => (HN.out.lt k hk).1))⟩
  have HOWN := Aside0.mk hown1
  have HLT1 := Aside0.mk (blk_lt hq1)
  clear hq1 hgrow hat hlt1 hown1 HB HN HBS HLT HQ0
  refine nw_ 21 (h := ?_)
  refine pw_ 14 22 (h := ?_)
  refine pw_ 15 23 (h := ?_)
  have hc0 : w1.cell? ⟨q, 0, none⟩ = some (.slice A l.length c) := (blk_cell HQ1.out 0).trans rfl
  have hc1 : w1.cell? ⟨q, 1, none⟩ = some (.int .i64 ord) := (blk_cell HQ1.out 1).trans rfl
  have hf0 := blk_frozen HQ1.out 0
  have hf1 := blk_frozen HQ1.out 1
  refine lw_ 16 none (fun K hK => ?_)
  refine kw_ (h := ?_)
  refine hK.out _ _ ?_
  clear hK K
  refine dw_ ?_
  go_wp2
  have HQ2 : Aside0 (Q ((w1.setCell ⟨q, 0, none⟩ (.slice (some ⟨gg, 0, none⟩) (l.length + 1) cap)).setCell ⟨q, 1, none⟩ (.int .i64 (ord + 1))) q base (l ++ [⟨p, ord, x⟩]) (ord + 1)) := by
    have e : (l ++ [(⟨p, ord, x⟩ : It V)]).length = l.length + 1 := by simp
    have hr : Row w1 gg cap (l ++ [⟨p, ord, x⟩]) := by
      refine Row.of_own (base := base) (n := l.length + 1) ?_ (by rw [e]; omega)
      rw [e, flat_append]
      exact HOWN.out
    have ne := hr.ne HQ1.out
    have hbg : base ≤ gg := (HOWN.out.lt gg rfl).1
    refine ⟨hbq, .inr ⟨gg, cap, hbg, ?_, (hr.heap (Below.heap_setCell _ _ _ _ ne)).heap (Below.heap_setCell _ _ _ _ ne)⟩⟩
    rw [e]
    exact blk_set (blk_set HQ1.out 0 _) 1 _
  have HB2 : Aside0 (Below base w ((w1.setCell ⟨q, 0, none⟩ (.slice (some ⟨gg, 0, none⟩) (l.length + 1) cap)).setCell ⟨q, 1, none⟩ (.int .i64 (ord + 1)))) := ⟨(HB1.out.setCell hbq _).setCell hbq _⟩
  have HU : Aside0 (Up (l ++ [(⟨p, ord, x⟩ : It V)]) l.length) := ⟨Up.push HH.out _⟩
  have HP : Aside0 ((l ++ [(⟨p, ord, x⟩ : It V)]).Perm (⟨p, ord, x⟩ :: l)) := ⟨List.perm_append_comm⟩
  clear hc0 hc1 hf0 hf1 HQ1 HB1 HOWN HLT1 HH HNE hi0 hz0 hz1 hz2
  go_loopg [6, 7] l.length (fun gas s6 _ wr => ∃ (k : Nat) (m : List (It V)), k < m.length ∧ m.length ≤ 1001 ∧ k ≤ gas ∧ s6 = .int .i64 k ∧ Aside0 (Q wr q base m (ord + 1)) ∧ Aside0 (Up m k) ∧ Aside0 (m.Perm (⟨p, ord, x⟩ :: l)) ∧ Aside0 (Below base w wr))
  case atStart => exact ⟨l.length, _, by simp, by simp; omega, Nat.le_refl _, rfl, HQ2, HU, HP, HB2⟩
  case round =>
    clear HQ2 HU HP HB2
    obtain ⟨k, m, hk, hm, hgas, rfl, HQ, HU, HP, HB⟩ := hrel
    by_cases h0 : 0 < k
    · obtain ⟨u, hu⟩ : ∃ u, (k - 1) / 2 = u := ⟨_, rfl⟩
      have huz : ((k : Int) - 1) / 2 = (u : Int) := by omega
      have huk : u < k := by omega
      have hul : u < m.length := by omega
      have hk0 : (0 : Int) < (k : Int) := by omega
      obtain ⟨g, cp, hbg, hq, hrow⟩ := HQ.out.row (by omega)
      have ne := Aside0.mk (hrow.ne hq)
      have HROW := Aside0.mk hrow
      have HQQ := Aside0.mk hq
      have hu0 : (0 : Int) ≤ (u : Int) := by omega
      have hu1 : (u : Int) < (m.length : Int) := by omega
      have hk00 : (0 : Int) ≤ (k : Int) := by omega
      have hk1 : (k : Int) < (m.length : Int) := by omega
      obtain ⟨cu0, cu1, cu2⟩ := hrow.cell u hul
      obtain ⟨ck0, ck1, ck2⟩ := hrow.cell k hk
      clear hrow hq
      go_wp2_with fail
      refine sw_ (fun w' => w'.cell? ⟨q, 0, none⟩ = some (.slice (some ⟨g, 0, none⟩) m.length cp) ∧ w'.cell? ⟨g, u * 3, none⟩ = some (.int .i64 m[u].p) ∧ w'.cell? ⟨g, u * 3 + 1, none⟩ = some (.int .i64 m[u].o) ∧ w'.cell? ⟨g, u * 3 + 2, none⟩ = some (ev m[u].v) ∧
        w'.cell? ⟨g, k * 3, none⟩ = some (.int .i64 m[k].p) ∧ w'.cell? ⟨g, k * 3 + 1, none⟩ = some (.int .i64 m[k].o) ∧ w'.cell? ⟨g, k * 3 + 2, none⟩ = some (ev m[k].v)) [] ⟨(blk_cell HQQ.out 0).trans rfl, cu0, cu1, cu2, ck0, ck1, ck2⟩ (fun hHeld => ?_)
      have HROW0 : Aside0 (Row wr.drew g cp m) := ⟨HROW.out⟩
      have HQQ0 : Aside0 (wr.drew.heap[q]? = some (.cells #[.slice (some ⟨g, 0, none⟩) m.length cp, .int .i64 (ord + 1)] 107 (0, 0))) := ⟨HQQ.out⟩
      have HB0 : Aside0 (Below base w wr.drew) := ⟨HB.out.drew⟩
      clear HROW HQQ HB HQ cu0 cu1 cu2 ck0 ck1 ck2
      generalize wr.drew = W1 at HROW0 HQQ0 HB0 hHeld ⊢
      refine pw_ 0 42 (h := ?_)
      refine pw_ 1 43 (h := ?_)
      refine pw_ 2 44 (h := ?_)
      refine pw_ 4 46 (h := ?_)
      refine pw_ 7 49 (h := ?_)
      refine pw_ 8 50 (h := ?_)
      refine pw_ 9 51 (h := ?_)
      refine pw_ 11 53 (h := ?_)
      refine tw_ 3 45 hHeld (h := ?_)
      refine pw_ 5 47 (h := ?_)
      refine tw_ 6 48 hHeld (h := ?_)
      refine tw_ 10 52 hHeld (h := ?_)
      refine pw_ 12 54 (h := ?_)
      refine tw_ 13 55 hHeld (h := ?_)
      refine ow_ 14 (some 56) (fun K hK => ?_)
      refine goes_ Try.func51 (by kernel_rfl) rfl #[.agg #[.int .i64 m[u].p, .int .i64 m[u].o, ev m[u].v], .agg #[.int .i64 m[k].p, .int .i64 m[k].o, ev m[k].v]] (by rfl) rfl rfl (by simp only [List.map_toArray, List.map_cons, List.map_nil]; rfl) ?_
      refine (compare_any m[u] m[k] _).mono ?_
      rintro e w2 ⟨r, rfl, hr, hb⟩
      refine ⟨_, rfl, ?_⟩
      have HROW2 := Aside0.mk (HROW0.out.below hb)
      have HQQ2 := Aside0.mk (blk_below HQQ0.out hb)
      have HB2 : Aside0 (Below base w w2) := ⟨HB0.out.trans (hb.mono (by have := blk_lt HQQ0.out; omega))⟩
      clear HROW0 HQQ0 HB0 hb
      obtain ⟨cu0, cu1, cu2⟩ := HROW2.out.cell u hul
      obtain ⟨ck0, ck1, ck2⟩ := HROW2.out.cell k hk
      refine hK.out _ _ ⟨(blk_cell HQQ2.out 0).trans rfl, cu0, cu1, cu2, ck0, ck1, ck2⟩ (fun hHeld => ?_)
      clear hK K cu0 cu1 cu2 ck0 ck1 ck2
      refine nw_ 56 (h := ?_)
      refine pw_ 15 57 (h := ?_)
      refine dw_ ?_
      cases hlt : ltB m[u] m[k] with
      | true =>
        rw [hlt] at hr
        have HL : Aside0 (le m[u] m[k]) := ⟨le_of_not (of_decide_eq_true hlt)⟩
        clear hlt
        go_wp2
        (first | go_end0 | ((try simp only [Exit.inBlock, Exit.then]); refine bodyPost_ret (results_none rfl _ _ _) rfl ?_))
        have hq : Q w2 q base m (ord + 1) := ⟨hbq, .inr ⟨g, cp, hbg, HQQ2.out, HROW2.out⟩⟩
        refine ⟨rfl, m, hq, HU.out.done hk h0 ?_, HP.out, HB2.out⟩
        simp only [hu]
        exact HL.out
      | false =>
        rw [hlt] at hr
        have HL : Aside0 (le m[k] m[u]) := ⟨Classical.byContradiction fun h => absurd hlt (by unfold ltB; rw [decide_eq_true h]; decide)⟩
        clear hlt
        go_wp2_with fail
        obtain ⟨cu0, cu1, cu2⟩ := HROW2.out.cell u hul
        obtain ⟨ck0, ck1, ck2⟩ := HROW2.out.cell k hk
        refine sw_ (fun w' => w'.cell? ⟨q, 0, none⟩ = some (.slice (some ⟨g, 0, none⟩) m.length cp) ∧ w'.cell? ⟨g, u * 3, none⟩ = some (.int .i64 m[u].p) ∧ w'.cell? ⟨g, u * 3 + 1, none⟩ = some (.int .i64 m[u].o) ∧ w'.cell? ⟨g, u * 3 + 2, none⟩ = some (ev m[u].v) ∧
          w'.cell? ⟨g, k * 3, none⟩ = some (.int .i64 m[k].p) ∧ w'.cell? ⟨g, k * 3 + 1, none⟩ = some (.int .i64 m[k].o) ∧ w'.cell? ⟨g, k * 3 + 2, none⟩ = some (ev m[k].v)) [25, 27] ⟨(blk_cell HQQ2.out 0).trans rfl, cu0, cu1, cu2, ck0, ck1, ck2⟩ (fun hHeld => ?_)
        have HROW3 : Aside0 (Row w2.drew g cp m) := ⟨HROW2.out⟩
        have HQQ3 : Aside0 (w2.drew.heap[q]? = some (.cells #[.slice (some ⟨g, 0, none⟩) m.length cp, .int .i64 (ord + 1)] 107 (0, 0))) := ⟨HQQ2.out⟩
        have HB3 : Aside0 (Below base w w2.drew) := ⟨HB2.out.drew⟩
        clear HROW2 HQQ2 HB2 cu0 cu1 cu2 ck0 ck1 ck2
        generalize w2.drew = W3 at HROW3 HQQ3 HB3 hHeld ⊢
        have HF3 := Aside0.mk HROW3.out.froz
        refine pw_ 0 58 (h := ?_)
        refine pw_ 1 59 (h := ?_)
        refine pw_ 2 60 (h := ?_)
        refine pw_ 4 62 (h := ?_)
        refine pw_ 5 63 (h := ?_)
        refine pw_ 6 64 (h := ?_)
        refine pw_ 7 65 (h := ?_)
        refine pw_ 9 67 (h := ?_)
        refine pw_ 10 68 (h := ?_)
        refine pw_ 11 69 (h := ?_)
        refine pw_ 12 70 (h := ?_)
        refine pw_ 14 72 (h := ?_)
        refine pw_ 17 75 (h := ?_)
        refine pw_ 18 76 (h := ?_)
        refine pw_ 19 77 (h := ?_)
        refine pw_ 21 79 (h := ?_)
        refine tw_ 3 61 hHeld (h := ?_)
        refine tw_ 8 66 hHeld (h := ?_)
        refine tw_ 13 71 hHeld (h := ?_)
        refine pw_ 15 73 (h := ?_)
        refine tw_ 16 74 hHeld (h := ?_)
        refine tw_ 20 78 hHeld (h := ?_)
        refine pw_ 22 80 (h := ?_)
        refine tw_ 23 81 hHeld (h := ?_)
        refine pw_ 24 82 (h := ?_)
        have hf0 : W3.frozen? ⟨g, u * 3, none⟩ = false := HF3.out _
        have hf1 : W3.frozen? ⟨g, u * 3 + 1, none⟩ = false := HF3.out _
        have hf2 : W3.frozen? ⟨g, u * 3 + 2, none⟩ = false := HF3.out _
        obtain ⟨xu0, xu1, xu2⟩ := HROW3.out.cell u hul
        refine lw_ 25 none (fun K hK => ?_)
        refine kw_ (h := ?_)
        refine hK.out _ _ ?_
        clear hK K
        have HROW4 := Aside0.mk (HROW3.out.put u hul m[k])
        have HQQ4 := Aside0.mk (blk_far (blk_far (blk_far HQQ3.out (Ne.symm ne.out) (p := ⟨g, u * 3, none⟩) (.int .i64 m[k].p)) (Ne.symm ne.out) (p := ⟨g, u * 3 + 1, none⟩) (.int .i64 m[k].o)) (Ne.symm ne.out) (p := ⟨g, u * 3 + 2, none⟩) (ev m[k].v))
        have HB4 := Aside0.mk (((HB3.out.setCell hbg (p := ⟨g, u * 3, none⟩) (.int .i64 m[k].p)).setCell hbg (p := ⟨g, u * 3 + 1, none⟩) (.int .i64 m[k].o)).setCell hbg (p := ⟨g, u * 3 + 2, none⟩) (ev m[k].v))
        clear xu0 xu1 xu2 hf0 hf1 hf2 HROW3 HQQ3 HB3 HF3 hHeld
        generalize ((W3.setCell ⟨g, u * 3, none⟩ (.int .i64 m[k].p)).setCell ⟨g, u * 3 + 1, none⟩ (.int .i64 m[k].o)).setCell ⟨g, u * 3 + 2, none⟩ (ev m[k].v) = W4 at HROW4 HQQ4 HB4 ⊢
        refine pw_ 26 83 (h := ?_)
        have hk4 : k < (m.set u m[k]).length := by rw [List.length_set]; exact hk
        obtain ⟨xk0, xk1, xk2⟩ := HROW4.out.cell k hk4
        have hf0 : W4.frozen? ⟨g, k * 3, none⟩ = false := HROW4.out.froz _
        have hf1 : W4.frozen? ⟨g, k * 3 + 1, none⟩ = false := HROW4.out.froz _
        have hf2 : W4.frozen? ⟨g, k * 3 + 2, none⟩ = false := HROW4.out.froz _
        refine lw_ 27 none (fun K hK => ?_)
        refine kw_ (h := ?_)
        refine hK.out _ _ ?_
        clear hK K
        refine dw_ ?_
        go_wp2
        go_roundg u
        case measure => omega
        case rel =>
          have hul' : u < m.length := hul
          have hset : (m.set u m[k]).set k m[u] = swp m u k hul hk := rfl
          have hr5 := HROW4.out.put k hk4 m[u]
          rw [hset] at hr5
          have hq5 := blk_far (blk_far (blk_far HQQ4.out (Ne.symm ne.out) (p := ⟨g, k * 3, none⟩) (.int .i64 m[u].p)) (Ne.symm ne.out) (p := ⟨g, k * 3 + 1, none⟩) (.int .i64 m[u].o)) (Ne.symm ne.out) (p := ⟨g, k * 3 + 2, none⟩) (ev m[u].v)
          have hb5 := ((HB4.out.setCell hbg (p := ⟨g, k * 3, none⟩) (.int .i64 m[u].p)).setCell hbg (p := ⟨g, k * 3 + 1, none⟩) (.int .i64 m[u].o)).setCell hbg (p := ⟨g, k * 3 + 2, none⟩) (ev m[u].v)
          have hup : Up (swp m u k hul hk) u := by
            have h5 := Up.step HU.out hk h0 (by simp only [hu]; exact HL.out)
            simp only [hu] at h5
            exact h5
          have hlen : (swp m u k hul hk).length = m.length := swp_length _ _ _ _ _
          refine ⟨u, swp m u k hul hk, by rw [hlen]; exact hul, by rw [hlen]; exact hm, Nat.le_refl _, by rw [huz], ⟨⟨hbq, .inr ⟨g, cp, hbg, ?_, hr5⟩⟩⟩, ⟨hup⟩, ⟨(swp_perm _ _ _ _ _).trans HP.out⟩, ⟨hb5⟩⟩
          rw [hlen]
          exact hq5
    · obtain rfl : k = 0 := by omega
      go_wp2
      (first | go_end0 | ((try simp only [Exit.inBlock, Exit.then]); refine bodyPost_ret (results_none rfl _ _ _) rfl ?_))
      exact ⟨rfl, m, HQ.out, HU.out.done0, HP.out, HB.out⟩
end Go.Proofs.YthghilclgobpbaaH.S
