/- Made by a program of this session (wip/tools/myprint.py, over the kit's printer): that the Go functions answer as the Lean functions printed beside them. -/
import Derived.Test.YtbpbpojnfhhbjaaPTubeAllx0
import Derived.Test.YtbpbpojnfhhbjaaPTubeAllx1
import Derived.Test.YtbpbpojnfhhbjaaPTubeAllx2
import Derived.Test.YtbpbpojnfhhbjaaPTubeAllx5
import Derived.Test.YtbpbpojnfhhbjaaPTubeAllx7
import Derived.Test.YtbpbpojnfhhbjaaPTubeAllx8
import Derived.Test.YtbpbpojnfhhbjaaPTubeAllx9
import Derived.Test.YtbpbpojnfhhbjaaPTubeAllx10
import Derived.BigQuiet
import Derived.BigRegionIn
import Derived.Deep.Quiet
import Derived.Deep.QuietTactic
import Derived.IntWalk
import Derived.LoopIn
import Derived.LoopNIn
import Derived.OrdersIn
import Derived.Outline
import Derived.OwnWalkIn
import Derived.RangeFuncBound
import Derived.RangeFuncBox
import Derived.RangeFuncCalls
import Derived.RangeFuncLeaves
import Derived.RangeFuncNested
import Derived.RegionIn
import Derived.Shelf.Abstract
import Derived.Shelf.RegionOpen
import Derived.StillTailTactics
import Derived.TacticsIn
import Derived.TacticsInMore
import Derived.WalkKit
namespace Go.Proofs.Ytbpbpojnfhhbjaa.PTubeAll
open Go.RowKit Go.Proofs.YtbpbpojnfhhbjaaW.PrintWords Go.Proofs.YtbpbpojnfhhbjaaW.PrintLast Go.Proofs.YtbpbpojnfhhbjaaW.PrintMore
attribute [local go_sem] max2_int min2_int max_two min_two max_three min_three max_four min_four   -- for this text's walks alone
set_option linter.unusedVariables false
set_option linter.unusedSimpArgs false

/-! ### skywaykeep1_TubeAll: function 11 -/
-- IMPORT RangeFuncNested RangeFuncBound RangeFuncCalls RangeFuncLeaves RangeFuncBox Shelf.Abstract Shelf.RegionOpen WalkKit OwnWalkIn TacticsIn TacticsInMore OrdersIn LoopNIn LoopIn Outline RegionIn BigRegionIn Deep.Quiet Deep.QuietTactic BigQuiet IntWalk StillTailTactics
section
open Go Go.RowKit
variable {P : Program} {ops : Array Oper} {C : World → Prop} {md : Region.Mode} {l n : Nat}
def plainB (o : Oper) : Bool := match o.op with | .defer _ => false | _ => true
theorem plain_of {o : Oper} (h : plainB o = true) : ∀ c, o.op ≠ .defer c := by
  intro c e
  unfold plainB at h
  rw [e] at h
  cases h
theorem wpIn_of_quiet {o : Oper} {a : Act} {K : Act → Prop} {K' : Act → World → Prop} {Q' : Exit → Act → World → Prop} {w : World} (hd : ∀ c, o.op ≠ .defer c) (hw : C w) (h : ∀ a w', C w' → K a → K' a w') (hh : o.quiet P a C K) : o.wpIn (Fence.wide.inRound l) n P a w K' Q' := by
  obtain ⟨v, h1, h2⟩ := hh
  have h3 := h1 w hw
  unfold Oper.quietAt at h3
  refine ⟨fun _ _ => trivial, ?_⟩
  rw [Oper.semAt_eq _ _ _ hd]
  generalize (execOp a.eval o).run P w = r at *
  cases r with
  | ok x w1 =>
    cases x with
    | value u =>
      obtain ⟨rfl, rfl⟩ := h3
      exact h _ _ hw h2
    | skip =>
      obtain ⟨rfl, rfl⟩ := h3
      exact h _ _ hw h2
    | enter f args =>
      obtain ⟨rfl, hc⟩ := h3
      refine ⟨fun g => absurd g (by simp [Fence.wide, Fence.inRound]), CallsIn.inRound l ((callsIn_wide.2 hc).mono ?_)⟩
      rintro e w2 ⟨rfl, hc2⟩
      exact h _ _ hc2 h2
    | defer _ => exact h3.elim
    | row _ _ => exact h3.elim
    | round _ _ _ _ _ => exact h3.elim
    | _ => exact h3.elim
  | halt _ _ => exact h3.elim
theorem wpOpIn_of_qOp {i : Nat} {a : Act} {K : Act → Prop} {K' : Act → World → Prop} {Q' : Exit → Act → World → Prop} {w : World} (hd : ∀ (i : Nat) (o : Oper), ops[i]? = some o → plainB o = true) (hw : C w) (h : ∀ a w', C w' → K a → K' a w') (hh : qOp P ops C i K a) : wpOpIn (Fence.wide.inRound l) n P ops Q' i K' a w := by
  unfold qOp at hh
  unfold wpOpIn
  cases ho : ops[i]? with
  | none => rw [ho] at hh; exact h _ _ hw hh
  | some o =>
    rw [ho] at hh
    dsimp only at hh ⊢
    by_cases c : Region.wanted o (yielded ops a.tmps) = true
    · rw [if_pos c] at hh ⊢
      exact wpIn_of_quiet (plain_of (hd i o ho)) hw h hh
    · rw [if_neg c] at hh ⊢
      exact ⟨fun _ _ => trivial, h _ _ hw hh⟩
theorem wpAnyIn_of_quiet {Q : Act → Prop} {Q' : Exit → Act → World → Prop} (hd : ∀ (i : Nat) (o : Oper), ops[i]? = some o → plainB o = true) (hQ : ∀ a w, C w → Q a → Q' .normal a w) : ∀ (fuel : Nat) (listed : Array Bool) (a : Act) (w : World), C w →
    wpAnyQ P md ops C Q fuel listed a → wpAnyIn (Fence.wide.inRound l) n P md ops Q' fuel listed a w
  | 0, _, _, _, hw, h => ⟨h.1, hQ _ _ hw h.2⟩
  | fuel + 1, _, _, _, hw, h => ⟨fun h0 => hQ _ _ hw (h.1 h0), fun i hi => wpOpIn_of_qOp hd hw (fun a' w' hw' => wpAnyIn_of_quiet hd hQ fuel _ a' w' hw') (h.2 i hi)⟩
/-- A region of a round that draws its order and only reads, walked in the order of the text. -/
theorem wpIn_quiet_lit {id : Nat} {Q : Exit → Act → World → Prop} {a : Act} {w : World} {ls : List Oper} (hm : P.follows .mixedOrders = true) (hB : Region.lexB .any ls.toArray = true) (hp : ls.all plainB = true)
    (h : wpQuiet P ls.toArray (fun w' => ∃ n, w' = w.drewN n) (fun a' => ∀ w', (∃ n, w' = w.drewN n) → Q .normal a' w') ls a) : (Code.region id ls.toArray true).wpIn (Fence.wide.inRound l) n P Q a w := by
  simp only [Region.lexB, Bool.and_eq_true] at hB
  have hd : ∀ (i : Nat) (o : Oper), ls.toArray[i]? = some o → plainB o = true := fun i o ho => by
    rw [List.getElem?_toArray] at ho
    exact List.all_eq_true.1 hp o (List.mem_of_getElem? ho)
  refine wpIn_region_any hm (wpAnyIn_of_quiet (C := fun w' => ∃ n, w' = w.drewN n) (Q := fun a' => ∀ w', (∃ n, w' = w.drewN n) → Q .normal a' w') hd (fun _ w' hw' h => h w' hw') _ _ _ _ ⟨1, rfl⟩ ?_)
  have := wpAnyQ_lex (P := P) (C := fun w' => ∃ n, w' = w.drewN n) (md := .any) hB.1 ls 0 (Array.replicate ls.toArray.size false) a (by simp) (by simpa using hB.2) h
  simpa using this
end
section
open Go Go.RowKit Go.Shelf
attribute [local go_sem] Oper.semAt_some
attribute [local go_sem high] eqA88
theorem row_one {W : World} {g t : Nat} {A0 : Option Addr} {c0 : Nat} {l0 : List S88} (h : W.heap[g]? = some (.cells #[.slice A0 l0.length c0] t (0, 0))) (hr0 : Kd.C k88 W A0 l0.length l0) (hc0 : l0.length ≤ c0) :
    Kd.C (Kd.slice 88 k88) W (some ⟨g, 0, none⟩) ([l0] : List (List S88)).length [l0] := by
  refine ⟨rfl, by simp, fun _ => ⟨_, rfl, fun j p hj => ?_⟩⟩
  rcases j with _ | j
  · obtain rfl : l0 = p := by simpa using hj
    refine ⟨[.slice A0 l0.length c0], rfl, ⟨A0, c0, rfl, hc0, hr0⟩, fun i u hu => ?_⟩
    rcases i with _ | i
    · obtain rfl : .slice A0 l0.length c0 = u := by simpa using hu
      exact (blk_cell h 0).trans rfl
    · simp at hu
  · simp at hj
def eqT (m n : S88) : Bool := (m.f0.f0 == n.f0.f0 && ((m.f0.f1.f0 == n.f0.f1.f0 && (m.f0.f1.f1 == n.f0.f1.f1)) && (m.f0.f2 == n.f0.f2))) && (m.f1 == n.f1 && (m.f2 == n.f2))
/-- What a round asks of a node. -/
def skywaykeep1_TubeAll.step (k : Nat) (l : List S88) (i : Nat) (n : S88) : Option Bool :=
  (tube_At.f k l n.f0.f0).bind fun m => some ((m.2.2.2.2.2.2 == 0) && (eqT (mkT m) n && (decide (0 < l.length) && (n.f0.f0 == wrap64 ((rd_T88 l 0).f0.f0 + (i : Int))))))
theorem skywaykeep1_TubeAll.step_eq {k : Nat} {l : List S88} {i : Nat} {nt m1 m2 m3 m4 m5 m6 m7 : Int} (nx ny nh nr nb : Int) (hm : tube_At.f k l nt = some (m1, m2, m3, m4, m5, m6, m7)) :
    skywaykeep1_TubeAll.step k l i ⟨⟨nt, ⟨nx, ny⟩, nh⟩, nr, nb⟩ = some ((m7 == 0) && (((m1 == nt && ((m2 == nx && (m3 == ny)) && (m4 == nh))) && (m5 == nr && (m6 == nb))) && (decide (0 < l.length) && (nt == wrap64 ((rd_T88 l 0).f0.f0 + (i : Int)))))) := by
  unfold skywaykeep1_TubeAll.step
  simp only [hm, Option.bind_some, mkT, eqT]
def skywaykeep1_TubeAll.all (k : Nat) (l : List S88) : Nat → List S88 → Option Bool
  | _, [] => some true
  | i, n :: zs => (skywaykeep1_TubeAll.step k l i n).bind fun x => (skywaykeep1_TubeAll.all k l (i + 1) zs).bind fun y => some (x && y)
theorem skywaykeep1_TubeAll.all_some {k : Nat} {l : List S88} : ∀ {zs : List S88} {i : Nat} {r : Bool}, skywaykeep1_TubeAll.all k l i zs = some r → (∀ x ∈ zs, ∃ m, tube_At.f k l x.f0.f0 = some m) ∧ ((∀ j (h : j < zs.length), skywaykeep1_TubeAll.step k l (i + j) zs[j] = some true) → r = true) ∧ ((∃ j, ∃ h : j < zs.length, skywaykeep1_TubeAll.step k l (i + j) zs[j] = some false) → r = false)
  | [], i, r, h => by
    obtain rfl : true = r := Option.some.inj h
    exact ⟨by simp, fun _ => rfl, fun ⟨j, h, _⟩ => absurd h (Nat.not_lt_zero _)⟩
  | n :: zs, i, r, h => by
    rw [skywaykeep1_TubeAll.all] at h
    obtain ⟨x, hx, h⟩ := Option.bind_eq_some_iff.1 h
    obtain ⟨y, hy, h⟩ := Option.bind_eq_some_iff.1 h
    obtain rfl := Option.some.inj h
    obtain ⟨i1, i2, i3⟩ := skywaykeep1_TubeAll.all_some hy
    refine ⟨fun z hz => ?_, fun g => ?_, fun ⟨j, hj, g⟩ => ?_⟩
    · rcases List.mem_cons.1 hz with rfl | hz
      · unfold skywaykeep1_TubeAll.step at hx
        obtain ⟨m, hm, _⟩ := Option.bind_eq_some_iff.1 hx
        exact ⟨m, hm⟩
      · exact i1 z hz
    · have g1 := g 0 (by simp)
      rw [show ((n :: zs)[0]) = n from rfl, Nat.add_zero, hx] at g1
      obtain rfl := Option.some.inj g1
      rw [i2 (fun j hj => by have := g (j + 1) (by simp; omega); rw [show i + (j + 1) = i + 1 + j by omega] at this; exact this)]
      rfl
    · rcases j with _ | j
      · rw [show ((n :: zs)[0]) = n from rfl, Nat.add_zero, hx] at g
        obtain rfl := Option.some.inj g
        rfl
      · rw [i3 ⟨j, by simp at hj; omega, by rw [show i + (j + 1) = i + 1 + j by omega] at g; exact g⟩, Bool.and_false]
theorem keeps_of_below {X Y : World} (h : Below X.heap.size X Y) (B : Nat) : KeepsFrom B X Y := ⟨h.size, fun k o _ hk _ => (h.block k (Array.getElem?_eq_some_iff.1 hk).1).trans hk⟩
theorem blk_own {β : Type} (B : Nat) (cs : Array Value) (t : TypeId) (fr : Nat × Nat) : Own (fun (_ : β) W => W.heap[B]? = some (.cells cs t fr)) := fun s X Y row hs hg hrow =>
  (hg.block B (Array.getElem?_eq_some_iff.1 hs).1 (fun e' => by obtain ⟨o, ho, hc⟩ := hrow B e'.symm; rw [hs] at ho; cases ho; cases hc)).trans hs
theorem boxed_put {W : World} {B D : Nat} {t : TypeId} {v : Value} {o : Obj} (h : Boxed W B t v) (hne : B ≠ D) : Boxed (W.putObj D o) B t v := h.kept (grownBy_putObj' W D o) (fun e => hne (by cases e; rfl))
theorem boxed_drew {W : World} {B : Nat} {t : TypeId} {v : Value} (h : Boxed W B t v) : Boxed W.drew B t v := h
theorem below_drew' {w W : World} (h : Below w.heap.size w W) : Below w.heap.size w W.drew := ⟨h.os, h.tape, h.output, h.size, h.block⟩
theorem skywaykeep1_TubeAll.out {tmps : Array Value} {r : Bool} {g : Nat} {w W : World} (h2 : tmps.getD 2 undef = .pointer (some ⟨g, 0, none⟩)) (Z : Boxed W g 4 (.bool r)) (hB : Below w.heap.size w W) :
    LeavesIn Fence.wide 6 Try.prog Try.f11 tmps (fun e w' => e = .returned (.bool r) ∧ Below w.heap.size w w') [] .returning W := by
  have z1 := Boxed.cell Z
  refine ⟨_, ?_, rfl, hB⟩
  simp only [Array.getD_eq_getD_getElem?] at h2
  simp [results, Try.f11, go_sem, z1, h2]
def skywaykeep1_TubeAll.f (k : Nat) (l0 : List S88) : Option Bool :=
  (skywaykeep1_tubeWorks.f k).bind fun b => if b = true then ((skywaykeep1_long.f k ([l0] : List (List S88))).bind fun g => if g = true then some true else
    (tube_All_1.f k l0).bind fun zs => (skywaykeep1_TubeAll.all k l0 0 zs).bind fun x => (tube_Check.f k l0).bind fun e => if zs.length < 4000000000000000000 then (if x = true then (if e = 0 then (if 0 < (l0.length : Int) then some ((zs.length : Int) == wrap64 (wrap64 ((rd_T88 l0 ((l0.length : Int) - 1)).f0.f0 - (rd_T88 l0 0).f0.f0) + 1)) else none) else some ((zs.length : Int) == 0)) else some false) else none) else some false
set_option maxRecDepth 100000 in
set_option maxHeartbeats 8000000 in
theorem skywaykeep1_TubeAll.calls (k : Nat) (A0 : Option Addr) (c0 : Nat) (l0 : List S88) (r : Bool) (w : World) (hr0 : Kd.C k88 w A0 l0.length l0) (hc0 : l0.length ≤ c0) (h : skywaykeep1_TubeAll.f k l0 = some r) :
    Calls Try.prog 11 #[.slice A0 l0.length c0] w fun e w' => e = .returned (.bool r) ∧ Below w.heap.size w w' := by
  unfold skywaykeep1_TubeAll.f at h
  obtain ⟨b, hb, h⟩ := Option.bind_eq_some_iff.1 h
  obtain ⟨W0, hW0⟩ : ∃ W0, (w.alloc (.cells #[.slice A0 l0.length c0] 82)).alloc (.cells #[.bool false] 4) = W0 := ⟨_, rfl⟩
  have HB0 := Aside0.mk (show Below w.heap.size w W0 by rw [← hW0]; exact below_alloc (below_alloc (Below.refl _ _) _) _)
  have HX := Aside0.mk (show Boxed W0 w.heap.size 82 (.slice A0 l0.length c0) ∧ Boxed W0 (w.heap.size + 1) 4 (.bool false) by
    rw [← hW0]
    refine ⟨(Boxed.new w _ _).alloc _, ?_⟩
    have := Boxed.new (w.alloc (.cells #[.slice A0 l0.length c0] 82)) 4 (.bool false)
    simpa using this)
  have HR := Aside0.mk hr0
  have HH := Aside0.mk h
  clear hr0 h
  refine (callsIn_wide (n := 6)).1 (callsIn_of_wp_marks Try.func11 rfl trivial ?_ rfl)
  simp only [Try.ntmps11, List.size_toArray, List.length_cons, List.length_nil, Nat.reduceAdd, Nat.reduceSub, Array.replicate_succ, Array.replicate_zero, List.push_toArray, List.append_toArray, List.nil_append, List.cons_append]
  refine wpIn_wide.2 ?_
  go_wp2_with (go_at_call 35; refine (skywaykeep1_tubeWorks.calls k b _ hb).mono ?_; rintro e w1 ⟨rfl, hb1⟩; clear hb; have B1 := Aside0.mk (below_step HB0.out hb1); have X := Aside0.mk (show Boxed w1 w.heap.size 82 (.slice A0 l0.length c0) ∧ Boxed w1 (w.heap.size + 1) 4 (.bool false) from ⟨blk_below HX.out.1 hb1, blk_below HX.out.2 hb1⟩); clear HX HB0 hb1; have y0 := Boxed.cell X.out.1; have y1 := Boxed.cell X.out.2; have y2 := Boxed.frozen X.out.2; rcases b with _ | _)
  · obtain rfl : false = r := by simpa using HH.out
    go_wp2
    exact skywaykeep1_TubeAll.out rfl (Boxed.set (.bool false) X.out.2) (B1.out.setCell (by simp) _)
  · have h := HH.out
    clear HH
    simp only [↓reduceIte] at h
    obtain ⟨g, hg, h⟩ := Option.bind_eq_some_iff.1 h
    have HH := Aside0.mk h
    clear h
    go_wp2_with fail
    have hB2 := below_alloc B1.out (.cells #[.slice A0 l0.length c0] 82)
    refine (skywaykeep1_long.calls k (some ⟨w1.heap.size, 0, none⟩) 1 [l0] g _ (row_one (blk_new w1 _) (Kd.C_below HR.out hB2) hc0) (Nat.le_refl _) hg).mono ?_
    rintro e w3 ⟨rfl, hb3⟩
    have B3 := Aside0.mk (below_step hB2 hb3)
    have hb13 : Below w1.heap.size w1 w3 := below_step (below_alloc (Below.refl _ _) _) hb3
    have X3 := Aside0.mk (show Boxed w3 w.heap.size 82 (.slice A0 l0.length c0) ∧ Boxed w3 (w.heap.size + 1) 4 (.bool false) from ⟨blk_below X.out.1 hb13, blk_below X.out.2 hb13⟩)
    clear y0 y1 y2 hb3 hb13 hB2 hg X B1
    have y0 := Boxed.cell X3.out.1
    have y1 := Boxed.cell X3.out.2
    have y2 := Boxed.frozen X3.out.2
    rcases g with _ | _
    · have h := HH.out
      clear HH
      simp only [↓reduceIte, Bool.false_eq_true] at h
      obtain ⟨zs, hzs, h⟩ := Option.bind_eq_some_iff.1 h
      obtain ⟨x, hx, h⟩ := Option.bind_eq_some_iff.1 h
      obtain ⟨e, he, h⟩ := Option.bind_eq_some_iff.1 h
      by_cases hN : zs.length < 4000000000000000000
      · rw [if_pos hN] at h
        have HH := Aside0.mk h
        clear h
        have U3 := X3.out.1.alloc (.cells #[.int .i64 0] 3)
        have u3 := Boxed.cell U3
        go_wp2_with (go_at_call 37; refine (tube_All.made A0 l0.length c0 _).mono ?_; rintro e_ w4 ⟨rfl, rfl⟩)
        obtain ⟨W4, hW4⟩ : ∃ W4, (w3.alloc (.cells #[.int .i64 0] 3)).alloc (.cells #[.slice A0 l0.length c0] 82) = W4 := ⟨_, rfl⟩
        rw [hW4]
        have hsz : W4.heap.size = w3.heap.size + 1 + 1 := by rw [← hW4]; simp
        have hBw : Below w.heap.size w W4 := by rw [← hW4]; exact below_alloc (below_alloc B3.out _) _
        have HU := Aside0.mk (show Boxed W4 (w3.heap.size + 1) 82 (.slice A0 l0.length c0) ∧ Boxed W4 w.heap.size 82 (.slice A0 l0.length c0) ∧ Boxed W4 (w.heap.size + 1) 4 (.bool false) ∧ Boxed W4 w3.heap.size 3 (.int .i64 0) by
          rw [← hW4]
          refine ⟨?_, (X3.out.1.alloc _).alloc _, (X3.out.2.alloc _).alloc _, (Boxed.new w3 _ _).alloc _⟩
          have := Boxed.new (w3.alloc (.cells #[.int .i64 0] 3)) 82 (.slice A0 l0.length c0)
          simpa using this)
        have HS := Aside0.mk hsz
        have HL := Aside0.mk (Boxed.lt X3.out.2)
        have HW3 := Aside0.mk B3.out.size
        have HA := Aside0.mk (skywaykeep1_TubeAll.all_some hx)
        have HE := Aside0.mk he
        have HN := Aside0.mk hN
        clear y0 y1 y2 u3 U3 hsz hW4 hx he hN X3 hW0
        refine (fun (K : ∀ a, a = _ → Code.wp Try.prog _ _ a W4) => K _ rfl) ?_
        intro a ha
        refine (wpIn_wide (n := 6)).1 ?_
        refine wpIn_rangeFunc_ownH rfl (by decide) (gf := 85) (lb := #[.pointer (some ⟨w3.heap.size + 1, 0, none⟩)]) (by rw [ha]; simp [go_sem]) trivial (enters_of Try.func85 (by kernel_rfl) rfl)
          (tube_All_1.stops 5 (by decide) (w3.heap.size + 1) k A0 c0 l0 zs w HR.out hc0 hzs W4 hBw HU.out.1)
          (fun h1 h2 => ⟨h1.1.trans h2.1, h2.2.trans h1.2⟩)
          (fun W l o o' hl ho hc hw => ⟨belowK_b (w := w) (Nat.le_refl _) W l o o' (by have := hBw.size; omega) ho hc hw, (grownBy_putObj' W l o').block _ (by have := (Array.getElem?_eq_some_iff.1 ho).1; have := HS.out; omega) (fun e => by cases e; have := HS.out; omega)⟩)
          (Below.refl _ _) (fun _ => rfl)
          (fun pre W => (Boxed W w.heap.size 82 (.slice A0 l0.length c0) ∧ Boxed W (w.heap.size + 1) 4 (.bool false) ∧ Boxed W w3.heap.size 3 (.int .i64 (pre.length : Nat)) ∧ (∀ j (h : j < pre.length), skywaykeep1_TubeAll.step k l0 j pre[j].1 = some true) ∧ W4.heap.size ≤ W.heap.size) ∧ Below w.heap.size w W)
          (fun c pre W => (c = .ret ∧ Boxed W (w.heap.size + 1) 4 (.bool false) ∧ ∃ j, ∃ h : j < pre.length, skywaykeep1_TubeAll.step k l0 j pre[j].1 = some false) ∧ Below w.heap.size w W)
          (OwnFrom.and (OwnFrom.and (Own.from (boxed_own _ _ _) _) (OwnFrom.and (Own.from (boxed_own _ _ _) _) (OwnFrom.and (Own.from (boxed_own _ _ (fun pre : List { x : S88 // x ∈ zs } => .int .i64 (pre.length : Nat))) _) (OwnFrom.and (ownFrom_pure _ _) (fun s X Y row hs hg hr => Nat.le_trans hs hg.size))))) (ownFrom_below (Nat.le_refl _) hBw.size))
          (fun c => OwnFrom.and (OwnFrom.and (ownFrom_pure _ _) (OwnFrom.and (Own.from (boxed_own _ _ _) _) (ownFrom_pure _ _))) (ownFrom_below (Nat.le_refl _) hBw.size))
          ⟨⟨HU.out.2.1, HU.out.2.2.1, HU.out.2.2.2, fun j h => absurd h (Nat.not_lt_zero _), Nat.le_refl _⟩, hBw⟩
          (fun x a' W => ∃ Bx, W.heap[Bx]? = some (.cells #[.int .i64 x.1.f0.f0, .int .i64 x.1.f0.f1.f0, .int .i64 x.1.f0.f1.f1, .int .i64 x.1.f0.f2, .int .i64 x.1.f1, .int .i64 x.1.f2] 88 (0, 0)) ∧ a' = { tmps := (a.tmps.setIfInBounds 14 (encT x.1)).setIfInBounds 4 (.pointer (some ⟨Bx, 0, none⟩)), defers := [] })
          ?hAx ?assign ?body ?done ?stop
        case hAx =>
          rintro x a' s X Y row ⟨Bx, h1, h2⟩ hg hr
          exact ⟨Bx, (blk_own (β := Unit) Bx _ _ _).from _ () X Y row h1 hg hr, h2⟩
        case assign =>
          rintro l pre x W K ⟨⟨b0, b1, b2, hok, hsW⟩, hB⟩ hK
          rw [ha]
          gi_wp2
          exact hK _ _ ((KeepsOthers.alloc _ _).from _) ⟨(Below.refl _ W).alloc hB.size _, Below.heap_alloc _ _ _ (by have := HS.out; omega)⟩ ⟨⟨b0.alloc _, b1.alloc _, b2.alloc _, hok, by simp; omega⟩, hB.alloc hB.size _⟩ ⟨W.heap.size, blk_new _ _, by rw [ha]; rfl⟩
        case body =>
          rintro l pre x a' W hl ⟨rr, hrr⟩ ⟨⟨b0, b1, b2, hok, hsW⟩, hB⟩ ⟨Bx, hbx, ha'⟩ hlen
          obtain ⟨⟨m1, m2, m3, m4, m5, m6, m7⟩, hm⟩ := HA.out.1 x.1 x.2
          obtain ⟨⟨⟨nt, ⟨nx, ny⟩, nh⟩, nr, nb⟩, hx⟩ := x
          dsimp only at hm hbx ha'
          have hst := skywaykeep1_TubeAll.step_eq (l := l0) (i := pre.length) nx ny nh nr nb hm
          have hbl := blk_lt hbx
          have e0 : W.cell? ⟨Bx, 0, none⟩ = some (.int .i64 nt) := (blk_cell hbx 0).trans rfl
          have y0 := Boxed.cell b0
          have rW := Kd.C_below HR.out hB
          have HHK := Aside0.mk hok
          have HHS := Aside0.mk hst
          have HHX := Aside0.mk hbx
          have HHL := Aside0.mk hlen
          have HHW := Aside0.mk hsW
          have HHB := Aside0.mk hB
          have HBX := Aside0.mk (And.intro b0 (And.intro b1 b2))
          rw [ha] at ha'
          subst ha'
          clear hok hst hbx hrr ha hlen hsW hB b0 b1 b2
          simp only [List.setIfInBounds_toArray, List.set_cons_zero, List.set_cons_succ]
          gi_wp2_with (refine ⟨trivial, ?_⟩; gi_at_call 38; refine (CallsIn.inRound l (callsIn_wide.2 (tube_At.calls k A0 c0 l0 nt m1 m2 m3 m4 m5 m6 m7 W rW hc0 hm))).mono ?_; rintro e_ w5 ⟨rfl, hb5⟩)
          obtain ⟨w6, h6⟩ : ∃ w6, (w5.alloc (.cells #[.int .i64 m1, .int .i64 m2, .int .i64 m3, .int .i64 m4, .int .i64 m5, .int .i64 m6] 88)) = w6 := ⟨_, rfl⟩
          rw [h6]
          have H6 := Aside0.mk (show Below W.heap.size W w6 by rw [← h6]; exact below_alloc hb5 _)
          have M := Aside0.mk (show w6.heap[w5.heap.size]? = some (.cells #[.int .i64 m1, .int .i64 m2, .int .i64 m3, .int .i64 m4, .int .i64 m5, .int .i64 m6] 88 (0, 0)) by rw [← h6]; exact blk_new _ _)
          have R0 : Boxed w6 w.heap.size 82 (.slice A0 l0.length c0) := blk_below HBX.out.1 H6.out
          have R1 : Boxed w6 (w.heap.size + 1) 4 (.bool false) := blk_below HBX.out.2.1 H6.out
          have R2 : Boxed w6 w3.heap.size 3 (.int .i64 (pre.length : Nat)) := blk_below HBX.out.2.2 H6.out
          have HXB := blk_below HHX.out H6.out
          clear hb5 h6 e0 y0 rW hm
          have k0 : w6.cell? ⟨Bx, 0, none⟩ = some (.int .i64 nt) := (blk_cell HXB 0).trans rfl
          have k1 : w6.cell? ⟨Bx, 1, none⟩ = some (.int .i64 nx) := (blk_cell HXB 1).trans rfl
          have k2 : w6.cell? ⟨Bx, 2, none⟩ = some (.int .i64 ny) := (blk_cell HXB 2).trans rfl
          have k3 : w6.cell? ⟨Bx, 3, none⟩ = some (.int .i64 nh) := (blk_cell HXB 3).trans rfl
          have k4 : w6.cell? ⟨Bx, 4, none⟩ = some (.int .i64 nr) := (blk_cell HXB 4).trans rfl
          have k5 : w6.cell? ⟨Bx, 5, none⟩ = some (.int .i64 nb) := (blk_cell HXB 5).trans rfl
          have n0 : w6.cell? ⟨w5.heap.size, 0, none⟩ = some (.int .i64 m1) := (blk_cell M.out 0).trans rfl
          have n1 : w6.cell? ⟨w5.heap.size, 1, none⟩ = some (.int .i64 m2) := (blk_cell M.out 1).trans rfl
          have n2 : w6.cell? ⟨w5.heap.size, 2, none⟩ = some (.int .i64 m3) := (blk_cell M.out 2).trans rfl
          have n3 : w6.cell? ⟨w5.heap.size, 3, none⟩ = some (.int .i64 m4) := (blk_cell M.out 3).trans rfl
          have n4 : w6.cell? ⟨w5.heap.size, 4, none⟩ = some (.int .i64 m5) := (blk_cell M.out 4).trans rfl
          have n5 : w6.cell? ⟨w5.heap.size, 5, none⟩ = some (.int .i64 m6) := (blk_cell M.out 5).trans rfl
          have r0 := Boxed.cell R0
          have r1 := Boxed.cell R1
          have r2 := Boxed.cell R2
          have r3 := Boxed.frozen R1
          have r4 := Boxed.frozen R2
          clear HXB
          by_cases c1 : m7 = 0
          · subst c1
            obtain ⟨Q, hQ⟩ : ∃ Q, ((m1 == nt && ((m2 == nx && (m3 == ny)) && (m4 == nh))) && (m5 == nr && (m6 == nb))) = Q := ⟨_, rfl⟩
            rcases Q with _ | _
            · have hstep : skywaykeep1_TubeAll.step k l0 pre.length ⟨⟨nt, ⟨nx, ny⟩, nh⟩, nr, nb⟩ = some false := by rw [HHS.out]; simp [hQ]
              refine wpIn_quiet_lit (by kernel_rfl) (by kernel_rfl) (by rfl) ?_
              repeat (first | go_big_quiet_step (fail) | quiet_step (fail))
              refine wpQuiet_nil ?_
              intro _ hw'
              obtain ⟨nq, hw''⟩ := hw'
              subst hw''
              gi_wp2
              refine ⟨((keeps_of_below H6.out _).trans (show KeepsFrom _ w6 (w6.drewN nq) from ⟨Nat.le_refl _, fun _ _ _ h _ => h⟩)).trans ((KeepsOthers.setCell _ _ _).from _), ⟨rfl, Boxed.set (.bool false) (show Boxed (w6.drewN nq) _ _ _ from R1), pre.length, by simp, by simpa using hstep⟩, (pw_below_drewN (HHB.out.trans (H6.out.mono HHB.out.size)) nq).setCell (by simp) _⟩
            · by_cases c3 : 0 < (l0.length : Int)
              · obtain ⟨ad, rfl, x0, _⟩ := at_T88 HR.out 0 (by omega) c3
                rw [show ((0 : Int)).toNat = 0 from rfl, show 0 * 6 = 0 from rfl, Addr.add_zero'] at x0
                have x6 := (HHB.out.trans (H6.out.mono HHB.out.size)).cell (World.block_lt_of_cell? w _ x0) |>.trans x0
                clear x0
                have d1 : (0 < l0.length) = True := eq_true (by omega)
                have d2 : ((l0.length : Int) == 0) = false := beq_eq_false_iff_ne.2 (by omega)
                generalize (rd_T88 l0 0).f0.f0 = ta at *
                obtain ⟨s, hs⟩ : ∃ s, wrap64 (ta + (pre.length : Int)) = s := ⟨_, rfl⟩
                have hsw : IntKind.i64.wrap (ta + (pre.length : Int)) = s := (i64_w _).trans hs
                by_cases c4 : nt = s
                · have e4 : (nt == s) = true := beq_iff_eq.2 c4
                  have e5 : (nt != s) = false := bne_eq_false_iff_eq.2 c4
                  have hstep : skywaykeep1_TubeAll.step k l0 pre.length ⟨⟨nt, ⟨nx, ny⟩, nh⟩, nr, nb⟩ = some true := by rw [HHS.out]; simp [hQ, hs, e4, d1]
                  have hmw : IntKind.i64.wrap ((pre.length : Int) + 1) = (pre.length : Int) + 1 := IntWalk.i64_in _ (by have := HHL.out; have := HN.out; omega)
                  have HST := Aside0.mk hstep
                  clear c4 hstep
                  refine wpIn_quiet_lit (by kernel_rfl) (by kernel_rfl) (by rfl) ?_
                  repeat (first | go_big_quiet_step (fail) | quiet_step (fail))
                  refine wpQuiet_nil ?_
                  intro _ hw'
                  obtain ⟨nq, hw''⟩ := hw'
                  subst hw''
                  gi_wp2
                  have hge := HL.out
                  have hle := HHB.out.size
                  have h46 := HHW.out
                  have hszz := HS.out
                  have hlen2 : ((pre ++ [(⟨⟨⟨nt, ⟨nx, ny⟩, nh⟩, nr, nb⟩, hx⟩ : { x : S88 // x ∈ zs })]).length : Int) = (pre.length : Int) + 1 := by simp
                  refine ⟨((keeps_of_below H6.out _).trans (show KeepsFrom _ w6 (w6.drewN nq) from ⟨Nat.le_refl _, fun _ _ _ h _ => h⟩)).trans ((KeepsOthers.setCell _ _ _).from _), ⟨(pw_below_drewN (H6.out.mono HHB.out.size) nq).setCell (by simp; omega) _, (Below.heap_setCell _ _ _ _ (by simp)).trans (H6.out.block _ (by omega))⟩, ⟨(show Boxed (w6.drewN nq) _ _ _ from R0).other (by omega) _, (show Boxed (w6.drewN nq) _ _ _ from R1).other (by omega) _, by rw [hlen2]; exact Boxed.set _ (show Boxed (w6.drewN nq) _ _ _ from R2), fun j hj => ?_, Nat.le_trans HHW.out (by have := H6.out.size; simpa using this)⟩, (pw_below_drewN (HHB.out.trans (H6.out.mono HHB.out.size)) nq).setCell (by simp; omega) _⟩
                  by_cases hjp : j < pre.length
                  · rw [List.getElem_append_left hjp]; exact HHK.out j hjp
                  · obtain rfl : j = pre.length := by simp at hj; omega
                    simpa using HST.out
                · have e4 : (nt == s) = false := beq_eq_false_iff_ne.2 c4
                  have e5 : (nt != s) = true := bne_iff_ne.2 c4
                  have hstep : skywaykeep1_TubeAll.step k l0 pre.length ⟨⟨nt, ⟨nx, ny⟩, nh⟩, nr, nb⟩ = some false := by rw [HHS.out]; simp [hQ, hs, e4]
                  refine wpIn_quiet_lit (by kernel_rfl) (by kernel_rfl) (by rfl) ?_
                  repeat (first | go_big_quiet_step (fail) | quiet_step (fail))
                  refine wpQuiet_nil ?_
                  intro _ hw'
                  obtain ⟨nq, hw''⟩ := hw'
                  subst hw''
                  gi_wp2
                  refine ⟨((keeps_of_below H6.out _).trans (show KeepsFrom _ w6 (w6.drewN nq) from ⟨Nat.le_refl _, fun _ _ _ h _ => h⟩)).trans ((KeepsOthers.setCell _ _ _).from _), ⟨rfl, Boxed.set (.bool false) (show Boxed (w6.drewN nq) _ _ _ from R1), pre.length, by simp, by simpa using hstep⟩, (pw_below_drewN (HHB.out.trans (H6.out.mono HHB.out.size)) nq).setCell (by simp) _⟩
              · have d2 : ((l0.length : Int) == 0) = true := beq_iff_eq.2 (by omega)
                have d3 : l0.length = 0 := by omega
                have hstep : skywaykeep1_TubeAll.step k l0 pre.length ⟨⟨nt, ⟨nx, ny⟩, nh⟩, nr, nb⟩ = some false := by rw [HHS.out]; simp [d3]
                refine wpIn_quiet_lit (by kernel_rfl) (by kernel_rfl) (by rfl) ?_
                repeat (first | go_big_quiet_step (fail) | quiet_step (fail))
                refine wpQuiet_nil ?_
                intro _ hw'
                obtain ⟨nq, hw''⟩ := hw'
                subst hw''
                gi_wp2
                refine ⟨((keeps_of_below H6.out _).trans (show KeepsFrom _ w6 (w6.drewN nq) from ⟨Nat.le_refl _, fun _ _ _ h _ => h⟩)).trans ((KeepsOthers.setCell _ _ _).from _), ⟨rfl, Boxed.set (.bool false) (show Boxed (w6.drewN nq) _ _ _ from R1), pre.length, by simp, by simpa using hstep⟩, (pw_below_drewN (HHB.out.trans (H6.out.mono HHB.out.size)) nq).setCell (by simp) _⟩
          · have e1 : (m7 == 0) = false := beq_eq_false_iff_ne.2 c1
            have e2 : (m7 != 0) = true := bne_iff_ne.2 c1
            clear c1
            have hstep : skywaykeep1_TubeAll.step k l0 pre.length ⟨⟨nt, ⟨nx, ny⟩, nh⟩, nr, nb⟩ = some false := by rw [HHS.out]; simp [e1]
            refine wpIn_quiet_lit (by kernel_rfl) (by kernel_rfl) (by rfl) ?_
            repeat (first | go_big_quiet_step (fail) | quiet_step (fail))
            refine wpQuiet_nil ?_
            intro _ hw'
            obtain ⟨nq, hw''⟩ := hw'
            subst hw''
            gi_wp2
            refine ⟨((keeps_of_below H6.out _).trans (show KeepsFrom _ w6 (w6.drewN nq) from ⟨Nat.le_refl _, fun _ _ _ h _ => h⟩)).trans ((KeepsOthers.setCell _ _ _).from _), ⟨rfl, Boxed.set (.bool false) (show Boxed (w6.drewN nq) _ _ _ from R1), pre.length, by simp, by simpa using hstep⟩, (pw_below_drewN (HHB.out.trans (H6.out.mono HHB.out.size)) nq).setCell (by simp) _⟩
        case done =>
          rintro D xs W hD hxs ⟨⟨b0, b1, b2, hok, hsW⟩, hB⟩ hK
          have hlen : xs.length = zs.length := by have := congrArg List.length hxs; rw [List.length_map] at this; exact this
          have hx : x = true := HA.out.2.1 (fun j hj => by
            have := hok j (by omega)
            rw [Nat.zero_add]
            have e1 : zs[j] = xs[j].1 := by
              simp only [← hxs]
              rw [List.getElem_map]
            rw [e1]; exact this)
          have h := HH.out
          rw [hx, if_pos rfl] at h
          rw [hlen] at b2
          have y0 := Boxed.cell b0
          have hrW := Kd.C_below HR.out hB
          have HHB := Aside0.mk hB
          have HK := Aside0.mk hK
          have HD := Aside0.mk hD
          have HBX := Aside0.mk (And.intro b0 (And.intro b1 b2))
          clear hlen hxs hok hsW hB hK hD b0 b1 b2 hx
          rw [ha]
          have hn1 : w.heap.size + 1 ≠ D := by have := HL.out; have := HS.out; have := HD.out; omega
          by_cases c : e = 0
          · rw [if_pos c] at h
            subst c
            by_cases g0 : 0 < (l0.length : Int)
            · rw [if_pos g0] at h
              have big := HR.out.2.1
              obtain ⟨i, hi⟩ : ∃ i : Int, (l0.length : Int) - 1 = i := ⟨_, rfl⟩
              rw [hi] at h
              have wi : IntKind.i64.wrap ((l0.length : Int) - 1) = i := by rw [hi]; exact IntWalk.i64_in _ (by omega)
              have i0 : (0 ≤ i) = True := eq_true (by omega)
              have i1 : (i < (l0.length : Int)) = True := eq_true (by omega)
              obtain ⟨ad, rfl, x0, _⟩ := at_T88 HR.out 0 (by omega) g0
              obtain ⟨ad', e', x1, _⟩ := at_T88 HR.out i (by omega) (by omega)
              obtain rfl : ad = ad' := by injection e'
              rw [show ((0 : Int)).toNat = 0 from rfl, show 0 * 6 = 0 from rfl, Addr.add_zero'] at x0
              have l0p : (0 < l0.length) = True := eq_true (by omega)
              have x0l := World.block_lt_of_cell? w _ x0
              have x1l := World.block_lt_of_cell? w _ x1
              generalize (rd_T88 l0 0).f0.f0 = ta at *
              generalize (rd_T88 l0 i).f0.f0 = ua at *
              obtain ⟨s1, h1⟩ : ∃ s, wrap64 (ua - ta) = s := ⟨_, rfl⟩
              rw [h1] at h
              obtain ⟨s2, h2⟩ : ∃ s, wrap64 (s1 + 1) = s := ⟨_, rfl⟩
              rw [h2] at h
              have h1w : IntKind.i64.wrap (ua - ta) = s1 := (i64_w _).trans h1
              have h2w : IntKind.i64.wrap (s1 + 1) = s2 := (i64_w _).trans h2
              obtain rfl : ((zs.length : Int) == s2) = r := Option.some.inj h
              have X0 := Aside0.mk x0
              have X1 := Aside0.mk x1
              clear h ha e' hi g0 big x0 x1
              go_wp2_with (go_at_call 39; refine (tube_Check.calls k (some ad) c0 l0 0 W hrW hc0 HE.out).mono ?_; rintro e_ w5 ⟨rfl, hb5⟩; have B5 := Aside0.mk (HHB.out.trans (hb5.mono HHB.out.size)); have R0 : Boxed w5 w.heap.size 82 (.slice (some ad) l0.length c0) := blk_below HBX.out.1 hb5; have R1 : Boxed w5 (w.heap.size + 1) 4 (.bool false) := blk_below HBX.out.2.1 hb5; have R2 : Boxed w5 w3.heap.size 3 (.int .i64 (zs.length : Nat)) := blk_below HBX.out.2.2 hb5; have K5 := Aside0.mk (blk_below HK.out hb5); clear hrW y0 hb5; have r0 := Boxed.cell R0; have r1 := Boxed.cell R1; have r2 := Boxed.cell R2; have r3 := Boxed.frozen R1; have x0 := (B5.out.cell x0l).trans X0.out; have x1 := (B5.out.cell x1l).trans X1.out)
              go_still_tail 17, (by kernel_rfl)
              change wpList _ _ _ _ _ w5.drew
              go_wp2
              have hK' := ((KeepsOthers.setCell w5 ⟨w.heap.size + 1, 0, none⟩ (.bool ((zs.length : Int) == s2))).trans (KeepsOthers.drew _)).same D _ K5.out rfl
              refine ⟨by simp, .inl ⟨_, _, rfl, run_takeDeferred hK', ?_⟩⟩
              exact skywaykeep1_TubeAll.out rfl (boxed_put (boxed_drew (Boxed.set (.bool ((zs.length : Int) == s2)) R1)) hn1) ((below_drew' (B5.out.setCell (by simp) _)).trans (belowK_b (w := w) (Nat.le_refl _) _ D _ _ (by have := HL.out; have := HS.out; have := HD.out; omega) hK' rfl rfl))
            · rw [if_neg g0] at h; cases h
          · rw [if_neg c] at h
            obtain rfl : ((zs.length : Int) == 0) = r := Option.some.inj h
            have c1 : (e == 0) = false := beq_eq_false_iff_ne.2 c
            have c2 : (e != 0) = true := bne_iff_ne.2 c
            clear c h ha
            go_wp2_with (go_at_call 39; refine (tube_Check.calls k A0 c0 l0 e W hrW hc0 HE.out).mono ?_; rintro e_ w5 ⟨rfl, hb5⟩; have B5 := Aside0.mk (HHB.out.trans (hb5.mono HHB.out.size)); have R1 : Boxed w5 (w.heap.size + 1) 4 (.bool false) := blk_below HBX.out.2.1 hb5; have R2 : Boxed w5 w3.heap.size 3 (.int .i64 (zs.length : Nat)) := blk_below HBX.out.2.2 hb5; have K5 := Aside0.mk (blk_below HK.out hb5); clear hrW y0 hb5; have r1 := Boxed.cell R1; have r2 := Boxed.cell R2; have r3 := Boxed.frozen R1)
            have hK' := (KeepsOthers.setCell w5 ⟨w.heap.size + 1, 0, none⟩ (.bool ((zs.length : Int) == 0))).same D _ K5.out rfl
            refine ⟨by simp, .inl ⟨_, _, rfl, run_takeDeferred hK', ?_⟩⟩
            exact skywaykeep1_TubeAll.out rfl (boxed_put (Boxed.set (.bool ((zs.length : Int) == 0)) R1) hn1) ((B5.out.setCell (by simp) _).trans (belowK_b (w := w) (Nat.le_refl _) _ D _ _ (by have := HL.out; have := HS.out; have := HD.out; omega) hK' rfl rfl))
        case stop =>
          rintro D c pre W hD hpre ⟨⟨rfl, b1, j, hj, hok⟩, hB⟩ hK
          have hx : x = false := by
            obtain ⟨q, hq⟩ := hpre
            refine HA.out.2.2 ⟨j, by rw [← hq]; simp; omega, ?_⟩
            rw [Nat.zero_add]
            have : zs[j]'(by rw [← hq]; simp; omega) = pre[j].1 := by
              simp only [← hq]
              rw [List.getElem_append_left (by simpa using hj), List.getElem_map]
            rw [this]; exact hok
          have h := HH.out
          rw [hx, if_neg (by decide)] at h
          obtain rfl : false = r := Option.some.inj h
          rw [ha]
          refine wpIn_wide.2 ?_
          go_wp2
          refine ⟨by simp, .inl ⟨_, _, rfl, run_takeDeferred hK, ?_⟩⟩
          exact skywaykeep1_TubeAll.out rfl (boxed_put b1 (by have := HL.out; have := HS.out; omega)) (hB.trans (belowK_b (w := w) (Nat.le_refl _) _ D _ _ (by have := HL.out; have := HS.out; omega) hK rfl rfl))
      · rw [if_neg hN] at h; cases h
    · obtain rfl : true = r := by simpa using HH.out
      go_wp2
      exact skywaykeep1_TubeAll.out rfl (Boxed.set (.bool true) X3.out.2) (B3.out.setCell (by simp) _)
end

/-- What is told of a value of struct type 36 that came in. -/
def good36 (x : S36) : Prop := ((Lit.int .i64 x.f0).wf = true) ∧ (Lit.int .i64 x.f1).wf = true
/-- What is told of a value of struct type 71 that came in. -/
def good71 (x : S71) : Prop := ((Lit.int .i64 x.f0).wf = true) ∧ (good36 x.f1) ∧ (Lit.int .i64 x.f2).wf = true
/-- What is told of a value of struct type 88 that came in. -/
def good88 (x : S88) : Prop := (good71 x.f0) ∧ ((Lit.int .i64 x.f1).wf = true) ∧ (Lit.int .i64 x.f2).wf = true
/-- THE ONE PURE STATEMENT of skywaykeep1_TubeAll. -/
def skywaykeep1_TubeAll.Pure : Prop := ∀ (l0 : List (S88)), (l0.length * 48 ≤ 140737488351232 ∧ ∀ y0 ∈ l0, good88 y0) → ∃ k, skywaykeep1_TubeAll.f k l0 = some true

end Go.Proofs.Ytbpbpojnfhhbjaa.PTubeAll
