/- Made by a program of this session (wip/tools/myprint.py, over the kit's printer): that the Go functions answer as the Lean functions printed beside them. -/
import Derived.Test.YtbpbpojnfhhbjaaPTubeWidensx0
import Derived.Test.YtbpbpojnfhhbjaaPTubeWidensx2
import Derived.Test.YtbpbpojnfhhbjaaPTubeWidensx4
import Derived.Test.YtbpbpojnfhhbjaaPTubeWidensx9
import Derived.Test.YtbpbpojnfhhbjaaPTubeWidensx10
import Derived.Test.YtbpbpojnfhhbjaaPTubeWidensx11
import Derived.BigQuiet
import Derived.Deep.QuietTactic
import Derived.IntWalk
import Derived.LoopIn
import Derived.LoopNIn
import Derived.OwnWalkIn
import Derived.RangeFuncBound
import Derived.RangeFuncBox
import Derived.RangeFuncCalls
import Derived.RangeFuncLeaves
import Derived.RangeFuncNested
import Derived.Shelf.Abstract
import Derived.Shelf.RegionOpen
import Derived.TacticsInMore
import Derived.WalkKit
namespace Go.Proofs.Ytbpbpojnfhhbjaa.PTubeWidens
open Go.RowKit Go.Proofs.YtbpbpojnfhhbjaaW.PrintWords Go.Proofs.YtbpbpojnfhhbjaaW.PrintLast Go.Proofs.YtbpbpojnfhhbjaaW.PrintMore
attribute [local go_sem] max2_int min2_int max_two min_two max_three min_three max_four min_four   -- for this text's walks alone
set_option linter.unusedVariables false
set_option linter.unusedSimpArgs false

/-! ### tube_Inside: function 40 -/
-- IMPORT RangeFuncNested RangeFuncBound RangeFuncCalls RangeFuncLeaves RangeFuncBox Shelf.Abstract Shelf.RegionOpen WalkKit OwnWalkIn TacticsInMore LoopNIn LoopIn Deep.QuietTactic BigQuiet IntWalk
section
open Go Go.Shelf
attribute [local go_sem] Oper.semAt_some
attribute [local go_sem] max2_int min2_int max_two min_two max_three min_three max_four min_four
/-- Whether a node lies inside the other tube's. -/
def tube_Inside.ok (k : Nat) (b : List S88) (n : S88) : Option Bool :=
  (tube_at.f k b n.f0.f0).bind fun m => (plane_Distance.f n.f0.f1.f0 n.f0.f1.f1 m.2.1 m.2.2.1).bind fun d =>
    some (!(decide (wrap64 (d.2 + n.f1) > m.2.2.2.2.1) || decide (wrap64 (mx (wrap64 (n.f0.f2 - m.2.2.2.1)) (wrap64 (m.2.2.2.1 - n.f0.f2)) + n.f2) > m.2.2.2.2.2.1)))
def tube_Inside.all (k : Nat) (b : List S88) : List S88 → Option Bool
  | [] => some true
  | n :: zs => (tube_Inside.ok k b n).bind fun x => (tube_Inside.all k b zs).bind fun y => some (x && y)
def tube_Inside.g (k : Nat) (a b : List S88) : Option (Bool × Int) :=
  if 0 < (a.length : Int) then (if 0 < (b.length : Int) then (if (rd_T88 a 0).f0.f0 < (rd_T88 b 0).f0.f0 then some (false, 0) else if (rd_T88 a ((a.length : Int) - 1)).f0.f0 > (rd_T88 b ((b.length : Int) - 1)).f0.f0 then some (false, 0)
    else (tube_All_1.f k a).bind fun zs => (tube_Inside.all k b zs).bind fun x => some (x, 0)) else none) else none
def tube_Inside.f (k : Nat) (a b : List S88) : Option (Bool × Int) :=
  (tube_Check.f k a).bind fun e => if e = 0 then ((tube_Check.f k b).bind fun e2 => if e2 = 0 then tube_Inside.g k a b else some (false, e2)) else some (false, e)
theorem tube_Inside.all_some {k : Nat} {b : List S88} : ∀ {zs : List S88} {r : Bool}, tube_Inside.all k b zs = some r → (∀ x ∈ zs, ∃ y, tube_Inside.ok k b x = some y) ∧ ((∀ x ∈ zs, tube_Inside.ok k b x = some true) → r = true) ∧ ((∃ x ∈ zs, tube_Inside.ok k b x = some false) → r = false)
  | [], r, h => by
    obtain rfl : true = r := Option.some.inj h
    exact ⟨by simp, fun _ => rfl, by simp⟩
  | n :: zs, r, h => by
    rw [tube_Inside.all] at h
    obtain ⟨x, hx, h⟩ := Option.bind_eq_some_iff.1 h
    obtain ⟨y, hy, h⟩ := Option.bind_eq_some_iff.1 h
    obtain rfl := Option.some.inj h
    obtain ⟨i1, i2, i3⟩ := tube_Inside.all_some hy
    refine ⟨fun z hz => ?_, fun g => ?_, fun ⟨z, hz, g⟩ => ?_⟩
    · rcases List.mem_cons.1 hz with rfl | hz
      · exact ⟨x, hx⟩
      · exact i1 z hz
    · have g1 := g n (List.mem_cons_self ..)
      rw [hx] at g1
      obtain rfl := Option.some.inj g1
      rw [i2 (fun z hz => g z (List.mem_cons_of_mem _ hz))]
      rfl
    · rcases List.mem_cons.1 hz with rfl | hz
      · rw [hx] at g
        obtain rfl := Option.some.inj g
        rfl
      · rw [i3 ⟨z, hz, g⟩, Bool.and_false]
theorem blk_own {β : Type} (B : Nat) (cs : Array Value) (t : TypeId) (fr : Nat × Nat) : Own (fun (_ : β) W => W.heap[B]? = some (.cells cs t fr)) := fun s X Y row hs hg hrow =>
  (hg.block B (Array.getElem?_eq_some_iff.1 hs).1 (fun e' => by obtain ⟨o, ho, hc⟩ := hrow B e'.symm; rw [hs] at ho; cases ho; cases hc)).trans hs
theorem keeps_of_below {X Y : World} (h : Below X.heap.size X Y) (B : Nat) : KeepsFrom B X Y := ⟨h.size, fun k o _ hk _ => (h.block k (Array.getElem?_eq_some_iff.1 hk).1).trans hk⟩
theorem tube_Inside.out0 {tmps : Array Value} {r1 : Bool} {r2 : Int} {g : Nat} {w W : World} (h4 : tmps.getD 4 undef = .pointer (some ⟨g + 1, 0, none⟩)) (h5 : tmps.getD 5 undef = .pointer (some ⟨g + 1 + 1, 0, none⟩)) (Z1 : Boxed W (g + 1) 4 (.bool r1)) (Z2 : Boxed W (g + 1 + 1) 28 (.int .i64 r2)) (hB : Below w.heap.size w W) :
    LeavesIn Fence.wide 6 Try.prog Try.f40 tmps (fun e w' => e = .returned (.tuple #[.bool r1, .int .i64 r2]) ∧ Below w.heap.size w w') [] .returning W := by
  have z1 := Boxed.cell Z1
  have z2 := Boxed.cell Z2
  refine ⟨_, ?_, rfl, hB⟩
  simp only [Array.getD_eq_getD_getElem?] at h4 h5
  simp [results, Try.f40, go_sem, z1, z2, h4, h5]
theorem tube_Inside.out {tmps : Array Value} {v v' : Value} {r1 : Bool} {r2 : Int} {g : Nat} {w W : World} (h4 : tmps.getD 4 undef = .pointer (some ⟨g + 1, 0, none⟩)) (h5 : tmps.getD 5 undef = .pointer (some ⟨g + 1 + 1, 0, none⟩)) (V1 : Boxed W (g + 1) 4 v) (V2 : Boxed W (g + 1 + 1) 28 v') (hB : Below w.heap.size w W) (hg : w.heap.size ≤ g) :
    LeavesIn Fence.wide 6 Try.prog Try.f40 tmps (fun e w' => e = .returned (.tuple #[.bool r1, .int .i64 r2]) ∧ Below w.heap.size w w') [] .returning ((W.setCell ⟨g + 1, 0, none⟩ (.bool r1)).setCell ⟨g + 1 + 1, 0, none⟩ (.int .i64 r2)) :=
  tube_Inside.out0 h4 h5 ((Boxed.set (.bool r1) V1).other (B' := g + 1 + 1) (by omega) (.int .i64 r2)) (Boxed.set (.int .i64 r2) (V2.other (B' := g + 1) (by omega) (.bool r1))) ((hB.setCell (by simp; omega) _).setCell (by simp; omega) _)
theorem boxed_put {W : World} {B D : Nat} {t : TypeId} {v : Value} {o : Obj} (h : Boxed W B t v) (hne : B ≠ D) : Boxed (W.putObj D o) B t v := h.kept (grownBy_putObj' W D o) (fun e => hne (by cases e; rfl))
set_option maxRecDepth 100000 in
set_option maxHeartbeats 8000000 in
theorem tube_Inside.calls (k : Nat) (A0 : Option Addr) (c0 : Nat) (l0 : List S88) (A1 : Option Addr) (c1 : Nat) (l1 : List S88) (r1 : Bool) (r2 : Int) (w : World) (hr0 : Kd.C k88 w A0 l0.length l0) (hc0 : l0.length ≤ c0) (hr1 : Kd.C k88 w A1 l1.length l1) (hc1 : l1.length ≤ c1) (h : tube_Inside.f k l0 l1 = some (r1, r2)) :
    Calls Try.prog 40 #[.slice A0 l0.length c0, .slice A1 l1.length c1] w fun e w' => e = .returned (.tuple #[.bool r1, .int .i64 r2]) ∧ Below w.heap.size w w' := by
  unfold tube_Inside.f at h
  obtain ⟨e1, he1, h⟩ := Option.bind_eq_some_iff.1 h
  obtain ⟨W0, hW0⟩ : ∃ W0, ((w.alloc (.cells #[.slice A1 l1.length c1] 82)).alloc (.cells #[.bool false] 4)).alloc (.cells #[.int .i64 0] 28) = W0 := ⟨_, rfl⟩
  have hB0 : Below w.heap.size w W0 := by rw [← hW0]; exact below_alloc (below_alloc (below_alloc (Below.refl _ _) _) _) _
  have X0 : Boxed W0 w.heap.size 82 (.slice A1 l1.length c1) := by rw [← hW0]; exact ((Boxed.new w _ _).alloc _).alloc _
  have X1 : Boxed W0 (w.heap.size + 1) 4 (.bool false) := by rw [← hW0]; have := (Boxed.new (w.alloc (.cells #[.slice A1 l1.length c1] 82)) 4 (.bool false)).alloc (.cells #[.int .i64 0] 28); simpa using this
  have X2 : Boxed W0 (w.heap.size + 1 + 1) 28 (.int .i64 0) := by rw [← hW0]; have := (Boxed.new ((w.alloc (.cells #[.slice A1 l1.length c1] 82)).alloc (.cells #[.bool false] 4)) 28 (.int .i64 0)); simpa using this
  refine (callsIn_wide (n := 6)).1 (callsIn_of_wp_marks Try.func40 rfl trivial ?_ rfl)
  simp only [Try.ntmps40, List.size_toArray, List.length_cons, List.length_nil, Nat.reduceAdd, Nat.reduceSub, Array.replicate_succ, Array.replicate_zero, List.push_toArray, List.append_toArray, List.nil_append, List.cons_append]
  refine wpIn_wide.2 ?_
  have hrW := Kd.C_below hr0 hB0
  by_cases hz : e1 = 0
  · subst hz
    rw [if_pos rfl] at h
    obtain ⟨e2, he2, h⟩ := Option.bind_eq_some_iff.1 h
    by_cases hz2 : e2 = 0
    · subst hz2
      rw [if_pos rfl] at h
      unfold tube_Inside.g at h
      go_wp2_with (go_at_call 39; refine (tube_Check.calls k A0 c0 l0 0 _ hrW hc0 he1).mono ?_; rintro e w1 ⟨rfl, hb⟩; clear hrW; have Y0 : Boxed w1 w.heap.size 82 (.slice A1 l1.length c1) := blk_below X0 hb; have Y1 : Boxed w1 (w.heap.size + 1) 4 (.bool false) := blk_below X1 hb; have Y2 : Boxed w1 (w.heap.size + 1 + 1) 28 (.int .i64 0) := blk_below X2 hb; have y0 := Boxed.cell Y0; have hB1 := below_step hB0 hb; have hrW1 := Kd.C_below hr1 hB1)
      refine (tube_Check.calls k A1 c1 l1 0 _ hrW1 hc1 he2).mono ?_
      rintro e w2 ⟨rfl, hb2⟩
      have V0 : Boxed w2 w.heap.size 82 (.slice A1 l1.length c1) := blk_below Y0 hb2
      have V1 : Boxed w2 (w.heap.size + 1) 4 (.bool false) := blk_below Y1 hb2
      have V2 : Boxed w2 (w.heap.size + 1 + 1) 28 (.int .i64 0) := blk_below Y2 hb2
      have v0 := Boxed.cell V0
      have v1 := Boxed.cell V1
      have v2 := Boxed.cell V2
      have v3 := Boxed.frozen V1
      have v4 := Boxed.frozen V2
      have hB2 := below_step hB1 hb2
      have q0 := Kd.C_below hr0 hB2
      have q1 := Kd.C_below hr1 hB2
      clear y0 hrW1 hb hb2 Y0 Y1 Y2
      by_cases g0 : 0 < (l0.length : Int)
      · rw [if_pos g0] at h
        by_cases g1 : 0 < (l1.length : Int)
        · rw [if_pos g1] at h
          have big0 := hr0.2.1
          have big1 := hr1.2.1
          obtain ⟨i, hi⟩ : ∃ i : Int, (l0.length : Int) - 1 = i := ⟨_, rfl⟩
          obtain ⟨j, hj⟩ : ∃ j : Int, (l1.length : Int) - 1 = j := ⟨_, rfl⟩
          rw [hi, hj] at h
          have wi : IntKind.i64.wrap ((l0.length : Int) - 1) = i := by rw [hi]; exact IntWalk.i64_in _ (by omega)
          have wj : IntKind.i64.wrap ((l1.length : Int) - 1) = j := by rw [hj]; exact IntWalk.i64_in _ (by omega)
          have i0 : (0 ≤ i) = True := eq_true (by omega)
          have i1 : (i < (l0.length : Int)) = True := eq_true (by omega)
          have j0 : (0 ≤ j) = True := eq_true (by omega)
          have j1 : (j < (l1.length : Int)) = True := eq_true (by omega)
          obtain ⟨ad, rfl, x0, _⟩ := at_T88 q0 0 (by omega) g0
          obtain ⟨ad', e', x1, _⟩ := at_T88 q0 i (by omega) (by omega)
          obtain rfl : ad = ad' := by injection e'
          obtain ⟨bd, rfl, z0, _⟩ := at_T88 q1 0 (by omega) g1
          obtain ⟨bd', e'', z1, _⟩ := at_T88 q1 j (by omega) (by omega)
          obtain rfl : bd = bd' := by injection e''
          rw [show ((0 : Int)).toNat = 0 from rfl, show 0 * 6 = 0 from rfl, Addr.add_zero'] at x0 z0
          have l0p : (0 < l0.length) = True := eq_true (by omega)
          have l1p : (0 < l1.length) = True := eq_true (by omega)
          generalize (rd_T88 l0 0).f0.f0 = ta at *
          generalize (rd_T88 l1 0).f0.f0 = tb at *
          generalize (rd_T88 l0 i).f0.f0 = ua at *
          generalize (rd_T88 l1 j).f0.f0 = ub at *
          have HR0 := Aside0.mk hr0
          have HR1 := Aside0.mk hr1
          have HB2 := Aside0.mk hB2
          clear e' e'' hi hj g0 g1 big0 big1 hr0 hr1 hB2 hB1 hB0 q0 q1 X0 X1 X2
          have hW0' := Aside0.mk hW0
          clear hW0
          by_cases ca : ta < tb
          · rw [if_pos ca] at h
            have da : decide (ta < tb) = true := decide_eq_true ca
            clear ca
            go_wp2
            go_quiet (fail)
            go_wp2
            obtain ⟨rfl, rfl⟩ : false = r1 ∧ 0 = r2 := by simpa using h
            exact tube_Inside.out rfl rfl (show Boxed (w2.drewN nq) _ _ _ from V1) (show Boxed (w2.drewN nq) _ _ _ from V2) (pw_below_drewN HB2.out nq) (Nat.le_refl _)
          · rw [if_neg ca] at h
            have da : decide (ta < tb) = false := decide_eq_false ca
            clear ca
            by_cases cb : ua > ub
            · rw [if_pos cb] at h
              have db : decide (ua > ub) = true := decide_eq_true cb
              have db' : decide (ub < ua) = true := decide_eq_true cb
              clear cb
              go_wp2
              go_quiet (fail)
              go_wp2
              obtain ⟨rfl, rfl⟩ : false = r1 ∧ 0 = r2 := by simpa using h
              exact tube_Inside.out rfl rfl (show Boxed (w2.drewN nq) _ _ _ from V1) (show Boxed (w2.drewN nq) _ _ _ from V2) (pw_below_drewN HB2.out nq) (Nat.le_refl _)
            · rw [if_neg cb] at h
              have db : decide (ua > ub) = false := decide_eq_false cb
              have db' : decide (ub < ua) = false := decide_eq_false cb
              clear cb
              obtain ⟨zs, hzs, h⟩ := Option.bind_eq_some_iff.1 h
              obtain ⟨b, hall, h⟩ := Option.bind_eq_some_iff.1 h
              obtain ⟨rfl, rfl⟩ : b = r1 ∧ 0 = r2 := by simpa using h
              clear h
              go_wp2
              go_quiet (fail)
              go_wp2_with (go_at_call 37; refine (tube_All.made (some ad) l0.length c0 _).mono ?_; rintro e w3 ⟨rfl, rfl⟩)
              obtain ⟨W4, hW4⟩ : ∃ W4, (w2.drewN nq).alloc (.cells #[.slice (some ad) l0.length c0] 82) = W4 := ⟨_, rfl⟩
              rw [hW4]
              have hsz : W4.heap.size = w2.heap.size + 1 := by rw [← hW4]; simp
              have hBw : Below w.heap.size w W4 := by rw [← hW4]; exact below_alloc (pw_below_drewN HB2.out nq) _
              have U := Boxed.new (w2.drewN nq) 82 (.slice (some ad) l0.length c0)
              rw [hW4] at U
              have U : Boxed W4 w2.heap.size 82 (.slice (some ad) l0.length c0) := U
              have U0 : Boxed W4 w.heap.size 82 (.slice (some bd) l1.length c1) := by rw [← hW4]; exact Boxed.alloc (show Boxed (w2.drewN nq) _ _ _ from V0) _
              have U1 : Boxed W4 (w.heap.size + 1) 4 (.bool false) := by rw [← hW4]; exact Boxed.alloc (show Boxed (w2.drewN nq) _ _ _ from V1) _
              have U2 : Boxed W4 (w.heap.size + 1 + 1) 28 (.int .i64 0) := by rw [← hW4]; exact Boxed.alloc (show Boxed (w2.drewN nq) _ _ _ from V2) _
              have hlt := Boxed.lt V2
              have HU := Aside0.mk (And.intro U (And.intro U0 (And.intro U1 U2)))
              have HS := Aside0.mk hsz
              have HL := Aside0.mk hlt
              obtain ⟨a1, a2, a3⟩ := tube_Inside.all_some hall
              have HA := Aside0.mk (And.intro a1 (And.intro a2 a3))
              clear V0 V1 V2 v0 v1 v2 v3 v4 x0 x1 z0 z1 da db db' l0p l1p i0 i1 j0 j1 wi wj U U0 U1 U2 hlt hsz a1 a2 a3 hall hW4 he1 he2
              refine (fun (K : ∀ a, a = _ → Code.wp Try.prog _ _ a W4) => K _ rfl) ?_
              intro a ha
              refine (wpIn_wide (n := 6)).1 ?_
              refine wpIn_rangeFunc_ownH rfl (by decide) (gf := 85) (lb := #[.pointer (some ⟨w2.heap.size, 0, none⟩)]) (by rw [ha]; rfl) trivial (enters_of Try.func85 (by kernel_rfl) rfl)
                (tube_All_1.stops 5 (by decide) w2.heap.size k (some ad) c0 l0 zs w HR0.out hc0 hzs W4 hBw HU.out.1)
                (fun h1 h2 => ⟨h1.1.trans h2.1, h2.2.trans h1.2⟩)
                (fun W l o o' hl ho hc hw => ⟨belowK_b (w := w) (Nat.le_refl _) W l o o' (by have := hBw.size; omega) ho hc hw, (grownBy_putObj' W l o').block _ (by have := (Array.getElem?_eq_some_iff.1 ho).1; have := HS.out; omega) (fun e => by cases e; have := HS.out; omega)⟩)
                (Below.refl _ _) (fun _ => rfl)
                (fun pre W => (Boxed W w.heap.size 82 (.slice (some bd) l1.length c1) ∧ Boxed W (w.heap.size + 1) 4 (.bool false) ∧ Boxed W (w.heap.size + 1 + 1) 28 (.int .i64 0) ∧ (∀ x ∈ pre, tube_Inside.ok k l1 x.1 = some true) ∧ W4.heap.size ≤ W.heap.size) ∧ Below w.heap.size w W)
                (fun c pre W => (c = .ret ∧ Boxed W (w.heap.size + 1) 4 (.bool false) ∧ Boxed W (w.heap.size + 1 + 1) 28 (.int .i64 0) ∧ ∃ x ∈ pre, tube_Inside.ok k l1 x.1 = some false) ∧ Below w.heap.size w W)
                (OwnFrom.and (OwnFrom.and (Own.from (boxed_own _ _ _) _) (OwnFrom.and (Own.from (boxed_own _ _ _) _) (OwnFrom.and (Own.from (boxed_own _ _ _) _) (OwnFrom.and (ownFrom_pure _ _) (fun s X Y row hs hg hr => Nat.le_trans hs hg.size))))) (ownFrom_below (Nat.le_refl _) hBw.size))
                (fun c => OwnFrom.and (OwnFrom.and (ownFrom_pure _ _) (OwnFrom.and (Own.from (boxed_own _ _ _) _) (OwnFrom.and (Own.from (boxed_own _ _ _) _) (ownFrom_pure _ _)))) (ownFrom_below (Nat.le_refl _) hBw.size))
                ⟨⟨HU.out.2.1, HU.out.2.2.1, HU.out.2.2.2, by simp, Nat.le_refl _⟩, hBw⟩
                (fun x a' W => ∃ Bx, W.heap[Bx]? = some (.cells #[.int .i64 x.1.f0.f0, .int .i64 x.1.f0.f1.f0, .int .i64 x.1.f0.f1.f1, .int .i64 x.1.f0.f2, .int .i64 x.1.f1, .int .i64 x.1.f2] 88 (0, 0)) ∧ a' = { tmps := (a.tmps.setIfInBounds 55 (encT x.1)).setIfInBounds 8 (.pointer (some ⟨Bx, 0, none⟩)), defers := [] })
                ?hAx ?assign ?body ?done ?stop
              case hAx =>
                rintro x a' s X Y row ⟨Bx, h1, h2⟩ hg hr
                exact ⟨Bx, (blk_own (β := Unit) Bx _ _ _).from _ () X Y row h1 hg hr, h2⟩
              case assign =>
                rintro l pre x W K ⟨⟨b0, b1, b2, hok, hsW⟩, hB⟩ hK
                rw [ha]
                gi_wp2
                exact hK _ _ ((KeepsOthers.alloc _ _).from _) ⟨(Below.refl _ W).alloc hB.size _, Below.heap_alloc _ _ _ (by have := HS.out; omega)⟩ ⟨⟨b0.alloc _, b1.alloc _, b2.alloc _, hok, by simp; omega⟩, hB.alloc hB.size _⟩ ⟨W.heap.size, blk_new _ _, by rw [ha]; rfl⟩
              case body =>
                rintro l pre x a' W hl ⟨rr, hrr⟩ ⟨⟨b0, b1, b2, hok, hsW⟩, hB⟩ ⟨Bx, hbx, ha'⟩ hlen
                obtain ⟨y, hy⟩ := HA.out.1 x.1 x.2
                have hy0 := hy
                unfold tube_Inside.ok at hy0
                obtain ⟨⟨m1, m2, m3, m4, m5, m6, m7⟩, hm, hy0⟩ := Option.bind_eq_some_iff.1 hy0
                obtain ⟨⟨d1, d2⟩, hd, hy0⟩ := Option.bind_eq_some_iff.1 hy0
                dsimp only at hd hy0
                obtain ⟨⟨⟨nt, ⟨nx, ny⟩, nh⟩, nr, nb⟩, hx⟩ := x
                dsimp only at hm hd hy0 hbx ha' hy
                have hbl := blk_lt hbx
                have e0 : W.cell? ⟨Bx, 0, none⟩ = some (.int .i64 nt) := (blk_cell hbx 0).trans rfl
                have e1 : W.cell? ⟨Bx, 1, none⟩ = some (.int .i64 nx) := (blk_cell hbx 1).trans rfl
                have e2 : W.cell? ⟨Bx, 2, none⟩ = some (.int .i64 ny) := (blk_cell hbx 2).trans rfl
                have e3 : W.cell? ⟨Bx, 3, none⟩ = some (.int .i64 nh) := (blk_cell hbx 3).trans rfl
                have e4 : W.cell? ⟨Bx, 4, none⟩ = some (.int .i64 nr) := (blk_cell hbx 4).trans rfl
                have e5 : W.cell? ⟨Bx, 5, none⟩ = some (.int .i64 nb) := (blk_cell hbx 5).trans rfl
                have y0 := Boxed.cell b0
                have r1W := Kd.C_below HR1.out hB
                have HHK := Aside0.mk hok
                have HHY := Aside0.mk hy
                have HHX := Aside0.mk hbx
                have HHr := Aside0.mk hrr
                rw [ha] at ha'
                subst ha'
                clear hok hy hbx hrr ha hlen
                simp only [List.setIfInBounds_toArray, List.set_cons_zero, List.set_cons_succ]
                gi_wp2_with (refine ⟨trivial, ?_⟩; gi_at_call 86; refine (CallsIn.inRound l (callsIn_wide.2 (tube_at.calls k (some bd) c1 l1 nt m1 m2 m3 m4 m5 m6 m7 W r1W hc1 hm))).mono ?_; rintro e w5 ⟨rfl, hb5⟩; have hb6 : Below W.heap.size W (w5.alloc (.cells #[.int .i64 m1, .int .i64 m2, .int .i64 m3, .int .i64 m4, .int .i64 m5, .int .i64 m6] 88)) := below_alloc hb5 _; have k0 := (hb6.cell (p := ⟨Bx, 0, none⟩) hbl).trans e0; have k1 := (hb6.cell (p := ⟨Bx, 1, none⟩) hbl).trans e1; have k2 := (hb6.cell (p := ⟨Bx, 2, none⟩) hbl).trans e2; have k3 := (hb6.cell (p := ⟨Bx, 3, none⟩) hbl).trans e3; have k4 := (hb6.cell (p := ⟨Bx, 4, none⟩) hbl).trans e4; have k5 := (hb6.cell (p := ⟨Bx, 5, none⟩) hbl).trans e5)
                refine ⟨trivial, ?_⟩
                refine (CallsIn.inRound l (callsIn_wide.2 (plane_Distance.calls nx ny m2 m3 d1 d2 _ hd))).mono ?_
                rintro e w7 ⟨rfl, hb7⟩
                have hb67 := below_step hb6 hb7
                clear k0 k1 k2 k3 k4 k5
                have k0 := (hb67.cell (p := ⟨Bx, 0, none⟩) hbl).trans e0
                have k2 := (hb67.cell (p := ⟨Bx, 2, none⟩) hbl).trans e2
                have k3 := (hb67.cell (p := ⟨Bx, 3, none⟩) hbl).trans e3
                have k4 := (hb67.cell (p := ⟨Bx, 4, none⟩) hbl).trans e4
                have k5 := (hb67.cell (p := ⟨Bx, 5, none⟩) hbl).trans e5
                have M := blk_below (blk_new w5 (.cells #[.int .i64 m1, .int .i64 m2, .int .i64 m3, .int .i64 m4, .int .i64 m5, .int .i64 m6] 88)) hb7
                have n3 := (blk_cell M 3).trans rfl
                have n4 := (blk_cell M 4).trans rfl
                have n5 := (blk_cell M 5).trans rfl
                have B1 : Boxed w7 (w.heap.size + 1) 4 (.bool false) := blk_below b1 hb67
                have B2 : Boxed w7 (w.heap.size + 1 + 1) 28 (.int .i64 0) := blk_below b2 hb67
                have B0 : Boxed w7 w.heap.size 82 (.slice (some bd) l1.length c1) := blk_below b0 hb67
                clear e0 e1 e2 e3 e4 e5 y0 hb6 M r1W hm hd
                obtain ⟨s1, h1⟩ : ∃ s, wrap64 (d2 + nr) = s := ⟨_, rfl⟩
                obtain ⟨s2, h2⟩ : ∃ s, wrap64 (nh - m4) = s := ⟨_, rfl⟩
                obtain ⟨s3, h3⟩ : ∃ s, wrap64 (m4 - nh) = s := ⟨_, rfl⟩
                rw [h1, h2, h3] at hy0
                obtain ⟨s4, h4⟩ : ∃ s, mx s2 s3 = s := ⟨_, rfl⟩
                rw [h4] at hy0
                have h4_ : (if s2 < s3 then s3 else s2) = s4 := h4
                obtain ⟨s5, h5⟩ : ∃ s, wrap64 (s4 + nb) = s := ⟨_, rfl⟩
                rw [h5] at hy0
                have h1w : IntKind.i64.wrap (d2 + nr) = s1 := (i64_w _).trans h1
                have h2w : IntKind.i64.wrap (nh - m4) = s2 := (i64_w _).trans h2
                have h3w : IntKind.i64.wrap (m4 - nh) = s3 := (i64_w _).trans h3
                have h5w : IntKind.i64.wrap (s4 + nb) = s5 := (i64_w _).trans h5
                by_cases cA : s1 > m5
                · have dA : decide (s1 > m5) = true := decide_eq_true cA
                  have dA' : decide (m5 < s1) = true := decide_eq_true cA
                  rw [dA] at hy0
                  obtain rfl : false = y := by simpa using hy0
                  clear cA hy0
                  have K1 := Boxed.cell B1
                  have K2 := Boxed.cell B2
                  have K3 := Boxed.frozen B1
                  have K4 := Boxed.frozen B2
                  gi_wp2
                  refine ⟨((keeps_of_below hb67 _).trans ((KeepsOthers.setCell _ _ _).from _)).trans ((KeepsOthers.setCell _ _ _).from _), ⟨rfl, (Boxed.set (.bool false) B1).other (B' := w.heap.size + 1 + 1) (by omega) (.int .i64 0), Boxed.set (.int .i64 0) (B2.other (B' := w.heap.size + 1) (by omega) (.bool false)), (⟨_, hx⟩ : { x : S88 // x ∈ zs }), List.mem_append.2 (.inr (List.mem_singleton.2 rfl)), HHY.out⟩, ((hB.trans (hb67.mono hB.size)).setCell (by simp) _).setCell (by simp; omega) _⟩
                · have dA : decide (s1 > m5) = false := decide_eq_false cA
                  have dA' : decide (m5 < s1) = false := decide_eq_false cA
                  rw [dA] at hy0
                  clear cA
                  by_cases cB : s5 > m6
                  · have dB : decide (s5 > m6) = true := decide_eq_true cB
                    have dB' : decide (m6 < s5) = true := decide_eq_true cB
                    rw [dB] at hy0
                    obtain rfl : false = y := by simpa using hy0
                    clear cB hy0
                    have K1 := Boxed.cell B1
                    have K2 := Boxed.cell B2
                    have K3 := Boxed.frozen B1
                    have K4 := Boxed.frozen B2
                    gi_wp2
                    refine ⟨((keeps_of_below hb67 _).trans ((KeepsOthers.setCell _ _ _).from _)).trans ((KeepsOthers.setCell _ _ _).from _), ⟨rfl, (Boxed.set (.bool false) B1).other (B' := w.heap.size + 1 + 1) (by omega) (.int .i64 0), Boxed.set (.int .i64 0) (B2.other (B' := w.heap.size + 1) (by omega) (.bool false)), (⟨_, hx⟩ : { x : S88 // x ∈ zs }), List.mem_append.2 (.inr (List.mem_singleton.2 rfl)), HHY.out⟩, ((hB.trans (hb67.mono hB.size)).setCell (by simp) _).setCell (by simp; omega) _⟩
                  · have dB : decide (s5 > m6) = false := decide_eq_false cB
                    have dB' : decide (m6 < s5) = false := decide_eq_false cB
                    rw [dB] at hy0
                    obtain rfl : true = y := by simpa using hy0
                    clear cB hy0
                    gi_wp2
                    exact ⟨keeps_of_below hb67 _, ⟨hb67.mono hB.size, hb67.block _ (by have := HS.out; omega)⟩, ⟨B0, B1, B2, fun z hz => (List.mem_append.1 hz).elim (HHK.out z) (fun g => by rw [List.mem_singleton.1 g]; exact HHY.out), Nat.le_trans hsW hb67.size⟩, hB.trans (hb67.mono hB.size)⟩
              case done =>
                rintro D xs W hD hxs ⟨⟨b0, b1, b2, hok, hsW⟩, hB⟩ hK
                have y1 := Boxed.cell b1
                have y2 := Boxed.cell b2
                have y3 := Boxed.frozen b1
                have y4 := Boxed.frozen b2
                obtain rfl : b = true := HA.out.2.1 (fun x hx => by rw [← hxs] at hx; obtain ⟨y, hy, rfl⟩ := List.mem_map.1 hx; exact hok y hy)
                rw [ha]
                go_wp2
                have hK' := ((KeepsOthers.setCell W ⟨w.heap.size + 1, 0, none⟩ (.bool true)).trans (KeepsOthers.setCell _ ⟨w.heap.size + 1 + 1, 0, none⟩ (.int .i64 0))).same D _ hK rfl
                refine ⟨by simp, .inl ⟨_, _, rfl, run_takeDeferred hK', ?_⟩⟩
                have hn1 : w.heap.size + 1 ≠ D := by have := HL.out; have := HS.out; omega
                have hn2 : w.heap.size + 1 + 1 ≠ D := by have := HL.out; have := HS.out; omega
                exact tube_Inside.out0 rfl rfl (boxed_put ((Boxed.set (.bool true) b1).other (B' := w.heap.size + 1 + 1) (by omega) (.int .i64 0)) hn1) (boxed_put (Boxed.set (.int .i64 0) (b2.other (B' := w.heap.size + 1) (by omega) (.bool true))) hn2)
                  (((hB.setCell (by simp) _).setCell (by simp; omega) _).trans (belowK_b (w := w) (Nat.le_refl _) _ D _ _ (by have := HL.out; have := HS.out; omega) hK' rfl rfl))
              case stop =>
                rintro D c pre W hD hpre ⟨⟨rfl, b1, b2, x, hx, hok⟩, hB⟩ hK
                obtain rfl : b = false := HA.out.2.2 ⟨x.1, x.2, hok⟩
                rw [ha]
                refine wpIn_wide.2 ?_
                go_wp2
                refine ⟨by simp, .inl ⟨_, _, rfl, run_takeDeferred hK, ?_⟩⟩
                have hn1 : w.heap.size + 1 ≠ D := by have := HL.out; have := HS.out; omega
                have hn2 : w.heap.size + 1 + 1 ≠ D := by have := HL.out; have := HS.out; omega
                exact tube_Inside.out0 rfl rfl (boxed_put b1 hn1) (boxed_put b2 hn2) (hB.trans (belowK_b (w := w) (Nat.le_refl _) _ D _ _ (by have := HL.out; have := HS.out; omega) hK rfl rfl))
        · rw [if_neg g1] at h; cases h
      · rw [if_neg g0] at h; cases h
    · have hb1 : (e2 == 0) = false := beq_eq_false_iff_ne.mpr hz2
      have hb2 : (e2 != 0) = true := bne_iff_ne.mpr hz2
      rw [if_neg hz2] at h
      go_wp2_with (go_at_call 39; refine (tube_Check.calls k A0 c0 l0 0 _ hrW hc0 he1).mono ?_; rintro e w1 ⟨rfl, hb⟩; clear hrW; have Y0 : Boxed w1 w.heap.size 82 (.slice A1 l1.length c1) := blk_below X0 hb; have Y1 : Boxed w1 (w.heap.size + 1) 4 (.bool false) := blk_below X1 hb; have Y2 : Boxed w1 (w.heap.size + 1 + 1) 28 (.int .i64 0) := blk_below X2 hb; have y0 := Boxed.cell Y0; have hB1 := below_step hB0 hb; have hrW1 := Kd.C_below hr1 hB1)
      refine (tube_Check.calls k A1 c1 l1 e2 _ hrW1 hc1 he2).mono ?_
      rintro e w2 ⟨rfl, hb2'⟩
      have V1 : Boxed w2 (w.heap.size + 1) 4 (.bool false) := blk_below Y1 hb2'
      have V2 : Boxed w2 (w.heap.size + 1 + 1) 28 (.int .i64 0) := blk_below Y2 hb2'
      have y1 := Boxed.cell V1
      have y2 := Boxed.cell V2
      have y3 := Boxed.frozen V1
      have y4 := Boxed.frozen V2
      go_wp2
      obtain ⟨rfl, rfl⟩ : false = r1 ∧ e2 = r2 := by simpa using h
      have Z1 := (Boxed.set (.bool false) V1).other (B' := w.heap.size + 1 + 1) (by omega) (.int .i64 e2)
      have Z2 := Boxed.set (.int .i64 e2) (V2.other (B' := w.heap.size + 1) (by omega) (.bool false))
      have z1 := Boxed.cell Z1
      have z2 := Boxed.cell Z2
      refine ⟨_, ?_, rfl, ((below_step hB1 hb2').setCell (by simp) _).setCell (by simp; omega) _⟩
      simp [results, Try.f40, go_sem, z1, z2]
  · have hb1 : (e1 == 0) = false := beq_eq_false_iff_ne.mpr hz
    have hb2 : (e1 != 0) = true := bne_iff_ne.mpr hz
    rw [if_neg hz] at h
    go_wp2_with (go_at_call 39; refine (tube_Check.calls k A0 c0 l0 e1 _ hrW hc0 he1).mono ?_; rintro e w1 ⟨rfl, hb⟩; have Y1 : Boxed w1 (w.heap.size + 1) 4 (.bool false) := blk_below X1 hb; have Y2 : Boxed w1 (w.heap.size + 1 + 1) 28 (.int .i64 0) := blk_below X2 hb; have y1 := Boxed.cell Y1; have y2 := Boxed.cell Y2; have y3 := Boxed.frozen Y1; have y4 := Boxed.frozen Y2)
    obtain ⟨rfl, rfl⟩ : false = r1 ∧ e1 = r2 := by simpa using h
    have Z1 := (Boxed.set (.bool false) Y1).other (B' := w.heap.size + 1 + 1) (by omega) (.int .i64 e1)
    have Z2 := Boxed.set (.int .i64 e1) (Y2.other (B' := w.heap.size + 1) (by omega) (.bool false))
    have z1 := Boxed.cell Z1
    have z2 := Boxed.cell Z2
    refine ⟨_, ?_, rfl, ((below_step hB0 hb).setCell (by simp) _).setCell (by simp; omega) _⟩
    simp [results, Try.f40, go_sem, z1, z2]
theorem tube_Inside.ok_mono (b : List S88) (n : S88) (k : Nat) : LeO (tube_Inside.ok k b n) (tube_Inside.ok (k + 1) b n) :=
  LeO.bind (tube_at.mono _ _ _) fun m => LeO.refl _
theorem tube_Inside.all_mono (b : List S88) (k : Nat) : ∀ zs, LeO (tube_Inside.all k b zs) (tube_Inside.all (k + 1) b zs)
  | [] => LeO.refl _
  | _ :: zs => LeO.bind (tube_Inside.ok_mono _ _ _) fun x => LeO.bind (tube_Inside.all_mono b k zs) fun y => LeO.refl _
theorem tube_Inside.mono (a b : List S88) (k : Nat) : LeO (tube_Inside.f k a b) (tube_Inside.f (k + 1) a b) :=
  LeO.bind (tube_Check.mono _ _) fun e => LeO.ite (LeO.bind (tube_Check.mono _ _) fun e2 => LeO.ite (LeO.ite (LeO.ite (LeO.ite (LeO.refl _) (LeO.ite (LeO.refl _) (LeO.bind (tube_All_1.mono _ _) fun zs => LeO.bind (tube_Inside.all_mono _ _ _) fun x => LeO.refl _))) (LeO.refl _)) (LeO.refl _)) (LeO.refl _)) (LeO.refl _)
end

end Go.Proofs.Ytbpbpojnfhhbjaa.PTubeWidens
