/- Made by a program of this session (wip/tools/myprint.py, over the kit's printer): that the Go functions answer as the Lean functions printed beside them. -/
import Derived.Test.YtbpbpojnfhhbjaaRows
import Derived.Test.YtbpbpojnfhhbjaaPTubeWidensx
import Derived.Test.YtbpbpojnfhhbjaaPureTubeWidens
import Derived.Test.YtbpbpojnfhhbjaaOpen
import Derived.WalkKit
import Derived.ProofKit
import Derived.OpenShut
import Derived.ShutString
import Derived.ChangeOld
import Derived.Below
import Derived.SizedLaws
import Derived.Carry
/- TubeWidens holds: the printed walk, over its pure statement. -/
namespace Go.Proofs.Ytbpbpojnfhhbjaa.tubeWidens
open Go.ChangeShapes Go.WideShapes Go.ChangeAt Go.RowKit Go.Proofs.YtbpbpojnfhhbjaaO Go.Proofs.YtbpbpojnfhhbjaaW.PrintWords Go.Proofs.Ytbpbpojnfhhbjaa.PTubeWidens
open Go.ChangeMaps (open_string shut_string)
set_option linter.unusedVariables false
theorem opens36 : Opens Try.prog k36 36 good36 := (opens_struct Try.underlying36 (by kernel_rfl) (opensF_cons (opens_int Try.underlying3 (by kernel_rfl)) rfl (opensF_one (opens_int Try.underlying3 (by kernel_rfl)) rfl)) (g := fun a => ⟨a.1, a.2⟩) (fun _ => rfl)).good (fun _ h => h)
theorem opens71 : Opens Try.prog k71 71 good71 := (opens_struct Try.underlying71 (by kernel_rfl) (opensF_cons (opens_int Try.underlying3 (by kernel_rfl)) rfl (opensF_cons opens36 rfl (opensF_one (opens_int Try.underlying3 (by kernel_rfl)) rfl))) (g := fun a => ⟨a.1, a.2.1, a.2.2⟩) (fun _ => rfl)).good (fun _ h => h)
theorem opens88 : Opens Try.prog k88 88 good88 := (opens_struct Try.underlying88 (by kernel_rfl) (opensF_cons opens71 rfl (opensF_cons (opens_int Try.underlying3 (by kernel_rfl)) rfl (opensF_one (opens_int Try.underlying3 (by kernel_rfl)) rfl))) (g := fun a => ⟨a.1, a.2.1, a.2.2⟩) (fun _ => rfl)).good (fun _ h => h)
theorem own : ownKnob Try.prog.godebug = none := by kernel_rfl
theorem laidOut : laidOutB Try.prog = true := by kernel_rfl
set_option maxRecDepth 100000 in
theorem lifted (os : Os) (started : os.Started) (H : Type) (enc : TypeId × Value → H) :
    ReturnsInHanded {} Try.checked os 13 .any (Rows.tubeWidensSpec.pre6 enc Try.prog Try.f13 Rows.tubeWidensRow.domain false) (Rows.tubeWidensSpec.post enc Try.prog Try.f13 false true false false) := by
  refine returnsInHanded_of_change_sized (C := Try.checked) own started (by kernel_rfl) Try.func13
    (ChangeSpec.witness6 (enc := enc) (C := Try.checked) false ⟨#[], #[.slice none 0 0, .int .i64 0, .int .i64 0, .int .i64 0, .agg #[.int .i64 0, .int .i64 0], .int .i64 0], []⟩ 8 (by kernel_rfl) (by kernel_rfl) (by kernel_rfl) (by kernel_rfl)) ?_
  intro W base args ds gs before hval0 hW hcnd hsz0 _
  have hsz : (DataW.weightsEach Try.prog (Try.f13.params.toList ++ Rows.tubeWidensSpec.plain.varTypes Try.prog) (ds ++ gs)).all (· ≤ reachBytes) = true := hsz0
  have hval : ∀ (j : Nat) t v, Try.f13.params[j]? = some t → args[j]? = some v → Value.okWide Try.prog W .any base t v := hval0
  have hW' := hW
  obtain ⟨p, q, hA0, hV, rfl, hfz, hnd⟩ := hW
  have hA : DataW.TrodAll enc Try.prog W 0 (fun _ => true) true Try.f13.params.toList args.toList ds p := hA0
  rw [Try.params13] at hA hval hsz
  obtain ⟨v0, vs0, d0, ds0, p0, q0, hargs, rfl, rfl, h0, r0⟩ := trodAll_cons hA
  obtain ⟨v1, vs1, d1, ds1, p1, q1, rfl, rfl, rfl, h1, r1⟩ := trodAll_cons r0
  obtain ⟨v2, vs2, d2, ds2, p2, q2, rfl, rfl, rfl, h2, r2⟩ := trodAll_cons r1
  obtain ⟨v3, vs3, d3, ds3, p3, q3, rfl, rfl, rfl, h3, r3⟩ := trodAll_cons r2
  obtain ⟨v4, vs4, d4, ds4, p4, q4, rfl, rfl, rfl, h4, r4⟩ := trodAll_cons r3
  obtain ⟨v5, vs5, d5, ds5, p5, q5, rfl, rfl, rfl, h5, r5⟩ := trodAll_cons r4
  obtain ⟨rfl, rfl, rfl⟩ := trodAll_nil r5
  obtain rfl : args = #[v0, v1, v2, v3, v4, v5] := by cases args; simp_all
  obtain ⟨rfl, rfl⟩ := trodVars_none hV
  have k0 := h0
  have lt0 : ∀ x ∈ p0, x.block < W.heap.size := by obtain ⟨m, hm⟩ := k0; exact DataW.trod_lt m _ _ _ hm
  obtain ⟨aa0, len0, cap0, rfl⟩ := okWide_slice Try.underlying82 (hval 0 82 v0 rfl rfl)
  obtain ⟨x0, ⟨A0, c0, e0, hl0, hr0⟩, hg0⟩ := Opens.arg (opens_slice Try.underlying82 (by kernel_rfl) (by kernel_rfl) opens88) hsz (j := 0) (t := 82) rfl rfl h0
  obtain ⟨rfl, rfl, rfl⟩ : aa0 = A0 ∧ len0 = x0.length ∧ cap0 = c0 := by simpa [Value.cells] using e0
  have k1 := h1
  have lt1 : ∀ x ∈ p1, x.block < W.heap.size := by obtain ⟨m, hm⟩ := k1; exact DataW.trod_lt m _ _ _ hm
  obtain ⟨a1, rfl, rfl, rfl, w1⟩ := open_int Try.underlying3 (hval 1 3 v1 rfl rfl) h1
  have k2 := h2
  have lt2 : ∀ x ∈ p2, x.block < W.heap.size := by obtain ⟨m, hm⟩ := k2; exact DataW.trod_lt m _ _ _ hm
  obtain ⟨a2, rfl, rfl, rfl, w2⟩ := open_int Try.underlying3 (hval 2 3 v2 rfl rfl) h2
  have k3 := h3
  have lt3 : ∀ x ∈ p3, x.block < W.heap.size := by obtain ⟨m, hm⟩ := k3; exact DataW.trod_lt m _ _ _ hm
  obtain ⟨a3, rfl, rfl, rfl, w3⟩ := open_int Try.underlying3 (hval 3 3 v3 rfl rfl) h3
  have k4 := h4
  have lt4 : ∀ x ∈ p4, x.block < W.heap.size := by obtain ⟨m, hm⟩ := k4; exact DataW.trod_lt m _ _ _ hm
  obtain ⟨⟨cs4⟩, rfl, _⟩ := okWide_struct Try.underlying36 (hval 4 36 v4 rfl rfl)
  obtain ⟨x4, hk4, hg4⟩ := Opens.arg opens36 hsz (j := 4) (t := 36) rfl rfl h4
  obtain rfl : cs4 = _ := k36_open hk4
  have k5 := h5
  have lt5 : ∀ x ∈ p5, x.block < W.heap.size := by obtain ⟨m, hm⟩ := k5; exact DataW.trod_lt m _ _ _ hm
  obtain ⟨a5, rfl, rfl, rfl, w5⟩ := open_int Try.underlying3 (hval 5 3 v5 rfl rfl) h5
  (try clear hA0); (try clear hval0); (try clear hsz0); (try clear hsz)
  obtain ⟨k, h⟩ := Pure.TubeWidens x0 a1 a2 a3 x4.f0 x4.f1 a5 hg0 w1 w2 w3 hg4.1 hg4.2 w5
  refine (skywaykeep1_TubeWidens.calls k (fun k_ => k_ < W.heap.size) _ _ x0 a1 a2 a3 x4.f0 x4.f1 a5 true W (Kd.V_mk hl0 (Kd.C_F k88_heap hr0)) h).mono fun e W' ⟨he, bel0⟩ => ?_
  have bel : Below W.heap.size W W' := bel0
  subst he
  exact ⟨_, rfl, _, _, _, [], _, [], hW', trodAll_mk1 (shut_bool Try.underlying4 _), (trodAll_cons_mk (Below.trod laidOut (by kernel_rfl) (of_decide_eq_true (by kernel_rfl)) k0 bel lt0) (trodAll_cons_mk (Below.trod laidOut (by kernel_rfl) (of_decide_eq_true (by kernel_rfl)) k1 bel lt1) (trodAll_cons_mk (Below.trod laidOut (by kernel_rfl) (of_decide_eq_true (by kernel_rfl)) k2 bel lt2) (trodAll_cons_mk (Below.trod laidOut (by kernel_rfl) (of_decide_eq_true (by kernel_rfl)) k3 bel lt3) (trodAll_cons_mk (Below.trod laidOut (by kernel_rfl) (of_decide_eq_true (by kernel_rfl)) k4 bel lt4) (trodAll_cons_mk (Below.trod laidOut (by kernel_rfl) (of_decide_eq_true (by kernel_rfl)) k5 bel lt5) trodAll_mk0)))))), rfl, bel.frame _, fun h => by cases h⟩
theorem over : Rows.tubeWidensRow.holds Try.pinned (OpenSpec.ofChange Rows.tubeWidensSpec) :=
  OpenClaim.holds_of_wide 13 Try.f13 rfl rfl rfl rfl rfl rfl rfl ⟨rfl, rfl, rfl, rfl, rfl⟩ rfl rfl rfl rfl rfl (by kernel_rfl) Try.func13 (by kernel_rfl)
    (of_decide_eq_true (by kernel_rfl)) (by unfold Func.isWrapper; first | (rw [if_pos (by decide +kernel)]; kernel_rfl) | (rw [if_neg (by decide +kernel)]; exact ⟨rfl, rfl⟩))
    (fun os started H enc _ => lifted os started H enc)
theorem proved : Rows.TubeWidensSaid := over
#print axioms proved
end Go.Proofs.Ytbpbpojnfhhbjaa.tubeWidens
namespace Go.Proofs.Ytbpbpojnfhhbjaa
/-- The row, under a short name, for the claim. -/
theorem tubeWidens_holds : Rows.TubeWidensSaid := tubeWidens.proved
end Go.Proofs.Ytbpbpojnfhhbjaa
