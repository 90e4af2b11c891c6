/- Made by a program of this session (wip/tools/myprint.py, over the kit's printer): that the Go functions answer as the Lean functions printed beside them. -/
import Derived.Test.YtbpbpojnfhhbjaaRows
import Derived.Test.YtbpbpojnfhhbjaaPProbeFirstx
import Derived.Test.YtbpbpojnfhhbjaaPureProbeFirst
import Derived.Test.YtbpbpojnfhhbjaaOpen
import Derived.WalkKit
import Derived.ProofKit
import Derived.OpenShut
import Derived.ShutString
import Derived.ChangeOld
import Derived.Below
import Derived.SizedLaws
import Derived.Carry
/- ProbeFirst holds: the printed walk, over its pure statement. -/
namespace Go.Proofs.Ytbpbpojnfhhbjaa.probeFirst
open Go.ChangeShapes Go.WideShapes Go.ChangeAt Go.RowKit Go.Proofs.YtbpbpojnfhhbjaaO Go.Proofs.YtbpbpojnfhhbjaaW.PrintWords Go.Proofs.Ytbpbpojnfhhbjaa.PProbeFirst
open Go.ChangeMaps (open_string shut_string)
set_option linter.unusedVariables false
theorem opens36 : Opens Try.prog k36 36 good36 := (opens_struct Try.underlying36 (by kernel_rfl) (opensF_cons (opens_int Try.underlying3 (by kernel_rfl)) rfl (opensF_one (opens_int Try.underlying3 (by kernel_rfl)) rfl)) (g := fun a => ⟨a.1, a.2⟩) (fun _ => rfl)).good (fun _ h => h)
theorem opens71 : Opens Try.prog k71 71 good71 := (opens_struct Try.underlying71 (by kernel_rfl) (opensF_cons (opens_int Try.underlying3 (by kernel_rfl)) rfl (opensF_cons opens36 rfl (opensF_one (opens_int Try.underlying3 (by kernel_rfl)) rfl))) (g := fun a => ⟨a.1, a.2.1, a.2.2⟩) (fun _ => rfl)).good (fun _ h => h)
theorem opens88 : Opens Try.prog k88 88 good88 := (opens_struct Try.underlying88 (by kernel_rfl) (opensF_cons opens71 rfl (opensF_cons (opens_int Try.underlying3 (by kernel_rfl)) rfl (opensF_one (opens_int Try.underlying3 (by kernel_rfl)) rfl))) (g := fun a => ⟨a.1, a.2.1, a.2.2⟩) (fun _ => rfl)).good (fun _ h => h)
theorem opens100 : Opens Try.prog k100 100 good100 := (opens_struct Try.underlying100 (by kernel_rfl) (opensF_cons (opens_int Try.underlying3 (by kernel_rfl)) rfl (opensF_one (opens_int Try.underlying3 (by kernel_rfl)) rfl)) (g := fun a => ⟨a.1, a.2⟩) (fun _ => rfl)).good (fun _ h => h)
theorem own : ownKnob Try.prog.godebug = none := by kernel_rfl
theorem laidOut : laidOutB Try.prog = true := by kernel_rfl
set_option maxRecDepth 100000 in
theorem lifted (os : Os) (started : os.Started) (H : Type) (enc : TypeId × Value → H) :
    ReturnsInHanded {} Try.checked os 14 .any (Rows.probeFirstSpec.pre6 enc Try.prog Try.f14 Rows.probeFirstRow.domain false) (Rows.probeFirstSpec.post enc Try.prog Try.f14 false true false false) := by
  refine returnsInHanded_of_change_sized (C := Try.checked) own started (by kernel_rfl) Try.func14
    (ChangeSpec.witness6 (enc := enc) (C := Try.checked) false ⟨#[], #[.slice none 0 0, .slice none 0 0, .agg #[.int .i64 0, .int .i64 0], .int .i64 0], []⟩ 8 (by kernel_rfl) (by kernel_rfl) (by kernel_rfl) (by kernel_rfl)) ?_
  intro W base args ds gs before hval0 hW hcnd hsz0 _
  have hsz : (DataW.weightsEach Try.prog (Try.f14.params.toList ++ Rows.probeFirstSpec.plain.varTypes Try.prog) (ds ++ gs)).all (· ≤ reachBytes) = true := hsz0
  have hval : ∀ (j : Nat) t v, Try.f14.params[j]? = some t → args[j]? = some v → Value.okWide Try.prog W .any base t v := hval0
  have hW' := hW
  obtain ⟨p, q, hA0, hV, rfl, hfz, hnd⟩ := hW
  have hA : DataW.TrodAll enc Try.prog W 0 (fun _ => true) true Try.f14.params.toList args.toList ds p := hA0
  rw [Try.params14] at hA hval hsz
  obtain ⟨v0, vs0, d0, ds0, p0, q0, hargs, rfl, rfl, h0, r0⟩ := trodAll_cons hA
  obtain ⟨v1, vs1, d1, ds1, p1, q1, rfl, rfl, rfl, h1, r1⟩ := trodAll_cons r0
  obtain ⟨v2, vs2, d2, ds2, p2, q2, rfl, rfl, rfl, h2, r2⟩ := trodAll_cons r1
  obtain ⟨v3, vs3, d3, ds3, p3, q3, rfl, rfl, rfl, h3, r3⟩ := trodAll_cons r2
  obtain ⟨rfl, rfl, rfl⟩ := trodAll_nil r3
  obtain rfl : args = #[v0, v1, v2, v3] := by cases args; simp_all
  obtain ⟨rfl, rfl⟩ := trodVars_none hV
  have k0 := h0
  have lt0 : ∀ x ∈ p0, x.block < W.heap.size := by obtain ⟨m, hm⟩ := k0; exact DataW.trod_lt m _ _ _ hm
  obtain ⟨aa0, len0, cap0, rfl⟩ := okWide_slice Try.underlying82 (hval 0 82 v0 rfl rfl)
  obtain ⟨x0, ⟨A0, c0, e0, hl0, hr0⟩, hg0⟩ := Opens.arg (opens_slice Try.underlying82 (by kernel_rfl) (by kernel_rfl) opens88) hsz (j := 0) (t := 82) rfl rfl h0
  obtain ⟨rfl, rfl, rfl⟩ : aa0 = A0 ∧ len0 = x0.length ∧ cap0 = c0 := by simpa [Value.cells] using e0
  have k1 := h1
  have lt1 : ∀ x ∈ p1, x.block < W.heap.size := by obtain ⟨m, hm⟩ := k1; exact DataW.trod_lt m _ _ _ hm
  obtain ⟨aa1, len1, cap1, rfl⟩ := okWide_slice Try.underlying82 (hval 1 82 v1 rfl rfl)
  obtain ⟨x1, ⟨A1, c1, e1, hl1, hr1⟩, hg1⟩ := Opens.arg (opens_slice Try.underlying82 (by kernel_rfl) (by kernel_rfl) opens88) hsz (j := 1) (t := 82) rfl rfl h1
  obtain ⟨rfl, rfl, rfl⟩ : aa1 = A1 ∧ len1 = x1.length ∧ cap1 = c1 := by simpa [Value.cells] using e1
  have k2 := h2
  have lt2 : ∀ x ∈ p2, x.block < W.heap.size := by obtain ⟨m, hm⟩ := k2; exact DataW.trod_lt m _ _ _ hm
  obtain ⟨⟨cs2⟩, rfl, _⟩ := okWide_struct Try.underlying100 (hval 2 100 v2 rfl rfl)
  obtain ⟨x2, hk2, hg2⟩ := Opens.arg opens100 hsz (j := 2) (t := 100) rfl rfl h2
  obtain rfl : cs2 = _ := k100_open hk2
  have k3 := h3
  have lt3 : ∀ x ∈ p3, x.block < W.heap.size := by obtain ⟨m, hm⟩ := k3; exact DataW.trod_lt m _ _ _ hm
  obtain ⟨a3, rfl, rfl, rfl, w3⟩ := open_int Try.underlying3 (hval 3 3 v3 rfl rfl) h3
  (try clear hA0); (try clear hval0); (try clear hsz0); (try clear hsz)
  obtain ⟨k, h⟩ := Pure.ProbeFirst x0 x1 x2.f0 x2.f1 a3 hg0 hg1 hg2.1 hg2.2 w3
  refine (skywaykeep1_ProbeFirst.calls k _ _ x0 _ _ x1 x2.f0 x2.f1 a3 true W hr0 hl0 hr1 hl1 h).mono fun e W' ⟨he, bel0⟩ => ?_
  have bel : Below W.heap.size W W' := bel0
  subst he
  exact ⟨_, rfl, _, _, _, [], _, [], hW', trodAll_mk1 (shut_bool Try.underlying4 _), (trodAll_cons_mk (Below.trod laidOut (by kernel_rfl) (of_decide_eq_true (by kernel_rfl)) k0 bel lt0) (trodAll_cons_mk (Below.trod laidOut (by kernel_rfl) (of_decide_eq_true (by kernel_rfl)) k1 bel lt1) (trodAll_cons_mk (Below.trod laidOut (by kernel_rfl) (of_decide_eq_true (by kernel_rfl)) k2 bel lt2) (trodAll_cons_mk (Below.trod laidOut (by kernel_rfl) (of_decide_eq_true (by kernel_rfl)) k3 bel lt3) trodAll_mk0)))), rfl, bel.frame _, fun h => by cases h⟩
theorem over : Rows.probeFirstRow.holds Try.pinned (OpenSpec.ofChange Rows.probeFirstSpec) :=
  OpenClaim.holds_of_wide 14 Try.f14 rfl rfl rfl rfl rfl rfl rfl ⟨rfl, rfl, rfl, rfl, rfl⟩ rfl rfl rfl rfl rfl (by kernel_rfl) Try.func14 (by kernel_rfl)
    (of_decide_eq_true (by kernel_rfl)) (by unfold Func.isWrapper; first | (rw [if_pos (by decide +kernel)]; kernel_rfl) | (rw [if_neg (by decide +kernel)]; exact ⟨rfl, rfl⟩))
    (fun os started H enc _ => lifted os started H enc)
theorem proved : Rows.ProbeFirstSaid := over
#print axioms proved
end Go.Proofs.Ytbpbpojnfhhbjaa.probeFirst
namespace Go.Proofs.Ytbpbpojnfhhbjaa
/-- The row, under a short name, for the claim. -/
theorem probeFirst_holds : Rows.ProbeFirstSaid := probeFirst.proved
end Go.Proofs.Ytbpbpojnfhhbjaa
