/- Made by a program of this session (wip/tools/myprint.py, over the kit's printer): that the Go functions answer as the Lean functions printed beside them. -/
import Derived.Test.YthghilclgobpbaaRows
import Derived.Test.YthghilclgobpbaaPProbeAllx
import Derived.Test.YthghilclgobpbaaPureProbeAll
import Derived.Test.YthghilclgobpbaaTOpen
import Derived.WalkKit
import Derived.ProofKit
import Derived.OpenShut
import Derived.ShutString
import Derived.ChangeOld
import Derived.Below
import Derived.SizedLaws
import Derived.Carry
/- ProbeAll holds: the printed walk, over its pure statement. -/
namespace Go.Proofs.Ythghilclgobpbaa.probeAll
open Go.ChangeShapes Go.WideShapes Go.ChangeAt Go.RowKit Go.Proofs.YthghilclgobpbaaO Go.Proofs.YthghilclgobpbaaW.PrintWords Go.Proofs.Ythghilclgobpbaa.PProbeAll
open Go.ChangeMaps (open_string shut_string)
set_option linter.unusedVariables false
theorem opens41 : Opens Try.prog k41 41 good41 := (opens_struct Try.underlying41 (by kernel_rfl) (opensF_cons (opens_int Try.underlying3 (by kernel_rfl)) rfl (opensF_one (opens_int Try.underlying3 (by kernel_rfl)) rfl)) (g := fun a => ⟨a.1, a.2⟩) (fun _ => rfl)).good (fun _ h => h)
theorem opens93 : Opens Try.prog k93 93 good93 := (opens_struct Try.underlying93 (by kernel_rfl) (opensF_cons (opens_int Try.underlying3 (by kernel_rfl)) rfl (opensF_cons opens41 rfl (opensF_one (opens_int Try.underlying3 (by kernel_rfl)) rfl))) (g := fun a => ⟨a.1, a.2.1, a.2.2⟩) (fun _ => rfl)).good (fun _ h => h)
theorem opens95 : Opens Try.prog k95 95 good95 := (opens_struct Try.underlying95 (by kernel_rfl) (opensF_cons opens93 rfl (opensF_cons (opens_int Try.underlying3 (by kernel_rfl)) rfl (opensF_one (opens_int Try.underlying3 (by kernel_rfl)) rfl))) (g := fun a => ⟨a.1, a.2.1, a.2.2⟩) (fun _ => rfl)).good (fun _ h => h)
theorem opens51 : Opens Try.prog k51 51 good51 := (opens_struct Try.underlying51 (by kernel_rfl) (opensF_cons (opens_int Try.underlying3 (by kernel_rfl)) rfl (opensF_one (opens_int Try.underlying3 (by kernel_rfl)) rfl)) (g := fun a => ⟨a.1, a.2⟩) (fun _ => rfl)).good (fun _ h => h)
theorem own : ownKnob Try.prog.godebug = none := by kernel_rfl
theorem laidOut : laidOutB Try.prog = true := by kernel_rfl
set_option maxRecDepth 100000 in
theorem lifted (os : Os) (started : os.Started) (H : Type) (enc : TypeId × Value → H) :
    ReturnsInHanded {} Try.checked os 7 .any (Rows.probeAllSpec.pre6 enc Try.prog Try.f7 Rows.probeAllRow.domain false) (Rows.probeAllSpec.post enc Try.prog Try.f7 false true false false) := by
  refine returnsInHanded_of_change_sized (C := Try.checked) own started (by kernel_rfl) Try.func7
    (ChangeSpec.witness6 (enc := enc) (C := Try.checked) false ⟨#[], #[.slice none 0 0, .agg #[.int .i64 0, .int .i64 0]], []⟩ 8 (by kernel_rfl) (by kernel_rfl) (by kernel_rfl) (by kernel_rfl)) ?_
  intro W base args ds gs before hval0 hW hcnd hsz0 _
  have hsz : (DataW.weightsEach Try.prog (Try.f7.params.toList ++ Rows.probeAllSpec.plain.varTypes Try.prog) (ds ++ gs)).all (· ≤ reachBytes) = true := hsz0
  have hval : ∀ (j : Nat) t v, Try.f7.params[j]? = some t → args[j]? = some v → Value.okWide Try.prog W .any base t v := hval0
  have hW' := hW
  obtain ⟨p, q, hA0, hV, rfl, hfz, hnd⟩ := hW
  have hA : DataW.TrodAll enc Try.prog W 0 (fun _ => true) true Try.f7.params.toList args.toList ds p := hA0
  rw [Try.params7] at hA hval hsz
  obtain ⟨v0, vs0, d0, ds0, p0, q0, hargs, rfl, rfl, h0, r0⟩ := trodAll_cons hA
  obtain ⟨v1, vs1, d1, ds1, p1, q1, rfl, rfl, rfl, h1, r1⟩ := trodAll_cons r0
  obtain ⟨rfl, rfl, rfl⟩ := trodAll_nil r1
  obtain rfl : args = #[v0, v1] := by cases args; simp_all
  obtain ⟨rfl, rfl⟩ := trodVars_none hV
  have k0 := h0
  have lt0 : ∀ x ∈ p0, x.block < W.heap.size := by obtain ⟨m, hm⟩ := k0; exact DataW.trod_lt m _ _ _ hm
  obtain ⟨aa0, len0, cap0, rfl⟩ := okWide_slice Try.underlying49 (hval 0 49 v0 rfl rfl)
  obtain ⟨x0, ⟨A0, c0, e0, hl0, hr0⟩, hg0⟩ := Opens.arg (opens_slice Try.underlying49 (by kernel_rfl) (by kernel_rfl) (opens_slice Try.underlying60 (by kernel_rfl) (by kernel_rfl) opens95)) hsz (j := 0) (t := 49) rfl rfl h0
  obtain ⟨rfl, rfl, rfl⟩ : aa0 = A0 ∧ len0 = x0.length ∧ cap0 = c0 := by simpa [Value.cells] using e0
  have k1 := h1
  have lt1 : ∀ x ∈ p1, x.block < W.heap.size := by obtain ⟨m, hm⟩ := k1; exact DataW.trod_lt m _ _ _ hm
  obtain ⟨⟨cs1⟩, rfl, _⟩ := okWide_struct Try.underlying51 (hval 1 51 v1 rfl rfl)
  obtain ⟨x1, hk1, hg1⟩ := Opens.arg opens51 hsz (j := 1) (t := 51) rfl rfl h1
  obtain rfl : cs1 = _ := k51_open hk1
  (try clear hA0); (try clear hval0); (try clear hsz0); (try clear hsz)
  obtain ⟨k, h⟩ := Pure.ProbeAll x0 x1.f0 x1.f1 hg0 hg1.1 hg1.2
  refine (skywaykeep1_ProbeAll.calls k _ _ x0 x1.f0 x1.f1 true W hr0 hl0 h).mono fun e W' ⟨he, bel0⟩ => ?_
  have bel : Below W.heap.size W W' := bel0
  subst he
  exact ⟨_, rfl, _, _, _, [], _, [], hW', trodAll_mk1 (shut_bool Try.underlying4 _), (trodAll_cons_mk (Below.trod laidOut (by kernel_rfl) (of_decide_eq_true (by kernel_rfl)) k0 bel lt0) (trodAll_cons_mk (Below.trod laidOut (by kernel_rfl) (of_decide_eq_true (by kernel_rfl)) k1 bel lt1) trodAll_mk0)), rfl, bel.frame _, fun h => by cases h⟩
theorem over : Rows.probeAllRow.holds Try.pinned (OpenSpec.ofChange Rows.probeAllSpec) :=
  OpenClaim.holds_of_wide 7 Try.f7 rfl rfl rfl rfl rfl rfl rfl ⟨rfl, rfl, rfl, rfl, rfl⟩ rfl rfl rfl rfl rfl (by kernel_rfl) Try.func7 (by kernel_rfl)
    (of_decide_eq_true (by kernel_rfl)) (by unfold Func.isWrapper; first | (rw [if_pos (by decide +kernel)]; kernel_rfl) | (rw [if_neg (by decide +kernel)]; exact ⟨rfl, rfl⟩))
    (fun os started H enc _ => lifted os started H enc)
theorem proved : Rows.ProbeAllSaid := over
#print axioms proved
end Go.Proofs.Ythghilclgobpbaa.probeAll
namespace Go.Proofs.Ythghilclgobpbaa
/-- The row, under a short name, for the claim. -/
theorem probeAll_holds : Rows.ProbeAllSaid := probeAll.proved
end Go.Proofs.Ythghilclgobpbaa
