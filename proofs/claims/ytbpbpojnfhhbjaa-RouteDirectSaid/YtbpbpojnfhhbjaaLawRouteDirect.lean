/- Made by a program of this session (wip/tools/myprint.py, over the kit's printer): that the Go functions answer as the Lean functions printed beside them. -/
import Derived.Test.YtbpbpojnfhhbjaaRows
import Derived.Test.YtbpbpojnfhhbjaaPRouteDirectx
import Derived.Test.YtbpbpojnfhhbjaaPureRouteDirect
import Derived.Test.YtbpbpojnfhhbjaaTOpen
import Derived.WalkKit
import Derived.ProofKit
import Derived.OpenShut
import Derived.ShutString
import Derived.ChangeOld
import Derived.Below
import Derived.SizedLaws
import Derived.Carry
/- RouteDirect holds: the printed walk, over its pure statement. -/
namespace Go.Proofs.Ytbpbpojnfhhbjaa.routeDirect
open Go.ChangeShapes Go.WideShapes Go.ChangeAt Go.RowKit Go.Proofs.YtbpbpojnfhhbjaaO Go.Proofs.YtbpbpojnfhhbjaaW.PrintWords Go.Proofs.Ytbpbpojnfhhbjaa.PRouteDirect
open Go.ChangeMaps (open_string shut_string)
set_option linter.unusedVariables false
theorem opens51 : Opens Try.prog k51 51 good51 := (opens_struct Try.underlying51 (by kernel_rfl) (opensF_cons (opens_string Try.underlying9 (by kernel_rfl)) rfl (opensF_cons (opens_string Try.underlying9 (by kernel_rfl)) rfl (opensF_cons (opens_string Try.underlying9 (by kernel_rfl)) rfl (opensF_cons (opens_string Try.underlying9 (by kernel_rfl)) rfl (opensF_cons (opens_int Try.underlying3 (by kernel_rfl)) rfl (opensF_cons (opens_int Try.underlying3 (by kernel_rfl)) rfl (opensF_cons (opens_int Try.underlying3 (by kernel_rfl)) rfl (opensF_one (opens_slice Try.underlying27 (by kernel_rfl) (by kernel_rfl) (opens_string Try.underlying9 (by kernel_rfl))) rfl)))))))) (g := fun a => ⟨a.1, a.2.1, a.2.2.1, a.2.2.2.1, a.2.2.2.2.1, a.2.2.2.2.2.1, a.2.2.2.2.2.2.1, a.2.2.2.2.2.2.2⟩) (fun _ => rfl)).good (fun _ h => h)
theorem opens36 : Opens Try.prog k36 36 good36 := (opens_struct Try.underlying36 (by kernel_rfl) (opensF_cons (opens_int Try.underlying3 (by kernel_rfl)) rfl (opensF_one (opens_int Try.underlying3 (by kernel_rfl)) rfl)) (g := fun a => ⟨a.1, a.2⟩) (fun _ => rfl)).good (fun _ h => h)
theorem opens40 : Opens Try.prog k40 40 good40 := (opens_struct Try.underlying40 (by kernel_rfl) (opensF_cons (opens_string Try.underlying9 (by kernel_rfl)) rfl (opensF_one opens36 rfl)) (g := fun a => ⟨a.1, a.2⟩) (fun _ => rfl)).good (fun _ h => h)
theorem opens48 : Opens Try.prog k48 48 good48 := (opens_struct Try.underlying48 (by kernel_rfl) (opensF_cons (opens_string Try.underlying9 (by kernel_rfl)) rfl (opensF_one (opens_slice Try.underlying27 (by kernel_rfl) (by kernel_rfl) (opens_string Try.underlying9 (by kernel_rfl))) rfl)) (g := fun a => ⟨a.1, a.2⟩) (fun _ => rfl)).good (fun _ h => h)
theorem opens25 : Opens Try.prog k25 25 good25 := (opens_struct Try.underlying25 (by kernel_rfl) (opensF_cons (opens_slice Try.underlying22 (by kernel_rfl) (by kernel_rfl) opens40) rfl (opensF_one (opens_slice Try.underlying23 (by kernel_rfl) (by kernel_rfl) opens48) rfl)) (g := fun a => ⟨a.1, a.2⟩) (fun _ => rfl)).good (fun _ h => h)
theorem own : ownKnob Try.prog.godebug = none := by kernel_rfl
theorem laidOut : laidOutB Try.prog = true := by kernel_rfl
set_option maxRecDepth 100000 in
theorem lifted (os : Os) (started : os.Started) (H : Type) (enc : TypeId × Value → H) :
    ReturnsInHanded {} Try.checked os 7 .any (Rows.routeDirectSpec.pre6 enc Try.prog Try.f7 Rows.routeDirectRow.domain false) (Rows.routeDirectSpec.post enc Try.prog Try.f7 false true false false) := by
  refine returnsInHanded_of_change_sized (C := Try.checked) own started (by kernel_rfl) Try.func7
    (ChangeSpec.witness6 (enc := enc) (C := Try.checked) false ⟨#[], #[.agg #[.string ByteArray.empty, .string ByteArray.empty, .string ByteArray.empty, .string ByteArray.empty, .int .i64 0, .int .i64 0, .int .i64 0, .slice none 0 0], .agg #[.slice none 0 0, .slice none 0 0]], []⟩ 8 (by kernel_rfl) (by kernel_rfl) (by kernel_rfl) (by kernel_rfl)) ?_
  intro W base args ds gs before hval0 hW hcnd hsz0 _
  have hsz : (DataW.weightsEach Try.prog (Try.f7.params.toList ++ Rows.routeDirectSpec.plain.varTypes Try.prog) (ds ++ gs)).all (· ≤ reachBytes) = true := hsz0
  have hval : ∀ (j : Nat) t v, Try.f7.params[j]? = some t → args[j]? = some v → Value.okWide Try.prog W .any base t v := hval0
  have hW' := hW
  obtain ⟨p, q, hA0, hV, rfl, hfz, hnd⟩ := hW
  have hA : DataW.TrodAll enc Try.prog W 0 (fun _ => true) true Try.f7.params.toList args.toList ds p := hA0
  rw [Try.params7] at hA hval hsz
  obtain ⟨v0, vs0, d0, ds0, p0, q0, hargs, rfl, rfl, h0, r0⟩ := trodAll_cons hA
  obtain ⟨v1, vs1, d1, ds1, p1, q1, rfl, rfl, rfl, h1, r1⟩ := trodAll_cons r0
  obtain ⟨rfl, rfl, rfl⟩ := trodAll_nil r1
  obtain rfl : args = #[v0, v1] := by cases args; simp_all
  obtain ⟨rfl, rfl⟩ := trodVars_none hV
  have k0 := h0
  have lt0 : ∀ x ∈ p0, x.block < W.heap.size := by obtain ⟨m, hm⟩ := k0; exact DataW.trod_lt m _ _ _ hm
  obtain ⟨⟨cs0⟩, rfl, _⟩ := okWide_struct Try.underlying51 (hval 0 51 v0 rfl rfl)
  obtain ⟨x0, hk0, hg0⟩ := Opens.arg opens51 hsz (j := 0) (t := 51) rfl rfl h0
  obtain ⟨A0_7, c0_7, e0, hl0_7, hr0_7⟩ := k51_open hk0
  obtain rfl : cs0 = _ := e0
  have k1 := h1
  have lt1 : ∀ x ∈ p1, x.block < W.heap.size := by obtain ⟨m, hm⟩ := k1; exact DataW.trod_lt m _ _ _ hm
  obtain ⟨⟨cs1⟩, rfl, _⟩ := okWide_struct Try.underlying25 (hval 1 25 v1 rfl rfl)
  obtain ⟨x1, hk1, hg1⟩ := Opens.arg opens25 hsz (j := 1) (t := 25) rfl rfl h1
  obtain ⟨A1_0, c1_0, A1_1, c1_1, e1, hl1_0, hr1_0, hl1_1, hr1_1⟩ := k25_open hk1
  obtain rfl : cs1 = _ := e1
  (try clear hA0); (try clear hval0); (try clear hsz0); (try clear hsz)
  obtain ⟨k, h⟩ := Pure.RouteDirect x0.f0 x0.f1 x0.f2 x0.f3 x0.f4 x0.f5 x0.f6 x0.f7 x1.f0 x1.f1 hg0.1 hg0.2.1 hg0.2.2.1 hg0.2.2.2.1 hg0.2.2.2.2.1 hg0.2.2.2.2.2.1 hg0.2.2.2.2.2.2.1 hg0.2.2.2.2.2.2.2 hg1.1 hg1.2
  refine (skywaykeep1_RouteDirect.calls k x0.f0 x0.f1 x0.f2 x0.f3 x0.f4 x0.f5 x0.f6 _ _ x0.f7 _ _ x1.f0 _ _ x1.f1 true W hr0_7 hl0_7 hr1_0 hl1_0 hr1_1 hl1_1 h).mono fun e W' ⟨he, bel0⟩ => ?_
  have bel : Below W.heap.size W W' := bel0
  subst he
  exact ⟨_, rfl, _, _, _, [], _, [], hW', trodAll_mk1 (shut_bool Try.underlying4 _), (trodAll_cons_mk (Below.trod laidOut (by kernel_rfl) (of_decide_eq_true (by kernel_rfl)) k0 bel lt0) (trodAll_cons_mk (Below.trod laidOut (by kernel_rfl) (of_decide_eq_true (by kernel_rfl)) k1 bel lt1) trodAll_mk0)), rfl, bel.frame _, fun h => by cases h⟩
theorem over : Rows.routeDirectRow.holds Try.pinned (OpenSpec.ofChange Rows.routeDirectSpec) :=
  OpenClaim.holds_of_wide 7 Try.f7 rfl rfl rfl rfl rfl rfl rfl ⟨rfl, rfl, rfl, rfl, rfl⟩ rfl rfl rfl rfl rfl (by kernel_rfl) Try.func7 (by kernel_rfl)
    (of_decide_eq_true (by kernel_rfl)) (by unfold Func.isWrapper; first | (rw [if_pos (by decide +kernel)]; kernel_rfl) | (rw [if_neg (by decide +kernel)]; exact ⟨rfl, rfl⟩))
    (fun os started H enc _ => lifted os started H enc)
theorem proved : Rows.RouteDirectSaid := over
#print axioms proved
end Go.Proofs.Ytbpbpojnfhhbjaa.routeDirect
namespace Go.Proofs.Ytbpbpojnfhhbjaa
/-- The row, under a short name, for the claim. -/
theorem routeDirect_holds : Rows.RouteDirectSaid := routeDirect.proved
end Go.Proofs.Ytbpbpojnfhhbjaa
