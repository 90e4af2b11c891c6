/- Made by a program of this session (wip/tools/myprint.py, over the kit's printer): that the Go functions answer as the Lean functions printed beside them. -/
import Derived.Test.YthpbpdobghceeaaDoorRows
import Derived.Test.YthpbpdobghceeaaDoorPAngleTurnedx
import Derived.Test.YthpbpdobghceeaaDoorPureAngleTurned
import Derived.Test.YthpbpdobghceeaaDoorOpen
import Derived.WalkKit
import Derived.ProofKit
import Derived.OpenShut
import Derived.ShutString
import Derived.ChangeOld
import Derived.Below
import Derived.SizedLaws
import Derived.Carry
import Derived.Test.YthpbpdobghceeaaDoorCards
import Derived.Test.YthpbpdobghceeaaDoorTie
import Derived.Test.YthpbpdobghceeaaDoorAngRow
import Derived.SevenTiedAt
/- AngleTurned holds: the printed walk, over its pure statement. -/
namespace Go.Proofs.YthpbpdobghceeaaDoor.angleTurned
open Go.ChangeShapes Go.WideShapes Go.ChangeAt Go.RowKit Go.Proofs.YthpbpdobghceeaaDoorO Go.Proofs.YthpbpdobghceeaaDoorW.PrintWords Go.Proofs.YthpbpdobghceeaaDoor.PAngleTurned
open Go.ChangeMaps (open_string shut_string)
set_option linter.unusedVariables false
theorem opens28 : Opens Tryd.prog k28 28 good28 := (opens_struct Tryd.underlying28 (by kernel_rfl) (opensF_cons (opens_int Tryd.underlying3 (by kernel_rfl)) rfl (opensF_one (opens_int Tryd.underlying3 (by kernel_rfl)) rfl)) (g := fun a => ⟨a.1, a.2⟩) (fun _ => rfl)).good (fun _ h => h)
theorem own : ownKnob Tryd.prog.godebug = none := by kernel_rfl
theorem laidOut : laidOutB Tryd.prog = true := by kernel_rfl
set_option maxRecDepth 100000 in
theorem lifted (os : Os) (started : os.Started) (H : Type) (enc : TypeId × Value → H) :
    ReturnsInHanded {} Tryd.checked os 6 .any (fun w args => (Rows.angleTurnedSpec.pre enc Tryd.prog Tryd.f6 [] false w args ∧ laidMetH Tryd.prog Ang.laidL w) ∧ sizedMet enc Tryd.prog Tryd.f6 (OpenSpec.ofChange Rows.angleTurnedSpec) false w args)
      (Rows.angleTurnedSpec.post enc Tryd.prog Tryd.f6 false true false false) := by
  refine returnsInHanded_of_change_and (C := Tryd.checked) (X := fun w _ => laidMetH Tryd.prog Ang.laidL w) (fun _ _ _ hh h => h.of_heap hh) own started (by kernel_rfl) Tryd.func6
    (ChangeSpec.witness_shaped (enc := enc) (C := Tryd.checked) (os := os) (X := fun w _ => laidMetH Tryd.prog Ang.laidL w) false (World.doorLaid Tryd.prog 400 os) #[.agg #[.int .i64 0, .int .i64 0]] 8 rfl (World.shaped_of_RefB (by kernel_rfl) (by kernel_rfl)) (by kernel_rfl) (by kernel_rfl) (by kernel_rfl) (Ang.door_met os _)) ?_
  intro W base args ds gs before hval0 hW hcnd hsz0 hL _
  have hsz : (DataW.weightsEach Tryd.prog (Tryd.f6.params.toList ++ Rows.angleTurnedSpec.plain.varTypes Tryd.prog) (ds ++ gs)).all (· ≤ reachBytes) = true := hsz0
  have hval : ∀ (j : Nat) t v, Tryd.f6.params[j]? = some t → args[j]? = some v → Value.okWide Tryd.prog W .any base t v := hval0
  have hW' := hW
  obtain ⟨p, q, hA0, hV, rfl, hfz, hnd⟩ := hW
  have hA : DataW.TrodAll enc Tryd.prog W 0 (fun _ => true) true Tryd.f6.params.toList args.toList ds p := hA0
  rw [Tryd.params6] at hA hval hsz
  obtain ⟨v0, vs0, d0, ds0, p0, q0, hargs, rfl, rfl, h0, r0⟩ := trodAll_cons hA
  obtain ⟨rfl, rfl, rfl⟩ := trodAll_nil r0
  obtain rfl : args = #[v0] := by cases args; simp_all
  obtain ⟨rfl, rfl⟩ := trodVars_none hV
  have k0 := h0
  have lt0 : ∀ x ∈ p0, x.block < W.heap.size := by obtain ⟨m, hm⟩ := k0; exact DataW.trod_lt m _ _ _ hm
  obtain ⟨⟨cs0⟩, rfl, _⟩ := okWide_struct Tryd.underlying28 (hval 0 28 v0 rfl rfl)
  obtain ⟨x0, hk0, hg0⟩ := Opens.arg opens28 hsz (j := 0) (t := 28) rfl rfl h0
  obtain rfl : cs0 = _ := k28_open hk0
  (try clear hA0); (try clear hval0); (try clear hsz0); (try clear hsz)
  have h := Pure.AngleTurned x0.f0 x0.f1 hg0.1 hg0.2
  refine (skywaykeep1_AngleTurned.calls x0.f0 x0.f1 true W  h (Ang.tab_of_laid hL)).mono fun e W' ⟨he, bel0⟩ => ?_
  have bel : Below W.heap.size W W' := bel0
  subst he
  exact ⟨_, rfl, _, _, _, [], _, [], hW', trodAll_mk1 (shut_bool Tryd.underlying4 _), (trodAll_cons_mk (Below.trod laidOut (by kernel_rfl) (of_decide_eq_true (by kernel_rfl)) k0 bel lt0) trodAll_mk0), rfl, bel.frame _, fun h => by cases h⟩
theorem row_holds : Rows.AngleTurnedSaid :=
  OpenClaim.holds_of_wide 6 Tryd.f6 rfl rfl rfl rfl rfl rfl rfl ⟨rfl, rfl, rfl, rfl, rfl⟩ rfl rfl rfl rfl rfl (by kernel_rfl) Tryd.func6 (by kernel_rfl)
    (of_decide_eq_true (by kernel_rfl)) (by unfold Func.isWrapper; first | (rw [if_pos (by decide +kernel)]; kernel_rfl) | (rw [if_neg (by decide +kernel)]; exact ⟨rfl, rfl⟩))
    (fun os started H enc _ => lifted os started H enc)
theorem card : Rows.AngleTurnedCardSaid :=
  Claim7.holds_tied_plain_at .later [] [.data, .data, .data] true (true, "17ef80045a9fa5e274109680073313d154a430c2368af78a9801b0bd952e068e") false
    row_holds (fun _ h => by cases h) (by kernel_rfl) (fun _ h => by cases h) angleTurned_row_tie rfl ⟨rfl, rfl⟩ (by kernel_rfl) rfl
    (fun f fn hf hfn => by
      obtain rfl : f = 6 := Option.some.inj ((show Tryd.prog.funcNamed "skyway/skywaykeep1.AngleTurned" = some 6 by kernel_rfl).symm.trans hf) |>.symm
      obtain rfl : fn = Tryd.f6 := (Option.some.inj (Tryd.func6.symm.trans hfn)).symm
      exact ⟨by kernel_rfl, fun j t ht => by
        rw [Tryd.params6] at ht
        have hm : t ∈ [28] := by simpa using Array.mem_of_getElem? ht
        have hall : ([28].all fun u => !Tryd.prog.wantsStandIn u) = true := by kernel_rfl
        exact (show Tryd.prog.wantsStandIn t = false by simpa using List.all_eq_true.1 hall t hm)⟩)
    (by kernel_rfl)
#print axioms card
end Go.Proofs.YthpbpdobghceeaaDoor.angleTurned
namespace Go.Proofs.YthpbpdobghceeaaDoor
/-- The card, under a short name, for the claim. -/
theorem angleTurned_holds : Rows.AngleTurnedCardSaid := angleTurned.card
end Go.Proofs.YthpbpdobghceeaaDoor
