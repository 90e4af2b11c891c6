/- Made by a program of this session (wip/tools/myprint.py, over the kit's printer): that the Go functions answer as the Lean functions printed beside them. -/
import Derived.Test.YthpbpdobghceeaaGreatDoorRows
import Derived.Test.YthpbpdobghceeaaGreatDoorPFlyWindsx
import Derived.Test.YthpbpdobghceeaaGreatDoorPureFlyWinds
import Derived.Test.YthpbpdobghceeaaGreatDoorTOpen
import Derived.WalkKit
import Derived.ProofKit
import Derived.OpenShut
import Derived.ShutString
import Derived.ChangeOld
import Derived.Below
import Derived.SizedLaws
import Derived.Carry
import Derived.Test.YthpbpdobghceeaaGreatDoorCards
import Derived.Test.YthpbpdobghceeaaGreatDoorTie
import Derived.Test.YthpbpdobghceeaaGreatDoorTAngRow
import Derived.SevenTiedAt
/- FlyWinds holds: the printed walk, over its pure statement. -/
namespace Go.Proofs.YthpbpdobghceeaaGreatDoor.flyWinds
open Go.ChangeShapes Go.WideShapes Go.ChangeAt Go.RowKit Go.Proofs.YthpbpdobghceeaaGreatDoorO Go.Proofs.YthpbpdobghceeaaGreatDoorW.PrintWords Go.Proofs.YthpbpdobghceeaaGreatDoor.PFlyWinds
open Go.ChangeMaps (open_string shut_string)
set_option linter.unusedVariables false
theorem opens39 : Opens Tryz.prog k39 39 good39 := (opens_struct Tryz.underlying39 (by kernel_rfl) (opensF_cons (opens_string Tryz.underlying9 (by kernel_rfl)) rfl (opensF_cons (opens_string Tryz.underlying9 (by kernel_rfl)) rfl (opensF_cons (opens_string Tryz.underlying9 (by kernel_rfl)) rfl (opensF_cons (opens_string Tryz.underlying9 (by kernel_rfl)) rfl (opensF_cons (opens_int Tryz.underlying3 (by kernel_rfl)) rfl (opensF_cons (opens_int Tryz.underlying3 (by kernel_rfl)) rfl (opensF_cons (opens_int Tryz.underlying3 (by kernel_rfl)) rfl (opensF_one (opens_slice Tryz.underlying37 (by kernel_rfl) (by kernel_rfl) (opens_string Tryz.underlying9 (by kernel_rfl))) rfl)))))))) (g := fun a => ⟨a.1, a.2.1, a.2.2.1, a.2.2.2.1, a.2.2.2.2.1, a.2.2.2.2.2.1, a.2.2.2.2.2.2.1, a.2.2.2.2.2.2.2⟩) (fun _ => rfl)).good (fun _ h => h)
theorem opens54 : Opens Tryz.prog k54 54 good54 := (opens_struct Tryz.underlying54 (by kernel_rfl) (opensF_cons (opens_int Tryz.underlying3 (by kernel_rfl)) rfl (opensF_one (opens_int Tryz.underlying3 (by kernel_rfl)) rfl)) (g := fun a => ⟨a.1, a.2⟩) (fun _ => rfl)).good (fun _ h => h)
theorem opens84 : Opens Tryz.prog k84 84 good84 := (opens_struct Tryz.underlying84 (by kernel_rfl) (opensF_cons (opens_string Tryz.underlying9 (by kernel_rfl)) rfl (opensF_one opens54 rfl)) (g := fun a => ⟨a.1, a.2⟩) (fun _ => rfl)).good (fun _ h => h)
theorem opens139 : Opens Tryz.prog k139 139 good139 := (opens_struct Tryz.underlying139 (by kernel_rfl) (opensF_cons (opens_string Tryz.underlying9 (by kernel_rfl)) rfl (opensF_one (opens_slice Tryz.underlying37 (by kernel_rfl) (by kernel_rfl) (opens_string Tryz.underlying9 (by kernel_rfl))) rfl)) (g := fun a => ⟨a.1, a.2⟩) (fun _ => rfl)).good (fun _ h => h)
theorem opens43 : Opens Tryz.prog k43 43 good43 := (opens_struct Tryz.underlying43 (by kernel_rfl) (opensF_cons (opens_slice Tryz.underlying40 (by kernel_rfl) (by kernel_rfl) opens84) rfl (opensF_one (opens_slice Tryz.underlying41 (by kernel_rfl) (by kernel_rfl) opens139) rfl)) (g := fun a => ⟨a.1, a.2⟩) (fun _ => rfl)).good (fun _ h => h)
theorem opens45 : Opens Tryz.prog k45 45 good45 := (opens_struct Tryz.underlying45 (by kernel_rfl) (opensF_cons (opens_string Tryz.underlying9 (by kernel_rfl)) rfl (opensF_cons (opens_int Tryz.underlying3 (by kernel_rfl)) rfl (opensF_cons (opens_int Tryz.underlying3 (by kernel_rfl)) rfl (opensF_cons (opens_int Tryz.underlying3 (by kernel_rfl)) rfl (opensF_cons (opens_int Tryz.underlying3 (by kernel_rfl)) rfl (opensF_cons (opens_int Tryz.underlying3 (by kernel_rfl)) rfl (opensF_one (opens_int Tryz.underlying3 (by kernel_rfl)) rfl))))))) (g := fun a => ⟨a.1, a.2.1, a.2.2.1, a.2.2.2.1, a.2.2.2.2.1, a.2.2.2.2.2.1, a.2.2.2.2.2.2⟩) (fun _ => rfl)).good (fun _ h => h)
theorem opens131 : Opens Tryz.prog k131 131 good131 := (opens_struct Tryz.underlying131 (by kernel_rfl) (opensF_cons (opens_int Tryz.underlying3 (by kernel_rfl)) rfl (opensF_cons (opens_int Tryz.underlying3 (by kernel_rfl)) rfl (opensF_cons opens54 rfl (opensF_one (opens_int Tryz.underlying3 (by kernel_rfl)) rfl)))) (g := fun a => ⟨a.1, a.2.1, a.2.2.1, a.2.2.2⟩) (fun _ => rfl)).good (fun _ h => h)
theorem own : ownKnob Tryz.prog.godebug = none := by kernel_rfl
theorem laidOut : laidOutB Tryz.prog = true := by kernel_rfl
set_option maxRecDepth 100000 in
theorem lifted (os : Os) (started : os.Started) (H : Type) (enc : TypeId × Value → H) :
    ReturnsInHanded {} Tryz.checked os 6 .any (fun w args => (Rows.flyWindsSpec.pre enc Tryz.prog Tryz.f6 [] false w args ∧ laidMetH Tryz.prog Ang.laidL w) ∧ sizedMet enc Tryz.prog Tryz.f6 (OpenSpec.ofChange Rows.flyWindsSpec) false w args)
      (Rows.flyWindsSpec.post enc Tryz.prog Tryz.f6 false true false false) := by
  refine returnsInHanded_of_change_and (C := Tryz.checked) (X := fun w _ => laidMetH Tryz.prog Ang.laidL w) (fun _ _ _ hh h => h.of_heap hh) own started (by kernel_rfl) Tryz.func6
    (ChangeSpec.witness_shaped (enc := enc) (C := Tryz.checked) (os := os) (X := fun w _ => laidMetH Tryz.prog Ang.laidL w) false (World.doorLaid Tryz.prog 400 os) #[.agg #[.string ByteArray.empty, .string ByteArray.empty, .string ByteArray.empty, .string ByteArray.empty, .int .i64 0, .int .i64 0, .int .i64 0, .slice none 0 0], .agg #[.slice none 0 0, .slice none 0 0], .agg #[.string ByteArray.empty, .int .i64 0, .int .i64 0, .int .i64 0, .int .i64 0, .int .i64 0, .int .i64 0], .slice none 0 0] 8 rfl (World.shaped_of_RefB (by kernel_rfl) (by kernel_rfl)) (by kernel_rfl) (by kernel_rfl) (by kernel_rfl) (Ang.door_met os _)) ?_
  intro W base args ds gs before hval0 hW hcnd hsz0 hL _
  have hsz : (DataW.weightsEach Tryz.prog (Tryz.f6.params.toList ++ Rows.flyWindsSpec.plain.varTypes Tryz.prog) (ds ++ gs)).all (· ≤ reachBytes) = true := hsz0
  have hval : ∀ (j : Nat) t v, Tryz.f6.params[j]? = some t → args[j]? = some v → Value.okWide Tryz.prog W .any base t v := hval0
  have hW' := hW
  obtain ⟨p, q, hA0, hV, rfl, hfz, hnd⟩ := hW
  have hA : DataW.TrodAll enc Tryz.prog W 0 (fun _ => true) true Tryz.f6.params.toList args.toList ds p := hA0
  rw [Tryz.params6] at hA hval hsz
  obtain ⟨v0, vs0, d0, ds0, p0, q0, hargs, rfl, rfl, h0, r0⟩ := trodAll_cons hA
  obtain ⟨v1, vs1, d1, ds1, p1, q1, rfl, rfl, rfl, h1, r1⟩ := trodAll_cons r0
  obtain ⟨v2, vs2, d2, ds2, p2, q2, rfl, rfl, rfl, h2, r2⟩ := trodAll_cons r1
  obtain ⟨v3, vs3, d3, ds3, p3, q3, rfl, rfl, rfl, h3, r3⟩ := trodAll_cons r2
  obtain ⟨rfl, rfl, rfl⟩ := trodAll_nil r3
  obtain rfl : args = #[v0, v1, v2, v3] := by cases args; simp_all
  obtain ⟨rfl, rfl⟩ := trodVars_none hV
  have k0 := h0
  have lt0 : ∀ x ∈ p0, x.block < W.heap.size := by obtain ⟨m, hm⟩ := k0; exact DataW.trod_lt m _ _ _ hm
  obtain ⟨⟨cs0⟩, rfl, _⟩ := okWide_struct Tryz.underlying39 (hval 0 39 v0 rfl rfl)
  obtain ⟨x0, hk0, hg0⟩ := Opens.arg opens39 hsz (j := 0) (t := 39) rfl rfl h0
  obtain ⟨A0_7, c0_7, e0, hl0_7, hr0_7⟩ := k39_open hk0
  obtain rfl : cs0 = _ := e0
  have k1 := h1
  have lt1 : ∀ x ∈ p1, x.block < W.heap.size := by obtain ⟨m, hm⟩ := k1; exact DataW.trod_lt m _ _ _ hm
  obtain ⟨⟨cs1⟩, rfl, _⟩ := okWide_struct Tryz.underlying43 (hval 1 43 v1 rfl rfl)
  obtain ⟨x1, hk1, hg1⟩ := Opens.arg opens43 hsz (j := 1) (t := 43) rfl rfl h1
  obtain ⟨A1_0, c1_0, A1_1, c1_1, e1, hl1_0, hr1_0, hl1_1, hr1_1⟩ := k43_open hk1
  obtain rfl : cs1 = _ := e1
  have k2 := h2
  have lt2 : ∀ x ∈ p2, x.block < W.heap.size := by obtain ⟨m, hm⟩ := k2; exact DataW.trod_lt m _ _ _ hm
  obtain ⟨⟨cs2⟩, rfl, _⟩ := okWide_struct Tryz.underlying45 (hval 2 45 v2 rfl rfl)
  obtain ⟨x2, hk2, hg2⟩ := Opens.arg opens45 hsz (j := 2) (t := 45) rfl rfl h2
  obtain rfl : cs2 = _ := k45_open hk2
  have k3 := h3
  have lt3 : ∀ x ∈ p3, x.block < W.heap.size := by obtain ⟨m, hm⟩ := k3; exact DataW.trod_lt m _ _ _ hm
  obtain ⟨aa3, len3, cap3, rfl⟩ := okWide_slice Tryz.underlying80 (hval 3 80 v3 rfl rfl)
  obtain ⟨x3, ⟨A3, c3, e3, hl3, hr3⟩, hg3⟩ := Opens.arg (opens_slice Tryz.underlying80 (by kernel_rfl) (by kernel_rfl) opens131) hsz (j := 3) (t := 80) rfl rfl h3
  obtain ⟨rfl, rfl, rfl⟩ : aa3 = A3 ∧ len3 = x3.length ∧ cap3 = c3 := by simpa [Value.cells] using e3
  (try clear hA0); (try clear hval0); (try clear hsz0); (try clear hsz)
  obtain ⟨k, h⟩ := Pure.FlyWinds x0.f0 x0.f1 x0.f2 x0.f3 x0.f4 x0.f5 x0.f6 x0.f7 x1.f0 x1.f1 x2.f0 x2.f1 x2.f2 x2.f3 x2.f4 x2.f5 x2.f6 x3 hg0.1 hg0.2.1 hg0.2.2.1 hg0.2.2.2.1 hg0.2.2.2.2.1 hg0.2.2.2.2.2.1 hg0.2.2.2.2.2.2.1 hg0.2.2.2.2.2.2.2 hg1.1 hg1.2 hg2.1 hg2.2.1 hg2.2.2.1 hg2.2.2.2.1 hg2.2.2.2.2.1 hg2.2.2.2.2.2.1 hg2.2.2.2.2.2.2 hg3
  refine (skywaykeep1_FlyWinds.calls k x0.f0 x0.f1 x0.f2 x0.f3 x0.f4 x0.f5 x0.f6 _ _ x0.f7 _ _ x1.f0 _ _ x1.f1 x2.f0 x2.f1 x2.f2 x2.f3 x2.f4 x2.f5 x2.f6 _ _ x3 true W hr0_7 hl0_7 hr1_0 hl1_0 hr1_1 hl1_1 hr3 hl3 h (Ang.tab_of_laid hL)).mono fun e W' ⟨he, bel0⟩ => ?_
  have bel : Below W.heap.size W W' := bel0
  subst he
  exact ⟨_, rfl, _, _, _, [], _, [], hW', trodAll_mk1 (shut_bool Tryz.underlying4 _), (trodAll_cons_mk (Below.trod laidOut (by kernel_rfl) (of_decide_eq_true (by kernel_rfl)) k0 bel lt0) (trodAll_cons_mk (Below.trod laidOut (by kernel_rfl) (of_decide_eq_true (by kernel_rfl)) k1 bel lt1) (trodAll_cons_mk (Below.trod laidOut (by kernel_rfl) (of_decide_eq_true (by kernel_rfl)) k2 bel lt2) (trodAll_cons_mk (Below.trod laidOut (by kernel_rfl) (of_decide_eq_true (by kernel_rfl)) k3 bel lt3) trodAll_mk0)))), rfl, bel.frame _, fun h => by cases h⟩
theorem row_holds : Rows.FlyWindsSaid :=
  OpenClaim.holds_of_wide 6 Tryz.f6 rfl rfl rfl rfl rfl rfl rfl ⟨rfl, rfl, rfl, rfl, rfl⟩ rfl rfl rfl rfl rfl (by kernel_rfl) Tryz.func6 (by kernel_rfl)
    (of_decide_eq_true (by kernel_rfl)) (by unfold Func.isWrapper; first | (rw [if_pos (by decide +kernel)]; kernel_rfl) | (rw [if_neg (by decide +kernel)]; exact ⟨rfl, rfl⟩))
    (fun os started H enc _ => lifted os started H enc)
theorem card : Rows.FlyWindsCardSaid :=
  Claim7.holds_tied_plain_at .later [] [.data, .data, .data] true (true, "4f3786cffe145d9520fe86357bcb05d54b9248d8178f74690494c15adae5e935") false
    row_holds (fun _ h => by cases h) (by kernel_rfl) (fun _ h => by cases h) flyWinds_row_tie rfl ⟨rfl, rfl⟩ (by kernel_rfl) rfl
    (fun f fn hf hfn => by
      obtain rfl : f = 6 := Option.some.inj ((show Tryz.prog.funcNamed "skyway/skywaykeep1.FlyWinds" = some 6 by kernel_rfl).symm.trans hf) |>.symm
      obtain rfl : fn = Tryz.f6 := (Option.some.inj (Tryz.func6.symm.trans hfn)).symm
      exact ⟨by kernel_rfl, fun j t ht => by
        rw [Tryz.params6] at ht
        have hm : t ∈ [39, 43, 45, 80] := by simpa using Array.mem_of_getElem? ht
        have hall : ([39, 43, 45, 80].all fun u => !Tryz.prog.wantsStandIn u) = true := by kernel_rfl
        exact (show Tryz.prog.wantsStandIn t = false by simpa using List.all_eq_true.1 hall t hm)⟩)
    (by kernel_rfl)
#print axioms card
end Go.Proofs.YthpbpdobghceeaaGreatDoor.flyWinds
namespace Go.Proofs.YthpbpdobghceeaaGreatDoor
/-- The card, under a short name, for the claim. -/
theorem flyWinds_holds : Rows.FlyWindsCardSaid := flyWinds.card
end Go.Proofs.YthpbpdobghceeaaGreatDoor
