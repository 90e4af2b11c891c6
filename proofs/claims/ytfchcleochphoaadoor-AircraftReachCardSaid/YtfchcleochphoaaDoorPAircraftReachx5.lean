/- Made by a program of this session (wip/tools/myprint.py, over the kit's printer): that the Go functions answer as the Lean functions printed beside them. -/
import Derived.Test.YtfchcleochphoaaDoorPAircraftReachx0
import Derived.Test.YtfchcleochphoaaDoorPAircraftReachx1
import Derived.StillTactics
import Derived.Test.YtfchcleochphoaaDoorJoin
import Derived.Test.YtfchcleochphoaaDoorStrTab
import Derived.WalkSpells
namespace Go.Proofs.YtfchcleochphoaaDoor.PAircraftReach
open Go.RowKit Go.Proofs.YtfchcleochphoaaDoorW.PrintWords Go.Proofs.YtfchcleochphoaaDoorW.PrintLast Go.Proofs.YtfchcleochphoaaDoorW.PrintMore
attribute [local go_sem] max2_int min2_int max_two min_two max_three min_three max_four min_four   -- for this text's walks alone
set_option linter.unusedVariables false
set_option linter.unusedSimpArgs false

/-! ### aircraft_Text: function 12 -/
-- IMPORT Test.YtfchcleochphoaaDoorJoin Test.YtfchcleochphoaaDoorStrTab StillTactics WalkSpells
set_option maxHeartbeats 1000000 in
theorem aircraft_Text.classes (w : World) : Calls Tryd.prog 23 #[] w fun e w' => e = .returned (.agg #[.string ⟨#[76, 73, 71, 72, 84]⟩, .string ⟨#[77, 69, 68, 73, 85, 77]⟩, .string ⟨#[72, 69, 65, 86, 89]⟩, .string ⟨#[83, 85, 80, 69, 82]⟩]) ∧ w' = w.alloc (.cells #[.string ⟨#[76, 73, 71, 72, 84]⟩, .string ⟨#[77, 69, 68, 73, 85, 77]⟩, .string ⟨#[72, 69, 65, 86, 89]⟩, .string ⟨#[83, 85, 80, 69, 82]⟩] 51) := by
  go_enter Tryd.func23, Tryd.ntmps23
  go_wp2
  refine bodyPost_ret (results_cell_row rfl _ _ w.heap.size 51 _ (0, 0) _ rfl (blk_new w _) Tryd.underlying51 rfl (by kernel_rfl)) rfl ?_
  exact ⟨rfl, rfl⟩
set_option maxHeartbeats 2000000 in
set_option maxRecDepth 100000 in
theorem aircraft_Text.bad (k : Nat) (nm : ByteArray) (wk ce cl de sl fa e0 : Int) (w : World) (hc : aircraft_Check.f k nm wk ce cl de sl fa = some e0) (he : e0 ≠ 0) :
    Calls Tryd.prog 12 #[.agg #[.string nm, .int .i64 wk, .int .i64 ce, .int .i64 cl, .int .i64 de, .int .i64 sl, .int .i64 fa]] w fun e w' => e = .returned (.tuple #[.string ⟨#[]⟩, .int .i64 e0]) ∧ Below w.heap.size w w' := by
  obtain ⟨W0, hW0⟩ : ∃ W0, w.alloc (.cells #[.string nm, .int .i64 wk, .int .i64 ce, .int .i64 cl, .int .i64 de, .int .i64 sl, .int .i64 fa] 23) = W0 := ⟨_, rfl⟩
  have B0 := Aside0.mk (show Below w.heap.size w W0 by rw [← hW0]; exact below_alloc (Below.refl _ _) _)
  have X0 := Aside0.mk (show W0.heap[w.heap.size]? = some (.cells #[.string nm, .int .i64 wk, .int .i64 ce, .int .i64 cl, .int .i64 de, .int .i64 sl, .int .i64 fa] 23 (0, 0)) by rw [← hW0]; exact blk_new w _)
  have d0 : W0.cell? ⟨w.heap.size, 0, none⟩ = some (.string nm) := (blk_cell X0.out 0).trans rfl
  have d1 : W0.cell? ⟨w.heap.size, 1, none⟩ = some (.int .i64 wk) := (blk_cell X0.out 1).trans rfl
  have d2 : W0.cell? ⟨w.heap.size, 2, none⟩ = some (.int .i64 ce) := (blk_cell X0.out 2).trans rfl
  have d3 : W0.cell? ⟨w.heap.size, 3, none⟩ = some (.int .i64 cl) := (blk_cell X0.out 3).trans rfl
  have d4 : W0.cell? ⟨w.heap.size, 4, none⟩ = some (.int .i64 de) := (blk_cell X0.out 4).trans rfl
  have d5 : W0.cell? ⟨w.heap.size, 5, none⟩ = some (.int .i64 sl) := (blk_cell X0.out 5).trans rfl
  have d6 : W0.cell? ⟨w.heap.size, 6, none⟩ = some (.int .i64 fa) := (blk_cell X0.out 6).trans rfl
  have e1 : (e0 != 0) = true := bne_iff_ne.2 he
  have HC := Aside0.mk hc
  clear hc he
  go_enter Tryd.func12, Tryd.ntmps12
  go_wp2_with (go_at_call 14; with_reducible refine (aircraft_Check.calls k nm wk ce cl de sl fa e0 _ HC.out).mono ?_; rintro e w1 ⟨rfl, hb⟩; have B1 := Aside0.mk (below_step B0.out hb); clear hb)
  go_ret2
  exact ⟨rfl, B1.out⟩
theorem aircraft_Text.info9 : (Tryd.prog.info? 9).map (fun i => (i.zero, i.size, i.bytes)) = some (some (.string ⟨#[]⟩), Kd.string.sz, 16) := by kernel_rfl
/-- The aircraft_Text.words of a type's text. -/
def aircraft_Text.words (nm cls : ByteArray) (l : List Int) : List ByteArray := [nm, cls] ++ l.map Bl.itoaB
theorem aircraft_Text.words_snoc (nm cls : ByteArray) (l : List Int) (n : Int) : aircraft_Text.words nm cls l ++ [Bl.itoaB n] = aircraft_Text.words nm cls (l ++ [n]) := by unfold aircraft_Text.words; rw [List.append_assoc, List.map_append]; rfl
abbrev aircraft_Text.Wf (n : Int) : Prop := -9223372036854775808 ≤ n ∧ n ≤ 9223372036854775807
set_option maxHeartbeats 4000000 in
set_option maxRecDepth 100000 in
theorem aircraft_Text.good (k : Nat) (nm : ByteArray) (wk ce cl de sl fa : Int) (cls : ByteArray) (w : World) (hc : aircraft_Check.f k nm wk ce cl de sl fa = some 0)
    (hi : ∀ w, (Instr.index 51 (.agg #[.string ⟨#[76, 73, 71, 72, 84]⟩, .string ⟨#[77, 69, 68, 73, 85, 77]⟩, .string ⟨#[72, 69, 65, 86, 89]⟩, .string ⟨#[83, 85, 80, 69, 82]⟩]) (.int .i64 wk)).run Tryd.prog w = .ok (.string cls) w)
    (hT : Ang.Tab w) (h2 : aircraft_Text.Wf ce) (h3 : aircraft_Text.Wf cl) (h4 : aircraft_Text.Wf de) (h5 : aircraft_Text.Wf sl) (h6 : aircraft_Text.Wf fa) (hlen : (Lib.join ((aircraft_Text.words nm cls [ce, cl, de, sl, fa]).map (·.data.toList)) [32]).length ≤ 140737488355328) :
    Calls Tryd.prog 12 #[.agg #[.string nm, .int .i64 wk, .int .i64 ce, .int .i64 cl, .int .i64 de, .int .i64 sl, .int .i64 fa]] w fun e w' => e = .returned (.tuple #[.string (Bl.joinB (aircraft_Text.words nm cls [ce, cl, de, sl, fa]) ⟨#[32]⟩), .int .i64 0]) ∧ Below w.heap.size w w' := by
  obtain ⟨W0, hW0⟩ : ∃ W0, w.alloc (.cells #[.string nm, .int .i64 wk, .int .i64 ce, .int .i64 cl, .int .i64 de, .int .i64 sl, .int .i64 fa] 23) = W0 := ⟨_, rfl⟩
  have B0 := Aside0.mk (show Below w.heap.size w W0 by rw [← hW0]; exact below_alloc (Below.refl _ _) _)
  have X0 := Aside0.mk (show W0.heap[w.heap.size]? = some (.cells #[.string nm, .int .i64 wk, .int .i64 ce, .int .i64 cl, .int .i64 de, .int .i64 sl, .int .i64 fa] 23 (0, 0)) by rw [← hW0]; exact blk_new w _)
  have d0 : W0.cell? ⟨w.heap.size, 0, none⟩ = some (.string nm) := (blk_cell X0.out 0).trans rfl
  have d1 : W0.cell? ⟨w.heap.size, 1, none⟩ = some (.int .i64 wk) := (blk_cell X0.out 1).trans rfl
  have d2 : W0.cell? ⟨w.heap.size, 2, none⟩ = some (.int .i64 ce) := (blk_cell X0.out 2).trans rfl
  have d3 : W0.cell? ⟨w.heap.size, 3, none⟩ = some (.int .i64 cl) := (blk_cell X0.out 3).trans rfl
  have d4 : W0.cell? ⟨w.heap.size, 4, none⟩ = some (.int .i64 de) := (blk_cell X0.out 4).trans rfl
  have d5 : W0.cell? ⟨w.heap.size, 5, none⟩ = some (.int .i64 sl) := (blk_cell X0.out 5).trans rfl
  have d6 : W0.cell? ⟨w.heap.size, 6, none⟩ = some (.int .i64 fa) := (blk_cell X0.out 6).trans rfl
  have HC := Aside0.mk hc
  clear hc
  go_enter Tryd.func12, Tryd.ntmps12
  go_wp2_with (go_at_call 14; with_reducible refine (aircraft_Check.calls k nm wk ce cl de sl fa 0 _ HC.out).mono ?_; rintro e w1 ⟨rfl, hb⟩; have B1 := Aside0.mk (below_step B0.out hb); have X1 := Aside0.mk (blk_below X0.out hb); clear hb d0 d1 d2 d3 d4 d5 d6)
  have d0 : w1.cell? ⟨w.heap.size, 0, none⟩ = some (.string nm) := (blk_cell X1.out 0).trans rfl
  have d1 : w1.cell? ⟨w.heap.size, 1, none⟩ = some (.int .i64 wk) := (blk_cell X1.out 1).trans rfl
  have lt1 : w.heap.size < w1.heap.size := blk_lt X1.out
  go_region_held3 (fun w' => w'.cell? ⟨w.heap.size, 0, none⟩ = some (.string nm) ∧ w'.cell? ⟨w.heap.size, 1, none⟩ = some (.int .i64 wk)) (go_keep)
    (first | (go_at_call 23; refine (aircraft_Text.classes _).mono ?_; rintro e w' ⟨rfl, rfl⟩) | fail)
  have HT := Aside0.mk hT
  clear hT hi
  have X2 := Aside0.mk (show ((w1.alloc (.cells #[.string ⟨#[76, 73, 71, 72, 84]⟩, .string ⟨#[77, 69, 68, 73, 85, 77]⟩, .string ⟨#[72, 69, 65, 86, 89]⟩, .string ⟨#[83, 85, 80, 69, 82]⟩] 51)).alloc (.cells #[.string nm, .string cls] 9)).drew.heap[w.heap.size]? = some (.cells #[.string nm, .int .i64 wk, .int .i64 ce, .int .i64 cl, .int .i64 de, .int .i64 sl, .int .i64 fa] 23 (0, 0)) from blk_drew (blk_alloc (blk_alloc X1.out _) _))
  have B2 := Aside0.mk (show Below w.heap.size w ((w1.alloc (.cells #[.string ⟨#[76, 73, 71, 72, 84]⟩, .string ⟨#[77, 69, 68, 73, 85, 77]⟩, .string ⟨#[72, 69, 65, 86, 89]⟩, .string ⟨#[83, 85, 80, 69, 82]⟩] 51)).alloc (.cells #[.string nm, .string cls] 9)).drew from below_drew1 (below_alloc (below_alloc B1.out _) _))
  have R2 := Aside0.mk (Bl.row_new (base := w.heap.size) [nm, cls] (cs := #[.string nm, .string cls]) rfl (by simp) (by simp) (show w.heap.size ≤ w1.heap.size + 1 by omega) (show ((w1.alloc (.cells #[.string ⟨#[76, 73, 71, 72, 84]⟩, .string ⟨#[77, 69, 68, 73, 85, 77]⟩, .string ⟨#[72, 69, 65, 86, 89]⟩, .string ⟨#[83, 85, 80, 69, 82]⟩] 51)).alloc (.cells #[.string nm, .string cls] 9)).drew.heap[w1.heap.size + 1]? = some (.cells #[.string nm, .string cls] 9 (0, 0)) from blk_drew (by have h_ := blk_new (w1.alloc (.cells #[.string ⟨#[76, 73, 71, 72, 84]⟩, .string ⟨#[77, 69, 68, 73, 85, 77]⟩, .string ⟨#[72, 69, 65, 86, 89]⟩, .string ⟨#[83, 85, 80, 69, 82]⟩] 51)) (.cells #[.string nm, .string cls] 9); simpa using h_)))
  clear d0 d1
  rename_i hHeld_
  clear hHeld_
  generalize ((w1.alloc (.cells #[.string ⟨#[76, 73, 71, 72, 84]⟩, .string ⟨#[77, 69, 68, 73, 85, 77]⟩, .string ⟨#[72, 69, 65, 86, 89]⟩, .string ⟨#[83, 85, 80, 69, 82]⟩] 51)).alloc (.cells #[.string nm, .string cls] 9)).drew = w2 at X2 B2 R2 ⊢
  change Aside0 (Kd.R Kd.string 9 w2 w.heap.size (fun _ => True) (.slice (some ⟨w1.heap.size + 1, 0, none⟩) 2 2) (aircraft_Text.words nm cls [])) at R2
  generalize (Value.slice (some ⟨w1.heap.size + 1, 0, none⟩) 2 2) = v2 at R2 ⊢
  clear X1 B1 lt1 X0 B0 hW0
  have d2 : w2.cell? ⟨w.heap.size, 2, none⟩ = some (.int .i64 ce) := (blk_cell X2.out 2).trans rfl
  have d3 : w2.cell? ⟨w.heap.size, 3, none⟩ = some (.int .i64 cl) := (blk_cell X2.out 3).trans rfl
  have d4 : w2.cell? ⟨w.heap.size, 4, none⟩ = some (.int .i64 de) := (blk_cell X2.out 4).trans rfl
  have d5 : w2.cell? ⟨w.heap.size, 5, none⟩ = some (.int .i64 sl) := (blk_cell X2.out 5).trans rfl
  have d6 : w2.cell? ⟨w.heap.size, 6, none⟩ = some (.int .i64 fa) := (blk_cell X2.out 6).trans rfl
  go_wp2
  have BI := Aside0.mk (blk_new w2 (.cells #[.int .i64 ce, .int .i64 cl, .int .i64 de, .int .i64 sl, .int .i64 fa] 3))
  have B3 := Aside0.mk (show Below w.heap.size w (w2.alloc (.cells #[.int .i64 ce, .int .i64 cl, .int .i64 de, .int .i64 sl, .int .i64 fa] 3)) from below_alloc B2.out _)
  have R3 := Aside0.mk (Kd.R_alloc R2.out (.cells #[.int .i64 ce, .int .i64 cl, .int .i64 de, .int .i64 sl, .int .i64 fa] 3))
  generalize w2.alloc (.cells #[.int .i64 ce, .int .i64 cl, .int .i64 de, .int .i64 sl, .int .i64 fa] 3) = w3 at BI B3 R3 ⊢
  generalize w2.heap.size = gi at BI ⊢
  clear X2 B2 R2 d2 d3 d4 d5 d6
  have HLEN := Aside0.mk hlen
  have H2 := Aside0.mk (And.intro h2 (And.intro h3 (And.intro h4 (And.intro h5 h6))))
  clear hlen h2 h3 h4 h5 h6
  go_loopw [5, 32] (fun s5 s32 wr => ∃ kk : Nat, kk ≤ 5 ∧ s32 = .int .i64 kk ∧ Aside0 (Kd.R Kd.string 9 wr w.heap.size (fun _ => True) s5 (aircraft_Text.words nm cls ([ce, cl, de, sl, fa].take kk))) ∧ Aside0 (Below w.heap.size w wr) ∧ Aside0 (wr.heap[gi]? = some (.cells #[.int .i64 ce, .int .i64 cl, .int .i64 de, .int .i64 sl, .int .i64 fa] 3 (0, 0)))) (fun _ i _ => 5 - (RowKit.intOf i).toNat)
  case atStart => exact ⟨0, by decide, rfl, R3, B3, BI⟩
  case round =>
    obtain ⟨kk, hkk, rfl, R4, B4, BI4⟩ := hrel
    clear R3 B3 BI
    by_cases hk5 : kk < 5
    · obtain ⟨n, hn, hw, hnx⟩ : ∃ n, wr.cell? ⟨gi, kk, none⟩ = some (.int .i64 n) ∧ aircraft_Text.Wf n ∧ [ce, cl, de, sl, fa].take (kk + 1) = [ce, cl, de, sl, fa].take kk ++ [n] := by
        obtain ⟨p2, p3, p4, p5, p6⟩ := H2.out
        match kk, hk5 with
        | 0, _ => exact ⟨ce, (blk_cell BI4.out 0).trans rfl, p2, rfl⟩
        | 1, _ => exact ⟨cl, (blk_cell BI4.out 1).trans rfl, p3, rfl⟩
        | 2, _ => exact ⟨de, (blk_cell BI4.out 2).trans rfl, p4, rfl⟩
        | 3, _ => exact ⟨sl, (blk_cell BI4.out 3).trans rfl, p5, rfl⟩
        | 4, _ => exact ⟨fa, (blk_cell BI4.out 4).trans rfl, p6, rfl⟩
      have hlw : (aircraft_Text.words nm cls ([ce, cl, de, sl, fa].take kk)).length ≤ 7 := by unfold aircraft_Text.words; simp; omega
      generalize [ce, cl, de, sl, fa].take kk = pre at R4 hnx hlw
      have HW := Aside0.mk hw
      have HNX := Aside0.mk hnx
      have HLW := Aside0.mk hlw
      clear hw hnx hlw
      go_wp2_with (first
        | (go_at_call 24; with_reducible refine (Bl.itoa_calls n HW.out.1 HW.out.2 _ (HT.out.below B4.out)).mono ?_; rintro e w5 ⟨rfl, hb⟩; have R5 := Aside0.mk (Kd.R_below R4.out hb); have B5 := Aside0.mk (below_step B4.out hb); have BI5 := Aside0.mk (blk_below BI4.out hb); clear hb hn)
        | (at_builtin; refine Kd.R_append Kd.string (w0 := w) w.heap.size rfl (.tmp 36) (.tmp 39) 53 9 (.string ⟨#[]⟩) 16 rfl Tryd.underlying53 aircraft_Text.info9 rfl (by decide) (by decide) u5 (aircraft_Text.words nm cls pre) (Bl.itoaB n) [.string (Bl.itoaB n)] (fun _ => True) (fun _ => False) rfl rfl rfl (fun _ hk => hk.elim) (fun _ _ => trivial) R5.out B5.out B5.out.size (by have := HLW.out; omega) ?_; intro v6 w6 ho hb hg hat; rw [aircraft_Text.words_snoc, ← HNX.out] at ho; have R6 := Aside0.mk ho; have B6 := Aside0.mk hb; have BI6 := Aside0.mk (blk_grown BI5.out hg (Kd.R_ne R5.out BI5.out (by decide))); clear ho hb hg hat))
      exact ⟨⟨kk + 1, by omega, by go_num, R6, B6, BI6⟩, by simp [RowKit.intOf]; omega⟩
    · obtain rfl : kk = 5 := by omega
      have R5 : Aside0 (Kd.R Kd.string 9 wr w.heap.size (fun _ => True) u5 (aircraft_Text.words nm cls [ce, cl, de, sl, fa])) := R4
      have HL : Aside0 ((Lib.join ((aircraft_Text.words nm cls [ce, cl, de, sl, fa]).map (·.data.toList)) (⟨#[32]⟩ : ByteArray).data.toList).length ≤ 140737488355328) := HLEN
      have hn7 : (aircraft_Text.words nm cls [ce, cl, de, sl, fa]).length ≤ 1000000 := by simp [aircraft_Text.words]
      go_wp2_with (go_at_call 25; with_reducible refine (Bl.join_R ⟨#[32]⟩ R5.out HL.out hn7).mono ?_; rintro e w7 ⟨rfl, hb⟩; have B7 := Aside0.mk (below_step B4.out hb); clear hb)
      go_ret2
      exact ⟨rfl, B7.out⟩
def aircraft_Text.cls (i : Int) : ByteArray := if i = 0 then ⟨#[76, 73, 71, 72, 84]⟩ else if i = 1 then ⟨#[77, 69, 68, 73, 85, 77]⟩ else if i = 2 then ⟨#[72, 69, 65, 86, 89]⟩ else ⟨#[83, 85, 80, 69, 82]⟩
def aircraft_Text.fits (nm : ByteArray) (wk ce cl de sl fa : Int) : Bool := decide (0 ≤ wk ∧ wk ≤ 3) && decide (aircraft_Text.Wf ce ∧ aircraft_Text.Wf cl ∧ aircraft_Text.Wf de ∧ aircraft_Text.Wf sl ∧ aircraft_Text.Wf fa) && decide ((Lib.join ((aircraft_Text.words nm (aircraft_Text.cls wk) [ce, cl, de, sl, fa]).map (·.data.toList)) [32]).length ≤ 140737488355328)
/-- The text of a type of aircraft. -/
def aircraft_Text.out (nm : ByteArray) (wk ce cl de sl fa : Int) : ByteArray := Bl.joinB (aircraft_Text.words nm (aircraft_Text.cls wk) [ce, cl, de, sl, fa]) ⟨#[32]⟩
def aircraft_Text.f (k : Nat) (nm : ByteArray) (wk ce cl de sl fa : Int) : Option (ByteArray × Int) := (aircraft_Check.f k nm wk ce cl de sl fa).bind fun e => (if e = 0 then (if aircraft_Text.fits nm wk ce cl de sl fa = true then some (aircraft_Text.out nm wk ce cl de sl fa, 0) else none) else some (⟨#[]⟩, e))
theorem aircraft_Text.mono : ∀ a0 a1 a2 a3 a4 a5 a6 k, LeO (aircraft_Text.f k a0 a1 a2 a3 a4 a5 a6) (aircraft_Text.f (k + 1) a0 a1 a2 a3 a4 a5 a6) := by
  intro a0 a1 a2 a3 a4 a5 a6 k
  unfold aircraft_Text.f
  exact LeO.bind (aircraft_Check.mono _ _ _ _ _ _ _ _) (fun _ => LeO.refl _)
theorem aircraft_Text.calls (k : Nat) (a0_0 : ByteArray) (a0_1 : Int) (a0_2 : Int) (a0_3 : Int) (a0_4 : Int) (a0_5 : Int) (a0_6 : Int) (r1 : ByteArray) (r2 : Int) (w : World) (h : aircraft_Text.f k a0_0 a0_1 a0_2 a0_3 a0_4 a0_5 a0_6 = some (r1, r2)) (hT0 : Ang.Tab w := by exact Ang.Tab.below hT0 (by repeat (first | (with_reducible first | exact HB.out | apply below_alloc | apply pw_below_drewN | apply below_drew1) | exact HB.out | (refine Below.setCell ?_ (by dsimp only; exact Aside0.out (by assumption)) _)))) :
    Calls Tryd.prog 12 #[.agg #[.string a0_0, .int .i64 a0_1, .int .i64 a0_2, .int .i64 a0_3, .int .i64 a0_4, .int .i64 a0_5, .int .i64 a0_6]] w fun e w' => e = .returned (.tuple #[.string r1, .int .i64 r2]) ∧ Below w.heap.size w w' := by
  unfold aircraft_Text.f at h
  obtain ⟨e0, hc, h⟩ := Option.bind_eq_some_iff.1 h
  by_cases c : e0 = 0
  · rw [if_pos c] at h
    by_cases c2 : aircraft_Text.fits a0_0 a0_1 a0_2 a0_3 a0_4 a0_5 a0_6 = true
    · rw [if_pos c2] at h
      obtain ⟨rfl, rfl⟩ := Prod.mk.inj (Option.some.inj h)
      unfold aircraft_Text.fits at c2
      rw [Bool.and_eq_true, Bool.and_eq_true, decide_eq_true_eq, decide_eq_true_eq, decide_eq_true_eq] at c2
      obtain ⟨⟨⟨q1, q2⟩, q3, q4, q5, q6, q7⟩, q8⟩ := c2
      refine aircraft_Text.good k a0_0 a0_1 a0_2 a0_3 a0_4 a0_5 a0_6 (aircraft_Text.cls a0_1) w (c ▸ hc) ?_ hT0 q3 q4 q5 q6 q7 q8
      intro w
      obtain rfl | rfl | rfl | rfl : a0_1 = 0 ∨ a0_1 = 1 ∨ a0_1 = 2 ∨ a0_1 = 3 := by omega
      all_goals kernel_rfl
    · rw [if_neg c2] at h; cases h
  · rw [if_neg c] at h
    obtain ⟨rfl, rfl⟩ := Prod.mk.inj (Option.some.inj h)
    exact aircraft_Text.bad k a0_0 a0_1 a0_2 a0_3 a0_4 a0_5 a0_6 e0 w hc c

end Go.Proofs.YtfchcleochphoaaDoor.PAircraftReach
