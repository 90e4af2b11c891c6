import Derived.Test.YtfchcleochphoaaDoorDig
namespace Go.Proofs.YtfchcleochphoaaDoor.Bl
open Go Go.RowKit Go.Lib Go.Proofs.YtfchcleochphoaaDoorW.PrintWords Go.Proofs.YtfchcleochphoaaDoorW.PrintLast Go.Proofs.YtfchcleochphoaaDoorW.PrintMore
set_option linter.unusedVariables false
set_option linter.unusedSimpArgs false
set_option maxHeartbeats 4000000
set_option maxRecDepth 100000
theorem conv (w : World) : (convert 68 3 (.float .f64 4609434218613702656)).run Tryd.prog w = .ok (.int .i64 1) w := by kernel_rfl
theorem frombits_run (x : Nat) (w : World) : (callFunc 37 #[.int .u64 x]).run Tryd.prog w = .ok (.value (.float .f64 x)) w := by
  have h1 := run_callFunc_extern (P := Tryd.prog) (e := Extern.MathFloatBits.float64frombits) Tryd.func37 (by kernel_rfl) (by kernel_rfl) (by kernel_rfl) (by rfl) #[.int .u64 x] w
  rw [h1]
  rfl
theorem bits_run (w : World) : (callFunc 34 #[.float .f64 (13832806255468478464 : Nat)]).run Tryd.prog w = .ok (.value (.int .u64 13832806255468478464)) w := by
  have h1 := run_callFunc_extern (P := Tryd.prog) (e := Extern.MathFloatBits.float64bits) Tryd.func34 (by kernel_rfl) (by kernel_rfl) (by kernel_rfl) (by rfl) #[.float .f64 (13832806255468478464 : Nat)] w
  rw [h1]
  rfl
theorem fin_one (w : World) : Calls Tryd.prog 31 #[.int .u64 13832806255468478464] w fun e w' => e = .returned (.bool true) ∧ w' = w := by
  have b1 : Go.bits .and .u64 3071 2047 = 1023 := by kernel_rfl
  go_enter Tryd.func31, Tryd.ntmps31
  go_wp2_with fail
  go_ret
  exact ⟨rfl, rfl⟩
theorem abs_one (w : World) : Calls Tryd.prog 36 #[.float .f64 13832806255468478464] w fun e w' => e = .returned (.float .f64 4609434218613702656) ∧ w' = w := by
  have q3 : ∀ w : World, (callFunc 37 #[.int .u64 4609434218613702656]).run Tryd.prog w = .ok (.value (.float .f64 4609434218613702656)) w := frombits_run 4609434218613702656
  have q4 : ∀ w : World, (callFunc 34 #[.float .f64 13832806255468478464]).run Tryd.prog w = .ok (.value (.int .u64 13832806255468478464)) w := bits_run
  have b2 : Go.bits .andNot .u64 13832806255468478464 9223372036854775808 = 4609434218613702656 := by kernel_rfl
  go_enter Tryd.func36, Tryd.ntmps36
  go_wp2_with fail
  go_ret
  exact ⟨rfl, rfl⟩
theorem parts_one (w : World) : Calls Tryd.prog 32 #[.int .u64 13832806255468478464] w fun e w' => e = .returned (.tuple #[.bool true, .int .i64 (-52), .int .u64 6755399441055744]) ∧ w' = w := by
  have b1 : Go.bits .and .u64 3071 2047 = 1023 := by kernel_rfl
  have b3 : Go.bits .and .u64 13832806255468478464 4503599627370495 = 2251799813685248 := by kernel_rfl
  have b4 : Go.bits .or .u64 2251799813685248 4503599627370496 = 6755399441055744 := by kernel_rfl
  go_enter Tryd.func32, Tryd.ntmps32
  go_wp2_with fail
  refine bodyPost_ret (results_tmp3 rfl _ _ _) rfl ⟨rfl, rfl⟩
/-- The rest in block R, the builder behind it. -/
structure St (R b l : Nat) (a : Int) (bs : List UInt8) (w0 w : World) : Prop where
  eq : b = R + 1
  below : Below R w0 w
  rest : w.heap[R]? = some (.cells #[.int .u64 0, .int .u64 (l : Int), .int .i64 a] 73 (0, 0))
  bld : IsBuilderF 78 5 b b (byteCells bs) w
  size : R + 2 ≤ w.heap.size
theorem BuilderAtF_turn {R b : Nat} (hb : b = R + 1) {p : Value} {bs : List Value} {w w' : World} (h : BuilderAtF 78 5 b b p bs w) (t : Turn R w w') : BuilderAtF 78 5 b b p bs w' := by
  obtain ⟨hB, v, hb, hown, hne⟩ := h
  refine ⟨hB, v, (t.same _ (by omega)).trans hb, ?_, hne⟩
  refine hown.kept (row := some R) ⟨t.below.os, t.below.tape, t.below.output, t.below.size, fun k _ hk => t.same k (fun e => hk (by rw [e]))⟩ (Or.inr ?_)
  intro e
  have := (hown.lt R e).1
  omega
section
variable {R b l : Nat} {a : Int} {bs : List UInt8} {w0 w : World}
theorem St.turn (h : St R b l a bs w0 w) {l' : Nat} {a' : Int} {w' : World} (t : Turn R w w') (hr : w'.heap[R]? = some (.cells #[.int .u64 0, .int .u64 (l' : Int), .int .i64 a'] 73 (0, 0))) : St R b l' a' bs w0 w' :=
  ⟨h.eq, h.below.trans t.below, hr, h.bld.elim (fun x => .inl (BuilderAtF_turn h.eq x t)) (fun x => .inr (BuilderAtF_turn h.eq x t)), by rw [t.size]; exact h.size⟩
theorem St.write (h : St R b l a bs w0 w) {bs' : List UInt8} {w' : World} (hb : BuilderAtF 78 5 b b (.pointer (some ⟨b, 0, none⟩)) (byteCells bs') w') (t : Below b w w') : St R b l a bs' w0 w' :=
  have e := h.eq
  ⟨h.eq, h.below.trans (t.mono (by omega)), (t.block R (by omega)).trans h.rest, .inr hb, Nat.le_trans h.size t.size⟩
theorem St.byte (h : St R b l a bs w0 w) (x : UInt8) (hl : bs.length ≤ 1000000) : Calls Tryd.prog 40 #[.pointer (some ⟨b, 0, none⟩), .int .u8 (x.toNat : Int)] w fun e w' => e = .returned .nilIface ∧ St R b l a (bs ++ [x]) w0 w' := by
  have e := h.eq
  have hs := h.size
  refine (writeByte b b (byteCells bs) x.toNat w h.bld (by rw [byteCells_length]; omega) (by omega)).mono ?_
  rintro e w' ⟨rfl, h1, h2⟩
  exact ⟨rfl, h.write (by rw [byteCells_append]; exact h1) h2⟩
theorem St.string (h : St R b l a bs w0 w) (x : List UInt8) (hl : bs.length ≤ 1000000) (hx : x.length ≤ 1000000) : Calls Tryd.prog 39 #[.pointer (some ⟨b, 0, none⟩), .string ⟨x.toArray⟩] w fun e w' => e = .returned (.tuple #[.int .i64 ((ByteArray.mk x.toArray).size : Nat), .nilIface]) ∧ St R b l a (bs ++ x) w0 w' := by
  have e := h.eq
  have hs := h.size
  have hz : (ByteArray.mk x.toArray).size = x.length := by simp [ByteArray.size]
  refine (writeString b b (byteCells bs) ⟨x.toArray⟩ w h.bld (by rw [byteCells_length, hz]; omega) (by omega)).mono ?_
  rintro e w' ⟨rfl, h1, h2⟩
  exact ⟨rfl, h.write (by rw [byteCells_append]; exact h1) h2⟩
theorem St.digit (h : St R b l a bs w0 w) (n : Nat) (ha : a = n) (hl : l < 18446744073709551616) (h0 : 0 < n) (h1 : n < 64) : Calls Tryd.prog 38 #[.pointer (some ⟨R, 0, none⟩)] w fun e w' => e = .returned (.int .i64 ((l / 2 ^ n % 10 : Nat) : Int)) ∧ St R b (l % 2 ^ n) a bs w0 w' := by
  subst ha
  refine (Bl.digit R l n w h.rest hl h0 h1).mono ?_
  rintro e w' ⟨rfl, h1, h2⟩
  exact ⟨rfl, h.turn h1 h2⟩
theorem St.times (h : St R b l a bs w0 w) (hl : l * 5 < 18446744073709551616) (h1 : -1000 < a) (h2 : a < 1000000) : Calls Tryd.prog 41 #[.pointer (some ⟨R, 0, none⟩)] w fun e w' => e = .returned (.tuple #[]) ∧ St R b (l * 5) (a - 1) bs w0 w' := by
  refine (Bl.times R l a w h.rest hl h1 h2).mono ?_
  rintro e w' ⟨rfl, h1, h2⟩
  exact ⟨rfl, h.turn h1 h2⟩
theorem St.str (h : St R b l a bs w0 w) : Calls Tryd.prog 42 #[.pointer (some ⟨b, 0, none⟩)] w fun e w' => e = .returned (.string ⟨bs.toArray⟩) ∧ Below R w0 w' := by
  have e := h.eq
  have hs := h.size
  refine (Tryd.Builder_String_any_k b b bs w h.bld (by omega)).mono ?_
  rintro e w' ⟨rfl, _, h2, _⟩
  exact ⟨rfl, h.below.trans (h2.mono (by omega))⟩
end
theorem text_one (w : World) : Calls Tryd.prog 18 #[.int .u64 13832806255468478464, .int .i64 2] w fun e w' => e = .returned (.tuple #[.string ⟨#[45, 49, 46, 53, 48]⟩, .int .i64 0]) ∧ Below w.heap.size w w' := by
  have q1 := conv
  have q2 : ∀ w : World, (callFunc 37 #[.int .u64 13832806255468478464]).run Tryd.prog w = .ok (.value (.float .f64 13832806255468478464)) w := frombits_run 13832806255468478464
  have q5 : ∀ w : World, (binOp .geq 68 (.float .f64 4609434218613702656) (.float .f64 4845873199050653696)).run Tryd.prog w = .ok (.bool false) w := fun w => by kernel_rfl
  go_enter Tryd.func18, Tryd.ntmps18
  go_wp2_with (first | (go_at_call 31; refine (fin_one _).mono ?_; rintro e w ⟨rfl, rfl⟩) | (go_at_call 36; refine (abs_one _).mono ?_; rintro e w ⟨rfl, rfl⟩) | (go_at_call 32; refine (parts_one _).mono ?_; rintro e w ⟨rfl, rfl⟩) | (go_at_call 38; refine (digit w.heap.size 6755399441055744 52 _ (blk_new w _) (by decide) (by decide) (by decide)).mono ?_; rintro e w2 ⟨rfl, T2, h2⟩; refine Hid.out ?_))
  refine Lib.hid ?_
  have hs2 : w2.heap.size = w.heap.size + 1 := by rw [T2.size]; simp
  have S2 : Aside0 (St w.heap.size w2.heap.size 2251799813685248 52 [] w (w2.alloc (.cells #[.pointer none, .slice none 0 0] 78))) := ⟨⟨hs2, (((Below.refl _ w).alloc (Nat.le_refl _) _).trans T2.below).alloc (by omega) _, blk_alloc h2 _, IsBuilderF.of (fresh_isBuilder 78 5 w2), by simp [hs2]⟩⟩
  obtain ⟨b, hb⟩ : ∃ b, w2.heap.size = b := ⟨_, rfl⟩
  rw [hb] at S2
  have HB := Aside0.mk hb
  clear hs2 h2 T2 hb
  have hI := Tryd.strconv_Itoa_small 1 (by decide)
  rw [show decDigits 1 = [49] by decide +kernel] at hI
  go_wp2_with (first | (go_at_call 24; refine (hI _).mono ?_; rintro e w3 ⟨rfl, rfl⟩) | (go_at_call 39; rw [HB.out]; refine (S2.out.string [49] (by decide) (by decide)).mono ?_; rintro e w4 ⟨rfl, S4⟩; have S5 := Aside0.mk S4; clear S4 S2))
  go_loopg [49] 2 (fun gas s49 wr => (2 ≤ gas ∧ s49 = .int .i64 0 ∧ Aside0 (St w.heap.size b 2251799813685248 52 [49] w wr)) ∨ (1 ≤ gas ∧ s49 = .int .i64 1 ∧ Aside0 (St w.heap.size b 0 51 [49, 46, 53] w wr)) ∨ (s49 = .int .i64 2 ∧ Aside0 (St w.heap.size b 0 50 [49, 46, 53, 48] w wr)))
  case atStart => exact .inl ⟨Nat.le_refl _, rfl, S5⟩
  case round =>
    clear S5
    rcases hrel with ⟨hg, rfl, S⟩ | ⟨hg, rfl, S⟩ | ⟨rfl, S⟩
    · go_wp2_with (first | (go_at_call 40; refine (S.out.byte 46 (by decide)).mono ?_; rintro e w1 ⟨rfl, S1⟩; clear S; have S := Aside0.mk S1; clear S1) | (go_at_call 41; refine Calls.mono (show Calls Tryd.prog 41 _ _ (fun e w' => e = .returned (.tuple #[]) ∧ St w.heap.size b 11258999068426240 51 [49, 46] w w') from S.out.times (by decide) (by decide) (by decide)) ?_; rintro e w1 ⟨rfl, S1⟩; clear S; have S := Aside0.mk S1; clear S1) | (go_at_call 38; refine Calls.mono (show Calls Tryd.prog 38 _ _ (fun e w' => e = .returned (.int .i64 5) ∧ St w.heap.size b 0 51 [49, 46] w w') from S.out.digit 51 rfl (by decide) (by decide) (by decide)) ?_; rintro e w1 ⟨rfl, S1⟩; clear S; have S := Aside0.mk S1; clear S1; refine Hid.out ?_))
      refine Lib.hid ?_
      go_wp2_with (go_at_call 40; refine (S.out.byte 53 (by decide)).mono ?_; rintro e w1 ⟨rfl, S1⟩; clear S; have S := Aside0.mk S1; clear S1)
      go_roundg 1
      case measure => omega
      case rel => exact .inr (.inl ⟨Nat.le_refl _, rfl, S⟩)
    · go_wp2_with (first | (go_at_call 41; refine Calls.mono (show Calls Tryd.prog 41 _ _ (fun e w' => e = .returned (.tuple #[]) ∧ St w.heap.size b 0 50 [49, 46, 53] w w') from S.out.times (by decide) (by decide) (by decide)) ?_; rintro e w1 ⟨rfl, S1⟩; clear S; have S := Aside0.mk S1; clear S1) | (go_at_call 38; refine Calls.mono (show Calls Tryd.prog 38 _ _ (fun e w' => e = .returned (.int .i64 0) ∧ St w.heap.size b 0 50 [49, 46, 53] w w') from S.out.digit 50 rfl (by decide) (by decide) (by decide)) ?_; rintro e w1 ⟨rfl, S1⟩; clear S; have S := Aside0.mk S1; clear S1; refine Hid.out ?_))
      refine Lib.hid ?_
      go_wp2_with (go_at_call 40; refine (S.out.byte 48 (by decide)).mono ?_; rintro e w1 ⟨rfl, S1⟩; clear S; have S := Aside0.mk S1; clear S1)
      go_roundg 0
      case measure => omega
      case rel => exact .inr (.inr ⟨rfl, S⟩)
    · have hT : ∀ w : World, Calls Tryd.prog 43 #[.string ⟨#[49, 46, 53, 48]⟩, .string ⟨#[48, 46]⟩] w fun e w' => e = .returned (.string ⟨#[49, 46, 53]⟩) ∧ Below w.heap.size w w' := fun w => by
        have h := Any.strings_Trim_laid Tryd.lays160 (by kernel_rfl) ⟨#[49, 46, 53, 48]⟩ ⟨#[48, 46]⟩ w (by decide) (by decide) (ascii_of_all (by decide))
        have e : Lib.trimS [49, 46, 53, 48] [48, 46] = [49, 46, 53] := by decide +kernel
        rw [e] at h
        exact h
      have hs := S.out.str
      go_wp2_with (first | (go_at_call 42; refine hs.mono ?_; rintro e w1 ⟨rfl, B1⟩; have BB := Aside0.mk B1; clear B1 hs S) | (go_at_call 43; refine (hT _).mono ?_; rintro e w2 ⟨rfl, B2⟩; have BC := Aside0.mk (below_step BB.out B2); clear B2))
      go_ret2
      exact ⟨rfl, BC.out⟩
end Go.Proofs.YtfchcleochphoaaDoor.Bl
