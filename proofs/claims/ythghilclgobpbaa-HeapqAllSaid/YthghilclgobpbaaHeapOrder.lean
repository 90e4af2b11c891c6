/- HeapqOrder: what the law's function does. -/
import Derived.Test.YthghilclgobpbaaHeapPopI
import Derived.Test.YthghilclgobpbaaHeapWorks
namespace Go.Proofs.YthghilclgobpbaaH.I
open Go Go.RowKit Go.Proofs.YthghilclgobpbaaH Go.Proofs.YthghilclgobpbaaR Go.Proofs.YthghilclgobpbaaW.PrintWords Go.Proofs.YthghilclgobpbaaW.PrintLast
set_option linter.unusedVariables false
set_option linter.unusedSimpArgs false
attribute [local go_sem ↓] Go.wp_at_zero Go.wp_at_succ
/-- An item that was pushed. -/
def Good (xs : List Int) (y : It V) : Prop := ∃ j, ∃ h : j < xs.length, y = ⟨xs[j], (j : Int), (j : Int)⟩
theorem cell_at {w : World} {A : Option Addr} {xs : List Int} (h : Kd.C (Kd.int .i64) w A xs.length xs) (k : Nat) (hk : k < xs.length) : ∃ ad, A = some ad ∧ w.cell? (ad.add k) = some (.int .i64 xs[k]) := by
  obtain ⟨ad, cs, rfl, hl, hK, hc⟩ := Kd.C_get h 0 (k : Int) (by omega) (by omega)
  refine ⟨ad, rfl, ?_⟩
  have e : cs = [.int .i64 xs[k]] := by
    have := hK
    rw [Int.toNat_natCast, List.getD_eq_getElem?_getD, List.getElem?_eq_getElem hk] at this
    exact this
  have := hc 0 (.int .i64 xs[k]) (by rw [e]; rfl)
  rw [Int.toNat_natCast] at this
  simpa [Kd.int, Kd.scalar] using this
def OrdPost (w : World) (e : Ending) (w' : World) : Prop := e = .returned (.bool true) ∧ Below w.heap.size w w'
set_option maxHeartbeats 16000000 in
set_option maxRecDepth 100000 in
theorem order_any (A : Option Addr) (c : Nat) (l : List Int) (w : World) (hr : Kd.C (Kd.int .i64) w A l.length l) (hl : l.length ≤ c) :
    Calls Try.prog 3 #[.slice A l.length c] w (OrdPost w) := by
  obtain ⟨n, hn⟩ : ∃ n, min l.length 60 = n := ⟨_, rfl⟩
  have hn60 : n ≤ 60 := by omega
  have hnl : n ≤ l.length := by omega
  obtain ⟨xs, hxs⟩ : ∃ xs, l.take n = xs := ⟨_, rfl⟩
  have hxl : xs.length = n := by rw [← hxs, List.length_take]; omega
  have HR : Aside0 (Kd.C (Kd.int .i64) w A xs.length xs) := ⟨by rw [← hxs]; exact Kd.C_take hr hnl⟩
  have hmin : min (l.length : Int) 60 = (n : Int) := by omega
  have hn0 : (0 : Int) ≤ (n : Int) := by omega
  have hnc : (n : Int) ≤ (c : Int) := by omega
  clear hxs hr hnl hn
  go_enter Try.func3, Try.ntmps3
  go_upto_region 1 with fail
  go_cut [0] (fun v0 wc => v0 = .slice A n c ∧ w = wc)
  case first =>
    by_cases h60 : l.length ≤ 60
    · obtain rfl : n = l.length := by omega
      have hz : (l.length : Int) ≤ 60 := by omega
      go_wp2
      go_meet
      exact ⟨by simp, rfl⟩
    · obtain rfl : n = 60 := by omega
      have hz : ¬ (l.length : Int) ≤ 60 := by omega
      go_wp2
      go_meet
      exact ⟨by simp, rfl⟩
  case rest =>
    obtain ⟨rfl, rfl⟩ := hcut
    clear hmin hnc
    go_wp2_with (go_at_call 8; refine (S.works_any _).mono ?_; rintro e w1 ⟨rfl, hb1⟩; have HB1 := Aside0.mk hb1; clear hb1)
    refine (new_any w1).mono ?_
    rintro e w2 ⟨q, rfl, hQ2, hb2, hs2⟩
    have hbb : w.heap.size ≤ w1.heap.size := HB1.out.size
    have HB2 : Aside0 (Below w.heap.size w w2) := ⟨HB1.out.trans (hb2.mono hbb)⟩
    have HBS : Aside0 (w.heap.size ≤ w1.heap.size ∧ w1.heap.size ≤ w2.heap.size) := ⟨hbb, hs2⟩
    have HQ2 := Aside0.mk hQ2
    clear hQ2 hb2 hs2 hbb HB1
    generalize w1.heap.size = base at HBS HQ2
    go_wp2
    go_loopg [25] n (fun gas s25 wr => ∃ (i : Nat) (m : List (It V)), i ≤ n ∧ n - i ≤ gas ∧ s25 = .int .i64 i ∧ m.length = i ∧ Aside0 (Q wr q base m i) ∧ Aside0 (Heap m) ∧ Aside0 (∀ y ∈ m, Good xs y) ∧ Aside0 (Below w.heap.size w wr) ∧ Aside0 (base ≤ wr.heap.size))
    case atStart => exact ⟨0, [], Nat.zero_le _, Nat.le_refl _, rfl, rfl, HQ2, ⟨heap_nil⟩, ⟨fun y h => by simp at h⟩, HB2, ⟨HBS.out.2⟩⟩
    case round =>
      clear HQ2 HB2
      obtain ⟨i, m, hi, hgas, rfl, hmi, HQ, HH, HG, HB, HS⟩ := hrel
      have HMI := Aside0.mk hmi
      clear hmi
      by_cases hlt : i < n
      · obtain ⟨ad, rfl, hcell⟩ := cell_at (Kd.C_below HR.out HB.out) i (by omega)
        have hi0 : (0 : Int) ≤ (i : Int) := by omega
        have hi1 : (i : Int) < (n : Int) := by omega
        have hd : decide (i < n) = true := decide_eq_true hlt
        go_wp2_with fail
        refine (push_any q base m xs[i] i i wr HQ.out HH.out (by have := HMI.out; omega) (by omega) (by omega) HS.out).mono ?_
        rintro e w3 ⟨rfl, m', hQ', hh', hp', hb'⟩
        have hml : m'.length = i + 1 := by rw [hp'.length_eq, List.length_cons, HMI.out]
        have HG' : Aside0 (∀ y ∈ m', Good xs y) := ⟨fun y hy => by
          rcases List.mem_cons.1 (hp'.mem_iff.1 hy) with rfl | h
          · exact ⟨i, by omega, rfl⟩
          · exact HG.out y h⟩
        have HQ' : Aside0 (Q w3 q base m' ((i + 1 : Nat) : Int)) := ⟨hQ'⟩
        have HB' : Aside0 (Below w.heap.size w w3) := ⟨HB.out.trans (hb'.mono HBS.out.1)⟩
        have HS' : Aside0 (base ≤ w3.heap.size) := ⟨Nat.le_trans HS.out hb'.size⟩
        have HH' := Aside0.mk hh'
        have HML := Aside0.mk hml
        clear hQ' hh' hp' hb' hml HQ HH HG HB HS HMI hcell
        go_wp2
        go_roundg (n - (i + 1))
        case measure => omega
        case rel => exact ⟨i + 1, m', by omega, by omega, by go_num, HML.out, HQ', HH', HG', HB', HS'⟩
      · obtain rfl : i = n := by omega
        clear hgas hlt hi
        go_wp2_with (go_at_call 11; refine (len_any q base m _ _ HQ.out).mono ?_; rintro e w' ⟨rfl, rfl⟩; rw [HMI.out])
        go_loopg [6, 7, 42] i (fun gas s6 s7 s42 wr => ∃ (k : Nat) (m : List (It V)) (a b : Int), k ≤ i ∧ i - k ≤ gas ∧ s6 = .int .i64 a ∧ s7 = .int .i64 b ∧ s42 = .int .i64 k ∧ Aside0 (m.length = i - k) ∧ Aside0 (0 < k → ∀ y ∈ m, a < y.p ∨ (a = y.p ∧ b ≤ y.o)) ∧ Aside0 (Q wr q base m i) ∧ Aside0 (Heap m) ∧ Aside0 (∀ y ∈ m, Good xs y) ∧ Aside0 (Below w.heap.size w wr) ∧ Aside0 (base ≤ wr.heap.size))
        case atStart => exact ⟨0, m, 0, -1, Nat.zero_le _, by omega, rfl, rfl, rfl, ⟨by rw [HMI.out]; omega⟩, ⟨fun h => absurd h (by omega)⟩, HQ, HH, HG, HB, HS⟩
        case round =>
          clear HQ HH HG HB HS HMI m
          obtain ⟨k, m, a, b, hk, hgas, rfl, rfl, rfl, HML, HLE, HQ, HH, HG, HB, HS⟩ := hrel
          by_cases hlt : k < i
          · obtain ⟨y, t, rfl⟩ : ∃ y t, m = y :: t := by
              cases m with
              | nil => have := HML.out; simp at this; omega
              | cons y t => exact ⟨y, t, rfl⟩
            obtain ⟨j, hj, rfl⟩ := HG.out y (by simp)
            have HT : Aside0 (t.length ≤ 1000) := ⟨by have := HML.out; rw [List.length_cons] at this; omega⟩
            have hd : decide (k < i) = true := decide_eq_true hlt
            have hki : (k : Int) < (i : Int) := by omega
            have HL : Aside0 (0 < k → a < xs[j] ∨ (a = xs[j] ∧ b ≤ (j : Int))) := ⟨fun h => HLE.out h _ (List.mem_cons_self ..)⟩
            have HLST : Aside0 (∀ z ∈ t, le (⟨xs[j], (j : Int), (j : Int)⟩ : It V) z) := ⟨fun z hz => HH.out.least (by simp) z (List.mem_cons_of_mem _ hz)⟩
            have HJ := Aside0.mk hj
            go_wp2_with fail
            refine (pop_some q base ⟨xs[j], (j : Int), (j : Int)⟩ t i wr HQ.out HH.out HT.out).mono ?_
            rintro e w3 ⟨rfl, m', hQ', hh', hp', hb'⟩
            have hpt : m'.Perm t := (List.perm_cons _).1 hp'.symm
            have HML' : Aside0 (m'.length = i - (k + 1)) := ⟨by have := HML.out; rw [List.length_cons] at this; rw [hpt.length_eq]; omega⟩
            have HG' : Aside0 (∀ y ∈ m', Good xs y) := ⟨fun y hy => HG.out y (List.mem_cons_of_mem _ (hpt.mem_iff.1 hy))⟩
            have HLE' : Aside0 (0 < k + 1 → ∀ y ∈ m', xs[j] < y.p ∨ (xs[j] = y.p ∧ (j : Int) ≤ y.o)) := ⟨fun _ y hy => HLST.out y (hpt.mem_iff.1 hy)⟩
            have HQ' : Aside0 (Q w3 q base m' (i : Int)) := ⟨hQ'⟩
            have HB' : Aside0 (Below w.heap.size w w3) := ⟨HB.out.trans (hb'.mono HBS.out.1)⟩
            have HS' : Aside0 (base ≤ w3.heap.size) := ⟨Nat.le_trans HS.out hb'.size⟩
            have HH' := Aside0.mk hh'
            clear hQ' hh' hp' hb' hpt HQ HH HG HB HS HML HLE HLST HT
            obtain ⟨ad, rfl, hcell⟩ := cell_at (Kd.C_below HR.out HB'.out) j HJ.out
            have hj0 : (0 : Int) ≤ (j : Int) := by omega
            have hjn : j < i := by rw [hxl] at hj; exact hj
            have hj1 : (j : Int) < (i : Int) := by omega
            have hjd : decide ((j : Int) < 0) = false := decide_eq_false (by omega)
            have hjd2 : decide (i ≤ j) = false := decide_eq_false (by omega)
            have hjd3 : decide ((i : Int) ≤ (j : Int)) = false := decide_eq_false (by omega)
            by_cases hk0 : 0 < k
            · have hkd : decide (0 < k) = true := decide_eq_true hk0
              have hkd2 : decide ((0 : Int) < (k : Int)) = true := decide_eq_true (by omega)
              rcases HL.out hk0 with hlt1 | ⟨rfl, hle1⟩
              · have hw1 : decide (xs[j] < a) = false := decide_eq_false (by omega)
                have hw2 : (xs[j] == a) = false := by rw [beq_eq_false_iff_ne]; omega
                have hw3 : decide (xs[j] = a) = false := decide_eq_false (by omega)
                clear hlt1 HL
                go_wp2
                go_roundg (i - (k + 1))
                case measure => omega
                case rel => exact ⟨k + 1, m', xs[j], (j : Int), by omega, by omega, rfl, rfl, by go_num, HML', HLE', HQ', HH', HG', HB', HS'⟩
              · have hw1 : decide ((j : Int) < b) = false := decide_eq_false (by omega)
                clear hle1 HL
                go_wp2
                go_roundg (i - (k + 1))
                case measure => omega
                case rel => exact ⟨k + 1, m', xs[j], (j : Int), by omega, by omega, rfl, rfl, by go_num, HML', HLE', HQ', HH', HG', HB', HS'⟩
            · have hkd : decide (0 < k) = false := decide_eq_false hk0
              have hkd2 : decide ((0 : Int) < (k : Int)) = false := decide_eq_false (by omega)
              clear HL
              go_wp2
              go_roundg (i - (k + 1))
              case measure => omega
              case rel => exact ⟨k + 1, m', xs[j], (j : Int), by omega, by omega, rfl, rfl, by go_num, HML', HLE', HQ', HH', HG', HB', HS'⟩
          · obtain rfl : k = i := by omega
            obtain rfl : m = [] := List.eq_nil_of_length_eq_zero (by rw [HML.out]; omega)
            clear hgas hlt hk
            go_wp2_with (go_at_call 12; refine (pop_none q base _ _ HQ.out).mono ?_; rintro e w' ⟨rfl, rfl⟩)
            go_ret
            exact ⟨by simp, HB.out⟩
end Go.Proofs.YthghilclgobpbaaH.I
