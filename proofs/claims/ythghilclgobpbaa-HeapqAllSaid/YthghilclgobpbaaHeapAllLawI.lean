/- HeapqAll: what the law's function does. -/
import Derived.Test.YthghilclgobpbaaHeapAll1I
import Derived.Test.YthghilclgobpbaaHeapOrder
import Derived.Test.YthghilclgobpbaaHeapPopXI
import Derived.Deep.QuietTactic
import Derived.Deep.CutRange
import Derived.BigQuiet
namespace Go.Proofs.YthghilclgobpbaaH.I
open Go Go.RowKit Go.Shelf Go.Proofs.YthghilclgobpbaaH Go.Proofs.YthghilclgobpbaaR Go.Proofs.YthghilclgobpbaaW.PrintWords Go.Proofs.YthghilclgobpbaaW.PrintLast
set_option linter.unusedVariables false
set_option linter.unusedSimpArgs false
attribute [local go_sem ↓] Go.wp_at_zero Go.wp_at_succ
attribute [local go_sem] Oper.semAt_some
theorem KpS.put {B8 : Nat} {w : World} (h8 : B8 < w.heap.size) (W : World) (l : Nat) (o o' : Obj) (hl : w.heap.size ≤ l) (ho : W.heap[l]? = some o) (hc : o.isCells = false) : KpS B8 W (W.putObj l o') := by
  have hg := grownBy_putObj' W l o'
  have hlt : l < W.heap.size := (Array.getElem?_eq_some_iff.1 ho).1
  refine ⟨hg.size, fun k ok hk hn hok hcc => ?_⟩
  have hne : k ≠ l := by rintro rfl; rw [ho] at hok; cases hok; rw [hc] at hcc; cases hcc
  refine ⟨(hg.block k hk (fun e => hne (by injection e))).trans hok, ?_⟩
  rintro (h | ⟨g, n, c, h1, h2⟩)
  · exact hn (.inl h)
  · exact hn (.inr ⟨g, n, c, (hg.block B8 (by omega) (fun e => by injection e; omega)).symm.trans h1, h2⟩)
theorem wpListIn_append_lies {F : Fence} {n : Nat} {P : Program} (w : World) {ops : Array Oper} {rest : List Oper} {o : Oper} {a : Act} {Q : Exit → Act → World → Prop}
    (hg : o.guard = none) (s x : Operand) (t : TypeId) (hop : o.op = Op.call { callee := Callee.builtin Builtin.append, args := #[s, x], argTypes := #[t, t] })
    (base : Nat) (e : TypeId) (i : TypeInfo) (z : Value) (size bytes : Nat) (ht : P.underlying t = some (.slice e)) (hi : P.info? e = some i) (hz : i.zero = some z) (hsize : i.size = size) (hby : i.bytes = bytes) (hzs : z.cells.size = size) (hsz : 0 < size)
    (v : Value) (k : Nat) (xs : List Value) (hs : a.eval s = v) (hown : w.ownsRow base e size v k xs) (ad : Addr) (m c : Nat) (news : List Value) (hx : a.eval x = .slice (some ad) m c) (hl : news.length = m * size)
    (hnews : ∀ j u, news[j]? = some u → w.cell? (ad.add j) = some u) (h1 : ∀ u ∈ news, u.oneCell' = true) (hm : 0 < m) (h63 : k + m ≤ maxLen) (hbytes : (k + m) * bytes ≤ 140737488355328) (hbase : base ≤ w.heap.size) (H : Nat) (hH : w.heap.size = H)
    (hK : ∀ g cap w', w'.ownsRow base e size (.slice (some ⟨g, 0, none⟩) (k + m) cap) (k + m) (xs ++ news) → w.grownBy w' v.ownBlock → (v.ownBlock = some g ∨ g = H) → g < w'.heap.size → wpListIn F n P ops Q rest (a.put o.dst (.slice (some ⟨g, 0, none⟩) (k + m) cap)) w') :
    wpListIn F n P ops Q (o :: rest) a w := by
  refine wpListIn_plain hg fun K hK' => ?_
  obtain ⟨g, cap, w', hrun, r1, r2, r3, r4⟩ := run_append_lies (P := P) w t o.type base e i z size bytes ht hi hz hsize hby hzs hsz v k xs hown ad m c news hl hnews h1 hm h63 hbytes hbase H hH
  unfold Oper.wpIn
  refine ⟨?_, ?_⟩
  · simp [Oper.about, hop, resolve, Target.leads, Sem.run_pure]
  · rw [Oper.semAt_plain F _ _ (by rw [hop]; intro c hc'; cases hc')]
    simp [execOp, hop, resolve, invoke, builtin, hs, hx, hrun, Result.andThen]
    exact hK' _ _ (hK g cap w' r1 r2 r3 r4)
theorem infoInt : (Try.prog.info? 3).map (fun i => (i.zero, i.size, i.bytes)) = some (some (.int .i64 0), 1, 8) := by kernel_rfl
theorem own_cells {w : World} {base e size n k : Nat} {v : Value} {xs : List Value} {o : Obj} (h : w.ownsRow base e size v n xs) (hk : v.ownBlock = some k) (ho : w.heap[k]? = some o) : o.isCells = true := by
  rcases h.2 with ⟨rfl, _⟩ | ⟨g, cap, cur, rfl, _, hb, _⟩
  · simp [Value.ownBlock] at hk
  · obtain rfl : g = k := by simpa [Value.ownBlock] using hk
    rw [hb] at ho
    cases ho
    rfl
theorem own_form {w : World} {base e size n k : Nat} {v : Value} {xs : List Value} (h : w.ownsRow base e size v n xs) (hk : v.ownBlock = some k) : ∃ n c, v = .slice (some ⟨k, 0, none⟩) n c := by
  rcases h.2 with ⟨rfl, _⟩ | ⟨g, cap, cur, rfl, _, hb, _⟩
  · simp [Value.ownBlock] at hk
  · obtain rfl : g = k := by simpa [Value.ownBlock] using hk
    exact ⟨_, _, rfl⟩
theorem row_form {w : World} {base e size n : Nat} {v : Value} {xs : List Value} (h : w.ownsRow base e size v n xs) : ∃ A c, v = .slice A n c ∧ n ≤ c := by
  rcases h.2 with ⟨rfl, rfl⟩ | ⟨g, cap, cur, rfl, _, hb, hc, _⟩
  · exact ⟨none, 0, rfl, Nat.le_refl _⟩
  · exact ⟨_, _, rfl, hc⟩
/-- The numbers that were seen, where they lie. -/
def Seen (W : World) (B4 : Nat) (A2 : Option Addr) (l : List (It V)) : Prop := l = [] ∨ ∃ g cur t, A2 = some ⟨g, 0, none⟩ ∧ B4 ≤ g ∧ W.heap[g]? = some (.cells cur t (0, 0)) ∧ ∀ i (h : i < l.length), cur[2 * i]? = some (.int .i64 l[i].p) ∧ cur[2 * i + 1]? = some (.int .i64 l[i].v)
def onlyNormal (Q : Exit → Act → World → Prop) : Exit → Act → World → Prop
  | .normal, a, w => Q .normal a w
  | _, _, _ => False
theorem onlyNormal_le (Q : Exit → Act → World → Prop) : ∀ e a w, onlyNormal Q e a w → Q e a w := by
  intro e a w h
  cases e <;> first | exact h | exact False.elim h
def ints {m : List (It V)} (pre : List { x : It V // x ∈ m }) : List Value := pre.flatMap fun x => [.int .i64 x.1.p, .int .i64 x.1.v]
/-- The first of a heap is the first of its items, sorted. -/
theorem head_eq {xs : List Int} {mj : List (It V)} {z : It V} {r : List (It V)} (hh : Heap mj) (hp : mj.Perm (z :: r)) (hs : (z :: r).Pairwise le) (hG : ∀ y ∈ z :: r, Good xs y) : ∃ t, mj = z :: t := by
  cases mj with
  | nil => have := hp.length_eq; simp at this
  | cons y t =>
    refine ⟨t, ?_⟩
    have h1 : le y z := hh.least (by simp) z (hp.mem_iff.2 (by simp))
    have hy : y ∈ z :: r := hp.mem_iff.1 (by simp)
    have h2 : le z y := by
      rcases List.mem_cons.1 hy with rfl | h
      · exact le_refl _
      · exact (List.pairwise_cons.1 hs).1 y h
    obtain ⟨a, ha, rfl⟩ := hG y hy
    obtain ⟨b, hb, rfl⟩ := hG z (by simp)
    unfold le at h1 h2
    dsimp only at h1 h2
    have : a = b := by omega
    subst this
    rfl
theorem ints_length {m : List (It V)} (pre : List { x : It V // x ∈ m }) : (ints pre).length = 2 * pre.length := by
  unfold ints
  induction pre with
  | nil => rfl
  | cons x l ih => rw [List.flatMap_cons, List.length_append, ih]; simp; omega
theorem ints_get {m : List (It V)} (pre : List { x : It V // x ∈ m }) : ∀ i (h : i < pre.length), (ints pre)[2 * i]? = some (.int .i64 pre[i].1.p) ∧ (ints pre)[2 * i + 1]? = some (.int .i64 pre[i].1.v) := by
  unfold ints
  induction pre with
  | nil => intro i h; simp at h
  | cons y l ih =>
    intro i h
    rw [List.flatMap_cons]
    cases i with
    | zero => exact ⟨rfl, rfl⟩
    | succ i =>
      obtain ⟨h1, h2⟩ := ih i (by simpa using h)
      refine ⟨?_, ?_⟩
      · rw [List.getElem?_append_right (by simp; omega), show 2 * (i + 1) - [Value.int .i64 y.1.p, Value.int .i64 y.1.v].length = 2 * i by simp; omega]; exact h1
      · rw [List.getElem?_append_right (by simp; omega), show 2 * (i + 1) + 1 - [Value.int .i64 y.1.p, Value.int .i64 y.1.v].length = 2 * i + 1 by simp; omega]; exact h2
theorem seen_of {W : World} {B4 : Nat} {A2 : Option Addr} {c2 : Nat} {m : List (It V)} {zs : List { x : It V // x ∈ m }} {sl : List (It V)} (h : W.ownsRow B4 3 1 (.slice A2 (2 * zs.length) c2) (2 * zs.length) (ints zs)) (hs : sl = zs.map (·.1)) (hn : True) : Seen W B4 A2 sl := by
  rcases h.2 with ⟨h1, h2⟩ | ⟨g, cap, cur, h1, hb, h2, h3, h4, h5, h6⟩
  · left
    have : zs = [] := List.eq_nil_of_length_eq_zero (by omega)
    rw [hs, this]; rfl
  · right
    refine ⟨g, cur, _, by simp at h1; exact h1.1, hb, h2, fun i hi => ?_⟩
    subst hs
    rw [List.length_map] at hi
    obtain ⟨a1, a2⟩ := ints_get zs i hi
    have key : ∀ t, t < 2 * zs.length → cur[t]? = (ints zs)[t]? := fun t ht => by rw [← h6, List.getElem?_take_of_lt (by omega), Array.getElem?_toList]
    rw [List.getElem_map]
    exact ⟨(key _ (by omega)).trans a1, (key _ (by omega)).trans a2⟩
set_option maxHeartbeats 16000000 in
set_option maxRecDepth 100000 in
theorem all_any (A : Option Addr) (c : Nat) (l : List Int) (pops : Int) (w : World) (hr : Kd.C (Kd.int .i64) w A l.length l) (hl : l.length ≤ c) :
    Calls Try.prog 4 #[.slice A l.length c, .int .i64 pops] w (OrdPost w) := by
  obtain ⟨n, hn⟩ : ∃ n, min l.length 40 = n := ⟨_, rfl⟩
  have hn60 : n ≤ 40 := by omega
  have hnl : n ≤ l.length := by omega
  obtain ⟨xs, hxs⟩ : ∃ xs, l.take n = xs := ⟨_, rfl⟩
  have hxl : xs.length = n := by rw [← hxs, List.length_take]; omega
  have HR : Aside0 (Kd.C (Kd.int .i64) w A xs.length xs) := ⟨by rw [← hxs]; exact Kd.C_take hr hnl⟩
  have hmin : min (l.length : Int) 40 = (n : Int) := by omega
  have hn0 : (0 : Int) ≤ (n : Int) := by omega
  have hnc : (n : Int) ≤ (c : Int) := by omega
  clear hxs hr hnl hn
  refine (callsIn_wide (n := 6)).1 (callsIn_of_wp_marks Try.func4 rfl trivial ?_ rfl)
  simp only [Try.ntmps4, List.size_toArray, List.length_cons, List.length_nil, Nat.reduceAdd, Nat.reduceSub, Array.replicate_succ, Array.replicate_zero, List.push_toArray, List.append_toArray, List.nil_append, List.cons_append]
  refine wpIn_wide.2 ?_
  go_upto_region 1 with fail
  go_cut [0] from 18 to 22 (fun v0 wc => v0 = .slice A n c ∧ w = wc)
  case first =>
    by_cases h60 : l.length ≤ 40
    · obtain rfl : n = l.length := by omega
      have hz : (l.length : Int) ≤ 40 := by omega
      go_wp2
      go_meet
      exact ⟨by simp, rfl⟩
    · obtain rfl : n = 40 := by omega
      have hz : ¬ (l.length : Int) ≤ 40 := by omega
      go_wp2
      go_meet
      exact ⟨by simp, rfl⟩
  case rest =>
    obtain ⟨rfl, rfl⟩ := hcut
    clear hmin hnc
    go_wp2_with (go_at_call 8; refine (S.works_any _).mono ?_; rintro e w1 ⟨rfl, hb1⟩; have HB1 := Aside0.mk hb1; clear hb1)
    refine (new_any w1).mono ?_
    rintro e w2 ⟨q, rfl, hQ2, hb2, hs2⟩
    have hbb : w.heap.size ≤ w1.heap.size := HB1.out.size
    have HB2 : Aside0 (Below w.heap.size w w2) := ⟨HB1.out.trans (hb2.mono hbb)⟩
    have HBS : Aside0 (w.heap.size ≤ w1.heap.size ∧ w1.heap.size ≤ w2.heap.size) := ⟨hbb, hs2⟩
    have HQ2 := Aside0.mk hQ2
    clear hQ2 hb2 hs2 hbb HB1
    generalize w1.heap.size = base at HBS HQ2
    go_wp2
    go_loopg [28] n (fun gas s25 wr => ∃ (i : Nat) (m : List (It V)), i ≤ n ∧ n - i ≤ gas ∧ s25 = .int .i64 i ∧ m.length = i ∧ Aside0 (Q wr q base m i) ∧ Aside0 (Heap m) ∧ Aside0 (∀ y ∈ m, Good xs y) ∧ Aside0 (Below w.heap.size w wr) ∧ Aside0 (base ≤ wr.heap.size))
    case atStart => exact ⟨0, [], Nat.zero_le _, Nat.le_refl _, rfl, rfl, HQ2, ⟨heap_nil⟩, ⟨fun y h => by simp at h⟩, HB2, ⟨HBS.out.2⟩⟩
    case round =>
      clear HQ2 HB2
      obtain ⟨i, m, hi, hgas, rfl, hmi, HQ, HH, HG, HB, HS⟩ := hrel
      have HMI := Aside0.mk hmi
      clear hmi
      by_cases hlt : i < n
      · obtain ⟨ad, rfl, hcell⟩ := cell_at (Kd.C_below HR.out HB.out) i (by omega)
        have hi0 : (0 : Int) ≤ (i : Int) := by omega
        have hi1 : (i : Int) < (n : Int) := by omega
        have hd : decide (i < n) = true := decide_eq_true hlt
        go_wp2_with fail
        refine (push_any q base m xs[i] i i wr HQ.out HH.out (by have := HMI.out; omega) (by omega) (by omega) HS.out).mono ?_
        rintro e w3 ⟨rfl, m', hQ', hh', hp', hb'⟩
        have hml : m'.length = i + 1 := by rw [hp'.length_eq, List.length_cons, HMI.out]
        have HG' : Aside0 (∀ y ∈ m', Good xs y) := ⟨fun y hy => by
          rcases List.mem_cons.1 (hp'.mem_iff.1 hy) with rfl | h
          · exact ⟨i, by omega, rfl⟩
          · exact HG.out y h⟩
        have HQ' : Aside0 (Q w3 q base m' ((i + 1 : Nat) : Int)) := ⟨hQ'⟩
        have HB' : Aside0 (Below w.heap.size w w3) := ⟨HB.out.trans (hb'.mono HBS.out.1)⟩
        have HS' : Aside0 (base ≤ w3.heap.size) := ⟨Nat.le_trans HS.out hb'.size⟩
        have HH' := Aside0.mk hh'
        have HML := Aside0.mk hml
        clear hQ' hh' hp' hb' hml HQ HH HG HB HS HMI hcell
        go_wp2
        go_roundg (n - (i + 1))
        case measure => omega
        case rel => exact ⟨i + 1, m', by omega, by omega, by go_num, HML.out, HQ', HH', HG', HB', HS'⟩
      · obtain rfl : i = n := by omega
        clear hgas hlt hi
        go_wp2_with fail
        obtain ⟨K, hK10, hK⟩ : ∃ K : Nat, K < 10 ∧ ((wrap64 (pops.tmod 10 + 10)).tmod 10) = (K : Int) := by
          have h1 : -10 < pops.tmod 10 := Int.lt_tmod_of_pos _ (by omega)
          have h2 : pops.tmod 10 < 10 := Int.tmod_lt_of_pos _ (by omega)
          have h3 : wrap64 (pops.tmod 10 + 10) = pops.tmod 10 + 10 := by unfold wrap64; omega
          rw [h3]
          have h4 : (pops.tmod 10 + 10).tmod 10 < 10 := Int.tmod_lt_of_pos _ (by omega)
          have h5 : 0 ≤ (pops.tmod 10 + 10).tmod 10 := Int.tmod_nonneg _ (by omega)
          exact ⟨((pops.tmod 10 + 10).tmod 10).toNat, by omega, (Int.toNat_of_nonneg h5).symm⟩
        rw [hK]
        have hmi : m.length ≤ 40 := by rw [HMI.out]; exact hn60
        generalize hordi : (i : Int) = ordi at HQ
        have HORD := Aside0.mk hordi
        clear hK HMI hordi
        go_loopg [42] K (fun gas s wr => ∃ (k : Nat) (m : List (It V)), k ≤ K ∧ K - k ≤ gas ∧ s = .int .i64 k ∧ Aside0 (m.length ≤ 40) ∧ Aside0 (Q wr q base m ordi) ∧ Aside0 (Heap m) ∧ Aside0 (∀ y ∈ m, Good xs y) ∧ Aside0 (Below w.heap.size w wr) ∧ Aside0 (base ≤ wr.heap.size))
        case atStart => exact ⟨0, m, Nat.zero_le _, Nat.le_refl _, rfl, ⟨hmi⟩, HQ, HH, HG, HB, HS⟩
        case round =>
          clear HQ HH HG HB HS hmi m
          obtain ⟨k, m, hk, hgas, rfl, HML, HQ, HH, HG, HB, HS⟩ := hrel
          by_cases hlt : k < K
          · have hd : decide (k < K) = true := decide_eq_true hlt
            have hki : (k : Int) < (K : Int) := by omega
            cases m with
            | nil =>
              go_wp2_with (go_at_call 12; refine (pop_none q base _ _ HQ.out).mono ?_; rintro e w' ⟨rfl, rfl⟩)
              go_roundg (K - (k + 1))
              case measure => omega
              case rel => exact ⟨k + 1, [], by omega, by omega, by go_num, ⟨by simp⟩, HQ, HH, HG, HB, HS⟩
            | cons y t =>
              have HT : Aside0 (t.length ≤ 1000) := ⟨by have := HML.out; rw [List.length_cons] at this; omega⟩
              go_wp2_with fail
              refine (pop_some q base y t _ wr HQ.out HH.out HT.out).mono ?_
              rintro e w3 ⟨rfl, m', hQ', hh', hp', hb'⟩
              have hpt : m'.Perm t := (List.perm_cons _).1 hp'.symm
              have HML' : Aside0 (m'.length ≤ 40) := ⟨by have := HML.out; rw [List.length_cons] at this; rw [hpt.length_eq]; omega⟩
              have HG' : Aside0 (∀ y ∈ m', Good xs y) := ⟨fun z hz => HG.out z (List.mem_cons_of_mem _ (hpt.mem_iff.1 hz))⟩
              have HQ' : Aside0 (Q w3 q base m' ordi) := ⟨hQ'⟩
              have HB' : Aside0 (Below w.heap.size w w3) := ⟨HB.out.trans (hb'.mono HBS.out.1)⟩
              have HS' : Aside0 (base ≤ w3.heap.size) := ⟨Nat.le_trans HS.out hb'.size⟩
              have HH' := Aside0.mk hh'
              clear hQ' hh' hp' hb' hpt HQ HH HG HB HS HML HT
              go_wp2
              go_roundg (K - (k + 1))
              case measure => omega
              case rel => exact ⟨k + 1, m', by omega, by omega, by go_num, HML', HQ', HH', HG', HB', HS'⟩
          · obtain rfl : k = K := by omega
            clear hgas hlt hk
            go_wp2_with (go_at_call 13; refine (all_made q _).mono ?_; rintro e_ w4 ⟨rfl, rfl⟩)
            obtain ⟨S, hQs, hS⟩ := HQ.out.blocks
            obtain ⟨W4, hW4⟩ : ∃ W4, (wr.alloc (.cells #[.slice none 0 0] 22)).alloc (.cells #[.pointer (some ⟨q, 0, none⟩)] 24) = W4 := ⟨_, rfl⟩
            rw [hW4]
            have hsz : W4.heap.size = wr.heap.size + 1 + 1 := by rw [← hW4]; simp
            have hB4 : Below wr.heap.size wr W4 := by rw [← hW4]; exact below_alloc (below_alloc (Below.refl _ _) _) _
            have hx1 : Boxed W4 wr.heap.size 22 (.slice none 0 0) := by rw [← hW4]; exact (Boxed.new wr _ _).alloc _
            have hx2 : Boxed W4 (wr.heap.size + 1) 24 (.pointer (some ⟨q, 0, none⟩)) := by
              rw [← hW4]
              have := Boxed.new (wr.alloc (.cells #[.slice none 0 0] 22)) 24 (.pointer (some ⟨q, 0, none⟩))
              simpa using this
            have hQ4 := HQ.out.below hB4
            have HSZ := Aside0.mk hsz
            have HB4 := Aside0.mk hB4
            have HX1 := Aside0.mk hx1
            have HQS := Aside0.mk hQs
            have HSS := Aside0.mk hS
            have hml := HML.out
            clear hW4 hsz hB4 HQ hQs hS
            refine (fun (K : ∀ a, a = _ → Code.wp Try.prog _ _ a W4) => K _ rfl) ?_
            intro a ha
            refine (wpIn_wide (n := 6)).1 ?_
            refine wpIn_rangeFunc_ownH rfl (by decide) (gf := 29) (lb := #[.pointer (some ⟨wr.heap.size + 1, 0, none⟩)]) (by rw [ha]; simp [go_sem]) trivial (enters_of Try.func29 (by kernel_rfl) rfl)
              (all_stops 5 (by decide) (wr.heap.size + 1) q base wr.heap.size m ordi W4 hQ4 (by omega) hx2 hx1)
              KpS.trans (fun W l o o' hl ho hc hw => KpS.put (by have := HSZ.out; omega) W l o o' hl ho hc)
              (Below.refl _ _) (fun _ => rfl)
              (fun pre W => (∃ v, Boxed W wr.heap.size 22 v ∧ W.ownsRow W4.heap.size 3 1 v (2 * pre.length) (ints pre) ∧ True) ∧ Below wr.heap.size wr W ∧ W4.heap.size ≤ W.heap.size)
              (fun c pre W => False)
              (OwnFrom.and (Own.from (holdsRow_own _ _ _ _ _ (fun pre => 2 * pre.length) ints (fun _ _ => True)) _) (OwnFrom.and (ownFrom_below (Nat.le_refl _) (by have := HSZ.out; omega)) (fun s X Y row hs hg hr => Nat.le_trans hs hg.size)))
              (fun c => ownFrom_pure _ _)
              ⟨⟨_, hx1, World.ownsRow_nil _ _ _ _, trivial⟩, HB4.out, Nat.le_refl _⟩
              (fun x a' W => a' = { tmps := ((a.tmps.setIfInBounds 49 (.int .i64 x.1.p)).setIfInBounds 50 (.int .i64 x.1.v)).setIfInBounds 9 (.int .i64 x.1.p) |>.setIfInBounds 10 (.int .i64 x.1.v), defers := [] })
              ?hAx ?assign ?body ?done ?stop
            case hAx => exact fun x a' => ownFrom_pure _ _
            case stop =>
              rintro D c pre W hD hsp hf hK
              exact hf.elim
            case assign =>
              rintro l pre x W K hI hK
              rw [ha]
              gi_wp2
              exact hK _ _ (KeepsFrom.refl _ _) (KpS.refl _ _) hI (by rw [ha]; rfl)
            case body =>
              rintro l pre x a' W hl ⟨rr, hrr⟩ ⟨⟨v, hbx, hrow, _⟩, hB, hW4⟩ ha' hlen
              obtain ⟨i0, hi0, hz0, hz1, hz2⟩ := info_parts infoInt
              have hB8 : wr.heap.size < W.heap.size := hbx.lt
              have y0 := Boxed.cell hbx
              have hob : ∀ k, v.ownBlock = some k → W4.heap.size ≤ k := fun k hk => le_block hrow hk
              obtain ⟨⟨xp, xo, xv⟩, hxm⟩ := x
              dsimp only at ha'
              rw [ha] at ha'
              subst ha'
              have HRW := Aside0.mk hrow
              have HBX := Aside0.mk hbx
              have HBB := Aside0.mk hB
              have HOB := Aside0.mk hob
              have HB8 := Aside0.mk hB8
              have HLN := Aside0.mk hlen
              have HW4 := Aside0.mk hW4
              clear hrr ha hrow hbx hB hob hB8 hlen hW4
              simp only [List.setIfInBounds_toArray, List.set_cons_zero, List.set_cons_succ]
              gi_wp2_with (gi_at_builtin; refine wpListIn_append_lies _ rfl _ _ _ rfl W4.heap.size 3 i0 _ 1 8 Try.underlying22 hi0 hz0 hz1 hz2 rfl (by omega) v (2 * pre.length) (ints pre) rfl (HRW.out.alloc _) ⟨W.heap.size, 0, none⟩ 2 2 [.int .i64 xp, .int .i64 xv] rfl rfl (World.news_of_block (cs := #[.int .i64 xp, .int .i64 xv]) (t := 3) (fr := (0, 0)) (heap_alloc_new W _)) (by simp [Value.oneCell']) (by omega) (by have := HLN.out; unfold maxLen; omega) (by have := HLN.out; omega) (by have := HW4.out; simp; omega) (W.heap.size + 1) (by simp) ?_; intro gg cap W1 hown1 hgrow1 hat1 hlt1; have HOWN1 := Aside0.mk hown1; have HGR1 := Aside0.mk hgrow1; have HAT1 := Aside0.mk hat1; have hbx1 : Boxed W1 wr.heap.size 22 v := Boxed.kept (HBX.out.alloc _) hgrow1 (fun e => by have := HOB.out _ e.symm; have := HSZ.out; omega); have z0 := Boxed.cell hbx1; have z1 := Boxed.frozen hbx1; have HBX1 := Aside0.mk hbx1; clear hown1 hgrow1 hat1 hbx1)
              have hW4 := HW4.out
              have hsz4 := HSZ.out
              have hgs := HGR1.out.size
              rw [World.size_alloc] at hgs
              have hset : Boxed (W1.setCell ⟨wr.heap.size, 0, none⟩ (.slice (some ⟨gg, 0, none⟩) (2 * pre.length + 2) cap)) wr.heap.size 22 (.slice (some ⟨gg, 0, none⟩) (2 * pre.length + 2) cap) := Boxed.set _ HBX1.out
              have hnew : ∀ k, k < W.heap.size → k ≠ wr.heap.size → v.ownBlock ≠ some k → (W1.setCell ⟨wr.heap.size, 0, none⟩ (.slice (some ⟨gg, 0, none⟩) (2 * pre.length + 2) cap)).heap[k]? = W.heap[k]? := fun k hk h1 h2 =>
                (Below.heap_setCell _ _ _ _ h1).trans ((HGR1.out.block k (by rw [World.size_alloc]; omega) (fun e => h2 e.symm)).trans (Below.heap_alloc W _ k hk))
              have hgg : W4.heap.size ≤ gg := le_block HOWN1.out rfl
              refine ⟨((KeepsOthers.alloc _ _).trans ((KeepsOthers.of_grownBy HGR1.out (fun j o hj ho => own_cells (HRW.out.alloc _) hj ho)).trans (KeepsOthers.setCell _ _ _))).from _, ⟨by simp; omega, fun k o hk hn ho hc => ?_⟩, ⟨_, hset, ?_, trivial⟩, ?_, by simp; omega⟩
              · have h1 : k ≠ wr.heap.size := fun e => hn (.inl e)
                have h2 : v.ownBlock ≠ some k := fun e => by
                  obtain ⟨n', c', hv⟩ := own_form HRW.out e
                  exact hn (.inr ⟨k, n', c', by rw [← hv]; exact HBX.out, rfl⟩)
                refine ⟨(hnew k hk h1 h2).trans ho, ?_⟩
                rintro (h | ⟨g', n', c', h3, h4⟩)
                · exact h1 h
                · have h5 := hset
                  unfold Boxed at h5
                  rw [h3] at h5
                  simp at h5
                  rcases HAT1.out with h6 | h6
                  · exact h2 (by rw [h6, h4, h5.1])
                  · omega
              · have := HOWN1.out.kept (grownBy_setCell' W1 wr.heap.size (.slice (some ⟨gg, 0, none⟩) (2 * pre.length + 2) cap)) (.inr (fun e => by simp [Value.ownBlock] at e; omega))
                rw [show (pre ++ [(⟨⟨xp, xo, xv⟩, hxm⟩ : { x : It V // x ∈ m })]).length = pre.length + 1 by simp, show 2 * (pre.length + 1) = 2 * pre.length + 2 by omega]
                have e : ints (pre ++ [(⟨⟨xp, xo, xv⟩, hxm⟩ : { x : It V // x ∈ m })]) = ints pre ++ [.int .i64 xp, .int .i64 xv] := by unfold ints; simp
                rw [e]
                exact this
              · exact ((HBB.out.alloc (by omega) _).grown HGR1.out (by simp; omega) (fun k hk => by have := HOB.out k hk; omega)).setCell (Nat.le_refl _) _
            case done =>
              rintro D zs W hD hzs ⟨⟨v, hbx, hrow, _⟩, hB, hW4⟩ hK
              obtain ⟨sl, hsl⟩ : ∃ sl, sorted m = sl := ⟨_, rfl⟩
              obtain ⟨N, hN⟩ : ∃ N, m.length = N := ⟨_, rfl⟩
              have hsN : sl.length = N := by rw [← hsl, sorted_length, hN]
              have hzN : zs.length = N := by
                have := congrArg List.length hzs
                rw [List.length_map, sorted_length, hN] at this
                exact this
              obtain ⟨A2, c2, rfl, hc2⟩ := row_form hrow
              have hseen : Seen W W4.heap.size A2 sl := seen_of hrow (by rw [← hsl, ← hzs]) trivial
              rw [hzN] at hc2 hbx
              have hQW := HQS.out.below hB
              have HQW := Aside0.mk hQW
              have HSN := Aside0.mk hseen
              have HBX := Aside0.mk hbx
              have HBB := Aside0.mk hB
              have HK := Aside0.mk hK
              have HD := Aside0.mk hD
              have HSP := Aside0.mk (show sl.Perm m by rw [← hsl]; exact sorted_perm m)
              have HSS2 := Aside0.mk (show sl.Pairwise le by rw [← hsl]; exact sorted_sorted m)
              have HLN := Aside0.mk hsN
              have HHD := Aside0.mk HH.out
              have HMN := Aside0.mk hN
              have HC2 := Aside0.mk hc2
              have HW4 := Aside0.mk hW4
              have y0 := Boxed.cell hbx
              have hN40 : N ≤ 40 := by omega
              have hw1 : IntKind.i64.wrap (2 * (N : Int)) = 2 * (N : Int) := IntWalk.i64_in _ (by omega)
              clear hsl hN hsN hzN hzs hseen hbx hQW hB hK hD hrow hQ4 hx1 hx2 hml hc2 hW4
              rw [ha]
              go_wp2_with fail
              refine Code.wp_mono (Q := onlyNormal _) (onlyNormal_le _) ?_
              refine sw_ (fun w' => w'.cell? ⟨wr.heap.size, 0, none⟩ = some (.slice A2 (2 * N) c2)) [] y0 (fun hHeld => ?_)
              have HQD : Aside0 (Qs W.drew q S m ordi) := ⟨HQW.out.below (Below.refl _ _).drew⟩
              have HSD : Aside0 (Seen W.drew W4.heap.size A2 sl) := ⟨HSN.out⟩
              have HXD : Aside0 (Boxed W.drew wr.heap.size 22 (.slice A2 (2 * N) c2)) := ⟨HBX.out⟩
              have HBD : Aside0 (Below wr.heap.size wr W.drew) := ⟨HBB.out.drew⟩
              have HKD : Aside0 (W.drew.heap[D]? = some (.deferred (some []))) := ⟨HK.out⟩
              have HWD : Aside0 (W4.heap.size ≤ W.drew.heap.size) := ⟨HW4.out⟩
              clear HQW HSN HBX HBB HK HW4 y0
              generalize W.drew = W5 at HQD HSD HXD HBD HKD HWD hHeld ⊢
              clear W
              refine pw_ 2 58 (h := ?_)
              refine tw_ 0 56 hHeld (h := ?_)
              refine pw_ 1 57 (h := ?_)
              refine ow_ 3 (some 59) (fun K hK => ?_)
              refine goes_ Try.func11 (by kernel_rfl) rfl #[.pointer (some ⟨q, 0, none⟩)] (by rfl) rfl rfl (by simp only [List.map_toArray, List.map_cons, List.map_nil]; rfl) ?_
              refine (len_any q 0 m ordi _ HQD.out.toQ).mono ?_
              rintro e w' ⟨rfl, rfl⟩
              rw [HMN.out]
              refine ⟨_, rfl, ?_⟩
              refine hK.out _ _ hHeld (fun hHeld => ?_)
              clear hK K
              refine nw_ 59 (h := ?_)
              refine pw_ 4 60 (h := ?_)
              refine pw_ 5 61 (h := ?_)
              refine dw_ ?_
              unfold onlyNormal
              have hne : (((2 * N : Nat) : Int) != wrap64 (2 * (N : Int))) = false := by unfold wrap64; simp; omega
              go_wp2_with fail
              have hSeen0 : ∀ k, S k → k < W4.heap.size := fun k hk => by have := (HSS.out k hk).2; have := HSZ.out; omega
              have HNS := Aside0.mk hSeen0
              have HBW : Aside0 (Below w.heap.size w W5) := ⟨HB.out.trans (HBD.out.mono (by have := HBS.out; have := HS.out; omega))⟩
              have HP0 : Aside0 (m.Perm (sl.drop 0)) := ⟨by rw [List.drop_zero]; exact HSP.out.symm⟩
              have HG0 : Aside0 (∀ y ∈ sl, Good xs y) := ⟨fun y hy => HG.out y (HSP.out.mem_iff.1 hy)⟩
              clear hSeen0 hne hw1
              clear HBD HB HSP
              have hb84 := HSZ.out
              have HS8 : Aside0 (∀ k, S k → k < wr.heap.size) := ⟨fun k hk => (HSS.out k hk).2⟩
              have HSW : Aside0 (∀ k, S k → w.heap.size ≤ k) := ⟨fun k hk => Nat.le_trans HBS.out.1 (HSS.out k hk).1⟩
              have HWB : Aside0 (w.heap.size ≤ W4.heap.size) := ⟨by have := HBS.out; have := HS.out; have := HSZ.out; omega⟩
              clear HSZ HB4 HX1 HSS HS HQS HBS
              generalize wr.heap.size = b8 at *
              go_loopg [11] N (fun gas s11 wx => ∃ (j : Nat) (mj : List (It V)), j ≤ N ∧ N - j ≤ gas ∧ s11 = .int .i64 ((2 * j : Nat) : Int) ∧ Aside0 (mj.Perm (sl.drop j)) ∧ Aside0 (Heap mj) ∧ Aside0 (Qs wx q S mj ordi) ∧ Aside0 (Seen wx W4.heap.size A2 sl) ∧ Aside0 (Boxed wx b8 22 (.slice A2 (2 * N) c2)) ∧ Aside0 (Below w.heap.size w wx) ∧ Aside0 (wx.heap[D]? = some (.deferred (some []))) ∧ Aside0 (W4.heap.size ≤ wx.heap.size))
              case atStart => exact ⟨0, m, Nat.zero_le _, Nat.le_refl _, rfl, HP0, HH, HQD, HSD, HXD, HBW, HKD, HWD⟩
              case round =>
                clear HP0 HH HQD HSD HXD HBW HKD HWD hHeld HG HML
                obtain ⟨j, mj, hj, hgas, rfl, HP, HH, HQ, HSN, HX, HBW, HKD, HWD⟩ := hrel
                have y0 := Boxed.cell HX.out
                by_cases hlt : j < N
                · have hjl : j < sl.length := by rw [HLN.out]; exact hlt
                  obtain ⟨z, hz⟩ : ∃ z, sl[j] = z := ⟨_, rfl⟩
                  have hdr : sl.drop j = z :: sl.drop (j + 1) := by rw [List.drop_eq_getElem_cons hjl, hz]
                  obtain ⟨t, rfl⟩ : ∃ t, mj = z :: t := head_eq HH.out (by rw [← hdr]; exact HP.out) (by rw [← hdr]; exact HSS2.out.drop) (fun y hy => HG0.out y (List.mem_of_mem_drop (i := j) (by rw [hdr]; exact hy)))
                  have hpt : t.Perm (sl.drop (j + 1)) := by have := HP.out; rw [hdr] at this; exact (List.perm_cons _).1 this
                  obtain ⟨g2, cur, tt, rfl, hg2, hrow, hvals⟩ := HSN.out.resolve_left (fun e => by rw [e] at hjl; simp at hjl)
                  obtain ⟨v0, v1⟩ := hvals j hjl
                  rw [hz] at v0 v1
                  have hng : ¬ S g2 := fun e => by have := HNS.out _ e; omega
                  have hn8 : ¬ S b8 := fun e => by have := HS8.out _ e; omega
                  have hnD : ¬ S D := fun e => by have := HNS.out _ e; have := HD.out; omega
                  have HNG := Aside0.mk hng
                  have HN8 := Aside0.mk hn8
                  have HND := Aside0.mk hnD
                  have HROW := Aside0.mk hrow
                  have HVAL := Aside0.mk hvals
                  have HG2 := Aside0.mk hg2
                  have HPT := Aside0.mk hpt
                  have HTL : Aside0 (t.length ≤ 1000) := ⟨by have := hpt.length_eq; rw [List.length_drop, HLN.out] at this; omega⟩
                  have hj0 : ((2 * j : Nat) : Int) < ((2 * N : Nat) : Int) := by omega
                  have hd : decide (2 * j < 2 * N) = true := decide_eq_true (by omega)
                  have hd2 : decide (((2 * j : Nat) : Int) < ((2 * N : Nat) : Int)) = true := decide_eq_true hj0
                  obtain ⟨zp, zo, zv⟩ := z
                  dsimp only at v0 v1
                  have HV0 := Aside0.mk v0
                  have HV1 := Aside0.mk v1
                  clear hng hn8 hnD hrow hvals hg2 hpt v0 v1 hdr hz hjl
                  go_wp2_with (first
                    | (go_at_call 14; refine (peek_some q 0 ⟨zp, zo, zv⟩ t ordi _ HQ.out.toQ).mono ?_; rintro e w6 ⟨rfl, hb6⟩; have HB6 := Aside0.mk hb6; clear hb6 y0))
                  refine (pop_someS q S ⟨zp, zo, zv⟩ t ordi w6 (HQ.out.below HB6.out) HH.out HTL.out).mono ?_
                  rintro e w7 ⟨rfl, m7, hQ7, hh7, hp7, hb7⟩
                  have HBS7 : Aside0 (BlS S wr w7) := ⟨(BlS.of HB6.out).trans hb7⟩
                  have HQ7 := Aside0.mk hQ7
                  have HH7 := Aside0.mk hh7
                  have HP7 := Aside0.mk hp7
                  have HX7 : Aside0 (Boxed w7 b8 22 (.slice (some ⟨g2, 0, none⟩) (2 * N) c2)) := ⟨(HBS7.out.block _ (Boxed.lt HX.out) HN8.out).trans HX.out⟩
                  have hr7 : w7.heap[g2]? = some (.cells cur tt (0, 0)) := (HBS7.out.block _ (blk_lt HROW.out) HNG.out).trans HROW.out
                  have y0 := Boxed.cell HX7.out
                  have y1 := (blk_cell hr7 (2 * j)).trans HV0.out
                  have y2 := (blk_cell hr7 (2 * j + 1)).trans HV1.out
                  have HR7 := Aside0.mk hr7
                  clear hQ7 hh7 hp7 hb7 hr7
                  go_wp2
                  go_roundg (N - (j + 1))
                  case measure => omega
                  case rel => exact ⟨j + 1, m7, by omega, by omega, by congr 1, ⟨((List.perm_cons _).1 HP7.out.symm).trans HPT.out⟩, HH7, HQ7, ⟨.inr ⟨g2, cur, tt, rfl, HG2.out, HR7.out, HVAL.out⟩⟩, HX7, ⟨HBW.out.trans (HBS7.out.below HBW.out.size HSW.out)⟩, ⟨(HBS7.out.block D (Array.getElem?_eq_some_iff.1 HKD.out).1 HND.out).trans HKD.out⟩, ⟨Nat.le_trans HWD.out HBS7.out.size⟩⟩
                · obtain rfl : j = N := by omega
                  obtain rfl : mj = [] := by
                    have := HP.out.length_eq
                    rw [List.length_drop, HLN.out, Nat.sub_self] at this
                    exact List.eq_nil_of_length_eq_zero this
                  have hd : decide (2 * j < 2 * j) = false := decide_eq_false (by omega)
                  have hd2 : decide (((2 * j : Nat) : Int) < ((2 * j : Nat) : Int)) = false := decide_eq_false (by omega)
                  clear hgas hlt hj
                  go_wp2_with (go_at_call 11; refine (len_any q 0 [] ordi _ HQ.out.toQ).mono ?_; rintro e w' ⟨rfl, rfl⟩; rw [show (([] : List (It V)).length : Int) = 0 from rfl])
                  refine ⟨by simp, .inl ⟨_, _, rfl, run_takeDeferred HKD.out, ?_⟩⟩
                  refine ⟨_, results_tmp rfl _ _ _, rfl, HBW.out.trans (belowK_b (w := w) (Nat.le_refl _) _ D _ _ (by have := HD.out; have := HWB.out; omega) HKD.out rfl rfl)⟩
end Go.Proofs.YthghilclgobpbaaH.I
