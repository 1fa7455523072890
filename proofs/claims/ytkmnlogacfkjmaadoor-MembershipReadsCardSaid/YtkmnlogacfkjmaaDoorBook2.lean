/- Books: the binary search, what is asked of a book. -/
import Derived.Test.YtkmnlogacfkjmaaDoorBook
namespace Go.Proofs.YtkmnlogacfkjmaaDoor
section
set_option maxRecDepth 100000
theorem en48 : Enters Tryd.prog 48 := enters_mk Tryd.func48 (by kernel_rfl) rfl
theorem en78 : Enters Tryd.prog 78 := enters_mk Tryd.func78 (by kernel_rfl) rfl
theorem en79 : Enters Tryd.prog 79 := enters_mk Tryd.func79 (by kernel_rfl) rfl
theorem fa76_0 : FAdr Tryd.prog 76 0 0 := fadr_mk Tryd.underlying76 rfl rfl (by kernel_rfl)
theorem fa76_1 : FAdr Tryd.prog 76 1 1 := fadr_mk Tryd.underlying76 rfl rfl (by kernel_rfl)
theorem fa90_0 : FAdr Tryd.prog 90 0 0 := fadr_mk Tryd.underlying90 rfl rfl (by kernel_rfl)
theorem z76 : Zero Tryd.prog 76 [.int .i64 0, .int .i64 0, .int .i64 0] := ⟨zero_of (by kernel_rfl)⟩
theorem st76 : StT Tryd.prog 76 [(0, 1), (1, 1), (2, 1)] [.int .i64 0, .int .i64 0, .int .i64 0] := ⟨⟨_, Tryd.underlying76, fun _ => by kernel_rfl, z76⟩⟩
theorem ty74 : Ty Tryd.prog 74 false 1 := ⟨⟨_, Tryd.underlying74, rfl⟩, by kernel_rfl⟩
end
open Go.RowKit
/-- An entry comes before the place of a user and a role. -/
def ltB (u r : Int) (e : En) : Bool := decide (e.1 < u ∨ e.1 = u ∧ e.2.1 < r)
def keyB (u r : Int) (e : En) : Bool := decide (e.1 = u ∧ e.2.1 = r)
def posE (l : List En) (u r : Int) : Nat := (l.takeWhile (ltB u r)).length
def hasE (l : List En) (u r : Int) : Bool := l.any (keyB u r)
def befE (a b : En) : Prop := a.1 < b.1 ∨ a.1 = b.1 ∧ a.2.1 < b.2.1
def okE (e : En) : Prop := 1 ≤ e.1 ∧ e.1 ≤ 256 ∧ 1 ≤ e.2.1 ∧ e.2.1 ≤ 63 ∧ 0 ≤ e.2.2 ∧ e.2.2 ≤ 30000
/-- The list of a book. -/
def WfL (l : List En) : Prop := l.Pairwise befE ∧ ∀ e ∈ l, okE e
theorem takeWhile_len {α : Type} {p : α → Bool} : ∀ {l : List α} {k : Nat}, k ≤ l.length → (∀ i x, i < k → l[i]? = some x → p x = true) → (∀ x, l[k]? = some x → p x = false) → (l.takeWhile p).length = k
  | [], k, h, _, _ => by
    have : k = 0 := by simpa using h
    subst this; rfl
  | a :: l, 0, _, _, h2 => by rw [List.takeWhile_cons, h2 a (by simp)]; rfl
  | a :: l, k + 1, h, h1, h2 => by
    rw [List.takeWhile_cons, h1 0 a (by omega) (by simp)]
    simp only [if_true, List.length_cons]
    rw [takeWhile_len (k := k) (by simpa using h) (fun i x hi hx => h1 (i + 1) x (by omega) (by simpa using hx)) (fun x hx => h2 x (by simpa using hx))]
theorem posE_le (l : List En) (u r : Int) : posE l u r ≤ l.length := (List.takeWhile_sublist _).length_le
theorem sorted_ge {l : List En} (hw : WfL l) {u r : Int} {i j : Nat} {x y : En} (hx : l[i]? = some x) (hy : l[j]? = some y) (hij : i ≤ j) (h : ltB u r x = false) : ltB u r y = false := by
  rcases Nat.lt_or_eq_of_le hij with hlt | rfl
  · obtain ⟨l1, g1⟩ := List.getElem?_eq_some_iff.1 hx
    obtain ⟨l2, g2⟩ := List.getElem?_eq_some_iff.1 hy
    have hb := List.pairwise_iff_getElem.1 hw.1 i j l1 l2 hlt
    rw [g1, g2] at hb
    simp only [ltB, decide_eq_false_iff_not, befE] at h hb ⊢
    omega
  · rw [hx] at hy; cases hy; exact h
theorem sorted_lt {l : List En} (hw : WfL l) {u r : Int} {i j : Nat} {x y : En} (hx : l[i]? = some x) (hy : l[j]? = some y) (hij : i ≤ j) (h : ltB u r y = true) : ltB u r x = true := by
  cases hx2 : ltB u r x with
  | true => rfl
  | false => rw [sorted_ge hw hx hy hij hx2] at h; cases h
theorem has_at {l : List En} (hw : WfL l) {u r : Int} {i : Nat} (hlt : ∀ q x, q < i → l[q]? = some x → ltB u r x = true) (hge : ∀ q x, i ≤ q → l[q]? = some x → ltB u r x = false) {e : En} (he : l[i]? = some e) : hasE l u r = keyB u r e := by
  cases hk : keyB u r e with
  | true => exact List.any_eq_true.2 ⟨e, List.mem_of_getElem? he, hk⟩
  | false =>
    refine Bool.eq_false_iff.2 fun h => ?_
    obtain ⟨y, hy, hky⟩ := List.any_eq_true.1 h
    obtain ⟨q, hq, hqy⟩ := List.getElem_of_mem hy
    have hq' : l[q]? = some y := by rw [List.getElem?_eq_getElem hq, hqy]
    simp only [keyB, decide_eq_true_eq] at hky
    rcases Nat.lt_trichotomy q i with h1 | rfl | h1
    · have := hlt q y h1 hq'
      simp only [ltB, decide_eq_true_eq] at this
      omega
    · rw [hq'] at he; cases he
      simp only [keyB, decide_eq_false_iff_not] at hk
      exact hk hky
    · obtain ⟨l1, g1⟩ := List.getElem?_eq_some_iff.1 he
      have hb := List.pairwise_iff_getElem.1 hw.1 i q l1 hq h1
      rw [g1, hqy] at hb
      have := hge i e (Nat.le_refl _) he
      simp only [ltB, decide_eq_false_iff_not, befE] at this hb
      omega
theorem has_out {l : List En} {u r : Int} (hlt : ∀ q x, q < l.length → l[q]? = some x → ltB u r x = true) : hasE l u r = false := by
  refine Bool.eq_false_iff.2 fun h => ?_
  obtain ⟨y, hy, hky⟩ := List.any_eq_true.1 h
  obtain ⟨q, hq, hqy⟩ := List.getElem_of_mem hy
  have := hlt q y hq (by rw [List.getElem?_eq_getElem hq, hqy])
  simp only [keyB, ltB, decide_eq_true_eq] at hky this
  omega
theorem cmp_spec {X : PMap} {e : En} {u r t : Int} (he : okE e) (hu : 0 ≤ u ∧ u ≤ 1000) (hr : 0 ≤ r ∧ r ≤ 1000) : Spec Tryd.prog 79 [.agg #[.int .i64 e.1, .int .i64 e.2.1, .int .i64 e.2.2], .agg #[.int .i64 u, .int .i64 r, .int .i64 t]] X fun v _ => v = .int .i64 (if e.1 = u then e.2.1 - r else e.1 - u) := by
  obtain ⟨h1, h2, h3, h4, h5, h6⟩ := he
  by_cases hc : e.1 = u
  · refine Spec.enter Tryd.func79 rfl Tryd.ntmps79 rfl ?_
    intro w0 hw0
    refine T.seq ?_
    refine T.region ?_
    refine SL.x (op_box rfl) rfl rfl ?_
    rintro _ _ _ ⟨B2, rfl, rfl, rfl⟩
    refine SL.x (op_box rfl) rfl rfl ?_
    rintro _ _ _ ⟨B3, rfl, rfl, rfl⟩
    refine SL.y (op_assign (v := .int .i64 ((0 : Nat) : Int)) rfl) rfl rfl ?_
    refine SL.nil ?_
    refine T.seq ?_
    refine T.seq ?_
    refine T.region ?_
    refine SL.y (op_fieldAddr fa76_0 rfl) rfl rfl ?_
    first | refine SL.y (op_load ty3 rfl (by repeat (first | exact AtO.here | apply AtO.there)) rfl) rfl rfl ?_ | refine SL.y (op_loadX ty3 rfl (by assumption) rfl) rfl rfl ?_
    refine SL.y (op_fieldAddr fa76_0 rfl) rfl rfl ?_
    first | refine SL.y (op_load ty3 rfl (by repeat (first | exact AtO.here | apply AtO.there)) rfl) rfl rfl ?_ | refine SL.y (op_loadX ty3 rfl (by assumption) rfl) rfl rfl ?_
    first | refine SL.y (op_neqT rfl rfl (by omega)) rfl rfl ?_ | refine SL.y (op_neqF rfl rfl (by omega)) rfl rfl ?_ | refine SL.y (op_neq rfl rfl) rfl rfl ?_
    refine SL.nil ?_
    refine T.condF rfl ?_
    refine T.skip ?_
    refine T.seq ?_
    refine T.region ?_
    refine SL.y (op_fieldAddr fa76_1 rfl) rfl rfl ?_
    first | refine SL.y (op_load ty3 rfl (by repeat (first | exact AtO.here | apply AtO.there)) rfl) rfl rfl ?_ | refine SL.y (op_loadX ty3 rfl (by assumption) rfl) rfl rfl ?_
    refine SL.y (op_fieldAddr fa76_1 rfl) rfl rfl ?_
    first | refine SL.y (op_load ty3 rfl (by repeat (first | exact AtO.here | apply AtO.there)) rfl) rfl rfl ?_ | refine SL.y (op_loadX ty3 rfl (by assumption) rfl) rfl rfl ?_
    first | refine SL.y (op_subN rfl rfl (by omega) (by omega)) rfl rfl ?_ | refine SL.y (op_sub rfl rfl (by omega) (by omega)) rfl rfl ?_ | refine SL.y (op_subW rfl rfl) rfl rfl ?_
    refine SL.y (op_assign rfl) rfl rfl ?_
    refine SL.nil ?_
    -- ret
    refine T.ret1 rfl (ResIs.tmp rfl) ?_
    rw [if_pos hc]
  · refine Spec.enter Tryd.func79 rfl Tryd.ntmps79 rfl ?_
    intro w0 hw0
    refine T.seq ?_
    refine T.region ?_
    refine SL.x (op_box rfl) rfl rfl ?_
    rintro _ _ _ ⟨B2, rfl, rfl, rfl⟩
    refine SL.x (op_box rfl) rfl rfl ?_
    rintro _ _ _ ⟨B3, rfl, rfl, rfl⟩
    refine SL.y (op_assign (v := .int .i64 ((0 : Nat) : Int)) rfl) rfl rfl ?_
    refine SL.nil ?_
    refine T.seq ?_
    refine T.seq ?_
    refine T.region ?_
    refine SL.y (op_fieldAddr fa76_0 rfl) rfl rfl ?_
    first | refine SL.y (op_load ty3 rfl (by repeat (first | exact AtO.here | apply AtO.there)) rfl) rfl rfl ?_ | refine SL.y (op_loadX ty3 rfl (by assumption) rfl) rfl rfl ?_
    refine SL.y (op_fieldAddr fa76_0 rfl) rfl rfl ?_
    first | refine SL.y (op_load ty3 rfl (by repeat (first | exact AtO.here | apply AtO.there)) rfl) rfl rfl ?_ | refine SL.y (op_loadX ty3 rfl (by assumption) rfl) rfl rfl ?_
    first | refine SL.y (op_neqT rfl rfl (by omega)) rfl rfl ?_ | refine SL.y (op_neqF rfl rfl (by omega)) rfl rfl ?_ | refine SL.y (op_neq rfl rfl) rfl rfl ?_
    refine SL.nil ?_
    refine T.condT rfl ?_
    refine T.seq ?_
    refine T.region ?_
    refine SL.y (op_fieldAddr fa76_0 rfl) rfl rfl ?_
    first | refine SL.y (op_load ty3 rfl (by repeat (first | exact AtO.here | apply AtO.there)) rfl) rfl rfl ?_ | refine SL.y (op_loadX ty3 rfl (by assumption) rfl) rfl rfl ?_
    refine SL.y (op_fieldAddr fa76_0 rfl) rfl rfl ?_
    first | refine SL.y (op_load ty3 rfl (by repeat (first | exact AtO.here | apply AtO.there)) rfl) rfl rfl ?_ | refine SL.y (op_loadX ty3 rfl (by assumption) rfl) rfl rfl ?_
    first | refine SL.y (op_subN rfl rfl (by omega) (by omega)) rfl rfl ?_ | refine SL.y (op_sub rfl rfl (by omega) (by omega)) rfl rfl ?_ | refine SL.y (op_subW rfl rfl) rfl rfl ?_
    refine SL.y (op_assign rfl) rfl rfl ?_
    refine SL.nil ?_
    -- ret
    refine T.ret1 rfl (ResIs.tmp rfl) ?_
    rw [if_neg hc]
theorem search_spec {X : PMap} {v : Value} {l : List En} (h : SliceR X v l.length (enC l)) (hw : WfL l) (hl : l.length < 100000) {u r t : Int} (hu : 0 ≤ u ∧ u ≤ 1000) (hr : 0 ≤ r ∧ r ≤ 1000) :
    Spec Tryd.prog 78 [v, .agg #[.int .i64 u, .int .i64 r, .int .i64 t], .func (.func 79) #[] #[]] X fun w _ => w = .tuple #[.int .i64 (posE l u r : Int), .bool (hasE l u r)] := by
  obtain ⟨A, cp, rfl⟩ := h.form
  refine Spec.enter Tryd.func78 rfl Tryd.ntmps78 rfl ?_
  intro w0 hw0
  refine T.seq ?_
  refine T.region ?_
  refine SL.x (op_box rfl) rfl rfl ?_
  rintro _ _ _ ⟨B4, rfl, rfl, rfl⟩
  refine SL.y (op_assign (v := .int .i64 ((0 : Nat) : Int)) rfl) rfl rfl ?_
  refine SL.y (op_assign rfl) rfl rfl ?_
  refine SL.nil ?_
  refine T.seq ?_
  refine T.region ?_
  refine SL.y (op_move rfl) rfl rfl ?_
  refine SL.y (op_lenS Tryd.underlying74 rfl) rfl rfl ?_
  refine SL.y (op_assign rfl) rfl rfl ?_
  refine SL.nil ?_
  refine T.seq ?_
  refine T.region ?_
  refine SL.y (op_move rfl) rfl rfl ?_
  refine SL.y (op_assign (v := .int .i64 ((0 : Nat) : Int)) rfl) rfl rfl ?_
  refine SL.y (op_assign rfl) rfl rfl ?_
  refine SL.nil ?_
  refine T.seq ?_
  refine T.block ?_
  -- loop live [0, 2, 4, 6, 7, 8, 9, 10]
  refine T.loopW (fun m env own X' => ∃ i j : Nat, m = j - i ∧ i ≤ j ∧ j ≤ l.length ∧ X.le X' ∧ (∀ q x, q < i → l[q]? = some x → ltB u r x = true) ∧ (∀ q x, j ≤ q → l[q]? = some x → ltB u r x = false) ∧ env = [(0, .slice A l.length cp), (2, .func (.func 79) #[] #[]), (4, .pointer (some ⟨B4, 0, none⟩)), (8, .int .i64 (l.length : Int)), (9, .int .i64 (i : Int)), (10, .int .i64 (j : Int))] ∧ own = [⟨B4, [.int .i64 u, .int .i64 r, .int .i64 t], 76, 3⟩]) l.length ⟨0, l.length, by omega, by omega, by omega, PMap.le_refl _, (by intro q x hq; omega), (by intro q x hq hx; rw [List.getElem?_eq_none (by omega)] at hx; cases hx), rfl, rfl⟩ (by repeat (first | exact Sub.nil | refine Sub.cons rfl ?_)) ?_
  rintro m _ _ X1 ⟨i, j, rfl, hij, hj, hX1, hlt, hge, rfl, rfl⟩
  rcases Nat.lt_or_ge i j with hlt2 | hge2
  · have hk1 : i ≤ (i + j) >>> 1 := by omega
    have hk2 : (i + j) >>> 1 < j := by omega
    have hmid : (i + j) >>> 1 < l.length := by omega
    obtain ⟨b, rfl, hB⟩ := h.blk (by omega)
    have hB1 := hB.mono hX1
    obtain ⟨e, he⟩ : ∃ e, l[(i + j) >>> 1]? = some e := ⟨_, List.getElem?_eq_getElem hmid⟩
    obtain ⟨g1, g2, g3⟩ := enC_at he
    have hok := hw.2 e (List.mem_of_getElem? he)
    refine T.seq ?_
    refine T.seq ?_
    refine T.region ?_
    refine SL.y (op_move rfl) rfl rfl ?_
    refine SL.y (op_move rfl) rfl rfl ?_
    first | refine SL.y (op_lssT rfl rfl (by omega)) rfl rfl ?_ | refine SL.y (op_lssF rfl rfl (by omega)) rfl rfl ?_ | refine SL.y (op_lss rfl rfl) rfl rfl ?_
    refine SL.nil ?_
    refine T.condT rfl ?_
    refine T.skip ?_
    refine T.block ?_
    refine T.seq ?_
    refine T.region ?_
    refine SL.y (op_move rfl) rfl rfl ?_
    refine SL.y (op_move rfl) rfl rfl ?_
    first | refine SL.y (op_addN rfl rfl (by omega)) rfl rfl ?_ | refine SL.y (op_add rfl rfl (by omega) (by omega)) rfl rfl ?_ | refine SL.y (op_addW rfl rfl) rfl rfl ?_
    first | refine SL.y (op_convU64 Tryd.underlying3 Tryd.underlying141 rfl (by omega) (by omega)) rfl rfl ?_ | refine SL.y (op_convert Tryd.underlying3 Tryd.underlying141 rfl) rfl rfl ?_
    first | refine SL.y (op_shrN (q := 1) rfl rfl (by omega)) rfl rfl ?_ | refine SL.y (op_shr rfl rfl) rfl rfl ?_
    first | refine SL.y (op_convI64 Tryd.underlying141 Tryd.underlying3 rfl (by omega) (by omega)) rfl rfl ?_ | refine SL.y (op_convert Tryd.underlying141 Tryd.underlying3 rfl) rfl rfl ?_
    refine SL.y (op_assign rfl) rfl rfl ?_
    refine SL.nil ?_
    refine T.seq ?_
    refine T.draw (by kernel_rfl) 8 [.t 0, .t 1, .t 2, .t 3, .t 4, .t 5, .r 6, .t 7] (by kernel_rfl) ?_
    refine SD.take rfl panicBody (op_move rfl) rfl rfl ?_
    refine SD.take rfl panicBody (op_move rfl) rfl rfl ?_
    refine SD.take rfl panicBody (op_move rfl) rfl rfl ?_
    first | refine SD.take rfl panicBody (op_indexN Tryd.underlying74 ty76 rfl rfl (by omega)) rfl rfl ?_ | refine SD.take rfl panicBody (op_index Tryd.underlying74 ty76 rfl rfl (by omega) (by omega)) rfl rfl ?_
    -- to 28: op
    refine SD.take rfl panicBody (op_loadX ty76 rfl hB1 (cread3 g1 g2 g3 (by omega))) rfl rfl ?_
    first | refine SD.take rfl panicBody (op_load ty76 rfl (by repeat (first | exact AtO.here | apply AtO.there)) rfl) rfl rfl ?_ | refine SD.take rfl panicBody (op_loadX ty76 rfl (by assumption) rfl) rfl rfl ?_
    -- op
    refine SD.run rfl (op_call en79 rfl (vs := [_, _]) rfl (cmp_spec hok hu hr)) rfl rfl ?_
    rintro _ _ X2 ⟨rfl, hX2, rfl⟩
    by_cases hlt3 : ltB u r e = true
    · skip
      -- to 31: op
      refine SD.take rfl panicBody (op_lssT rfl rfl (by simp only [ltB, decide_eq_true_eq] at hlt3; split <;> omega)) rfl rfl ?_
      refine SD.nil ?_
      show SL _ _ _ _ _ _ _ [] _ _ _
      refine SL.nil ?_
      refine T.condT rfl ?_
      refine T.region ?_
      refine SL.y (op_move rfl) rfl rfl ?_
      first | refine SL.y (op_addN (q := 1) rfl rfl (by omega)) rfl rfl ?_ | refine SL.y (op_add rfl rfl (by omega) (by omega)) rfl rfl ?_ | refine SL.y (op_addW rfl rfl) rfl rfl ?_
      refine SL.y (op_assign rfl) rfl rfl ?_
      refine SL.nil ?_
      refine T.blk ?_
      -- cut
      exact T.backW (j - ((i + j) >>> 1 + 1)) (by omega) ⟨(i + j) >>> 1 + 1, j, rfl, by omega, hj, hX1.trans' hX2, (fun q x hq hx => sorted_lt hw hx he (by omega) hlt3), hge, rfl, rfl⟩ (by repeat (first | exact Sub.nil | refine Sub.cons rfl ?_))
    · have hlt4 : ltB u r e = false := by simpa using hlt3
      -- to 31: op
      refine SD.take rfl panicBody (op_lssF rfl rfl (by simp only [ltB, decide_eq_false_iff_not] at hlt4; split <;> omega)) rfl rfl ?_
      refine SD.nil ?_
      show SL _ _ _ _ _ _ _ [] _ _ _
      refine SL.nil ?_
      refine T.condF rfl ?_
      refine T.region ?_
      refine SL.y (op_move rfl) rfl rfl ?_
      refine SL.y (op_assign rfl) rfl rfl ?_
      refine SL.nil ?_
      refine T.blk ?_
      -- cut
      exact T.backW ((i + j) >>> 1 - i) (by omega) ⟨i, (i + j) >>> 1, rfl, by omega, by omega, hX1.trans' hX2, hlt, (fun q x hq hx => sorted_ge hw he hx hq hlt4), rfl, rfl⟩ (by repeat (first | exact Sub.nil | refine Sub.cons rfl ?_))
  · obtain rfl : i = j := by omega
    have hpos : posE l u r = i := takeWhile_len hj (fun q x hq hx => hlt q x hq hx) (fun x hx => hge i x (Nat.le_refl _) hx)
    rcases Nat.lt_or_ge i l.length with hin | hin
    · obtain ⟨b, rfl, hB⟩ := h.blk (by omega)
      have hB1 := hB.mono hX1
      obtain ⟨e, he⟩ : ∃ e, l[i]? = some e := ⟨_, List.getElem?_eq_getElem hin⟩
      obtain ⟨g1, g2, g3⟩ := enC_at he
      have hok := hw.2 e (List.mem_of_getElem? he)
      have hhas := has_at hw hlt hge he
      refine T.seq ?_
      refine T.seq ?_
      refine T.region ?_
      refine SL.y (op_move rfl) rfl rfl ?_
      refine SL.y (op_move rfl) rfl rfl ?_
      first | refine SL.y (op_lssT rfl rfl (by omega)) rfl rfl ?_ | refine SL.y (op_lssF rfl rfl (by omega)) rfl rfl ?_ | refine SL.y (op_lss rfl rfl) rfl rfl ?_
      refine SL.nil ?_
      refine T.condF rfl ?_
      refine T.exit (T.exitCode (T.exitCut (T.exitBlk ?_)))
      refine T.seq ?_
      refine T.draw (by kernel_rfl) 16 [.t 0, .t 1, .t 2, .t 3, .t 4, .t 5, .t 6, .t 7, .t 8, .t 9, .t 10, .r 11, .t 12, .t 13, .t 14, .t 15] (by kernel_rfl) ?_
      refine SD.take rfl panicBody (op_move rfl) rfl rfl ?_
      refine SD.take rfl panicBody (op_move rfl) rfl rfl ?_
      refine SD.take rfl panicBody (op_move rfl) rfl rfl ?_
      first | refine SD.take rfl panicBody (op_lssT rfl rfl (by omega)) rfl rfl ?_ | refine SD.take rfl panicBody (op_lssF rfl rfl (by omega)) rfl rfl ?_ | refine SD.take rfl panicBody (op_lss rfl rfl) rfl rfl ?_
      refine SD.take rfl panicBody (op_move rfl) rfl rfl ?_
      first | refine SD.skip rfl panicBody rfl rfl ?_ | refine SD.take rfl panicBody (op_move rfl) rfl rfl ?_
      first | refine SD.skip rfl panicBody rfl rfl ?_ | refine SD.take rfl panicBody (op_move rfl) rfl rfl ?_
      first | refine SD.skip rfl panicBody rfl rfl ?_ | refine SD.take rfl panicBody (op_move rfl) rfl rfl ?_
      first | refine SD.skip rfl panicBody rfl rfl ?_ | refine SD.take rfl panicBody (op_indexN Tryd.underlying74 ty76 rfl rfl (by omega)) rfl rfl ?_ | refine SD.take rfl panicBody (op_index Tryd.underlying74 ty76 rfl rfl (by omega) (by omega)) rfl rfl ?_
      -- to 44: op
      refine SD.take rfl panicBody (op_loadX ty76 rfl hB1 (cread3 g1 g2 g3 (by omega))) rfl rfl ?_
      first | refine SD.skip rfl panicBody rfl rfl ?_ | refine SD.take rfl panicBody (op_load ty76 rfl (by repeat (first | exact AtO.here | apply AtO.there)) rfl) rfl rfl ?_ | refine SD.take rfl panicBody (op_loadX ty76 rfl (by assumption) rfl) rfl rfl ?_
      -- op
      refine SD.run rfl (op_call en79 rfl (vs := [_, _]) rfl (cmp_spec hok hu hr)) rfl rfl ?_
      rintro _ _ X2 ⟨rfl, hX2, rfl⟩
      by_cases hk : keyB u r e = true
      · skip
        refine SD.take rfl panicBody (op_eqlT rfl rfl (by simp only [keyB, decide_eq_true_eq] at hk; split <;> omega)) rfl rfl ?_
        first | refine SD.take rfl panicBody (op_pickT rfl rfl) rfl rfl ?_ | refine SD.take rfl panicBody (op_pickF rfl rfl) rfl rfl ?_ | refine SD.take rfl panicBody (op_pickB rfl rfl rfl) rfl rfl ?_
        refine SD.take rfl panicBody (op_assign rfl) rfl rfl ?_
        refine SD.take rfl panicBody (op_assign rfl) rfl rfl ?_
        refine SD.nil ?_
        show SL _ _ _ _ _ _ _ [] _ _ _
        refine SL.nil ?_
        -- ret
        refine T.ret2 rfl (ResIs.tmp rfl) (ResIs.tmp rfl) ?_
        rw [hpos, hhas, hk]
      · have hk2 : keyB u r e = false := by simpa using hk
        refine SD.take rfl panicBody (op_eqlF rfl rfl (by simp only [keyB, decide_eq_false_iff_not] at hk2; split <;> omega)) rfl rfl ?_
        first | refine SD.take rfl panicBody (op_pickT rfl rfl) rfl rfl ?_ | refine SD.take rfl panicBody (op_pickF rfl rfl) rfl rfl ?_ | refine SD.take rfl panicBody (op_pickB rfl rfl rfl) rfl rfl ?_
        refine SD.take rfl panicBody (op_assign rfl) rfl rfl ?_
        refine SD.take rfl panicBody (op_assign rfl) rfl rfl ?_
        refine SD.nil ?_
        show SL _ _ _ _ _ _ _ [] _ _ _
        refine SL.nil ?_
        -- ret
        refine T.ret2 rfl (ResIs.tmp rfl) (ResIs.tmp rfl) ?_
        rw [hpos, hhas, hk2]
    · have hhas := has_out (fun q x hq hx => hlt q x (by omega) hx)
      refine T.seq ?_
      refine T.seq ?_
      refine T.region ?_
      refine SL.y (op_move rfl) rfl rfl ?_
      refine SL.y (op_move rfl) rfl rfl ?_
      first | refine SL.y (op_lssT rfl rfl (by omega)) rfl rfl ?_ | refine SL.y (op_lssF rfl rfl (by omega)) rfl rfl ?_ | refine SL.y (op_lss rfl rfl) rfl rfl ?_
      refine SL.nil ?_
      refine T.condF rfl ?_
      refine T.exit (T.exitCode (T.exitCut (T.exitBlk ?_)))
      refine T.seq ?_
      refine T.draw (by kernel_rfl) 16 [.t 0, .t 1, .t 2, .t 3, .t 4, .t 5, .t 6, .t 7, .t 8, .t 9, .t 10, .r 11, .t 12, .t 13, .t 14, .t 15] (by kernel_rfl) ?_
      refine SD.take rfl panicBody (op_move rfl) rfl rfl ?_
      refine SD.take rfl panicBody (op_move rfl) rfl rfl ?_
      refine SD.take rfl panicBody (op_move rfl) rfl rfl ?_
      first | refine SD.take rfl panicBody (op_lssT rfl rfl (by omega)) rfl rfl ?_ | refine SD.take rfl panicBody (op_lssF rfl rfl (by omega)) rfl rfl ?_ | refine SD.take rfl panicBody (op_lss rfl rfl) rfl rfl ?_
      refine SD.take rfl panicBody (op_move rfl) rfl rfl ?_
      first | refine SD.skip rfl panicBody rfl rfl ?_ | refine SD.take rfl panicBody (op_move rfl) rfl rfl ?_
      first | refine SD.skip rfl panicBody rfl rfl ?_ | refine SD.take rfl panicBody (op_move rfl) rfl rfl ?_
      first | refine SD.skip rfl panicBody rfl rfl ?_ | refine SD.take rfl panicBody (op_move rfl) rfl rfl ?_
      first | refine SD.skip rfl panicBody rfl rfl ?_ | refine SD.take rfl panicBody (op_indexN Tryd.underlying74 ty76 rfl rfl (by omega)) rfl rfl ?_ | refine SD.take rfl panicBody (op_index Tryd.underlying74 ty76 rfl rfl (by omega) (by omega)) rfl rfl ?_
      first | refine SD.skip rfl panicBody rfl rfl ?_ | refine SD.take rfl panicBody (op_load ty76 rfl (by repeat (first | exact AtO.here | apply AtO.there)) rfl) rfl rfl ?_ | refine SD.take rfl panicBody (op_loadX ty76 rfl (by assumption) rfl) rfl rfl ?_
      first | refine SD.skip rfl panicBody rfl rfl ?_ | refine SD.take rfl panicBody (op_load ty76 rfl (by repeat (first | exact AtO.here | apply AtO.there)) rfl) rfl rfl ?_ | refine SD.take rfl panicBody (op_loadX ty76 rfl (by assumption) rfl) rfl rfl ?_
      -- op
      refine SD.skipF rfl rfl rfl ?_
      first | refine SD.skip rfl panicBody rfl rfl ?_ | refine SD.take rfl panicBody (op_eqlT rfl rfl (by omega)) rfl rfl ?_ | refine SD.take rfl panicBody (op_eqlF rfl rfl (by omega)) rfl rfl ?_ | refine SD.take rfl panicBody (op_eql rfl rfl) rfl rfl ?_
      first | refine SD.take rfl panicBody (op_pickT rfl rfl) rfl rfl ?_ | refine SD.take rfl panicBody (op_pickF rfl rfl) rfl rfl ?_ | refine SD.take rfl panicBody (op_pickB rfl rfl rfl) rfl rfl ?_
      refine SD.take rfl panicBody (op_assign rfl) rfl rfl ?_
      refine SD.take rfl panicBody (op_assign rfl) rfl rfl ?_
      refine SD.nil ?_
      show SL _ _ _ _ _ _ _ [] _ _ _
      refine SL.nil ?_
      -- ret
      refine T.ret2 rfl (ResIs.tmp rfl) (ResIs.tmp rfl) ?_
      rw [hpos, hhas]
theorem find_spec {X : PMap} {b : Nat} {sv : Value} {l : List En} (hb : Blk X b [sv]) (h : SliceR X sv l.length (enC l)) (hw : WfL l) (hl : l.length < 100000) {u r : Int} (hu : 0 ≤ u ∧ u ≤ 1000) (hr : 0 ≤ r ∧ r ≤ 1000) :
    Spec Tryd.prog 48 [.pointer (some ⟨b, 0, none⟩), .int .i64 u, .int .i64 r] X fun w _ => w = .tuple #[.int .i64 (posE l u r : Int), .bool (hasE l u r)] := by
  obtain ⟨A, cp, rfl⟩ := h.form
  refine Spec.enter Tryd.func48 rfl Tryd.ntmps48 rfl ?_
  intro w0 hw0
  refine T.seq ?_
  refine T.region ?_
  refine SL.y (op_assign (v := .int .i64 ((0 : Nat) : Int)) rfl) rfl rfl ?_
  refine SL.y (op_assign rfl) rfl rfl ?_
  refine SL.nil ?_
  refine T.seq ?_
  refine T.region ?_
  refine SL.y (op_move rfl) rfl rfl ?_
  first | refine SL.y (op_nil rfl) rfl rfl ?_ | refine SL.y (op_nilFn rfl) rfl rfl ?_
  refine SL.y (op_fieldAddr fa90_0 rfl) rfl rfl ?_
  first | refine SL.y (op_load ty74 rfl (by repeat (first | exact AtO.here | apply AtO.there)) rfl) rfl rfl ?_ | refine SL.y (op_loadX ty74 rfl (by assumption) rfl) rfl rfl ?_
  refine SL.y (op_move rfl) rfl rfl ?_
  refine SL.y (op_move rfl) rfl rfl ?_
  refine SL.y (op_build st76 (qs := [(0, _), (1, _)]) rfl rfl) rfl rfl ?_
  -- op
  refine SL.x (op_callF en78 (vs := [_, _, _]) rfl (search_spec h hw hl hu hr)) rfl rfl ?_
  rintro _ _ X2 ⟨rfl, hX2, rfl⟩
  refine SL.y (op_extract rfl rfl) rfl rfl ?_
  refine SL.y (op_extract rfl rfl) rfl rfl ?_
  refine SL.y (op_assign rfl) rfl rfl ?_
  refine SL.y (op_assign rfl) rfl rfl ?_
  refine SL.nil ?_
  -- ret
  refine T.ret2 rfl (ResIs.tmp rfl) (ResIs.tmp rfl) ?_
  rfl
/-- A book. -/
def BkR (X : PMap) (v : Value) (l : List En) : Prop := ∃ b sv, v = .pointer (some ⟨b, 0, none⟩) ∧ Blk X b [sv] ∧ SliceR X sv l.length (enC l)
theorem BkR.mono {X X' : PMap} {v : Value} {l : List En} (h : BkR X v l) (hX : X.le X') : BkR X' v l := by
  obtain ⟨b, sv, hv, hb, hs⟩ := h
  exact ⟨b, sv, hv, hb.mono hX, hs.mono hX⟩
/-- A book, or nil. -/
def BkN (X : PMap) (v : Value) (l : List En) : Prop := BkR X v l ∨ (v = .pointer none ∧ l = [])
theorem BkN.mono {X X' : PMap} {v : Value} {l : List En} (h : BkN X v l) (hX : X.le X') : BkN X' v l := h.imp (fun h => h.mono hX) id
def keyOk (u r : Int) : Bool := decide (1 ≤ u ∧ u ≤ 256 ∧ 1 ≤ r ∧ r ≤ 63)
theorem has_key {l : List En} (hw : WfL l) {u r : Int} (h : hasE l u r = true) : keyOk u r = true := by
  obtain ⟨e, he, hk⟩ := List.any_eq_true.1 h
  have := hw.2 e he
  simp only [keyB, decide_eq_true_eq] at hk
  obtain ⟨h1, h2, h3, h4, h5, h6⟩ := this
  simp only [keyOk, decide_eq_true_eq]
  omega
theorem index_spec {X : PMap} {v : Value} {l : List En} (h : BkN X v l) (hw : WfL l) (hl : l.length < 100000) {u r : Int} : Spec Tryd.prog 54 [v, .int .i64 u, .int .i64 r] X fun w _ => w = .tuple #[.int .i64 (if keyOk u r = true then (posE l u r : Int) else 0), .bool (hasE l u r)] := by
  have hno : keyOk u r = false → hasE l u r = false := fun hk => by
    refine Bool.eq_false_iff.2 fun hh => ?_
    rw [has_key hw hh] at hk; cases hk
  rcases h with ⟨b, sv, rfl, hb, hs⟩ | ⟨rfl, rfl⟩
  · by_cases hu1 : u < 1
    · have hk : keyOk u r = false := by simp [keyOk]; omega
      refine Spec.enter Tryd.func54 rfl Tryd.ntmps54 rfl ?_
      intro w0 hw0
      refine T.seq ?_
      refine T.region ?_
      refine SL.y (op_assign (v := .int .i64 ((0 : Nat) : Int)) rfl) rfl rfl ?_
      refine SL.y (op_assign rfl) rfl rfl ?_
      refine SL.nil ?_
      refine T.seq ?_
      refine T.seq ?_
      refine T.region ?_
      refine SL.y (op_move rfl) rfl rfl ?_
      refine SL.y (op_eqlNil Tryd.underlying24 rfl rfl) rfl rfl ?_
      refine SL.y (op_move rfl) rfl rfl ?_
      first | refine SL.skip rfl rfl ?_ | refine SL.y (op_move rfl) rfl rfl ?_
      first | refine SL.skip rfl rfl ?_ | refine SL.y (op_lssT rfl rfl (by omega)) rfl rfl ?_ | refine SL.y (op_lssF rfl rfl (by omega)) rfl rfl ?_ | refine SL.y (op_lss rfl rfl) rfl rfl ?_
      first | refine SL.y (op_pickT rfl rfl) rfl rfl ?_ | refine SL.y (op_pickF rfl rfl) rfl rfl ?_ | refine SL.y (op_pickB rfl rfl rfl) rfl rfl ?_
      refine SL.y (op_move rfl) rfl rfl ?_
      first | refine SL.skip rfl rfl ?_ | refine SL.y (op_move rfl) rfl rfl ?_
      first | refine SL.skip rfl rfl ?_ | refine SL.y (op_gtrT rfl rfl (by omega)) rfl rfl ?_ | refine SL.y (op_gtrF rfl rfl (by omega)) rfl rfl ?_ | refine SL.y (op_gtr rfl rfl) rfl rfl ?_
      first | refine SL.y (op_pickT rfl rfl) rfl rfl ?_ | refine SL.y (op_pickF rfl rfl) rfl rfl ?_ | refine SL.y (op_pickB rfl rfl rfl) rfl rfl ?_
      refine SL.y (op_move rfl) rfl rfl ?_
      first | refine SL.skip rfl rfl ?_ | refine SL.y (op_move rfl) rfl rfl ?_
      first | refine SL.skip rfl rfl ?_ | refine SL.y (op_lssT rfl rfl (by omega)) rfl rfl ?_ | refine SL.y (op_lssF rfl rfl (by omega)) rfl rfl ?_ | refine SL.y (op_lss rfl rfl) rfl rfl ?_
      first | refine SL.y (op_pickT rfl rfl) rfl rfl ?_ | refine SL.y (op_pickF rfl rfl) rfl rfl ?_ | refine SL.y (op_pickB rfl rfl rfl) rfl rfl ?_
      refine SL.y (op_move rfl) rfl rfl ?_
      first | refine SL.skip rfl rfl ?_ | refine SL.y (op_move rfl) rfl rfl ?_
      first | refine SL.skip rfl rfl ?_ | refine SL.y (op_gtrT rfl rfl (by omega)) rfl rfl ?_ | refine SL.y (op_gtrF rfl rfl (by omega)) rfl rfl ?_ | refine SL.y (op_gtr rfl rfl) rfl rfl ?_
      first | refine SL.y (op_pickT rfl rfl) rfl rfl ?_ | refine SL.y (op_pickF rfl rfl) rfl rfl ?_ | refine SL.y (op_pickB rfl rfl rfl) rfl rfl ?_
      refine SL.nil ?_
      refine T.condT rfl ?_
      refine T.seq ?_
      refine T.region ?_
      refine SL.y (op_assign (v := .int .i64 ((0 : Nat) : Int)) rfl) rfl rfl ?_
      refine SL.y (op_assign rfl) rfl rfl ?_
      refine SL.nil ?_
      -- ret
      refine T.ret2 rfl (ResIs.tmp rfl) (ResIs.tmp rfl) ?_
      rw [hk, hno hk]; rfl
    · by_cases hu2 : 256 < u
      · have hk : keyOk u r = false := by simp [keyOk]; omega
        refine Spec.enter Tryd.func54 rfl Tryd.ntmps54 rfl ?_
        intro w0 hw0
        refine T.seq ?_
        refine T.region ?_
        refine SL.y (op_assign (v := .int .i64 ((0 : Nat) : Int)) rfl) rfl rfl ?_
        refine SL.y (op_assign rfl) rfl rfl ?_
        refine SL.nil ?_
        refine T.seq ?_
        refine T.seq ?_
        refine T.region ?_
        refine SL.y (op_move rfl) rfl rfl ?_
        refine SL.y (op_eqlNil Tryd.underlying24 rfl rfl) rfl rfl ?_
        refine SL.y (op_move rfl) rfl rfl ?_
        first | refine SL.skip rfl rfl ?_ | refine SL.y (op_move rfl) rfl rfl ?_
        first | refine SL.skip rfl rfl ?_ | refine SL.y (op_lssT rfl rfl (by omega)) rfl rfl ?_ | refine SL.y (op_lssF rfl rfl (by omega)) rfl rfl ?_ | refine SL.y (op_lss rfl rfl) rfl rfl ?_
        first | refine SL.y (op_pickT rfl rfl) rfl rfl ?_ | refine SL.y (op_pickF rfl rfl) rfl rfl ?_ | refine SL.y (op_pickB rfl rfl rfl) rfl rfl ?_
        refine SL.y (op_move rfl) rfl rfl ?_
        first | refine SL.skip rfl rfl ?_ | refine SL.y (op_move rfl) rfl rfl ?_
        first | refine SL.skip rfl rfl ?_ | refine SL.y (op_gtrT rfl rfl (by omega)) rfl rfl ?_ | refine SL.y (op_gtrF rfl rfl (by omega)) rfl rfl ?_ | refine SL.y (op_gtr rfl rfl) rfl rfl ?_
        first | refine SL.y (op_pickT rfl rfl) rfl rfl ?_ | refine SL.y (op_pickF rfl rfl) rfl rfl ?_ | refine SL.y (op_pickB rfl rfl rfl) rfl rfl ?_
        refine SL.y (op_move rfl) rfl rfl ?_
        first | refine SL.skip rfl rfl ?_ | refine SL.y (op_move rfl) rfl rfl ?_
        first | refine SL.skip rfl rfl ?_ | refine SL.y (op_lssT rfl rfl (by omega)) rfl rfl ?_ | refine SL.y (op_lssF rfl rfl (by omega)) rfl rfl ?_ | refine SL.y (op_lss rfl rfl) rfl rfl ?_
        first | refine SL.y (op_pickT rfl rfl) rfl rfl ?_ | refine SL.y (op_pickF rfl rfl) rfl rfl ?_ | refine SL.y (op_pickB rfl rfl rfl) rfl rfl ?_
        refine SL.y (op_move rfl) rfl rfl ?_
        first | refine SL.skip rfl rfl ?_ | refine SL.y (op_move rfl) rfl rfl ?_
        first | refine SL.skip rfl rfl ?_ | refine SL.y (op_gtrT rfl rfl (by omega)) rfl rfl ?_ | refine SL.y (op_gtrF rfl rfl (by omega)) rfl rfl ?_ | refine SL.y (op_gtr rfl rfl) rfl rfl ?_
        first | refine SL.y (op_pickT rfl rfl) rfl rfl ?_ | refine SL.y (op_pickF rfl rfl) rfl rfl ?_ | refine SL.y (op_pickB rfl rfl rfl) rfl rfl ?_
        refine SL.nil ?_
        refine T.condT rfl ?_
        refine T.seq ?_
        refine T.region ?_
        refine SL.y (op_assign (v := .int .i64 ((0 : Nat) : Int)) rfl) rfl rfl ?_
        refine SL.y (op_assign rfl) rfl rfl ?_
        refine SL.nil ?_
        -- ret
        refine T.ret2 rfl (ResIs.tmp rfl) (ResIs.tmp rfl) ?_
        rw [hk, hno hk]; rfl
      · by_cases hr1 : r < 1
        · have hk : keyOk u r = false := by simp [keyOk]; omega
          refine Spec.enter Tryd.func54 rfl Tryd.ntmps54 rfl ?_
          intro w0 hw0
          refine T.seq ?_
          refine T.region ?_
          refine SL.y (op_assign (v := .int .i64 ((0 : Nat) : Int)) rfl) rfl rfl ?_
          refine SL.y (op_assign rfl) rfl rfl ?_
          refine SL.nil ?_
          refine T.seq ?_
          refine T.seq ?_
          refine T.region ?_
          refine SL.y (op_move rfl) rfl rfl ?_
          refine SL.y (op_eqlNil Tryd.underlying24 rfl rfl) rfl rfl ?_
          refine SL.y (op_move rfl) rfl rfl ?_
          first | refine SL.skip rfl rfl ?_ | refine SL.y (op_move rfl) rfl rfl ?_
          first | refine SL.skip rfl rfl ?_ | refine SL.y (op_lssT rfl rfl (by omega)) rfl rfl ?_ | refine SL.y (op_lssF rfl rfl (by omega)) rfl rfl ?_ | refine SL.y (op_lss rfl rfl) rfl rfl ?_
          first | refine SL.y (op_pickT rfl rfl) rfl rfl ?_ | refine SL.y (op_pickF rfl rfl) rfl rfl ?_ | refine SL.y (op_pickB rfl rfl rfl) rfl rfl ?_
          refine SL.y (op_move rfl) rfl rfl ?_
          first | refine SL.skip rfl rfl ?_ | refine SL.y (op_move rfl) rfl rfl ?_
          first | refine SL.skip rfl rfl ?_ | refine SL.y (op_gtrT rfl rfl (by omega)) rfl rfl ?_ | refine SL.y (op_gtrF rfl rfl (by omega)) rfl rfl ?_ | refine SL.y (op_gtr rfl rfl) rfl rfl ?_
          first | refine SL.y (op_pickT rfl rfl) rfl rfl ?_ | refine SL.y (op_pickF rfl rfl) rfl rfl ?_ | refine SL.y (op_pickB rfl rfl rfl) rfl rfl ?_
          refine SL.y (op_move rfl) rfl rfl ?_
          first | refine SL.skip rfl rfl ?_ | refine SL.y (op_move rfl) rfl rfl ?_
          first | refine SL.skip rfl rfl ?_ | refine SL.y (op_lssT rfl rfl (by omega)) rfl rfl ?_ | refine SL.y (op_lssF rfl rfl (by omega)) rfl rfl ?_ | refine SL.y (op_lss rfl rfl) rfl rfl ?_
          first | refine SL.y (op_pickT rfl rfl) rfl rfl ?_ | refine SL.y (op_pickF rfl rfl) rfl rfl ?_ | refine SL.y (op_pickB rfl rfl rfl) rfl rfl ?_
          refine SL.y (op_move rfl) rfl rfl ?_
          first | refine SL.skip rfl rfl ?_ | refine SL.y (op_move rfl) rfl rfl ?_
          first | refine SL.skip rfl rfl ?_ | refine SL.y (op_gtrT rfl rfl (by omega)) rfl rfl ?_ | refine SL.y (op_gtrF rfl rfl (by omega)) rfl rfl ?_ | refine SL.y (op_gtr rfl rfl) rfl rfl ?_
          first | refine SL.y (op_pickT rfl rfl) rfl rfl ?_ | refine SL.y (op_pickF rfl rfl) rfl rfl ?_ | refine SL.y (op_pickB rfl rfl rfl) rfl rfl ?_
          refine SL.nil ?_
          refine T.condT rfl ?_
          refine T.seq ?_
          refine T.region ?_
          refine SL.y (op_assign (v := .int .i64 ((0 : Nat) : Int)) rfl) rfl rfl ?_
          refine SL.y (op_assign rfl) rfl rfl ?_
          refine SL.nil ?_
          -- ret
          refine T.ret2 rfl (ResIs.tmp rfl) (ResIs.tmp rfl) ?_
          rw [hk, hno hk]; rfl
        · by_cases hr2 : 63 < r
          · have hk : keyOk u r = false := by simp [keyOk]; omega
            refine Spec.enter Tryd.func54 rfl Tryd.ntmps54 rfl ?_
            intro w0 hw0
            refine T.seq ?_
            refine T.region ?_
            refine SL.y (op_assign (v := .int .i64 ((0 : Nat) : Int)) rfl) rfl rfl ?_
            refine SL.y (op_assign rfl) rfl rfl ?_
            refine SL.nil ?_
            refine T.seq ?_
            refine T.seq ?_
            refine T.region ?_
            refine SL.y (op_move rfl) rfl rfl ?_
            refine SL.y (op_eqlNil Tryd.underlying24 rfl rfl) rfl rfl ?_
            refine SL.y (op_move rfl) rfl rfl ?_
            first | refine SL.skip rfl rfl ?_ | refine SL.y (op_move rfl) rfl rfl ?_
            first | refine SL.skip rfl rfl ?_ | refine SL.y (op_lssT rfl rfl (by omega)) rfl rfl ?_ | refine SL.y (op_lssF rfl rfl (by omega)) rfl rfl ?_ | refine SL.y (op_lss rfl rfl) rfl rfl ?_
            first | refine SL.y (op_pickT rfl rfl) rfl rfl ?_ | refine SL.y (op_pickF rfl rfl) rfl rfl ?_ | refine SL.y (op_pickB rfl rfl rfl) rfl rfl ?_
            refine SL.y (op_move rfl) rfl rfl ?_
            first | refine SL.skip rfl rfl ?_ | refine SL.y (op_move rfl) rfl rfl ?_
            first | refine SL.skip rfl rfl ?_ | refine SL.y (op_gtrT rfl rfl (by omega)) rfl rfl ?_ | refine SL.y (op_gtrF rfl rfl (by omega)) rfl rfl ?_ | refine SL.y (op_gtr rfl rfl) rfl rfl ?_
            first | refine SL.y (op_pickT rfl rfl) rfl rfl ?_ | refine SL.y (op_pickF rfl rfl) rfl rfl ?_ | refine SL.y (op_pickB rfl rfl rfl) rfl rfl ?_
            refine SL.y (op_move rfl) rfl rfl ?_
            first | refine SL.skip rfl rfl ?_ | refine SL.y (op_move rfl) rfl rfl ?_
            first | refine SL.skip rfl rfl ?_ | refine SL.y (op_lssT rfl rfl (by omega)) rfl rfl ?_ | refine SL.y (op_lssF rfl rfl (by omega)) rfl rfl ?_ | refine SL.y (op_lss rfl rfl) rfl rfl ?_
            first | refine SL.y (op_pickT rfl rfl) rfl rfl ?_ | refine SL.y (op_pickF rfl rfl) rfl rfl ?_ | refine SL.y (op_pickB rfl rfl rfl) rfl rfl ?_
            refine SL.y (op_move rfl) rfl rfl ?_
            first | refine SL.skip rfl rfl ?_ | refine SL.y (op_move rfl) rfl rfl ?_
            first | refine SL.skip rfl rfl ?_ | refine SL.y (op_gtrT rfl rfl (by omega)) rfl rfl ?_ | refine SL.y (op_gtrF rfl rfl (by omega)) rfl rfl ?_ | refine SL.y (op_gtr rfl rfl) rfl rfl ?_
            first | refine SL.y (op_pickT rfl rfl) rfl rfl ?_ | refine SL.y (op_pickF rfl rfl) rfl rfl ?_ | refine SL.y (op_pickB rfl rfl rfl) rfl rfl ?_
            refine SL.nil ?_
            refine T.condT rfl ?_
            refine T.seq ?_
            refine T.region ?_
            refine SL.y (op_assign (v := .int .i64 ((0 : Nat) : Int)) rfl) rfl rfl ?_
            refine SL.y (op_assign rfl) rfl rfl ?_
            refine SL.nil ?_
            -- ret
            refine T.ret2 rfl (ResIs.tmp rfl) (ResIs.tmp rfl) ?_
            rw [hk, hno hk]; rfl
          · have hk : keyOk u r = true := by simp [keyOk]; omega
            refine Spec.enter Tryd.func54 rfl Tryd.ntmps54 rfl ?_
            intro w0 hw0
            refine T.seq ?_
            refine T.region ?_
            refine SL.y (op_assign (v := .int .i64 ((0 : Nat) : Int)) rfl) rfl rfl ?_
            refine SL.y (op_assign rfl) rfl rfl ?_
            refine SL.nil ?_
            refine T.seq ?_
            refine T.seq ?_
            refine T.region ?_
            refine SL.y (op_move rfl) rfl rfl ?_
            refine SL.y (op_eqlNil Tryd.underlying24 rfl rfl) rfl rfl ?_
            refine SL.y (op_move rfl) rfl rfl ?_
            first | refine SL.skip rfl rfl ?_ | refine SL.y (op_move rfl) rfl rfl ?_
            first | refine SL.skip rfl rfl ?_ | refine SL.y (op_lssT rfl rfl (by omega)) rfl rfl ?_ | refine SL.y (op_lssF rfl rfl (by omega)) rfl rfl ?_ | refine SL.y (op_lss rfl rfl) rfl rfl ?_
            first | refine SL.y (op_pickT rfl rfl) rfl rfl ?_ | refine SL.y (op_pickF rfl rfl) rfl rfl ?_ | refine SL.y (op_pickB rfl rfl rfl) rfl rfl ?_
            refine SL.y (op_move rfl) rfl rfl ?_
            first | refine SL.skip rfl rfl ?_ | refine SL.y (op_move rfl) rfl rfl ?_
            first | refine SL.skip rfl rfl ?_ | refine SL.y (op_gtrT rfl rfl (by omega)) rfl rfl ?_ | refine SL.y (op_gtrF rfl rfl (by omega)) rfl rfl ?_ | refine SL.y (op_gtr rfl rfl) rfl rfl ?_
            first | refine SL.y (op_pickT rfl rfl) rfl rfl ?_ | refine SL.y (op_pickF rfl rfl) rfl rfl ?_ | refine SL.y (op_pickB rfl rfl rfl) rfl rfl ?_
            refine SL.y (op_move rfl) rfl rfl ?_
            first | refine SL.skip rfl rfl ?_ | refine SL.y (op_move rfl) rfl rfl ?_
            first | refine SL.skip rfl rfl ?_ | refine SL.y (op_lssT rfl rfl (by omega)) rfl rfl ?_ | refine SL.y (op_lssF rfl rfl (by omega)) rfl rfl ?_ | refine SL.y (op_lss rfl rfl) rfl rfl ?_
            first | refine SL.y (op_pickT rfl rfl) rfl rfl ?_ | refine SL.y (op_pickF rfl rfl) rfl rfl ?_ | refine SL.y (op_pickB rfl rfl rfl) rfl rfl ?_
            refine SL.y (op_move rfl) rfl rfl ?_
            first | refine SL.skip rfl rfl ?_ | refine SL.y (op_move rfl) rfl rfl ?_
            first | refine SL.skip rfl rfl ?_ | refine SL.y (op_gtrT rfl rfl (by omega)) rfl rfl ?_ | refine SL.y (op_gtrF rfl rfl (by omega)) rfl rfl ?_ | refine SL.y (op_gtr rfl rfl) rfl rfl ?_
            first | refine SL.y (op_pickT rfl rfl) rfl rfl ?_ | refine SL.y (op_pickF rfl rfl) rfl rfl ?_ | refine SL.y (op_pickB rfl rfl rfl) rfl rfl ?_
            refine SL.nil ?_
            refine T.condF rfl ?_
            refine T.skip ?_
            refine T.seq ?_
            refine T.region ?_
            refine SL.y (op_move rfl) rfl rfl ?_
            refine SL.y (op_move rfl) rfl rfl ?_
            refine SL.y (op_move rfl) rfl rfl ?_
            -- op
            refine SL.x (op_callF en48 (vs := [_, _, _]) rfl (find_spec hb hs hw hl (u := u) (r := r) (by omega) (by omega))) rfl rfl ?_
            rintro _ _ X2 ⟨rfl, hX2, rfl⟩
            refine SL.y (op_extract rfl rfl) rfl rfl ?_
            refine SL.y (op_extract rfl rfl) rfl rfl ?_
            refine SL.y (op_assign rfl) rfl rfl ?_
            refine SL.y (op_assign rfl) rfl rfl ?_
            refine SL.nil ?_
            -- ret
            refine T.ret2 rfl (ResIs.tmp rfl) (ResIs.tmp rfl) ?_
            rw [hk]; rfl
  · refine Spec.enter Tryd.func54 rfl Tryd.ntmps54 rfl ?_
    intro w0 hw0
    refine T.seq ?_
    refine T.region ?_
    refine SL.y (op_assign (v := .int .i64 ((0 : Nat) : Int)) rfl) rfl rfl ?_
    refine SL.y (op_assign rfl) rfl rfl ?_
    refine SL.nil ?_
    refine T.seq ?_
    refine T.seq ?_
    refine T.region ?_
    refine SL.y (op_move rfl) rfl rfl ?_
    refine SL.y (op_eqlNil Tryd.underlying24 rfl rfl) rfl rfl ?_
    refine SL.y (op_move rfl) rfl rfl ?_
    first | refine SL.skip rfl rfl ?_ | refine SL.y (op_move rfl) rfl rfl ?_
    first | refine SL.skip rfl rfl ?_ | refine SL.y (op_lssT rfl rfl (by omega)) rfl rfl ?_ | refine SL.y (op_lssF rfl rfl (by omega)) rfl rfl ?_ | refine SL.y (op_lss rfl rfl) rfl rfl ?_
    first | refine SL.y (op_pickT rfl rfl) rfl rfl ?_ | refine SL.y (op_pickF rfl rfl) rfl rfl ?_ | refine SL.y (op_pickB rfl rfl rfl) rfl rfl ?_
    refine SL.y (op_move rfl) rfl rfl ?_
    first | refine SL.skip rfl rfl ?_ | refine SL.y (op_move rfl) rfl rfl ?_
    first | refine SL.skip rfl rfl ?_ | refine SL.y (op_gtrT rfl rfl (by omega)) rfl rfl ?_ | refine SL.y (op_gtrF rfl rfl (by omega)) rfl rfl ?_ | refine SL.y (op_gtr rfl rfl) rfl rfl ?_
    first | refine SL.y (op_pickT rfl rfl) rfl rfl ?_ | refine SL.y (op_pickF rfl rfl) rfl rfl ?_ | refine SL.y (op_pickB rfl rfl rfl) rfl rfl ?_
    refine SL.y (op_move rfl) rfl rfl ?_
    first | refine SL.skip rfl rfl ?_ | refine SL.y (op_move rfl) rfl rfl ?_
    first | refine SL.skip rfl rfl ?_ | refine SL.y (op_lssT rfl rfl (by omega)) rfl rfl ?_ | refine SL.y (op_lssF rfl rfl (by omega)) rfl rfl ?_ | refine SL.y (op_lss rfl rfl) rfl rfl ?_
    first | refine SL.y (op_pickT rfl rfl) rfl rfl ?_ | refine SL.y (op_pickF rfl rfl) rfl rfl ?_ | refine SL.y (op_pickB rfl rfl rfl) rfl rfl ?_
    refine SL.y (op_move rfl) rfl rfl ?_
    first | refine SL.skip rfl rfl ?_ | refine SL.y (op_move rfl) rfl rfl ?_
    first | refine SL.skip rfl rfl ?_ | refine SL.y (op_gtrT rfl rfl (by omega)) rfl rfl ?_ | refine SL.y (op_gtrF rfl rfl (by omega)) rfl rfl ?_ | refine SL.y (op_gtr rfl rfl) rfl rfl ?_
    first | refine SL.y (op_pickT rfl rfl) rfl rfl ?_ | refine SL.y (op_pickF rfl rfl) rfl rfl ?_ | refine SL.y (op_pickB rfl rfl rfl) rfl rfl ?_
    refine SL.nil ?_
    refine T.condT rfl ?_
    refine T.seq ?_
    refine T.region ?_
    refine SL.y (op_assign (v := .int .i64 ((0 : Nat) : Int)) rfl) rfl rfl ?_
    refine SL.y (op_assign rfl) rfl rfl ?_
    refine SL.nil ?_
    -- ret
    refine T.ret2 rfl (ResIs.tmp rfl) (ResIs.tmp rfl) ?_
    have : posE [] u r = 0 := rfl
    rw [this]
    simp [hasE]
end Go.Proofs.YtkmnlogacfkjmaaDoor
