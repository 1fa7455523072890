/- THE ENDS of a lattice, the concepts of rows and columns: the laws. -/
import Derived.Test.YtoheffglppbcbaaDoorFinds
namespace Go.Proofs.YtoheffglppbcbaaDoor
section
set_option maxRecDepth 100000
theorem en39 : Enters Tryd.prog 39 := enters_mk Tryd.func39 (by kernel_rfl) rfl
theorem en40 : Enters Tryd.prog 40 := enters_mk Tryd.func40 (by kernel_rfl) rfl
theorem en42 : Enters Tryd.prog 42 := enters_mk Tryd.func42 (by kernel_rfl) rfl
theorem en47 : Enters Tryd.prog 47 := enters_mk Tryd.func47 (by kernel_rfl) rfl
theorem en69 : Enters Tryd.prog 69 := enters_mk Tryd.func69 (by kernel_rfl) rfl
end
open Go.RowKit
section
/-- slices.Contains over numbers. -/
theorem index69_spec {X : PMap} {v : Value} {l : List Nat} (h : SliceR X v l.length (ints l)) (hs : l.length < 2147483648) (x : Int) : Spec Tryd.prog 69 [v, .int .i64 x] X fun u _ => ∃ r : Int, u = .int .i64 r ∧ (0 ≤ r ↔ ∃ a ∈ l, (a : Int) = x) := by
  obtain ⟨A, cp, rfl⟩ := h.form
  refine Spec.enter Tryd.func69 rfl Tryd.ntmps69 rfl ?_
  intro w0 hw0
  refine T.seq ?_
  refine T.region ?_
  refine SL.y (op_assign (v := .int .i64 ((0 : Nat) : Int)) rfl) rfl rfl ?_
  refine SL.nil ?_
  refine T.seq ?_
  refine T.seq ?_
  refine T.region ?_
  refine SL.y (op_move rfl) rfl rfl ?_
  refine SL.y (op_lenS Tryd.underlying73 rfl) rfl rfl ?_
  refine SL.y (op_move (v := .int .i64 ((0 : Nat) : Int)) rfl) rfl rfl ?_
  refine SL.nil ?_
  refine T.block ?_
  -- loop live [0, 1, 4, 7, 8]
  refine T.loopW (fun m env own X' => ∃ k : Nat, m = l.length - k ∧ k ≤ l.length ∧ X.le X' ∧ (∀ a ∈ l.take k, (a : Int) ≠ x) ∧ env = [(0, .slice A l.length cp), (1, .int .i64 x), (7, .int .i64 (l.length : Int)), (8, .int .i64 (k : Int))] ∧ own = []) l.length ⟨0, by simp, by omega, PMap.le_refl _, by simp, rfl, rfl⟩ (by repeat (first | exact Sub.nil | refine Sub.cons rfl ?_)) ?_
  rintro m _ _ X1 ⟨k, rfl, hk, hX1, hno, rfl, rfl⟩
  rcases Nat.lt_or_ge k l.length with hkl | hkl
  · obtain ⟨bo, rfl, hBo⟩ := (h.mono hX1).blk (by omega)
    have hget := ints_get l k hkl
    refine T.seq ?_
    refine T.region ?_
    first | refine SL.y (op_lssT rfl rfl (by omega)) rfl rfl ?_ | refine SL.y (op_lssF rfl rfl (by omega)) rfl rfl ?_ | refine SL.y (op_lss rfl rfl) rfl rfl ?_
    refine SL.nil ?_
    refine T.seq ?_
    refine T.condT rfl ?_
    refine T.skip ?_
    refine T.seq ?_
    refine T.block ?_
    refine T.seq ?_
    refine T.region ?_
    refine SL.y (op_move rfl) rfl rfl ?_
    refine SL.y (op_assign rfl) rfl rfl ?_
    refine SL.nil ?_
    refine T.seq ?_
    refine T.region ?_
    refine SL.y (op_move rfl) rfl rfl ?_
    refine SL.y (op_move rfl) rfl rfl ?_
    refine SL.y (op_move rfl) rfl rfl ?_
    first | refine SL.y (op_indexN Tryd.underlying73 ty3 rfl rfl (by omega)) rfl rfl ?_ | refine SL.y (op_index Tryd.underlying73 ty3 rfl rfl (by omega) (by omega)) rfl rfl ?_
    -- to 15: op
    refine SL.y (op_loadX ty3 rfl hBo (cread1 hget)) rfl rfl ?_
    by_cases he : (l[k] : Int) = x
    · skip
      first | refine SL.y (op_eqlT rfl rfl (by omega)) rfl rfl ?_ | refine SL.y (op_eqlF rfl rfl (by omega)) rfl rfl ?_ | refine SL.y (op_eql rfl rfl) rfl rfl ?_
      refine SL.nil ?_
      refine T.condT rfl ?_
      refine T.seq ?_
      refine T.region ?_
      refine SL.y (op_move rfl) rfl rfl ?_
      refine SL.y (op_assign rfl) rfl rfl ?_
      refine SL.nil ?_
      -- ret
      refine T.ret1 rfl (ResIs.tmp rfl) ?_
      exact ⟨_, rfl, fun _ => ⟨l[k], List.getElem_mem hkl, he⟩, fun _ => by omega⟩
    · have hnext : ∀ a ∈ l.take (k + 1), (a : Int) ≠ x := by
        intro a ha
        rw [List.take_succ_eq_append_getElem hkl] at ha
        rcases List.mem_append.1 ha with h1 | h1
        · exact hno a h1
        · rw [List.mem_singleton] at h1; rw [h1]; exact he
      first | refine SL.y (op_eqlT rfl rfl (by omega)) rfl rfl ?_ | refine SL.y (op_eqlF rfl rfl (by omega)) rfl rfl ?_ | refine SL.y (op_eql rfl rfl) rfl rfl ?_
      refine SL.nil ?_
      refine T.condF rfl ?_
      refine T.skip ?_
      refine T.blk ?_
      refine T.region ?_
      first | refine SL.y (op_addN (q := 1) rfl rfl (by omega)) rfl rfl ?_ | refine SL.y (op_add rfl rfl (by omega) (by omega)) rfl rfl ?_ | refine SL.y (op_addW rfl rfl) rfl rfl ?_
      refine SL.y (op_move rfl) rfl rfl ?_
      refine SL.nil ?_
      -- cut
      exact T.backW (l.length - (k + 1)) (by omega) ⟨k + 1, rfl, by omega, hX1, hnext, rfl, rfl⟩ (by repeat (first | exact Sub.nil | refine Sub.cons rfl ?_))
  · obtain rfl : k = l.length := by omega
    rw [List.take_length] at hno
    refine T.seq ?_
    refine T.region ?_
    first | refine SL.y (op_lssT rfl rfl (by omega)) rfl rfl ?_ | refine SL.y (op_lssF rfl rfl (by omega)) rfl rfl ?_ | refine SL.y (op_lss rfl rfl) rfl rfl ?_
    refine SL.nil ?_
    refine T.seq ?_
    refine T.condF rfl ?_
    refine T.exit (T.exitCode (T.exitCut (T.exitBlk ?_)))
    refine T.seq ?_
    refine T.region ?_
    refine SL.y (op_assign rfl) rfl rfl ?_
    refine SL.nil ?_
    -- ret
    refine T.ret1 rfl (ResIs.tmp rfl) ?_
    exact ⟨_, rfl, fun h => by omega, fun ⟨a, ha, he⟩ => absurd he (hno a ha)⟩
theorem contains_spec {X : PMap} {v : Value} {l : List Nat} {b : Bool} (h : SliceR X v l.length (ints l)) (hs : l.length < 2147483648) (x : Int) (hb : b = true ↔ ∃ a ∈ l, (a : Int) = x) : Spec Tryd.prog 47 [v, .int .i64 x] X fun u _ => u = .bool b := by
  obtain ⟨A, cp, rfl⟩ := h.form
  refine Spec.enter Tryd.func47 rfl Tryd.ntmps47 rfl ?_
  intro w0 hw0
  refine T.seq ?_
  refine T.region ?_
  refine SL.y (op_assign rfl) rfl rfl ?_
  refine SL.nil ?_
  refine T.seq ?_
  refine T.region ?_
  refine SL.y (op_move rfl) rfl rfl ?_
  refine SL.y (op_move rfl) rfl rfl ?_
  -- op
  refine SL.x (op_callF en69 (vs := [_, _]) rfl (index69_spec h hs x)) rfl rfl ?_
  rintro _ _ X1 ⟨rfl, hX1, r, rfl, hr⟩
  rcases Int.lt_or_le r 0 with g | g
  · skip
    first | refine SL.y (op_geqT rfl rfl (by omega)) rfl rfl ?_ | refine SL.y (op_geqF rfl rfl (by omega)) rfl rfl ?_ | refine SL.y (op_geq rfl rfl) rfl rfl ?_
    refine SL.y (op_assign rfl) rfl rfl ?_
    refine SL.nil ?_
    -- ret
    refine T.ret1 rfl (ResIs.tmp rfl) ?_
    cases b with
    | false => rfl
    | true => have := hr.2 (hb.1 rfl); omega
  · first | refine SL.y (op_geqT rfl rfl (by omega)) rfl rfl ?_ | refine SL.y (op_geqF rfl rfl (by omega)) rfl rfl ?_ | refine SL.y (op_geq rfl rfl) rfl rfl ?_
    refine SL.y (op_assign rfl) rfl rfl ?_
    refine SL.nil ?_
    -- ret
    refine T.ret1 rfl (ResIs.tmp rfl) ?_
    cases b with
    | true => rfl
    | false => have := hb.2 (hr.1 g); cases this
end
theorem allC_head {c : Nat} {ms : List Nat} (hr : ms.length < 64) (hc : c < 6) (h0 : 0 < (allC c ms).length) : (allC c ms)[0] = clo c ms 0 := by
  obtain ⟨k, hk, hka⟩ := at_of_closed hr hc (clo_idem (c := c) (ms := ms) (by omega) (by omega) 0)
  rcases Nat.eq_zero_or_pos k with e | e
  · subst e; exact hka
  · have hp := List.pairwise_iff_getElem.1 (allN_sorted c ms (2 ^ c) (by have := pow_small hr hc; omega))
    have h1 : bef (allC c ms)[0] (allC c ms)[k] := hp 0 k h0 hk e
    rw [hka] at h1
    have h2 := clo_mono (c := c) (ms := ms) (by omega) (by omega) (a := 0) (b := (allC c ms)[0]) (fun j hj => by simp at hj)
    rw [closed_at hr hc h0] at h2
    rcases bef_of_sub h2 with e' | e'
    · exact e'.symm
    · exact (bef_asymm h1 e').elim
theorem full_bits (c j : Nat) : (2 ^ c - 1).testBit j = decide (j < c) := Nat.testBit_two_pow_sub_one ..
theorem sub_full {a c : Nat} (h : a < 2 ^ c) : SubB a (2 ^ c - 1) := fun j hj => by rw [full_bits]; simpa using bits_of_lt h hj
theorem closed_full {c : Nat} {ms : List Nat} (hr : ms.length < 64) (hc : c < 6) : clo c ms (2 ^ c - 1) = 2 ^ c - 1 :=
  SubB.antisymm (sub_full (clo_lt (by omega) (by omega) _)) (clo_ext (by omega) (by omega) (by have : 0 < 2 ^ c := Nat.pow_pos (by omega); omega))
theorem allC_last {c : Nat} {ms : List Nat} (hr : ms.length < 64) (hc : c < 6) (h0 : 0 < (allC c ms).length) : (allC c ms)[(allC c ms).length - 1]'(by omega) = 2 ^ c - 1 := by
  obtain ⟨k, hk, hka⟩ := at_of_closed hr hc (closed_full (ms := ms) hr hc)
  by_cases e : k = (allC c ms).length - 1
  · subst e; exact hka
  · have hp := List.pairwise_iff_getElem.1 (allN_sorted c ms (2 ^ c) (by have := pow_small hr hc; omega))
    have h1 : bef (allC c ms)[k] ((allC c ms)[(allC c ms).length - 1]'(by omega)) := hp k ((allC c ms).length - 1) hk (show (allC c ms).length - 1 < (allC c ms).length by omega) (by omega)
    rw [hka] at h1
    have h2 := sub_full (allC_lt hr hc (closed_at hr hc (i := (allC c ms).length - 1) (by omega)))
    rcases bef_of_sub h2 with e' | e'
    · exact e'
    · exact (bef_asymm h1 e').elim
theorem allC_pos {c : Nat} {ms : List Nat} (hr : ms.length < 64) (hc : c < 6) : 0 < (allC c ms).length := by
  obtain ⟨k, hk, _⟩ := at_of_closed hr hc (closed_full (ms := ms) hr hc)
  omega
theorem leq_top {c : Nat} {ms : List Nat} (hr : ms.length < 64) (hc : c < 6) {k : Nat} (hk : k < (allC c ms).length) : leqM (allR c ms) (k : Int) ((0 : Nat) : Int) = true := by
  rw [leqM_iff hr hc hk (allC_pos hr hc), allC_head hr hc (allC_pos hr hc)]
  have h2 := clo_mono (c := c) (ms := ms) (by omega) (by omega) (a := 0) (b := (allC c ms)[k]) (fun j hj => by simp at hj)
  rwa [closed_at hr hc hk] at h2
theorem leq_bottom {c : Nat} {ms : List Nat} (hr : ms.length < 64) (hc : c < 6) {k : Nat} (hk : k < (allC c ms).length) : leqM (allR c ms) (((allR c ms).length - 1 : Nat) : Int) (k : Int) = true := by
  have h0 := allC_pos (ms := ms) hr hc
  have e := allR_lenC (ms := ms) hr hc
  rw [e, leqM_iff hr hc (by omega) hk, allC_last hr hc h0]
  exact sub_full (allC_lt hr hc (closed_at hr hc hk))
/-- A row is a closed set of columns. -/
theorem closed_row {c : Nat} {ms : List Nat} (hr : ms.length < 64) (hc : c < 6) (hms : ∀ m ∈ ms, m < 2 ^ c) {i : Nat} (hi : i < ms.length) : clo c ms ms[i] = ms[i] := by
  have hlt := hms _ (List.getElem_mem hi)
  have e : com c ms (2 ^ i) = ms[i] := by
    apply Nat.eq_of_testBit_eq
    intro j
    refine bool_eq ?_
    rw [com_iff c ms _ j (by omega)]
    constructor
    · rintro ⟨_, h⟩
      have := h i hi (by rw [Nat.testBit_two_pow]; simp)
      simpa [Rel, hi] using this
    · intro h
      refine ⟨bits_of_lt hlt h, fun q _ hb => ?_⟩
      rw [Nat.testBit_two_pow] at hb
      have : i = q := by simpa using hb
      subst this
      simpa [Rel, hi] using h
  rw [← e]
  exact com_clo (by omega) (by omega) _ (Nat.pow_lt_pow_right (by omega) hi)
theorem row_iff {c : Nat} {ms : List Nat} (_hr : ms.length < 64) (hc : c < 6) {i a : Nat} (hi : i < ms.length) (ha : a < 2 ^ c) : (hav c ms a).testBit i = true ↔ SubB a ms[i] := by
  rw [hav_iff c ms a i (by omega)]
  constructor
  · intro h j hj
    have := h.2 j (bits_of_lt ha hj) hj
    simpa [Rel, hi] using this
  · intro h
    exact ⟨hi, fun j _ hj => by simpa [Rel, hi] using h j hj⟩
theorem col_iff {c : Nat} {ms : List Nat} (hr : ms.length < 64) (hc : c < 6) {j a : Nat} (hj : j < c) (ha : clo c ms a = a) : a.testBit j = true ↔ SubB (clo c ms (2 ^ j)) a := by
  have hlt : 2 ^ j < 2 ^ c := Nat.pow_lt_pow_right (by omega) hj
  constructor
  · intro h
    have := clo_mono (c := c) (ms := ms) (by omega) (by omega) (a := 2 ^ j) (b := a) (fun q hq => by
      rw [Nat.testBit_two_pow] at hq
      have : j = q := by simpa using hq
      subst this; exact h)
    rwa [ha] at this
  · intro h
    exact h j (clo_ext (by omega) (by omega) hlt j (by rw [Nat.testBit_two_pow]; simp))
theorem row_at {c : Nat} {ms : List Nat} (hr : ms.length < 64) (hc : c < 6) (hms : ∀ m ∈ ms, m < 2 ^ c) {i : Nat} (hi : i < ms.length) : ∃ k, ∃ hk : k < (allC c ms).length, (allC c ms)[k] = ms[i] ∧ lrowM ms (allR c ms) (i : Int) = some k := by
  obtain ⟨k, hk, hka⟩ := at_of_closed hr hc (closed_row hr hc hms hi)
  refine ⟨k, hk, hka, ?_⟩
  have e : rowM ms (i : Int) = (allC c ms)[k] := by rw [hka, rowM, if_pos (by omega)]; simp [hi]
  rw [lrowM, if_pos (by simp [inB, hi]), e]
  exact idxM_at hr hc hk
theorem col_at {c : Nat} {ms : List Nat} (hr : ms.length < 64) (hc : c < 6) {j : Nat} (hj : j < c) : ∃ k, ∃ hk : k < (allC c ms).length, (allC c ms)[k] = clo c ms (2 ^ j) ∧ lcolM c ms (allR c ms) (j : Int) = some k := by
  obtain ⟨k, hk, hka⟩ := at_of_closed hr hc (clo_idem (c := c) (ms := ms) (by omega) (by omega) (2 ^ j))
  refine ⟨k, hk, hka, ?_⟩
  rw [lcolM, if_pos (by simp [inB, hj]), show ((j : Int)).toNat = j by omega, ← hka]
  exact idxM_at hr hc hk
theorem row_leq {c : Nat} {ms : List Nat} (hr : ms.length < 64) (hc : c < 6) {i k q : Nat} (hi : i < ms.length) (hk : k < (allC c ms).length) (hka : (allC c ms)[k] = ms[i]) (hq : q < (allC c ms).length) {r : Nat} (hrq : r = hav c ms (allC c ms)[q]) :
    leqM (allR c ms) (k : Int) (q : Int) = true ↔ ∃ a ∈ mem64 r, ((a : Nat) : Int) = (i : Int) := by
  subst hrq
  rw [leqM_iff hr hc hk hq, hka, ← row_iff hr hc hi (allC_lt hr hc (closed_at hr hc hq))]
  constructor
  · exact fun h => ⟨i, mem_mem64.2 ⟨by omega, h⟩, rfl⟩
  · rintro ⟨a, ha, e⟩
    obtain rfl : a = i := by omega
    exact (mem_mem64.1 ha).2
theorem col_leq {c : Nat} {ms : List Nat} (hr : ms.length < 64) (hc : c < 6) {j k q : Nat} (hj : j < c) (hk : k < (allC c ms).length) (hka : (allC c ms)[k] = clo c ms (2 ^ j)) (hq : q < (allC c ms).length) {r : Nat} (hrq : r = (allC c ms)[q]) :
    leqM (allR c ms) (q : Int) (k : Int) = true ↔ ∃ a ∈ mem64 r, ((a : Nat) : Int) = (j : Int) := by
  subst hrq
  rw [leqM_iff hr hc hq hk, hka, ← col_iff hr hc hj (closed_at hr hc hq)]
  constructor
  · exact fun h => ⟨j, mem_mem64.2 ⟨by omega, h⟩, rfl⟩
  · rintro ⟨a, ha, e⟩
    obtain rfl : a = j := by omega
    exact (mem_mem64.1 ha).2
theorem both_leq {c : Nat} {ms : List Nat} (hr : ms.length < 64) (hc : c < 6) {i j k q : Nat} (hi : i < ms.length) (hj : j < c) (hk : k < (allC c ms).length) (hka : (allC c ms)[k] = ms[i]) (hq : q < (allC c ms).length) (hqa : (allC c ms)[q] = clo c ms (2 ^ j)) :
    leqM (allR c ms) (k : Int) (q : Int) = elemB c ms (i : Int) (j : Int) := by
  refine bool_eq ?_
  rw [leqM_iff hr hc hk hq, hka, hqa, ← col_iff hr hc hj (by rw [← hka]; exact closed_at hr hc hk)]
  have : (0 : Int) ≤ (i : Int) ∧ (i : Int) < ms.length ∧ (0 : Int) ≤ (j : Int) ∧ (j : Int) < c := by omega
  simp [elemB, insideB, this, hi]
section
variable {P : Program} {n : NM} {own : Own} {X : PMap} {env : Env} {x y : Operand} {t t' : TypeId}
theorem op_neqBS {b : Bool} (ht : P.underlying t = some .bool) (hx : eev env x = some (.bool b)) (hy : eev env y = some (.bool b)) : OpY P n env own X (.binOp .neq t x y t') (.bool false) := by
  have := op_neqB (P := P) (n := n) (own := own) (X := X) (t' := t') ht hx hy
  rwa [show (b != b) = false by cases b <;> rfl] at this
theorem op_eqlBS {b : Bool} (ht : P.underlying t = some .bool) (hx : eev env x = some (.bool b)) (hy : eev env y = some (.bool b)) : OpY P n env own X (.binOp .eql t x y t') (.bool true) := by
  have := op_eqlB (P := P) (n := n) (own := own) (X := X) (t' := t') ht hx hy
  rwa [show (b == b) = true by cases b <;> rfl] at this
end
section
variable {X : PMap} {v : Value} {c : Nat} {ms : List Nat} {l : List (Nat × Nat)}
theorem top_val (h : LatN X v c ms l) (h0 : 0 < l.length) : Spec Tryd.prog 39 [v] X fun u _ => u = .tuple #[.int .i64 0, .bool true] :=
  (top_spec h).mono fun _ _ _ hv => by rw [hv, decide_eq_true h0]
theorem bottom_val (h : LatN X v c ms l) (h0 : 0 < l.length) : Spec Tryd.prog 40 [v] X fun u _ => u = .tuple #[.int .i64 ((l.length - 1 : Nat) : Int), .bool true] :=
  (bottom_spec h).mono fun _ _ _ hv => by rw [hv, decide_eq_true h0]
theorem lrow_some {i : Int} {k : Nat} (h : LatR X v c ms l) (ho : lrowM ms l i = some k) : Spec Tryd.prog 41 [v, .int .i64 i] X fun u _ => u = .tuple #[.int .i64 (k : Int), .bool true] :=
  (lrow_spec h i).mono fun _ _ _ hv => by rw [hv, ho]; rfl
theorem lrow_none {i : Int} (h : LatR X v c ms l) (ho : inB ms.length i = false) : Spec Tryd.prog 41 [v, .int .i64 i] X fun u _ => u = .tuple #[.int .i64 0, .bool false] :=
  (lrow_spec h i).mono fun _ _ _ hv => by rw [hv, lrowM, if_neg (by rw [ho]; simp)]; rfl
theorem lcol_some {i : Int} {k : Nat} (hT : Tab X) (h : LatR X v c ms l) (ho : lcolM c ms l i = some k) : Spec Tryd.prog 42 [v, .int .i64 i] X fun u _ => u = .tuple #[.int .i64 (k : Int), .bool true] :=
  (lcol_spec hT h i).mono fun _ _ _ hv => by rw [hv, ho]; rfl
theorem lcol_none {i : Int} (hT : Tab X) (h : LatR X v c ms l) (ho : inB c i = false) : Spec Tryd.prog 42 [v, .int .i64 i] X fun u _ => u = .tuple #[.int .i64 0, .bool false] :=
  (lcol_spec hT h i).mono fun _ _ _ hv => by rw [hv, lcolM, if_neg (by rw [ho]; simp)]; rfl
end
theorem ends_spec {X : PMap} (hT : Tab X) {s : Value} {bs : List Nat} (R C : Nat) (hR : R < 256) (hC : C < 256) (h : BytesR X s bs) (i j : Int) :
    Spec Tryd.prog 10 [.agg #[.int .u8 (R : Int), .int .u8 (C : Int), s], .int .i64 i, .int .i64 j] X fun u _ => u = .bool true := by
  obtain ⟨A, cp, rfl⟩ := h.form
  have hc6 : C % 6 < 6 := Nat.mod_lt _ (by omega)
  have hr6 : R % 6 < 6 := Nat.mod_lt _ (by omega)
  have hlen := rawRows_len bs (R % 6) (C % 6)
  have hmk := fun (X : PMap) (hT : Tab X) (h : BytesR X (.slice A bs.length cp) bs) => make_spec hT R C hR hC h
  have hms := rawRows_lt bs (R % 6) (C % 6)
  generalize rawRows bs (R % 6) (C % 6) = ms at *
  generalize C % 6 = c at *
  have hr : ms.length < 64 := by omega
  have hal := allR_len (c := c) (ms := ms) hr hc6
  have hal2 := allR_lenC (ms := ms) hr hc6
  have hpos := allC_pos (ms := ms) hr hc6
  obtain ⟨_, _, hsm⟩ := allR_small (ms := ms) hr hc6
  refine Spec.enter Tryd.func10 rfl Tryd.ntmps10 rfl ?_
  intro w0 hw0
  refine T.seq ?_
  refine T.region ?_
  refine SL.x (op_box rfl) rfl rfl ?_
  rintro _ _ _ ⟨B3, rfl, rfl, rfl⟩
  refine SL.y (op_assign rfl) rfl rfl ?_
  refine SL.nil ?_
  refine T.seq ?_
  refine T.seq ?_
  refine T.region ?_
  -- op
  refine SL.x (op_callF en13 (vs := []) rfl (awake_spec hT)) rfl rfl ?_
  rintro _ _ X1 ⟨rfl, hX1, rfl⟩
  refine SL.y (op_not rfl) rfl rfl ?_
  refine SL.nil ?_
  refine T.condF rfl ?_
  refine T.skip ?_
  refine T.seq ?_
  refine T.region ?_
  first | refine SL.y (op_load ty24 rfl (by repeat (first | exact AtO.here | apply AtO.there)) rfl) rfl rfl ?_ | refine SL.y (op_loadX ty24 rfl (by assumption) rfl) rfl rfl ?_
  -- op
  refine SL.x (op_callF en14 (vs := [_]) rfl (hmk _ (hT.mono hX1) (h.mono hX1))) rfl rfl ?_
  rintro _ _ X2 ⟨rfl, hX2, pm, lat, t, rfl, hM, hL, hC⟩
  obtain ⟨bm, rfl⟩ := hM.ptr
  obtain ⟨bl, rfl⟩ := hL.ptr
  obtain ⟨At, cpt, rfl⟩ := hC.1.form
  have hT2 := (hT.mono hX1).mono hX2
  have hN : LatN X2 (.pointer (some ⟨bl, 0, none⟩)) c ms (allR c ms) := .inl hL
  refine SL.y (op_move rfl) rfl rfl ?_
  refine SL.y (op_extract rfl rfl) rfl rfl ?_
  refine SL.y (op_extract rfl rfl) rfl rfl ?_
  refine SL.y (op_extract rfl rfl) rfl rfl ?_
  refine SL.y (op_assign rfl) rfl rfl ?_
  refine SL.y (op_assign rfl) rfl rfl ?_
  refine SL.y (op_assign rfl) rfl rfl ?_
  refine SL.nil ?_
  refine T.seq ?_
  refine T.seq ?_
  refine T.region ?_
  refine SL.y (op_move rfl) rfl rfl ?_
  refine SL.y (op_eqlNil Tryd.underlying28 rfl rfl) rfl rfl ?_
  refine SL.nil ?_
  refine T.condF rfl ?_
  refine T.skip ?_
  refine T.seq ?_
  refine T.region ?_
  refine SL.y (op_move rfl) rfl rfl ?_
  -- op
  refine SL.x (op_callF en39 (vs := [_]) rfl (top_val hN (by omega))) rfl rfl ?_
  rintro _ _ X3 ⟨rfl, hX3, rfl⟩
  refine SL.y (op_move rfl) rfl rfl ?_
  refine SL.y (op_extract rfl rfl) rfl rfl ?_
  refine SL.y (op_extract rfl rfl) rfl rfl ?_
  refine SL.y (op_assign rfl) rfl rfl ?_
  refine SL.y (op_assign rfl) rfl rfl ?_
  refine SL.nil ?_
  refine T.seq ?_
  refine T.region ?_
  refine SL.y (op_move rfl) rfl rfl ?_
  -- op
  refine SL.x (op_callF en40 (vs := [_]) rfl (bottom_val (hN.mono hX3) (by omega))) rfl rfl ?_
  rintro _ _ X4 ⟨rfl, hX4, rfl⟩
  refine SL.y (op_move rfl) rfl rfl ?_
  refine SL.y (op_extract rfl rfl) rfl rfl ?_
  refine SL.y (op_extract rfl rfl) rfl rfl ?_
  refine SL.y (op_assign rfl) rfl rfl ?_
  refine SL.y (op_assign rfl) rfl rfl ?_
  refine SL.nil ?_
  refine T.seq ?_
  refine T.seq ?_
  refine T.region ?_
  refine SL.y (op_move rfl) rfl rfl ?_
  refine SL.y (op_not rfl) rfl rfl ?_
  refine SL.y (op_move rfl) rfl rfl ?_
  first | refine SL.skip rfl rfl ?_ | refine SL.y (op_move rfl) rfl rfl ?_
  first | refine SL.skip rfl rfl ?_ | refine SL.y (op_not rfl) rfl rfl ?_
  first | refine SL.y (op_pickT rfl rfl) rfl rfl ?_ | refine SL.y (op_pickF rfl rfl) rfl rfl ?_ | refine SL.y (op_pickB rfl rfl rfl) rfl rfl ?_
  refine SL.y (op_move rfl) rfl rfl ?_
  first | refine SL.skip rfl rfl ?_ | refine SL.y (op_move rfl) rfl rfl ?_
  first | refine SL.skip rfl rfl ?_ | refine SL.y (op_lssT rfl rfl (by omega)) rfl rfl ?_ | refine SL.y (op_lssF rfl rfl (by omega)) rfl rfl ?_ | refine SL.y (op_lss rfl rfl) rfl rfl ?_
  first | refine SL.y (op_pickT rfl rfl) rfl rfl ?_ | refine SL.y (op_pickF rfl rfl) rfl rfl ?_ | refine SL.y (op_pickB rfl rfl rfl) rfl rfl ?_
  refine SL.y (op_move rfl) rfl rfl ?_
  first | refine SL.skip rfl rfl ?_ | refine SL.y (op_move rfl) rfl rfl ?_
  first | refine SL.skip rfl rfl ?_ | refine SL.y (op_move rfl) rfl rfl ?_
  first | refine SL.skip rfl rfl ?_ | refine SL.y (op_lenS Tryd.underlying29 rfl) rfl rfl ?_
  first | refine SL.skip rfl rfl ?_ | refine SL.y (op_geqT rfl rfl (by omega)) rfl rfl ?_ | refine SL.y (op_geqF rfl rfl (by omega)) rfl rfl ?_ | refine SL.y (op_geq rfl rfl) rfl rfl ?_
  first | refine SL.y (op_pickT rfl rfl) rfl rfl ?_ | refine SL.y (op_pickF rfl rfl) rfl rfl ?_ | refine SL.y (op_pickB rfl rfl rfl) rfl rfl ?_
  refine SL.y (op_move rfl) rfl rfl ?_
  first | refine SL.skip rfl rfl ?_ | refine SL.y (op_move rfl) rfl rfl ?_
  first | refine SL.skip rfl rfl ?_ | refine SL.y (op_lssT rfl rfl (by omega)) rfl rfl ?_ | refine SL.y (op_lssF rfl rfl (by omega)) rfl rfl ?_ | refine SL.y (op_lss rfl rfl) rfl rfl ?_
  first | refine SL.y (op_pickT rfl rfl) rfl rfl ?_ | refine SL.y (op_pickF rfl rfl) rfl rfl ?_ | refine SL.y (op_pickB rfl rfl rfl) rfl rfl ?_
  refine SL.y (op_move rfl) rfl rfl ?_
  first | refine SL.skip rfl rfl ?_ | refine SL.y (op_move rfl) rfl rfl ?_
  first | refine SL.skip rfl rfl ?_ | refine SL.y (op_move rfl) rfl rfl ?_
  first | refine SL.skip rfl rfl ?_ | refine SL.y (op_lenS Tryd.underlying29 rfl) rfl rfl ?_
  first | refine SL.skip rfl rfl ?_ | refine SL.y (op_geqT rfl rfl (by omega)) rfl rfl ?_ | refine SL.y (op_geqF rfl rfl (by omega)) rfl rfl ?_ | refine SL.y (op_geq rfl rfl) rfl rfl ?_
  first | refine SL.y (op_pickT rfl rfl) rfl rfl ?_ | refine SL.y (op_pickF rfl rfl) rfl rfl ?_ | refine SL.y (op_pickB rfl rfl rfl) rfl rfl ?_
  refine SL.nil ?_
  refine T.condF rfl ?_
  refine T.skip ?_
  refine T.seq ?_
  refine T.seq ?_
  refine T.region ?_
  refine SL.y (op_move rfl) rfl rfl ?_
  refine SL.y (op_lenS Tryd.underlying29 rfl) rfl rfl ?_
  refine SL.y (op_move (v := .int .i64 ((0 : Nat) : Int)) rfl) rfl rfl ?_
  refine SL.nil ?_
  refine T.block ?_
  -- loop live [1, 2, 6, 7, 8, 9, 10, 12, 70, 71]
  refine T.drop B3 (by repeat (first | exact AtO.here | apply AtO.there)) ?_
  have hX24 := hX3.trans' hX4
  refine T.loopW (fun m env own X' => ∃ k : Nat, m = (allR c ms).length - k ∧ k ≤ (allR c ms).length ∧ X2.le X' ∧ env = [(1, .int .i64 i), (2, .int .i64 j), (7, .pointer (some ⟨bm, 0, none⟩)), (8, .pointer (some ⟨bl, 0, none⟩)), (9, .slice At (allR c ms).length cpt), (10, .int .i64 0), (12, .int .i64 (((allR c ms).length - 1 : Nat) : Int)), (70, .int .i64 ((allR c ms).length : Int)), (71, .int .i64 (k : Int))] ∧ own = []) (allR c ms).length ⟨0, by simp, by omega, hX24, rfl, rfl⟩ (by repeat (first | exact Sub.nil | refine Sub.cons rfl ?_)) ?_
  rintro m _ _ X5 ⟨k, rfl, hk, hX5, rfl, rfl⟩
  rcases Nat.lt_or_ge k (allR c ms).length with hkl | hkl
  · skip
    refine T.seq ?_
    refine T.region ?_
    first | refine SL.y (op_lssT rfl rfl (by omega)) rfl rfl ?_ | refine SL.y (op_lssF rfl rfl (by omega)) rfl rfl ?_ | refine SL.y (op_lss rfl rfl) rfl rfl ?_
    refine SL.nil ?_
    refine T.seq ?_
    refine T.condT rfl ?_
    refine T.skip ?_
    refine T.seq ?_
    refine T.block ?_
    refine T.seq ?_
    refine T.region ?_
    refine SL.y (op_move rfl) rfl rfl ?_
    refine SL.y (op_assign rfl) rfl rfl ?_
    refine SL.nil ?_
    refine T.seq ?_
    refine T.region ?_
    refine SL.y (op_move rfl) rfl rfl ?_
    refine SL.y (op_move rfl) rfl rfl ?_
    refine SL.y (op_move rfl) rfl rfl ?_
    -- op
    refine SL.x (op_callF en19 (vs := [_, _, _]) rfl (leq_val (hN.mono hX5) (leq_top hr hc6 (k := k) (by omega)))) rfl rfl ?_
    rintro _ _ X6 ⟨rfl, hX6, rfl⟩
    refine SL.y (op_not rfl) rfl rfl ?_
    refine SL.y (op_move rfl) rfl rfl ?_
    first | refine SL.skip rfl rfl ?_ | refine SL.y (op_move rfl) rfl rfl ?_
    first | refine SL.skip rfl rfl ?_ | refine SL.y (op_move rfl) rfl rfl ?_
    first | refine SL.skip rfl rfl ?_ | refine SL.y (op_move rfl) rfl rfl ?_
    -- op
    refine SL.x (op_callF en19 (vs := [_, _, _]) rfl (leq_val ((hN.mono hX5).mono hX6) (leq_bottom hr hc6 (k := k) (by omega)))) rfl rfl ?_
    rintro _ _ X7 ⟨rfl, hX7, rfl⟩
    first | refine SL.skip rfl rfl ?_ | refine SL.y (op_not rfl) rfl rfl ?_
    first | refine SL.y (op_pickT rfl rfl) rfl rfl ?_ | refine SL.y (op_pickF rfl rfl) rfl rfl ?_ | refine SL.y (op_pickB rfl rfl rfl) rfl rfl ?_
    refine SL.nil ?_
    refine T.condF rfl ?_
    refine T.skip ?_
    refine T.blk ?_
    refine T.region ?_
    first | refine SL.y (op_addN (q := 1) rfl rfl (by omega)) rfl rfl ?_ | refine SL.y (op_add rfl rfl (by omega) (by omega)) rfl rfl ?_ | refine SL.y (op_addW rfl rfl) rfl rfl ?_
    refine SL.y (op_move rfl) rfl rfl ?_
    refine SL.nil ?_
    -- cut
    exact T.backW ((allR c ms).length - (k + 1)) (by omega) ⟨k + 1, rfl, by omega, (hX5.trans' hX6).trans' hX7, rfl, rfl⟩ (by repeat (first | exact Sub.nil | refine Sub.cons rfl ?_))
  · refine T.seq ?_
    refine T.region ?_
    first | refine SL.y (op_lssT rfl rfl (by omega)) rfl rfl ?_ | refine SL.y (op_lssF rfl rfl (by omega)) rfl rfl ?_ | refine SL.y (op_lss rfl rfl) rfl rfl ?_
    refine SL.nil ?_
    refine T.seq ?_
    refine T.condF rfl ?_
    refine T.exit (T.exitCode (T.exitCut (T.exitBlk ?_)))
    refine T.seq ?_
    refine T.region ?_
    refine SL.y (op_move rfl) rfl rfl ?_
    refine SL.y (op_move rfl) rfl rfl ?_
    -- op
    rcases Int.lt_or_le i 0 with e1 | e1
    · rcases Int.lt_or_le j 0 with f1 | f1
      · skip
        refine SL.x (op_callF en41 (vs := [_, _]) rfl (lrow_none (hL.mono hX5) (by simp only [inB, decide_eq_false_iff_not]; omega))) rfl rfl ?_
        rintro _ _ Y1 ⟨rfl, hY1, rfl⟩
        refine SL.y (op_move rfl) rfl rfl ?_
        refine SL.y (op_extract rfl rfl) rfl rfl ?_
        refine SL.y (op_extract rfl rfl) rfl rfl ?_
        refine SL.y (op_assign rfl) rfl rfl ?_
        refine SL.y (op_assign rfl) rfl rfl ?_
        refine SL.nil ?_
        refine T.seq ?_
        refine T.region ?_
        refine SL.y (op_move rfl) rfl rfl ?_
        refine SL.y (op_move rfl) rfl rfl ?_
        -- op
        refine SL.x (op_callF en42 (vs := [_, _]) rfl (lcol_none ((hT2.mono hX5).mono hY1) ((hL.mono hX5).mono hY1) (by simp only [inB, decide_eq_false_iff_not]; omega))) rfl rfl ?_
        rintro _ _ Y2 ⟨rfl, hY2, rfl⟩
        have hZ2 := (hX5.trans' hY1).trans' hY2
        refine SL.y (op_move rfl) rfl rfl ?_
        refine SL.y (op_extract rfl rfl) rfl rfl ?_
        refine SL.y (op_extract rfl rfl) rfl rfl ?_
        refine SL.y (op_assign rfl) rfl rfl ?_
        refine SL.y (op_assign rfl) rfl rfl ?_
        refine SL.nil ?_
        refine T.seq ?_
        refine T.seq ?_
        refine T.region ?_
        refine SL.y (op_move rfl) rfl rfl ?_
        refine SL.y (op_move rfl) rfl rfl ?_
        first | refine SL.y (op_geqT rfl rfl (by omega)) rfl rfl ?_ | refine SL.y (op_geqF rfl rfl (by omega)) rfl rfl ?_ | refine SL.y (op_geq rfl rfl) rfl rfl ?_
        refine SL.y (op_move rfl) rfl rfl ?_
        first | refine SL.skip rfl rfl ?_ | refine SL.y (op_move rfl) rfl rfl ?_
        first | refine SL.skip rfl rfl ?_ | refine SL.y (op_move rfl) rfl rfl ?_
        -- op
        refine SL.skip rfl rfl ?_
        have hZ3 : X2.le Y2 := hZ2
        first | refine SL.skip rfl rfl ?_ | refine SL.y (op_lssT rfl rfl (by omega)) rfl rfl ?_ | refine SL.y (op_lssF rfl rfl (by omega)) rfl rfl ?_ | refine SL.y (op_lss rfl rfl) rfl rfl ?_
        first | refine SL.y (op_pickT rfl rfl) rfl rfl ?_ | refine SL.y (op_pickF rfl rfl) rfl rfl ?_ | refine SL.y (op_pickB rfl rfl rfl) rfl rfl ?_
        refine SL.y (op_neqB Tryd.underlying4 rfl rfl) rfl rfl ?_
        refine SL.y (op_move rfl) rfl rfl ?_
        first | refine SL.skip rfl rfl ?_ | refine SL.y (op_move rfl) rfl rfl ?_
        first | refine SL.skip rfl rfl ?_ | refine SL.y (op_move rfl) rfl rfl ?_
        first | refine SL.skip rfl rfl ?_ | refine SL.y (op_geqT rfl rfl (by omega)) rfl rfl ?_ | refine SL.y (op_geqF rfl rfl (by omega)) rfl rfl ?_ | refine SL.y (op_geq rfl rfl) rfl rfl ?_
        first | refine SL.skip rfl rfl ?_ | refine SL.y (op_move rfl) rfl rfl ?_
        first | refine SL.skip rfl rfl ?_ | refine SL.y (op_move rfl) rfl rfl ?_
        first | refine SL.skip rfl rfl ?_ | refine SL.y (op_move rfl) rfl rfl ?_
        -- op
        refine SL.skip rfl rfl ?_
        have hZ4 : X2.le Y2 := hZ3
        first | refine SL.skip rfl rfl ?_ | refine SL.y (op_lssT rfl rfl (by omega)) rfl rfl ?_ | refine SL.y (op_lssF rfl rfl (by omega)) rfl rfl ?_ | refine SL.y (op_lss rfl rfl) rfl rfl ?_
        first | refine SL.skip rfl rfl ?_ | refine SL.y (op_pickT rfl rfl) rfl rfl ?_ | refine SL.y (op_pickF rfl rfl) rfl rfl ?_ | refine SL.y (op_pickB rfl rfl rfl) rfl rfl ?_
        first | refine SL.skip rfl rfl ?_ | refine SL.y (op_neqB Tryd.underlying4 rfl rfl) rfl rfl ?_
        first | refine SL.y (op_pickT rfl rfl) rfl rfl ?_ | refine SL.y (op_pickF rfl rfl) rfl rfl ?_ | refine SL.y (op_pickB rfl rfl rfl) rfl rfl ?_
        refine SL.y (op_move rfl) rfl rfl ?_
        first | refine SL.skip rfl rfl ?_ | refine SL.y (op_move rfl) rfl rfl ?_
        first | refine SL.skip rfl rfl ?_ | refine SL.y (op_not rfl) rfl rfl ?_
        first | refine SL.skip rfl rfl ?_ | refine SL.y (op_move rfl) rfl rfl ?_
        first | refine SL.skip rfl rfl ?_ | refine SL.y (op_move rfl) rfl rfl ?_
        first | refine SL.skip rfl rfl ?_ | refine SL.y (op_neqT rfl rfl (by omega)) rfl rfl ?_ | refine SL.y (op_neqF rfl rfl (by omega)) rfl rfl ?_ | refine SL.y (op_neq rfl rfl) rfl rfl ?_
        first | refine SL.skip rfl rfl ?_ | refine SL.y (op_pickT rfl rfl) rfl rfl ?_ | refine SL.y (op_pickF rfl rfl) rfl rfl ?_ | refine SL.y (op_pickB rfl rfl rfl) rfl rfl ?_
        first | refine SL.y (op_pickT rfl rfl) rfl rfl ?_ | refine SL.y (op_pickF rfl rfl) rfl rfl ?_ | refine SL.y (op_pickB rfl rfl rfl) rfl rfl ?_
        refine SL.y (op_move rfl) rfl rfl ?_
        first | refine SL.skip rfl rfl ?_ | refine SL.y (op_move rfl) rfl rfl ?_
        first | refine SL.skip rfl rfl ?_ | refine SL.y (op_not rfl) rfl rfl ?_
        first | refine SL.skip rfl rfl ?_ | refine SL.y (op_move rfl) rfl rfl ?_
        first | refine SL.skip rfl rfl ?_ | refine SL.y (op_move rfl) rfl rfl ?_
        first | refine SL.skip rfl rfl ?_ | refine SL.y (op_neqT rfl rfl (by omega)) rfl rfl ?_ | refine SL.y (op_neqF rfl rfl (by omega)) rfl rfl ?_ | refine SL.y (op_neq rfl rfl) rfl rfl ?_
        first | refine SL.skip rfl rfl ?_ | refine SL.y (op_pickT rfl rfl) rfl rfl ?_ | refine SL.y (op_pickF rfl rfl) rfl rfl ?_ | refine SL.y (op_pickB rfl rfl rfl) rfl rfl ?_
        first | refine SL.y (op_pickT rfl rfl) rfl rfl ?_ | refine SL.y (op_pickF rfl rfl) rfl rfl ?_ | refine SL.y (op_pickB rfl rfl rfl) rfl rfl ?_
        refine SL.nil ?_
        refine T.condF rfl ?_
        refine T.skip ?_
        refine T.seq ?_
        refine T.seq ?_
        refine T.region ?_
        refine SL.y (op_move rfl) rfl rfl ?_
        refine SL.y (op_lenS Tryd.underlying29 rfl) rfl rfl ?_
        refine SL.y (op_move (v := .int .i64 ((0 : Nat) : Int)) rfl) rfl rfl ?_
        refine SL.nil ?_
        refine T.block ?_
        -- loop live [1, 2, 6, 7, 8, 15, 16, 17, 18, 137, 138, 139]
        refine T.loopW (fun m env own X' => ∃ k : Nat, m = (allR c ms).length - k ∧ k ≤ (allR c ms).length ∧ X2.le X' ∧ env = [(1, .int .i64 i), (2, .int .i64 j), (7, .pointer (some ⟨bm, 0, none⟩)), (8, .pointer (some ⟨bl, 0, none⟩)), (15, .int .i64 0), (16, .bool false), (17, .int .i64 0), (18, .bool false), (137, .slice At (allR c ms).length cpt), (138, .int .i64 ((allR c ms).length : Int)), (139, .int .i64 (k : Int))] ∧ own = []) (allR c ms).length ⟨0, by simp, by omega, hZ4, rfl, rfl⟩ (by repeat (first | exact Sub.nil | refine Sub.cons rfl ?_)) ?_
        rintro m _ _ V1 ⟨k, rfl, hk, hV1, rfl, rfl⟩
        rcases Nat.lt_or_ge k (allR c ms).length with hkl | hkl
        · obtain ⟨bo, rfl, hBo⟩ := (hC.1.mono hV1).blk (by omega)
          obtain ⟨g1, g2⟩ := conC_get (allR c ms) k hkl
          obtain ⟨b1, b2⟩ := hsm _ (List.getElem_mem hkl)
          have hat := allR_at hr hc6 hkl
          have l1 := mem64_length (allR c ms)[k].1
          have l2 := mem64_length (allR c ms)[k].2
          refine T.seq ?_
          refine T.region ?_
          first | refine SL.y (op_lssT rfl rfl (by omega)) rfl rfl ?_ | refine SL.y (op_lssF rfl rfl (by omega)) rfl rfl ?_ | refine SL.y (op_lss rfl rfl) rfl rfl ?_
          refine SL.nil ?_
          refine T.seq ?_
          refine T.condT rfl ?_
          refine T.skip ?_
          refine T.seq ?_
          refine T.block ?_
          refine T.seq ?_
          refine T.region ?_
          refine SL.y (op_move rfl) rfl rfl ?_
          first | refine SL.y (op_indexN Tryd.underlying29 ty75 rfl rfl (by omega)) rfl rfl ?_ | refine SL.y (op_index Tryd.underlying29 ty75 rfl rfl (by omega) (by omega)) rfl rfl ?_
          -- to 143: op
          refine SL.y (op_loadX ty75 rfl hBo (creadR2 g1 g2 (by omega))) rfl rfl ?_
          refine SL.x (op_alloc z75) rfl rfl ?_
          rintro _ _ _ ⟨B20, rfl, rfl, rfl⟩
          refine SL.y (op_assign rfl) rfl rfl ?_
          refine SL.x (op_store ty75 rfl rfl (by repeat (first | exact AtO.here | apply AtO.there)) rfl rfl rfl) rfl rfl ?_
          rintro _ _ _ ⟨rfl, rfl⟩
          refine SL.nil ?_
          refine T.seq ?_
          refine T.region ?_
          first | refine SL.y (op_load ty75 rfl (by repeat (first | exact AtO.here | apply AtO.there)) rfl) rfl rfl ?_ | refine SL.y (op_loadX ty75 rfl (by assumption) rfl) rfl rfl ?_
          -- op
          refine SL.x (op_callF en46 (vs := [_]) rfl (lists46_spec (allR c ms)[k].1 (allR c ms)[k].2 b1 b2)) rfl rfl ?_
          rintro _ _ V2 ⟨rfl, hV2, u, w, rfl, hu, hw⟩
          refine SL.y (op_move rfl) rfl rfl ?_
          refine SL.y (op_extract rfl rfl) rfl rfl ?_
          refine SL.y (op_extract rfl rfl) rfl rfl ?_
          refine SL.y (op_assign rfl) rfl rfl ?_
          refine SL.y (op_assign rfl) rfl rfl ?_
          refine SL.nil ?_
          refine T.seq ?_
          refine T.region ?_
          refine SL.y (op_move rfl) rfl rfl ?_
          refine SL.y (op_move rfl) rfl rfl ?_
          first | refine SL.skip rfl rfl ?_ | refine SL.y (op_move rfl) rfl rfl ?_
          first | refine SL.skip rfl rfl ?_ | refine SL.y (op_move rfl) rfl rfl ?_
          -- op
          have hV2' := hV1.trans' hV2
          refine SL.skip rfl rfl ?_
          first | refine SL.skip rfl rfl ?_ | refine SL.y (op_move rfl) rfl rfl ?_
          first | refine SL.skip rfl rfl ?_ | refine SL.y (op_move rfl) rfl rfl ?_
          first | refine SL.skip rfl rfl ?_ | refine SL.y (op_move rfl) rfl rfl ?_
          -- op
          refine SL.skip rfl rfl ?_
          have hV5' := hV2'
          have hw5 := hw
          first | refine SL.skip rfl rfl ?_ | refine SL.y (op_neqB Tryd.underlying4 rfl rfl) rfl rfl ?_
          first | refine SL.y (op_pickT rfl rfl) rfl rfl ?_ | refine SL.y (op_pickF rfl rfl) rfl rfl ?_ | refine SL.y (op_pickB rfl rfl rfl) rfl rfl ?_
          refine SL.y (op_move rfl) rfl rfl ?_
          first | refine SL.skip rfl rfl ?_ | refine SL.y (op_move rfl) rfl rfl ?_
          first | refine SL.skip rfl rfl ?_ | refine SL.y (op_move rfl) rfl rfl ?_
          first | refine SL.skip rfl rfl ?_ | refine SL.y (op_move rfl) rfl rfl ?_
          first | refine SL.skip rfl rfl ?_ | refine SL.y (op_move rfl) rfl rfl ?_
          -- op
          refine SL.skip rfl rfl ?_
          first | refine SL.skip rfl rfl ?_ | refine SL.y (op_move rfl) rfl rfl ?_
          first | refine SL.skip rfl rfl ?_ | refine SL.y (op_move rfl) rfl rfl ?_
          first | refine SL.skip rfl rfl ?_ | refine SL.y (op_move rfl) rfl rfl ?_
          -- op
          refine SL.skip rfl rfl ?_
          have hV8' := hV5'
          first | refine SL.skip rfl rfl ?_ | refine SL.y (op_neqB Tryd.underlying4 rfl rfl) rfl rfl ?_
          first | refine SL.skip rfl rfl ?_ | refine SL.y (op_pickT rfl rfl) rfl rfl ?_ | refine SL.y (op_pickF rfl rfl) rfl rfl ?_ | refine SL.y (op_pickB rfl rfl rfl) rfl rfl ?_
          first | refine SL.y (op_pickT rfl rfl) rfl rfl ?_ | refine SL.y (op_pickF rfl rfl) rfl rfl ?_ | refine SL.y (op_pickB rfl rfl rfl) rfl rfl ?_
          refine SL.nil ?_
          refine T.condF rfl ?_
          refine T.skip ?_
          refine T.blk ?_
          refine T.region ?_
          first | refine SL.y (op_addN (q := 1) rfl rfl (by omega)) rfl rfl ?_ | refine SL.y (op_add rfl rfl (by omega) (by omega)) rfl rfl ?_ | refine SL.y (op_addW rfl rfl) rfl rfl ?_
          refine SL.y (op_move rfl) rfl rfl ?_
          refine SL.nil ?_
          -- cut
          refine T.drop B20 (by repeat (first | exact AtO.here | apply AtO.there)) ?_
          exact T.backW ((allR c ms).length - (k + 1)) (by omega) ⟨k + 1, rfl, by omega, hV8', rfl, rfl⟩ (by repeat (first | exact Sub.nil | refine Sub.cons rfl ?_))
        · refine T.seq ?_
          refine T.region ?_
          first | refine SL.y (op_lssT rfl rfl (by omega)) rfl rfl ?_ | refine SL.y (op_lssF rfl rfl (by omega)) rfl rfl ?_ | refine SL.y (op_lss rfl rfl) rfl rfl ?_
          refine SL.nil ?_
          refine T.seq ?_
          refine T.condF rfl ?_
          refine T.exit (T.exitCode (T.exitCut (T.exitBlk ?_)))
          refine T.seq ?_
          refine T.region ?_
          refine SL.y (op_move rfl) rfl rfl ?_
          refine SL.y (op_not rfl) rfl rfl ?_
          refine SL.y (op_move rfl) rfl rfl ?_
          first | refine SL.skip rfl rfl ?_ | refine SL.y (op_move rfl) rfl rfl ?_
          first | refine SL.skip rfl rfl ?_ | refine SL.y (op_not rfl) rfl rfl ?_
          first | refine SL.y (op_pickT rfl rfl) rfl rfl ?_ | refine SL.y (op_pickF rfl rfl) rfl rfl ?_ | refine SL.y (op_pickB rfl rfl rfl) rfl rfl ?_
          refine SL.y (op_move rfl) rfl rfl ?_
          first | refine SL.skip rfl rfl ?_ | refine SL.y (op_move rfl) rfl rfl ?_
          first | refine SL.skip rfl rfl ?_ | refine SL.y (op_move rfl) rfl rfl ?_
          first | refine SL.skip rfl rfl ?_ | refine SL.y (op_move rfl) rfl rfl ?_
          -- op
          refine SL.skip rfl rfl ?_
          first | refine SL.skip rfl rfl ?_ | refine SL.y (op_move rfl) rfl rfl ?_
          first | refine SL.skip rfl rfl ?_ | refine SL.y (op_move rfl) rfl rfl ?_
          first | refine SL.skip rfl rfl ?_ | refine SL.y (op_move rfl) rfl rfl ?_
          -- op
          refine SL.skip rfl rfl ?_
          first | refine SL.skip rfl rfl ?_ | refine SL.y (op_eqlB Tryd.underlying4 rfl rfl) rfl rfl ?_
          first | refine SL.y (op_pickT rfl rfl) rfl rfl ?_ | refine SL.y (op_pickF rfl rfl) rfl rfl ?_ | refine SL.y (op_pickB rfl rfl rfl) rfl rfl ?_
          refine SL.y (op_assign rfl) rfl rfl ?_
          refine SL.nil ?_
          -- ret
          refine T.ret1 rfl (ResIs.tmp rfl) ?_
          rfl
      · rcases Int.lt_or_le j c with f2 | f2
        · obtain ⟨b, rfl⟩ := Int.eq_ofNat_of_zero_le f1
          have hb : b < c := by omega
          obtain ⟨q1, hq1, hqb1, hqb2⟩ := col_at (ms := ms) hr hc6 hb
          refine SL.x (op_callF en41 (vs := [_, _]) rfl (lrow_none (hL.mono hX5) (by simp only [inB, decide_eq_false_iff_not]; omega))) rfl rfl ?_
          rintro _ _ Y1 ⟨rfl, hY1, rfl⟩
          refine SL.y (op_move rfl) rfl rfl ?_
          refine SL.y (op_extract rfl rfl) rfl rfl ?_
          refine SL.y (op_extract rfl rfl) rfl rfl ?_
          refine SL.y (op_assign rfl) rfl rfl ?_
          refine SL.y (op_assign rfl) rfl rfl ?_
          refine SL.nil ?_
          refine T.seq ?_
          refine T.region ?_
          refine SL.y (op_move rfl) rfl rfl ?_
          refine SL.y (op_move rfl) rfl rfl ?_
          -- op
          refine SL.x (op_callF en42 (vs := [_, _]) rfl (lcol_some ((hT2.mono hX5).mono hY1) ((hL.mono hX5).mono hY1) hqb2)) rfl rfl ?_
          rintro _ _ Y2 ⟨rfl, hY2, rfl⟩
          have hZ2 := (hX5.trans' hY1).trans' hY2
          refine SL.y (op_move rfl) rfl rfl ?_
          refine SL.y (op_extract rfl rfl) rfl rfl ?_
          refine SL.y (op_extract rfl rfl) rfl rfl ?_
          refine SL.y (op_assign rfl) rfl rfl ?_
          refine SL.y (op_assign rfl) rfl rfl ?_
          refine SL.nil ?_
          refine T.seq ?_
          refine T.seq ?_
          refine T.region ?_
          refine SL.y (op_move rfl) rfl rfl ?_
          refine SL.y (op_move rfl) rfl rfl ?_
          first | refine SL.y (op_geqT rfl rfl (by omega)) rfl rfl ?_ | refine SL.y (op_geqF rfl rfl (by omega)) rfl rfl ?_ | refine SL.y (op_geq rfl rfl) rfl rfl ?_
          refine SL.y (op_move rfl) rfl rfl ?_
          first | refine SL.skip rfl rfl ?_ | refine SL.y (op_move rfl) rfl rfl ?_
          first | refine SL.skip rfl rfl ?_ | refine SL.y (op_move rfl) rfl rfl ?_
          -- op
          refine SL.skip rfl rfl ?_
          have hZ3 : X2.le Y2 := hZ2
          first | refine SL.skip rfl rfl ?_ | refine SL.y (op_lssT rfl rfl (by omega)) rfl rfl ?_ | refine SL.y (op_lssF rfl rfl (by omega)) rfl rfl ?_ | refine SL.y (op_lss rfl rfl) rfl rfl ?_
          first | refine SL.y (op_pickT rfl rfl) rfl rfl ?_ | refine SL.y (op_pickF rfl rfl) rfl rfl ?_ | refine SL.y (op_pickB rfl rfl rfl) rfl rfl ?_
          refine SL.y (op_neqB Tryd.underlying4 rfl rfl) rfl rfl ?_
          refine SL.y (op_move rfl) rfl rfl ?_
          first | refine SL.skip rfl rfl ?_ | refine SL.y (op_move rfl) rfl rfl ?_
          first | refine SL.skip rfl rfl ?_ | refine SL.y (op_move rfl) rfl rfl ?_
          first | refine SL.skip rfl rfl ?_ | refine SL.y (op_geqT rfl rfl (by omega)) rfl rfl ?_ | refine SL.y (op_geqF rfl rfl (by omega)) rfl rfl ?_ | refine SL.y (op_geq rfl rfl) rfl rfl ?_
          first | refine SL.skip rfl rfl ?_ | refine SL.y (op_move rfl) rfl rfl ?_
          first | refine SL.skip rfl rfl ?_ | refine SL.y (op_move rfl) rfl rfl ?_
          first | refine SL.skip rfl rfl ?_ | refine SL.y (op_move rfl) rfl rfl ?_
          -- op
          refine SL.x (op_callF en45 (vs := [_]) rfl (columns_spec (hM.mono hZ3))) rfl rfl ?_
          rintro _ _ Y4 ⟨rfl, hY4, rfl⟩
          have hZ4 := hZ3.trans' hY4
          first | refine SL.skip rfl rfl ?_ | refine SL.y (op_lssT rfl rfl (by omega)) rfl rfl ?_ | refine SL.y (op_lssF rfl rfl (by omega)) rfl rfl ?_ | refine SL.y (op_lss rfl rfl) rfl rfl ?_
          first | refine SL.skip rfl rfl ?_ | refine SL.y (op_pickT rfl rfl) rfl rfl ?_ | refine SL.y (op_pickF rfl rfl) rfl rfl ?_ | refine SL.y (op_pickB rfl rfl rfl) rfl rfl ?_
          first | refine SL.skip rfl rfl ?_ | refine SL.y (op_neqB Tryd.underlying4 rfl rfl) rfl rfl ?_
          first | refine SL.y (op_pickT rfl rfl) rfl rfl ?_ | refine SL.y (op_pickF rfl rfl) rfl rfl ?_ | refine SL.y (op_pickB rfl rfl rfl) rfl rfl ?_
          refine SL.y (op_move rfl) rfl rfl ?_
          first | refine SL.skip rfl rfl ?_ | refine SL.y (op_move rfl) rfl rfl ?_
          first | refine SL.skip rfl rfl ?_ | refine SL.y (op_not rfl) rfl rfl ?_
          first | refine SL.skip rfl rfl ?_ | refine SL.y (op_move rfl) rfl rfl ?_
          first | refine SL.skip rfl rfl ?_ | refine SL.y (op_move rfl) rfl rfl ?_
          first | refine SL.skip rfl rfl ?_ | refine SL.y (op_neqT rfl rfl (by omega)) rfl rfl ?_ | refine SL.y (op_neqF rfl rfl (by omega)) rfl rfl ?_ | refine SL.y (op_neq rfl rfl) rfl rfl ?_
          first | refine SL.skip rfl rfl ?_ | refine SL.y (op_pickT rfl rfl) rfl rfl ?_ | refine SL.y (op_pickF rfl rfl) rfl rfl ?_ | refine SL.y (op_pickB rfl rfl rfl) rfl rfl ?_
          first | refine SL.y (op_pickT rfl rfl) rfl rfl ?_ | refine SL.y (op_pickF rfl rfl) rfl rfl ?_ | refine SL.y (op_pickB rfl rfl rfl) rfl rfl ?_
          refine SL.y (op_move rfl) rfl rfl ?_
          first | refine SL.skip rfl rfl ?_ | refine SL.y (op_move rfl) rfl rfl ?_
          first | refine SL.skip rfl rfl ?_ | refine SL.y (op_not rfl) rfl rfl ?_
          first | refine SL.skip rfl rfl ?_ | refine SL.y (op_move rfl) rfl rfl ?_
          first | refine SL.skip rfl rfl ?_ | refine SL.y (op_move rfl) rfl rfl ?_
          first | refine SL.skip rfl rfl ?_ | refine SL.y (op_neqT rfl rfl (by omega)) rfl rfl ?_ | refine SL.y (op_neqF rfl rfl (by omega)) rfl rfl ?_ | refine SL.y (op_neq rfl rfl) rfl rfl ?_
          first | refine SL.skip rfl rfl ?_ | refine SL.y (op_pickT rfl rfl) rfl rfl ?_ | refine SL.y (op_pickF rfl rfl) rfl rfl ?_ | refine SL.y (op_pickB rfl rfl rfl) rfl rfl ?_
          first | refine SL.y (op_pickT rfl rfl) rfl rfl ?_ | refine SL.y (op_pickF rfl rfl) rfl rfl ?_ | refine SL.y (op_pickB rfl rfl rfl) rfl rfl ?_
          refine SL.nil ?_
          refine T.condF rfl ?_
          refine T.skip ?_
          refine T.seq ?_
          refine T.seq ?_
          refine T.region ?_
          refine SL.y (op_move rfl) rfl rfl ?_
          refine SL.y (op_lenS Tryd.underlying29 rfl) rfl rfl ?_
          refine SL.y (op_move (v := .int .i64 ((0 : Nat) : Int)) rfl) rfl rfl ?_
          refine SL.nil ?_
          refine T.block ?_
          -- loop live [1, 2, 6, 7, 8, 15, 16, 17, 18, 137, 138, 139]
          refine T.loopW (fun m env own X' => ∃ k : Nat, m = (allR c ms).length - k ∧ k ≤ (allR c ms).length ∧ X2.le X' ∧ env = [(1, .int .i64 i), (2, .int .i64 (b : Int)), (7, .pointer (some ⟨bm, 0, none⟩)), (8, .pointer (some ⟨bl, 0, none⟩)), (15, .int .i64 0), (16, .bool false), (17, .int .i64 (q1 : Int)), (18, .bool true), (137, .slice At (allR c ms).length cpt), (138, .int .i64 ((allR c ms).length : Int)), (139, .int .i64 (k : Int))] ∧ own = []) (allR c ms).length ⟨0, by simp, by omega, hZ4, rfl, rfl⟩ (by repeat (first | exact Sub.nil | refine Sub.cons rfl ?_)) ?_
          rintro m _ _ V1 ⟨k, rfl, hk, hV1, rfl, rfl⟩
          rcases Nat.lt_or_ge k (allR c ms).length with hkl | hkl
          · obtain ⟨bo, rfl, hBo⟩ := (hC.1.mono hV1).blk (by omega)
            obtain ⟨g1, g2⟩ := conC_get (allR c ms) k hkl
            obtain ⟨b1, b2⟩ := hsm _ (List.getElem_mem hkl)
            have hat := allR_at hr hc6 hkl
            have l1 := mem64_length (allR c ms)[k].1
            have l2 := mem64_length (allR c ms)[k].2
            refine T.seq ?_
            refine T.region ?_
            first | refine SL.y (op_lssT rfl rfl (by omega)) rfl rfl ?_ | refine SL.y (op_lssF rfl rfl (by omega)) rfl rfl ?_ | refine SL.y (op_lss rfl rfl) rfl rfl ?_
            refine SL.nil ?_
            refine T.seq ?_
            refine T.condT rfl ?_
            refine T.skip ?_
            refine T.seq ?_
            refine T.block ?_
            refine T.seq ?_
            refine T.region ?_
            refine SL.y (op_move rfl) rfl rfl ?_
            first | refine SL.y (op_indexN Tryd.underlying29 ty75 rfl rfl (by omega)) rfl rfl ?_ | refine SL.y (op_index Tryd.underlying29 ty75 rfl rfl (by omega) (by omega)) rfl rfl ?_
            -- to 143: op
            refine SL.y (op_loadX ty75 rfl hBo (creadR2 g1 g2 (by omega))) rfl rfl ?_
            refine SL.x (op_alloc z75) rfl rfl ?_
            rintro _ _ _ ⟨B20, rfl, rfl, rfl⟩
            refine SL.y (op_assign rfl) rfl rfl ?_
            refine SL.x (op_store ty75 rfl rfl (by repeat (first | exact AtO.here | apply AtO.there)) rfl rfl rfl) rfl rfl ?_
            rintro _ _ _ ⟨rfl, rfl⟩
            refine SL.nil ?_
            refine T.seq ?_
            refine T.region ?_
            first | refine SL.y (op_load ty75 rfl (by repeat (first | exact AtO.here | apply AtO.there)) rfl) rfl rfl ?_ | refine SL.y (op_loadX ty75 rfl (by assumption) rfl) rfl rfl ?_
            -- op
            refine SL.x (op_callF en46 (vs := [_]) rfl (lists46_spec (allR c ms)[k].1 (allR c ms)[k].2 b1 b2)) rfl rfl ?_
            rintro _ _ V2 ⟨rfl, hV2, u, w, rfl, hu, hw⟩
            refine SL.y (op_move rfl) rfl rfl ?_
            refine SL.y (op_extract rfl rfl) rfl rfl ?_
            refine SL.y (op_extract rfl rfl) rfl rfl ?_
            refine SL.y (op_assign rfl) rfl rfl ?_
            refine SL.y (op_assign rfl) rfl rfl ?_
            refine SL.nil ?_
            refine T.seq ?_
            refine T.region ?_
            refine SL.y (op_move rfl) rfl rfl ?_
            refine SL.y (op_move rfl) rfl rfl ?_
            first | refine SL.skip rfl rfl ?_ | refine SL.y (op_move rfl) rfl rfl ?_
            first | refine SL.skip rfl rfl ?_ | refine SL.y (op_move rfl) rfl rfl ?_
            -- op
            have hV2' := hV1.trans' hV2
            refine SL.skip rfl rfl ?_
            first | refine SL.skip rfl rfl ?_ | refine SL.y (op_move rfl) rfl rfl ?_
            first | refine SL.skip rfl rfl ?_ | refine SL.y (op_move rfl) rfl rfl ?_
            first | refine SL.skip rfl rfl ?_ | refine SL.y (op_move rfl) rfl rfl ?_
            -- op
            refine SL.skip rfl rfl ?_
            have hV5' := hV2'
            have hw5 := hw
            first | refine SL.skip rfl rfl ?_ | refine SL.y (op_neqB Tryd.underlying4 rfl rfl) rfl rfl ?_
            first | refine SL.y (op_pickT rfl rfl) rfl rfl ?_ | refine SL.y (op_pickF rfl rfl) rfl rfl ?_ | refine SL.y (op_pickB rfl rfl rfl) rfl rfl ?_
            refine SL.y (op_move rfl) rfl rfl ?_
            first | refine SL.skip rfl rfl ?_ | refine SL.y (op_move rfl) rfl rfl ?_
            first | refine SL.skip rfl rfl ?_ | refine SL.y (op_move rfl) rfl rfl ?_
            first | refine SL.skip rfl rfl ?_ | refine SL.y (op_move rfl) rfl rfl ?_
            first | refine SL.skip rfl rfl ?_ | refine SL.y (op_move rfl) rfl rfl ?_
            -- op
            refine SL.x (op_callF en47 (vs := [_, _]) rfl (contains_spec hw5 (by omega) (b : Int) (col_leq hr hc6 hb hq1 hqb1 (q := k) (by omega) (by rw [hat])))) rfl rfl ?_
            rintro _ _ V6 ⟨rfl, hV6, rfl⟩
            first | refine SL.skip rfl rfl ?_ | refine SL.y (op_move rfl) rfl rfl ?_
            first | refine SL.skip rfl rfl ?_ | refine SL.y (op_move rfl) rfl rfl ?_
            first | refine SL.skip rfl rfl ?_ | refine SL.y (op_move rfl) rfl rfl ?_
            -- op
            refine SL.x (op_callF en19 (vs := [_, _, _]) rfl (leq_val ((hN.mono hV5').mono hV6) rfl)) rfl rfl ?_
            rintro _ _ V7 ⟨rfl, hV7, rfl⟩
            refine SL.y (op_neqBS Tryd.underlying4 rfl rfl) rfl rfl ?_
            have hV8' := (hV5'.trans' hV6).trans' hV7
            first | refine SL.skip rfl rfl ?_ | refine SL.y (op_pickT rfl rfl) rfl rfl ?_ | refine SL.y (op_pickF rfl rfl) rfl rfl ?_ | refine SL.y (op_pickB rfl rfl rfl) rfl rfl ?_
            first | refine SL.y (op_pickT rfl rfl) rfl rfl ?_ | refine SL.y (op_pickF rfl rfl) rfl rfl ?_ | refine SL.y (op_pickB rfl rfl rfl) rfl rfl ?_
            refine SL.nil ?_
            refine T.condF rfl ?_
            refine T.skip ?_
            refine T.blk ?_
            refine T.region ?_
            first | refine SL.y (op_addN (q := 1) rfl rfl (by omega)) rfl rfl ?_ | refine SL.y (op_add rfl rfl (by omega) (by omega)) rfl rfl ?_ | refine SL.y (op_addW rfl rfl) rfl rfl ?_
            refine SL.y (op_move rfl) rfl rfl ?_
            refine SL.nil ?_
            -- cut
            refine T.drop B20 (by repeat (first | exact AtO.here | apply AtO.there)) ?_
            exact T.backW ((allR c ms).length - (k + 1)) (by omega) ⟨k + 1, rfl, by omega, hV8', rfl, rfl⟩ (by repeat (first | exact Sub.nil | refine Sub.cons rfl ?_))
          · refine T.seq ?_
            refine T.region ?_
            first | refine SL.y (op_lssT rfl rfl (by omega)) rfl rfl ?_ | refine SL.y (op_lssF rfl rfl (by omega)) rfl rfl ?_ | refine SL.y (op_lss rfl rfl) rfl rfl ?_
            refine SL.nil ?_
            refine T.seq ?_
            refine T.condF rfl ?_
            refine T.exit (T.exitCode (T.exitCut (T.exitBlk ?_)))
            refine T.seq ?_
            refine T.region ?_
            refine SL.y (op_move rfl) rfl rfl ?_
            refine SL.y (op_not rfl) rfl rfl ?_
            refine SL.y (op_move rfl) rfl rfl ?_
            first | refine SL.skip rfl rfl ?_ | refine SL.y (op_move rfl) rfl rfl ?_
            first | refine SL.skip rfl rfl ?_ | refine SL.y (op_not rfl) rfl rfl ?_
            first | refine SL.y (op_pickT rfl rfl) rfl rfl ?_ | refine SL.y (op_pickF rfl rfl) rfl rfl ?_ | refine SL.y (op_pickB rfl rfl rfl) rfl rfl ?_
            refine SL.y (op_move rfl) rfl rfl ?_
            first | refine SL.skip rfl rfl ?_ | refine SL.y (op_move rfl) rfl rfl ?_
            first | refine SL.skip rfl rfl ?_ | refine SL.y (op_move rfl) rfl rfl ?_
            first | refine SL.skip rfl rfl ?_ | refine SL.y (op_move rfl) rfl rfl ?_
            -- op
            refine SL.skip rfl rfl ?_
            first | refine SL.skip rfl rfl ?_ | refine SL.y (op_move rfl) rfl rfl ?_
            first | refine SL.skip rfl rfl ?_ | refine SL.y (op_move rfl) rfl rfl ?_
            first | refine SL.skip rfl rfl ?_ | refine SL.y (op_move rfl) rfl rfl ?_
            -- op
            refine SL.skip rfl rfl ?_
            first | refine SL.skip rfl rfl ?_ | refine SL.y (op_eqlB Tryd.underlying4 rfl rfl) rfl rfl ?_
            first | refine SL.y (op_pickT rfl rfl) rfl rfl ?_ | refine SL.y (op_pickF rfl rfl) rfl rfl ?_ | refine SL.y (op_pickB rfl rfl rfl) rfl rfl ?_
            refine SL.y (op_assign rfl) rfl rfl ?_
            refine SL.nil ?_
            -- ret
            refine T.ret1 rfl (ResIs.tmp rfl) ?_
            rfl
        · skip
          refine SL.x (op_callF en41 (vs := [_, _]) rfl (lrow_none (hL.mono hX5) (by simp only [inB, decide_eq_false_iff_not]; omega))) rfl rfl ?_
          rintro _ _ Y1 ⟨rfl, hY1, rfl⟩
          refine SL.y (op_move rfl) rfl rfl ?_
          refine SL.y (op_extract rfl rfl) rfl rfl ?_
          refine SL.y (op_extract rfl rfl) rfl rfl ?_
          refine SL.y (op_assign rfl) rfl rfl ?_
          refine SL.y (op_assign rfl) rfl rfl ?_
          refine SL.nil ?_
          refine T.seq ?_
          refine T.region ?_
          refine SL.y (op_move rfl) rfl rfl ?_
          refine SL.y (op_move rfl) rfl rfl ?_
          -- op
          refine SL.x (op_callF en42 (vs := [_, _]) rfl (lcol_none ((hT2.mono hX5).mono hY1) ((hL.mono hX5).mono hY1) (by simp only [inB, decide_eq_false_iff_not]; omega))) rfl rfl ?_
          rintro _ _ Y2 ⟨rfl, hY2, rfl⟩
          have hZ2 := (hX5.trans' hY1).trans' hY2
          refine SL.y (op_move rfl) rfl rfl ?_
          refine SL.y (op_extract rfl rfl) rfl rfl ?_
          refine SL.y (op_extract rfl rfl) rfl rfl ?_
          refine SL.y (op_assign rfl) rfl rfl ?_
          refine SL.y (op_assign rfl) rfl rfl ?_
          refine SL.nil ?_
          refine T.seq ?_
          refine T.seq ?_
          refine T.region ?_
          refine SL.y (op_move rfl) rfl rfl ?_
          refine SL.y (op_move rfl) rfl rfl ?_
          first | refine SL.y (op_geqT rfl rfl (by omega)) rfl rfl ?_ | refine SL.y (op_geqF rfl rfl (by omega)) rfl rfl ?_ | refine SL.y (op_geq rfl rfl) rfl rfl ?_
          refine SL.y (op_move rfl) rfl rfl ?_
          first | refine SL.skip rfl rfl ?_ | refine SL.y (op_move rfl) rfl rfl ?_
          first | refine SL.skip rfl rfl ?_ | refine SL.y (op_move rfl) rfl rfl ?_
          -- op
          refine SL.skip rfl rfl ?_
          have hZ3 : X2.le Y2 := hZ2
          first | refine SL.skip rfl rfl ?_ | refine SL.y (op_lssT rfl rfl (by omega)) rfl rfl ?_ | refine SL.y (op_lssF rfl rfl (by omega)) rfl rfl ?_ | refine SL.y (op_lss rfl rfl) rfl rfl ?_
          first | refine SL.y (op_pickT rfl rfl) rfl rfl ?_ | refine SL.y (op_pickF rfl rfl) rfl rfl ?_ | refine SL.y (op_pickB rfl rfl rfl) rfl rfl ?_
          refine SL.y (op_neqB Tryd.underlying4 rfl rfl) rfl rfl ?_
          refine SL.y (op_move rfl) rfl rfl ?_
          first | refine SL.skip rfl rfl ?_ | refine SL.y (op_move rfl) rfl rfl ?_
          first | refine SL.skip rfl rfl ?_ | refine SL.y (op_move rfl) rfl rfl ?_
          first | refine SL.skip rfl rfl ?_ | refine SL.y (op_geqT rfl rfl (by omega)) rfl rfl ?_ | refine SL.y (op_geqF rfl rfl (by omega)) rfl rfl ?_ | refine SL.y (op_geq rfl rfl) rfl rfl ?_
          first | refine SL.skip rfl rfl ?_ | refine SL.y (op_move rfl) rfl rfl ?_
          first | refine SL.skip rfl rfl ?_ | refine SL.y (op_move rfl) rfl rfl ?_
          first | refine SL.skip rfl rfl ?_ | refine SL.y (op_move rfl) rfl rfl ?_
          -- op
          refine SL.x (op_callF en45 (vs := [_]) rfl (columns_spec (hM.mono hZ3))) rfl rfl ?_
          rintro _ _ Y4 ⟨rfl, hY4, rfl⟩
          have hZ4 := hZ3.trans' hY4
          first | refine SL.skip rfl rfl ?_ | refine SL.y (op_lssT rfl rfl (by omega)) rfl rfl ?_ | refine SL.y (op_lssF rfl rfl (by omega)) rfl rfl ?_ | refine SL.y (op_lss rfl rfl) rfl rfl ?_
          first | refine SL.skip rfl rfl ?_ | refine SL.y (op_pickT rfl rfl) rfl rfl ?_ | refine SL.y (op_pickF rfl rfl) rfl rfl ?_ | refine SL.y (op_pickB rfl rfl rfl) rfl rfl ?_
          first | refine SL.skip rfl rfl ?_ | refine SL.y (op_neqB Tryd.underlying4 rfl rfl) rfl rfl ?_
          first | refine SL.y (op_pickT rfl rfl) rfl rfl ?_ | refine SL.y (op_pickF rfl rfl) rfl rfl ?_ | refine SL.y (op_pickB rfl rfl rfl) rfl rfl ?_
          refine SL.y (op_move rfl) rfl rfl ?_
          first | refine SL.skip rfl rfl ?_ | refine SL.y (op_move rfl) rfl rfl ?_
          first | refine SL.skip rfl rfl ?_ | refine SL.y (op_not rfl) rfl rfl ?_
          first | refine SL.skip rfl rfl ?_ | refine SL.y (op_move rfl) rfl rfl ?_
          first | refine SL.skip rfl rfl ?_ | refine SL.y (op_move rfl) rfl rfl ?_
          first | refine SL.skip rfl rfl ?_ | refine SL.y (op_neqT rfl rfl (by omega)) rfl rfl ?_ | refine SL.y (op_neqF rfl rfl (by omega)) rfl rfl ?_ | refine SL.y (op_neq rfl rfl) rfl rfl ?_
          first | refine SL.skip rfl rfl ?_ | refine SL.y (op_pickT rfl rfl) rfl rfl ?_ | refine SL.y (op_pickF rfl rfl) rfl rfl ?_ | refine SL.y (op_pickB rfl rfl rfl) rfl rfl ?_
          first | refine SL.y (op_pickT rfl rfl) rfl rfl ?_ | refine SL.y (op_pickF rfl rfl) rfl rfl ?_ | refine SL.y (op_pickB rfl rfl rfl) rfl rfl ?_
          refine SL.y (op_move rfl) rfl rfl ?_
          first | refine SL.skip rfl rfl ?_ | refine SL.y (op_move rfl) rfl rfl ?_
          first | refine SL.skip rfl rfl ?_ | refine SL.y (op_not rfl) rfl rfl ?_
          first | refine SL.skip rfl rfl ?_ | refine SL.y (op_move rfl) rfl rfl ?_
          first | refine SL.skip rfl rfl ?_ | refine SL.y (op_move rfl) rfl rfl ?_
          first | refine SL.skip rfl rfl ?_ | refine SL.y (op_neqT rfl rfl (by omega)) rfl rfl ?_ | refine SL.y (op_neqF rfl rfl (by omega)) rfl rfl ?_ | refine SL.y (op_neq rfl rfl) rfl rfl ?_
          first | refine SL.skip rfl rfl ?_ | refine SL.y (op_pickT rfl rfl) rfl rfl ?_ | refine SL.y (op_pickF rfl rfl) rfl rfl ?_ | refine SL.y (op_pickB rfl rfl rfl) rfl rfl ?_
          first | refine SL.y (op_pickT rfl rfl) rfl rfl ?_ | refine SL.y (op_pickF rfl rfl) rfl rfl ?_ | refine SL.y (op_pickB rfl rfl rfl) rfl rfl ?_
          refine SL.nil ?_
          refine T.condF rfl ?_
          refine T.skip ?_
          refine T.seq ?_
          refine T.seq ?_
          refine T.region ?_
          refine SL.y (op_move rfl) rfl rfl ?_
          refine SL.y (op_lenS Tryd.underlying29 rfl) rfl rfl ?_
          refine SL.y (op_move (v := .int .i64 ((0 : Nat) : Int)) rfl) rfl rfl ?_
          refine SL.nil ?_
          refine T.block ?_
          -- loop live [1, 2, 6, 7, 8, 15, 16, 17, 18, 137, 138, 139]
          refine T.loopW (fun m env own X' => ∃ k : Nat, m = (allR c ms).length - k ∧ k ≤ (allR c ms).length ∧ X2.le X' ∧ env = [(1, .int .i64 i), (2, .int .i64 j), (7, .pointer (some ⟨bm, 0, none⟩)), (8, .pointer (some ⟨bl, 0, none⟩)), (15, .int .i64 0), (16, .bool false), (17, .int .i64 0), (18, .bool false), (137, .slice At (allR c ms).length cpt), (138, .int .i64 ((allR c ms).length : Int)), (139, .int .i64 (k : Int))] ∧ own = []) (allR c ms).length ⟨0, by simp, by omega, hZ4, rfl, rfl⟩ (by repeat (first | exact Sub.nil | refine Sub.cons rfl ?_)) ?_
          rintro m _ _ V1 ⟨k, rfl, hk, hV1, rfl, rfl⟩
          rcases Nat.lt_or_ge k (allR c ms).length with hkl | hkl
          · obtain ⟨bo, rfl, hBo⟩ := (hC.1.mono hV1).blk (by omega)
            obtain ⟨g1, g2⟩ := conC_get (allR c ms) k hkl
            obtain ⟨b1, b2⟩ := hsm _ (List.getElem_mem hkl)
            have hat := allR_at hr hc6 hkl
            have l1 := mem64_length (allR c ms)[k].1
            have l2 := mem64_length (allR c ms)[k].2
            refine T.seq ?_
            refine T.region ?_
            first | refine SL.y (op_lssT rfl rfl (by omega)) rfl rfl ?_ | refine SL.y (op_lssF rfl rfl (by omega)) rfl rfl ?_ | refine SL.y (op_lss rfl rfl) rfl rfl ?_
            refine SL.nil ?_
            refine T.seq ?_
            refine T.condT rfl ?_
            refine T.skip ?_
            refine T.seq ?_
            refine T.block ?_
            refine T.seq ?_
            refine T.region ?_
            refine SL.y (op_move rfl) rfl rfl ?_
            first | refine SL.y (op_indexN Tryd.underlying29 ty75 rfl rfl (by omega)) rfl rfl ?_ | refine SL.y (op_index Tryd.underlying29 ty75 rfl rfl (by omega) (by omega)) rfl rfl ?_
            -- to 143: op
            refine SL.y (op_loadX ty75 rfl hBo (creadR2 g1 g2 (by omega))) rfl rfl ?_
            refine SL.x (op_alloc z75) rfl rfl ?_
            rintro _ _ _ ⟨B20, rfl, rfl, rfl⟩
            refine SL.y (op_assign rfl) rfl rfl ?_
            refine SL.x (op_store ty75 rfl rfl (by repeat (first | exact AtO.here | apply AtO.there)) rfl rfl rfl) rfl rfl ?_
            rintro _ _ _ ⟨rfl, rfl⟩
            refine SL.nil ?_
            refine T.seq ?_
            refine T.region ?_
            first | refine SL.y (op_load ty75 rfl (by repeat (first | exact AtO.here | apply AtO.there)) rfl) rfl rfl ?_ | refine SL.y (op_loadX ty75 rfl (by assumption) rfl) rfl rfl ?_
            -- op
            refine SL.x (op_callF en46 (vs := [_]) rfl (lists46_spec (allR c ms)[k].1 (allR c ms)[k].2 b1 b2)) rfl rfl ?_
            rintro _ _ V2 ⟨rfl, hV2, u, w, rfl, hu, hw⟩
            refine SL.y (op_move rfl) rfl rfl ?_
            refine SL.y (op_extract rfl rfl) rfl rfl ?_
            refine SL.y (op_extract rfl rfl) rfl rfl ?_
            refine SL.y (op_assign rfl) rfl rfl ?_
            refine SL.y (op_assign rfl) rfl rfl ?_
            refine SL.nil ?_
            refine T.seq ?_
            refine T.region ?_
            refine SL.y (op_move rfl) rfl rfl ?_
            refine SL.y (op_move rfl) rfl rfl ?_
            first | refine SL.skip rfl rfl ?_ | refine SL.y (op_move rfl) rfl rfl ?_
            first | refine SL.skip rfl rfl ?_ | refine SL.y (op_move rfl) rfl rfl ?_
            -- op
            have hV2' := hV1.trans' hV2
            refine SL.skip rfl rfl ?_
            first | refine SL.skip rfl rfl ?_ | refine SL.y (op_move rfl) rfl rfl ?_
            first | refine SL.skip rfl rfl ?_ | refine SL.y (op_move rfl) rfl rfl ?_
            first | refine SL.skip rfl rfl ?_ | refine SL.y (op_move rfl) rfl rfl ?_
            -- op
            refine SL.skip rfl rfl ?_
            have hV5' := hV2'
            have hw5 := hw
            first | refine SL.skip rfl rfl ?_ | refine SL.y (op_neqB Tryd.underlying4 rfl rfl) rfl rfl ?_
            first | refine SL.y (op_pickT rfl rfl) rfl rfl ?_ | refine SL.y (op_pickF rfl rfl) rfl rfl ?_ | refine SL.y (op_pickB rfl rfl rfl) rfl rfl ?_
            refine SL.y (op_move rfl) rfl rfl ?_
            first | refine SL.skip rfl rfl ?_ | refine SL.y (op_move rfl) rfl rfl ?_
            first | refine SL.skip rfl rfl ?_ | refine SL.y (op_move rfl) rfl rfl ?_
            first | refine SL.skip rfl rfl ?_ | refine SL.y (op_move rfl) rfl rfl ?_
            first | refine SL.skip rfl rfl ?_ | refine SL.y (op_move rfl) rfl rfl ?_
            -- op
            refine SL.skip rfl rfl ?_
            first | refine SL.skip rfl rfl ?_ | refine SL.y (op_move rfl) rfl rfl ?_
            first | refine SL.skip rfl rfl ?_ | refine SL.y (op_move rfl) rfl rfl ?_
            first | refine SL.skip rfl rfl ?_ | refine SL.y (op_move rfl) rfl rfl ?_
            -- op
            refine SL.skip rfl rfl ?_
            have hV8' := hV5'
            first | refine SL.skip rfl rfl ?_ | refine SL.y (op_neqB Tryd.underlying4 rfl rfl) rfl rfl ?_
            first | refine SL.skip rfl rfl ?_ | refine SL.y (op_pickT rfl rfl) rfl rfl ?_ | refine SL.y (op_pickF rfl rfl) rfl rfl ?_ | refine SL.y (op_pickB rfl rfl rfl) rfl rfl ?_
            first | refine SL.y (op_pickT rfl rfl) rfl rfl ?_ | refine SL.y (op_pickF rfl rfl) rfl rfl ?_ | refine SL.y (op_pickB rfl rfl rfl) rfl rfl ?_
            refine SL.nil ?_
            refine T.condF rfl ?_
            refine T.skip ?_
            refine T.blk ?_
            refine T.region ?_
            first | refine SL.y (op_addN (q := 1) rfl rfl (by omega)) rfl rfl ?_ | refine SL.y (op_add rfl rfl (by omega) (by omega)) rfl rfl ?_ | refine SL.y (op_addW rfl rfl) rfl rfl ?_
            refine SL.y (op_move rfl) rfl rfl ?_
            refine SL.nil ?_
            -- cut
            refine T.drop B20 (by repeat (first | exact AtO.here | apply AtO.there)) ?_
            exact T.backW ((allR c ms).length - (k + 1)) (by omega) ⟨k + 1, rfl, by omega, hV8', rfl, rfl⟩ (by repeat (first | exact Sub.nil | refine Sub.cons rfl ?_))
          · refine T.seq ?_
            refine T.region ?_
            first | refine SL.y (op_lssT rfl rfl (by omega)) rfl rfl ?_ | refine SL.y (op_lssF rfl rfl (by omega)) rfl rfl ?_ | refine SL.y (op_lss rfl rfl) rfl rfl ?_
            refine SL.nil ?_
            refine T.seq ?_
            refine T.condF rfl ?_
            refine T.exit (T.exitCode (T.exitCut (T.exitBlk ?_)))
            refine T.seq ?_
            refine T.region ?_
            refine SL.y (op_move rfl) rfl rfl ?_
            refine SL.y (op_not rfl) rfl rfl ?_
            refine SL.y (op_move rfl) rfl rfl ?_
            first | refine SL.skip rfl rfl ?_ | refine SL.y (op_move rfl) rfl rfl ?_
            first | refine SL.skip rfl rfl ?_ | refine SL.y (op_not rfl) rfl rfl ?_
            first | refine SL.y (op_pickT rfl rfl) rfl rfl ?_ | refine SL.y (op_pickF rfl rfl) rfl rfl ?_ | refine SL.y (op_pickB rfl rfl rfl) rfl rfl ?_
            refine SL.y (op_move rfl) rfl rfl ?_
            first | refine SL.skip rfl rfl ?_ | refine SL.y (op_move rfl) rfl rfl ?_
            first | refine SL.skip rfl rfl ?_ | refine SL.y (op_move rfl) rfl rfl ?_
            first | refine SL.skip rfl rfl ?_ | refine SL.y (op_move rfl) rfl rfl ?_
            -- op
            refine SL.skip rfl rfl ?_
            first | refine SL.skip rfl rfl ?_ | refine SL.y (op_move rfl) rfl rfl ?_
            first | refine SL.skip rfl rfl ?_ | refine SL.y (op_move rfl) rfl rfl ?_
            first | refine SL.skip rfl rfl ?_ | refine SL.y (op_move rfl) rfl rfl ?_
            -- op
            refine SL.skip rfl rfl ?_
            first | refine SL.skip rfl rfl ?_ | refine SL.y (op_eqlB Tryd.underlying4 rfl rfl) rfl rfl ?_
            first | refine SL.y (op_pickT rfl rfl) rfl rfl ?_ | refine SL.y (op_pickF rfl rfl) rfl rfl ?_ | refine SL.y (op_pickB rfl rfl rfl) rfl rfl ?_
            refine SL.y (op_assign rfl) rfl rfl ?_
            refine SL.nil ?_
            -- ret
            refine T.ret1 rfl (ResIs.tmp rfl) ?_
            rfl
    · rcases Int.lt_or_le i ms.length with e2 | e2
      · obtain ⟨a, rfl⟩ := Int.eq_ofNat_of_zero_le e1
        have ha : a < ms.length := by omega
        obtain ⟨k1, hk1, hka1, hka2⟩ := row_at hr hc6 hms ha
        rcases Int.lt_or_le j 0 with f1 | f1
        · skip
          refine SL.x (op_callF en41 (vs := [_, _]) rfl (lrow_some (hL.mono hX5) hka2)) rfl rfl ?_
          rintro _ _ Y1 ⟨rfl, hY1, rfl⟩
          refine SL.y (op_move rfl) rfl rfl ?_
          refine SL.y (op_extract rfl rfl) rfl rfl ?_
          refine SL.y (op_extract rfl rfl) rfl rfl ?_
          refine SL.y (op_assign rfl) rfl rfl ?_
          refine SL.y (op_assign rfl) rfl rfl ?_
          refine SL.nil ?_
          refine T.seq ?_
          refine T.region ?_
          refine SL.y (op_move rfl) rfl rfl ?_
          refine SL.y (op_move rfl) rfl rfl ?_
          -- op
          refine SL.x (op_callF en42 (vs := [_, _]) rfl (lcol_none ((hT2.mono hX5).mono hY1) ((hL.mono hX5).mono hY1) (by simp only [inB, decide_eq_false_iff_not]; omega))) rfl rfl ?_
          rintro _ _ Y2 ⟨rfl, hY2, rfl⟩
          have hZ2 := (hX5.trans' hY1).trans' hY2
          refine SL.y (op_move rfl) rfl rfl ?_
          refine SL.y (op_extract rfl rfl) rfl rfl ?_
          refine SL.y (op_extract rfl rfl) rfl rfl ?_
          refine SL.y (op_assign rfl) rfl rfl ?_
          refine SL.y (op_assign rfl) rfl rfl ?_
          refine SL.nil ?_
          refine T.seq ?_
          refine T.seq ?_
          refine T.region ?_
          refine SL.y (op_move rfl) rfl rfl ?_
          refine SL.y (op_move rfl) rfl rfl ?_
          first | refine SL.y (op_geqT rfl rfl (by omega)) rfl rfl ?_ | refine SL.y (op_geqF rfl rfl (by omega)) rfl rfl ?_ | refine SL.y (op_geq rfl rfl) rfl rfl ?_
          refine SL.y (op_move rfl) rfl rfl ?_
          first | refine SL.skip rfl rfl ?_ | refine SL.y (op_move rfl) rfl rfl ?_
          first | refine SL.skip rfl rfl ?_ | refine SL.y (op_move rfl) rfl rfl ?_
          -- op
          refine SL.x (op_callF en44 (vs := [_]) rfl (rows_spec (hM.mono hZ2))) rfl rfl ?_
          rintro _ _ Y3 ⟨rfl, hY3, rfl⟩
          have hZ3 := hZ2.trans' hY3
          first | refine SL.skip rfl rfl ?_ | refine SL.y (op_lssT rfl rfl (by omega)) rfl rfl ?_ | refine SL.y (op_lssF rfl rfl (by omega)) rfl rfl ?_ | refine SL.y (op_lss rfl rfl) rfl rfl ?_
          first | refine SL.y (op_pickT rfl rfl) rfl rfl ?_ | refine SL.y (op_pickF rfl rfl) rfl rfl ?_ | refine SL.y (op_pickB rfl rfl rfl) rfl rfl ?_
          refine SL.y (op_neqB Tryd.underlying4 rfl rfl) rfl rfl ?_
          refine SL.y (op_move rfl) rfl rfl ?_
          first | refine SL.skip rfl rfl ?_ | refine SL.y (op_move rfl) rfl rfl ?_
          first | refine SL.skip rfl rfl ?_ | refine SL.y (op_move rfl) rfl rfl ?_
          first | refine SL.skip rfl rfl ?_ | refine SL.y (op_geqT rfl rfl (by omega)) rfl rfl ?_ | refine SL.y (op_geqF rfl rfl (by omega)) rfl rfl ?_ | refine SL.y (op_geq rfl rfl) rfl rfl ?_
          first | refine SL.skip rfl rfl ?_ | refine SL.y (op_move rfl) rfl rfl ?_
          first | refine SL.skip rfl rfl ?_ | refine SL.y (op_move rfl) rfl rfl ?_
          first | refine SL.skip rfl rfl ?_ | refine SL.y (op_move rfl) rfl rfl ?_
          -- op
          refine SL.skip rfl rfl ?_
          have hZ4 : X2.le Y3 := hZ3
          first | refine SL.skip rfl rfl ?_ | refine SL.y (op_lssT rfl rfl (by omega)) rfl rfl ?_ | refine SL.y (op_lssF rfl rfl (by omega)) rfl rfl ?_ | refine SL.y (op_lss rfl rfl) rfl rfl ?_
          first | refine SL.skip rfl rfl ?_ | refine SL.y (op_pickT rfl rfl) rfl rfl ?_ | refine SL.y (op_pickF rfl rfl) rfl rfl ?_ | refine SL.y (op_pickB rfl rfl rfl) rfl rfl ?_
          first | refine SL.skip rfl rfl ?_ | refine SL.y (op_neqB Tryd.underlying4 rfl rfl) rfl rfl ?_
          first | refine SL.y (op_pickT rfl rfl) rfl rfl ?_ | refine SL.y (op_pickF rfl rfl) rfl rfl ?_ | refine SL.y (op_pickB rfl rfl rfl) rfl rfl ?_
          refine SL.y (op_move rfl) rfl rfl ?_
          first | refine SL.skip rfl rfl ?_ | refine SL.y (op_move rfl) rfl rfl ?_
          first | refine SL.skip rfl rfl ?_ | refine SL.y (op_not rfl) rfl rfl ?_
          first | refine SL.skip rfl rfl ?_ | refine SL.y (op_move rfl) rfl rfl ?_
          first | refine SL.skip rfl rfl ?_ | refine SL.y (op_move rfl) rfl rfl ?_
          first | refine SL.skip rfl rfl ?_ | refine SL.y (op_neqT rfl rfl (by omega)) rfl rfl ?_ | refine SL.y (op_neqF rfl rfl (by omega)) rfl rfl ?_ | refine SL.y (op_neq rfl rfl) rfl rfl ?_
          first | refine SL.skip rfl rfl ?_ | refine SL.y (op_pickT rfl rfl) rfl rfl ?_ | refine SL.y (op_pickF rfl rfl) rfl rfl ?_ | refine SL.y (op_pickB rfl rfl rfl) rfl rfl ?_
          first | refine SL.y (op_pickT rfl rfl) rfl rfl ?_ | refine SL.y (op_pickF rfl rfl) rfl rfl ?_ | refine SL.y (op_pickB rfl rfl rfl) rfl rfl ?_
          refine SL.y (op_move rfl) rfl rfl ?_
          first | refine SL.skip rfl rfl ?_ | refine SL.y (op_move rfl) rfl rfl ?_
          first | refine SL.skip rfl rfl ?_ | refine SL.y (op_not rfl) rfl rfl ?_
          first | refine SL.skip rfl rfl ?_ | refine SL.y (op_move rfl) rfl rfl ?_
          first | refine SL.skip rfl rfl ?_ | refine SL.y (op_move rfl) rfl rfl ?_
          first | refine SL.skip rfl rfl ?_ | refine SL.y (op_neqT rfl rfl (by omega)) rfl rfl ?_ | refine SL.y (op_neqF rfl rfl (by omega)) rfl rfl ?_ | refine SL.y (op_neq rfl rfl) rfl rfl ?_
          first | refine SL.skip rfl rfl ?_ | refine SL.y (op_pickT rfl rfl) rfl rfl ?_ | refine SL.y (op_pickF rfl rfl) rfl rfl ?_ | refine SL.y (op_pickB rfl rfl rfl) rfl rfl ?_
          first | refine SL.y (op_pickT rfl rfl) rfl rfl ?_ | refine SL.y (op_pickF rfl rfl) rfl rfl ?_ | refine SL.y (op_pickB rfl rfl rfl) rfl rfl ?_
          refine SL.nil ?_
          refine T.condF rfl ?_
          refine T.skip ?_
          refine T.seq ?_
          refine T.seq ?_
          refine T.region ?_
          refine SL.y (op_move rfl) rfl rfl ?_
          refine SL.y (op_lenS Tryd.underlying29 rfl) rfl rfl ?_
          refine SL.y (op_move (v := .int .i64 ((0 : Nat) : Int)) rfl) rfl rfl ?_
          refine SL.nil ?_
          refine T.block ?_
          -- loop live [1, 2, 6, 7, 8, 15, 16, 17, 18, 137, 138, 139]
          refine T.loopW (fun m env own X' => ∃ k : Nat, m = (allR c ms).length - k ∧ k ≤ (allR c ms).length ∧ X2.le X' ∧ env = [(1, .int .i64 (a : Int)), (2, .int .i64 j), (7, .pointer (some ⟨bm, 0, none⟩)), (8, .pointer (some ⟨bl, 0, none⟩)), (15, .int .i64 (k1 : Int)), (16, .bool true), (17, .int .i64 0), (18, .bool false), (137, .slice At (allR c ms).length cpt), (138, .int .i64 ((allR c ms).length : Int)), (139, .int .i64 (k : Int))] ∧ own = []) (allR c ms).length ⟨0, by simp, by omega, hZ4, rfl, rfl⟩ (by repeat (first | exact Sub.nil | refine Sub.cons rfl ?_)) ?_
          rintro m _ _ V1 ⟨k, rfl, hk, hV1, rfl, rfl⟩
          rcases Nat.lt_or_ge k (allR c ms).length with hkl | hkl
          · obtain ⟨bo, rfl, hBo⟩ := (hC.1.mono hV1).blk (by omega)
            obtain ⟨g1, g2⟩ := conC_get (allR c ms) k hkl
            obtain ⟨b1, b2⟩ := hsm _ (List.getElem_mem hkl)
            have hat := allR_at hr hc6 hkl
            have l1 := mem64_length (allR c ms)[k].1
            have l2 := mem64_length (allR c ms)[k].2
            refine T.seq ?_
            refine T.region ?_
            first | refine SL.y (op_lssT rfl rfl (by omega)) rfl rfl ?_ | refine SL.y (op_lssF rfl rfl (by omega)) rfl rfl ?_ | refine SL.y (op_lss rfl rfl) rfl rfl ?_
            refine SL.nil ?_
            refine T.seq ?_
            refine T.condT rfl ?_
            refine T.skip ?_
            refine T.seq ?_
            refine T.block ?_
            refine T.seq ?_
            refine T.region ?_
            refine SL.y (op_move rfl) rfl rfl ?_
            first | refine SL.y (op_indexN Tryd.underlying29 ty75 rfl rfl (by omega)) rfl rfl ?_ | refine SL.y (op_index Tryd.underlying29 ty75 rfl rfl (by omega) (by omega)) rfl rfl ?_
            -- to 143: op
            refine SL.y (op_loadX ty75 rfl hBo (creadR2 g1 g2 (by omega))) rfl rfl ?_
            refine SL.x (op_alloc z75) rfl rfl ?_
            rintro _ _ _ ⟨B20, rfl, rfl, rfl⟩
            refine SL.y (op_assign rfl) rfl rfl ?_
            refine SL.x (op_store ty75 rfl rfl (by repeat (first | exact AtO.here | apply AtO.there)) rfl rfl rfl) rfl rfl ?_
            rintro _ _ _ ⟨rfl, rfl⟩
            refine SL.nil ?_
            refine T.seq ?_
            refine T.region ?_
            first | refine SL.y (op_load ty75 rfl (by repeat (first | exact AtO.here | apply AtO.there)) rfl) rfl rfl ?_ | refine SL.y (op_loadX ty75 rfl (by assumption) rfl) rfl rfl ?_
            -- op
            refine SL.x (op_callF en46 (vs := [_]) rfl (lists46_spec (allR c ms)[k].1 (allR c ms)[k].2 b1 b2)) rfl rfl ?_
            rintro _ _ V2 ⟨rfl, hV2, u, w, rfl, hu, hw⟩
            refine SL.y (op_move rfl) rfl rfl ?_
            refine SL.y (op_extract rfl rfl) rfl rfl ?_
            refine SL.y (op_extract rfl rfl) rfl rfl ?_
            refine SL.y (op_assign rfl) rfl rfl ?_
            refine SL.y (op_assign rfl) rfl rfl ?_
            refine SL.nil ?_
            refine T.seq ?_
            refine T.region ?_
            refine SL.y (op_move rfl) rfl rfl ?_
            refine SL.y (op_move rfl) rfl rfl ?_
            first | refine SL.skip rfl rfl ?_ | refine SL.y (op_move rfl) rfl rfl ?_
            first | refine SL.skip rfl rfl ?_ | refine SL.y (op_move rfl) rfl rfl ?_
            -- op
            have hV2' := hV1.trans' hV2
            refine SL.x (op_callF en47 (vs := [_, _]) rfl (contains_spec hu (by omega) (a : Int) (row_leq hr hc6 ha hk1 hka1 (q := k) (by omega) (by rw [hat])))) rfl rfl ?_
            rintro _ _ V3 ⟨rfl, hV3, rfl⟩
            first | refine SL.skip rfl rfl ?_ | refine SL.y (op_move rfl) rfl rfl ?_
            first | refine SL.skip rfl rfl ?_ | refine SL.y (op_move rfl) rfl rfl ?_
            first | refine SL.skip rfl rfl ?_ | refine SL.y (op_move rfl) rfl rfl ?_
            -- op
            refine SL.x (op_callF en19 (vs := [_, _, _]) rfl (leq_val ((hN.mono hV2').mono hV3) rfl)) rfl rfl ?_
            rintro _ _ V4 ⟨rfl, hV4, rfl⟩
            refine SL.y (op_neqBS Tryd.underlying4 rfl rfl) rfl rfl ?_
            have hV5' := (hV2'.trans' hV3).trans' hV4
            have hw5 := (hw.mono hV3).mono hV4
            first | refine SL.y (op_pickT rfl rfl) rfl rfl ?_ | refine SL.y (op_pickF rfl rfl) rfl rfl ?_ | refine SL.y (op_pickB rfl rfl rfl) rfl rfl ?_
            refine SL.y (op_move rfl) rfl rfl ?_
            first | refine SL.skip rfl rfl ?_ | refine SL.y (op_move rfl) rfl rfl ?_
            first | refine SL.skip rfl rfl ?_ | refine SL.y (op_move rfl) rfl rfl ?_
            first | refine SL.skip rfl rfl ?_ | refine SL.y (op_move rfl) rfl rfl ?_
            first | refine SL.skip rfl rfl ?_ | refine SL.y (op_move rfl) rfl rfl ?_
            -- op
            refine SL.skip rfl rfl ?_
            first | refine SL.skip rfl rfl ?_ | refine SL.y (op_move rfl) rfl rfl ?_
            first | refine SL.skip rfl rfl ?_ | refine SL.y (op_move rfl) rfl rfl ?_
            first | refine SL.skip rfl rfl ?_ | refine SL.y (op_move rfl) rfl rfl ?_
            -- op
            refine SL.skip rfl rfl ?_
            have hV8' := hV5'
            first | refine SL.skip rfl rfl ?_ | refine SL.y (op_neqB Tryd.underlying4 rfl rfl) rfl rfl ?_
            first | refine SL.skip rfl rfl ?_ | refine SL.y (op_pickT rfl rfl) rfl rfl ?_ | refine SL.y (op_pickF rfl rfl) rfl rfl ?_ | refine SL.y (op_pickB rfl rfl rfl) rfl rfl ?_
            first | refine SL.y (op_pickT rfl rfl) rfl rfl ?_ | refine SL.y (op_pickF rfl rfl) rfl rfl ?_ | refine SL.y (op_pickB rfl rfl rfl) rfl rfl ?_
            refine SL.nil ?_
            refine T.condF rfl ?_
            refine T.skip ?_
            refine T.blk ?_
            refine T.region ?_
            first | refine SL.y (op_addN (q := 1) rfl rfl (by omega)) rfl rfl ?_ | refine SL.y (op_add rfl rfl (by omega) (by omega)) rfl rfl ?_ | refine SL.y (op_addW rfl rfl) rfl rfl ?_
            refine SL.y (op_move rfl) rfl rfl ?_
            refine SL.nil ?_
            -- cut
            refine T.drop B20 (by repeat (first | exact AtO.here | apply AtO.there)) ?_
            exact T.backW ((allR c ms).length - (k + 1)) (by omega) ⟨k + 1, rfl, by omega, hV8', rfl, rfl⟩ (by repeat (first | exact Sub.nil | refine Sub.cons rfl ?_))
          · refine T.seq ?_
            refine T.region ?_
            first | refine SL.y (op_lssT rfl rfl (by omega)) rfl rfl ?_ | refine SL.y (op_lssF rfl rfl (by omega)) rfl rfl ?_ | refine SL.y (op_lss rfl rfl) rfl rfl ?_
            refine SL.nil ?_
            refine T.seq ?_
            refine T.condF rfl ?_
            refine T.exit (T.exitCode (T.exitCut (T.exitBlk ?_)))
            refine T.seq ?_
            refine T.region ?_
            refine SL.y (op_move rfl) rfl rfl ?_
            refine SL.y (op_not rfl) rfl rfl ?_
            refine SL.y (op_move rfl) rfl rfl ?_
            first | refine SL.skip rfl rfl ?_ | refine SL.y (op_move rfl) rfl rfl ?_
            first | refine SL.skip rfl rfl ?_ | refine SL.y (op_not rfl) rfl rfl ?_
            first | refine SL.y (op_pickT rfl rfl) rfl rfl ?_ | refine SL.y (op_pickF rfl rfl) rfl rfl ?_ | refine SL.y (op_pickB rfl rfl rfl) rfl rfl ?_
            refine SL.y (op_move rfl) rfl rfl ?_
            first | refine SL.skip rfl rfl ?_ | refine SL.y (op_move rfl) rfl rfl ?_
            first | refine SL.skip rfl rfl ?_ | refine SL.y (op_move rfl) rfl rfl ?_
            first | refine SL.skip rfl rfl ?_ | refine SL.y (op_move rfl) rfl rfl ?_
            -- op
            refine SL.skip rfl rfl ?_
            first | refine SL.skip rfl rfl ?_ | refine SL.y (op_move rfl) rfl rfl ?_
            first | refine SL.skip rfl rfl ?_ | refine SL.y (op_move rfl) rfl rfl ?_
            first | refine SL.skip rfl rfl ?_ | refine SL.y (op_move rfl) rfl rfl ?_
            -- op
            refine SL.skip rfl rfl ?_
            first | refine SL.skip rfl rfl ?_ | refine SL.y (op_eqlB Tryd.underlying4 rfl rfl) rfl rfl ?_
            first | refine SL.y (op_pickT rfl rfl) rfl rfl ?_ | refine SL.y (op_pickF rfl rfl) rfl rfl ?_ | refine SL.y (op_pickB rfl rfl rfl) rfl rfl ?_
            refine SL.y (op_assign rfl) rfl rfl ?_
            refine SL.nil ?_
            -- ret
            refine T.ret1 rfl (ResIs.tmp rfl) ?_
            rfl
        · rcases Int.lt_or_le j c with f2 | f2
          · obtain ⟨b, rfl⟩ := Int.eq_ofNat_of_zero_le f1
            have hb : b < c := by omega
            obtain ⟨q1, hq1, hqb1, hqb2⟩ := col_at (ms := ms) hr hc6 hb
            refine SL.x (op_callF en41 (vs := [_, _]) rfl (lrow_some (hL.mono hX5) hka2)) rfl rfl ?_
            rintro _ _ Y1 ⟨rfl, hY1, rfl⟩
            refine SL.y (op_move rfl) rfl rfl ?_
            refine SL.y (op_extract rfl rfl) rfl rfl ?_
            refine SL.y (op_extract rfl rfl) rfl rfl ?_
            refine SL.y (op_assign rfl) rfl rfl ?_
            refine SL.y (op_assign rfl) rfl rfl ?_
            refine SL.nil ?_
            refine T.seq ?_
            refine T.region ?_
            refine SL.y (op_move rfl) rfl rfl ?_
            refine SL.y (op_move rfl) rfl rfl ?_
            -- op
            refine SL.x (op_callF en42 (vs := [_, _]) rfl (lcol_some ((hT2.mono hX5).mono hY1) ((hL.mono hX5).mono hY1) hqb2)) rfl rfl ?_
            rintro _ _ Y2 ⟨rfl, hY2, rfl⟩
            have hZ2 := (hX5.trans' hY1).trans' hY2
            refine SL.y (op_move rfl) rfl rfl ?_
            refine SL.y (op_extract rfl rfl) rfl rfl ?_
            refine SL.y (op_extract rfl rfl) rfl rfl ?_
            refine SL.y (op_assign rfl) rfl rfl ?_
            refine SL.y (op_assign rfl) rfl rfl ?_
            refine SL.nil ?_
            refine T.seq ?_
            refine T.seq ?_
            refine T.region ?_
            refine SL.y (op_move rfl) rfl rfl ?_
            refine SL.y (op_move rfl) rfl rfl ?_
            first | refine SL.y (op_geqT rfl rfl (by omega)) rfl rfl ?_ | refine SL.y (op_geqF rfl rfl (by omega)) rfl rfl ?_ | refine SL.y (op_geq rfl rfl) rfl rfl ?_
            refine SL.y (op_move rfl) rfl rfl ?_
            first | refine SL.skip rfl rfl ?_ | refine SL.y (op_move rfl) rfl rfl ?_
            first | refine SL.skip rfl rfl ?_ | refine SL.y (op_move rfl) rfl rfl ?_
            -- op
            refine SL.x (op_callF en44 (vs := [_]) rfl (rows_spec (hM.mono hZ2))) rfl rfl ?_
            rintro _ _ Y3 ⟨rfl, hY3, rfl⟩
            have hZ3 := hZ2.trans' hY3
            first | refine SL.skip rfl rfl ?_ | refine SL.y (op_lssT rfl rfl (by omega)) rfl rfl ?_ | refine SL.y (op_lssF rfl rfl (by omega)) rfl rfl ?_ | refine SL.y (op_lss rfl rfl) rfl rfl ?_
            first | refine SL.y (op_pickT rfl rfl) rfl rfl ?_ | refine SL.y (op_pickF rfl rfl) rfl rfl ?_ | refine SL.y (op_pickB rfl rfl rfl) rfl rfl ?_
            refine SL.y (op_neqB Tryd.underlying4 rfl rfl) rfl rfl ?_
            refine SL.y (op_move rfl) rfl rfl ?_
            first | refine SL.skip rfl rfl ?_ | refine SL.y (op_move rfl) rfl rfl ?_
            first | refine SL.skip rfl rfl ?_ | refine SL.y (op_move rfl) rfl rfl ?_
            first | refine SL.skip rfl rfl ?_ | refine SL.y (op_geqT rfl rfl (by omega)) rfl rfl ?_ | refine SL.y (op_geqF rfl rfl (by omega)) rfl rfl ?_ | refine SL.y (op_geq rfl rfl) rfl rfl ?_
            first | refine SL.skip rfl rfl ?_ | refine SL.y (op_move rfl) rfl rfl ?_
            first | refine SL.skip rfl rfl ?_ | refine SL.y (op_move rfl) rfl rfl ?_
            first | refine SL.skip rfl rfl ?_ | refine SL.y (op_move rfl) rfl rfl ?_
            -- op
            refine SL.x (op_callF en45 (vs := [_]) rfl (columns_spec (hM.mono hZ3))) rfl rfl ?_
            rintro _ _ Y4 ⟨rfl, hY4, rfl⟩
            have hZ4 := hZ3.trans' hY4
            first | refine SL.skip rfl rfl ?_ | refine SL.y (op_lssT rfl rfl (by omega)) rfl rfl ?_ | refine SL.y (op_lssF rfl rfl (by omega)) rfl rfl ?_ | refine SL.y (op_lss rfl rfl) rfl rfl ?_
            first | refine SL.skip rfl rfl ?_ | refine SL.y (op_pickT rfl rfl) rfl rfl ?_ | refine SL.y (op_pickF rfl rfl) rfl rfl ?_ | refine SL.y (op_pickB rfl rfl rfl) rfl rfl ?_
            first | refine SL.skip rfl rfl ?_ | refine SL.y (op_neqB Tryd.underlying4 rfl rfl) rfl rfl ?_
            first | refine SL.y (op_pickT rfl rfl) rfl rfl ?_ | refine SL.y (op_pickF rfl rfl) rfl rfl ?_ | refine SL.y (op_pickB rfl rfl rfl) rfl rfl ?_
            refine SL.y (op_move rfl) rfl rfl ?_
            first | refine SL.skip rfl rfl ?_ | refine SL.y (op_move rfl) rfl rfl ?_
            first | refine SL.skip rfl rfl ?_ | refine SL.y (op_not rfl) rfl rfl ?_
            first | refine SL.skip rfl rfl ?_ | refine SL.y (op_move rfl) rfl rfl ?_
            first | refine SL.skip rfl rfl ?_ | refine SL.y (op_move rfl) rfl rfl ?_
            first | refine SL.skip rfl rfl ?_ | refine SL.y (op_neqT rfl rfl (by omega)) rfl rfl ?_ | refine SL.y (op_neqF rfl rfl (by omega)) rfl rfl ?_ | refine SL.y (op_neq rfl rfl) rfl rfl ?_
            first | refine SL.skip rfl rfl ?_ | refine SL.y (op_pickT rfl rfl) rfl rfl ?_ | refine SL.y (op_pickF rfl rfl) rfl rfl ?_ | refine SL.y (op_pickB rfl rfl rfl) rfl rfl ?_
            first | refine SL.y (op_pickT rfl rfl) rfl rfl ?_ | refine SL.y (op_pickF rfl rfl) rfl rfl ?_ | refine SL.y (op_pickB rfl rfl rfl) rfl rfl ?_
            refine SL.y (op_move rfl) rfl rfl ?_
            first | refine SL.skip rfl rfl ?_ | refine SL.y (op_move rfl) rfl rfl ?_
            first | refine SL.skip rfl rfl ?_ | refine SL.y (op_not rfl) rfl rfl ?_
            first | refine SL.skip rfl rfl ?_ | refine SL.y (op_move rfl) rfl rfl ?_
            first | refine SL.skip rfl rfl ?_ | refine SL.y (op_move rfl) rfl rfl ?_
            first | refine SL.skip rfl rfl ?_ | refine SL.y (op_neqT rfl rfl (by omega)) rfl rfl ?_ | refine SL.y (op_neqF rfl rfl (by omega)) rfl rfl ?_ | refine SL.y (op_neq rfl rfl) rfl rfl ?_
            first | refine SL.skip rfl rfl ?_ | refine SL.y (op_pickT rfl rfl) rfl rfl ?_ | refine SL.y (op_pickF rfl rfl) rfl rfl ?_ | refine SL.y (op_pickB rfl rfl rfl) rfl rfl ?_
            first | refine SL.y (op_pickT rfl rfl) rfl rfl ?_ | refine SL.y (op_pickF rfl rfl) rfl rfl ?_ | refine SL.y (op_pickB rfl rfl rfl) rfl rfl ?_
            refine SL.nil ?_
            refine T.condF rfl ?_
            refine T.skip ?_
            refine T.seq ?_
            refine T.seq ?_
            refine T.region ?_
            refine SL.y (op_move rfl) rfl rfl ?_
            refine SL.y (op_lenS Tryd.underlying29 rfl) rfl rfl ?_
            refine SL.y (op_move (v := .int .i64 ((0 : Nat) : Int)) rfl) rfl rfl ?_
            refine SL.nil ?_
            refine T.block ?_
            -- loop live [1, 2, 6, 7, 8, 15, 16, 17, 18, 137, 138, 139]
            refine T.loopW (fun m env own X' => ∃ k : Nat, m = (allR c ms).length - k ∧ k ≤ (allR c ms).length ∧ X2.le X' ∧ env = [(1, .int .i64 (a : Int)), (2, .int .i64 (b : Int)), (7, .pointer (some ⟨bm, 0, none⟩)), (8, .pointer (some ⟨bl, 0, none⟩)), (15, .int .i64 (k1 : Int)), (16, .bool true), (17, .int .i64 (q1 : Int)), (18, .bool true), (137, .slice At (allR c ms).length cpt), (138, .int .i64 ((allR c ms).length : Int)), (139, .int .i64 (k : Int))] ∧ own = []) (allR c ms).length ⟨0, by simp, by omega, hZ4, rfl, rfl⟩ (by repeat (first | exact Sub.nil | refine Sub.cons rfl ?_)) ?_
            rintro m _ _ V1 ⟨k, rfl, hk, hV1, rfl, rfl⟩
            rcases Nat.lt_or_ge k (allR c ms).length with hkl | hkl
            · obtain ⟨bo, rfl, hBo⟩ := (hC.1.mono hV1).blk (by omega)
              obtain ⟨g1, g2⟩ := conC_get (allR c ms) k hkl
              obtain ⟨b1, b2⟩ := hsm _ (List.getElem_mem hkl)
              have hat := allR_at hr hc6 hkl
              have l1 := mem64_length (allR c ms)[k].1
              have l2 := mem64_length (allR c ms)[k].2
              refine T.seq ?_
              refine T.region ?_
              first | refine SL.y (op_lssT rfl rfl (by omega)) rfl rfl ?_ | refine SL.y (op_lssF rfl rfl (by omega)) rfl rfl ?_ | refine SL.y (op_lss rfl rfl) rfl rfl ?_
              refine SL.nil ?_
              refine T.seq ?_
              refine T.condT rfl ?_
              refine T.skip ?_
              refine T.seq ?_
              refine T.block ?_
              refine T.seq ?_
              refine T.region ?_
              refine SL.y (op_move rfl) rfl rfl ?_
              first | refine SL.y (op_indexN Tryd.underlying29 ty75 rfl rfl (by omega)) rfl rfl ?_ | refine SL.y (op_index Tryd.underlying29 ty75 rfl rfl (by omega) (by omega)) rfl rfl ?_
              -- to 143: op
              refine SL.y (op_loadX ty75 rfl hBo (creadR2 g1 g2 (by omega))) rfl rfl ?_
              refine SL.x (op_alloc z75) rfl rfl ?_
              rintro _ _ _ ⟨B20, rfl, rfl, rfl⟩
              refine SL.y (op_assign rfl) rfl rfl ?_
              refine SL.x (op_store ty75 rfl rfl (by repeat (first | exact AtO.here | apply AtO.there)) rfl rfl rfl) rfl rfl ?_
              rintro _ _ _ ⟨rfl, rfl⟩
              refine SL.nil ?_
              refine T.seq ?_
              refine T.region ?_
              first | refine SL.y (op_load ty75 rfl (by repeat (first | exact AtO.here | apply AtO.there)) rfl) rfl rfl ?_ | refine SL.y (op_loadX ty75 rfl (by assumption) rfl) rfl rfl ?_
              -- op
              refine SL.x (op_callF en46 (vs := [_]) rfl (lists46_spec (allR c ms)[k].1 (allR c ms)[k].2 b1 b2)) rfl rfl ?_
              rintro _ _ V2 ⟨rfl, hV2, u, w, rfl, hu, hw⟩
              refine SL.y (op_move rfl) rfl rfl ?_
              refine SL.y (op_extract rfl rfl) rfl rfl ?_
              refine SL.y (op_extract rfl rfl) rfl rfl ?_
              refine SL.y (op_assign rfl) rfl rfl ?_
              refine SL.y (op_assign rfl) rfl rfl ?_
              refine SL.nil ?_
              refine T.seq ?_
              refine T.region ?_
              refine SL.y (op_move rfl) rfl rfl ?_
              refine SL.y (op_move rfl) rfl rfl ?_
              first | refine SL.skip rfl rfl ?_ | refine SL.y (op_move rfl) rfl rfl ?_
              first | refine SL.skip rfl rfl ?_ | refine SL.y (op_move rfl) rfl rfl ?_
              -- op
              have hV2' := hV1.trans' hV2
              refine SL.x (op_callF en47 (vs := [_, _]) rfl (contains_spec hu (by omega) (a : Int) (row_leq hr hc6 ha hk1 hka1 (q := k) (by omega) (by rw [hat])))) rfl rfl ?_
              rintro _ _ V3 ⟨rfl, hV3, rfl⟩
              first | refine SL.skip rfl rfl ?_ | refine SL.y (op_move rfl) rfl rfl ?_
              first | refine SL.skip rfl rfl ?_ | refine SL.y (op_move rfl) rfl rfl ?_
              first | refine SL.skip rfl rfl ?_ | refine SL.y (op_move rfl) rfl rfl ?_
              -- op
              refine SL.x (op_callF en19 (vs := [_, _, _]) rfl (leq_val ((hN.mono hV2').mono hV3) rfl)) rfl rfl ?_
              rintro _ _ V4 ⟨rfl, hV4, rfl⟩
              refine SL.y (op_neqBS Tryd.underlying4 rfl rfl) rfl rfl ?_
              have hV5' := (hV2'.trans' hV3).trans' hV4
              have hw5 := (hw.mono hV3).mono hV4
              first | refine SL.y (op_pickT rfl rfl) rfl rfl ?_ | refine SL.y (op_pickF rfl rfl) rfl rfl ?_ | refine SL.y (op_pickB rfl rfl rfl) rfl rfl ?_
              refine SL.y (op_move rfl) rfl rfl ?_
              first | refine SL.skip rfl rfl ?_ | refine SL.y (op_move rfl) rfl rfl ?_
              first | refine SL.skip rfl rfl ?_ | refine SL.y (op_move rfl) rfl rfl ?_
              first | refine SL.skip rfl rfl ?_ | refine SL.y (op_move rfl) rfl rfl ?_
              first | refine SL.skip rfl rfl ?_ | refine SL.y (op_move rfl) rfl rfl ?_
              -- op
              refine SL.x (op_callF en47 (vs := [_, _]) rfl (contains_spec hw5 (by omega) (b : Int) (col_leq hr hc6 hb hq1 hqb1 (q := k) (by omega) (by rw [hat])))) rfl rfl ?_
              rintro _ _ V6 ⟨rfl, hV6, rfl⟩
              first | refine SL.skip rfl rfl ?_ | refine SL.y (op_move rfl) rfl rfl ?_
              first | refine SL.skip rfl rfl ?_ | refine SL.y (op_move rfl) rfl rfl ?_
              first | refine SL.skip rfl rfl ?_ | refine SL.y (op_move rfl) rfl rfl ?_
              -- op
              refine SL.x (op_callF en19 (vs := [_, _, _]) rfl (leq_val ((hN.mono hV5').mono hV6) rfl)) rfl rfl ?_
              rintro _ _ V7 ⟨rfl, hV7, rfl⟩
              refine SL.y (op_neqBS Tryd.underlying4 rfl rfl) rfl rfl ?_
              have hV8' := (hV5'.trans' hV6).trans' hV7
              first | refine SL.skip rfl rfl ?_ | refine SL.y (op_pickT rfl rfl) rfl rfl ?_ | refine SL.y (op_pickF rfl rfl) rfl rfl ?_ | refine SL.y (op_pickB rfl rfl rfl) rfl rfl ?_
              first | refine SL.y (op_pickT rfl rfl) rfl rfl ?_ | refine SL.y (op_pickF rfl rfl) rfl rfl ?_ | refine SL.y (op_pickB rfl rfl rfl) rfl rfl ?_
              refine SL.nil ?_
              refine T.condF rfl ?_
              refine T.skip ?_
              refine T.blk ?_
              refine T.region ?_
              first | refine SL.y (op_addN (q := 1) rfl rfl (by omega)) rfl rfl ?_ | refine SL.y (op_add rfl rfl (by omega) (by omega)) rfl rfl ?_ | refine SL.y (op_addW rfl rfl) rfl rfl ?_
              refine SL.y (op_move rfl) rfl rfl ?_
              refine SL.nil ?_
              -- cut
              refine T.drop B20 (by repeat (first | exact AtO.here | apply AtO.there)) ?_
              exact T.backW ((allR c ms).length - (k + 1)) (by omega) ⟨k + 1, rfl, by omega, hV8', rfl, rfl⟩ (by repeat (first | exact Sub.nil | refine Sub.cons rfl ?_))
            · refine T.seq ?_
              refine T.region ?_
              first | refine SL.y (op_lssT rfl rfl (by omega)) rfl rfl ?_ | refine SL.y (op_lssF rfl rfl (by omega)) rfl rfl ?_ | refine SL.y (op_lss rfl rfl) rfl rfl ?_
              refine SL.nil ?_
              refine T.seq ?_
              refine T.condF rfl ?_
              refine T.exit (T.exitCode (T.exitCut (T.exitBlk ?_)))
              refine T.seq ?_
              refine T.region ?_
              refine SL.y (op_move rfl) rfl rfl ?_
              refine SL.y (op_not rfl) rfl rfl ?_
              refine SL.y (op_move rfl) rfl rfl ?_
              first | refine SL.skip rfl rfl ?_ | refine SL.y (op_move rfl) rfl rfl ?_
              first | refine SL.skip rfl rfl ?_ | refine SL.y (op_not rfl) rfl rfl ?_
              first | refine SL.y (op_pickT rfl rfl) rfl rfl ?_ | refine SL.y (op_pickF rfl rfl) rfl rfl ?_ | refine SL.y (op_pickB rfl rfl rfl) rfl rfl ?_
              refine SL.y (op_move rfl) rfl rfl ?_
              first | refine SL.skip rfl rfl ?_ | refine SL.y (op_move rfl) rfl rfl ?_
              first | refine SL.skip rfl rfl ?_ | refine SL.y (op_move rfl) rfl rfl ?_
              first | refine SL.skip rfl rfl ?_ | refine SL.y (op_move rfl) rfl rfl ?_
              -- op
              refine SL.x (op_callF en48 (vs := [_, _, _]) rfl (mhas_spec (hM.mono hV1) (a : Int) (b : Int))) rfl rfl ?_
              rintro _ _ V3 ⟨rfl, hV3, rfl⟩
              first | refine SL.skip rfl rfl ?_ | refine SL.y (op_move rfl) rfl rfl ?_
              first | refine SL.skip rfl rfl ?_ | refine SL.y (op_move rfl) rfl rfl ?_
              first | refine SL.skip rfl rfl ?_ | refine SL.y (op_move rfl) rfl rfl ?_
              -- op
              refine SL.x (op_callF en19 (vs := [_, _, _]) rfl (leq_val ((hN.mono hV1).mono hV3) (both_leq hr hc6 ha hb hk1 hka1 hq1 hqb1))) rfl rfl ?_
              rintro _ _ V4 ⟨rfl, hV4, rfl⟩
              refine SL.y (op_eqlBS Tryd.underlying4 rfl rfl) rfl rfl ?_
              first | refine SL.y (op_pickT rfl rfl) rfl rfl ?_ | refine SL.y (op_pickF rfl rfl) rfl rfl ?_ | refine SL.y (op_pickB rfl rfl rfl) rfl rfl ?_
              refine SL.y (op_assign rfl) rfl rfl ?_
              refine SL.nil ?_
              -- ret
              refine T.ret1 rfl (ResIs.tmp rfl) ?_
              rfl
          · skip
            refine SL.x (op_callF en41 (vs := [_, _]) rfl (lrow_some (hL.mono hX5) hka2)) rfl rfl ?_
            rintro _ _ Y1 ⟨rfl, hY1, rfl⟩
            refine SL.y (op_move rfl) rfl rfl ?_
            refine SL.y (op_extract rfl rfl) rfl rfl ?_
            refine SL.y (op_extract rfl rfl) rfl rfl ?_
            refine SL.y (op_assign rfl) rfl rfl ?_
            refine SL.y (op_assign rfl) rfl rfl ?_
            refine SL.nil ?_
            refine T.seq ?_
            refine T.region ?_
            refine SL.y (op_move rfl) rfl rfl ?_
            refine SL.y (op_move rfl) rfl rfl ?_
            -- op
            refine SL.x (op_callF en42 (vs := [_, _]) rfl (lcol_none ((hT2.mono hX5).mono hY1) ((hL.mono hX5).mono hY1) (by simp only [inB, decide_eq_false_iff_not]; omega))) rfl rfl ?_
            rintro _ _ Y2 ⟨rfl, hY2, rfl⟩
            have hZ2 := (hX5.trans' hY1).trans' hY2
            refine SL.y (op_move rfl) rfl rfl ?_
            refine SL.y (op_extract rfl rfl) rfl rfl ?_
            refine SL.y (op_extract rfl rfl) rfl rfl ?_
            refine SL.y (op_assign rfl) rfl rfl ?_
            refine SL.y (op_assign rfl) rfl rfl ?_
            refine SL.nil ?_
            refine T.seq ?_
            refine T.seq ?_
            refine T.region ?_
            refine SL.y (op_move rfl) rfl rfl ?_
            refine SL.y (op_move rfl) rfl rfl ?_
            first | refine SL.y (op_geqT rfl rfl (by omega)) rfl rfl ?_ | refine SL.y (op_geqF rfl rfl (by omega)) rfl rfl ?_ | refine SL.y (op_geq rfl rfl) rfl rfl ?_
            refine SL.y (op_move rfl) rfl rfl ?_
            first | refine SL.skip rfl rfl ?_ | refine SL.y (op_move rfl) rfl rfl ?_
            first | refine SL.skip rfl rfl ?_ | refine SL.y (op_move rfl) rfl rfl ?_
            -- op
            refine SL.x (op_callF en44 (vs := [_]) rfl (rows_spec (hM.mono hZ2))) rfl rfl ?_
            rintro _ _ Y3 ⟨rfl, hY3, rfl⟩
            have hZ3 := hZ2.trans' hY3
            first | refine SL.skip rfl rfl ?_ | refine SL.y (op_lssT rfl rfl (by omega)) rfl rfl ?_ | refine SL.y (op_lssF rfl rfl (by omega)) rfl rfl ?_ | refine SL.y (op_lss rfl rfl) rfl rfl ?_
            first | refine SL.y (op_pickT rfl rfl) rfl rfl ?_ | refine SL.y (op_pickF rfl rfl) rfl rfl ?_ | refine SL.y (op_pickB rfl rfl rfl) rfl rfl ?_
            refine SL.y (op_neqB Tryd.underlying4 rfl rfl) rfl rfl ?_
            refine SL.y (op_move rfl) rfl rfl ?_
            first | refine SL.skip rfl rfl ?_ | refine SL.y (op_move rfl) rfl rfl ?_
            first | refine SL.skip rfl rfl ?_ | refine SL.y (op_move rfl) rfl rfl ?_
            first | refine SL.skip rfl rfl ?_ | refine SL.y (op_geqT rfl rfl (by omega)) rfl rfl ?_ | refine SL.y (op_geqF rfl rfl (by omega)) rfl rfl ?_ | refine SL.y (op_geq rfl rfl) rfl rfl ?_
            first | refine SL.skip rfl rfl ?_ | refine SL.y (op_move rfl) rfl rfl ?_
            first | refine SL.skip rfl rfl ?_ | refine SL.y (op_move rfl) rfl rfl ?_
            first | refine SL.skip rfl rfl ?_ | refine SL.y (op_move rfl) rfl rfl ?_
            -- op
            refine SL.x (op_callF en45 (vs := [_]) rfl (columns_spec (hM.mono hZ3))) rfl rfl ?_
            rintro _ _ Y4 ⟨rfl, hY4, rfl⟩
            have hZ4 := hZ3.trans' hY4
            first | refine SL.skip rfl rfl ?_ | refine SL.y (op_lssT rfl rfl (by omega)) rfl rfl ?_ | refine SL.y (op_lssF rfl rfl (by omega)) rfl rfl ?_ | refine SL.y (op_lss rfl rfl) rfl rfl ?_
            first | refine SL.skip rfl rfl ?_ | refine SL.y (op_pickT rfl rfl) rfl rfl ?_ | refine SL.y (op_pickF rfl rfl) rfl rfl ?_ | refine SL.y (op_pickB rfl rfl rfl) rfl rfl ?_
            first | refine SL.skip rfl rfl ?_ | refine SL.y (op_neqB Tryd.underlying4 rfl rfl) rfl rfl ?_
            first | refine SL.y (op_pickT rfl rfl) rfl rfl ?_ | refine SL.y (op_pickF rfl rfl) rfl rfl ?_ | refine SL.y (op_pickB rfl rfl rfl) rfl rfl ?_
            refine SL.y (op_move rfl) rfl rfl ?_
            first | refine SL.skip rfl rfl ?_ | refine SL.y (op_move rfl) rfl rfl ?_
            first | refine SL.skip rfl rfl ?_ | refine SL.y (op_not rfl) rfl rfl ?_
            first | refine SL.skip rfl rfl ?_ | refine SL.y (op_move rfl) rfl rfl ?_
            first | refine SL.skip rfl rfl ?_ | refine SL.y (op_move rfl) rfl rfl ?_
            first | refine SL.skip rfl rfl ?_ | refine SL.y (op_neqT rfl rfl (by omega)) rfl rfl ?_ | refine SL.y (op_neqF rfl rfl (by omega)) rfl rfl ?_ | refine SL.y (op_neq rfl rfl) rfl rfl ?_
            first | refine SL.skip rfl rfl ?_ | refine SL.y (op_pickT rfl rfl) rfl rfl ?_ | refine SL.y (op_pickF rfl rfl) rfl rfl ?_ | refine SL.y (op_pickB rfl rfl rfl) rfl rfl ?_
            first | refine SL.y (op_pickT rfl rfl) rfl rfl ?_ | refine SL.y (op_pickF rfl rfl) rfl rfl ?_ | refine SL.y (op_pickB rfl rfl rfl) rfl rfl ?_
            refine SL.y (op_move rfl) rfl rfl ?_
            first | refine SL.skip rfl rfl ?_ | refine SL.y (op_move rfl) rfl rfl ?_
            first | refine SL.skip rfl rfl ?_ | refine SL.y (op_not rfl) rfl rfl ?_
            first | refine SL.skip rfl rfl ?_ | refine SL.y (op_move rfl) rfl rfl ?_
            first | refine SL.skip rfl rfl ?_ | refine SL.y (op_move rfl) rfl rfl ?_
            first | refine SL.skip rfl rfl ?_ | refine SL.y (op_neqT rfl rfl (by omega)) rfl rfl ?_ | refine SL.y (op_neqF rfl rfl (by omega)) rfl rfl ?_ | refine SL.y (op_neq rfl rfl) rfl rfl ?_
            first | refine SL.skip rfl rfl ?_ | refine SL.y (op_pickT rfl rfl) rfl rfl ?_ | refine SL.y (op_pickF rfl rfl) rfl rfl ?_ | refine SL.y (op_pickB rfl rfl rfl) rfl rfl ?_
            first | refine SL.y (op_pickT rfl rfl) rfl rfl ?_ | refine SL.y (op_pickF rfl rfl) rfl rfl ?_ | refine SL.y (op_pickB rfl rfl rfl) rfl rfl ?_
            refine SL.nil ?_
            refine T.condF rfl ?_
            refine T.skip ?_
            refine T.seq ?_
            refine T.seq ?_
            refine T.region ?_
            refine SL.y (op_move rfl) rfl rfl ?_
            refine SL.y (op_lenS Tryd.underlying29 rfl) rfl rfl ?_
            refine SL.y (op_move (v := .int .i64 ((0 : Nat) : Int)) rfl) rfl rfl ?_
            refine SL.nil ?_
            refine T.block ?_
            -- loop live [1, 2, 6, 7, 8, 15, 16, 17, 18, 137, 138, 139]
            refine T.loopW (fun m env own X' => ∃ k : Nat, m = (allR c ms).length - k ∧ k ≤ (allR c ms).length ∧ X2.le X' ∧ env = [(1, .int .i64 (a : Int)), (2, .int .i64 j), (7, .pointer (some ⟨bm, 0, none⟩)), (8, .pointer (some ⟨bl, 0, none⟩)), (15, .int .i64 (k1 : Int)), (16, .bool true), (17, .int .i64 0), (18, .bool false), (137, .slice At (allR c ms).length cpt), (138, .int .i64 ((allR c ms).length : Int)), (139, .int .i64 (k : Int))] ∧ own = []) (allR c ms).length ⟨0, by simp, by omega, hZ4, rfl, rfl⟩ (by repeat (first | exact Sub.nil | refine Sub.cons rfl ?_)) ?_
            rintro m _ _ V1 ⟨k, rfl, hk, hV1, rfl, rfl⟩
            rcases Nat.lt_or_ge k (allR c ms).length with hkl | hkl
            · obtain ⟨bo, rfl, hBo⟩ := (hC.1.mono hV1).blk (by omega)
              obtain ⟨g1, g2⟩ := conC_get (allR c ms) k hkl
              obtain ⟨b1, b2⟩ := hsm _ (List.getElem_mem hkl)
              have hat := allR_at hr hc6 hkl
              have l1 := mem64_length (allR c ms)[k].1
              have l2 := mem64_length (allR c ms)[k].2
              refine T.seq ?_
              refine T.region ?_
              first | refine SL.y (op_lssT rfl rfl (by omega)) rfl rfl ?_ | refine SL.y (op_lssF rfl rfl (by omega)) rfl rfl ?_ | refine SL.y (op_lss rfl rfl) rfl rfl ?_
              refine SL.nil ?_
              refine T.seq ?_
              refine T.condT rfl ?_
              refine T.skip ?_
              refine T.seq ?_
              refine T.block ?_
              refine T.seq ?_
              refine T.region ?_
              refine SL.y (op_move rfl) rfl rfl ?_
              first | refine SL.y (op_indexN Tryd.underlying29 ty75 rfl rfl (by omega)) rfl rfl ?_ | refine SL.y (op_index Tryd.underlying29 ty75 rfl rfl (by omega) (by omega)) rfl rfl ?_
              -- to 143: op
              refine SL.y (op_loadX ty75 rfl hBo (creadR2 g1 g2 (by omega))) rfl rfl ?_
              refine SL.x (op_alloc z75) rfl rfl ?_
              rintro _ _ _ ⟨B20, rfl, rfl, rfl⟩
              refine SL.y (op_assign rfl) rfl rfl ?_
              refine SL.x (op_store ty75 rfl rfl (by repeat (first | exact AtO.here | apply AtO.there)) rfl rfl rfl) rfl rfl ?_
              rintro _ _ _ ⟨rfl, rfl⟩
              refine SL.nil ?_
              refine T.seq ?_
              refine T.region ?_
              first | refine SL.y (op_load ty75 rfl (by repeat (first | exact AtO.here | apply AtO.there)) rfl) rfl rfl ?_ | refine SL.y (op_loadX ty75 rfl (by assumption) rfl) rfl rfl ?_
              -- op
              refine SL.x (op_callF en46 (vs := [_]) rfl (lists46_spec (allR c ms)[k].1 (allR c ms)[k].2 b1 b2)) rfl rfl ?_
              rintro _ _ V2 ⟨rfl, hV2, u, w, rfl, hu, hw⟩
              refine SL.y (op_move rfl) rfl rfl ?_
              refine SL.y (op_extract rfl rfl) rfl rfl ?_
              refine SL.y (op_extract rfl rfl) rfl rfl ?_
              refine SL.y (op_assign rfl) rfl rfl ?_
              refine SL.y (op_assign rfl) rfl rfl ?_
              refine SL.nil ?_
              refine T.seq ?_
              refine T.region ?_
              refine SL.y (op_move rfl) rfl rfl ?_
              refine SL.y (op_move rfl) rfl rfl ?_
              first | refine SL.skip rfl rfl ?_ | refine SL.y (op_move rfl) rfl rfl ?_
              first | refine SL.skip rfl rfl ?_ | refine SL.y (op_move rfl) rfl rfl ?_
              -- op
              have hV2' := hV1.trans' hV2
              refine SL.x (op_callF en47 (vs := [_, _]) rfl (contains_spec hu (by omega) (a : Int) (row_leq hr hc6 ha hk1 hka1 (q := k) (by omega) (by rw [hat])))) rfl rfl ?_
              rintro _ _ V3 ⟨rfl, hV3, rfl⟩
              first | refine SL.skip rfl rfl ?_ | refine SL.y (op_move rfl) rfl rfl ?_
              first | refine SL.skip rfl rfl ?_ | refine SL.y (op_move rfl) rfl rfl ?_
              first | refine SL.skip rfl rfl ?_ | refine SL.y (op_move rfl) rfl rfl ?_
              -- op
              refine SL.x (op_callF en19 (vs := [_, _, _]) rfl (leq_val ((hN.mono hV2').mono hV3) rfl)) rfl rfl ?_
              rintro _ _ V4 ⟨rfl, hV4, rfl⟩
              refine SL.y (op_neqBS Tryd.underlying4 rfl rfl) rfl rfl ?_
              have hV5' := (hV2'.trans' hV3).trans' hV4
              have hw5 := (hw.mono hV3).mono hV4
              first | refine SL.y (op_pickT rfl rfl) rfl rfl ?_ | refine SL.y (op_pickF rfl rfl) rfl rfl ?_ | refine SL.y (op_pickB rfl rfl rfl) rfl rfl ?_
              refine SL.y (op_move rfl) rfl rfl ?_
              first | refine SL.skip rfl rfl ?_ | refine SL.y (op_move rfl) rfl rfl ?_
              first | refine SL.skip rfl rfl ?_ | refine SL.y (op_move rfl) rfl rfl ?_
              first | refine SL.skip rfl rfl ?_ | refine SL.y (op_move rfl) rfl rfl ?_
              first | refine SL.skip rfl rfl ?_ | refine SL.y (op_move rfl) rfl rfl ?_
              -- op
              refine SL.skip rfl rfl ?_
              first | refine SL.skip rfl rfl ?_ | refine SL.y (op_move rfl) rfl rfl ?_
              first | refine SL.skip rfl rfl ?_ | refine SL.y (op_move rfl) rfl rfl ?_
              first | refine SL.skip rfl rfl ?_ | refine SL.y (op_move rfl) rfl rfl ?_
              -- op
              refine SL.skip rfl rfl ?_
              have hV8' := hV5'
              first | refine SL.skip rfl rfl ?_ | refine SL.y (op_neqB Tryd.underlying4 rfl rfl) rfl rfl ?_
              first | refine SL.skip rfl rfl ?_ | refine SL.y (op_pickT rfl rfl) rfl rfl ?_ | refine SL.y (op_pickF rfl rfl) rfl rfl ?_ | refine SL.y (op_pickB rfl rfl rfl) rfl rfl ?_
              first | refine SL.y (op_pickT rfl rfl) rfl rfl ?_ | refine SL.y (op_pickF rfl rfl) rfl rfl ?_ | refine SL.y (op_pickB rfl rfl rfl) rfl rfl ?_
              refine SL.nil ?_
              refine T.condF rfl ?_
              refine T.skip ?_
              refine T.blk ?_
              refine T.region ?_
              first | refine SL.y (op_addN (q := 1) rfl rfl (by omega)) rfl rfl ?_ | refine SL.y (op_add rfl rfl (by omega) (by omega)) rfl rfl ?_ | refine SL.y (op_addW rfl rfl) rfl rfl ?_
              refine SL.y (op_move rfl) rfl rfl ?_
              refine SL.nil ?_
              -- cut
              refine T.drop B20 (by repeat (first | exact AtO.here | apply AtO.there)) ?_
              exact T.backW ((allR c ms).length - (k + 1)) (by omega) ⟨k + 1, rfl, by omega, hV8', rfl, rfl⟩ (by repeat (first | exact Sub.nil | refine Sub.cons rfl ?_))
            · refine T.seq ?_
              refine T.region ?_
              first | refine SL.y (op_lssT rfl rfl (by omega)) rfl rfl ?_ | refine SL.y (op_lssF rfl rfl (by omega)) rfl rfl ?_ | refine SL.y (op_lss rfl rfl) rfl rfl ?_
              refine SL.nil ?_
              refine T.seq ?_
              refine T.condF rfl ?_
              refine T.exit (T.exitCode (T.exitCut (T.exitBlk ?_)))
              refine T.seq ?_
              refine T.region ?_
              refine SL.y (op_move rfl) rfl rfl ?_
              refine SL.y (op_not rfl) rfl rfl ?_
              refine SL.y (op_move rfl) rfl rfl ?_
              first | refine SL.skip rfl rfl ?_ | refine SL.y (op_move rfl) rfl rfl ?_
              first | refine SL.skip rfl rfl ?_ | refine SL.y (op_not rfl) rfl rfl ?_
              first | refine SL.y (op_pickT rfl rfl) rfl rfl ?_ | refine SL.y (op_pickF rfl rfl) rfl rfl ?_ | refine SL.y (op_pickB rfl rfl rfl) rfl rfl ?_
              refine SL.y (op_move rfl) rfl rfl ?_
              first | refine SL.skip rfl rfl ?_ | refine SL.y (op_move rfl) rfl rfl ?_
              first | refine SL.skip rfl rfl ?_ | refine SL.y (op_move rfl) rfl rfl ?_
              first | refine SL.skip rfl rfl ?_ | refine SL.y (op_move rfl) rfl rfl ?_
              -- op
              refine SL.skip rfl rfl ?_
              first | refine SL.skip rfl rfl ?_ | refine SL.y (op_move rfl) rfl rfl ?_
              first | refine SL.skip rfl rfl ?_ | refine SL.y (op_move rfl) rfl rfl ?_
              first | refine SL.skip rfl rfl ?_ | refine SL.y (op_move rfl) rfl rfl ?_
              -- op
              refine SL.skip rfl rfl ?_
              first | refine SL.skip rfl rfl ?_ | refine SL.y (op_eqlB Tryd.underlying4 rfl rfl) rfl rfl ?_
              first | refine SL.y (op_pickT rfl rfl) rfl rfl ?_ | refine SL.y (op_pickF rfl rfl) rfl rfl ?_ | refine SL.y (op_pickB rfl rfl rfl) rfl rfl ?_
              refine SL.y (op_assign rfl) rfl rfl ?_
              refine SL.nil ?_
              -- ret
              refine T.ret1 rfl (ResIs.tmp rfl) ?_
              rfl
      · rcases Int.lt_or_le j 0 with f1 | f1
        · skip
          refine SL.x (op_callF en41 (vs := [_, _]) rfl (lrow_none (hL.mono hX5) (by simp only [inB, decide_eq_false_iff_not]; omega))) rfl rfl ?_
          rintro _ _ Y1 ⟨rfl, hY1, rfl⟩
          refine SL.y (op_move rfl) rfl rfl ?_
          refine SL.y (op_extract rfl rfl) rfl rfl ?_
          refine SL.y (op_extract rfl rfl) rfl rfl ?_
          refine SL.y (op_assign rfl) rfl rfl ?_
          refine SL.y (op_assign rfl) rfl rfl ?_
          refine SL.nil ?_
          refine T.seq ?_
          refine T.region ?_
          refine SL.y (op_move rfl) rfl rfl ?_
          refine SL.y (op_move rfl) rfl rfl ?_
          -- op
          refine SL.x (op_callF en42 (vs := [_, _]) rfl (lcol_none ((hT2.mono hX5).mono hY1) ((hL.mono hX5).mono hY1) (by simp only [inB, decide_eq_false_iff_not]; omega))) rfl rfl ?_
          rintro _ _ Y2 ⟨rfl, hY2, rfl⟩
          have hZ2 := (hX5.trans' hY1).trans' hY2
          refine SL.y (op_move rfl) rfl rfl ?_
          refine SL.y (op_extract rfl rfl) rfl rfl ?_
          refine SL.y (op_extract rfl rfl) rfl rfl ?_
          refine SL.y (op_assign rfl) rfl rfl ?_
          refine SL.y (op_assign rfl) rfl rfl ?_
          refine SL.nil ?_
          refine T.seq ?_
          refine T.seq ?_
          refine T.region ?_
          refine SL.y (op_move rfl) rfl rfl ?_
          refine SL.y (op_move rfl) rfl rfl ?_
          first | refine SL.y (op_geqT rfl rfl (by omega)) rfl rfl ?_ | refine SL.y (op_geqF rfl rfl (by omega)) rfl rfl ?_ | refine SL.y (op_geq rfl rfl) rfl rfl ?_
          refine SL.y (op_move rfl) rfl rfl ?_
          first | refine SL.skip rfl rfl ?_ | refine SL.y (op_move rfl) rfl rfl ?_
          first | refine SL.skip rfl rfl ?_ | refine SL.y (op_move rfl) rfl rfl ?_
          -- op
          refine SL.x (op_callF en44 (vs := [_]) rfl (rows_spec (hM.mono hZ2))) rfl rfl ?_
          rintro _ _ Y3 ⟨rfl, hY3, rfl⟩
          have hZ3 := hZ2.trans' hY3
          first | refine SL.skip rfl rfl ?_ | refine SL.y (op_lssT rfl rfl (by omega)) rfl rfl ?_ | refine SL.y (op_lssF rfl rfl (by omega)) rfl rfl ?_ | refine SL.y (op_lss rfl rfl) rfl rfl ?_
          first | refine SL.y (op_pickT rfl rfl) rfl rfl ?_ | refine SL.y (op_pickF rfl rfl) rfl rfl ?_ | refine SL.y (op_pickB rfl rfl rfl) rfl rfl ?_
          refine SL.y (op_neqB Tryd.underlying4 rfl rfl) rfl rfl ?_
          refine SL.y (op_move rfl) rfl rfl ?_
          first | refine SL.skip rfl rfl ?_ | refine SL.y (op_move rfl) rfl rfl ?_
          first | refine SL.skip rfl rfl ?_ | refine SL.y (op_move rfl) rfl rfl ?_
          first | refine SL.skip rfl rfl ?_ | refine SL.y (op_geqT rfl rfl (by omega)) rfl rfl ?_ | refine SL.y (op_geqF rfl rfl (by omega)) rfl rfl ?_ | refine SL.y (op_geq rfl rfl) rfl rfl ?_
          first | refine SL.skip rfl rfl ?_ | refine SL.y (op_move rfl) rfl rfl ?_
          first | refine SL.skip rfl rfl ?_ | refine SL.y (op_move rfl) rfl rfl ?_
          first | refine SL.skip rfl rfl ?_ | refine SL.y (op_move rfl) rfl rfl ?_
          -- op
          refine SL.skip rfl rfl ?_
          have hZ4 : X2.le Y3 := hZ3
          first | refine SL.skip rfl rfl ?_ | refine SL.y (op_lssT rfl rfl (by omega)) rfl rfl ?_ | refine SL.y (op_lssF rfl rfl (by omega)) rfl rfl ?_ | refine SL.y (op_lss rfl rfl) rfl rfl ?_
          first | refine SL.skip rfl rfl ?_ | refine SL.y (op_pickT rfl rfl) rfl rfl ?_ | refine SL.y (op_pickF rfl rfl) rfl rfl ?_ | refine SL.y (op_pickB rfl rfl rfl) rfl rfl ?_
          first | refine SL.skip rfl rfl ?_ | refine SL.y (op_neqB Tryd.underlying4 rfl rfl) rfl rfl ?_
          first | refine SL.y (op_pickT rfl rfl) rfl rfl ?_ | refine SL.y (op_pickF rfl rfl) rfl rfl ?_ | refine SL.y (op_pickB rfl rfl rfl) rfl rfl ?_
          refine SL.y (op_move rfl) rfl rfl ?_
          first | refine SL.skip rfl rfl ?_ | refine SL.y (op_move rfl) rfl rfl ?_
          first | refine SL.skip rfl rfl ?_ | refine SL.y (op_not rfl) rfl rfl ?_
          first | refine SL.skip rfl rfl ?_ | refine SL.y (op_move rfl) rfl rfl ?_
          first | refine SL.skip rfl rfl ?_ | refine SL.y (op_move rfl) rfl rfl ?_
          first | refine SL.skip rfl rfl ?_ | refine SL.y (op_neqT rfl rfl (by omega)) rfl rfl ?_ | refine SL.y (op_neqF rfl rfl (by omega)) rfl rfl ?_ | refine SL.y (op_neq rfl rfl) rfl rfl ?_
          first | refine SL.skip rfl rfl ?_ | refine SL.y (op_pickT rfl rfl) rfl rfl ?_ | refine SL.y (op_pickF rfl rfl) rfl rfl ?_ | refine SL.y (op_pickB rfl rfl rfl) rfl rfl ?_
          first | refine SL.y (op_pickT rfl rfl) rfl rfl ?_ | refine SL.y (op_pickF rfl rfl) rfl rfl ?_ | refine SL.y (op_pickB rfl rfl rfl) rfl rfl ?_
          refine SL.y (op_move rfl) rfl rfl ?_
          first | refine SL.skip rfl rfl ?_ | refine SL.y (op_move rfl) rfl rfl ?_
          first | refine SL.skip rfl rfl ?_ | refine SL.y (op_not rfl) rfl rfl ?_
          first | refine SL.skip rfl rfl ?_ | refine SL.y (op_move rfl) rfl rfl ?_
          first | refine SL.skip rfl rfl ?_ | refine SL.y (op_move rfl) rfl rfl ?_
          first | refine SL.skip rfl rfl ?_ | refine SL.y (op_neqT rfl rfl (by omega)) rfl rfl ?_ | refine SL.y (op_neqF rfl rfl (by omega)) rfl rfl ?_ | refine SL.y (op_neq rfl rfl) rfl rfl ?_
          first | refine SL.skip rfl rfl ?_ | refine SL.y (op_pickT rfl rfl) rfl rfl ?_ | refine SL.y (op_pickF rfl rfl) rfl rfl ?_ | refine SL.y (op_pickB rfl rfl rfl) rfl rfl ?_
          first | refine SL.y (op_pickT rfl rfl) rfl rfl ?_ | refine SL.y (op_pickF rfl rfl) rfl rfl ?_ | refine SL.y (op_pickB rfl rfl rfl) rfl rfl ?_
          refine SL.nil ?_
          refine T.condF rfl ?_
          refine T.skip ?_
          refine T.seq ?_
          refine T.seq ?_
          refine T.region ?_
          refine SL.y (op_move rfl) rfl rfl ?_
          refine SL.y (op_lenS Tryd.underlying29 rfl) rfl rfl ?_
          refine SL.y (op_move (v := .int .i64 ((0 : Nat) : Int)) rfl) rfl rfl ?_
          refine SL.nil ?_
          refine T.block ?_
          -- loop live [1, 2, 6, 7, 8, 15, 16, 17, 18, 137, 138, 139]
          refine T.loopW (fun m env own X' => ∃ k : Nat, m = (allR c ms).length - k ∧ k ≤ (allR c ms).length ∧ X2.le X' ∧ env = [(1, .int .i64 i), (2, .int .i64 j), (7, .pointer (some ⟨bm, 0, none⟩)), (8, .pointer (some ⟨bl, 0, none⟩)), (15, .int .i64 0), (16, .bool false), (17, .int .i64 0), (18, .bool false), (137, .slice At (allR c ms).length cpt), (138, .int .i64 ((allR c ms).length : Int)), (139, .int .i64 (k : Int))] ∧ own = []) (allR c ms).length ⟨0, by simp, by omega, hZ4, rfl, rfl⟩ (by repeat (first | exact Sub.nil | refine Sub.cons rfl ?_)) ?_
          rintro m _ _ V1 ⟨k, rfl, hk, hV1, rfl, rfl⟩
          rcases Nat.lt_or_ge k (allR c ms).length with hkl | hkl
          · obtain ⟨bo, rfl, hBo⟩ := (hC.1.mono hV1).blk (by omega)
            obtain ⟨g1, g2⟩ := conC_get (allR c ms) k hkl
            obtain ⟨b1, b2⟩ := hsm _ (List.getElem_mem hkl)
            have hat := allR_at hr hc6 hkl
            have l1 := mem64_length (allR c ms)[k].1
            have l2 := mem64_length (allR c ms)[k].2
            refine T.seq ?_
            refine T.region ?_
            first | refine SL.y (op_lssT rfl rfl (by omega)) rfl rfl ?_ | refine SL.y (op_lssF rfl rfl (by omega)) rfl rfl ?_ | refine SL.y (op_lss rfl rfl) rfl rfl ?_
            refine SL.nil ?_
            refine T.seq ?_
            refine T.condT rfl ?_
            refine T.skip ?_
            refine T.seq ?_
            refine T.block ?_
            refine T.seq ?_
            refine T.region ?_
            refine SL.y (op_move rfl) rfl rfl ?_
            first | refine SL.y (op_indexN Tryd.underlying29 ty75 rfl rfl (by omega)) rfl rfl ?_ | refine SL.y (op_index Tryd.underlying29 ty75 rfl rfl (by omega) (by omega)) rfl rfl ?_
            -- to 143: op
            refine SL.y (op_loadX ty75 rfl hBo (creadR2 g1 g2 (by omega))) rfl rfl ?_
            refine SL.x (op_alloc z75) rfl rfl ?_
            rintro _ _ _ ⟨B20, rfl, rfl, rfl⟩
            refine SL.y (op_assign rfl) rfl rfl ?_
            refine SL.x (op_store ty75 rfl rfl (by repeat (first | exact AtO.here | apply AtO.there)) rfl rfl rfl) rfl rfl ?_
            rintro _ _ _ ⟨rfl, rfl⟩
            refine SL.nil ?_
            refine T.seq ?_
            refine T.region ?_
            first | refine SL.y (op_load ty75 rfl (by repeat (first | exact AtO.here | apply AtO.there)) rfl) rfl rfl ?_ | refine SL.y (op_loadX ty75 rfl (by assumption) rfl) rfl rfl ?_
            -- op
            refine SL.x (op_callF en46 (vs := [_]) rfl (lists46_spec (allR c ms)[k].1 (allR c ms)[k].2 b1 b2)) rfl rfl ?_
            rintro _ _ V2 ⟨rfl, hV2, u, w, rfl, hu, hw⟩
            refine SL.y (op_move rfl) rfl rfl ?_
            refine SL.y (op_extract rfl rfl) rfl rfl ?_
            refine SL.y (op_extract rfl rfl) rfl rfl ?_
            refine SL.y (op_assign rfl) rfl rfl ?_
            refine SL.y (op_assign rfl) rfl rfl ?_
            refine SL.nil ?_
            refine T.seq ?_
            refine T.region ?_
            refine SL.y (op_move rfl) rfl rfl ?_
            refine SL.y (op_move rfl) rfl rfl ?_
            first | refine SL.skip rfl rfl ?_ | refine SL.y (op_move rfl) rfl rfl ?_
            first | refine SL.skip rfl rfl ?_ | refine SL.y (op_move rfl) rfl rfl ?_
            -- op
            have hV2' := hV1.trans' hV2
            refine SL.skip rfl rfl ?_
            first | refine SL.skip rfl rfl ?_ | refine SL.y (op_move rfl) rfl rfl ?_
            first | refine SL.skip rfl rfl ?_ | refine SL.y (op_move rfl) rfl rfl ?_
            first | refine SL.skip rfl rfl ?_ | refine SL.y (op_move rfl) rfl rfl ?_
            -- op
            refine SL.skip rfl rfl ?_
            have hV5' := hV2'
            have hw5 := hw
            first | refine SL.skip rfl rfl ?_ | refine SL.y (op_neqB Tryd.underlying4 rfl rfl) rfl rfl ?_
            first | refine SL.y (op_pickT rfl rfl) rfl rfl ?_ | refine SL.y (op_pickF rfl rfl) rfl rfl ?_ | refine SL.y (op_pickB rfl rfl rfl) rfl rfl ?_
            refine SL.y (op_move rfl) rfl rfl ?_
            first | refine SL.skip rfl rfl ?_ | refine SL.y (op_move rfl) rfl rfl ?_
            first | refine SL.skip rfl rfl ?_ | refine SL.y (op_move rfl) rfl rfl ?_
            first | refine SL.skip rfl rfl ?_ | refine SL.y (op_move rfl) rfl rfl ?_
            first | refine SL.skip rfl rfl ?_ | refine SL.y (op_move rfl) rfl rfl ?_
            -- op
            refine SL.skip rfl rfl ?_
            first | refine SL.skip rfl rfl ?_ | refine SL.y (op_move rfl) rfl rfl ?_
            first | refine SL.skip rfl rfl ?_ | refine SL.y (op_move rfl) rfl rfl ?_
            first | refine SL.skip rfl rfl ?_ | refine SL.y (op_move rfl) rfl rfl ?_
            -- op
            refine SL.skip rfl rfl ?_
            have hV8' := hV5'
            first | refine SL.skip rfl rfl ?_ | refine SL.y (op_neqB Tryd.underlying4 rfl rfl) rfl rfl ?_
            first | refine SL.skip rfl rfl ?_ | refine SL.y (op_pickT rfl rfl) rfl rfl ?_ | refine SL.y (op_pickF rfl rfl) rfl rfl ?_ | refine SL.y (op_pickB rfl rfl rfl) rfl rfl ?_
            first | refine SL.y (op_pickT rfl rfl) rfl rfl ?_ | refine SL.y (op_pickF rfl rfl) rfl rfl ?_ | refine SL.y (op_pickB rfl rfl rfl) rfl rfl ?_
            refine SL.nil ?_
            refine T.condF rfl ?_
            refine T.skip ?_
            refine T.blk ?_
            refine T.region ?_
            first | refine SL.y (op_addN (q := 1) rfl rfl (by omega)) rfl rfl ?_ | refine SL.y (op_add rfl rfl (by omega) (by omega)) rfl rfl ?_ | refine SL.y (op_addW rfl rfl) rfl rfl ?_
            refine SL.y (op_move rfl) rfl rfl ?_
            refine SL.nil ?_
            -- cut
            refine T.drop B20 (by repeat (first | exact AtO.here | apply AtO.there)) ?_
            exact T.backW ((allR c ms).length - (k + 1)) (by omega) ⟨k + 1, rfl, by omega, hV8', rfl, rfl⟩ (by repeat (first | exact Sub.nil | refine Sub.cons rfl ?_))
          · refine T.seq ?_
            refine T.region ?_
            first | refine SL.y (op_lssT rfl rfl (by omega)) rfl rfl ?_ | refine SL.y (op_lssF rfl rfl (by omega)) rfl rfl ?_ | refine SL.y (op_lss rfl rfl) rfl rfl ?_
            refine SL.nil ?_
            refine T.seq ?_
            refine T.condF rfl ?_
            refine T.exit (T.exitCode (T.exitCut (T.exitBlk ?_)))
            refine T.seq ?_
            refine T.region ?_
            refine SL.y (op_move rfl) rfl rfl ?_
            refine SL.y (op_not rfl) rfl rfl ?_
            refine SL.y (op_move rfl) rfl rfl ?_
            first | refine SL.skip rfl rfl ?_ | refine SL.y (op_move rfl) rfl rfl ?_
            first | refine SL.skip rfl rfl ?_ | refine SL.y (op_not rfl) rfl rfl ?_
            first | refine SL.y (op_pickT rfl rfl) rfl rfl ?_ | refine SL.y (op_pickF rfl rfl) rfl rfl ?_ | refine SL.y (op_pickB rfl rfl rfl) rfl rfl ?_
            refine SL.y (op_move rfl) rfl rfl ?_
            first | refine SL.skip rfl rfl ?_ | refine SL.y (op_move rfl) rfl rfl ?_
            first | refine SL.skip rfl rfl ?_ | refine SL.y (op_move rfl) rfl rfl ?_
            first | refine SL.skip rfl rfl ?_ | refine SL.y (op_move rfl) rfl rfl ?_
            -- op
            refine SL.skip rfl rfl ?_
            first | refine SL.skip rfl rfl ?_ | refine SL.y (op_move rfl) rfl rfl ?_
            first | refine SL.skip rfl rfl ?_ | refine SL.y (op_move rfl) rfl rfl ?_
            first | refine SL.skip rfl rfl ?_ | refine SL.y (op_move rfl) rfl rfl ?_
            -- op
            refine SL.skip rfl rfl ?_
            first | refine SL.skip rfl rfl ?_ | refine SL.y (op_eqlB Tryd.underlying4 rfl rfl) rfl rfl ?_
            first | refine SL.y (op_pickT rfl rfl) rfl rfl ?_ | refine SL.y (op_pickF rfl rfl) rfl rfl ?_ | refine SL.y (op_pickB rfl rfl rfl) rfl rfl ?_
            refine SL.y (op_assign rfl) rfl rfl ?_
            refine SL.nil ?_
            -- ret
            refine T.ret1 rfl (ResIs.tmp rfl) ?_
            rfl
        · rcases Int.lt_or_le j c with f2 | f2
          · obtain ⟨b, rfl⟩ := Int.eq_ofNat_of_zero_le f1
            have hb : b < c := by omega
            obtain ⟨q1, hq1, hqb1, hqb2⟩ := col_at (ms := ms) hr hc6 hb
            refine SL.x (op_callF en41 (vs := [_, _]) rfl (lrow_none (hL.mono hX5) (by simp only [inB, decide_eq_false_iff_not]; omega))) rfl rfl ?_
            rintro _ _ Y1 ⟨rfl, hY1, rfl⟩
            refine SL.y (op_move rfl) rfl rfl ?_
            refine SL.y (op_extract rfl rfl) rfl rfl ?_
            refine SL.y (op_extract rfl rfl) rfl rfl ?_
            refine SL.y (op_assign rfl) rfl rfl ?_
            refine SL.y (op_assign rfl) rfl rfl ?_
            refine SL.nil ?_
            refine T.seq ?_
            refine T.region ?_
            refine SL.y (op_move rfl) rfl rfl ?_
            refine SL.y (op_move rfl) rfl rfl ?_
            -- op
            refine SL.x (op_callF en42 (vs := [_, _]) rfl (lcol_some ((hT2.mono hX5).mono hY1) ((hL.mono hX5).mono hY1) hqb2)) rfl rfl ?_
            rintro _ _ Y2 ⟨rfl, hY2, rfl⟩
            have hZ2 := (hX5.trans' hY1).trans' hY2
            refine SL.y (op_move rfl) rfl rfl ?_
            refine SL.y (op_extract rfl rfl) rfl rfl ?_
            refine SL.y (op_extract rfl rfl) rfl rfl ?_
            refine SL.y (op_assign rfl) rfl rfl ?_
            refine SL.y (op_assign rfl) rfl rfl ?_
            refine SL.nil ?_
            refine T.seq ?_
            refine T.seq ?_
            refine T.region ?_
            refine SL.y (op_move rfl) rfl rfl ?_
            refine SL.y (op_move rfl) rfl rfl ?_
            first | refine SL.y (op_geqT rfl rfl (by omega)) rfl rfl ?_ | refine SL.y (op_geqF rfl rfl (by omega)) rfl rfl ?_ | refine SL.y (op_geq rfl rfl) rfl rfl ?_
            refine SL.y (op_move rfl) rfl rfl ?_
            first | refine SL.skip rfl rfl ?_ | refine SL.y (op_move rfl) rfl rfl ?_
            first | refine SL.skip rfl rfl ?_ | refine SL.y (op_move rfl) rfl rfl ?_
            -- op
            refine SL.x (op_callF en44 (vs := [_]) rfl (rows_spec (hM.mono hZ2))) rfl rfl ?_
            rintro _ _ Y3 ⟨rfl, hY3, rfl⟩
            have hZ3 := hZ2.trans' hY3
            first | refine SL.skip rfl rfl ?_ | refine SL.y (op_lssT rfl rfl (by omega)) rfl rfl ?_ | refine SL.y (op_lssF rfl rfl (by omega)) rfl rfl ?_ | refine SL.y (op_lss rfl rfl) rfl rfl ?_
            first | refine SL.y (op_pickT rfl rfl) rfl rfl ?_ | refine SL.y (op_pickF rfl rfl) rfl rfl ?_ | refine SL.y (op_pickB rfl rfl rfl) rfl rfl ?_
            refine SL.y (op_neqB Tryd.underlying4 rfl rfl) rfl rfl ?_
            refine SL.y (op_move rfl) rfl rfl ?_
            first | refine SL.skip rfl rfl ?_ | refine SL.y (op_move rfl) rfl rfl ?_
            first | refine SL.skip rfl rfl ?_ | refine SL.y (op_move rfl) rfl rfl ?_
            first | refine SL.skip rfl rfl ?_ | refine SL.y (op_geqT rfl rfl (by omega)) rfl rfl ?_ | refine SL.y (op_geqF rfl rfl (by omega)) rfl rfl ?_ | refine SL.y (op_geq rfl rfl) rfl rfl ?_
            first | refine SL.skip rfl rfl ?_ | refine SL.y (op_move rfl) rfl rfl ?_
            first | refine SL.skip rfl rfl ?_ | refine SL.y (op_move rfl) rfl rfl ?_
            first | refine SL.skip rfl rfl ?_ | refine SL.y (op_move rfl) rfl rfl ?_
            -- op
            refine SL.x (op_callF en45 (vs := [_]) rfl (columns_spec (hM.mono hZ3))) rfl rfl ?_
            rintro _ _ Y4 ⟨rfl, hY4, rfl⟩
            have hZ4 := hZ3.trans' hY4
            first | refine SL.skip rfl rfl ?_ | refine SL.y (op_lssT rfl rfl (by omega)) rfl rfl ?_ | refine SL.y (op_lssF rfl rfl (by omega)) rfl rfl ?_ | refine SL.y (op_lss rfl rfl) rfl rfl ?_
            first | refine SL.skip rfl rfl ?_ | refine SL.y (op_pickT rfl rfl) rfl rfl ?_ | refine SL.y (op_pickF rfl rfl) rfl rfl ?_ | refine SL.y (op_pickB rfl rfl rfl) rfl rfl ?_
            first | refine SL.skip rfl rfl ?_ | refine SL.y (op_neqB Tryd.underlying4 rfl rfl) rfl rfl ?_
            first | refine SL.y (op_pickT rfl rfl) rfl rfl ?_ | refine SL.y (op_pickF rfl rfl) rfl rfl ?_ | refine SL.y (op_pickB rfl rfl rfl) rfl rfl ?_
            refine SL.y (op_move rfl) rfl rfl ?_
            first | refine SL.skip rfl rfl ?_ | refine SL.y (op_move rfl) rfl rfl ?_
            first | refine SL.skip rfl rfl ?_ | refine SL.y (op_not rfl) rfl rfl ?_
            first | refine SL.skip rfl rfl ?_ | refine SL.y (op_move rfl) rfl rfl ?_
            first | refine SL.skip rfl rfl ?_ | refine SL.y (op_move rfl) rfl rfl ?_
            first | refine SL.skip rfl rfl ?_ | refine SL.y (op_neqT rfl rfl (by omega)) rfl rfl ?_ | refine SL.y (op_neqF rfl rfl (by omega)) rfl rfl ?_ | refine SL.y (op_neq rfl rfl) rfl rfl ?_
            first | refine SL.skip rfl rfl ?_ | refine SL.y (op_pickT rfl rfl) rfl rfl ?_ | refine SL.y (op_pickF rfl rfl) rfl rfl ?_ | refine SL.y (op_pickB rfl rfl rfl) rfl rfl ?_
            first | refine SL.y (op_pickT rfl rfl) rfl rfl ?_ | refine SL.y (op_pickF rfl rfl) rfl rfl ?_ | refine SL.y (op_pickB rfl rfl rfl) rfl rfl ?_
            refine SL.y (op_move rfl) rfl rfl ?_
            first | refine SL.skip rfl rfl ?_ | refine SL.y (op_move rfl) rfl rfl ?_
            first | refine SL.skip rfl rfl ?_ | refine SL.y (op_not rfl) rfl rfl ?_
            first | refine SL.skip rfl rfl ?_ | refine SL.y (op_move rfl) rfl rfl ?_
            first | refine SL.skip rfl rfl ?_ | refine SL.y (op_move rfl) rfl rfl ?_
            first | refine SL.skip rfl rfl ?_ | refine SL.y (op_neqT rfl rfl (by omega)) rfl rfl ?_ | refine SL.y (op_neqF rfl rfl (by omega)) rfl rfl ?_ | refine SL.y (op_neq rfl rfl) rfl rfl ?_
            first | refine SL.skip rfl rfl ?_ | refine SL.y (op_pickT rfl rfl) rfl rfl ?_ | refine SL.y (op_pickF rfl rfl) rfl rfl ?_ | refine SL.y (op_pickB rfl rfl rfl) rfl rfl ?_
            first | refine SL.y (op_pickT rfl rfl) rfl rfl ?_ | refine SL.y (op_pickF rfl rfl) rfl rfl ?_ | refine SL.y (op_pickB rfl rfl rfl) rfl rfl ?_
            refine SL.nil ?_
            refine T.condF rfl ?_
            refine T.skip ?_
            refine T.seq ?_
            refine T.seq ?_
            refine T.region ?_
            refine SL.y (op_move rfl) rfl rfl ?_
            refine SL.y (op_lenS Tryd.underlying29 rfl) rfl rfl ?_
            refine SL.y (op_move (v := .int .i64 ((0 : Nat) : Int)) rfl) rfl rfl ?_
            refine SL.nil ?_
            refine T.block ?_
            -- loop live [1, 2, 6, 7, 8, 15, 16, 17, 18, 137, 138, 139]
            refine T.loopW (fun m env own X' => ∃ k : Nat, m = (allR c ms).length - k ∧ k ≤ (allR c ms).length ∧ X2.le X' ∧ env = [(1, .int .i64 i), (2, .int .i64 (b : Int)), (7, .pointer (some ⟨bm, 0, none⟩)), (8, .pointer (some ⟨bl, 0, none⟩)), (15, .int .i64 0), (16, .bool false), (17, .int .i64 (q1 : Int)), (18, .bool true), (137, .slice At (allR c ms).length cpt), (138, .int .i64 ((allR c ms).length : Int)), (139, .int .i64 (k : Int))] ∧ own = []) (allR c ms).length ⟨0, by simp, by omega, hZ4, rfl, rfl⟩ (by repeat (first | exact Sub.nil | refine Sub.cons rfl ?_)) ?_
            rintro m _ _ V1 ⟨k, rfl, hk, hV1, rfl, rfl⟩
            rcases Nat.lt_or_ge k (allR c ms).length with hkl | hkl
            · obtain ⟨bo, rfl, hBo⟩ := (hC.1.mono hV1).blk (by omega)
              obtain ⟨g1, g2⟩ := conC_get (allR c ms) k hkl
              obtain ⟨b1, b2⟩ := hsm _ (List.getElem_mem hkl)
              have hat := allR_at hr hc6 hkl
              have l1 := mem64_length (allR c ms)[k].1
              have l2 := mem64_length (allR c ms)[k].2
              refine T.seq ?_
              refine T.region ?_
              first | refine SL.y (op_lssT rfl rfl (by omega)) rfl rfl ?_ | refine SL.y (op_lssF rfl rfl (by omega)) rfl rfl ?_ | refine SL.y (op_lss rfl rfl) rfl rfl ?_
              refine SL.nil ?_
              refine T.seq ?_
              refine T.condT rfl ?_
              refine T.skip ?_
              refine T.seq ?_
              refine T.block ?_
              refine T.seq ?_
              refine T.region ?_
              refine SL.y (op_move rfl) rfl rfl ?_
              first | refine SL.y (op_indexN Tryd.underlying29 ty75 rfl rfl (by omega)) rfl rfl ?_ | refine SL.y (op_index Tryd.underlying29 ty75 rfl rfl (by omega) (by omega)) rfl rfl ?_
              -- to 143: op
              refine SL.y (op_loadX ty75 rfl hBo (creadR2 g1 g2 (by omega))) rfl rfl ?_
              refine SL.x (op_alloc z75) rfl rfl ?_
              rintro _ _ _ ⟨B20, rfl, rfl, rfl⟩
              refine SL.y (op_assign rfl) rfl rfl ?_
              refine SL.x (op_store ty75 rfl rfl (by repeat (first | exact AtO.here | apply AtO.there)) rfl rfl rfl) rfl rfl ?_
              rintro _ _ _ ⟨rfl, rfl⟩
              refine SL.nil ?_
              refine T.seq ?_
              refine T.region ?_
              first | refine SL.y (op_load ty75 rfl (by repeat (first | exact AtO.here | apply AtO.there)) rfl) rfl rfl ?_ | refine SL.y (op_loadX ty75 rfl (by assumption) rfl) rfl rfl ?_
              -- op
              refine SL.x (op_callF en46 (vs := [_]) rfl (lists46_spec (allR c ms)[k].1 (allR c ms)[k].2 b1 b2)) rfl rfl ?_
              rintro _ _ V2 ⟨rfl, hV2, u, w, rfl, hu, hw⟩
              refine SL.y (op_move rfl) rfl rfl ?_
              refine SL.y (op_extract rfl rfl) rfl rfl ?_
              refine SL.y (op_extract rfl rfl) rfl rfl ?_
              refine SL.y (op_assign rfl) rfl rfl ?_
              refine SL.y (op_assign rfl) rfl rfl ?_
              refine SL.nil ?_
              refine T.seq ?_
              refine T.region ?_
              refine SL.y (op_move rfl) rfl rfl ?_
              refine SL.y (op_move rfl) rfl rfl ?_
              first | refine SL.skip rfl rfl ?_ | refine SL.y (op_move rfl) rfl rfl ?_
              first | refine SL.skip rfl rfl ?_ | refine SL.y (op_move rfl) rfl rfl ?_
              -- op
              have hV2' := hV1.trans' hV2
              refine SL.skip rfl rfl ?_
              first | refine SL.skip rfl rfl ?_ | refine SL.y (op_move rfl) rfl rfl ?_
              first | refine SL.skip rfl rfl ?_ | refine SL.y (op_move rfl) rfl rfl ?_
              first | refine SL.skip rfl rfl ?_ | refine SL.y (op_move rfl) rfl rfl ?_
              -- op
              refine SL.skip rfl rfl ?_
              have hV5' := hV2'
              have hw5 := hw
              first | refine SL.skip rfl rfl ?_ | refine SL.y (op_neqB Tryd.underlying4 rfl rfl) rfl rfl ?_
              first | refine SL.y (op_pickT rfl rfl) rfl rfl ?_ | refine SL.y (op_pickF rfl rfl) rfl rfl ?_ | refine SL.y (op_pickB rfl rfl rfl) rfl rfl ?_
              refine SL.y (op_move rfl) rfl rfl ?_
              first | refine SL.skip rfl rfl ?_ | refine SL.y (op_move rfl) rfl rfl ?_
              first | refine SL.skip rfl rfl ?_ | refine SL.y (op_move rfl) rfl rfl ?_
              first | refine SL.skip rfl rfl ?_ | refine SL.y (op_move rfl) rfl rfl ?_
              first | refine SL.skip rfl rfl ?_ | refine SL.y (op_move rfl) rfl rfl ?_
              -- op
              refine SL.x (op_callF en47 (vs := [_, _]) rfl (contains_spec hw5 (by omega) (b : Int) (col_leq hr hc6 hb hq1 hqb1 (q := k) (by omega) (by rw [hat])))) rfl rfl ?_
              rintro _ _ V6 ⟨rfl, hV6, rfl⟩
              first | refine SL.skip rfl rfl ?_ | refine SL.y (op_move rfl) rfl rfl ?_
              first | refine SL.skip rfl rfl ?_ | refine SL.y (op_move rfl) rfl rfl ?_
              first | refine SL.skip rfl rfl ?_ | refine SL.y (op_move rfl) rfl rfl ?_
              -- op
              refine SL.x (op_callF en19 (vs := [_, _, _]) rfl (leq_val ((hN.mono hV5').mono hV6) rfl)) rfl rfl ?_
              rintro _ _ V7 ⟨rfl, hV7, rfl⟩
              refine SL.y (op_neqBS Tryd.underlying4 rfl rfl) rfl rfl ?_
              have hV8' := (hV5'.trans' hV6).trans' hV7
              first | refine SL.skip rfl rfl ?_ | refine SL.y (op_pickT rfl rfl) rfl rfl ?_ | refine SL.y (op_pickF rfl rfl) rfl rfl ?_ | refine SL.y (op_pickB rfl rfl rfl) rfl rfl ?_
              first | refine SL.y (op_pickT rfl rfl) rfl rfl ?_ | refine SL.y (op_pickF rfl rfl) rfl rfl ?_ | refine SL.y (op_pickB rfl rfl rfl) rfl rfl ?_
              refine SL.nil ?_
              refine T.condF rfl ?_
              refine T.skip ?_
              refine T.blk ?_
              refine T.region ?_
              first | refine SL.y (op_addN (q := 1) rfl rfl (by omega)) rfl rfl ?_ | refine SL.y (op_add rfl rfl (by omega) (by omega)) rfl rfl ?_ | refine SL.y (op_addW rfl rfl) rfl rfl ?_
              refine SL.y (op_move rfl) rfl rfl ?_
              refine SL.nil ?_
              -- cut
              refine T.drop B20 (by repeat (first | exact AtO.here | apply AtO.there)) ?_
              exact T.backW ((allR c ms).length - (k + 1)) (by omega) ⟨k + 1, rfl, by omega, hV8', rfl, rfl⟩ (by repeat (first | exact Sub.nil | refine Sub.cons rfl ?_))
            · refine T.seq ?_
              refine T.region ?_
              first | refine SL.y (op_lssT rfl rfl (by omega)) rfl rfl ?_ | refine SL.y (op_lssF rfl rfl (by omega)) rfl rfl ?_ | refine SL.y (op_lss rfl rfl) rfl rfl ?_
              refine SL.nil ?_
              refine T.seq ?_
              refine T.condF rfl ?_
              refine T.exit (T.exitCode (T.exitCut (T.exitBlk ?_)))
              refine T.seq ?_
              refine T.region ?_
              refine SL.y (op_move rfl) rfl rfl ?_
              refine SL.y (op_not rfl) rfl rfl ?_
              refine SL.y (op_move rfl) rfl rfl ?_
              first | refine SL.skip rfl rfl ?_ | refine SL.y (op_move rfl) rfl rfl ?_
              first | refine SL.skip rfl rfl ?_ | refine SL.y (op_not rfl) rfl rfl ?_
              first | refine SL.y (op_pickT rfl rfl) rfl rfl ?_ | refine SL.y (op_pickF rfl rfl) rfl rfl ?_ | refine SL.y (op_pickB rfl rfl rfl) rfl rfl ?_
              refine SL.y (op_move rfl) rfl rfl ?_
              first | refine SL.skip rfl rfl ?_ | refine SL.y (op_move rfl) rfl rfl ?_
              first | refine SL.skip rfl rfl ?_ | refine SL.y (op_move rfl) rfl rfl ?_
              first | refine SL.skip rfl rfl ?_ | refine SL.y (op_move rfl) rfl rfl ?_
              -- op
              refine SL.skip rfl rfl ?_
              first | refine SL.skip rfl rfl ?_ | refine SL.y (op_move rfl) rfl rfl ?_
              first | refine SL.skip rfl rfl ?_ | refine SL.y (op_move rfl) rfl rfl ?_
              first | refine SL.skip rfl rfl ?_ | refine SL.y (op_move rfl) rfl rfl ?_
              -- op
              refine SL.skip rfl rfl ?_
              first | refine SL.skip rfl rfl ?_ | refine SL.y (op_eqlB Tryd.underlying4 rfl rfl) rfl rfl ?_
              first | refine SL.y (op_pickT rfl rfl) rfl rfl ?_ | refine SL.y (op_pickF rfl rfl) rfl rfl ?_ | refine SL.y (op_pickB rfl rfl rfl) rfl rfl ?_
              refine SL.y (op_assign rfl) rfl rfl ?_
              refine SL.nil ?_
              -- ret
              refine T.ret1 rfl (ResIs.tmp rfl) ?_
              rfl
          · refine SL.x (op_callF en41 (vs := [_, _]) rfl (lrow_none (hL.mono hX5) (by simp only [inB, decide_eq_false_iff_not]; omega))) rfl rfl ?_
            rintro _ _ Y1 ⟨rfl, hY1, rfl⟩
            refine SL.y (op_move rfl) rfl rfl ?_
            refine SL.y (op_extract rfl rfl) rfl rfl ?_
            refine SL.y (op_extract rfl rfl) rfl rfl ?_
            refine SL.y (op_assign rfl) rfl rfl ?_
            refine SL.y (op_assign rfl) rfl rfl ?_
            refine SL.nil ?_
            refine T.seq ?_
            refine T.region ?_
            refine SL.y (op_move rfl) rfl rfl ?_
            refine SL.y (op_move rfl) rfl rfl ?_
            -- op
            refine SL.x (op_callF en42 (vs := [_, _]) rfl (lcol_none ((hT2.mono hX5).mono hY1) ((hL.mono hX5).mono hY1) (by simp only [inB, decide_eq_false_iff_not]; omega))) rfl rfl ?_
            rintro _ _ Y2 ⟨rfl, hY2, rfl⟩
            have hZ2 := (hX5.trans' hY1).trans' hY2
            refine SL.y (op_move rfl) rfl rfl ?_
            refine SL.y (op_extract rfl rfl) rfl rfl ?_
            refine SL.y (op_extract rfl rfl) rfl rfl ?_
            refine SL.y (op_assign rfl) rfl rfl ?_
            refine SL.y (op_assign rfl) rfl rfl ?_
            refine SL.nil ?_
            refine T.seq ?_
            refine T.seq ?_
            refine T.region ?_
            refine SL.y (op_move rfl) rfl rfl ?_
            refine SL.y (op_move rfl) rfl rfl ?_
            first | refine SL.y (op_geqT rfl rfl (by omega)) rfl rfl ?_ | refine SL.y (op_geqF rfl rfl (by omega)) rfl rfl ?_ | refine SL.y (op_geq rfl rfl) rfl rfl ?_
            refine SL.y (op_move rfl) rfl rfl ?_
            first | refine SL.skip rfl rfl ?_ | refine SL.y (op_move rfl) rfl rfl ?_
            first | refine SL.skip rfl rfl ?_ | refine SL.y (op_move rfl) rfl rfl ?_
            -- op
            refine SL.x (op_callF en44 (vs := [_]) rfl (rows_spec (hM.mono hZ2))) rfl rfl ?_
            rintro _ _ Y3 ⟨rfl, hY3, rfl⟩
            have hZ3 := hZ2.trans' hY3
            first | refine SL.skip rfl rfl ?_ | refine SL.y (op_lssT rfl rfl (by omega)) rfl rfl ?_ | refine SL.y (op_lssF rfl rfl (by omega)) rfl rfl ?_ | refine SL.y (op_lss rfl rfl) rfl rfl ?_
            first | refine SL.y (op_pickT rfl rfl) rfl rfl ?_ | refine SL.y (op_pickF rfl rfl) rfl rfl ?_ | refine SL.y (op_pickB rfl rfl rfl) rfl rfl ?_
            refine SL.y (op_neqB Tryd.underlying4 rfl rfl) rfl rfl ?_
            refine SL.y (op_move rfl) rfl rfl ?_
            first | refine SL.skip rfl rfl ?_ | refine SL.y (op_move rfl) rfl rfl ?_
            first | refine SL.skip rfl rfl ?_ | refine SL.y (op_move rfl) rfl rfl ?_
            first | refine SL.skip rfl rfl ?_ | refine SL.y (op_geqT rfl rfl (by omega)) rfl rfl ?_ | refine SL.y (op_geqF rfl rfl (by omega)) rfl rfl ?_ | refine SL.y (op_geq rfl rfl) rfl rfl ?_
            first | refine SL.skip rfl rfl ?_ | refine SL.y (op_move rfl) rfl rfl ?_
            first | refine SL.skip rfl rfl ?_ | refine SL.y (op_move rfl) rfl rfl ?_
            first | refine SL.skip rfl rfl ?_ | refine SL.y (op_move rfl) rfl rfl ?_
            -- op
            refine SL.x (op_callF en45 (vs := [_]) rfl (columns_spec (hM.mono hZ3))) rfl rfl ?_
            rintro _ _ Y4 ⟨rfl, hY4, rfl⟩
            have hZ4 := hZ3.trans' hY4
            first | refine SL.skip rfl rfl ?_ | refine SL.y (op_lssT rfl rfl (by omega)) rfl rfl ?_ | refine SL.y (op_lssF rfl rfl (by omega)) rfl rfl ?_ | refine SL.y (op_lss rfl rfl) rfl rfl ?_
            first | refine SL.skip rfl rfl ?_ | refine SL.y (op_pickT rfl rfl) rfl rfl ?_ | refine SL.y (op_pickF rfl rfl) rfl rfl ?_ | refine SL.y (op_pickB rfl rfl rfl) rfl rfl ?_
            first | refine SL.skip rfl rfl ?_ | refine SL.y (op_neqB Tryd.underlying4 rfl rfl) rfl rfl ?_
            first | refine SL.y (op_pickT rfl rfl) rfl rfl ?_ | refine SL.y (op_pickF rfl rfl) rfl rfl ?_ | refine SL.y (op_pickB rfl rfl rfl) rfl rfl ?_
            refine SL.y (op_move rfl) rfl rfl ?_
            first | refine SL.skip rfl rfl ?_ | refine SL.y (op_move rfl) rfl rfl ?_
            first | refine SL.skip rfl rfl ?_ | refine SL.y (op_not rfl) rfl rfl ?_
            first | refine SL.skip rfl rfl ?_ | refine SL.y (op_move rfl) rfl rfl ?_
            first | refine SL.skip rfl rfl ?_ | refine SL.y (op_move rfl) rfl rfl ?_
            first | refine SL.skip rfl rfl ?_ | refine SL.y (op_neqT rfl rfl (by omega)) rfl rfl ?_ | refine SL.y (op_neqF rfl rfl (by omega)) rfl rfl ?_ | refine SL.y (op_neq rfl rfl) rfl rfl ?_
            first | refine SL.skip rfl rfl ?_ | refine SL.y (op_pickT rfl rfl) rfl rfl ?_ | refine SL.y (op_pickF rfl rfl) rfl rfl ?_ | refine SL.y (op_pickB rfl rfl rfl) rfl rfl ?_
            first | refine SL.y (op_pickT rfl rfl) rfl rfl ?_ | refine SL.y (op_pickF rfl rfl) rfl rfl ?_ | refine SL.y (op_pickB rfl rfl rfl) rfl rfl ?_
            refine SL.y (op_move rfl) rfl rfl ?_
            first | refine SL.skip rfl rfl ?_ | refine SL.y (op_move rfl) rfl rfl ?_
            first | refine SL.skip rfl rfl ?_ | refine SL.y (op_not rfl) rfl rfl ?_
            first | refine SL.skip rfl rfl ?_ | refine SL.y (op_move rfl) rfl rfl ?_
            first | refine SL.skip rfl rfl ?_ | refine SL.y (op_move rfl) rfl rfl ?_
            first | refine SL.skip rfl rfl ?_ | refine SL.y (op_neqT rfl rfl (by omega)) rfl rfl ?_ | refine SL.y (op_neqF rfl rfl (by omega)) rfl rfl ?_ | refine SL.y (op_neq rfl rfl) rfl rfl ?_
            first | refine SL.skip rfl rfl ?_ | refine SL.y (op_pickT rfl rfl) rfl rfl ?_ | refine SL.y (op_pickF rfl rfl) rfl rfl ?_ | refine SL.y (op_pickB rfl rfl rfl) rfl rfl ?_
            first | refine SL.y (op_pickT rfl rfl) rfl rfl ?_ | refine SL.y (op_pickF rfl rfl) rfl rfl ?_ | refine SL.y (op_pickB rfl rfl rfl) rfl rfl ?_
            refine SL.nil ?_
            refine T.condF rfl ?_
            refine T.skip ?_
            refine T.seq ?_
            refine T.seq ?_
            refine T.region ?_
            refine SL.y (op_move rfl) rfl rfl ?_
            refine SL.y (op_lenS Tryd.underlying29 rfl) rfl rfl ?_
            refine SL.y (op_move (v := .int .i64 ((0 : Nat) : Int)) rfl) rfl rfl ?_
            refine SL.nil ?_
            refine T.block ?_
            -- loop live [1, 2, 6, 7, 8, 15, 16, 17, 18, 137, 138, 139]
            refine T.loopW (fun m env own X' => ∃ k : Nat, m = (allR c ms).length - k ∧ k ≤ (allR c ms).length ∧ X2.le X' ∧ env = [(1, .int .i64 i), (2, .int .i64 j), (7, .pointer (some ⟨bm, 0, none⟩)), (8, .pointer (some ⟨bl, 0, none⟩)), (15, .int .i64 0), (16, .bool false), (17, .int .i64 0), (18, .bool false), (137, .slice At (allR c ms).length cpt), (138, .int .i64 ((allR c ms).length : Int)), (139, .int .i64 (k : Int))] ∧ own = []) (allR c ms).length ⟨0, by simp, by omega, hZ4, rfl, rfl⟩ (by repeat (first | exact Sub.nil | refine Sub.cons rfl ?_)) ?_
            rintro m _ _ V1 ⟨k, rfl, hk, hV1, rfl, rfl⟩
            rcases Nat.lt_or_ge k (allR c ms).length with hkl | hkl
            · obtain ⟨bo, rfl, hBo⟩ := (hC.1.mono hV1).blk (by omega)
              obtain ⟨g1, g2⟩ := conC_get (allR c ms) k hkl
              obtain ⟨b1, b2⟩ := hsm _ (List.getElem_mem hkl)
              have hat := allR_at hr hc6 hkl
              have l1 := mem64_length (allR c ms)[k].1
              have l2 := mem64_length (allR c ms)[k].2
              refine T.seq ?_
              refine T.region ?_
              first | refine SL.y (op_lssT rfl rfl (by omega)) rfl rfl ?_ | refine SL.y (op_lssF rfl rfl (by omega)) rfl rfl ?_ | refine SL.y (op_lss rfl rfl) rfl rfl ?_
              refine SL.nil ?_
              refine T.seq ?_
              refine T.condT rfl ?_
              refine T.skip ?_
              refine T.seq ?_
              refine T.block ?_
              refine T.seq ?_
              refine T.region ?_
              refine SL.y (op_move rfl) rfl rfl ?_
              first | refine SL.y (op_indexN Tryd.underlying29 ty75 rfl rfl (by omega)) rfl rfl ?_ | refine SL.y (op_index Tryd.underlying29 ty75 rfl rfl (by omega) (by omega)) rfl rfl ?_
              -- to 143: op
              refine SL.y (op_loadX ty75 rfl hBo (creadR2 g1 g2 (by omega))) rfl rfl ?_
              refine SL.x (op_alloc z75) rfl rfl ?_
              rintro _ _ _ ⟨B20, rfl, rfl, rfl⟩
              refine SL.y (op_assign rfl) rfl rfl ?_
              refine SL.x (op_store ty75 rfl rfl (by repeat (first | exact AtO.here | apply AtO.there)) rfl rfl rfl) rfl rfl ?_
              rintro _ _ _ ⟨rfl, rfl⟩
              refine SL.nil ?_
              refine T.seq ?_
              refine T.region ?_
              first | refine SL.y (op_load ty75 rfl (by repeat (first | exact AtO.here | apply AtO.there)) rfl) rfl rfl ?_ | refine SL.y (op_loadX ty75 rfl (by assumption) rfl) rfl rfl ?_
              -- op
              refine SL.x (op_callF en46 (vs := [_]) rfl (lists46_spec (allR c ms)[k].1 (allR c ms)[k].2 b1 b2)) rfl rfl ?_
              rintro _ _ V2 ⟨rfl, hV2, u, w, rfl, hu, hw⟩
              refine SL.y (op_move rfl) rfl rfl ?_
              refine SL.y (op_extract rfl rfl) rfl rfl ?_
              refine SL.y (op_extract rfl rfl) rfl rfl ?_
              refine SL.y (op_assign rfl) rfl rfl ?_
              refine SL.y (op_assign rfl) rfl rfl ?_
              refine SL.nil ?_
              refine T.seq ?_
              refine T.region ?_
              refine SL.y (op_move rfl) rfl rfl ?_
              refine SL.y (op_move rfl) rfl rfl ?_
              first | refine SL.skip rfl rfl ?_ | refine SL.y (op_move rfl) rfl rfl ?_
              first | refine SL.skip rfl rfl ?_ | refine SL.y (op_move rfl) rfl rfl ?_
              -- op
              have hV2' := hV1.trans' hV2
              refine SL.skip rfl rfl ?_
              first | refine SL.skip rfl rfl ?_ | refine SL.y (op_move rfl) rfl rfl ?_
              first | refine SL.skip rfl rfl ?_ | refine SL.y (op_move rfl) rfl rfl ?_
              first | refine SL.skip rfl rfl ?_ | refine SL.y (op_move rfl) rfl rfl ?_
              -- op
              refine SL.skip rfl rfl ?_
              have hV5' := hV2'
              have hw5 := hw
              first | refine SL.skip rfl rfl ?_ | refine SL.y (op_neqB Tryd.underlying4 rfl rfl) rfl rfl ?_
              first | refine SL.y (op_pickT rfl rfl) rfl rfl ?_ | refine SL.y (op_pickF rfl rfl) rfl rfl ?_ | refine SL.y (op_pickB rfl rfl rfl) rfl rfl ?_
              refine SL.y (op_move rfl) rfl rfl ?_
              first | refine SL.skip rfl rfl ?_ | refine SL.y (op_move rfl) rfl rfl ?_
              first | refine SL.skip rfl rfl ?_ | refine SL.y (op_move rfl) rfl rfl ?_
              first | refine SL.skip rfl rfl ?_ | refine SL.y (op_move rfl) rfl rfl ?_
              first | refine SL.skip rfl rfl ?_ | refine SL.y (op_move rfl) rfl rfl ?_
              -- op
              refine SL.skip rfl rfl ?_
              first | refine SL.skip rfl rfl ?_ | refine SL.y (op_move rfl) rfl rfl ?_
              first | refine SL.skip rfl rfl ?_ | refine SL.y (op_move rfl) rfl rfl ?_
              first | refine SL.skip rfl rfl ?_ | refine SL.y (op_move rfl) rfl rfl ?_
              -- op
              refine SL.skip rfl rfl ?_
              have hV8' := hV5'
              first | refine SL.skip rfl rfl ?_ | refine SL.y (op_neqB Tryd.underlying4 rfl rfl) rfl rfl ?_
              first | refine SL.skip rfl rfl ?_ | refine SL.y (op_pickT rfl rfl) rfl rfl ?_ | refine SL.y (op_pickF rfl rfl) rfl rfl ?_ | refine SL.y (op_pickB rfl rfl rfl) rfl rfl ?_
              first | refine SL.y (op_pickT rfl rfl) rfl rfl ?_ | refine SL.y (op_pickF rfl rfl) rfl rfl ?_ | refine SL.y (op_pickB rfl rfl rfl) rfl rfl ?_
              refine SL.nil ?_
              refine T.condF rfl ?_
              refine T.skip ?_
              refine T.blk ?_
              refine T.region ?_
              first | refine SL.y (op_addN (q := 1) rfl rfl (by omega)) rfl rfl ?_ | refine SL.y (op_add rfl rfl (by omega) (by omega)) rfl rfl ?_ | refine SL.y (op_addW rfl rfl) rfl rfl ?_
              refine SL.y (op_move rfl) rfl rfl ?_
              refine SL.nil ?_
              -- cut
              refine T.drop B20 (by repeat (first | exact AtO.here | apply AtO.there)) ?_
              exact T.backW ((allR c ms).length - (k + 1)) (by omega) ⟨k + 1, rfl, by omega, hV8', rfl, rfl⟩ (by repeat (first | exact Sub.nil | refine Sub.cons rfl ?_))
            · refine T.seq ?_
              refine T.region ?_
              first | refine SL.y (op_lssT rfl rfl (by omega)) rfl rfl ?_ | refine SL.y (op_lssF rfl rfl (by omega)) rfl rfl ?_ | refine SL.y (op_lss rfl rfl) rfl rfl ?_
              refine SL.nil ?_
              refine T.seq ?_
              refine T.condF rfl ?_
              refine T.exit (T.exitCode (T.exitCut (T.exitBlk ?_)))
              refine T.seq ?_
              refine T.region ?_
              refine SL.y (op_move rfl) rfl rfl ?_
              refine SL.y (op_not rfl) rfl rfl ?_
              refine SL.y (op_move rfl) rfl rfl ?_
              first | refine SL.skip rfl rfl ?_ | refine SL.y (op_move rfl) rfl rfl ?_
              first | refine SL.skip rfl rfl ?_ | refine SL.y (op_not rfl) rfl rfl ?_
              first | refine SL.y (op_pickT rfl rfl) rfl rfl ?_ | refine SL.y (op_pickF rfl rfl) rfl rfl ?_ | refine SL.y (op_pickB rfl rfl rfl) rfl rfl ?_
              refine SL.y (op_move rfl) rfl rfl ?_
              first | refine SL.skip rfl rfl ?_ | refine SL.y (op_move rfl) rfl rfl ?_
              first | refine SL.skip rfl rfl ?_ | refine SL.y (op_move rfl) rfl rfl ?_
              first | refine SL.skip rfl rfl ?_ | refine SL.y (op_move rfl) rfl rfl ?_
              -- op
              refine SL.skip rfl rfl ?_
              first | refine SL.skip rfl rfl ?_ | refine SL.y (op_move rfl) rfl rfl ?_
              first | refine SL.skip rfl rfl ?_ | refine SL.y (op_move rfl) rfl rfl ?_
              first | refine SL.skip rfl rfl ?_ | refine SL.y (op_move rfl) rfl rfl ?_
              -- op
              refine SL.skip rfl rfl ?_
              first | refine SL.skip rfl rfl ?_ | refine SL.y (op_eqlB Tryd.underlying4 rfl rfl) rfl rfl ?_
              first | refine SL.y (op_pickT rfl rfl) rfl rfl ?_ | refine SL.y (op_pickF rfl rfl) rfl rfl ?_ | refine SL.y (op_pickB rfl rfl rfl) rfl rfl ?_
              refine SL.y (op_assign rfl) rfl rfl ?_
              refine SL.nil ?_
              -- ret
              refine T.ret1 rfl (ResIs.tmp rfl) ?_
              rfl
end Go.Proofs.YtoheffglppbcbaaDoor
