/- COMPUTING WITH A LATTICE (package lattice). -/
import Derived.Test.YtoheffglppbcbaaDoorLNew
namespace Go.Proofs.YtoheffglppbcbaaDoor
section
set_option maxRecDepth 100000
theorem en16 : Enters Tryd.prog 16 := enters_mk Tryd.func16 (by kernel_rfl) rfl
theorem en37 : Enters Tryd.prog 37 := enters_mk Tryd.func37 (by kernel_rfl) rfl
theorem en60 : Enters Tryd.prog 60 := enters_mk Tryd.func60 (by kernel_rfl) rfl
theorem fa49_1 : FAdr Tryd.prog 49 1 1 := fadr_mk Tryd.underlying49 rfl rfl (by kernel_rfl)
end
open Go.RowKit
theorem creadRk {cs : List Value} {k k' : Nat} {v : Value} (h : cs[k]? = some v) (e : k' = k) : cread true 1 cs k' = some (.agg #[v]) := by
  subst e
  have := creadR1 h
  simpa using this
theorem creadR2 {cs : List Value} {k k' : Nat} {x y : Value} (hx : cs[k]? = some x) (hy : cs[k + 1]? = some y) (e : k' = k) : cread true 2 cs k' = some (.agg #[x, y]) := by
  subst e
  have hl := (List.getElem?_eq_some_iff.1 hy).1
  have hl0 := (List.getElem?_eq_some_iff.1 hx).1
  have h1 : (cs.drop k').take 2 = [x, y] := by
    apply List.ext_getElem?
    intro i
    rcases i with _ | _ | i
    · simp [hx]
    · simp [hy]
    · simp
      omega
  have hb : Nat.ble (k' + 2) cs.length = true := Nat.ble_eq_true_of_le (by omega)
  simp [cread, hb, h1]
/-- A lattice, or nil. -/
def LatN (X : PMap) (v : Value) (c : Nat) (ms : List Nat) (l : List (Nat × Nat)) : Prop := LatR X v c ms l ∨ (v = .pointer none ∧ l = [])
theorem LatN.mono {X X' : PMap} {v : Value} {c : Nat} {ms : List Nat} {l : List (Nat × Nat)} (h : LatN X v c ms l) (hX : X.le X') : LatN X' v c ms l := h.imp (fun h => h.mono hX) id
theorem llen_spec {X : PMap} {v : Value} {c : Nat} {ms : List Nat} {l : List (Nat × Nat)} (h : LatN X v c ms l) : Spec Tryd.prog 16 [v] X fun u _ => u = .int .i64 (l.length : Int) := by
  rcases h with h | ⟨rfl, rfl⟩
  · obtain ⟨b, A, cap, cs, pm, rfl, hB, hM, hC, hA, hl⟩ := h
    refine Spec.enter Tryd.func16 rfl Tryd.ntmps16 rfl ?_
    intro w0 hw0
    refine T.seq ?_
    refine T.region ?_
    refine SL.y (op_assign (v := .int .i64 ((0 : Nat) : Int)) rfl) rfl rfl ?_
    refine SL.nil ?_
    refine T.seq ?_
    refine T.seq ?_
    refine T.region ?_
    refine SL.y (op_move rfl) rfl rfl ?_
    refine SL.y (op_eqlNil Tryd.underlying28 rfl rfl) rfl rfl ?_
    refine SL.nil ?_
    refine T.condF rfl ?_
    refine T.skip ?_
    refine T.seq ?_
    refine T.region ?_
    refine SL.y (op_move rfl) rfl rfl ?_
    first | refine SL.y (op_nil rfl) rfl rfl ?_ | refine SL.y (op_nilFn rfl) rfl rfl ?_
    refine SL.y (op_fieldAddr fa96_1 rfl) rfl rfl ?_
    first | refine SL.y (op_load ty80 rfl (by repeat (first | exact AtO.here | apply AtO.there)) rfl) rfl rfl ?_ | refine SL.y (op_loadX ty80 rfl (by assumption) rfl) rfl rfl ?_
    refine SL.y (op_lenS Tryd.underlying80 rfl) rfl rfl ?_
    refine SL.y (op_assign rfl) rfl rfl ?_
    refine SL.nil ?_
    -- ret
    refine T.ret1 rfl (ResIs.tmp rfl) ?_
    rfl
  · refine Spec.enter Tryd.func16 rfl Tryd.ntmps16 rfl ?_
    intro w0 hw0
    refine T.seq ?_
    refine T.region ?_
    refine SL.y (op_assign (v := .int .i64 ((0 : Nat) : Int)) rfl) rfl rfl ?_
    refine SL.nil ?_
    refine T.seq ?_
    refine T.seq ?_
    refine T.region ?_
    refine SL.y (op_move rfl) rfl rfl ?_
    refine SL.y (op_eqlNil Tryd.underlying28 rfl rfl) rfl rfl ?_
    refine SL.nil ?_
    refine T.condT rfl ?_
    refine T.seq ?_
    refine T.region ?_
    refine SL.y (op_assign (v := .int .i64 ((0 : Nat) : Int)) rfl) rfl rfl ?_
    refine SL.nil ?_
    -- ret
    refine T.ret1 rfl (ResIs.tmp rfl) ?_
    rfl
def inB (n : Nat) (i : Int) : Bool := decide (0 ≤ i ∧ i < n)
theorem lin_spec {X : PMap} {v : Value} {c : Nat} {ms : List Nat} {l : List (Nat × Nat)} (h : LatN X v c ms l) (i : Int) : Spec Tryd.prog 60 [v, .int .i64 i] X fun u _ => u = .bool (inB l.length i) := by
  by_cases h1 : i < 0
  · refine Spec.enter Tryd.func60 rfl Tryd.ntmps60 rfl ?_
    intro w0 hw0
    refine T.seq ?_
    refine T.region ?_
    refine SL.y (op_assign rfl) rfl rfl ?_
    refine SL.nil ?_
    refine T.seq ?_
    refine T.region ?_
    refine SL.y (op_move rfl) rfl rfl ?_
    first | refine SL.y (op_geqT rfl rfl (by omega)) rfl rfl ?_ | refine SL.y (op_geqF rfl rfl (by omega)) rfl rfl ?_ | refine SL.y (op_geq rfl rfl) rfl rfl ?_
    refine SL.y (op_move rfl) rfl rfl ?_
    first | refine SL.skip rfl rfl ?_ | refine SL.y (op_move rfl) rfl rfl ?_
    first | refine SL.skip rfl rfl ?_ | refine SL.y (op_move rfl) rfl rfl ?_
    -- op
    refine SL.skip rfl rfl ?_
    first | refine SL.skip rfl rfl ?_ | refine SL.y (op_lssT rfl rfl (by omega)) rfl rfl ?_ | refine SL.y (op_lssF rfl rfl (by omega)) rfl rfl ?_ | refine SL.y (op_lss rfl rfl) rfl rfl ?_
    first | refine SL.y (op_pickT rfl rfl) rfl rfl ?_ | refine SL.y (op_pickF rfl rfl) rfl rfl ?_ | refine SL.y (op_pickB rfl rfl rfl) rfl rfl ?_
    refine SL.y (op_assign rfl) rfl rfl ?_
    refine SL.nil ?_
    -- ret
    refine T.ret1 rfl (ResIs.tmp rfl) ?_
    simp [inB]; omega
  · by_cases h2 : (l.length : Int) ≤ i
    · refine Spec.enter Tryd.func60 rfl Tryd.ntmps60 rfl ?_
      intro w0 hw0
      refine T.seq ?_
      refine T.region ?_
      refine SL.y (op_assign rfl) rfl rfl ?_
      refine SL.nil ?_
      refine T.seq ?_
      refine T.region ?_
      refine SL.y (op_move rfl) rfl rfl ?_
      first | refine SL.y (op_geqT rfl rfl (by omega)) rfl rfl ?_ | refine SL.y (op_geqF rfl rfl (by omega)) rfl rfl ?_ | refine SL.y (op_geq rfl rfl) rfl rfl ?_
      refine SL.y (op_move rfl) rfl rfl ?_
      first | refine SL.skip rfl rfl ?_ | refine SL.y (op_move rfl) rfl rfl ?_
      first | refine SL.skip rfl rfl ?_ | refine SL.y (op_move rfl) rfl rfl ?_
      -- op
      refine SL.x (op_callF en16 (vs := [_]) rfl (llen_spec h)) rfl rfl ?_
      rintro _ _ X1 ⟨rfl, hX1, rfl⟩
      first | refine SL.skip rfl rfl ?_ | refine SL.y (op_lssT rfl rfl (by omega)) rfl rfl ?_ | refine SL.y (op_lssF rfl rfl (by omega)) rfl rfl ?_ | refine SL.y (op_lss rfl rfl) rfl rfl ?_
      first | refine SL.y (op_pickT rfl rfl) rfl rfl ?_ | refine SL.y (op_pickF rfl rfl) rfl rfl ?_ | refine SL.y (op_pickB rfl rfl rfl) rfl rfl ?_
      refine SL.y (op_assign rfl) rfl rfl ?_
      refine SL.nil ?_
      -- ret
      refine T.ret1 rfl (ResIs.tmp rfl) ?_
      simp [inB]; omega
    · refine Spec.enter Tryd.func60 rfl Tryd.ntmps60 rfl ?_
      intro w0 hw0
      refine T.seq ?_
      refine T.region ?_
      refine SL.y (op_assign rfl) rfl rfl ?_
      refine SL.nil ?_
      refine T.seq ?_
      refine T.region ?_
      refine SL.y (op_move rfl) rfl rfl ?_
      first | refine SL.y (op_geqT rfl rfl (by omega)) rfl rfl ?_ | refine SL.y (op_geqF rfl rfl (by omega)) rfl rfl ?_ | refine SL.y (op_geq rfl rfl) rfl rfl ?_
      refine SL.y (op_move rfl) rfl rfl ?_
      first | refine SL.skip rfl rfl ?_ | refine SL.y (op_move rfl) rfl rfl ?_
      first | refine SL.skip rfl rfl ?_ | refine SL.y (op_move rfl) rfl rfl ?_
      -- op
      refine SL.x (op_callF en16 (vs := [_]) rfl (llen_spec h)) rfl rfl ?_
      rintro _ _ X1 ⟨rfl, hX1, rfl⟩
      first | refine SL.skip rfl rfl ?_ | refine SL.y (op_lssT rfl rfl (by omega)) rfl rfl ?_ | refine SL.y (op_lssF rfl rfl (by omega)) rfl rfl ?_ | refine SL.y (op_lss rfl rfl) rfl rfl ?_
      first | refine SL.y (op_pickT rfl rfl) rfl rfl ?_ | refine SL.y (op_pickF rfl rfl) rfl rfl ?_ | refine SL.y (op_pickB rfl rfl rfl) rfl rfl ?_
      refine SL.y (op_assign rfl) rfl rfl ?_
      refine SL.nil ?_
      -- ret
      refine T.ret1 rfl (ResIs.tmp rfl) ?_
      simp [inB]; omega
/-- Inside, the lattice is none that is nil. -/
theorem LatN.inside {X : PMap} {v : Value} {c : Nat} {ms : List Nat} {l : List (Nat × Nat)} (h : LatN X v c ms l) {i : Int} (hi : inB l.length i = true) :
    ∃ (a : Nat) (ha : a < l.length) (b : Nat) (br cap : Nat) (cs : List Value) (pm x y : Value), i = (a : Int) ∧ v = .pointer (some ⟨b, 0, none⟩) ∧ Blk X b [pm, .slice (some ⟨br, 0, none⟩) l.length cap] ∧ Blk X br cs ∧ MatR X pm c ms ∧ cs[a * 2]? = some x ∧ cs[a * 2 + 1]? = some y ∧ SetR X (.agg #[x]) l[a].1 ∧ SetR X (.agg #[y]) l[a].2 := by
  simp only [inB, decide_eq_true_eq] at hi
  obtain ⟨a, rfl⟩ := Int.eq_ofNat_of_zero_le hi.1
  have ha : a < l.length := by omega
  rcases h with h | ⟨_, rfl⟩
  · obtain ⟨b, A, cap, cs, pm, rfl, hB, hM, hC, hA, hl⟩ := h
    obtain ⟨br, rfl, hBr⟩ := hA (by omega)
    obtain ⟨x, y, h1, h2, h3, h4⟩ := hC.2 a l[a] (by simp [ha])
    exact ⟨a, ha, b, br, cap, cs, pm, x, y, rfl, rfl, hB, hBr, hM, h1, h2, h3, h4⟩
  · simp at ha
def atM (l : List (Nat × Nat)) (i : Int) : Nat × Nat := if inB l.length i then l.getD i.toNat (0, 0) else (0, 0)
theorem lat_spec {X : PMap} {v : Value} {c : Nat} {ms : List Nat} {l : List (Nat × Nat)} (h : LatN X v c ms l) (i : Int) : Spec Tryd.prog 25 [v, .int .i64 i] X fun u X' => ∃ w, u = .tuple #[w, .bool (inB l.length i)] ∧ ConR X' w (atM l i).1 (atM l i).2 := by
  cases hin : inB l.length i with
  | false =>
    refine Spec.enter Tryd.func25 rfl Tryd.ntmps25 rfl ?_
    intro w0 hw0
    refine T.seq ?_
    refine T.region ?_
    refine SL.x (op_alloc z49) rfl rfl ?_
    rintro _ _ _ ⟨B4, rfl, rfl, rfl⟩
    refine SL.y (op_assign rfl) rfl rfl ?_
    refine SL.nil ?_
    refine T.seq ?_
    refine T.seq ?_
    refine T.region ?_
    refine SL.y (op_move rfl) rfl rfl ?_
    refine SL.y (op_move rfl) rfl rfl ?_
    -- op
    refine SL.x (op_callF en60 (vs := [_, _]) rfl (lin_spec h i)) rfl rfl ?_
    rintro _ _ X1 ⟨rfl, hX1, rfl⟩
    rw [hin]
    refine SL.y (op_not rfl) rfl rfl ?_
    refine SL.nil ?_
    refine T.condT rfl ?_
    refine T.seq ?_
    refine T.region ?_
    refine SL.y (op_build st49 (qs := []) rfl rfl) rfl rfl ?_
    refine SL.x (op_store ty49 rfl rfl (by repeat (first | exact AtO.here | apply AtO.there)) rfl rfl rfl) rfl rfl ?_
    rintro _ _ _ ⟨rfl, rfl⟩
    refine SL.y (op_assign rfl) rfl rfl ?_
    refine SL.nil ?_
    -- ret
    refine T.ret2 rfl (ResIs.cell rfl ty49 (by repeat (first | exact AtO.here | apply AtO.there)) rfl) (ResIs.tmp rfl) ?_
    refine ⟨_, rfl, _, _, rfl, ?_, ?_⟩ <;> simp only [atM, hin] <;> exact SetR.zero
  | true =>
    obtain ⟨a, ha, b, br, cap, cs, pm, x, y, rfl, rfl, hB, hBr, hM, hx, hy, hsx, hsy⟩ := h.inside hin
    obtain ⟨Ax, lx, cx, hxe⟩ := hsx.form
    obtain ⟨Ay, ly, cy, hye⟩ := hsy.form
    obtain rfl : x = .slice Ax lx cx := by simpa using hxe
    obtain rfl : y = .slice Ay ly cy := by simpa using hye
    refine Spec.enter Tryd.func25 rfl Tryd.ntmps25 rfl ?_
    intro w0 hw0
    refine T.seq ?_
    refine T.region ?_
    refine SL.x (op_alloc z49) rfl rfl ?_
    rintro _ _ _ ⟨B4, rfl, rfl, rfl⟩
    refine SL.y (op_assign rfl) rfl rfl ?_
    refine SL.nil ?_
    refine T.seq ?_
    refine T.seq ?_
    refine T.region ?_
    refine SL.y (op_move rfl) rfl rfl ?_
    refine SL.y (op_move rfl) rfl rfl ?_
    -- op
    refine SL.x (op_callF en60 (vs := [_, _]) rfl (lin_spec h (a : Int))) rfl rfl ?_
    rintro _ _ X1 ⟨rfl, hX1, rfl⟩
    rw [hin]
    have hB1 := hB.mono hX1
    have hBr1 := hBr.mono hX1
    refine SL.y (op_not rfl) rfl rfl ?_
    refine SL.nil ?_
    refine T.condF rfl ?_
    refine T.skip ?_
    refine T.seq ?_
    refine T.region ?_
    refine SL.y (op_move rfl) rfl rfl ?_
    first | refine SL.y (op_nil rfl) rfl rfl ?_ | refine SL.y (op_nilFn rfl) rfl rfl ?_
    refine SL.y (op_fieldAddr fa96_1 rfl) rfl rfl ?_
    first | refine SL.y (op_load ty80 rfl (by repeat (first | exact AtO.here | apply AtO.there)) rfl) rfl rfl ?_ | refine SL.y (op_loadX ty80 rfl (by assumption) rfl) rfl rfl ?_
    refine SL.y (op_move rfl) rfl rfl ?_
    first | refine SL.y (op_indexN Tryd.underlying80 ty49 rfl rfl (by omega)) rfl rfl ?_ | refine SL.y (op_index Tryd.underlying80 ty49 rfl rfl (by omega) (by omega)) rfl rfl ?_
    -- to 17: op
    refine SL.y (op_loadX ty49 rfl hBr1 (creadR2 hx hy (by omega))) rfl rfl ?_
    refine SL.x (op_store ty49 rfl rfl (by repeat (first | exact AtO.here | apply AtO.there)) rfl rfl rfl) rfl rfl ?_
    rintro _ _ _ ⟨rfl, rfl⟩
    refine SL.y (op_assign rfl) rfl rfl ?_
    refine SL.nil ?_
    -- ret
    refine T.ret2 rfl (ResIs.cell rfl ty49 (by repeat (first | exact AtO.here | apply AtO.there)) rfl) (ResIs.tmp rfl) ?_
    have e : atM l (a : Int) = l[a] := by simp [atM, hin, ha]
    rw [e]
    exact ⟨_, rfl, _, _, rfl, hsx.mono hX1, hsy.mono hX1⟩
/-- The number of the concept with these columns. -/
def idxM (l : List (Nat × Nat)) (cols : Nat) : Option Nat := l.findIdx? fun p => p.2 == cols
theorem findIdx?_at {α : Type} (p : α → Bool) (l : List α) (j : Nat) (hj : j < l.length) (hb : ∀ i (h : i < l.length), i < j → p l[i] = false) (hp : p l[j] = true) : l.findIdx? p = some j := by
  rw [List.findIdx?_eq_some_iff_getElem]
  exact ⟨hj, hp, fun i hi => by simpa using hb i (by omega) hi⟩
theorem no_step {l : List (Nat × Nat)} {a cols : Nat} {ha : a < l.length} (hno : ∀ i (h : i < l.length), i < a → (l[i].2 == cols) = false) (he : ¬ l[a].2 = cols) : ∀ i (h : i < l.length), i < a + 1 → (l[i].2 == cols) = false := by
  intro i hi hia
  rcases Nat.lt_or_ge i a with h | h
  · exact hno i hi h
  · obtain rfl : i = a := by omega
    simpa using he
theorem lindex_spec {X : PMap} {v s : Value} {c : Nat} {ms : List Nat} {l : List (Nat × Nat)} {cols : Nat} (h : LatN X v c ms l) (hs : SetR X s cols) : Spec Tryd.prog 34 [v, s] X fun u _ => u = .tuple #[.int .i64 (((idxM l cols).getD 0 : Nat) : Int), .bool (idxM l cols).isSome] := by
  obtain ⟨A, ls, cp, rfl⟩ := hs.form
  refine Spec.enter Tryd.func34 rfl Tryd.ntmps34 rfl ?_
  intro w0 hw0
  refine T.seq ?_
  refine T.region ?_
  refine SL.x (op_box rfl) rfl rfl ?_
  rintro _ _ _ ⟨B3, rfl, rfl, rfl⟩
  refine SL.y (op_assign (v := .int .i64 ((0 : Nat) : Int)) rfl) rfl rfl ?_
  refine SL.y (op_assign rfl) rfl rfl ?_
  refine SL.nil ?_
  refine T.seq ?_
  refine T.seq ?_
  refine T.region ?_
  refine SL.y (op_move rfl) rfl rfl ?_
  -- op
  refine SL.x (op_callF en16 (vs := [_]) rfl (llen_spec h)) rfl rfl ?_
  rintro _ _ X1 ⟨rfl, hX1, rfl⟩
  have hlen : l.length < 2147483648 := by
    rcases h with h | ⟨_, rfl⟩
    · obtain ⟨_, _, _, _, _, _, _, _, _, _, h⟩ := h; exact h
    · simp
  refine SL.y (op_move (v := .int .i64 ((0 : Nat) : Int)) rfl) rfl rfl ?_
  refine SL.nil ?_
  refine T.block ?_
  -- loop live [0, 3, 4, 5, 8, 9]
  refine T.loopW (fun m env own X' => ∃ k : Nat, m = l.length - k ∧ k ≤ l.length ∧ X1.le X' ∧ (∀ i (h : i < l.length), i < k → (l[i].2 == cols) = false) ∧ env = [(0, v), (3, .pointer (some ⟨B3, 0, none⟩)), (8, .int .i64 (l.length : Int)), (9, .int .i64 (k : Int))] ∧ own = [⟨B3, [.slice A ls cp], 47, 1⟩]) l.length ⟨0, by simp, by omega, PMap.le_refl _, (fun i _ h => by omega), rfl, rfl⟩ (by repeat (first | exact Sub.nil | refine Sub.cons rfl ?_)) ?_
  rintro m _ _ X2 ⟨k, rfl, hk, hX2, hno, rfl, rfl⟩
  rcases Nat.lt_or_ge k l.length with hkl | hkl
  · obtain ⟨a, ha, b, br, cap, cs, pm, x, y, hae, rfl, hB, hBr, hM, hx, hy, hsx, hsy⟩ := h.inside (i := (k : Int)) (by simp [inB]; omega)
    obtain rfl : a = k := by omega
    have hB2 := (hB.mono hX1).mono hX2
    have hBr2 := (hBr.mono hX1).mono hX2
    refine T.seq ?_
    refine T.region ?_
    first | refine SL.y (op_lssT rfl rfl (by omega)) rfl rfl ?_ | refine SL.y (op_lssF rfl rfl (by omega)) rfl rfl ?_ | refine SL.y (op_lss rfl rfl) rfl rfl ?_
    refine SL.nil ?_
    refine T.seq ?_
    refine T.condT rfl ?_
    refine T.skip ?_
    refine T.seq ?_
    refine T.block ?_
    refine T.seq ?_
    refine T.region ?_
    refine SL.y (op_move rfl) rfl rfl ?_
    refine SL.y (op_assign rfl) rfl rfl ?_
    refine SL.nil ?_
    refine T.seq ?_
    refine T.draw (by kernel_rfl) 10 [.t 0, .t 1, .t 2, .t 3, .t 4, .t 5, .t 6, .t 7, .t 8, .r 9] (by kernel_rfl) ?_
    refine SD.take rfl panicBody (op_move rfl) rfl rfl ?_
    first | refine SD.take rfl panicBody (op_nil rfl) rfl rfl ?_ | refine SD.take rfl panicBody (op_nilFn rfl) rfl rfl ?_
    refine SD.take rfl panicBody (op_fieldAddr fa96_1 rfl) rfl rfl ?_
    first | refine SD.take rfl panicBody (op_load ty80 rfl (by repeat (first | exact AtO.here | apply AtO.there)) rfl) rfl rfl ?_ | refine SD.take rfl panicBody (op_loadX ty80 rfl (by assumption) rfl) rfl rfl ?_
    refine SD.take rfl panicBody (op_move rfl) rfl rfl ?_
    first | refine SD.take rfl panicBody (op_indexN Tryd.underlying80 ty49 rfl rfl (by omega)) rfl rfl ?_ | refine SD.take rfl panicBody (op_index Tryd.underlying80 ty49 rfl rfl (by omega) (by omega)) rfl rfl ?_
    refine SD.take rfl panicBody (op_fieldAddr fa49_1 rfl) rfl rfl ?_
    -- to 19: op
    refine SD.take rfl panicBody (op_loadX ty47 rfl hBr2 (creadRk hy (by omega))) rfl rfl ?_
    first | refine SD.take rfl panicBody (op_load ty47 rfl (by repeat (first | exact AtO.here | apply AtO.there)) rfl) rfl rfl ?_ | refine SD.take rfl panicBody (op_loadX ty47 rfl (by assumption) rfl) rfl rfl ?_
    -- op
    refine SD.run rfl (op_callF en37 (vs := [_, _]) rfl (equal_spec ((hsy.mono hX1).mono hX2) ((hs.mono hX1).mono hX2))) rfl rfl ?_
    rintro _ _ X3 ⟨rfl, hX3, rfl⟩
    refine SD.nil ?_
    show SL _ _ _ _ _ _ _ [] _ _ _
    by_cases he : l[a].2 = cols
    · rw [decide_eq_true he]
      refine SL.nil ?_
      refine T.condT rfl ?_
      refine T.seq ?_
      refine T.region ?_
      refine SL.y (op_move rfl) rfl rfl ?_
      refine SL.y (op_assign rfl) rfl rfl ?_
      refine SL.y (op_assign rfl) rfl rfl ?_
      refine SL.nil ?_
      -- ret
      refine T.ret2 rfl (ResIs.tmp rfl) (ResIs.tmp rfl) ?_
      have : idxM l cols = some a := findIdx?_at _ l a ha hno (by simp [he])
      simp [this]
    · rw [decide_eq_false he]
      refine SL.nil ?_
      refine T.condF rfl ?_
      refine T.skip ?_
      refine T.blk ?_
      refine T.region ?_
      first | refine SL.y (op_addN (q := 1) rfl rfl (by omega)) rfl rfl ?_ | refine SL.y (op_add rfl rfl (by omega) (by omega)) rfl rfl ?_ | refine SL.y (op_addW rfl rfl) rfl rfl ?_
      refine SL.y (op_move rfl) rfl rfl ?_
      refine SL.nil ?_
      -- cut
      exact T.backW (l.length - (a + 1)) (by omega) ⟨a + 1, rfl, by omega, hX2.trans' hX3, (no_step hno he), rfl, rfl⟩ (by repeat (first | exact Sub.nil | refine Sub.cons rfl ?_))
  · have e : k = l.length := by omega
    subst e
    refine T.seq ?_
    refine T.region ?_
    first | refine SL.y (op_lssT rfl rfl (by omega)) rfl rfl ?_ | refine SL.y (op_lssF rfl rfl (by omega)) rfl rfl ?_ | refine SL.y (op_lss rfl rfl) rfl rfl ?_
    refine SL.nil ?_
    refine T.seq ?_
    refine T.condF rfl ?_
    refine T.exit (T.exitCode (T.exitCut (T.exitBlk ?_)))
    refine T.seq ?_
    refine T.region ?_
    refine SL.y (op_assign (v := .int .i64 ((0 : Nat) : Int)) rfl) rfl rfl ?_
    refine SL.y (op_assign rfl) rfl rfl ?_
    refine SL.nil ?_
    -- ret
    refine T.ret2 rfl (ResIs.tmp rfl) (ResIs.tmp rfl) ?_
    have : idxM l cols = none := by
      rw [idxM, List.findIdx?_eq_none_iff]
      intro x hx
      obtain ⟨i, hi, rfl⟩ := List.getElem_of_mem hx
      exact hno i hi hi
    simp [this]
end Go.Proofs.YtoheffglppbcbaaDoor
