/- BOOLEAN MATRICES (package matrix): rows are sets below 64. -/
import Derived.Test.YtoheffglppbcbaaDoorBits5
namespace Go.Proofs.YtoheffglppbcbaaDoor
section
set_option maxRecDepth 100000
theorem en30 : Enters Tryd.prog 30 := enters_mk Tryd.func30 (by kernel_rfl) rfl
theorem en44 : Enters Tryd.prog 44 := enters_mk Tryd.func44 (by kernel_rfl) rfl
theorem en45 : Enters Tryd.prog 45 := enters_mk Tryd.func45 (by kernel_rfl) rfl
theorem en48 : Enters Tryd.prog 48 := enters_mk Tryd.func48 (by kernel_rfl) rfl
theorem en70 : Enters Tryd.prog 70 := enters_mk Tryd.func70 (by kernel_rfl) rfl
theorem fa104_0 : FAdr Tryd.prog 104 0 0 := fadr_mk Tryd.underlying104 rfl rfl (by kernel_rfl)
theorem fa104_1 : FAdr Tryd.prog 104 1 1 := fadr_mk Tryd.underlying104 rfl rfl (by kernel_rfl)
theorem ty59 : Ty Tryd.prog 59 false 1 := ⟨⟨_, Tryd.underlying59, rfl⟩, by kernel_rfl⟩
end
open Go.RowKit

/-- Cells that hold the sets ms, one after the other. -/
def SetsR (X : PMap) (cs : List Value) (ms : List Nat) : Prop := cs.length = ms.length ∧ ∀ (i m : Nat), ms[i]? = some m → ∃ c : Value, cs[i]? = some c ∧ SetR X (.agg #[c]) m
theorem SetsR.mono {X X' : PMap} {cs : List Value} {ms : List Nat} (h : SetsR X cs ms) (hX : X.le X') : SetsR X' cs ms := ⟨h.1, fun i m hm => let ⟨c, h1, h2⟩ := h.2 i m hm; ⟨c, h1, h2.mono hX⟩⟩
/-- v points to the matrix with c columns and the rows ms. -/
def MatR (X : PMap) (v : Value) (c : Nat) (ms : List Nat) : Prop :=
  ∃ b A cap cs, v = .pointer (some ⟨b, 0, none⟩) ∧ Blk X b [.int .i64 (c : Int), .slice A ms.length cap] ∧ SetsR X cs ms ∧ (0 < ms.length → ∃ br, A = some ⟨br, 0, none⟩ ∧ Blk X br cs) ∧ ms.length < 64 ∧ c < 64
theorem MatR.mono {X X' : PMap} {v : Value} {c : Nat} {ms : List Nat} (h : MatR X v c ms) (hX : X.le X') : MatR X' v c ms := by
  obtain ⟨b, A, cap, cs, h1, h2, h3, h4, h5⟩ := h
  exact ⟨b, A, cap, cs, h1, h2.mono hX, h3.mono hX, fun h => let ⟨br, g1, g2⟩ := h4 h; ⟨br, g1, g2.mono hX⟩, h5⟩

theorem rows_spec {X : PMap} {v : Value} {c : Nat} {ms : List Nat} (h : MatR X v c ms) : Spec Tryd.prog 44 [v] X fun u _ => u = .int .i64 (ms.length : Int) := by
  obtain ⟨b, A, cap, cs, rfl, hB, hS, hA, hr, hc⟩ := h
  refine Spec.enter Tryd.func44 rfl Tryd.ntmps44 rfl ?_
  intro w0 hw0
  refine T.seq ?_
  refine T.region ?_
  refine SL.y (op_assign (v := .int .i64 ((0 : Nat) : Int)) rfl) rfl rfl ?_
  refine SL.nil ?_
  refine T.seq ?_
  refine T.seq ?_
  refine T.region ?_
  refine SL.y (op_move rfl) rfl rfl ?_
  refine SL.y (op_eqlNil Tryd.underlying27 rfl rfl) rfl rfl ?_
  refine SL.nil ?_
  refine T.condF rfl ?_
  refine T.skip ?_
  refine T.seq ?_
  refine T.region ?_
  refine SL.y (op_move rfl) rfl rfl ?_
  first | refine SL.y (op_nil rfl) rfl rfl ?_ | refine SL.y (op_nilFn rfl) rfl rfl ?_
  refine SL.y (op_fieldAddr fa104_1 rfl) rfl rfl ?_
  first | refine SL.y (op_load ty59 rfl (by repeat (first | exact AtO.here | apply AtO.there)) rfl) rfl rfl ?_ | refine SL.y (op_loadX ty59 rfl (by assumption) rfl) rfl rfl ?_
  refine SL.y (op_lenS Tryd.underlying59 rfl) rfl rfl ?_
  refine SL.y (op_assign rfl) rfl rfl ?_
  refine SL.nil ?_
  -- ret
  refine T.ret1 rfl (ResIs.tmp rfl) ?_
  rfl
theorem columns_spec {X : PMap} {v : Value} {c : Nat} {ms : List Nat} (h : MatR X v c ms) : Spec Tryd.prog 45 [v] X fun u _ => u = .int .i64 (c : Int) := by
  obtain ⟨b, A, cap, cs, rfl, hB, hS, hA, hr, hc⟩ := h
  refine Spec.enter Tryd.func45 rfl Tryd.ntmps45 rfl ?_
  intro w0 hw0
  refine T.seq ?_
  refine T.region ?_
  refine SL.y (op_assign (v := .int .i64 ((0 : Nat) : Int)) rfl) rfl rfl ?_
  refine SL.nil ?_
  refine T.seq ?_
  refine T.seq ?_
  refine T.region ?_
  refine SL.y (op_move rfl) rfl rfl ?_
  refine SL.y (op_eqlNil Tryd.underlying27 rfl rfl) rfl rfl ?_
  refine SL.nil ?_
  refine T.condF rfl ?_
  refine T.skip ?_
  refine T.seq ?_
  refine T.region ?_
  refine SL.y (op_move rfl) rfl rfl ?_
  first | refine SL.y (op_nil rfl) rfl rfl ?_ | refine SL.y (op_nilFn rfl) rfl rfl ?_
  refine SL.y (op_fieldAddr fa104_0 rfl) rfl rfl ?_
  first | refine SL.y (op_load ty3 rfl (by repeat (first | exact AtO.here | apply AtO.there)) rfl) rfl rfl ?_ | refine SL.y (op_loadX ty3 rfl (by assumption) rfl) rfl rfl ?_
  refine SL.y (op_assign rfl) rfl rfl ?_
  refine SL.nil ?_
  -- ret
  refine T.ret1 rfl (ResIs.tmp rfl) ?_
  rfl
/-- Is there such an element? -/
def insideB (c r : Nat) (i j : Int) : Bool := decide (0 ≤ i ∧ i < r ∧ 0 ≤ j ∧ j < c)
theorem inside_spec {X : PMap} {v : Value} {c : Nat} {ms : List Nat} (h : MatR X v c ms) (i j : Int) : Spec Tryd.prog 70 [v, .int .i64 i, .int .i64 j] X fun u _ => u = .bool (insideB c ms.length i j) := by
  by_cases h1 : i < 0
  · refine Spec.enter Tryd.func70 rfl Tryd.ntmps70 rfl ?_
    intro w0 hw0
    refine T.seq ?_
    refine T.region ?_
    refine SL.y (op_assign rfl) rfl rfl ?_
    refine SL.nil ?_
    refine T.seq ?_
    refine T.region ?_
    refine SL.y (op_move rfl) rfl rfl ?_
    first | refine SL.y (op_geqT rfl rfl (by omega)) rfl rfl ?_ | refine SL.y (op_geqF rfl rfl (by omega)) rfl rfl ?_ | refine SL.y (op_geq rfl rfl) rfl rfl ?_
    refine SL.y (op_move rfl) rfl rfl ?_
    first | refine SL.skip rfl rfl ?_ | refine SL.y (op_move rfl) rfl rfl ?_
    first | refine SL.skip rfl rfl ?_ | refine SL.y (op_move rfl) rfl rfl ?_
    -- op
    refine SL.skip rfl rfl ?_
    first | refine SL.skip rfl rfl ?_ | refine SL.y (op_lssT rfl rfl (by omega)) rfl rfl ?_ | refine SL.y (op_lssF rfl rfl (by omega)) rfl rfl ?_ | refine SL.y (op_lss rfl rfl) rfl rfl ?_
    first | refine SL.y (op_pickT rfl rfl) rfl rfl ?_ | refine SL.y (op_pickF rfl rfl) rfl rfl ?_ | refine SL.y (op_pickB rfl rfl rfl) rfl rfl ?_
    refine SL.y (op_move rfl) rfl rfl ?_
    first | refine SL.skip rfl rfl ?_ | refine SL.y (op_move rfl) rfl rfl ?_
    first | refine SL.skip rfl rfl ?_ | refine SL.y (op_geqT rfl rfl (by omega)) rfl rfl ?_ | refine SL.y (op_geqF rfl rfl (by omega)) rfl rfl ?_ | refine SL.y (op_geq rfl rfl) rfl rfl ?_
    first | refine SL.y (op_pickT rfl rfl) rfl rfl ?_ | refine SL.y (op_pickF rfl rfl) rfl rfl ?_ | refine SL.y (op_pickB rfl rfl rfl) rfl rfl ?_
    refine SL.y (op_move rfl) rfl rfl ?_
    first | refine SL.skip rfl rfl ?_ | refine SL.y (op_move rfl) rfl rfl ?_
    first | refine SL.skip rfl rfl ?_ | refine SL.y (op_move rfl) rfl rfl ?_
    -- op
    refine SL.skip rfl rfl ?_
    first | refine SL.skip rfl rfl ?_ | refine SL.y (op_lssT rfl rfl (by omega)) rfl rfl ?_ | refine SL.y (op_lssF rfl rfl (by omega)) rfl rfl ?_ | refine SL.y (op_lss rfl rfl) rfl rfl ?_
    first | refine SL.y (op_pickT rfl rfl) rfl rfl ?_ | refine SL.y (op_pickF rfl rfl) rfl rfl ?_ | refine SL.y (op_pickB rfl rfl rfl) rfl rfl ?_
    refine SL.y (op_assign rfl) rfl rfl ?_
    refine SL.nil ?_
    -- ret
    refine T.ret1 rfl (ResIs.tmp rfl) ?_
    simp [insideB]; omega
  · by_cases h2 : (ms.length : Int) ≤ i
    · refine Spec.enter Tryd.func70 rfl Tryd.ntmps70 rfl ?_
      intro w0 hw0
      refine T.seq ?_
      refine T.region ?_
      refine SL.y (op_assign rfl) rfl rfl ?_
      refine SL.nil ?_
      refine T.seq ?_
      refine T.region ?_
      refine SL.y (op_move rfl) rfl rfl ?_
      first | refine SL.y (op_geqT rfl rfl (by omega)) rfl rfl ?_ | refine SL.y (op_geqF rfl rfl (by omega)) rfl rfl ?_ | refine SL.y (op_geq rfl rfl) rfl rfl ?_
      refine SL.y (op_move rfl) rfl rfl ?_
      first | refine SL.skip rfl rfl ?_ | refine SL.y (op_move rfl) rfl rfl ?_
      first | refine SL.skip rfl rfl ?_ | refine SL.y (op_move rfl) rfl rfl ?_
      -- op
      refine SL.x (op_callF en44 (vs := [_]) rfl (rows_spec h)) rfl rfl ?_
      rintro _ _ X1 ⟨rfl, hX1, rfl⟩
      first | refine SL.skip rfl rfl ?_ | refine SL.y (op_lssT rfl rfl (by omega)) rfl rfl ?_ | refine SL.y (op_lssF rfl rfl (by omega)) rfl rfl ?_ | refine SL.y (op_lss rfl rfl) rfl rfl ?_
      first | refine SL.y (op_pickT rfl rfl) rfl rfl ?_ | refine SL.y (op_pickF rfl rfl) rfl rfl ?_ | refine SL.y (op_pickB rfl rfl rfl) rfl rfl ?_
      refine SL.y (op_move rfl) rfl rfl ?_
      first | refine SL.skip rfl rfl ?_ | refine SL.y (op_move rfl) rfl rfl ?_
      first | refine SL.skip rfl rfl ?_ | refine SL.y (op_geqT rfl rfl (by omega)) rfl rfl ?_ | refine SL.y (op_geqF rfl rfl (by omega)) rfl rfl ?_ | refine SL.y (op_geq rfl rfl) rfl rfl ?_
      first | refine SL.y (op_pickT rfl rfl) rfl rfl ?_ | refine SL.y (op_pickF rfl rfl) rfl rfl ?_ | refine SL.y (op_pickB rfl rfl rfl) rfl rfl ?_
      refine SL.y (op_move rfl) rfl rfl ?_
      first | refine SL.skip rfl rfl ?_ | refine SL.y (op_move rfl) rfl rfl ?_
      first | refine SL.skip rfl rfl ?_ | refine SL.y (op_move rfl) rfl rfl ?_
      -- op
      refine SL.skip rfl rfl ?_
      first | refine SL.skip rfl rfl ?_ | refine SL.y (op_lssT rfl rfl (by omega)) rfl rfl ?_ | refine SL.y (op_lssF rfl rfl (by omega)) rfl rfl ?_ | refine SL.y (op_lss rfl rfl) rfl rfl ?_
      first | refine SL.y (op_pickT rfl rfl) rfl rfl ?_ | refine SL.y (op_pickF rfl rfl) rfl rfl ?_ | refine SL.y (op_pickB rfl rfl rfl) rfl rfl ?_
      refine SL.y (op_assign rfl) rfl rfl ?_
      refine SL.nil ?_
      -- ret
      refine T.ret1 rfl (ResIs.tmp rfl) ?_
      simp [insideB]; omega
    · by_cases h3 : j < 0
      · refine Spec.enter Tryd.func70 rfl Tryd.ntmps70 rfl ?_
        intro w0 hw0
        refine T.seq ?_
        refine T.region ?_
        refine SL.y (op_assign rfl) rfl rfl ?_
        refine SL.nil ?_
        refine T.seq ?_
        refine T.region ?_
        refine SL.y (op_move rfl) rfl rfl ?_
        first | refine SL.y (op_geqT rfl rfl (by omega)) rfl rfl ?_ | refine SL.y (op_geqF rfl rfl (by omega)) rfl rfl ?_ | refine SL.y (op_geq rfl rfl) rfl rfl ?_
        refine SL.y (op_move rfl) rfl rfl ?_
        first | refine SL.skip rfl rfl ?_ | refine SL.y (op_move rfl) rfl rfl ?_
        first | refine SL.skip rfl rfl ?_ | refine SL.y (op_move rfl) rfl rfl ?_
        -- op
        refine SL.x (op_callF en44 (vs := [_]) rfl (rows_spec h)) rfl rfl ?_
        rintro _ _ X1 ⟨rfl, hX1, rfl⟩
        first | refine SL.skip rfl rfl ?_ | refine SL.y (op_lssT rfl rfl (by omega)) rfl rfl ?_ | refine SL.y (op_lssF rfl rfl (by omega)) rfl rfl ?_ | refine SL.y (op_lss rfl rfl) rfl rfl ?_
        first | refine SL.y (op_pickT rfl rfl) rfl rfl ?_ | refine SL.y (op_pickF rfl rfl) rfl rfl ?_ | refine SL.y (op_pickB rfl rfl rfl) rfl rfl ?_
        refine SL.y (op_move rfl) rfl rfl ?_
        first | refine SL.skip rfl rfl ?_ | refine SL.y (op_move rfl) rfl rfl ?_
        first | refine SL.skip rfl rfl ?_ | refine SL.y (op_geqT rfl rfl (by omega)) rfl rfl ?_ | refine SL.y (op_geqF rfl rfl (by omega)) rfl rfl ?_ | refine SL.y (op_geq rfl rfl) rfl rfl ?_
        first | refine SL.y (op_pickT rfl rfl) rfl rfl ?_ | refine SL.y (op_pickF rfl rfl) rfl rfl ?_ | refine SL.y (op_pickB rfl rfl rfl) rfl rfl ?_
        refine SL.y (op_move rfl) rfl rfl ?_
        first | refine SL.skip rfl rfl ?_ | refine SL.y (op_move rfl) rfl rfl ?_
        first | refine SL.skip rfl rfl ?_ | refine SL.y (op_move rfl) rfl rfl ?_
        -- op
        refine SL.skip rfl rfl ?_
        first | refine SL.skip rfl rfl ?_ | refine SL.y (op_lssT rfl rfl (by omega)) rfl rfl ?_ | refine SL.y (op_lssF rfl rfl (by omega)) rfl rfl ?_ | refine SL.y (op_lss rfl rfl) rfl rfl ?_
        first | refine SL.y (op_pickT rfl rfl) rfl rfl ?_ | refine SL.y (op_pickF rfl rfl) rfl rfl ?_ | refine SL.y (op_pickB rfl rfl rfl) rfl rfl ?_
        refine SL.y (op_assign rfl) rfl rfl ?_
        refine SL.nil ?_
        -- ret
        refine T.ret1 rfl (ResIs.tmp rfl) ?_
        simp [insideB]; omega
      · by_cases h4 : (c : Int) ≤ j
        · refine Spec.enter Tryd.func70 rfl Tryd.ntmps70 rfl ?_
          intro w0 hw0
          refine T.seq ?_
          refine T.region ?_
          refine SL.y (op_assign rfl) rfl rfl ?_
          refine SL.nil ?_
          refine T.seq ?_
          refine T.region ?_
          refine SL.y (op_move rfl) rfl rfl ?_
          first | refine SL.y (op_geqT rfl rfl (by omega)) rfl rfl ?_ | refine SL.y (op_geqF rfl rfl (by omega)) rfl rfl ?_ | refine SL.y (op_geq rfl rfl) rfl rfl ?_
          refine SL.y (op_move rfl) rfl rfl ?_
          first | refine SL.skip rfl rfl ?_ | refine SL.y (op_move rfl) rfl rfl ?_
          first | refine SL.skip rfl rfl ?_ | refine SL.y (op_move rfl) rfl rfl ?_
          -- op
          refine SL.x (op_callF en44 (vs := [_]) rfl (rows_spec h)) rfl rfl ?_
          rintro _ _ X1 ⟨rfl, hX1, rfl⟩
          first | refine SL.skip rfl rfl ?_ | refine SL.y (op_lssT rfl rfl (by omega)) rfl rfl ?_ | refine SL.y (op_lssF rfl rfl (by omega)) rfl rfl ?_ | refine SL.y (op_lss rfl rfl) rfl rfl ?_
          first | refine SL.y (op_pickT rfl rfl) rfl rfl ?_ | refine SL.y (op_pickF rfl rfl) rfl rfl ?_ | refine SL.y (op_pickB rfl rfl rfl) rfl rfl ?_
          refine SL.y (op_move rfl) rfl rfl ?_
          first | refine SL.skip rfl rfl ?_ | refine SL.y (op_move rfl) rfl rfl ?_
          first | refine SL.skip rfl rfl ?_ | refine SL.y (op_geqT rfl rfl (by omega)) rfl rfl ?_ | refine SL.y (op_geqF rfl rfl (by omega)) rfl rfl ?_ | refine SL.y (op_geq rfl rfl) rfl rfl ?_
          first | refine SL.y (op_pickT rfl rfl) rfl rfl ?_ | refine SL.y (op_pickF rfl rfl) rfl rfl ?_ | refine SL.y (op_pickB rfl rfl rfl) rfl rfl ?_
          refine SL.y (op_move rfl) rfl rfl ?_
          first | refine SL.skip rfl rfl ?_ | refine SL.y (op_move rfl) rfl rfl ?_
          first | refine SL.skip rfl rfl ?_ | refine SL.y (op_move rfl) rfl rfl ?_
          -- op
          refine SL.x (op_callF en45 (vs := [_]) rfl (columns_spec (h.mono hX1))) rfl rfl ?_
          rintro _ _ X2 ⟨rfl, hX2, rfl⟩
          first | refine SL.skip rfl rfl ?_ | refine SL.y (op_lssT rfl rfl (by omega)) rfl rfl ?_ | refine SL.y (op_lssF rfl rfl (by omega)) rfl rfl ?_ | refine SL.y (op_lss rfl rfl) rfl rfl ?_
          first | refine SL.y (op_pickT rfl rfl) rfl rfl ?_ | refine SL.y (op_pickF rfl rfl) rfl rfl ?_ | refine SL.y (op_pickB rfl rfl rfl) rfl rfl ?_
          refine SL.y (op_assign rfl) rfl rfl ?_
          refine SL.nil ?_
          -- ret
          refine T.ret1 rfl (ResIs.tmp rfl) ?_
          simp [insideB]; omega
        · refine Spec.enter Tryd.func70 rfl Tryd.ntmps70 rfl ?_
          intro w0 hw0
          refine T.seq ?_
          refine T.region ?_
          refine SL.y (op_assign rfl) rfl rfl ?_
          refine SL.nil ?_
          refine T.seq ?_
          refine T.region ?_
          refine SL.y (op_move rfl) rfl rfl ?_
          first | refine SL.y (op_geqT rfl rfl (by omega)) rfl rfl ?_ | refine SL.y (op_geqF rfl rfl (by omega)) rfl rfl ?_ | refine SL.y (op_geq rfl rfl) rfl rfl ?_
          refine SL.y (op_move rfl) rfl rfl ?_
          first | refine SL.skip rfl rfl ?_ | refine SL.y (op_move rfl) rfl rfl ?_
          first | refine SL.skip rfl rfl ?_ | refine SL.y (op_move rfl) rfl rfl ?_
          -- op
          refine SL.x (op_callF en44 (vs := [_]) rfl (rows_spec h)) rfl rfl ?_
          rintro _ _ X1 ⟨rfl, hX1, rfl⟩
          first | refine SL.skip rfl rfl ?_ | refine SL.y (op_lssT rfl rfl (by omega)) rfl rfl ?_ | refine SL.y (op_lssF rfl rfl (by omega)) rfl rfl ?_ | refine SL.y (op_lss rfl rfl) rfl rfl ?_
          first | refine SL.y (op_pickT rfl rfl) rfl rfl ?_ | refine SL.y (op_pickF rfl rfl) rfl rfl ?_ | refine SL.y (op_pickB rfl rfl rfl) rfl rfl ?_
          refine SL.y (op_move rfl) rfl rfl ?_
          first | refine SL.skip rfl rfl ?_ | refine SL.y (op_move rfl) rfl rfl ?_
          first | refine SL.skip rfl rfl ?_ | refine SL.y (op_geqT rfl rfl (by omega)) rfl rfl ?_ | refine SL.y (op_geqF rfl rfl (by omega)) rfl rfl ?_ | refine SL.y (op_geq rfl rfl) rfl rfl ?_
          first | refine SL.y (op_pickT rfl rfl) rfl rfl ?_ | refine SL.y (op_pickF rfl rfl) rfl rfl ?_ | refine SL.y (op_pickB rfl rfl rfl) rfl rfl ?_
          refine SL.y (op_move rfl) rfl rfl ?_
          first | refine SL.skip rfl rfl ?_ | refine SL.y (op_move rfl) rfl rfl ?_
          first | refine SL.skip rfl rfl ?_ | refine SL.y (op_move rfl) rfl rfl ?_
          -- op
          refine SL.x (op_callF en45 (vs := [_]) rfl (columns_spec (h.mono hX1))) rfl rfl ?_
          rintro _ _ X2 ⟨rfl, hX2, rfl⟩
          first | refine SL.skip rfl rfl ?_ | refine SL.y (op_lssT rfl rfl (by omega)) rfl rfl ?_ | refine SL.y (op_lssF rfl rfl (by omega)) rfl rfl ?_ | refine SL.y (op_lss rfl rfl) rfl rfl ?_
          first | refine SL.y (op_pickT rfl rfl) rfl rfl ?_ | refine SL.y (op_pickF rfl rfl) rfl rfl ?_ | refine SL.y (op_pickB rfl rfl rfl) rfl rfl ?_
          refine SL.y (op_assign rfl) rfl rfl ?_
          refine SL.nil ?_
          -- ret
          refine T.ret1 rfl (ResIs.tmp rfl) ?_
          simp [insideB]; omega
/-- The element. -/
def elemB (c : Nat) (ms : List Nat) (i j : Int) : Bool := insideB c ms.length i j && (ms.getD i.toNat 0).testBit j.toNat
theorem mhas_spec {X : PMap} {v : Value} {c : Nat} {ms : List Nat} (h : MatR X v c ms) (i j : Int) : Spec Tryd.prog 48 [v, .int .i64 i, .int .i64 j] X fun u _ => u = .bool (elemB c ms i j) := by
  cases hin : insideB c ms.length i j with
  | false =>
    refine Spec.enter Tryd.func48 rfl Tryd.ntmps48 rfl ?_
    intro w0 hw0
    refine T.seq ?_
    refine T.region ?_
    refine SL.y (op_assign rfl) rfl rfl ?_
    refine SL.nil ?_
    refine T.seq ?_
    refine T.region ?_
    refine SL.y (op_move rfl) rfl rfl ?_
    refine SL.y (op_move rfl) rfl rfl ?_
    refine SL.y (op_move rfl) rfl rfl ?_
    -- op
    refine SL.x (op_callF en70 (vs := [_, _, _]) rfl (inside_spec h i j)) rfl rfl ?_
    rintro _ _ X1 ⟨rfl, hX1, rfl⟩
    rw [hin]
    refine SL.y (op_move rfl) rfl rfl ?_
    first | refine SL.skip rfl rfl ?_ | refine SL.y (op_move rfl) rfl rfl ?_
    first | refine SL.skip rfl rfl ?_ | refine SL.y (op_nil rfl) rfl rfl ?_ | refine SL.y (op_nilFn rfl) rfl rfl ?_
    first | refine SL.skip rfl rfl ?_ | refine SL.y (op_fieldAddr fa104_1 rfl) rfl rfl ?_
    first | refine SL.skip rfl rfl ?_ | refine SL.y (op_load ty59 rfl (by repeat (first | exact AtO.here | apply AtO.there)) rfl) rfl rfl ?_ | refine SL.y (op_loadX ty59 rfl (by assumption) rfl) rfl rfl ?_
    first | refine SL.skip rfl rfl ?_ | refine SL.y (op_move rfl) rfl rfl ?_
    first | refine SL.skip rfl rfl ?_ | refine SL.y (op_indexN Tryd.underlying59 ty47 rfl rfl (by omega)) rfl rfl ?_ | refine SL.y (op_index Tryd.underlying59 ty47 rfl rfl (by omega) (by omega)) rfl rfl ?_
    first | refine SL.skip rfl rfl ?_ | refine SL.y (op_load ty47 rfl (by repeat (first | exact AtO.here | apply AtO.there)) rfl) rfl rfl ?_ | refine SL.y (op_loadX ty47 rfl (by assumption) rfl) rfl rfl ?_
    first | refine SL.skip rfl rfl ?_ | refine SL.y (op_move rfl) rfl rfl ?_
    -- op
    refine SL.skip rfl rfl ?_
    first | refine SL.y (op_pickT rfl rfl) rfl rfl ?_ | refine SL.y (op_pickF rfl rfl) rfl rfl ?_ | refine SL.y (op_pickB rfl rfl rfl) rfl rfl ?_
    refine SL.y (op_assign rfl) rfl rfl ?_
    refine SL.nil ?_
    -- ret
    refine T.ret1 rfl (ResIs.tmp rfl) ?_
    simp [elemB, hin]
  | true =>
    have hin' := hin
    simp only [insideB, decide_eq_true_eq] at hin'
    obtain ⟨h1, h2, h3, h4⟩ := hin'
    obtain ⟨a, rfl⟩ := Int.eq_ofNat_of_zero_le h1
    obtain ⟨k, rfl⟩ := Int.eq_ofNat_of_zero_le h3
    have ha : a < ms.length := by omega
    have hk : k < c := by omega
    obtain ⟨b, A, cap, cs, rfl, hB, hS, hA, hr, hc⟩ := h
    obtain ⟨br, rfl, hBr⟩ := hA (by omega)
    obtain ⟨cell, hcell, hset⟩ := hS.2 a ms[a] (by simp [ha])
    have h' : MatR X (.pointer (some ⟨b, 0, none⟩)) c ms := ⟨b, _, cap, cs, rfl, hB, hS, fun _ => ⟨br, rfl, hBr⟩, hr, hc⟩
    refine Spec.enter Tryd.func48 rfl Tryd.ntmps48 rfl ?_
    intro w0 hw0
    refine T.seq ?_
    refine T.region ?_
    refine SL.y (op_assign rfl) rfl rfl ?_
    refine SL.nil ?_
    refine T.seq ?_
    refine T.region ?_
    refine SL.y (op_move rfl) rfl rfl ?_
    refine SL.y (op_move rfl) rfl rfl ?_
    refine SL.y (op_move rfl) rfl rfl ?_
    -- op
    refine SL.x (op_callF en70 (vs := [_, _, _]) rfl (inside_spec h' (a : Int) (k : Int))) rfl rfl ?_
    rintro _ _ X1 ⟨rfl, hX1, rfl⟩
    rw [hin]
    have hB1 := hB.mono hX1
    have hBr1 := hBr.mono hX1
    refine SL.y (op_move rfl) rfl rfl ?_
    first | refine SL.skip rfl rfl ?_ | refine SL.y (op_move rfl) rfl rfl ?_
    first | refine SL.skip rfl rfl ?_ | refine SL.y (op_nil rfl) rfl rfl ?_ | refine SL.y (op_nilFn rfl) rfl rfl ?_
    first | refine SL.skip rfl rfl ?_ | refine SL.y (op_fieldAddr fa104_1 rfl) rfl rfl ?_
    first | refine SL.skip rfl rfl ?_ | refine SL.y (op_load ty59 rfl (by repeat (first | exact AtO.here | apply AtO.there)) rfl) rfl rfl ?_ | refine SL.y (op_loadX ty59 rfl (by assumption) rfl) rfl rfl ?_
    first | refine SL.skip rfl rfl ?_ | refine SL.y (op_move rfl) rfl rfl ?_
    first | refine SL.skip rfl rfl ?_ | refine SL.y (op_indexN Tryd.underlying59 ty47 rfl rfl (by omega)) rfl rfl ?_ | refine SL.y (op_index Tryd.underlying59 ty47 rfl rfl (by omega) (by omega)) rfl rfl ?_
    -- to 18: op
    refine SL.y (op_loadX ty47 rfl hBr1 (creadR1 hcell)) rfl rfl ?_
    first | refine SL.skip rfl rfl ?_ | refine SL.y (op_move rfl) rfl rfl ?_
    -- op
    refine SL.x (op_callF en32 (vs := [_, _]) rfl (has_spec (hset.mono hX1) (k : Int))) rfl rfl ?_
    rintro _ _ X2 ⟨rfl, hX2, rfl⟩
    first | refine SL.y (op_pickT rfl rfl) rfl rfl ?_ | refine SL.y (op_pickF rfl rfl) rfl rfl ?_ | refine SL.y (op_pickB rfl rfl rfl) rfl rfl ?_
    refine SL.y (op_assign rfl) rfl rfl ?_
    refine SL.nil ?_
    -- ret
    refine T.ret1 rfl (ResIs.tmp rfl) ?_
    simp [elemB, hin, hasB, ha]
/-- The row's set; empty outside. -/
def rowM (ms : List Nat) (i : Int) : Nat := if 0 ≤ i ∧ i < ms.length then ms.getD i.toNat 0 else 0
theorem row_spec {X : PMap} {v : Value} {c : Nat} {ms : List Nat} (h : MatR X v c ms) (i : Int) : Spec Tryd.prog 67 [v, .int .i64 i] X fun u X' => SetR X' u (rowM ms i) := by
  by_cases h1 : i < 0
  · refine Spec.enter Tryd.func67 rfl Tryd.ntmps67 rfl ?_
    intro w0 hw0
    refine T.seq ?_
    refine T.region ?_
    refine SL.x (op_alloc z47) rfl rfl ?_
    rintro _ _ _ ⟨B4, rfl, rfl, rfl⟩
    refine SL.nil ?_
    refine T.seq ?_
    refine T.seq ?_
    refine T.region ?_
    refine SL.y (op_move rfl) rfl rfl ?_
    first | refine SL.y (op_lssT rfl rfl (by omega)) rfl rfl ?_ | refine SL.y (op_lssF rfl rfl (by omega)) rfl rfl ?_ | refine SL.y (op_lss rfl rfl) rfl rfl ?_
    refine SL.y (op_move rfl) rfl rfl ?_
    first | refine SL.skip rfl rfl ?_ | refine SL.y (op_move rfl) rfl rfl ?_
    first | refine SL.skip rfl rfl ?_ | refine SL.y (op_move rfl) rfl rfl ?_
    -- op
    refine SL.skip rfl rfl ?_
    first | refine SL.skip rfl rfl ?_ | refine SL.y (op_geqT rfl rfl (by omega)) rfl rfl ?_ | refine SL.y (op_geqF rfl rfl (by omega)) rfl rfl ?_ | refine SL.y (op_geq rfl rfl) rfl rfl ?_
    first | refine SL.y (op_pickT rfl rfl) rfl rfl ?_ | refine SL.y (op_pickF rfl rfl) rfl rfl ?_ | refine SL.y (op_pickB rfl rfl rfl) rfl rfl ?_
    refine SL.nil ?_
    refine T.condT rfl ?_
    refine T.seq ?_
    refine T.region ?_
    refine SL.y (op_build st47 (qs := []) rfl rfl) rfl rfl ?_
    refine SL.x (op_store ty47 rfl rfl (by repeat (first | exact AtO.here | apply AtO.there)) rfl rfl rfl) rfl rfl ?_
    rintro _ _ _ ⟨rfl, rfl⟩
    refine SL.nil ?_
    -- ret
    refine T.ret1 rfl (ResIs.cell rfl ty47 (by repeat (first | exact AtO.here | apply AtO.there)) rfl) ?_
    rw [rowM, if_neg (by omega)]
    exact SetR.zero
  · by_cases h2 : (ms.length : Int) ≤ i
    · refine Spec.enter Tryd.func67 rfl Tryd.ntmps67 rfl ?_
      intro w0 hw0
      refine T.seq ?_
      refine T.region ?_
      refine SL.x (op_alloc z47) rfl rfl ?_
      rintro _ _ _ ⟨B4, rfl, rfl, rfl⟩
      refine SL.nil ?_
      refine T.seq ?_
      refine T.seq ?_
      refine T.region ?_
      refine SL.y (op_move rfl) rfl rfl ?_
      first | refine SL.y (op_lssT rfl rfl (by omega)) rfl rfl ?_ | refine SL.y (op_lssF rfl rfl (by omega)) rfl rfl ?_ | refine SL.y (op_lss rfl rfl) rfl rfl ?_
      refine SL.y (op_move rfl) rfl rfl ?_
      first | refine SL.skip rfl rfl ?_ | refine SL.y (op_move rfl) rfl rfl ?_
      first | refine SL.skip rfl rfl ?_ | refine SL.y (op_move rfl) rfl rfl ?_
      -- op
      refine SL.x (op_callF en44 (vs := [_]) rfl (rows_spec h)) rfl rfl ?_
      rintro _ _ X1 ⟨rfl, hX1, rfl⟩
      first | refine SL.skip rfl rfl ?_ | refine SL.y (op_geqT rfl rfl (by omega)) rfl rfl ?_ | refine SL.y (op_geqF rfl rfl (by omega)) rfl rfl ?_ | refine SL.y (op_geq rfl rfl) rfl rfl ?_
      first | refine SL.y (op_pickT rfl rfl) rfl rfl ?_ | refine SL.y (op_pickF rfl rfl) rfl rfl ?_ | refine SL.y (op_pickB rfl rfl rfl) rfl rfl ?_
      refine SL.nil ?_
      refine T.condT rfl ?_
      refine T.seq ?_
      refine T.region ?_
      refine SL.y (op_build st47 (qs := []) rfl rfl) rfl rfl ?_
      refine SL.x (op_store ty47 rfl rfl (by repeat (first | exact AtO.here | apply AtO.there)) rfl rfl rfl) rfl rfl ?_
      rintro _ _ _ ⟨rfl, rfl⟩
      refine SL.nil ?_
      -- ret
      refine T.ret1 rfl (ResIs.cell rfl ty47 (by repeat (first | exact AtO.here | apply AtO.there)) rfl) ?_
      rw [rowM, if_neg (by omega)]
      exact SetR.zero
    · obtain ⟨a, rfl⟩ := Int.eq_ofNat_of_zero_le (show 0 ≤ i by omega)
      have ha : a < ms.length := by omega
      have hh := h
      obtain ⟨b, A, cap, cs, rfl, hB, hS, hA, hr, hc⟩ := h
      obtain ⟨br, rfl, hBr⟩ := hA (by omega)
      obtain ⟨cell, hcell, hset⟩ := hS.2 a ms[a] (by simp [ha])
      obtain ⟨A1, l1, c1, he⟩ := hset.form
      obtain rfl : cell = .slice A1 l1 c1 := by simpa using he
      refine Spec.enter Tryd.func67 rfl Tryd.ntmps67 rfl ?_
      intro w0 hw0
      refine T.seq ?_
      refine T.region ?_
      refine SL.x (op_alloc z47) rfl rfl ?_
      rintro _ _ _ ⟨B4, rfl, rfl, rfl⟩
      refine SL.nil ?_
      refine T.seq ?_
      refine T.seq ?_
      refine T.region ?_
      refine SL.y (op_move rfl) rfl rfl ?_
      first | refine SL.y (op_lssT rfl rfl (by omega)) rfl rfl ?_ | refine SL.y (op_lssF rfl rfl (by omega)) rfl rfl ?_ | refine SL.y (op_lss rfl rfl) rfl rfl ?_
      refine SL.y (op_move rfl) rfl rfl ?_
      first | refine SL.skip rfl rfl ?_ | refine SL.y (op_move rfl) rfl rfl ?_
      first | refine SL.skip rfl rfl ?_ | refine SL.y (op_move rfl) rfl rfl ?_
      -- op
      refine SL.x (op_callF en44 (vs := [_]) rfl (rows_spec hh)) rfl rfl ?_
      rintro _ _ X1 ⟨rfl, hX1, rfl⟩
      have hB1 := hB.mono hX1
      have hBr1 := hBr.mono hX1
      first | refine SL.skip rfl rfl ?_ | refine SL.y (op_geqT rfl rfl (by omega)) rfl rfl ?_ | refine SL.y (op_geqF rfl rfl (by omega)) rfl rfl ?_ | refine SL.y (op_geq rfl rfl) rfl rfl ?_
      first | refine SL.y (op_pickT rfl rfl) rfl rfl ?_ | refine SL.y (op_pickF rfl rfl) rfl rfl ?_ | refine SL.y (op_pickB rfl rfl rfl) rfl rfl ?_
      refine SL.nil ?_
      refine T.condF rfl ?_
      refine T.skip ?_
      refine T.seq ?_
      refine T.region ?_
      refine SL.y (op_move rfl) rfl rfl ?_
      first | refine SL.y (op_nil rfl) rfl rfl ?_ | refine SL.y (op_nilFn rfl) rfl rfl ?_
      refine SL.y (op_fieldAddr fa104_1 rfl) rfl rfl ?_
      first | refine SL.y (op_load ty59 rfl (by repeat (first | exact AtO.here | apply AtO.there)) rfl) rfl rfl ?_ | refine SL.y (op_loadX ty59 rfl (by assumption) rfl) rfl rfl ?_
      refine SL.y (op_move rfl) rfl rfl ?_
      first | refine SL.y (op_indexN Tryd.underlying59 ty47 rfl rfl (by omega)) rfl rfl ?_ | refine SL.y (op_index Tryd.underlying59 ty47 rfl rfl (by omega) (by omega)) rfl rfl ?_
      -- to 20: op
      refine SL.y (op_loadX ty47 rfl hBr1 (creadR1 hcell)) rfl rfl ?_
      refine SL.x (op_store ty47 rfl rfl (by repeat (first | exact AtO.here | apply AtO.there)) rfl rfl rfl) rfl rfl ?_
      rintro _ _ _ ⟨rfl, rfl⟩
      refine SL.nil ?_
      -- ret
      refine T.ret1 rfl (ResIs.cell rfl ty47 (by repeat (first | exact AtO.here | apply AtO.there)) rfl) ?_
      have e : rowM ms (a : Int) = ms[a] := by rw [rowM, if_pos (by omega)]; simp [ha]
      rw [e]
      exact hset.mono hX1
/-- The rows with a one in column j. -/
def colL (c : Nat) (ms : List Nat) (j : Int) (n : Nat) : List Nat := (List.range n).filter fun i => elemB c ms (i : Int) j
def colM (c : Nat) (ms : List Nat) (j : Int) : Nat := maskOf (colL c ms j ms.length)
theorem colL_succ (c : Nat) (ms : List Nat) (j : Int) (n : Nat) : colL c ms j (n + 1) = if elemB c ms (n : Int) j then colL c ms j n ++ [n] else colL c ms j n := by
  unfold colL
  rw [List.range_succ, List.filter_append, List.filter_cons]
  split <;> simp
theorem colL_lt {c : Nat} {ms : List Nat} {j : Int} {n i : Nat} (h : i ∈ colL c ms j n) : i < n := by
  simp only [colL, List.mem_filter, List.mem_range] at h
  exact h.1
theorem colL_len (c : Nat) (ms : List Nat) (j : Int) (n : Nat) : (colL c ms j n).length ≤ n := by
  have := List.length_filter_le (fun (i : Nat) => elemB c ms (i : Int) j) (List.range n)
  simpa [colL] using this
theorem column_spec {X : PMap} {v : Value} {c : Nat} {ms : List Nat} (h : MatR X v c ms) (j : Int) : Spec Tryd.prog 68 [v, .int .i64 j] X fun u X' => SetR X' u (colM c ms j) := by
  have hlen : ms.length < 64 := by obtain ⟨_, _, _, _, _, _, _, _, h, _⟩ := h; exact h
  refine Spec.enter Tryd.func68 rfl Tryd.ntmps68 rfl ?_
  intro w0 hw0
  refine T.seq ?_
  refine T.region ?_
  refine SL.x (op_alloc z47) rfl rfl ?_
  rintro _ _ _ ⟨B4, rfl, rfl, rfl⟩
  refine SL.nil ?_
  refine T.seq ?_
  refine T.region ?_
  refine SL.y (op_assign rfl) rfl rfl ?_
  refine SL.nil ?_
  refine T.seq ?_
  refine T.seq ?_
  refine T.region ?_
  refine SL.y (op_move rfl) rfl rfl ?_
  -- op
  refine SL.x (op_callF en44 (vs := [_]) rfl (rows_spec h)) rfl rfl ?_
  rintro _ _ X1 ⟨rfl, hX1, rfl⟩
  refine SL.y (op_move (v := .int .i64 ((0 : Nat) : Int)) rfl) rfl rfl ?_
  refine SL.nil ?_
  refine T.block ?_
  -- loop live [0, 1, 4, 5, 8, 9]
  refine T.loopW (fun m env own X' => ∃ (k : Nat) (s : Value) (G : Own), m = ms.length - k ∧ k ≤ ms.length ∧ X1.le X' ∧ GrowS 3 1 s (colL c ms j k).length (ints (colL c ms j k)) G ∧ env = [(0, v), (1, .int .i64 j), (4, .pointer (some ⟨B4, 0, none⟩)), (5, s), (8, .int .i64 (ms.length : Int)), (9, .int .i64 (k : Int))] ∧ own = ⟨B4, [.slice none 0 0], 47, 1⟩ :: G) ms.length ⟨0, _, _, by simp, by omega, PMap.le_refl _, GrowS.nil, rfl, rfl⟩ (by repeat (first | exact Sub.nil | refine Sub.cons rfl ?_)) ?_
  rintro m _ _ X2 ⟨k, s, G, rfl, hk, hX2, hG, rfl, rfl⟩
  rcases Nat.lt_or_ge k ms.length with hkl | hkl
  · skip
    refine T.seq ?_
    refine T.region ?_
    first | refine SL.y (op_lssT rfl rfl (by omega)) rfl rfl ?_ | refine SL.y (op_lssF rfl rfl (by omega)) rfl rfl ?_ | refine SL.y (op_lss rfl rfl) rfl rfl ?_
    refine SL.nil ?_
    refine T.seq ?_
    refine T.condT rfl ?_
    refine T.skip ?_
    refine T.seq ?_
    refine T.block ?_
    refine T.seq ?_
    refine T.region ?_
    refine SL.y (op_move rfl) rfl rfl ?_
    refine SL.y (op_assign rfl) rfl rfl ?_
    refine SL.nil ?_
    refine T.seq ?_
    refine T.region ?_
    refine SL.y (op_move rfl) rfl rfl ?_
    refine SL.y (op_move rfl) rfl rfl ?_
    refine SL.y (op_move rfl) rfl rfl ?_
    -- op
    refine SL.x (op_callF en48 (vs := [_, _, _]) rfl (mhas_spec ((h.mono hX1).mono hX2) (k : Int) j)) rfl rfl ?_
    rintro _ _ X3 ⟨rfl, hX3, rfl⟩
    have hcl := colL_len c ms j k
    cases hel : elemB c ms (k : Int) j with
    | true =>
      refine SL.nil ?_
      refine T.condT rfl ?_
      refine T.region ?_
      refine SL.y (op_move rfl) rfl rfl ?_
      refine SL.y (op_move rfl) rfl rfl ?_
      refine SL.x (op_buildSlice Tryd.underlying73 bs3 (qs := [(0, _)]) rfl rfl rfl rfl rfl) rfl rfl ?_
      rintro _ _ _ ⟨B18, rfl, rfl, rfl⟩
      -- op
      refine SL.x (op_appendG (own0 := [_]) sl73 rfl hG rfl rfl rfl (by (have : maxLen = 9223372036854775807 := rfl); omega) (by omega)) rfl rfl ?_
      rintro s' _ _ ⟨G', rfl, rfl, hG'⟩
      refine SL.y (op_assign rfl) rfl rfl ?_
      refine SL.nil ?_
      refine T.blk ?_
      refine T.region ?_
      first | refine SL.y (op_addN (q := 1) rfl rfl (by omega)) rfl rfl ?_ | refine SL.y (op_add rfl rfl (by omega) (by omega)) rfl rfl ?_ | refine SL.y (op_addW rfl rfl) rfl rfl ?_
      refine SL.y (op_move rfl) rfl rfl ?_
      refine SL.nil ?_
      -- cut
      exact T.backW (ms.length - (k + 1)) (by omega) ⟨k + 1, s', G', rfl, by omega, hX2.trans' hX3, by rw [colL_succ, hel]; simpa [ints, csets, vcells] using hG', rfl, rfl⟩ (by repeat (first | exact Sub.nil | refine Sub.cons rfl ?_))
    | false =>
      refine SL.nil ?_
      refine T.condF rfl ?_
      refine T.skip ?_
      refine T.blk ?_
      refine T.region ?_
      first | refine SL.y (op_addN (q := 1) rfl rfl (by omega)) rfl rfl ?_ | refine SL.y (op_add rfl rfl (by omega) (by omega)) rfl rfl ?_ | refine SL.y (op_addW rfl rfl) rfl rfl ?_
      refine SL.y (op_move rfl) rfl rfl ?_
      refine SL.nil ?_
      -- cut
      exact T.backW (ms.length - (k + 1)) (by omega) ⟨k + 1, s, G, rfl, by omega, hX2.trans' hX3, by rw [colL_succ, hel]; exact hG, rfl, rfl⟩ (by repeat (first | exact Sub.nil | refine Sub.cons rfl ?_))
  · have e : k = ms.length := by omega
    subst e
    have hcl := colL_len c ms j ms.length
    refine T.seq ?_
    refine T.region ?_
    first | refine SL.y (op_lssT rfl rfl (by omega)) rfl rfl ?_ | refine SL.y (op_lssF rfl rfl (by omega)) rfl rfl ?_ | refine SL.y (op_lss rfl rfl) rfl rfl ?_
    refine SL.nil ?_
    refine T.seq ?_
    refine T.condF rfl ?_
    refine T.exit (T.exitCode (T.exitCut (T.exitBlk ?_)))
    refine T.seq ?_
    refine T.region ?_
    refine SL.y (op_move rfl) rfl rfl ?_
    -- op
    refine T.pubGAt (own0 := [_]) hG ?_
    intro X3 hX3 hS3
    refine SL.x (op_callF en30 (vs := [_]) rfl (of_spec hS3 (fun i hi => by have := colL_lt hi; omega) (by omega))) rfl rfl ?_
    rintro _ _ X4 ⟨rfl, hX4, hS⟩
    obtain ⟨A2, l2, c2, rfl⟩ := hS.form
    refine SL.x (op_store ty47 rfl rfl (by repeat (first | exact AtO.here | apply AtO.there)) rfl rfl rfl) rfl rfl ?_
    rintro _ _ _ ⟨rfl, rfl⟩
    refine SL.nil ?_
    -- ret
    refine T.ret1 rfl (ResIs.cell rfl ty47 (by repeat (first | exact AtO.here | apply AtO.there)) rfl) ?_
    exact hS
end Go.Proofs.YtoheffglppbcbaaDoor
