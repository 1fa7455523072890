/- THE REFERENCE's MATRICES: elements, rows; the program's matrix made of one (arbaclaw44.Matrix). -/
import Derived.Test.YtoheffglppbcbaaDoorRef4
namespace Go.Proofs.YtoheffglppbcbaaDoor
section
set_option maxRecDepth 100000
theorem en96 : Enters Tryd.prog 96 := enters_mk Tryd.func96 (by kernel_rfl) rfl
end
open Go.RowKit
theorem has44_spec {X : PMap} {v : Value} {c : Nat} {ms : List Nat} (h : M44R X v c ms) (i j : Int) : Spec Tryd.prog 96 [v, .int .i64 i, .int .i64 j] X fun u _ => u = .bool (elemB c ms i j) := by
  obtain ⟨s, cs, rfl, hS, hl, hrow⟩ := h
  obtain ⟨As, cps, rfl⟩ := hS.form
  by_cases h1 : i < 0
  · refine Spec.enter Tryd.func96 rfl Tryd.ntmps96 rfl ?_
    intro w0 hw0
    refine T.seq ?_
    refine T.region ?_
    refine SL.x (op_box rfl) rfl rfl ?_
    rintro _ _ _ ⟨B3, rfl, rfl, rfl⟩
    refine SL.y (op_assign rfl) rfl rfl ?_
    refine SL.nil ?_
    refine T.seq ?_
    refine T.region ?_
    refine SL.y (op_move rfl) rfl rfl ?_
    first | refine SL.y (op_geqT rfl rfl (by omega)) rfl rfl ?_ | refine SL.y (op_geqF rfl rfl (by omega)) rfl rfl ?_ | refine SL.y (op_geq rfl rfl) rfl rfl ?_
    refine SL.y (op_move rfl) rfl rfl ?_
    first | refine SL.skip rfl rfl ?_ | refine SL.y (op_move rfl) rfl rfl ?_
    first | refine SL.skip rfl rfl ?_ | refine SL.y (op_fieldAddr fa91_1 rfl) rfl rfl ?_
    first | refine SL.skip rfl rfl ?_ | refine SL.y (op_load ty89 rfl (by repeat (first | exact AtO.here | apply AtO.there)) rfl) rfl rfl ?_ | refine SL.y (op_loadX ty89 rfl (by assumption) rfl) rfl rfl ?_
    first | refine SL.skip rfl rfl ?_ | refine SL.y (op_lenS Tryd.underlying89 rfl) rfl rfl ?_
    first | refine SL.skip rfl rfl ?_ | refine SL.y (op_lssT rfl rfl (by omega)) rfl rfl ?_ | refine SL.y (op_lssF rfl rfl (by omega)) rfl rfl ?_ | refine SL.y (op_lss rfl rfl) rfl rfl ?_
    first | refine SL.y (op_pickT rfl rfl) rfl rfl ?_ | refine SL.y (op_pickF rfl rfl) rfl rfl ?_ | refine SL.y (op_pickB rfl rfl rfl) rfl rfl ?_
    refine SL.y (op_move rfl) rfl rfl ?_
    first | refine SL.skip rfl rfl ?_ | refine SL.y (op_move rfl) rfl rfl ?_
    first | refine SL.skip rfl rfl ?_ | refine SL.y (op_geqT rfl rfl (by omega)) rfl rfl ?_ | refine SL.y (op_geqF rfl rfl (by omega)) rfl rfl ?_ | refine SL.y (op_geq rfl rfl) rfl rfl ?_
    first | refine SL.y (op_pickT rfl rfl) rfl rfl ?_ | refine SL.y (op_pickF rfl rfl) rfl rfl ?_ | refine SL.y (op_pickB rfl rfl rfl) rfl rfl ?_
    refine SL.y (op_move rfl) rfl rfl ?_
    first | refine SL.skip rfl rfl ?_ | refine SL.y (op_move rfl) rfl rfl ?_
    first | refine SL.skip rfl rfl ?_ | refine SL.y (op_fieldAddr fa91_0 rfl) rfl rfl ?_
    first | refine SL.skip rfl rfl ?_ | refine SL.y (op_load ty3 rfl (by repeat (first | exact AtO.here | apply AtO.there)) rfl) rfl rfl ?_ | refine SL.y (op_loadX ty3 rfl (by assumption) rfl) rfl rfl ?_
    first | refine SL.skip rfl rfl ?_ | refine SL.y (op_lssT rfl rfl (by omega)) rfl rfl ?_ | refine SL.y (op_lssF rfl rfl (by omega)) rfl rfl ?_ | refine SL.y (op_lss rfl rfl) rfl rfl ?_
    first | refine SL.y (op_pickT rfl rfl) rfl rfl ?_ | refine SL.y (op_pickF rfl rfl) rfl rfl ?_ | refine SL.y (op_pickB rfl rfl rfl) rfl rfl ?_
    refine SL.y (op_move rfl) rfl rfl ?_
    first | refine SL.skip rfl rfl ?_ | refine SL.y (op_fieldAddr fa91_1 rfl) rfl rfl ?_
    first | refine SL.skip rfl rfl ?_ | refine SL.y (op_load ty89 rfl (by repeat (first | exact AtO.here | apply AtO.there)) rfl) rfl rfl ?_ | refine SL.y (op_loadX ty89 rfl (by assumption) rfl) rfl rfl ?_
    first | refine SL.skip rfl rfl ?_ | refine SL.y (op_move rfl) rfl rfl ?_
    first | refine SL.skip rfl rfl ?_ | refine SL.y (op_indexN Tryd.underlying89 ty123 rfl rfl (by omega)) rfl rfl ?_ | refine SL.y (op_index Tryd.underlying89 ty123 rfl rfl (by omega) (by omega)) rfl rfl ?_
    first | refine SL.skip rfl rfl ?_ | refine SL.y (op_load ty123 rfl (by repeat (first | exact AtO.here | apply AtO.there)) rfl) rfl rfl ?_ | refine SL.y (op_loadX ty123 rfl (by assumption) rfl) rfl rfl ?_
    first | refine SL.skip rfl rfl ?_ | refine SL.y (op_move rfl) rfl rfl ?_
    first | refine SL.skip rfl rfl ?_ | refine SL.y (op_indexN Tryd.underlying123 ty4 rfl rfl (by omega)) rfl rfl ?_ | refine SL.y (op_index Tryd.underlying123 ty4 rfl rfl (by omega) (by omega)) rfl rfl ?_
    first | refine SL.skip rfl rfl ?_ | refine SL.y (op_load ty4 rfl (by repeat (first | exact AtO.here | apply AtO.there)) rfl) rfl rfl ?_ | refine SL.y (op_loadX ty4 rfl (by assumption) rfl) rfl rfl ?_
    first | refine SL.y (op_pickT rfl rfl) rfl rfl ?_ | refine SL.y (op_pickF rfl rfl) rfl rfl ?_ | refine SL.y (op_pickB rfl rfl rfl) rfl rfl ?_
    refine SL.y (op_assign rfl) rfl rfl ?_
    refine SL.nil ?_
    -- ret
    refine T.ret1 rfl (ResIs.tmp rfl) ?_
    have : ¬ (0 ≤ i ∧ i < ms.length ∧ 0 ≤ j ∧ j < c) := by omega
    simp [elemB, insideB, this]
  · by_cases h2 : (ms.length : Int) ≤ i
    · refine Spec.enter Tryd.func96 rfl Tryd.ntmps96 rfl ?_
      intro w0 hw0
      refine T.seq ?_
      refine T.region ?_
      refine SL.x (op_box rfl) rfl rfl ?_
      rintro _ _ _ ⟨B3, rfl, rfl, rfl⟩
      refine SL.y (op_assign rfl) rfl rfl ?_
      refine SL.nil ?_
      refine T.seq ?_
      refine T.region ?_
      refine SL.y (op_move rfl) rfl rfl ?_
      first | refine SL.y (op_geqT rfl rfl (by omega)) rfl rfl ?_ | refine SL.y (op_geqF rfl rfl (by omega)) rfl rfl ?_ | refine SL.y (op_geq rfl rfl) rfl rfl ?_
      refine SL.y (op_move rfl) rfl rfl ?_
      first | refine SL.skip rfl rfl ?_ | refine SL.y (op_move rfl) rfl rfl ?_
      first | refine SL.skip rfl rfl ?_ | refine SL.y (op_fieldAddr fa91_1 rfl) rfl rfl ?_
      first | refine SL.skip rfl rfl ?_ | refine SL.y (op_load ty89 rfl (by repeat (first | exact AtO.here | apply AtO.there)) rfl) rfl rfl ?_ | refine SL.y (op_loadX ty89 rfl (by assumption) rfl) rfl rfl ?_
      first | refine SL.skip rfl rfl ?_ | refine SL.y (op_lenS Tryd.underlying89 rfl) rfl rfl ?_
      first | refine SL.skip rfl rfl ?_ | refine SL.y (op_lssT rfl rfl (by omega)) rfl rfl ?_ | refine SL.y (op_lssF rfl rfl (by omega)) rfl rfl ?_ | refine SL.y (op_lss rfl rfl) rfl rfl ?_
      first | refine SL.y (op_pickT rfl rfl) rfl rfl ?_ | refine SL.y (op_pickF rfl rfl) rfl rfl ?_ | refine SL.y (op_pickB rfl rfl rfl) rfl rfl ?_
      refine SL.y (op_move rfl) rfl rfl ?_
      first | refine SL.skip rfl rfl ?_ | refine SL.y (op_move rfl) rfl rfl ?_
      first | refine SL.skip rfl rfl ?_ | refine SL.y (op_geqT rfl rfl (by omega)) rfl rfl ?_ | refine SL.y (op_geqF rfl rfl (by omega)) rfl rfl ?_ | refine SL.y (op_geq rfl rfl) rfl rfl ?_
      first | refine SL.y (op_pickT rfl rfl) rfl rfl ?_ | refine SL.y (op_pickF rfl rfl) rfl rfl ?_ | refine SL.y (op_pickB rfl rfl rfl) rfl rfl ?_
      refine SL.y (op_move rfl) rfl rfl ?_
      first | refine SL.skip rfl rfl ?_ | refine SL.y (op_move rfl) rfl rfl ?_
      first | refine SL.skip rfl rfl ?_ | refine SL.y (op_fieldAddr fa91_0 rfl) rfl rfl ?_
      first | refine SL.skip rfl rfl ?_ | refine SL.y (op_load ty3 rfl (by repeat (first | exact AtO.here | apply AtO.there)) rfl) rfl rfl ?_ | refine SL.y (op_loadX ty3 rfl (by assumption) rfl) rfl rfl ?_
      first | refine SL.skip rfl rfl ?_ | refine SL.y (op_lssT rfl rfl (by omega)) rfl rfl ?_ | refine SL.y (op_lssF rfl rfl (by omega)) rfl rfl ?_ | refine SL.y (op_lss rfl rfl) rfl rfl ?_
      first | refine SL.y (op_pickT rfl rfl) rfl rfl ?_ | refine SL.y (op_pickF rfl rfl) rfl rfl ?_ | refine SL.y (op_pickB rfl rfl rfl) rfl rfl ?_
      refine SL.y (op_move rfl) rfl rfl ?_
      first | refine SL.skip rfl rfl ?_ | refine SL.y (op_fieldAddr fa91_1 rfl) rfl rfl ?_
      first | refine SL.skip rfl rfl ?_ | refine SL.y (op_load ty89 rfl (by repeat (first | exact AtO.here | apply AtO.there)) rfl) rfl rfl ?_ | refine SL.y (op_loadX ty89 rfl (by assumption) rfl) rfl rfl ?_
      first | refine SL.skip rfl rfl ?_ | refine SL.y (op_move rfl) rfl rfl ?_
      first | refine SL.skip rfl rfl ?_ | refine SL.y (op_indexN Tryd.underlying89 ty123 rfl rfl (by omega)) rfl rfl ?_ | refine SL.y (op_index Tryd.underlying89 ty123 rfl rfl (by omega) (by omega)) rfl rfl ?_
      first | refine SL.skip rfl rfl ?_ | refine SL.y (op_load ty123 rfl (by repeat (first | exact AtO.here | apply AtO.there)) rfl) rfl rfl ?_ | refine SL.y (op_loadX ty123 rfl (by assumption) rfl) rfl rfl ?_
      first | refine SL.skip rfl rfl ?_ | refine SL.y (op_move rfl) rfl rfl ?_
      first | refine SL.skip rfl rfl ?_ | refine SL.y (op_indexN Tryd.underlying123 ty4 rfl rfl (by omega)) rfl rfl ?_ | refine SL.y (op_index Tryd.underlying123 ty4 rfl rfl (by omega) (by omega)) rfl rfl ?_
      first | refine SL.skip rfl rfl ?_ | refine SL.y (op_load ty4 rfl (by repeat (first | exact AtO.here | apply AtO.there)) rfl) rfl rfl ?_ | refine SL.y (op_loadX ty4 rfl (by assumption) rfl) rfl rfl ?_
      first | refine SL.y (op_pickT rfl rfl) rfl rfl ?_ | refine SL.y (op_pickF rfl rfl) rfl rfl ?_ | refine SL.y (op_pickB rfl rfl rfl) rfl rfl ?_
      refine SL.y (op_assign rfl) rfl rfl ?_
      refine SL.nil ?_
      -- ret
      refine T.ret1 rfl (ResIs.tmp rfl) ?_
      have : ¬ (0 ≤ i ∧ i < ms.length ∧ 0 ≤ j ∧ j < c) := by omega
      simp [elemB, insideB, this]
    · by_cases h3 : j < 0
      · refine Spec.enter Tryd.func96 rfl Tryd.ntmps96 rfl ?_
        intro w0 hw0
        refine T.seq ?_
        refine T.region ?_
        refine SL.x (op_box rfl) rfl rfl ?_
        rintro _ _ _ ⟨B3, rfl, rfl, rfl⟩
        refine SL.y (op_assign rfl) rfl rfl ?_
        refine SL.nil ?_
        refine T.seq ?_
        refine T.region ?_
        refine SL.y (op_move rfl) rfl rfl ?_
        first | refine SL.y (op_geqT rfl rfl (by omega)) rfl rfl ?_ | refine SL.y (op_geqF rfl rfl (by omega)) rfl rfl ?_ | refine SL.y (op_geq rfl rfl) rfl rfl ?_
        refine SL.y (op_move rfl) rfl rfl ?_
        first | refine SL.skip rfl rfl ?_ | refine SL.y (op_move rfl) rfl rfl ?_
        first | refine SL.skip rfl rfl ?_ | refine SL.y (op_fieldAddr fa91_1 rfl) rfl rfl ?_
        first | refine SL.skip rfl rfl ?_ | refine SL.y (op_load ty89 rfl (by repeat (first | exact AtO.here | apply AtO.there)) rfl) rfl rfl ?_ | refine SL.y (op_loadX ty89 rfl (by assumption) rfl) rfl rfl ?_
        first | refine SL.skip rfl rfl ?_ | refine SL.y (op_lenS Tryd.underlying89 rfl) rfl rfl ?_
        first | refine SL.skip rfl rfl ?_ | refine SL.y (op_lssT rfl rfl (by omega)) rfl rfl ?_ | refine SL.y (op_lssF rfl rfl (by omega)) rfl rfl ?_ | refine SL.y (op_lss rfl rfl) rfl rfl ?_
        first | refine SL.y (op_pickT rfl rfl) rfl rfl ?_ | refine SL.y (op_pickF rfl rfl) rfl rfl ?_ | refine SL.y (op_pickB rfl rfl rfl) rfl rfl ?_
        refine SL.y (op_move rfl) rfl rfl ?_
        first | refine SL.skip rfl rfl ?_ | refine SL.y (op_move rfl) rfl rfl ?_
        first | refine SL.skip rfl rfl ?_ | refine SL.y (op_geqT rfl rfl (by omega)) rfl rfl ?_ | refine SL.y (op_geqF rfl rfl (by omega)) rfl rfl ?_ | refine SL.y (op_geq rfl rfl) rfl rfl ?_
        first | refine SL.y (op_pickT rfl rfl) rfl rfl ?_ | refine SL.y (op_pickF rfl rfl) rfl rfl ?_ | refine SL.y (op_pickB rfl rfl rfl) rfl rfl ?_
        refine SL.y (op_move rfl) rfl rfl ?_
        first | refine SL.skip rfl rfl ?_ | refine SL.y (op_move rfl) rfl rfl ?_
        first | refine SL.skip rfl rfl ?_ | refine SL.y (op_fieldAddr fa91_0 rfl) rfl rfl ?_
        first | refine SL.skip rfl rfl ?_ | refine SL.y (op_load ty3 rfl (by repeat (first | exact AtO.here | apply AtO.there)) rfl) rfl rfl ?_ | refine SL.y (op_loadX ty3 rfl (by assumption) rfl) rfl rfl ?_
        first | refine SL.skip rfl rfl ?_ | refine SL.y (op_lssT rfl rfl (by omega)) rfl rfl ?_ | refine SL.y (op_lssF rfl rfl (by omega)) rfl rfl ?_ | refine SL.y (op_lss rfl rfl) rfl rfl ?_
        first | refine SL.y (op_pickT rfl rfl) rfl rfl ?_ | refine SL.y (op_pickF rfl rfl) rfl rfl ?_ | refine SL.y (op_pickB rfl rfl rfl) rfl rfl ?_
        refine SL.y (op_move rfl) rfl rfl ?_
        first | refine SL.skip rfl rfl ?_ | refine SL.y (op_fieldAddr fa91_1 rfl) rfl rfl ?_
        first | refine SL.skip rfl rfl ?_ | refine SL.y (op_load ty89 rfl (by repeat (first | exact AtO.here | apply AtO.there)) rfl) rfl rfl ?_ | refine SL.y (op_loadX ty89 rfl (by assumption) rfl) rfl rfl ?_
        first | refine SL.skip rfl rfl ?_ | refine SL.y (op_move rfl) rfl rfl ?_
        first | refine SL.skip rfl rfl ?_ | refine SL.y (op_indexN Tryd.underlying89 ty123 rfl rfl (by omega)) rfl rfl ?_ | refine SL.y (op_index Tryd.underlying89 ty123 rfl rfl (by omega) (by omega)) rfl rfl ?_
        first | refine SL.skip rfl rfl ?_ | refine SL.y (op_load ty123 rfl (by repeat (first | exact AtO.here | apply AtO.there)) rfl) rfl rfl ?_ | refine SL.y (op_loadX ty123 rfl (by assumption) rfl) rfl rfl ?_
        first | refine SL.skip rfl rfl ?_ | refine SL.y (op_move rfl) rfl rfl ?_
        first | refine SL.skip rfl rfl ?_ | refine SL.y (op_indexN Tryd.underlying123 ty4 rfl rfl (by omega)) rfl rfl ?_ | refine SL.y (op_index Tryd.underlying123 ty4 rfl rfl (by omega) (by omega)) rfl rfl ?_
        first | refine SL.skip rfl rfl ?_ | refine SL.y (op_load ty4 rfl (by repeat (first | exact AtO.here | apply AtO.there)) rfl) rfl rfl ?_ | refine SL.y (op_loadX ty4 rfl (by assumption) rfl) rfl rfl ?_
        first | refine SL.y (op_pickT rfl rfl) rfl rfl ?_ | refine SL.y (op_pickF rfl rfl) rfl rfl ?_ | refine SL.y (op_pickB rfl rfl rfl) rfl rfl ?_
        refine SL.y (op_assign rfl) rfl rfl ?_
        refine SL.nil ?_
        -- ret
        refine T.ret1 rfl (ResIs.tmp rfl) ?_
        have : ¬ (0 ≤ i ∧ i < ms.length ∧ 0 ≤ j ∧ j < c) := by omega
        simp [elemB, insideB, this]
      · by_cases h4 : (c : Int) ≤ j
        · refine Spec.enter Tryd.func96 rfl Tryd.ntmps96 rfl ?_
          intro w0 hw0
          refine T.seq ?_
          refine T.region ?_
          refine SL.x (op_box rfl) rfl rfl ?_
          rintro _ _ _ ⟨B3, rfl, rfl, rfl⟩
          refine SL.y (op_assign rfl) rfl rfl ?_
          refine SL.nil ?_
          refine T.seq ?_
          refine T.region ?_
          refine SL.y (op_move rfl) rfl rfl ?_
          first | refine SL.y (op_geqT rfl rfl (by omega)) rfl rfl ?_ | refine SL.y (op_geqF rfl rfl (by omega)) rfl rfl ?_ | refine SL.y (op_geq rfl rfl) rfl rfl ?_
          refine SL.y (op_move rfl) rfl rfl ?_
          first | refine SL.skip rfl rfl ?_ | refine SL.y (op_move rfl) rfl rfl ?_
          first | refine SL.skip rfl rfl ?_ | refine SL.y (op_fieldAddr fa91_1 rfl) rfl rfl ?_
          first | refine SL.skip rfl rfl ?_ | refine SL.y (op_load ty89 rfl (by repeat (first | exact AtO.here | apply AtO.there)) rfl) rfl rfl ?_ | refine SL.y (op_loadX ty89 rfl (by assumption) rfl) rfl rfl ?_
          first | refine SL.skip rfl rfl ?_ | refine SL.y (op_lenS Tryd.underlying89 rfl) rfl rfl ?_
          first | refine SL.skip rfl rfl ?_ | refine SL.y (op_lssT rfl rfl (by omega)) rfl rfl ?_ | refine SL.y (op_lssF rfl rfl (by omega)) rfl rfl ?_ | refine SL.y (op_lss rfl rfl) rfl rfl ?_
          first | refine SL.y (op_pickT rfl rfl) rfl rfl ?_ | refine SL.y (op_pickF rfl rfl) rfl rfl ?_ | refine SL.y (op_pickB rfl rfl rfl) rfl rfl ?_
          refine SL.y (op_move rfl) rfl rfl ?_
          first | refine SL.skip rfl rfl ?_ | refine SL.y (op_move rfl) rfl rfl ?_
          first | refine SL.skip rfl rfl ?_ | refine SL.y (op_geqT rfl rfl (by omega)) rfl rfl ?_ | refine SL.y (op_geqF rfl rfl (by omega)) rfl rfl ?_ | refine SL.y (op_geq rfl rfl) rfl rfl ?_
          first | refine SL.y (op_pickT rfl rfl) rfl rfl ?_ | refine SL.y (op_pickF rfl rfl) rfl rfl ?_ | refine SL.y (op_pickB rfl rfl rfl) rfl rfl ?_
          refine SL.y (op_move rfl) rfl rfl ?_
          first | refine SL.skip rfl rfl ?_ | refine SL.y (op_move rfl) rfl rfl ?_
          first | refine SL.skip rfl rfl ?_ | refine SL.y (op_fieldAddr fa91_0 rfl) rfl rfl ?_
          first | refine SL.skip rfl rfl ?_ | refine SL.y (op_load ty3 rfl (by repeat (first | exact AtO.here | apply AtO.there)) rfl) rfl rfl ?_ | refine SL.y (op_loadX ty3 rfl (by assumption) rfl) rfl rfl ?_
          first | refine SL.skip rfl rfl ?_ | refine SL.y (op_lssT rfl rfl (by omega)) rfl rfl ?_ | refine SL.y (op_lssF rfl rfl (by omega)) rfl rfl ?_ | refine SL.y (op_lss rfl rfl) rfl rfl ?_
          first | refine SL.y (op_pickT rfl rfl) rfl rfl ?_ | refine SL.y (op_pickF rfl rfl) rfl rfl ?_ | refine SL.y (op_pickB rfl rfl rfl) rfl rfl ?_
          refine SL.y (op_move rfl) rfl rfl ?_
          first | refine SL.skip rfl rfl ?_ | refine SL.y (op_fieldAddr fa91_1 rfl) rfl rfl ?_
          first | refine SL.skip rfl rfl ?_ | refine SL.y (op_load ty89 rfl (by repeat (first | exact AtO.here | apply AtO.there)) rfl) rfl rfl ?_ | refine SL.y (op_loadX ty89 rfl (by assumption) rfl) rfl rfl ?_
          first | refine SL.skip rfl rfl ?_ | refine SL.y (op_move rfl) rfl rfl ?_
          first | refine SL.skip rfl rfl ?_ | refine SL.y (op_indexN Tryd.underlying89 ty123 rfl rfl (by omega)) rfl rfl ?_ | refine SL.y (op_index Tryd.underlying89 ty123 rfl rfl (by omega) (by omega)) rfl rfl ?_
          first | refine SL.skip rfl rfl ?_ | refine SL.y (op_load ty123 rfl (by repeat (first | exact AtO.here | apply AtO.there)) rfl) rfl rfl ?_ | refine SL.y (op_loadX ty123 rfl (by assumption) rfl) rfl rfl ?_
          first | refine SL.skip rfl rfl ?_ | refine SL.y (op_move rfl) rfl rfl ?_
          first | refine SL.skip rfl rfl ?_ | refine SL.y (op_indexN Tryd.underlying123 ty4 rfl rfl (by omega)) rfl rfl ?_ | refine SL.y (op_index Tryd.underlying123 ty4 rfl rfl (by omega) (by omega)) rfl rfl ?_
          first | refine SL.skip rfl rfl ?_ | refine SL.y (op_load ty4 rfl (by repeat (first | exact AtO.here | apply AtO.there)) rfl) rfl rfl ?_ | refine SL.y (op_loadX ty4 rfl (by assumption) rfl) rfl rfl ?_
          first | refine SL.y (op_pickT rfl rfl) rfl rfl ?_ | refine SL.y (op_pickF rfl rfl) rfl rfl ?_ | refine SL.y (op_pickB rfl rfl rfl) rfl rfl ?_
          refine SL.y (op_assign rfl) rfl rfl ?_
          refine SL.nil ?_
          -- ret
          refine T.ret1 rfl (ResIs.tmp rfl) ?_
          have : ¬ (0 ≤ i ∧ i < ms.length ∧ 0 ≤ j ∧ j < c) := by omega
          simp [elemB, insideB, this]
        · obtain ⟨a, rfl⟩ := Int.eq_ofNat_of_zero_le (show 0 ≤ i by omega)
          obtain ⟨k, rfl⟩ := Int.eq_ofNat_of_zero_le (show 0 ≤ j by omega)
          have ha : a < ms.length := by omega
          have hk : k < c := by omega
          obtain ⟨bo, rfl, hBo⟩ := hS.blk (by omega)
          obtain ⟨Ar, cpr, hcell, hR⟩ := hrow a ms[a] (by simp [ha])
          obtain ⟨br, rfl, hBr⟩ := hR.blk (by omega)
          have hget : (boolsC c ms[a])[k]? = some (.bool (ms[a].testBit k)) := by simp [boolsC, hk]
          refine Spec.enter Tryd.func96 rfl Tryd.ntmps96 rfl ?_
          intro w0 hw0
          refine T.seq ?_
          refine T.region ?_
          refine SL.x (op_box rfl) rfl rfl ?_
          rintro _ _ _ ⟨B3, rfl, rfl, rfl⟩
          refine SL.y (op_assign rfl) rfl rfl ?_
          refine SL.nil ?_
          refine T.seq ?_
          refine T.region ?_
          refine SL.y (op_move rfl) rfl rfl ?_
          first | refine SL.y (op_geqT rfl rfl (by omega)) rfl rfl ?_ | refine SL.y (op_geqF rfl rfl (by omega)) rfl rfl ?_ | refine SL.y (op_geq rfl rfl) rfl rfl ?_
          refine SL.y (op_move rfl) rfl rfl ?_
          first | refine SL.skip rfl rfl ?_ | refine SL.y (op_move rfl) rfl rfl ?_
          first | refine SL.skip rfl rfl ?_ | refine SL.y (op_fieldAddr fa91_1 rfl) rfl rfl ?_
          first | refine SL.skip rfl rfl ?_ | refine SL.y (op_load ty89 rfl (by repeat (first | exact AtO.here | apply AtO.there)) rfl) rfl rfl ?_ | refine SL.y (op_loadX ty89 rfl (by assumption) rfl) rfl rfl ?_
          first | refine SL.skip rfl rfl ?_ | refine SL.y (op_lenS Tryd.underlying89 rfl) rfl rfl ?_
          first | refine SL.skip rfl rfl ?_ | refine SL.y (op_lssT rfl rfl (by omega)) rfl rfl ?_ | refine SL.y (op_lssF rfl rfl (by omega)) rfl rfl ?_ | refine SL.y (op_lss rfl rfl) rfl rfl ?_
          first | refine SL.y (op_pickT rfl rfl) rfl rfl ?_ | refine SL.y (op_pickF rfl rfl) rfl rfl ?_ | refine SL.y (op_pickB rfl rfl rfl) rfl rfl ?_
          refine SL.y (op_move rfl) rfl rfl ?_
          first | refine SL.skip rfl rfl ?_ | refine SL.y (op_move rfl) rfl rfl ?_
          first | refine SL.skip rfl rfl ?_ | refine SL.y (op_geqT rfl rfl (by omega)) rfl rfl ?_ | refine SL.y (op_geqF rfl rfl (by omega)) rfl rfl ?_ | refine SL.y (op_geq rfl rfl) rfl rfl ?_
          first | refine SL.y (op_pickT rfl rfl) rfl rfl ?_ | refine SL.y (op_pickF rfl rfl) rfl rfl ?_ | refine SL.y (op_pickB rfl rfl rfl) rfl rfl ?_
          refine SL.y (op_move rfl) rfl rfl ?_
          first | refine SL.skip rfl rfl ?_ | refine SL.y (op_move rfl) rfl rfl ?_
          first | refine SL.skip rfl rfl ?_ | refine SL.y (op_fieldAddr fa91_0 rfl) rfl rfl ?_
          first | refine SL.skip rfl rfl ?_ | refine SL.y (op_load ty3 rfl (by repeat (first | exact AtO.here | apply AtO.there)) rfl) rfl rfl ?_ | refine SL.y (op_loadX ty3 rfl (by assumption) rfl) rfl rfl ?_
          first | refine SL.skip rfl rfl ?_ | refine SL.y (op_lssT rfl rfl (by omega)) rfl rfl ?_ | refine SL.y (op_lssF rfl rfl (by omega)) rfl rfl ?_ | refine SL.y (op_lss rfl rfl) rfl rfl ?_
          first | refine SL.y (op_pickT rfl rfl) rfl rfl ?_ | refine SL.y (op_pickF rfl rfl) rfl rfl ?_ | refine SL.y (op_pickB rfl rfl rfl) rfl rfl ?_
          refine SL.y (op_move rfl) rfl rfl ?_
          first | refine SL.skip rfl rfl ?_ | refine SL.y (op_fieldAddr fa91_1 rfl) rfl rfl ?_
          first | refine SL.skip rfl rfl ?_ | refine SL.y (op_load ty89 rfl (by repeat (first | exact AtO.here | apply AtO.there)) rfl) rfl rfl ?_ | refine SL.y (op_loadX ty89 rfl (by assumption) rfl) rfl rfl ?_
          first | refine SL.skip rfl rfl ?_ | refine SL.y (op_move rfl) rfl rfl ?_
          first | refine SL.skip rfl rfl ?_ | refine SL.y (op_indexN Tryd.underlying89 ty123 rfl rfl (by omega)) rfl rfl ?_ | refine SL.y (op_index Tryd.underlying89 ty123 rfl rfl (by omega) (by omega)) rfl rfl ?_
          -- to 31: op
          refine SL.y (op_loadX ty123 rfl hBo (cread1 hcell)) rfl rfl ?_
          first | refine SL.skip rfl rfl ?_ | refine SL.y (op_move rfl) rfl rfl ?_
          first | refine SL.skip rfl rfl ?_ | refine SL.y (op_indexN Tryd.underlying123 ty4 rfl rfl (by omega)) rfl rfl ?_ | refine SL.y (op_index Tryd.underlying123 ty4 rfl rfl (by omega) (by omega)) rfl rfl ?_
          -- to 34: op
          refine SL.y (op_loadX ty4 rfl hBr (cread1 hget)) rfl rfl ?_
          first | refine SL.y (op_pickT rfl rfl) rfl rfl ?_ | refine SL.y (op_pickF rfl rfl) rfl rfl ?_ | refine SL.y (op_pickB rfl rfl rfl) rfl rfl ?_
          refine SL.y (op_assign rfl) rfl rfl ?_
          refine SL.nil ?_
          -- ret
          refine T.ret1 rfl (ResIs.tmp rfl) ?_
          have : (0 : Int) ≤ (a : Int) ∧ (a : Int) < ms.length ∧ (0 : Int) ≤ (k : Int) ∧ (k : Int) < c := by omega
          simp [elemB, insideB, this, ha]
def rowL (c : Nat) (ms : List Nat) (i : Int) (n : Nat) : List Nat := (List.range n).filter fun j => elemB c ms i (j : Int)
theorem rowL_succ (c : Nat) (ms : List Nat) (i : Int) (n : Nat) : rowL c ms i (n + 1) = if elemB c ms i (n : Int) then rowL c ms i n ++ [n] else rowL c ms i n := by
  unfold rowL
  rw [List.range_succ, List.filter_append, List.filter_cons]
  split <;> simp
theorem rowL_lt {c : Nat} {ms : List Nat} {i : Int} {n j : Nat} (h : j ∈ rowL c ms i n) : j < n := by
  simp only [rowL, List.mem_filter, List.mem_range] at h
  exact h.1
theorem rowL_len (c : Nat) (ms : List Nat) (i : Int) (n : Nat) : (rowL c ms i n).length ≤ n := by
  have := List.length_filter_le (fun (j : Nat) => elemB c ms i (j : Int)) (List.range n)
  simpa [rowL] using this
theorem row44_spec {X : PMap} {v : Value} {c : Nat} {ms : List Nat} (h : M44R X v c ms) (i : Int) (hc : c < 64) : Spec Tryd.prog 83 [v, .int .i64 i] X fun u X' => SliceR X' u (rowL c ms i c).length (ints (rowL c ms i c)) := by
  have hh := h
  obtain ⟨s, cs, rfl, hS, hl, hrow⟩ := h
  obtain ⟨As, cps, rfl⟩ := hS.form
  refine Spec.enter Tryd.func83 rfl Tryd.ntmps83 rfl ?_
  intro w0 hw0
  refine T.seq ?_
  refine T.region ?_
  refine SL.x (op_box rfl) rfl rfl ?_
  rintro _ _ _ ⟨B2, rfl, rfl, rfl⟩
  refine SL.y (op_assign rfl) rfl rfl ?_
  refine SL.nil ?_
  refine T.seq ?_
  refine T.region ?_
  refine SL.y (op_assign rfl) rfl rfl ?_
  refine SL.nil ?_
  refine T.seq ?_
  refine T.seq ?_
  refine T.region ?_
  refine SL.y (op_assign (v := .int .i64 ((0 : Nat) : Int)) rfl) rfl rfl ?_
  refine SL.nil ?_
  refine T.block ?_
  -- loop live [1, 2, 4, 5, 6]
  refine T.loopW (fun m env own X' => ∃ (k : Nat) (s : Value) (G : Own), m = c - k ∧ k ≤ c ∧ X.le X' ∧ GrowS 3 1 s (rowL c ms i k).length (ints (rowL c ms i k)) G ∧ env = [(1, .int .i64 i), (2, .pointer (some ⟨B2, 0, none⟩)), (5, s), (6, .int .i64 (k : Int))] ∧ own = ⟨B2, [.int .i64 (c : Int), .slice As ms.length cps], 91, 2⟩ :: G) c ⟨0, _, _, by simp, by omega, PMap.le_refl _, GrowS.nil, rfl, rfl⟩ (by repeat (first | exact Sub.nil | refine Sub.cons rfl ?_)) ?_
  rintro m _ _ X1 ⟨k, s, G, rfl, hk, hX1, hG, rfl, rfl⟩
  have hcl := rowL_len c ms i k
  rcases Nat.lt_or_ge k c with hkl | hkl
  · skip
    refine T.seq ?_
    refine T.seq ?_
    refine T.region ?_
    refine SL.y (op_move rfl) rfl rfl ?_
    refine SL.y (op_fieldAddr fa91_0 rfl) rfl rfl ?_
    first | refine SL.y (op_load ty3 rfl (by repeat (first | exact AtO.here | apply AtO.there)) rfl) rfl rfl ?_ | refine SL.y (op_loadX ty3 rfl (by assumption) rfl) rfl rfl ?_
    first | refine SL.y (op_lssT rfl rfl (by omega)) rfl rfl ?_ | refine SL.y (op_lssF rfl rfl (by omega)) rfl rfl ?_ | refine SL.y (op_lss rfl rfl) rfl rfl ?_
    refine SL.nil ?_
    refine T.condT rfl ?_
    refine T.skip ?_
    refine T.seq ?_
    refine T.block ?_
    refine T.seq ?_
    refine T.region ?_
    first | refine SL.y (op_load ty91 rfl (by repeat (first | exact AtO.here | apply AtO.there)) rfl) rfl rfl ?_ | refine SL.y (op_loadX ty91 rfl (by assumption) rfl) rfl rfl ?_
    refine SL.y (op_move rfl) rfl rfl ?_
    refine SL.y (op_move rfl) rfl rfl ?_
    -- op
    refine SL.x (op_callF en96 (vs := [_, _, _]) rfl (has44_spec (hh.mono hX1) i (k : Int))) rfl rfl ?_
    rintro _ _ X3 ⟨rfl, hX3, rfl⟩
    cases hel : elemB c ms i (k : Int) with
    | true =>
      refine SL.nil ?_
      refine T.condT rfl ?_
      refine T.region ?_
      refine SL.y (op_move rfl) rfl rfl ?_
      refine SL.y (op_move rfl) rfl rfl ?_
      refine SL.x (op_buildSlice Tryd.underlying73 bs3 (qs := [(0, _)]) rfl rfl rfl rfl rfl) rfl rfl ?_
      rintro _ _ _ ⟨B19, rfl, rfl, rfl⟩
      -- op
      refine SL.x (op_appendG (own0 := [_]) sl73 rfl hG rfl rfl rfl (by (have : maxLen = 9223372036854775807 := rfl); omega) (by omega)) rfl rfl ?_
      rintro s' _ _ ⟨G', rfl, rfl, hG'⟩
      refine SL.y (op_assign rfl) rfl rfl ?_
      refine SL.nil ?_
      refine T.blk ?_
      refine T.region ?_
      refine SL.y (op_move rfl) rfl rfl ?_
      first | refine SL.y (op_addN (q := 1) rfl rfl (by omega)) rfl rfl ?_ | refine SL.y (op_add rfl rfl (by omega) (by omega)) rfl rfl ?_ | refine SL.y (op_addW rfl rfl) rfl rfl ?_
      refine SL.y (op_assign rfl) rfl rfl ?_
      refine SL.nil ?_
      -- cut
      exact T.backW (c - (k + 1)) (by omega) ⟨k + 1, s', G', rfl, by omega, hX1.trans' hX3, by rw [rowL_succ, hel]; simpa [ints, csets, vcells] using hG', rfl, rfl⟩ (by repeat (first | exact Sub.nil | refine Sub.cons rfl ?_))
    | false =>
      refine SL.nil ?_
      refine T.condF rfl ?_
      refine T.skip ?_
      refine T.blk ?_
      refine T.region ?_
      refine SL.y (op_move rfl) rfl rfl ?_
      first | refine SL.y (op_addN (q := 1) rfl rfl (by omega)) rfl rfl ?_ | refine SL.y (op_add rfl rfl (by omega) (by omega)) rfl rfl ?_ | refine SL.y (op_addW rfl rfl) rfl rfl ?_
      refine SL.y (op_assign rfl) rfl rfl ?_
      refine SL.nil ?_
      -- cut
      exact T.backW (c - (k + 1)) (by omega) ⟨k + 1, s, G, rfl, by omega, hX1.trans' hX3, by rw [rowL_succ, hel]; exact hG, rfl, rfl⟩ (by repeat (first | exact Sub.nil | refine Sub.cons rfl ?_))
  · obtain rfl : k = c := by omega
    refine T.seq ?_
    refine T.seq ?_
    refine T.region ?_
    refine SL.y (op_move rfl) rfl rfl ?_
    refine SL.y (op_fieldAddr fa91_0 rfl) rfl rfl ?_
    first | refine SL.y (op_load ty3 rfl (by repeat (first | exact AtO.here | apply AtO.there)) rfl) rfl rfl ?_ | refine SL.y (op_loadX ty3 rfl (by assumption) rfl) rfl rfl ?_
    first | refine SL.y (op_lssT rfl rfl (by omega)) rfl rfl ?_ | refine SL.y (op_lssF rfl rfl (by omega)) rfl rfl ?_ | refine SL.y (op_lss rfl rfl) rfl rfl ?_
    refine SL.nil ?_
    refine T.condF rfl ?_
    refine T.exit (T.exitCode (T.exitCut (T.exitBlk ?_)))
    refine T.seq ?_
    refine T.region ?_
    refine SL.y (op_move rfl) rfl rfl ?_
    refine SL.y (op_assign rfl) rfl rfl ?_
    refine SL.nil ?_
    -- ret
    refine T.pubG (own0 := [_]) hG ?_
    intro X3 hX3 hS3
    refine T.ret1 rfl (ResIs.tmp rfl) ?_
    exact hS3
end Go.Proofs.YtoheffglppbcbaaDoor
