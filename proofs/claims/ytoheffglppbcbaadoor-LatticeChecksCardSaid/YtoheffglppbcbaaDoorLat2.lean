/- COMPUTING WITH A LATTICE: order, joins, meets, ends. -/
import Derived.Test.YtoheffglppbcbaaDoorLat
namespace Go.Proofs.YtoheffglppbcbaaDoor
section
set_option maxRecDepth 100000
theorem en19 : Enters Tryd.prog 19 := enters_mk Tryd.func19 (by kernel_rfl) rfl
theorem en26 : Enters Tryd.prog 26 := enters_mk Tryd.func26 (by kernel_rfl) rfl
theorem en31 : Enters Tryd.prog 31 := enters_mk Tryd.func31 (by kernel_rfl) rfl
theorem en34 : Enters Tryd.prog 34 := enters_mk Tryd.func34 (by kernel_rfl) rfl
theorem fa49_0 : FAdr Tryd.prog 49 0 0 := fadr_mk Tryd.underlying49 rfl rfl (by kernel_rfl)
theorem fa96_0 : FAdr Tryd.prog 96 0 0 := fadr_mk Tryd.underlying96 rfl rfl (by kernel_rfl)
end
open Go.RowKit
def withinB (a b : Nat) : Bool := decide (a &&& (18446744073709551615 - b) = 0)
def leqM (l : List (Nat × Nat)) (i j : Int) : Bool := inB l.length i && inB l.length j && withinB (atM l i).1 (atM l j).1
theorem atM_nat {l : List (Nat × Nat)} {a : Nat} (ha : a < l.length) : atM l (a : Int) = l[a] := by simp [atM, inB, ha]
theorem leq_spec {X : PMap} {v : Value} {c : Nat} {ms : List Nat} {l : List (Nat × Nat)} (h : LatN X v c ms l) (i j : Int) : Spec Tryd.prog 19 [v, .int .i64 i, .int .i64 j] X fun u _ => u = .bool (leqM l i j) := by
  cases hi : inB l.length i with
  | false =>
    refine Spec.enter Tryd.func19 rfl Tryd.ntmps19 rfl ?_
    intro w0 hw0
    refine T.seq ?_
    refine T.region ?_
    refine SL.y (op_assign rfl) rfl rfl ?_
    refine SL.nil ?_
    refine T.seq ?_
    refine T.draw (by kernel_rfl) 28 [.t 0, .t 1, .r 2, .t 3, .t 4, .t 5, .r 6, .t 7, .t 8, .t 9, .t 10, .t 11, .t 12, .t 13, .t 14, .t 15, .t 16, .t 17, .t 18, .t 19, .t 20, .t 21, .t 22, .t 23, .t 24, .r 25, .t 26, .t 27] (by kernel_rfl) ?_
    refine SD.take rfl panicBody (op_move rfl) rfl rfl ?_
    refine SD.take rfl panicBody (op_move rfl) rfl rfl ?_
    -- op
    refine SD.run rfl (op_callF en60 (vs := [_, _]) rfl (lin_spec h i)) rfl rfl ?_
    rintro _ _ X1 ⟨rfl, hX1, rfl⟩
    rw [hi]
    refine SD.take rfl panicBody (op_move rfl) rfl rfl ?_
    first | refine SD.skip rfl panicBody rfl rfl ?_ | refine SD.take rfl panicBody (op_move rfl) rfl rfl ?_
    first | refine SD.skip rfl panicBody rfl rfl ?_ | refine SD.take rfl panicBody (op_move rfl) rfl rfl ?_
    -- op
    refine SD.skipF rfl rfl rfl ?_
    first | refine SD.take rfl panicBody (op_pickT rfl rfl) rfl rfl ?_ | refine SD.take rfl panicBody (op_pickF rfl rfl) rfl rfl ?_ | refine SD.take rfl panicBody (op_pickB rfl rfl rfl) rfl rfl ?_
    refine SD.take rfl panicBody (op_move rfl) rfl rfl ?_
    first | refine SD.skip rfl panicBody rfl rfl ?_ | refine SD.take rfl panicBody (op_move rfl) rfl rfl ?_
    first | refine SD.skip rfl panicBody rfl rfl ?_ | refine SD.take rfl panicBody (op_nil rfl) rfl rfl ?_ | refine SD.take rfl panicBody (op_nilFn rfl) rfl rfl ?_
    first | refine SD.skip rfl panicBody rfl rfl ?_ | refine SD.take rfl panicBody (op_fieldAddr fa96_1 rfl) rfl rfl ?_
    first | refine SD.skip rfl panicBody rfl rfl ?_ | refine SD.take rfl panicBody (op_load ty80 rfl (by repeat (first | exact AtO.here | apply AtO.there)) rfl) rfl rfl ?_ | refine SD.take rfl panicBody (op_loadX ty80 rfl (by assumption) rfl) rfl rfl ?_
    first | refine SD.skip rfl panicBody rfl rfl ?_ | refine SD.take rfl panicBody (op_move rfl) rfl rfl ?_
    first | refine SD.skip rfl panicBody rfl rfl ?_ | refine SD.take rfl panicBody (op_indexN Tryd.underlying80 ty49 rfl rfl (by omega)) rfl rfl ?_ | refine SD.take rfl panicBody (op_index Tryd.underlying80 ty49 rfl rfl (by omega) (by omega)) rfl rfl ?_
    first | refine SD.skip rfl panicBody rfl rfl ?_ | refine SD.take rfl panicBody (op_fieldAddr fa49_0 rfl) rfl rfl ?_
    first | refine SD.skip rfl panicBody rfl rfl ?_ | refine SD.take rfl panicBody (op_load ty47 rfl (by repeat (first | exact AtO.here | apply AtO.there)) rfl) rfl rfl ?_ | refine SD.take rfl panicBody (op_loadX ty47 rfl (by assumption) rfl) rfl rfl ?_
    first | refine SD.skip rfl panicBody rfl rfl ?_ | refine SD.take rfl panicBody (op_move rfl) rfl rfl ?_
    first | refine SD.skip rfl panicBody rfl rfl ?_ | refine SD.take rfl panicBody (op_nil rfl) rfl rfl ?_ | refine SD.take rfl panicBody (op_nilFn rfl) rfl rfl ?_
    first | refine SD.skip rfl panicBody rfl rfl ?_ | refine SD.take rfl panicBody (op_fieldAddr fa96_1 rfl) rfl rfl ?_
    first | refine SD.skip rfl panicBody rfl rfl ?_ | refine SD.take rfl panicBody (op_load ty80 rfl (by repeat (first | exact AtO.here | apply AtO.there)) rfl) rfl rfl ?_ | refine SD.take rfl panicBody (op_loadX ty80 rfl (by assumption) rfl) rfl rfl ?_
    first | refine SD.skip rfl panicBody rfl rfl ?_ | refine SD.take rfl panicBody (op_move rfl) rfl rfl ?_
    first | refine SD.skip rfl panicBody rfl rfl ?_ | refine SD.take rfl panicBody (op_indexN Tryd.underlying80 ty49 rfl rfl (by omega)) rfl rfl ?_ | refine SD.take rfl panicBody (op_index Tryd.underlying80 ty49 rfl rfl (by omega) (by omega)) rfl rfl ?_
    first | refine SD.skip rfl panicBody rfl rfl ?_ | refine SD.take rfl panicBody (op_fieldAddr fa49_0 rfl) rfl rfl ?_
    first | refine SD.skip rfl panicBody rfl rfl ?_ | refine SD.take rfl panicBody (op_load ty47 rfl (by repeat (first | exact AtO.here | apply AtO.there)) rfl) rfl rfl ?_ | refine SD.take rfl panicBody (op_loadX ty47 rfl (by assumption) rfl) rfl rfl ?_
    -- op
    refine SD.skipF rfl rfl rfl ?_
    first | refine SD.take rfl panicBody (op_pickT rfl rfl) rfl rfl ?_ | refine SD.take rfl panicBody (op_pickF rfl rfl) rfl rfl ?_ | refine SD.take rfl panicBody (op_pickB rfl rfl rfl) rfl rfl ?_
    refine SD.take rfl panicBody (op_assign rfl) rfl rfl ?_
    refine SD.nil ?_
    show SL _ _ _ _ _ _ _ [] _ _ _
    refine SL.nil ?_
    -- ret
    refine T.ret1 rfl (ResIs.tmp rfl) ?_
    simp [leqM, hi]
  | true =>
    cases hj : inB l.length j with
    | false =>
      refine Spec.enter Tryd.func19 rfl Tryd.ntmps19 rfl ?_
      intro w0 hw0
      refine T.seq ?_
      refine T.region ?_
      refine SL.y (op_assign rfl) rfl rfl ?_
      refine SL.nil ?_
      refine T.seq ?_
      refine T.draw (by kernel_rfl) 28 [.t 0, .t 1, .r 2, .t 3, .t 4, .t 5, .r 6, .t 7, .t 8, .t 9, .t 10, .t 11, .t 12, .t 13, .t 14, .t 15, .t 16, .t 17, .t 18, .t 19, .t 20, .t 21, .t 22, .t 23, .t 24, .r 25, .t 26, .t 27] (by kernel_rfl) ?_
      refine SD.take rfl panicBody (op_move rfl) rfl rfl ?_
      refine SD.take rfl panicBody (op_move rfl) rfl rfl ?_
      -- op
      refine SD.run rfl (op_callF en60 (vs := [_, _]) rfl (lin_spec h i)) rfl rfl ?_
      rintro _ _ X1 ⟨rfl, hX1, rfl⟩
      rw [hi]
      refine SD.take rfl panicBody (op_move rfl) rfl rfl ?_
      first | refine SD.skip rfl panicBody rfl rfl ?_ | refine SD.take rfl panicBody (op_move rfl) rfl rfl ?_
      first | refine SD.skip rfl panicBody rfl rfl ?_ | refine SD.take rfl panicBody (op_move rfl) rfl rfl ?_
      -- op
      refine SD.run rfl (op_callF en60 (vs := [_, _]) rfl (lin_spec (h.mono hX1) j)) rfl rfl ?_
      rintro _ _ X2 ⟨rfl, hX2, rfl⟩
      rw [hj]
      first | refine SD.take rfl panicBody (op_pickT rfl rfl) rfl rfl ?_ | refine SD.take rfl panicBody (op_pickF rfl rfl) rfl rfl ?_ | refine SD.take rfl panicBody (op_pickB rfl rfl rfl) rfl rfl ?_
      refine SD.take rfl panicBody (op_move rfl) rfl rfl ?_
      first | refine SD.skip rfl panicBody rfl rfl ?_ | refine SD.take rfl panicBody (op_move rfl) rfl rfl ?_
      first | refine SD.skip rfl panicBody rfl rfl ?_ | refine SD.take rfl panicBody (op_nil rfl) rfl rfl ?_ | refine SD.take rfl panicBody (op_nilFn rfl) rfl rfl ?_
      first | refine SD.skip rfl panicBody rfl rfl ?_ | refine SD.take rfl panicBody (op_fieldAddr fa96_1 rfl) rfl rfl ?_
      first | refine SD.skip rfl panicBody rfl rfl ?_ | refine SD.take rfl panicBody (op_load ty80 rfl (by repeat (first | exact AtO.here | apply AtO.there)) rfl) rfl rfl ?_ | refine SD.take rfl panicBody (op_loadX ty80 rfl (by assumption) rfl) rfl rfl ?_
      first | refine SD.skip rfl panicBody rfl rfl ?_ | refine SD.take rfl panicBody (op_move rfl) rfl rfl ?_
      first | refine SD.skip rfl panicBody rfl rfl ?_ | refine SD.take rfl panicBody (op_indexN Tryd.underlying80 ty49 rfl rfl (by omega)) rfl rfl ?_ | refine SD.take rfl panicBody (op_index Tryd.underlying80 ty49 rfl rfl (by omega) (by omega)) rfl rfl ?_
      first | refine SD.skip rfl panicBody rfl rfl ?_ | refine SD.take rfl panicBody (op_fieldAddr fa49_0 rfl) rfl rfl ?_
      first | refine SD.skip rfl panicBody rfl rfl ?_ | refine SD.take rfl panicBody (op_load ty47 rfl (by repeat (first | exact AtO.here | apply AtO.there)) rfl) rfl rfl ?_ | refine SD.take rfl panicBody (op_loadX ty47 rfl (by assumption) rfl) rfl rfl ?_
      first | refine SD.skip rfl panicBody rfl rfl ?_ | refine SD.take rfl panicBody (op_move rfl) rfl rfl ?_
      first | refine SD.skip rfl panicBody rfl rfl ?_ | refine SD.take rfl panicBody (op_nil rfl) rfl rfl ?_ | refine SD.take rfl panicBody (op_nilFn rfl) rfl rfl ?_
      first | refine SD.skip rfl panicBody rfl rfl ?_ | refine SD.take rfl panicBody (op_fieldAddr fa96_1 rfl) rfl rfl ?_
      first | refine SD.skip rfl panicBody rfl rfl ?_ | refine SD.take rfl panicBody (op_load ty80 rfl (by repeat (first | exact AtO.here | apply AtO.there)) rfl) rfl rfl ?_ | refine SD.take rfl panicBody (op_loadX ty80 rfl (by assumption) rfl) rfl rfl ?_
      first | refine SD.skip rfl panicBody rfl rfl ?_ | refine SD.take rfl panicBody (op_move rfl) rfl rfl ?_
      first | refine SD.skip rfl panicBody rfl rfl ?_ | refine SD.take rfl panicBody (op_indexN Tryd.underlying80 ty49 rfl rfl (by omega)) rfl rfl ?_ | refine SD.take rfl panicBody (op_index Tryd.underlying80 ty49 rfl rfl (by omega) (by omega)) rfl rfl ?_
      first | refine SD.skip rfl panicBody rfl rfl ?_ | refine SD.take rfl panicBody (op_fieldAddr fa49_0 rfl) rfl rfl ?_
      first | refine SD.skip rfl panicBody rfl rfl ?_ | refine SD.take rfl panicBody (op_load ty47 rfl (by repeat (first | exact AtO.here | apply AtO.there)) rfl) rfl rfl ?_ | refine SD.take rfl panicBody (op_loadX ty47 rfl (by assumption) rfl) rfl rfl ?_
      -- op
      refine SD.skipF rfl rfl rfl ?_
      first | refine SD.take rfl panicBody (op_pickT rfl rfl) rfl rfl ?_ | refine SD.take rfl panicBody (op_pickF rfl rfl) rfl rfl ?_ | refine SD.take rfl panicBody (op_pickB rfl rfl rfl) rfl rfl ?_
      refine SD.take rfl panicBody (op_assign rfl) rfl rfl ?_
      refine SD.nil ?_
      show SL _ _ _ _ _ _ _ [] _ _ _
      refine SL.nil ?_
      -- ret
      refine T.ret1 rfl (ResIs.tmp rfl) ?_
      simp [leqM, hi, hj]
    | true =>
      obtain ⟨a, ha, b, br, cap, cs, pm, x, y, rfl, rfl, hB, hBr, hM, hx, hy, hsx, hsy⟩ := h.inside hi
      obtain ⟨a', ha', b', br', cap', cs', pm', x', y', rfl, he, hB', hBr', hM', hx', hy', hsx', hsy'⟩ := h.inside hj
      obtain rfl : b = b' := by simpa using he
      have e1 := atM_nat ha
      have e2 := atM_nat ha'
      refine Spec.enter Tryd.func19 rfl Tryd.ntmps19 rfl ?_
      intro w0 hw0
      refine T.seq ?_
      refine T.region ?_
      refine SL.y (op_assign rfl) rfl rfl ?_
      refine SL.nil ?_
      refine T.seq ?_
      refine T.draw (by kernel_rfl) 28 [.t 0, .t 1, .r 2, .t 3, .t 4, .t 5, .r 6, .t 7, .t 8, .t 9, .t 10, .t 11, .t 12, .t 13, .t 14, .t 15, .t 16, .t 17, .t 18, .t 19, .t 20, .t 21, .t 22, .t 23, .t 24, .r 25, .t 26, .t 27] (by kernel_rfl) ?_
      refine SD.take rfl panicBody (op_move rfl) rfl rfl ?_
      refine SD.take rfl panicBody (op_move rfl) rfl rfl ?_
      -- op
      refine SD.run rfl (op_callF en60 (vs := [_, _]) rfl (lin_spec h (a : Int))) rfl rfl ?_
      rintro _ _ X1 ⟨rfl, hX1, rfl⟩
      rw [hi]
      refine SD.take rfl panicBody (op_move rfl) rfl rfl ?_
      first | refine SD.skip rfl panicBody rfl rfl ?_ | refine SD.take rfl panicBody (op_move rfl) rfl rfl ?_
      first | refine SD.skip rfl panicBody rfl rfl ?_ | refine SD.take rfl panicBody (op_move rfl) rfl rfl ?_
      -- op
      refine SD.run rfl (op_callF en60 (vs := [_, _]) rfl (lin_spec (h.mono hX1) (a' : Int))) rfl rfl ?_
      rintro _ _ X2 ⟨rfl, hX2, rfl⟩
      rw [hj]
      first | refine SD.take rfl panicBody (op_pickT rfl rfl) rfl rfl ?_ | refine SD.take rfl panicBody (op_pickF rfl rfl) rfl rfl ?_ | refine SD.take rfl panicBody (op_pickB rfl rfl rfl) rfl rfl ?_
      refine SD.take rfl panicBody (op_move rfl) rfl rfl ?_
      first | refine SD.skip rfl panicBody rfl rfl ?_ | refine SD.take rfl panicBody (op_move rfl) rfl rfl ?_
      first | refine SD.skip rfl panicBody rfl rfl ?_ | refine SD.take rfl panicBody (op_nil rfl) rfl rfl ?_ | refine SD.take rfl panicBody (op_nilFn rfl) rfl rfl ?_
      first | refine SD.skip rfl panicBody rfl rfl ?_ | refine SD.take rfl panicBody (op_fieldAddr fa96_1 rfl) rfl rfl ?_
      -- to 19: op
      refine SD.take rfl panicBody (op_loadX ty80 rfl hB rfl) rfl rfl ?_
      first | refine SD.skip rfl panicBody rfl rfl ?_ | refine SD.take rfl panicBody (op_move rfl) rfl rfl ?_
      first | refine SD.skip rfl panicBody rfl rfl ?_ | refine SD.take rfl panicBody (op_indexN Tryd.underlying80 ty49 rfl rfl (by omega)) rfl rfl ?_ | refine SD.take rfl panicBody (op_index Tryd.underlying80 ty49 rfl rfl (by omega) (by omega)) rfl rfl ?_
      first | refine SD.skip rfl panicBody rfl rfl ?_ | refine SD.take rfl panicBody (op_fieldAddr fa49_0 rfl) rfl rfl ?_
      -- to 23: op
      refine SD.take rfl panicBody (op_loadX ty47 rfl hBr (creadRk hx (by omega))) rfl rfl ?_
      first | refine SD.skip rfl panicBody rfl rfl ?_ | refine SD.take rfl panicBody (op_move rfl) rfl rfl ?_
      first | refine SD.skip rfl panicBody rfl rfl ?_ | refine SD.take rfl panicBody (op_nil rfl) rfl rfl ?_ | refine SD.take rfl panicBody (op_nilFn rfl) rfl rfl ?_
      first | refine SD.skip rfl panicBody rfl rfl ?_ | refine SD.take rfl panicBody (op_fieldAddr fa96_1 rfl) rfl rfl ?_
      -- to 27: op
      refine SD.take rfl panicBody (op_loadX ty80 rfl hB' rfl) rfl rfl ?_
      first | refine SD.skip rfl panicBody rfl rfl ?_ | refine SD.take rfl panicBody (op_move rfl) rfl rfl ?_
      first | refine SD.skip rfl panicBody rfl rfl ?_ | refine SD.take rfl panicBody (op_indexN Tryd.underlying80 ty49 rfl rfl (by omega)) rfl rfl ?_ | refine SD.take rfl panicBody (op_index Tryd.underlying80 ty49 rfl rfl (by omega) (by omega)) rfl rfl ?_
      first | refine SD.skip rfl panicBody rfl rfl ?_ | refine SD.take rfl panicBody (op_fieldAddr fa49_0 rfl) rfl rfl ?_
      -- to 31: op
      refine SD.take rfl panicBody (op_loadX ty47 rfl hBr' (creadRk hx' (by omega))) rfl rfl ?_
      -- op
      refine SD.run rfl (op_callF en26 (vs := [_, _]) rfl (within_spec ((hsx.mono hX1).mono hX2) ((hsx'.mono hX1).mono hX2))) rfl rfl ?_
      rintro _ _ X3 ⟨rfl, hX3, rfl⟩
      first | refine SD.take rfl panicBody (op_pickT rfl rfl) rfl rfl ?_ | refine SD.take rfl panicBody (op_pickF rfl rfl) rfl rfl ?_ | refine SD.take rfl panicBody (op_pickB rfl rfl rfl) rfl rfl ?_
      refine SD.take rfl panicBody (op_assign rfl) rfl rfl ?_
      refine SD.nil ?_
      show SL _ _ _ _ _ _ _ [] _ _ _
      refine SL.nil ?_
      -- ret
      refine T.ret1 rfl (ResIs.tmp rfl) ?_
      simp [leqM, hi, hj, e1, e2, withinB]
def lessM (l : List (Nat × Nat)) (i j : Int) : Bool := decide (i ≠ j) && leqM l i j
theorem less_spec {X : PMap} {v : Value} {c : Nat} {ms : List Nat} {l : List (Nat × Nat)} (h : LatN X v c ms l) (i j : Int) : Spec Tryd.prog 63 [v, .int .i64 i, .int .i64 j] X fun u _ => u = .bool (lessM l i j) := by
  by_cases he : i = j
  · refine Spec.enter Tryd.func63 rfl Tryd.ntmps63 rfl ?_
    intro w0 hw0
    refine T.seq ?_
    refine T.region ?_
    refine SL.y (op_assign rfl) rfl rfl ?_
    refine SL.nil ?_
    refine T.seq ?_
    refine T.region ?_
    refine SL.y (op_move rfl) rfl rfl ?_
    refine SL.y (op_move rfl) rfl rfl ?_
    first | refine SL.y (op_neqT rfl rfl (by omega)) rfl rfl ?_ | refine SL.y (op_neqF rfl rfl (by omega)) rfl rfl ?_ | refine SL.y (op_neq rfl rfl) rfl rfl ?_
    refine SL.y (op_move rfl) rfl rfl ?_
    first | refine SL.skip rfl rfl ?_ | refine SL.y (op_move rfl) rfl rfl ?_
    first | refine SL.skip rfl rfl ?_ | refine SL.y (op_move rfl) rfl rfl ?_
    first | refine SL.skip rfl rfl ?_ | refine SL.y (op_move rfl) rfl rfl ?_
    -- op
    refine SL.skip rfl rfl ?_
    first | refine SL.y (op_pickT rfl rfl) rfl rfl ?_ | refine SL.y (op_pickF rfl rfl) rfl rfl ?_ | refine SL.y (op_pickB rfl rfl rfl) rfl rfl ?_
    refine SL.y (op_assign rfl) rfl rfl ?_
    refine SL.nil ?_
    -- ret
    refine T.ret1 rfl (ResIs.tmp rfl) ?_
    simp [lessM, he]
  · refine Spec.enter Tryd.func63 rfl Tryd.ntmps63 rfl ?_
    intro w0 hw0
    refine T.seq ?_
    refine T.region ?_
    refine SL.y (op_assign rfl) rfl rfl ?_
    refine SL.nil ?_
    refine T.seq ?_
    refine T.region ?_
    refine SL.y (op_move rfl) rfl rfl ?_
    refine SL.y (op_move rfl) rfl rfl ?_
    first | refine SL.y (op_neqT rfl rfl (by omega)) rfl rfl ?_ | refine SL.y (op_neqF rfl rfl (by omega)) rfl rfl ?_ | refine SL.y (op_neq rfl rfl) rfl rfl ?_
    refine SL.y (op_move rfl) rfl rfl ?_
    first | refine SL.skip rfl rfl ?_ | refine SL.y (op_move rfl) rfl rfl ?_
    first | refine SL.skip rfl rfl ?_ | refine SL.y (op_move rfl) rfl rfl ?_
    first | refine SL.skip rfl rfl ?_ | refine SL.y (op_move rfl) rfl rfl ?_
    -- op
    refine SL.x (op_callF en19 (vs := [_, _, _]) rfl (leq_spec h i j)) rfl rfl ?_
    rintro _ _ X1 ⟨rfl, hX1, rfl⟩
    first | refine SL.y (op_pickT rfl rfl) rfl rfl ?_ | refine SL.y (op_pickF rfl rfl) rfl rfl ?_ | refine SL.y (op_pickB rfl rfl rfl) rfl rfl ?_
    refine SL.y (op_assign rfl) rfl rfl ?_
    refine SL.nil ?_
    -- ret
    refine T.ret1 rfl (ResIs.tmp rfl) ?_
    simp [lessM, he]
/-- What an index says: its number, and whether there is one. -/
def optV (o : Option Nat) : Value := .tuple #[.int .i64 ((o.getD 0 : Nat) : Int), .bool o.isSome]
def joinM (l : List (Nat × Nat)) (i j : Int) : Option Nat := if inB l.length i && inB l.length j then idxM l ((atM l i).2 &&& (atM l j).2) else none
def meetM (c : Nat) (ms : List Nat) (l : List (Nat × Nat)) (i j : Int) : Option Nat := if inB l.length i && inB l.length j then idxM l (clo c ms ((atM l i).2 ||| (atM l j).2)) else none
theorem join_spec {X : PMap} {v : Value} {c : Nat} {ms : List Nat} {l : List (Nat × Nat)} (h : LatN X v c ms l) (i j : Int) : Spec Tryd.prog 17 [v, .int .i64 i, .int .i64 j] X fun u _ => u = optV (joinM l i j) := by
  cases hi : inB l.length i with
  | false =>
    refine Spec.enter Tryd.func17 rfl Tryd.ntmps17 rfl ?_
    intro w0 hw0
    refine T.seq ?_
    refine T.region ?_
    refine SL.y (op_assign (v := .int .i64 ((0 : Nat) : Int)) rfl) rfl rfl ?_
    refine SL.y (op_assign rfl) rfl rfl ?_
    refine SL.nil ?_
    refine T.seq ?_
    refine T.seq ?_
    refine T.region ?_
    refine SL.y (op_move rfl) rfl rfl ?_
    refine SL.y (op_move rfl) rfl rfl ?_
    -- op
    refine SL.x (op_callF en60 (vs := [_, _]) rfl (lin_spec h i)) rfl rfl ?_
    rintro _ _ X1 ⟨rfl, hX1, rfl⟩
    rw [hi]
    refine SL.y (op_not rfl) rfl rfl ?_
    refine SL.y (op_move rfl) rfl rfl ?_
    first | refine SL.skip rfl rfl ?_ | refine SL.y (op_move rfl) rfl rfl ?_
    first | refine SL.skip rfl rfl ?_ | refine SL.y (op_move rfl) rfl rfl ?_
    -- op
    refine SL.skip rfl rfl ?_
    first | refine SL.skip rfl rfl ?_ | refine SL.y (op_not rfl) rfl rfl ?_
    first | refine SL.y (op_pickT rfl rfl) rfl rfl ?_ | refine SL.y (op_pickF rfl rfl) rfl rfl ?_ | refine SL.y (op_pickB rfl rfl rfl) rfl rfl ?_
    refine SL.nil ?_
    refine T.condT rfl ?_
    refine T.seq ?_
    refine T.region ?_
    refine SL.y (op_assign (v := .int .i64 ((0 : Nat) : Int)) rfl) rfl rfl ?_
    refine SL.y (op_assign rfl) rfl rfl ?_
    refine SL.nil ?_
    -- ret
    refine T.ret2 rfl (ResIs.tmp rfl) (ResIs.tmp rfl) ?_
    simp [joinM, hi, optV]
  | true =>
    cases hj : inB l.length j with
    | false =>
      refine Spec.enter Tryd.func17 rfl Tryd.ntmps17 rfl ?_
      intro w0 hw0
      refine T.seq ?_
      refine T.region ?_
      refine SL.y (op_assign (v := .int .i64 ((0 : Nat) : Int)) rfl) rfl rfl ?_
      refine SL.y (op_assign rfl) rfl rfl ?_
      refine SL.nil ?_
      refine T.seq ?_
      refine T.seq ?_
      refine T.region ?_
      refine SL.y (op_move rfl) rfl rfl ?_
      refine SL.y (op_move rfl) rfl rfl ?_
      -- op
      refine SL.x (op_callF en60 (vs := [_, _]) rfl (lin_spec h i)) rfl rfl ?_
      rintro _ _ X1 ⟨rfl, hX1, rfl⟩
      rw [hi]
      refine SL.y (op_not rfl) rfl rfl ?_
      refine SL.y (op_move rfl) rfl rfl ?_
      first | refine SL.skip rfl rfl ?_ | refine SL.y (op_move rfl) rfl rfl ?_
      first | refine SL.skip rfl rfl ?_ | refine SL.y (op_move rfl) rfl rfl ?_
      -- op
      refine SL.x (op_callF en60 (vs := [_, _]) rfl (lin_spec (h.mono hX1) j)) rfl rfl ?_
      rintro _ _ X2 ⟨rfl, hX2, rfl⟩
      rw [hj]
      first | refine SL.skip rfl rfl ?_ | refine SL.y (op_not rfl) rfl rfl ?_
      first | refine SL.y (op_pickT rfl rfl) rfl rfl ?_ | refine SL.y (op_pickF rfl rfl) rfl rfl ?_ | refine SL.y (op_pickB rfl rfl rfl) rfl rfl ?_
      refine SL.nil ?_
      refine T.condT rfl ?_
      refine T.seq ?_
      refine T.region ?_
      refine SL.y (op_assign (v := .int .i64 ((0 : Nat) : Int)) rfl) rfl rfl ?_
      refine SL.y (op_assign rfl) rfl rfl ?_
      refine SL.nil ?_
      -- ret
      refine T.ret2 rfl (ResIs.tmp rfl) (ResIs.tmp rfl) ?_
      simp [joinM, hi, hj, optV]
    | true =>
      obtain ⟨a, ha, b, br, cap, cs, pm, x, y, rfl, rfl, hB, hBr, hM, hx, hy, hsx, hsy⟩ := h.inside hi
      obtain ⟨a', ha', b', br', cap', cs', pm', x', y', rfl, he, hB', hBr', hM', hx', hy', hsx', hsy'⟩ := h.inside hj
      obtain rfl : b = b' := by simpa using he
      have e1 := atM_nat ha
      have e2 := atM_nat ha'
      refine Spec.enter Tryd.func17 rfl Tryd.ntmps17 rfl ?_
      intro w0 hw0
      refine T.seq ?_
      refine T.region ?_
      refine SL.y (op_assign (v := .int .i64 ((0 : Nat) : Int)) rfl) rfl rfl ?_
      refine SL.y (op_assign rfl) rfl rfl ?_
      refine SL.nil ?_
      refine T.seq ?_
      refine T.seq ?_
      refine T.region ?_
      refine SL.y (op_move rfl) rfl rfl ?_
      refine SL.y (op_move rfl) rfl rfl ?_
      -- op
      refine SL.x (op_callF en60 (vs := [_, _]) rfl (lin_spec h (a : Int))) rfl rfl ?_
      rintro _ _ X1 ⟨rfl, hX1, rfl⟩
      rw [hi]
      refine SL.y (op_not rfl) rfl rfl ?_
      refine SL.y (op_move rfl) rfl rfl ?_
      first | refine SL.skip rfl rfl ?_ | refine SL.y (op_move rfl) rfl rfl ?_
      first | refine SL.skip rfl rfl ?_ | refine SL.y (op_move rfl) rfl rfl ?_
      -- op
      refine SL.x (op_callF en60 (vs := [_, _]) rfl (lin_spec (h.mono hX1) (a' : Int))) rfl rfl ?_
      rintro _ _ X2 ⟨rfl, hX2, rfl⟩
      rw [hj]
      have hBa := (hB.mono hX1).mono hX2
      have hBb := (hBr.mono hX1).mono hX2
      have hBa' := (hB'.mono hX1).mono hX2
      have hBb' := (hBr'.mono hX1).mono hX2
      first | refine SL.skip rfl rfl ?_ | refine SL.y (op_not rfl) rfl rfl ?_
      first | refine SL.y (op_pickT rfl rfl) rfl rfl ?_ | refine SL.y (op_pickF rfl rfl) rfl rfl ?_ | refine SL.y (op_pickB rfl rfl rfl) rfl rfl ?_
      refine SL.nil ?_
      refine T.condF rfl ?_
      refine T.skip ?_
      refine T.seq ?_
      refine T.draw (by kernel_rfl) 23 [.t 0, .t 1, .t 2, .t 3, .t 4, .t 5, .t 6, .t 7, .t 8, .t 9, .t 10, .t 11, .t 12, .t 13, .t 14, .t 15, .t 16, .r 17, .r 18, .t 19, .t 20, .t 21, .t 22] (by kernel_rfl) ?_
      refine SD.take rfl panicBody (op_move rfl) rfl rfl ?_
      refine SD.take rfl panicBody (op_move rfl) rfl rfl ?_
      first | refine SD.take rfl panicBody (op_nil rfl) rfl rfl ?_ | refine SD.take rfl panicBody (op_nilFn rfl) rfl rfl ?_
      refine SD.take rfl panicBody (op_fieldAddr fa96_1 rfl) rfl rfl ?_
      -- to 22: op
      refine SD.take rfl panicBody (op_loadX ty80 rfl hBa rfl) rfl rfl ?_
      refine SD.take rfl panicBody (op_move rfl) rfl rfl ?_
      first | refine SD.take rfl panicBody (op_indexN Tryd.underlying80 ty49 rfl rfl (by omega)) rfl rfl ?_ | refine SD.take rfl panicBody (op_index Tryd.underlying80 ty49 rfl rfl (by omega) (by omega)) rfl rfl ?_
      refine SD.take rfl panicBody (op_fieldAddr fa49_1 rfl) rfl rfl ?_
      -- to 26: op
      refine SD.take rfl panicBody (op_loadX ty47 rfl hBb (creadRk hy (by omega))) rfl rfl ?_
      refine SD.take rfl panicBody (op_move rfl) rfl rfl ?_
      first | refine SD.take rfl panicBody (op_nil rfl) rfl rfl ?_ | refine SD.take rfl panicBody (op_nilFn rfl) rfl rfl ?_
      refine SD.take rfl panicBody (op_fieldAddr fa96_1 rfl) rfl rfl ?_
      -- to 30: op
      refine SD.take rfl panicBody (op_loadX ty80 rfl hBa' rfl) rfl rfl ?_
      refine SD.take rfl panicBody (op_move rfl) rfl rfl ?_
      first | refine SD.take rfl panicBody (op_indexN Tryd.underlying80 ty49 rfl rfl (by omega)) rfl rfl ?_ | refine SD.take rfl panicBody (op_index Tryd.underlying80 ty49 rfl rfl (by omega) (by omega)) rfl rfl ?_
      refine SD.take rfl panicBody (op_fieldAddr fa49_1 rfl) rfl rfl ?_
      -- to 34: op
      refine SD.take rfl panicBody (op_loadX ty47 rfl hBb' (creadRk hy' (by omega))) rfl rfl ?_
      -- op
      refine SD.run rfl (op_callF en61 (vs := [_, _]) rfl (and_spec ((hsy.mono hX1).mono hX2) ((hsy'.mono hX1).mono hX2))) rfl rfl ?_
      rintro _ _ X3 ⟨rfl, hX3, hS3⟩
      -- op
      refine SD.run rfl (op_callF en34 (vs := [_, _]) rfl (lindex_spec (((h.mono hX1).mono hX2).mono hX3) hS3)) rfl rfl ?_
      rintro _ _ X4 ⟨rfl, hX4, rfl⟩
      refine SD.take rfl panicBody (op_extract rfl rfl) rfl rfl ?_
      refine SD.take rfl panicBody (op_extract rfl rfl) rfl rfl ?_
      refine SD.take rfl panicBody (op_assign rfl) rfl rfl ?_
      refine SD.take rfl panicBody (op_assign rfl) rfl rfl ?_
      refine SD.nil ?_
      show SL _ _ _ _ _ _ _ [] _ _ _
      refine SL.nil ?_
      -- ret
      refine T.ret2 rfl (ResIs.tmp rfl) (ResIs.tmp rfl) ?_
      simp [joinM, hi, hj, e1, e2, optV]
theorem meet_spec {X : PMap} (hT : Tab X) {v : Value} {c : Nat} {ms : List Nat} {l : List (Nat × Nat)} (h : LatN X v c ms l) (i j : Int) : Spec Tryd.prog 18 [v, .int .i64 i, .int .i64 j] X fun u _ => u = optV (meetM c ms l i j) := by
  cases hi : inB l.length i with
  | false =>
    refine Spec.enter Tryd.func18 rfl Tryd.ntmps18 rfl ?_
    intro w0 hw0
    refine T.seq ?_
    refine T.region ?_
    refine SL.y (op_assign (v := .int .i64 ((0 : Nat) : Int)) rfl) rfl rfl ?_
    refine SL.y (op_assign rfl) rfl rfl ?_
    refine SL.nil ?_
    refine T.seq ?_
    refine T.seq ?_
    refine T.region ?_
    refine SL.y (op_move rfl) rfl rfl ?_
    refine SL.y (op_move rfl) rfl rfl ?_
    -- op
    refine SL.x (op_callF en60 (vs := [_, _]) rfl (lin_spec h i)) rfl rfl ?_
    rintro _ _ X1 ⟨rfl, hX1, rfl⟩
    rw [hi]
    refine SL.y (op_not rfl) rfl rfl ?_
    refine SL.y (op_move rfl) rfl rfl ?_
    first | refine SL.skip rfl rfl ?_ | refine SL.y (op_move rfl) rfl rfl ?_
    first | refine SL.skip rfl rfl ?_ | refine SL.y (op_move rfl) rfl rfl ?_
    -- op
    refine SL.skip rfl rfl ?_
    first | refine SL.skip rfl rfl ?_ | refine SL.y (op_not rfl) rfl rfl ?_
    first | refine SL.y (op_pickT rfl rfl) rfl rfl ?_ | refine SL.y (op_pickF rfl rfl) rfl rfl ?_ | refine SL.y (op_pickB rfl rfl rfl) rfl rfl ?_
    refine SL.nil ?_
    refine T.condT rfl ?_
    refine T.seq ?_
    refine T.region ?_
    refine SL.y (op_assign (v := .int .i64 ((0 : Nat) : Int)) rfl) rfl rfl ?_
    refine SL.y (op_assign rfl) rfl rfl ?_
    refine SL.nil ?_
    -- ret
    refine T.ret2 rfl (ResIs.tmp rfl) (ResIs.tmp rfl) ?_
    simp [meetM, hi, optV]
  | true =>
    cases hj : inB l.length j with
    | false =>
      refine Spec.enter Tryd.func18 rfl Tryd.ntmps18 rfl ?_
      intro w0 hw0
      refine T.seq ?_
      refine T.region ?_
      refine SL.y (op_assign (v := .int .i64 ((0 : Nat) : Int)) rfl) rfl rfl ?_
      refine SL.y (op_assign rfl) rfl rfl ?_
      refine SL.nil ?_
      refine T.seq ?_
      refine T.seq ?_
      refine T.region ?_
      refine SL.y (op_move rfl) rfl rfl ?_
      refine SL.y (op_move rfl) rfl rfl ?_
      -- op
      refine SL.x (op_callF en60 (vs := [_, _]) rfl (lin_spec h i)) rfl rfl ?_
      rintro _ _ X1 ⟨rfl, hX1, rfl⟩
      rw [hi]
      refine SL.y (op_not rfl) rfl rfl ?_
      refine SL.y (op_move rfl) rfl rfl ?_
      first | refine SL.skip rfl rfl ?_ | refine SL.y (op_move rfl) rfl rfl ?_
      first | refine SL.skip rfl rfl ?_ | refine SL.y (op_move rfl) rfl rfl ?_
      -- op
      refine SL.x (op_callF en60 (vs := [_, _]) rfl (lin_spec (h.mono hX1) j)) rfl rfl ?_
      rintro _ _ X2 ⟨rfl, hX2, rfl⟩
      rw [hj]
      first | refine SL.skip rfl rfl ?_ | refine SL.y (op_not rfl) rfl rfl ?_
      first | refine SL.y (op_pickT rfl rfl) rfl rfl ?_ | refine SL.y (op_pickF rfl rfl) rfl rfl ?_ | refine SL.y (op_pickB rfl rfl rfl) rfl rfl ?_
      refine SL.nil ?_
      refine T.condT rfl ?_
      refine T.seq ?_
      refine T.region ?_
      refine SL.y (op_assign (v := .int .i64 ((0 : Nat) : Int)) rfl) rfl rfl ?_
      refine SL.y (op_assign rfl) rfl rfl ?_
      refine SL.nil ?_
      -- ret
      refine T.ret2 rfl (ResIs.tmp rfl) (ResIs.tmp rfl) ?_
      simp [meetM, hi, hj, optV]
    | true =>
      obtain ⟨a, ha, b, br, cap, cs, pm, x, y, rfl, rfl, hB, hBr, hM, hx, hy, hsx, hsy⟩ := h.inside hi
      obtain ⟨a', ha', b', br', cap', cs', pm', x', y', rfl, he, hB', hBr', hM', hx', hy', hsx', hsy'⟩ := h.inside hj
      obtain rfl : b = b' := by simpa using he
      have e1 := atM_nat ha
      have e2 := atM_nat ha'
      refine Spec.enter Tryd.func18 rfl Tryd.ntmps18 rfl ?_
      intro w0 hw0
      refine T.seq ?_
      refine T.region ?_
      refine SL.y (op_assign (v := .int .i64 ((0 : Nat) : Int)) rfl) rfl rfl ?_
      refine SL.y (op_assign rfl) rfl rfl ?_
      refine SL.nil ?_
      refine T.seq ?_
      refine T.seq ?_
      refine T.region ?_
      refine SL.y (op_move rfl) rfl rfl ?_
      refine SL.y (op_move rfl) rfl rfl ?_
      -- op
      refine SL.x (op_callF en60 (vs := [_, _]) rfl (lin_spec h (a : Int))) rfl rfl ?_
      rintro _ _ X1 ⟨rfl, hX1, rfl⟩
      rw [hi]
      refine SL.y (op_not rfl) rfl rfl ?_
      refine SL.y (op_move rfl) rfl rfl ?_
      first | refine SL.skip rfl rfl ?_ | refine SL.y (op_move rfl) rfl rfl ?_
      first | refine SL.skip rfl rfl ?_ | refine SL.y (op_move rfl) rfl rfl ?_
      -- op
      refine SL.x (op_callF en60 (vs := [_, _]) rfl (lin_spec (h.mono hX1) (a' : Int))) rfl rfl ?_
      rintro _ _ X2 ⟨rfl, hX2, rfl⟩
      rw [hj]
      have hBa := (hB.mono hX1).mono hX2
      have hBb := (hBr.mono hX1).mono hX2
      have hBa' := (hB'.mono hX1).mono hX2
      have hBb' := (hBr'.mono hX1).mono hX2
      have hT2 := (hT.mono hX1).mono hX2
      have hM2 := (hM.mono hX1).mono hX2
      first | refine SL.skip rfl rfl ?_ | refine SL.y (op_not rfl) rfl rfl ?_
      first | refine SL.y (op_pickT rfl rfl) rfl rfl ?_ | refine SL.y (op_pickF rfl rfl) rfl rfl ?_ | refine SL.y (op_pickB rfl rfl rfl) rfl rfl ?_
      refine SL.nil ?_
      refine T.condF rfl ?_
      refine T.skip ?_
      refine T.seq ?_
      refine T.draw (by kernel_rfl) 28 [.t 0, .t 1, .t 2, .t 3, .t 4, .t 5, .t 6, .t 7, .t 8, .t 9, .t 10, .t 11, .t 12, .t 13, .t 14, .t 15, .t 16, .t 17, .t 18, .t 19, .t 20, .r 21, .r 22, .r 23, .t 24, .t 25, .t 26, .t 27] (by kernel_rfl) ?_
      refine SD.take rfl panicBody (op_move rfl) rfl rfl ?_
      refine SD.take rfl panicBody (op_move rfl) rfl rfl ?_
      first | refine SD.take rfl panicBody (op_nil rfl) rfl rfl ?_ | refine SD.take rfl panicBody (op_nilFn rfl) rfl rfl ?_
      refine SD.take rfl panicBody (op_fieldAddr fa96_0 rfl) rfl rfl ?_
      -- to 22: op
      refine SD.take rfl panicBody (op_loadX ty27 rfl hBa rfl) rfl rfl ?_
      refine SD.take rfl panicBody (op_move rfl) rfl rfl ?_
      first | refine SD.take rfl panicBody (op_nil rfl) rfl rfl ?_ | refine SD.take rfl panicBody (op_nilFn rfl) rfl rfl ?_
      refine SD.take rfl panicBody (op_fieldAddr fa96_1 rfl) rfl rfl ?_
      -- to 26: op
      refine SD.take rfl panicBody (op_loadX ty80 rfl hBa rfl) rfl rfl ?_
      refine SD.take rfl panicBody (op_move rfl) rfl rfl ?_
      first | refine SD.take rfl panicBody (op_indexN Tryd.underlying80 ty49 rfl rfl (by omega)) rfl rfl ?_ | refine SD.take rfl panicBody (op_index Tryd.underlying80 ty49 rfl rfl (by omega) (by omega)) rfl rfl ?_
      refine SD.take rfl panicBody (op_fieldAddr fa49_1 rfl) rfl rfl ?_
      -- to 30: op
      refine SD.take rfl panicBody (op_loadX ty47 rfl hBb (creadRk hy (by omega))) rfl rfl ?_
      refine SD.take rfl panicBody (op_move rfl) rfl rfl ?_
      first | refine SD.take rfl panicBody (op_nil rfl) rfl rfl ?_ | refine SD.take rfl panicBody (op_nilFn rfl) rfl rfl ?_
      refine SD.take rfl panicBody (op_fieldAddr fa96_1 rfl) rfl rfl ?_
      -- to 34: op
      refine SD.take rfl panicBody (op_loadX ty80 rfl hBa' rfl) rfl rfl ?_
      refine SD.take rfl panicBody (op_move rfl) rfl rfl ?_
      first | refine SD.take rfl panicBody (op_indexN Tryd.underlying80 ty49 rfl rfl (by omega)) rfl rfl ?_ | refine SD.take rfl panicBody (op_index Tryd.underlying80 ty49 rfl rfl (by omega) (by omega)) rfl rfl ?_
      refine SD.take rfl panicBody (op_fieldAddr fa49_1 rfl) rfl rfl ?_
      -- to 38: op
      refine SD.take rfl panicBody (op_loadX ty47 rfl hBb' (creadRk hy' (by omega))) rfl rfl ?_
      -- op
      refine SD.run rfl (op_callF en31 (vs := [_, _]) rfl (or_spec ((hsy.mono hX1).mono hX2) ((hsy'.mono hX1).mono hX2))) rfl rfl ?_
      rintro _ _ X3 ⟨rfl, hX3, hS3⟩
      -- op
      refine SD.run rfl (op_callF en58 (vs := [_, _]) rfl (close_spec (hT2.mono hX3) (hM2.mono hX3) hS3)) rfl rfl ?_
      rintro _ _ X4 ⟨rfl, hX4, hS4⟩
      -- op
      refine SD.run rfl (op_callF en34 (vs := [_, _]) rfl (lindex_spec ((((h.mono hX1).mono hX2).mono hX3).mono hX4) hS4)) rfl rfl ?_
      rintro _ _ X5 ⟨rfl, hX5, rfl⟩
      refine SD.take rfl panicBody (op_extract rfl rfl) rfl rfl ?_
      refine SD.take rfl panicBody (op_extract rfl rfl) rfl rfl ?_
      refine SD.take rfl panicBody (op_assign rfl) rfl rfl ?_
      refine SD.take rfl panicBody (op_assign rfl) rfl rfl ?_
      refine SD.nil ?_
      show SL _ _ _ _ _ _ _ [] _ _ _
      refine SL.nil ?_
      -- ret
      refine T.ret2 rfl (ResIs.tmp rfl) (ResIs.tmp rfl) ?_
      simp [meetM, hi, hj, e1, e2, optV]
theorem top_spec {X : PMap} {v : Value} {c : Nat} {ms : List Nat} {l : List (Nat × Nat)} (h : LatN X v c ms l) : Spec Tryd.prog 39 [v] X fun u _ => u = .tuple #[.int .i64 0, .bool (decide (0 < l.length))] := by
  refine Spec.enter Tryd.func39 rfl Tryd.ntmps39 rfl ?_
  intro w0 hw0
  refine T.seq ?_
  refine T.region ?_
  refine SL.y (op_assign (v := .int .i64 ((0 : Nat) : Int)) rfl) rfl rfl ?_
  refine SL.y (op_assign rfl) rfl rfl ?_
  refine SL.nil ?_
  refine T.seq ?_
  refine T.region ?_
  refine SL.y (op_move rfl) rfl rfl ?_
  -- op
  refine SL.x (op_callF en16 (vs := [_]) rfl (llen_spec h)) rfl rfl ?_
  rintro _ _ X1 ⟨rfl, hX1, rfl⟩
  -- to 6: op
  refine SL.y (op_gtr rfl rfl) rfl rfl ?_
  refine SL.y (op_assign (v := .int .i64 ((0 : Nat) : Int)) rfl) rfl rfl ?_
  refine SL.y (op_assign rfl) rfl rfl ?_
  refine SL.nil ?_
  -- ret
  refine T.ret2 rfl (ResIs.tmp rfl) (ResIs.tmp rfl) ?_
  simp
theorem LatN.small {X : PMap} {v : Value} {c : Nat} {ms : List Nat} {l : List (Nat × Nat)} (h : LatN X v c ms l) : l.length < 2147483648 := by
  rcases h with h | ⟨_, rfl⟩
  · obtain ⟨_, _, _, _, _, _, _, _, _, _, h⟩ := h; exact h
  · simp
theorem bottom_spec {X : PMap} {v : Value} {c : Nat} {ms : List Nat} {l : List (Nat × Nat)} (h : LatN X v c ms l) : Spec Tryd.prog 40 [v] X fun u _ => u = .tuple #[.int .i64 ((l.length - 1 : Nat) : Int), .bool (decide (0 < l.length))] := by
  have hs := h.small
  refine Spec.enter Tryd.func40 rfl Tryd.ntmps40 rfl ?_
  intro w0 hw0
  refine T.seq ?_
  refine T.region ?_
  refine SL.y (op_assign (v := .int .i64 ((0 : Nat) : Int)) rfl) rfl rfl ?_
  refine SL.y (op_assign rfl) rfl rfl ?_
  refine SL.nil ?_
  refine T.seq ?_
  refine T.region ?_
  refine SL.y (op_move rfl) rfl rfl ?_
  -- op
  refine SL.x (op_callF en16 (vs := [_]) rfl (llen_spec h)) rfl rfl ?_
  rintro _ _ X1 ⟨rfl, hX1, rfl⟩
  refine SL.y (op_sub (q := 1) rfl rfl (by omega) (by omega)) rfl rfl ?_
  refine SL.y (op_max (q := 0) (r := ((l.length - 1 : Nat) : Int)) rfl rfl (by split <;> omega)) rfl rfl ?_
  refine SL.y (op_move rfl) rfl rfl ?_
  -- op
  refine SL.x (op_callF en16 (vs := [_]) rfl (llen_spec (h.mono hX1))) rfl rfl ?_
  rintro _ _ X2 ⟨rfl, hX2, rfl⟩
  -- to 10: op
  refine SL.y (op_gtr rfl rfl) rfl rfl ?_
  refine SL.y (op_assign rfl) rfl rfl ?_
  refine SL.y (op_assign rfl) rfl rfl ?_
  refine SL.nil ?_
  -- ret
  refine T.ret2 rfl (ResIs.tmp rfl) (ResIs.tmp rfl) ?_
  simp
end Go.Proofs.YtoheffglppbcbaaDoor
