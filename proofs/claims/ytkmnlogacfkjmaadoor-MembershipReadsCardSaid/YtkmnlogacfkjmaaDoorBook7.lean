/- Books: held against the reference's; Delete, Revoke, Assign. -/
import Derived.Test.YtkmnlogacfkjmaaDoorBook6
namespace Go.Proofs.YtkmnlogacfkjmaaDoor
section
set_option maxRecDepth 100000
theorem en26 : Enters Tryd.prog 26 := enters_mk Tryd.func26 (by kernel_rfl) rfl
theorem en39 : Enters Tryd.prog 39 := enters_mk Tryd.func39 (by kernel_rfl) rfl
theorem en50 : Enters Tryd.prog 50 := enters_mk Tryd.func50 (by kernel_rfl) rfl
theorem en57 : Enters Tryd.prog 57 := enters_mk Tryd.func57 (by kernel_rfl) rfl
end
open Go.RowKit
theorem is_spec {X : PMap} {v v' : Value} {l l' : List En} (h : BkR X v l) (h' : SliceR X v' l'.length (enC l')) (hl : l.length < 100000) : Spec Tryd.prog 29 [v, v'] X fun u _ => u = .bool (decide (l = l')) := by
  have hN : BkN X v l := .inl h
  obtain ⟨b, sv, rfl, hb, hs⟩ := h
  obtain ⟨A, cp, rfl⟩ := h'.form
  by_cases hlen : l.length = l'.length
  · refine Spec.enter Tryd.func29 rfl Tryd.ntmps29 rfl ?_
    intro w0 hw0
    refine T.seq ?_
    refine T.region ?_
    refine SL.y (op_assign rfl) rfl rfl ?_
    refine SL.nil ?_
    refine T.seq ?_
    refine T.region ?_
    refine SL.y (op_move rfl) rfl rfl ?_
    refine SL.y (op_neqNil Tryd.underlying24 rfl rfl) rfl rfl ?_
    refine SL.y (op_move rfl) rfl rfl ?_
    first | refine SL.skip rfl rfl ?_ | refine SL.y (op_move rfl) rfl rfl ?_
    -- op
    refine SL.x (op_callF en26 (vs := [_]) rfl (elen_spec hN)) rfl rfl ?_
    rintro _ _ X1 ⟨rfl, hX1, rfl⟩
    first | refine SL.skip rfl rfl ?_ | refine SL.y (op_move rfl) rfl rfl ?_
    first | refine SL.skip rfl rfl ?_ | refine SL.y (op_lenS Tryd.underlying25 rfl) rfl rfl ?_
    first | refine SL.skip rfl rfl ?_ | refine SL.y (op_eqlT rfl rfl (by omega)) rfl rfl ?_ | refine SL.y (op_eqlF rfl rfl (by omega)) rfl rfl ?_ | refine SL.y (op_eql rfl rfl) rfl rfl ?_
    first | refine SL.y (op_pickT rfl rfl) rfl rfl ?_ | refine SL.y (op_pickF rfl rfl) rfl rfl ?_ | refine SL.y (op_pickB rfl rfl rfl) rfl rfl ?_
    refine SL.y (op_move rfl) rfl rfl ?_
    first | refine SL.skip rfl rfl ?_ | refine SL.y (op_move rfl) rfl rfl ?_
    -- op
    refine SL.x (op_callF en39 (vs := [_]) rfl ((entries_spec (hN.mono hX1) hl).pubG)) rfl rfl ?_
    rintro u _ X2 ⟨rfl, hX2, hu⟩
    obtain ⟨A2, c2, rfl⟩ := hu.form
    first | refine SL.skip rfl rfl ?_ | refine SL.y (op_move rfl) rfl rfl ?_
    -- op
    refine SL.x (op_callF en57 (vs := [_, _, _]) rfl (eqFunc_spec hu ((h'.mono hX1).mono hX2) (by omega))) rfl rfl ?_
    rintro _ _ X3 ⟨rfl, hX3, rfl⟩
    first | refine SL.y (op_pickT rfl rfl) rfl rfl ?_ | refine SL.y (op_pickF rfl rfl) rfl rfl ?_ | refine SL.y (op_pickB rfl rfl rfl) rfl rfl ?_
    refine SL.y (op_assign rfl) rfl rfl ?_
    refine SL.nil ?_
    -- ret
    refine T.ret1 rfl (ResIs.tmp rfl) ?_
    rfl
  · refine Spec.enter Tryd.func29 rfl Tryd.ntmps29 rfl ?_
    intro w0 hw0
    refine T.seq ?_
    refine T.region ?_
    refine SL.y (op_assign rfl) rfl rfl ?_
    refine SL.nil ?_
    refine T.seq ?_
    refine T.region ?_
    refine SL.y (op_move rfl) rfl rfl ?_
    refine SL.y (op_neqNil Tryd.underlying24 rfl rfl) rfl rfl ?_
    refine SL.y (op_move rfl) rfl rfl ?_
    first | refine SL.skip rfl rfl ?_ | refine SL.y (op_move rfl) rfl rfl ?_
    -- op
    refine SL.x (op_callF en26 (vs := [_]) rfl (elen_spec hN)) rfl rfl ?_
    rintro _ _ X1 ⟨rfl, hX1, rfl⟩
    first | refine SL.skip rfl rfl ?_ | refine SL.y (op_move rfl) rfl rfl ?_
    first | refine SL.skip rfl rfl ?_ | refine SL.y (op_lenS Tryd.underlying25 rfl) rfl rfl ?_
    first | refine SL.skip rfl rfl ?_ | refine SL.y (op_eqlT rfl rfl (by omega)) rfl rfl ?_ | refine SL.y (op_eqlF rfl rfl (by omega)) rfl rfl ?_ | refine SL.y (op_eql rfl rfl) rfl rfl ?_
    first | refine SL.y (op_pickT rfl rfl) rfl rfl ?_ | refine SL.y (op_pickF rfl rfl) rfl rfl ?_ | refine SL.y (op_pickB rfl rfl rfl) rfl rfl ?_
    refine SL.y (op_move rfl) rfl rfl ?_
    first | refine SL.skip rfl rfl ?_ | refine SL.y (op_move rfl) rfl rfl ?_
    -- op
    refine SL.skip rfl rfl ?_
    first | refine SL.skip rfl rfl ?_ | refine SL.y (op_move rfl) rfl rfl ?_
    -- op
    refine SL.skip rfl rfl ?_
    first | refine SL.y (op_pickT rfl rfl) rfl rfl ?_ | refine SL.y (op_pickF rfl rfl) rfl rfl ?_ | refine SL.y (op_pickB rfl rfl rfl) rfl rfl ?_
    refine SL.y (op_assign rfl) rfl rfl ?_
    refine SL.nil ?_
    -- ret
    refine T.ret1 rfl (ResIs.tmp rfl) ?_
    rw [decide_eq_false (fun e => hlen (by rw [e]))]
theorem isNil_spec {X : PMap} {A : Option Addr} {n c : Nat} : Spec Tryd.prog 29 [.pointer none, .slice A n c] X fun u _ => u = .bool false := by
  refine Spec.enter Tryd.func29 rfl Tryd.ntmps29 rfl ?_
  intro w0 hw0
  refine T.seq ?_
  refine T.region ?_
  refine SL.y (op_assign rfl) rfl rfl ?_
  refine SL.nil ?_
  refine T.seq ?_
  refine T.region ?_
  refine SL.y (op_move rfl) rfl rfl ?_
  refine SL.y (op_neqNil Tryd.underlying24 rfl rfl) rfl rfl ?_
  refine SL.y (op_move rfl) rfl rfl ?_
  first | refine SL.skip rfl rfl ?_ | refine SL.y (op_move rfl) rfl rfl ?_
  -- op
  refine SL.skip rfl rfl ?_
  first | refine SL.skip rfl rfl ?_ | refine SL.y (op_move rfl) rfl rfl ?_
  first | refine SL.skip rfl rfl ?_ | refine SL.y (op_lenS Tryd.underlying25 rfl) rfl rfl ?_
  first | refine SL.skip rfl rfl ?_ | refine SL.y (op_eqlT rfl rfl (by omega)) rfl rfl ?_ | refine SL.y (op_eqlF rfl rfl (by omega)) rfl rfl ?_ | refine SL.y (op_eql rfl rfl) rfl rfl ?_
  first | refine SL.y (op_pickT rfl rfl) rfl rfl ?_ | refine SL.y (op_pickF rfl rfl) rfl rfl ?_ | refine SL.y (op_pickB rfl rfl rfl) rfl rfl ?_
  refine SL.y (op_move rfl) rfl rfl ?_
  first | refine SL.skip rfl rfl ?_ | refine SL.y (op_move rfl) rfl rfl ?_
  -- op
  refine SL.skip rfl rfl ?_
  first | refine SL.skip rfl rfl ?_ | refine SL.y (op_move rfl) rfl rfl ?_
  -- op
  refine SL.skip rfl rfl ?_
  first | refine SL.y (op_pickT rfl rfl) rfl rfl ?_ | refine SL.y (op_pickF rfl rfl) rfl rfl ?_ | refine SL.y (op_pickB rfl rfl rfl) rfl rfl ?_
  refine SL.y (op_assign rfl) rfl rfl ?_
  refine SL.nil ?_
  -- ret
  refine T.ret1 rfl (ResIs.tmp rfl) ?_
  rfl
theorem bequal_spec {X : PMap} {v v' : Value} {l l' : List En} (h : BkR X v l) (h' : BkR X v' l') (hl : l.length < 100000) : Spec Tryd.prog 17 [v, v'] X fun u _ => u = .bool (decide (l = l')) := by
  obtain ⟨b, sv, rfl, hb, hs⟩ := h
  obtain ⟨b', sv', rfl, hb', hs'⟩ := h'
  obtain ⟨A, cp, rfl⟩ := hs.form
  obtain ⟨A', cp', rfl⟩ := hs'.form
  refine Spec.enter Tryd.func17 rfl Tryd.ntmps17 rfl ?_
  intro w0 hw0
  refine T.seq ?_
  refine T.region ?_
  refine SL.y (op_assign rfl) rfl rfl ?_
  refine SL.nil ?_
  refine T.seq ?_
  refine T.seq ?_
  refine T.region ?_
  refine SL.y (op_move rfl) rfl rfl ?_
  refine SL.y (op_eqlNil Tryd.underlying24 rfl rfl) rfl rfl ?_
  refine SL.y (op_move rfl) rfl rfl ?_
  first | refine SL.skip rfl rfl ?_ | refine SL.y (op_move rfl) rfl rfl ?_
  first | refine SL.skip rfl rfl ?_ | refine SL.y (op_eqlNil Tryd.underlying24 rfl rfl) rfl rfl ?_
  first | refine SL.y (op_pickT rfl rfl) rfl rfl ?_ | refine SL.y (op_pickF rfl rfl) rfl rfl ?_ | refine SL.y (op_pickB rfl rfl rfl) rfl rfl ?_
  refine SL.nil ?_
  refine T.condF rfl ?_
  refine T.skip ?_
  refine T.seq ?_
  refine T.draw (by kernel_rfl) 10 [.t 0, .t 1, .t 2, .t 3, .t 4, .t 5, .t 6, .t 7, .r 8, .t 9] (by kernel_rfl) ?_
  refine SD.take rfl panicBody (op_move rfl) rfl rfl ?_
  first | refine SD.take rfl panicBody (op_nil rfl) rfl rfl ?_ | refine SD.take rfl panicBody (op_nilFn rfl) rfl rfl ?_
  refine SD.take rfl panicBody (op_fieldAddr fa90_0 rfl) rfl rfl ?_
  first | refine SD.take rfl panicBody (op_load ty74 rfl (by repeat (first | exact AtO.here | apply AtO.there)) rfl) rfl rfl ?_ | refine SD.take rfl panicBody (op_loadX ty74 rfl (by assumption) rfl) rfl rfl ?_
  refine SD.take rfl panicBody (op_move rfl) rfl rfl ?_
  first | refine SD.take rfl panicBody (op_nil rfl) rfl rfl ?_ | refine SD.take rfl panicBody (op_nilFn rfl) rfl rfl ?_
  refine SD.take rfl panicBody (op_fieldAddr fa90_0 rfl) rfl rfl ?_
  first | refine SD.take rfl panicBody (op_load ty74 rfl (by repeat (first | exact AtO.here | apply AtO.there)) rfl) rfl rfl ?_ | refine SD.take rfl panicBody (op_loadX ty74 rfl (by assumption) rfl) rfl rfl ?_
  -- op
  refine SD.run rfl (op_callF en50 (vs := [_, _]) rfl (eqEn_spec hs hs' (by omega))) rfl rfl ?_
  rintro _ _ X1 ⟨rfl, hX1, rfl⟩
  refine SD.take rfl panicBody (op_assign rfl) rfl rfl ?_
  refine SD.nil ?_
  show SL _ _ _ _ _ _ _ [] _ _ _
  refine SL.nil ?_
  -- ret
  refine T.ret1 rfl (ResIs.tmp rfl) ?_
  rfl
end Go.Proofs.YtkmnlogacfkjmaaDoor
