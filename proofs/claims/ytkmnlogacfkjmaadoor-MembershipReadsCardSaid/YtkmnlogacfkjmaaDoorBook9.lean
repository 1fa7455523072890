/- Books: Revoke, Assign. -/
import Derived.Test.YtkmnlogacfkjmaaDoorBook8
namespace Go.Proofs.YtkmnlogacfkjmaaDoor
section
set_option maxRecDepth 100000
theorem en49 : Enters Tryd.prog 49 := enters_mk Tryd.func49 (by kernel_rfl) rfl
theorem en56 : Enters Tryd.prog 56 := enters_mk Tryd.func56 (by kernel_rfl) rfl
end
open Go.RowKit
def delP (l : List En) (u r : Int) : List En := l.take (posE l u r) ++ l.drop (posE l u r + 1)
def asgP (l : List En) (u r t : Int) : List En := if hasE l u r = true then l.set (posE l u r) (u, r, t) else l.take (posE l u r) ++ (u, r, t) :: l.drop (posE l u r)
theorem set_cells {l : List En} {k o : Nat} {e : En} (he : l[k]? = some e) (ho : o = k * 3 + 2) (t : Int) : csets (enC l) o [.int .i64 t] = enC (l.set k (e.1, e.2.1, t)) := by
  obtain ⟨hk, hx⟩ := List.getElem?_eq_some_iff.1 he
  have ht : (enC (l.take k)).length = k * 3 := by rw [enC_len, List.length_take]; congr 1; omega
  have hl : enC l = (enC (l.take k) ++ [.int .i64 e.1, .int .i64 e.2.1]) ++ [.int .i64 e.2.2] ++ enC (l.drop (k + 1)) := by
    have h1 : l = l.take k ++ e :: l.drop (k + 1) := by rw [← hx, ← List.drop_eq_getElem_cons hk, List.take_append_drop]
    conv => lhs; rw [h1]
    rw [enC_append, enC_cons]; simp [eC]
  rw [csets_mid' (vs := [.int .i64 t]) hl (by rw [List.length_append, ht, ho]; rfl) rfl, List.set_eq_take_append_cons_drop, if_pos hk, enC_append, enC_cons]
  simp [eC]
theorem revoke_spec {X : PMap} {v : Value} {l : List En} (h : BkR X v l) (hw : WfL l) (hl : l.length < 100000) {u r : Int} : Spec Tryd.prog 25 [v, .int .i64 u, .int .i64 r] X fun w X' => if hasE l u r = true then ∃ p, w = .tuple #[p, .int .i64 0] ∧ BkR X' p (delP l u r) else w = .tuple #[.pointer none, .int .i64 4] := by
  have hN : BkN X v l := .inl h
  obtain ⟨b, sv, rfl, hb, hs⟩ := h
  obtain ⟨A, cp, rfl⟩ := hs.form
  cases hh : hasE l u r with
  | false =>
    refine Spec.enter Tryd.func25 rfl Tryd.ntmps25 rfl ?_
    intro w0 hw0
    refine T.seq ?_
    refine T.region ?_
    refine SL.y (op_assign rfl) rfl rfl ?_
    refine SL.y (op_assign (v := .int .i64 ((0 : Nat) : Int)) rfl) rfl rfl ?_
    refine SL.nil ?_
    refine T.seq ?_
    refine T.seq ?_
    refine T.region ?_
    refine SL.y (op_move rfl) rfl rfl ?_
    refine SL.y (op_eqlNil Tryd.underlying24 rfl rfl) rfl rfl ?_
    refine SL.nil ?_
    refine T.condF rfl ?_
    refine T.skip ?_
    refine T.seq ?_
    refine T.region ?_
    refine SL.y (op_move rfl) rfl rfl ?_
    refine SL.y (op_move rfl) rfl rfl ?_
    refine SL.y (op_move rfl) rfl rfl ?_
    -- op
    refine SL.x (op_callF en54 (vs := [_, _, _]) rfl (index_spec hN hw hl)) rfl rfl ?_
    rintro _ _ X2 ⟨rfl, hX2, rfl⟩
    rw [hh]
    refine SL.y (op_move rfl) rfl rfl ?_
    refine SL.y (op_extract rfl rfl) rfl rfl ?_
    refine SL.y (op_extract rfl rfl) rfl rfl ?_
    refine SL.y (op_assign rfl) rfl rfl ?_
    refine SL.y (op_assign rfl) rfl rfl ?_
    refine SL.nil ?_
    refine T.seq ?_
    refine T.seq ?_
    refine T.region ?_
    refine SL.y (op_move rfl) rfl rfl ?_
    refine SL.y (op_not rfl) rfl rfl ?_
    refine SL.nil ?_
    refine T.condT rfl ?_
    refine T.seq ?_
    refine T.region ?_
    refine SL.y (op_assign rfl) rfl rfl ?_
    refine SL.y (op_assign (v := .int .i64 ((4 : Nat) : Int)) rfl) rfl rfl ?_
    refine SL.nil ?_
    -- ret
    refine T.ret2 rfl (ResIs.tmp rfl) (ResIs.tmp rfl) ?_
    rfl
  | true =>
    obtain ⟨e, he, hk⟩ := has_pos hw hh
    have hkk := has_key hw hh
    have hpl := (List.getElem?_eq_some_iff.1 he).1
    refine Spec.enter Tryd.func25 rfl Tryd.ntmps25 rfl ?_
    intro w0 hw0
    refine T.seq ?_
    refine T.region ?_
    refine SL.y (op_assign rfl) rfl rfl ?_
    refine SL.y (op_assign (v := .int .i64 ((0 : Nat) : Int)) rfl) rfl rfl ?_
    refine SL.nil ?_
    refine T.seq ?_
    refine T.seq ?_
    refine T.region ?_
    refine SL.y (op_move rfl) rfl rfl ?_
    refine SL.y (op_eqlNil Tryd.underlying24 rfl rfl) rfl rfl ?_
    refine SL.nil ?_
    refine T.condF rfl ?_
    refine T.skip ?_
    refine T.seq ?_
    refine T.region ?_
    refine SL.y (op_move rfl) rfl rfl ?_
    refine SL.y (op_move rfl) rfl rfl ?_
    refine SL.y (op_move rfl) rfl rfl ?_
    -- op
    refine SL.x (op_callF en54 (vs := [_, _, _]) rfl (index_spec hN hw hl)) rfl rfl ?_
    rintro _ _ X2 ⟨rfl, hX2, rfl⟩
    rw [hh, if_pos hkk]
    have hb2 := hb.mono hX2
    refine SL.y (op_move rfl) rfl rfl ?_
    refine SL.y (op_extract rfl rfl) rfl rfl ?_
    refine SL.y (op_extract rfl rfl) rfl rfl ?_
    refine SL.y (op_assign rfl) rfl rfl ?_
    refine SL.y (op_assign rfl) rfl rfl ?_
    refine SL.nil ?_
    refine T.seq ?_
    refine T.seq ?_
    refine T.region ?_
    refine SL.y (op_move rfl) rfl rfl ?_
    refine SL.y (op_not rfl) rfl rfl ?_
    refine SL.nil ?_
    refine T.condF rfl ?_
    refine T.skip ?_
    refine T.seq ?_
    refine T.region ?_
    refine SL.y (op_move rfl) rfl rfl ?_
    first | refine SL.y (op_nil rfl) rfl rfl ?_ | refine SL.y (op_nilFn rfl) rfl rfl ?_
    refine SL.y (op_fieldAddr fa90_0 rfl) rfl rfl ?_
    first | refine SL.y (op_load ty74 rfl (by repeat (first | exact AtO.here | apply AtO.there)) rfl) rfl rfl ?_ | refine SL.y (op_loadX ty74 rfl (by assumption) rfl) rfl rfl ?_
    -- op
    refine SL.x (op_callO en47 (vs := [_]) rfl (eclone_spec (hs.mono hX2) hl)) rfl rfl ?_
    rintro sv1 own1 X3 ⟨_, rfl, hX3, hG⟩
    obtain ⟨A1, cp1, rfl⟩ := hG.form
    refine SL.y (op_move rfl) rfl rfl ?_
    refine SL.y (op_move rfl) rfl rfl ?_
    -- to 28: op
    refine SL.y (op_addN (q := 1) rfl rfl (by omega)) rfl rfl ?_
    refine SL.x (op_callM en56 (vs := [_, _, _]) rfl (delete_spec hG hpl hl) rfl) rfl rfl ?_
    rintro sv2 _ X4 ⟨L', rfl, hX4, hG'⟩
    obtain ⟨A2, cp2, rfl⟩ := hG'.form
    refine SL.y (op_build st90 (qs := [(0, _)]) rfl rfl) rfl rfl ?_
    refine SL.x (op_box rfl) rfl rfl ?_
    rintro _ _ _ ⟨B31, rfl, rfl, rfl⟩
    refine SL.y (op_assign rfl) rfl rfl ?_
    refine SL.y (op_assign (v := .int .i64 ((0 : Nat) : Int)) rfl) rfl rfl ?_
    refine SL.nil ?_
    -- ret
    refine T.perm (own' := [⟨B31, [.slice A2 (l.length - 1) cp2], 90, 1⟩] ++ L') (List.Perm.cons _ (by simp)) ?_
    refine T.pubG (own0 := [_]) hG' ?_
    intro X5 hX5 hS5
    refine T.pub B31 (by repeat (first | exact AtO.here | apply AtO.there)) ?_
    intro X6 hX6 hB6 _
    refine T.ret2 rfl (ResIs.tmp rfl) (ResIs.tmp rfl) ?_
    rw [if_pos rfl]
    have hlen : (delP l u r).length = l.length - 1 := by rw [delP, List.length_append, List.length_take, List.length_drop]; omega
    exact ⟨_, rfl, B31, _, rfl, hB6, by rw [hlen]; exact hS5.mono hX6⟩
theorem revokeN_spec {X : PMap} {u r : Int} : Spec Tryd.prog 25 [.pointer none, .int .i64 u, .int .i64 r] X fun w _ => w = .tuple #[.pointer none, .int .i64 1] := by
  refine Spec.enter Tryd.func25 rfl Tryd.ntmps25 rfl ?_
  intro w0 hw0
  refine T.seq ?_
  refine T.region ?_
  refine SL.y (op_assign rfl) rfl rfl ?_
  refine SL.y (op_assign (v := .int .i64 ((0 : Nat) : Int)) rfl) rfl rfl ?_
  refine SL.nil ?_
  refine T.seq ?_
  refine T.seq ?_
  refine T.region ?_
  refine SL.y (op_move rfl) rfl rfl ?_
  refine SL.y (op_eqlNil Tryd.underlying24 rfl rfl) rfl rfl ?_
  refine SL.nil ?_
  refine T.condT rfl ?_
  refine T.seq ?_
  refine T.region ?_
  refine SL.y (op_assign rfl) rfl rfl ?_
  refine SL.y (op_assign (v := .int .i64 ((1 : Nat) : Int)) rfl) rfl rfl ?_
  refine SL.nil ?_
  -- ret
  refine T.ret2 rfl (ResIs.tmp rfl) (ResIs.tmp rfl) ?_
  rfl
theorem assignN_spec {X : PMap} {u r t : Int} : Spec Tryd.prog 15 [.pointer none, .int .i64 u, .int .i64 r, .int .i64 t] X fun w _ => w = .tuple #[.pointer none, .int .i64 1] := by
  refine Spec.enter Tryd.func15 rfl Tryd.ntmps15 rfl ?_
  intro w0 hw0
  refine T.seq ?_
  refine T.region ?_
  refine SL.y (op_assign rfl) rfl rfl ?_
  refine SL.y (op_assign (v := .int .i64 ((0 : Nat) : Int)) rfl) rfl rfl ?_
  refine SL.nil ?_
  refine T.seq ?_
  refine T.block ?_
  refine T.seq ?_
  refine T.region ?_
  refine SL.y (op_move rfl) rfl rfl ?_
  refine SL.y (op_eqlNil Tryd.underlying24 rfl rfl) rfl rfl ?_
  refine SL.y (op_move rfl) rfl rfl ?_
  first | refine SL.skip rfl rfl ?_ | refine SL.y (op_move rfl) rfl rfl ?_
  first | refine SL.skip rfl rfl ?_ | refine SL.y (op_lssT rfl rfl (by omega)) rfl rfl ?_ | refine SL.y (op_lssF rfl rfl (by omega)) rfl rfl ?_ | refine SL.y (op_lss rfl rfl) rfl rfl ?_
  first | refine SL.y (op_pickT rfl rfl) rfl rfl ?_ | refine SL.y (op_pickF rfl rfl) rfl rfl ?_ | refine SL.y (op_pickB rfl rfl rfl) rfl rfl ?_
  refine SL.y (op_move rfl) rfl rfl ?_
  first | refine SL.skip rfl rfl ?_ | refine SL.y (op_move rfl) rfl rfl ?_
  first | refine SL.skip rfl rfl ?_ | refine SL.y (op_gtrT rfl rfl (by omega)) rfl rfl ?_ | refine SL.y (op_gtrF rfl rfl (by omega)) rfl rfl ?_ | refine SL.y (op_gtr rfl rfl) rfl rfl ?_
  first | refine SL.y (op_pickT rfl rfl) rfl rfl ?_ | refine SL.y (op_pickF rfl rfl) rfl rfl ?_ | refine SL.y (op_pickB rfl rfl rfl) rfl rfl ?_
  refine SL.y (op_move rfl) rfl rfl ?_
  first | refine SL.skip rfl rfl ?_ | refine SL.y (op_move rfl) rfl rfl ?_
  first | refine SL.skip rfl rfl ?_ | refine SL.y (op_lssT rfl rfl (by omega)) rfl rfl ?_ | refine SL.y (op_lssF rfl rfl (by omega)) rfl rfl ?_ | refine SL.y (op_lss rfl rfl) rfl rfl ?_
  first | refine SL.y (op_pickT rfl rfl) rfl rfl ?_ | refine SL.y (op_pickF rfl rfl) rfl rfl ?_ | refine SL.y (op_pickB rfl rfl rfl) rfl rfl ?_
  refine SL.y (op_move rfl) rfl rfl ?_
  first | refine SL.skip rfl rfl ?_ | refine SL.y (op_move rfl) rfl rfl ?_
  first | refine SL.skip rfl rfl ?_ | refine SL.y (op_gtrT rfl rfl (by omega)) rfl rfl ?_ | refine SL.y (op_gtrF rfl rfl (by omega)) rfl rfl ?_ | refine SL.y (op_gtr rfl rfl) rfl rfl ?_
  first | refine SL.y (op_pickT rfl rfl) rfl rfl ?_ | refine SL.y (op_pickF rfl rfl) rfl rfl ?_ | refine SL.y (op_pickB rfl rfl rfl) rfl rfl ?_
  refine SL.y (op_assign rfl) rfl rfl ?_
  refine SL.nil ?_
  refine T.condT rfl ?_
  refine T.seq ?_
  refine T.region ?_
  refine SL.y (op_assign rfl) rfl rfl ?_
  refine SL.y (op_assign (v := .int .i64 ((1 : Nat) : Int)) rfl) rfl rfl ?_
  refine SL.nil ?_
  -- ret
  refine T.ret2 rfl (ResIs.tmp rfl) (ResIs.tmp rfl) ?_
  rfl
def asgErr (u r t : Int) : Int := if keyOk u r = false then 1 else if t < 0 ∨ 30000 < t then 2 else 0
theorem assign_spec {X : PMap} {v : Value} {l : List En} (h : BkR X v l) (hw : WfL l) (hl : l.length < 90000) {u r t : Int} : Spec Tryd.prog 15 [v, .int .i64 u, .int .i64 r, .int .i64 t] X fun w X' => if asgErr u r t = 0 then ∃ p, w = .tuple #[p, .int .i64 0] ∧ BkR X' p (asgP l u r t) else w = .tuple #[.pointer none, .int .i64 (asgErr u r t)] := by
  obtain ⟨b, sv, rfl, hb, hs⟩ := h
  obtain ⟨A, cp, rfl⟩ := hs.form
  by_cases hu1 : u < 1
  · have hk : asgErr u r t = 1 := by simp [asgErr, keyOk]; omega
    refine Spec.enter Tryd.func15 rfl Tryd.ntmps15 rfl ?_
    intro w0 hw0
    refine T.seq ?_
    refine T.region ?_
    refine SL.y (op_assign rfl) rfl rfl ?_
    refine SL.y (op_assign (v := .int .i64 ((0 : Nat) : Int)) rfl) rfl rfl ?_
    refine SL.nil ?_
    refine T.seq ?_
    refine T.block ?_
    refine T.seq ?_
    refine T.region ?_
    refine SL.y (op_move rfl) rfl rfl ?_
    refine SL.y (op_eqlNil Tryd.underlying24 rfl rfl) rfl rfl ?_
    refine SL.y (op_move rfl) rfl rfl ?_
    first | refine SL.skip rfl rfl ?_ | refine SL.y (op_move rfl) rfl rfl ?_
    first | refine SL.skip rfl rfl ?_ | refine SL.y (op_lssT rfl rfl (by omega)) rfl rfl ?_ | refine SL.y (op_lssF rfl rfl (by omega)) rfl rfl ?_ | refine SL.y (op_lss rfl rfl) rfl rfl ?_
    first | refine SL.y (op_pickT rfl rfl) rfl rfl ?_ | refine SL.y (op_pickF rfl rfl) rfl rfl ?_ | refine SL.y (op_pickB rfl rfl rfl) rfl rfl ?_
    refine SL.y (op_move rfl) rfl rfl ?_
    first | refine SL.skip rfl rfl ?_ | refine SL.y (op_move rfl) rfl rfl ?_
    first | refine SL.skip rfl rfl ?_ | refine SL.y (op_gtrT rfl rfl (by omega)) rfl rfl ?_ | refine SL.y (op_gtrF rfl rfl (by omega)) rfl rfl ?_ | refine SL.y (op_gtr rfl rfl) rfl rfl ?_
    first | refine SL.y (op_pickT rfl rfl) rfl rfl ?_ | refine SL.y (op_pickF rfl rfl) rfl rfl ?_ | refine SL.y (op_pickB rfl rfl rfl) rfl rfl ?_
    refine SL.y (op_move rfl) rfl rfl ?_
    first | refine SL.skip rfl rfl ?_ | refine SL.y (op_move rfl) rfl rfl ?_
    first | refine SL.skip rfl rfl ?_ | refine SL.y (op_lssT rfl rfl (by omega)) rfl rfl ?_ | refine SL.y (op_lssF rfl rfl (by omega)) rfl rfl ?_ | refine SL.y (op_lss rfl rfl) rfl rfl ?_
    first | refine SL.y (op_pickT rfl rfl) rfl rfl ?_ | refine SL.y (op_pickF rfl rfl) rfl rfl ?_ | refine SL.y (op_pickB rfl rfl rfl) rfl rfl ?_
    refine SL.y (op_move rfl) rfl rfl ?_
    first | refine SL.skip rfl rfl ?_ | refine SL.y (op_move rfl) rfl rfl ?_
    first | refine SL.skip rfl rfl ?_ | refine SL.y (op_gtrT rfl rfl (by omega)) rfl rfl ?_ | refine SL.y (op_gtrF rfl rfl (by omega)) rfl rfl ?_ | refine SL.y (op_gtr rfl rfl) rfl rfl ?_
    first | refine SL.y (op_pickT rfl rfl) rfl rfl ?_ | refine SL.y (op_pickF rfl rfl) rfl rfl ?_ | refine SL.y (op_pickB rfl rfl rfl) rfl rfl ?_
    refine SL.y (op_assign rfl) rfl rfl ?_
    refine SL.nil ?_
    refine T.condT rfl ?_
    refine T.seq ?_
    refine T.region ?_
    refine SL.y (op_assign rfl) rfl rfl ?_
    refine SL.y (op_assign (v := .int .i64 ((1 : Nat) : Int)) rfl) rfl rfl ?_
    refine SL.nil ?_
    -- ret
    refine T.ret2 rfl (ResIs.tmp rfl) (ResIs.tmp rfl) ?_
    rw [hk]; rfl
  by_cases hu2 : 256 < u
  · have hk : asgErr u r t = 1 := by simp [asgErr, keyOk]; omega
    refine Spec.enter Tryd.func15 rfl Tryd.ntmps15 rfl ?_
    intro w0 hw0
    refine T.seq ?_
    refine T.region ?_
    refine SL.y (op_assign rfl) rfl rfl ?_
    refine SL.y (op_assign (v := .int .i64 ((0 : Nat) : Int)) rfl) rfl rfl ?_
    refine SL.nil ?_
    refine T.seq ?_
    refine T.block ?_
    refine T.seq ?_
    refine T.region ?_
    refine SL.y (op_move rfl) rfl rfl ?_
    refine SL.y (op_eqlNil Tryd.underlying24 rfl rfl) rfl rfl ?_
    refine SL.y (op_move rfl) rfl rfl ?_
    first | refine SL.skip rfl rfl ?_ | refine SL.y (op_move rfl) rfl rfl ?_
    first | refine SL.skip rfl rfl ?_ | refine SL.y (op_lssT rfl rfl (by omega)) rfl rfl ?_ | refine SL.y (op_lssF rfl rfl (by omega)) rfl rfl ?_ | refine SL.y (op_lss rfl rfl) rfl rfl ?_
    first | refine SL.y (op_pickT rfl rfl) rfl rfl ?_ | refine SL.y (op_pickF rfl rfl) rfl rfl ?_ | refine SL.y (op_pickB rfl rfl rfl) rfl rfl ?_
    refine SL.y (op_move rfl) rfl rfl ?_
    first | refine SL.skip rfl rfl ?_ | refine SL.y (op_move rfl) rfl rfl ?_
    first | refine SL.skip rfl rfl ?_ | refine SL.y (op_gtrT rfl rfl (by omega)) rfl rfl ?_ | refine SL.y (op_gtrF rfl rfl (by omega)) rfl rfl ?_ | refine SL.y (op_gtr rfl rfl) rfl rfl ?_
    first | refine SL.y (op_pickT rfl rfl) rfl rfl ?_ | refine SL.y (op_pickF rfl rfl) rfl rfl ?_ | refine SL.y (op_pickB rfl rfl rfl) rfl rfl ?_
    refine SL.y (op_move rfl) rfl rfl ?_
    first | refine SL.skip rfl rfl ?_ | refine SL.y (op_move rfl) rfl rfl ?_
    first | refine SL.skip rfl rfl ?_ | refine SL.y (op_lssT rfl rfl (by omega)) rfl rfl ?_ | refine SL.y (op_lssF rfl rfl (by omega)) rfl rfl ?_ | refine SL.y (op_lss rfl rfl) rfl rfl ?_
    first | refine SL.y (op_pickT rfl rfl) rfl rfl ?_ | refine SL.y (op_pickF rfl rfl) rfl rfl ?_ | refine SL.y (op_pickB rfl rfl rfl) rfl rfl ?_
    refine SL.y (op_move rfl) rfl rfl ?_
    first | refine SL.skip rfl rfl ?_ | refine SL.y (op_move rfl) rfl rfl ?_
    first | refine SL.skip rfl rfl ?_ | refine SL.y (op_gtrT rfl rfl (by omega)) rfl rfl ?_ | refine SL.y (op_gtrF rfl rfl (by omega)) rfl rfl ?_ | refine SL.y (op_gtr rfl rfl) rfl rfl ?_
    first | refine SL.y (op_pickT rfl rfl) rfl rfl ?_ | refine SL.y (op_pickF rfl rfl) rfl rfl ?_ | refine SL.y (op_pickB rfl rfl rfl) rfl rfl ?_
    refine SL.y (op_assign rfl) rfl rfl ?_
    refine SL.nil ?_
    refine T.condT rfl ?_
    refine T.seq ?_
    refine T.region ?_
    refine SL.y (op_assign rfl) rfl rfl ?_
    refine SL.y (op_assign (v := .int .i64 ((1 : Nat) : Int)) rfl) rfl rfl ?_
    refine SL.nil ?_
    -- ret
    refine T.ret2 rfl (ResIs.tmp rfl) (ResIs.tmp rfl) ?_
    rw [hk]; rfl
  by_cases hr1 : r < 1
  · have hk : asgErr u r t = 1 := by simp [asgErr, keyOk]; omega
    refine Spec.enter Tryd.func15 rfl Tryd.ntmps15 rfl ?_
    intro w0 hw0
    refine T.seq ?_
    refine T.region ?_
    refine SL.y (op_assign rfl) rfl rfl ?_
    refine SL.y (op_assign (v := .int .i64 ((0 : Nat) : Int)) rfl) rfl rfl ?_
    refine SL.nil ?_
    refine T.seq ?_
    refine T.block ?_
    refine T.seq ?_
    refine T.region ?_
    refine SL.y (op_move rfl) rfl rfl ?_
    refine SL.y (op_eqlNil Tryd.underlying24 rfl rfl) rfl rfl ?_
    refine SL.y (op_move rfl) rfl rfl ?_
    first | refine SL.skip rfl rfl ?_ | refine SL.y (op_move rfl) rfl rfl ?_
    first | refine SL.skip rfl rfl ?_ | refine SL.y (op_lssT rfl rfl (by omega)) rfl rfl ?_ | refine SL.y (op_lssF rfl rfl (by omega)) rfl rfl ?_ | refine SL.y (op_lss rfl rfl) rfl rfl ?_
    first | refine SL.y (op_pickT rfl rfl) rfl rfl ?_ | refine SL.y (op_pickF rfl rfl) rfl rfl ?_ | refine SL.y (op_pickB rfl rfl rfl) rfl rfl ?_
    refine SL.y (op_move rfl) rfl rfl ?_
    first | refine SL.skip rfl rfl ?_ | refine SL.y (op_move rfl) rfl rfl ?_
    first | refine SL.skip rfl rfl ?_ | refine SL.y (op_gtrT rfl rfl (by omega)) rfl rfl ?_ | refine SL.y (op_gtrF rfl rfl (by omega)) rfl rfl ?_ | refine SL.y (op_gtr rfl rfl) rfl rfl ?_
    first | refine SL.y (op_pickT rfl rfl) rfl rfl ?_ | refine SL.y (op_pickF rfl rfl) rfl rfl ?_ | refine SL.y (op_pickB rfl rfl rfl) rfl rfl ?_
    refine SL.y (op_move rfl) rfl rfl ?_
    first | refine SL.skip rfl rfl ?_ | refine SL.y (op_move rfl) rfl rfl ?_
    first | refine SL.skip rfl rfl ?_ | refine SL.y (op_lssT rfl rfl (by omega)) rfl rfl ?_ | refine SL.y (op_lssF rfl rfl (by omega)) rfl rfl ?_ | refine SL.y (op_lss rfl rfl) rfl rfl ?_
    first | refine SL.y (op_pickT rfl rfl) rfl rfl ?_ | refine SL.y (op_pickF rfl rfl) rfl rfl ?_ | refine SL.y (op_pickB rfl rfl rfl) rfl rfl ?_
    refine SL.y (op_move rfl) rfl rfl ?_
    first | refine SL.skip rfl rfl ?_ | refine SL.y (op_move rfl) rfl rfl ?_
    first | refine SL.skip rfl rfl ?_ | refine SL.y (op_gtrT rfl rfl (by omega)) rfl rfl ?_ | refine SL.y (op_gtrF rfl rfl (by omega)) rfl rfl ?_ | refine SL.y (op_gtr rfl rfl) rfl rfl ?_
    first | refine SL.y (op_pickT rfl rfl) rfl rfl ?_ | refine SL.y (op_pickF rfl rfl) rfl rfl ?_ | refine SL.y (op_pickB rfl rfl rfl) rfl rfl ?_
    refine SL.y (op_assign rfl) rfl rfl ?_
    refine SL.nil ?_
    refine T.condT rfl ?_
    refine T.seq ?_
    refine T.region ?_
    refine SL.y (op_assign rfl) rfl rfl ?_
    refine SL.y (op_assign (v := .int .i64 ((1 : Nat) : Int)) rfl) rfl rfl ?_
    refine SL.nil ?_
    -- ret
    refine T.ret2 rfl (ResIs.tmp rfl) (ResIs.tmp rfl) ?_
    rw [hk]; rfl
  by_cases hr2 : 63 < r
  · have hk : asgErr u r t = 1 := by simp [asgErr, keyOk]; omega
    refine Spec.enter Tryd.func15 rfl Tryd.ntmps15 rfl ?_
    intro w0 hw0
    refine T.seq ?_
    refine T.region ?_
    refine SL.y (op_assign rfl) rfl rfl ?_
    refine SL.y (op_assign (v := .int .i64 ((0 : Nat) : Int)) rfl) rfl rfl ?_
    refine SL.nil ?_
    refine T.seq ?_
    refine T.block ?_
    refine T.seq ?_
    refine T.region ?_
    refine SL.y (op_move rfl) rfl rfl ?_
    refine SL.y (op_eqlNil Tryd.underlying24 rfl rfl) rfl rfl ?_
    refine SL.y (op_move rfl) rfl rfl ?_
    first | refine SL.skip rfl rfl ?_ | refine SL.y (op_move rfl) rfl rfl ?_
    first | refine SL.skip rfl rfl ?_ | refine SL.y (op_lssT rfl rfl (by omega)) rfl rfl ?_ | refine SL.y (op_lssF rfl rfl (by omega)) rfl rfl ?_ | refine SL.y (op_lss rfl rfl) rfl rfl ?_
    first | refine SL.y (op_pickT rfl rfl) rfl rfl ?_ | refine SL.y (op_pickF rfl rfl) rfl rfl ?_ | refine SL.y (op_pickB rfl rfl rfl) rfl rfl ?_
    refine SL.y (op_move rfl) rfl rfl ?_
    first | refine SL.skip rfl rfl ?_ | refine SL.y (op_move rfl) rfl rfl ?_
    first | refine SL.skip rfl rfl ?_ | refine SL.y (op_gtrT rfl rfl (by omega)) rfl rfl ?_ | refine SL.y (op_gtrF rfl rfl (by omega)) rfl rfl ?_ | refine SL.y (op_gtr rfl rfl) rfl rfl ?_
    first | refine SL.y (op_pickT rfl rfl) rfl rfl ?_ | refine SL.y (op_pickF rfl rfl) rfl rfl ?_ | refine SL.y (op_pickB rfl rfl rfl) rfl rfl ?_
    refine SL.y (op_move rfl) rfl rfl ?_
    first | refine SL.skip rfl rfl ?_ | refine SL.y (op_move rfl) rfl rfl ?_
    first | refine SL.skip rfl rfl ?_ | refine SL.y (op_lssT rfl rfl (by omega)) rfl rfl ?_ | refine SL.y (op_lssF rfl rfl (by omega)) rfl rfl ?_ | refine SL.y (op_lss rfl rfl) rfl rfl ?_
    first | refine SL.y (op_pickT rfl rfl) rfl rfl ?_ | refine SL.y (op_pickF rfl rfl) rfl rfl ?_ | refine SL.y (op_pickB rfl rfl rfl) rfl rfl ?_
    refine SL.y (op_move rfl) rfl rfl ?_
    first | refine SL.skip rfl rfl ?_ | refine SL.y (op_move rfl) rfl rfl ?_
    first | refine SL.skip rfl rfl ?_ | refine SL.y (op_gtrT rfl rfl (by omega)) rfl rfl ?_ | refine SL.y (op_gtrF rfl rfl (by omega)) rfl rfl ?_ | refine SL.y (op_gtr rfl rfl) rfl rfl ?_
    first | refine SL.y (op_pickT rfl rfl) rfl rfl ?_ | refine SL.y (op_pickF rfl rfl) rfl rfl ?_ | refine SL.y (op_pickB rfl rfl rfl) rfl rfl ?_
    refine SL.y (op_assign rfl) rfl rfl ?_
    refine SL.nil ?_
    refine T.condT rfl ?_
    refine T.seq ?_
    refine T.region ?_
    refine SL.y (op_assign rfl) rfl rfl ?_
    refine SL.y (op_assign (v := .int .i64 ((1 : Nat) : Int)) rfl) rfl rfl ?_
    refine SL.nil ?_
    -- ret
    refine T.ret2 rfl (ResIs.tmp rfl) (ResIs.tmp rfl) ?_
    rw [hk]; rfl
  have hkk : keyOk u r = true := by simp [keyOk]; omega
  by_cases ht1 : t < 0
  · have hk : asgErr u r t = 2 := by simp [asgErr, hkk]; omega
    refine Spec.enter Tryd.func15 rfl Tryd.ntmps15 rfl ?_
    intro w0 hw0
    refine T.seq ?_
    refine T.region ?_
    refine SL.y (op_assign rfl) rfl rfl ?_
    refine SL.y (op_assign (v := .int .i64 ((0 : Nat) : Int)) rfl) rfl rfl ?_
    refine SL.nil ?_
    refine T.seq ?_
    refine T.block ?_
    refine T.seq ?_
    refine T.region ?_
    refine SL.y (op_move rfl) rfl rfl ?_
    refine SL.y (op_eqlNil Tryd.underlying24 rfl rfl) rfl rfl ?_
    refine SL.y (op_move rfl) rfl rfl ?_
    first | refine SL.skip rfl rfl ?_ | refine SL.y (op_move rfl) rfl rfl ?_
    first | refine SL.skip rfl rfl ?_ | refine SL.y (op_lssT rfl rfl (by omega)) rfl rfl ?_ | refine SL.y (op_lssF rfl rfl (by omega)) rfl rfl ?_ | refine SL.y (op_lss rfl rfl) rfl rfl ?_
    first | refine SL.y (op_pickT rfl rfl) rfl rfl ?_ | refine SL.y (op_pickF rfl rfl) rfl rfl ?_ | refine SL.y (op_pickB rfl rfl rfl) rfl rfl ?_
    refine SL.y (op_move rfl) rfl rfl ?_
    first | refine SL.skip rfl rfl ?_ | refine SL.y (op_move rfl) rfl rfl ?_
    first | refine SL.skip rfl rfl ?_ | refine SL.y (op_gtrT rfl rfl (by omega)) rfl rfl ?_ | refine SL.y (op_gtrF rfl rfl (by omega)) rfl rfl ?_ | refine SL.y (op_gtr rfl rfl) rfl rfl ?_
    first | refine SL.y (op_pickT rfl rfl) rfl rfl ?_ | refine SL.y (op_pickF rfl rfl) rfl rfl ?_ | refine SL.y (op_pickB rfl rfl rfl) rfl rfl ?_
    refine SL.y (op_move rfl) rfl rfl ?_
    first | refine SL.skip rfl rfl ?_ | refine SL.y (op_move rfl) rfl rfl ?_
    first | refine SL.skip rfl rfl ?_ | refine SL.y (op_lssT rfl rfl (by omega)) rfl rfl ?_ | refine SL.y (op_lssF rfl rfl (by omega)) rfl rfl ?_ | refine SL.y (op_lss rfl rfl) rfl rfl ?_
    first | refine SL.y (op_pickT rfl rfl) rfl rfl ?_ | refine SL.y (op_pickF rfl rfl) rfl rfl ?_ | refine SL.y (op_pickB rfl rfl rfl) rfl rfl ?_
    refine SL.y (op_move rfl) rfl rfl ?_
    first | refine SL.skip rfl rfl ?_ | refine SL.y (op_move rfl) rfl rfl ?_
    first | refine SL.skip rfl rfl ?_ | refine SL.y (op_gtrT rfl rfl (by omega)) rfl rfl ?_ | refine SL.y (op_gtrF rfl rfl (by omega)) rfl rfl ?_ | refine SL.y (op_gtr rfl rfl) rfl rfl ?_
    first | refine SL.y (op_pickT rfl rfl) rfl rfl ?_ | refine SL.y (op_pickF rfl rfl) rfl rfl ?_ | refine SL.y (op_pickB rfl rfl rfl) rfl rfl ?_
    refine SL.y (op_assign rfl) rfl rfl ?_
    refine SL.nil ?_
    refine T.condF rfl ?_
    refine T.seq ?_
    refine T.region ?_
    refine SL.y (op_move rfl) rfl rfl ?_
    first | refine SL.y (op_lssT rfl rfl (by omega)) rfl rfl ?_ | refine SL.y (op_lssF rfl rfl (by omega)) rfl rfl ?_ | refine SL.y (op_lss rfl rfl) rfl rfl ?_
    refine SL.y (op_move rfl) rfl rfl ?_
    first | refine SL.skip rfl rfl ?_ | refine SL.y (op_move rfl) rfl rfl ?_
    first | refine SL.skip rfl rfl ?_ | refine SL.y (op_gtrT rfl rfl (by omega)) rfl rfl ?_ | refine SL.y (op_gtrF rfl rfl (by omega)) rfl rfl ?_ | refine SL.y (op_gtr rfl rfl) rfl rfl ?_
    first | refine SL.y (op_pickT rfl rfl) rfl rfl ?_ | refine SL.y (op_pickF rfl rfl) rfl rfl ?_ | refine SL.y (op_pickB rfl rfl rfl) rfl rfl ?_
    refine SL.y (op_assign rfl) rfl rfl ?_
    refine SL.nil ?_
    refine T.condT rfl ?_
    refine T.seq ?_
    refine T.region ?_
    refine SL.y (op_assign rfl) rfl rfl ?_
    refine SL.y (op_assign (v := .int .i64 ((2 : Nat) : Int)) rfl) rfl rfl ?_
    refine SL.nil ?_
    -- ret
    refine T.ret2 rfl (ResIs.tmp rfl) (ResIs.tmp rfl) ?_
    rw [hk]; rfl
  by_cases ht2 : 30000 < t
  · have hk : asgErr u r t = 2 := by simp [asgErr, hkk]; omega
    refine Spec.enter Tryd.func15 rfl Tryd.ntmps15 rfl ?_
    intro w0 hw0
    refine T.seq ?_
    refine T.region ?_
    refine SL.y (op_assign rfl) rfl rfl ?_
    refine SL.y (op_assign (v := .int .i64 ((0 : Nat) : Int)) rfl) rfl rfl ?_
    refine SL.nil ?_
    refine T.seq ?_
    refine T.block ?_
    refine T.seq ?_
    refine T.region ?_
    refine SL.y (op_move rfl) rfl rfl ?_
    refine SL.y (op_eqlNil Tryd.underlying24 rfl rfl) rfl rfl ?_
    refine SL.y (op_move rfl) rfl rfl ?_
    first | refine SL.skip rfl rfl ?_ | refine SL.y (op_move rfl) rfl rfl ?_
    first | refine SL.skip rfl rfl ?_ | refine SL.y (op_lssT rfl rfl (by omega)) rfl rfl ?_ | refine SL.y (op_lssF rfl rfl (by omega)) rfl rfl ?_ | refine SL.y (op_lss rfl rfl) rfl rfl ?_
    first | refine SL.y (op_pickT rfl rfl) rfl rfl ?_ | refine SL.y (op_pickF rfl rfl) rfl rfl ?_ | refine SL.y (op_pickB rfl rfl rfl) rfl rfl ?_
    refine SL.y (op_move rfl) rfl rfl ?_
    first | refine SL.skip rfl rfl ?_ | refine SL.y (op_move rfl) rfl rfl ?_
    first | refine SL.skip rfl rfl ?_ | refine SL.y (op_gtrT rfl rfl (by omega)) rfl rfl ?_ | refine SL.y (op_gtrF rfl rfl (by omega)) rfl rfl ?_ | refine SL.y (op_gtr rfl rfl) rfl rfl ?_
    first | refine SL.y (op_pickT rfl rfl) rfl rfl ?_ | refine SL.y (op_pickF rfl rfl) rfl rfl ?_ | refine SL.y (op_pickB rfl rfl rfl) rfl rfl ?_
    refine SL.y (op_move rfl) rfl rfl ?_
    first | refine SL.skip rfl rfl ?_ | refine SL.y (op_move rfl) rfl rfl ?_
    first | refine SL.skip rfl rfl ?_ | refine SL.y (op_lssT rfl rfl (by omega)) rfl rfl ?_ | refine SL.y (op_lssF rfl rfl (by omega)) rfl rfl ?_ | refine SL.y (op_lss rfl rfl) rfl rfl ?_
    first | refine SL.y (op_pickT rfl rfl) rfl rfl ?_ | refine SL.y (op_pickF rfl rfl) rfl rfl ?_ | refine SL.y (op_pickB rfl rfl rfl) rfl rfl ?_
    refine SL.y (op_move rfl) rfl rfl ?_
    first | refine SL.skip rfl rfl ?_ | refine SL.y (op_move rfl) rfl rfl ?_
    first | refine SL.skip rfl rfl ?_ | refine SL.y (op_gtrT rfl rfl (by omega)) rfl rfl ?_ | refine SL.y (op_gtrF rfl rfl (by omega)) rfl rfl ?_ | refine SL.y (op_gtr rfl rfl) rfl rfl ?_
    first | refine SL.y (op_pickT rfl rfl) rfl rfl ?_ | refine SL.y (op_pickF rfl rfl) rfl rfl ?_ | refine SL.y (op_pickB rfl rfl rfl) rfl rfl ?_
    refine SL.y (op_assign rfl) rfl rfl ?_
    refine SL.nil ?_
    refine T.condF rfl ?_
    refine T.seq ?_
    refine T.region ?_
    refine SL.y (op_move rfl) rfl rfl ?_
    first | refine SL.y (op_lssT rfl rfl (by omega)) rfl rfl ?_ | refine SL.y (op_lssF rfl rfl (by omega)) rfl rfl ?_ | refine SL.y (op_lss rfl rfl) rfl rfl ?_
    refine SL.y (op_move rfl) rfl rfl ?_
    first | refine SL.skip rfl rfl ?_ | refine SL.y (op_move rfl) rfl rfl ?_
    first | refine SL.skip rfl rfl ?_ | refine SL.y (op_gtrT rfl rfl (by omega)) rfl rfl ?_ | refine SL.y (op_gtrF rfl rfl (by omega)) rfl rfl ?_ | refine SL.y (op_gtr rfl rfl) rfl rfl ?_
    first | refine SL.y (op_pickT rfl rfl) rfl rfl ?_ | refine SL.y (op_pickF rfl rfl) rfl rfl ?_ | refine SL.y (op_pickB rfl rfl rfl) rfl rfl ?_
    refine SL.y (op_assign rfl) rfl rfl ?_
    refine SL.nil ?_
    refine T.condT rfl ?_
    refine T.seq ?_
    refine T.region ?_
    refine SL.y (op_assign rfl) rfl rfl ?_
    refine SL.y (op_assign (v := .int .i64 ((2 : Nat) : Int)) rfl) rfl rfl ?_
    refine SL.nil ?_
    -- ret
    refine T.ret2 rfl (ResIs.tmp rfl) (ResIs.tmp rfl) ?_
    rw [hk]; rfl
  have hk : asgErr u r t = 0 := by simp [asgErr, hkk]; omega
  refine Spec.enter Tryd.func15 rfl Tryd.ntmps15 rfl ?_
  intro w0 hw0
  refine T.seq ?_
  refine T.region ?_
  refine SL.y (op_assign rfl) rfl rfl ?_
  refine SL.y (op_assign (v := .int .i64 ((0 : Nat) : Int)) rfl) rfl rfl ?_
  refine SL.nil ?_
  refine T.seq ?_
  refine T.block ?_
  refine T.seq ?_
  refine T.region ?_
  refine SL.y (op_move rfl) rfl rfl ?_
  refine SL.y (op_eqlNil Tryd.underlying24 rfl rfl) rfl rfl ?_
  refine SL.y (op_move rfl) rfl rfl ?_
  first | refine SL.skip rfl rfl ?_ | refine SL.y (op_move rfl) rfl rfl ?_
  first | refine SL.skip rfl rfl ?_ | refine SL.y (op_lssT rfl rfl (by omega)) rfl rfl ?_ | refine SL.y (op_lssF rfl rfl (by omega)) rfl rfl ?_ | refine SL.y (op_lss rfl rfl) rfl rfl ?_
  first | refine SL.y (op_pickT rfl rfl) rfl rfl ?_ | refine SL.y (op_pickF rfl rfl) rfl rfl ?_ | refine SL.y (op_pickB rfl rfl rfl) rfl rfl ?_
  refine SL.y (op_move rfl) rfl rfl ?_
  first | refine SL.skip rfl rfl ?_ | refine SL.y (op_move rfl) rfl rfl ?_
  first | refine SL.skip rfl rfl ?_ | refine SL.y (op_gtrT rfl rfl (by omega)) rfl rfl ?_ | refine SL.y (op_gtrF rfl rfl (by omega)) rfl rfl ?_ | refine SL.y (op_gtr rfl rfl) rfl rfl ?_
  first | refine SL.y (op_pickT rfl rfl) rfl rfl ?_ | refine SL.y (op_pickF rfl rfl) rfl rfl ?_ | refine SL.y (op_pickB rfl rfl rfl) rfl rfl ?_
  refine SL.y (op_move rfl) rfl rfl ?_
  first | refine SL.skip rfl rfl ?_ | refine SL.y (op_move rfl) rfl rfl ?_
  first | refine SL.skip rfl rfl ?_ | refine SL.y (op_lssT rfl rfl (by omega)) rfl rfl ?_ | refine SL.y (op_lssF rfl rfl (by omega)) rfl rfl ?_ | refine SL.y (op_lss rfl rfl) rfl rfl ?_
  first | refine SL.y (op_pickT rfl rfl) rfl rfl ?_ | refine SL.y (op_pickF rfl rfl) rfl rfl ?_ | refine SL.y (op_pickB rfl rfl rfl) rfl rfl ?_
  refine SL.y (op_move rfl) rfl rfl ?_
  first | refine SL.skip rfl rfl ?_ | refine SL.y (op_move rfl) rfl rfl ?_
  first | refine SL.skip rfl rfl ?_ | refine SL.y (op_gtrT rfl rfl (by omega)) rfl rfl ?_ | refine SL.y (op_gtrF rfl rfl (by omega)) rfl rfl ?_ | refine SL.y (op_gtr rfl rfl) rfl rfl ?_
  first | refine SL.y (op_pickT rfl rfl) rfl rfl ?_ | refine SL.y (op_pickF rfl rfl) rfl rfl ?_ | refine SL.y (op_pickB rfl rfl rfl) rfl rfl ?_
  refine SL.y (op_assign rfl) rfl rfl ?_
  refine SL.nil ?_
  refine T.condF rfl ?_
  refine T.seq ?_
  refine T.region ?_
  refine SL.y (op_move rfl) rfl rfl ?_
  first | refine SL.y (op_lssT rfl rfl (by omega)) rfl rfl ?_ | refine SL.y (op_lssF rfl rfl (by omega)) rfl rfl ?_ | refine SL.y (op_lss rfl rfl) rfl rfl ?_
  refine SL.y (op_move rfl) rfl rfl ?_
  first | refine SL.skip rfl rfl ?_ | refine SL.y (op_move rfl) rfl rfl ?_
  first | refine SL.skip rfl rfl ?_ | refine SL.y (op_gtrT rfl rfl (by omega)) rfl rfl ?_ | refine SL.y (op_gtrF rfl rfl (by omega)) rfl rfl ?_ | refine SL.y (op_gtr rfl rfl) rfl rfl ?_
  first | refine SL.y (op_pickT rfl rfl) rfl rfl ?_ | refine SL.y (op_pickF rfl rfl) rfl rfl ?_ | refine SL.y (op_pickB rfl rfl rfl) rfl rfl ?_
  refine SL.y (op_assign rfl) rfl rfl ?_
  refine SL.nil ?_
  refine T.condF rfl ?_
  refine T.skip ?_
  refine T.blk ?_
  refine T.seq ?_
  refine T.region ?_
  refine SL.y (op_move rfl) rfl rfl ?_
  first | refine SL.y (op_nil rfl) rfl rfl ?_ | refine SL.y (op_nilFn rfl) rfl rfl ?_
  refine SL.y (op_fieldAddr fa90_0 rfl) rfl rfl ?_
  first | refine SL.y (op_load ty74 rfl (by repeat (first | exact AtO.here | apply AtO.there)) rfl) rfl rfl ?_ | refine SL.y (op_loadX ty74 rfl (by assumption) rfl) rfl rfl ?_
  -- op
  refine SL.x (op_callO en47 (vs := [_]) rfl (eclone_spec hs (by omega))) rfl rfl ?_
  rintro sv1 own1 X1 ⟨_, rfl, hX1, hG⟩
  have hGG := hG
  obtain ⟨A1, cp1, rfl⟩ := hG.form
  refine SL.y (op_assign rfl) rfl rfl ?_
  refine SL.nil ?_
  refine T.seq ?_
  refine T.region ?_
  refine SL.y (op_move rfl) rfl rfl ?_
  refine SL.y (op_move rfl) rfl rfl ?_
  refine SL.y (op_move rfl) rfl rfl ?_
  -- op
  refine SL.x (op_callF en48 (vs := [_, _, _]) rfl (find_spec (hb.mono hX1) (hs.mono hX1) hw (by omega) (u := u) (r := r) (by omega) (by omega))) rfl rfl ?_
  rintro _ _ X2 ⟨rfl, hX2, rfl⟩
  cases hh : hasE l u r with
  | true =>
    obtain ⟨e, he, hke⟩ := has_pos hw hh
    have hpl := (List.getElem?_eq_some_iff.1 he).1
    simp only [keyB, decide_eq_true_eq] at hke
    have hset : csets (enC l) (0 + posE l u r * 3 + 2) [.int .i64 t] = enC (l.set (posE l u r) (u, r, t)) := by
      have := set_cells he (o := 0 + posE l u r * 3 + 2) (by omega) t
      rwa [hke.1, hke.2] at this
    rcases hG with ⟨h0, _⟩ | ⟨bc, cap, hv, rfl, hc1, hc2, hc3⟩
    · omega
    obtain ⟨rfl, rfl⟩ : A1 = some ⟨bc, 0, none⟩ ∧ cp1 = cap := by injection hv with h1 h2 h3; exact ⟨h1, h3⟩
    refine SL.y (op_move rfl) rfl rfl ?_
    refine SL.y (op_extract rfl rfl) rfl rfl ?_
    refine SL.y (op_extract rfl rfl) rfl rfl ?_
    refine SL.y (op_assign rfl) rfl rfl ?_
    refine SL.y (op_assign rfl) rfl rfl ?_
    refine SL.nil ?_
    refine T.seq ?_
    refine T.seq ?_
    refine T.region ?_
    refine SL.y (op_move rfl) rfl rfl ?_
    refine SL.nil ?_
    refine T.condT rfl ?_
    refine T.region ?_
    refine SL.y (op_move rfl) rfl rfl ?_
    refine SL.y (op_move rfl) rfl rfl ?_
    refine SL.y (op_move rfl) rfl rfl ?_
    first | refine SL.y (op_indexN Tryd.underlying74 ty76 rfl rfl (by omega)) rfl rfl ?_ | refine SL.y (op_index Tryd.underlying74 ty76 rfl rfl (by omega) (by omega)) rfl rfl ?_
    refine SL.y (op_fieldAddr fa76_2 rfl) rfl rfl ?_
    -- to store: op
    refine SL.x (op_store ty3 rfl rfl AtO.here rfl rfl (Nat.ble_eq_true_of_le (by rw [enC_len]; omega))) rfl rfl ?_
    rintro _ _ _ ⟨rfl, rfl⟩
    refine SL.nil ?_
    refine T.seq ?_
    refine T.region ?_
    refine SL.y (op_move rfl) rfl rfl ?_
    refine SL.y (op_build st90 (qs := [(0, _)]) rfl rfl) rfl rfl ?_
    refine SL.x (op_box rfl) rfl rfl ?_
    rintro _ _ _ ⟨B67, rfl, rfl, rfl⟩
    refine SL.y (op_assign rfl) rfl rfl ?_
    refine SL.y (op_assign (v := .int .i64 ((0 : Nat) : Int)) rfl) rfl rfl ?_
    refine SL.nil ?_
    -- ret
    refine T.perm (own' := [⟨B67, [.slice (some ⟨bc, 0, none⟩) l.length cp1], 90, 1⟩] ++ [⟨bc, enC (l.set (posE l u r) (u, r, t)), 76, cp1 * 3⟩]) (List.Perm.of_eq (by rw [← hset]; rfl)) ?_
    refine T.pubG (own0 := [_]) (v := .slice (some ⟨bc, 0, none⟩) l.length cp1) (len := l.length) (.inr ⟨bc, cp1, rfl, rfl, hc1, hc2, by rw [enC_len, List.length_set]⟩) ?_
    intro X5 hX5 hS5
    refine T.pub B67 (by repeat (first | exact AtO.here | apply AtO.there)) ?_
    intro X6 hX6 hB6 _
    refine T.ret2 rfl (ResIs.tmp rfl) (ResIs.tmp rfl) ?_
    rw [if_pos hk]
    exact ⟨_, rfl, B67, _, rfl, hB6, by rw [asgP, if_pos hh, List.length_set]; exact hS5.mono hX6⟩
  | false =>
    have hple := posE_le l u r
    refine SL.y (op_move rfl) rfl rfl ?_
    refine SL.y (op_extract rfl rfl) rfl rfl ?_
    refine SL.y (op_extract rfl rfl) rfl rfl ?_
    refine SL.y (op_assign rfl) rfl rfl ?_
    refine SL.y (op_assign rfl) rfl rfl ?_
    refine SL.nil ?_
    refine T.seq ?_
    refine T.seq ?_
    refine T.region ?_
    refine SL.y (op_move rfl) rfl rfl ?_
    refine SL.nil ?_
    refine T.condF rfl ?_
    refine T.region ?_
    refine SL.y (op_move rfl) rfl rfl ?_
    refine SL.y (op_move rfl) rfl rfl ?_
    refine SL.y (op_move rfl) rfl rfl ?_
    refine SL.y (op_move rfl) rfl rfl ?_
    refine SL.y (op_move rfl) rfl rfl ?_
    refine SL.y (op_build st76 (qs := [(0, _), (1, _), (2, _)]) rfl rfl) rfl rfl ?_
    refine SL.x (op_buildSlice Tryd.underlying74 bs76 (qs := [(0, _)]) rfl rfl rfl rfl rfl) rfl rfl ?_
    rintro _ _ _ ⟨B63, rfl, rfl, rfl⟩
    -- op
    refine SL.x (op_callM en49 (vs := [_, _, _]) rfl (insert_spec (x := (u, r, t)) hGG hple (by omega)) rfl) rfl rfl ?_
    rintro sv2 _ X4 ⟨L', rfl, hX4, hG'⟩
    obtain ⟨A2, cp2, rfl⟩ := hG'.form
    refine SL.y (op_assign rfl) rfl rfl ?_
    refine SL.nil ?_
    refine T.seq ?_
    refine T.region ?_
    refine SL.y (op_move rfl) rfl rfl ?_
    refine SL.y (op_build st90 (qs := [(0, _)]) rfl rfl) rfl rfl ?_
    refine SL.x (op_box rfl) rfl rfl ?_
    rintro _ _ _ ⟨B67, rfl, rfl, rfl⟩
    refine SL.y (op_assign rfl) rfl rfl ?_
    refine SL.y (op_assign (v := .int .i64 ((0 : Nat) : Int)) rfl) rfl rfl ?_
    refine SL.nil ?_
    -- ret
    refine T.perm (own' := [⟨B67, [.slice A2 (l.length + 1) cp2], 90, 1⟩] ++ L') (List.Perm.cons _ (by simp)) ?_
    refine T.pubG (own0 := [_]) hG' ?_
    intro X5 hX5 hS5
    refine T.pub B67 (by repeat (first | exact AtO.here | apply AtO.there)) ?_
    intro X6 hX6 hB6 _
    refine T.ret2 rfl (ResIs.tmp rfl) (ResIs.tmp rfl) ?_
    rw [if_pos hk]
    have hlen : (asgP l u r t).length = l.length + 1 := by rw [asgP, if_neg (by rw [hh]; simp), List.length_append, List.length_cons, List.length_take, List.length_drop]; omega
    exact ⟨_, rfl, B67, _, rfl, hB6, by rw [hlen, asgP, if_neg (by rw [hh]; simp)]; exact hS5.mono hX6⟩
end Go.Proofs.YtkmnlogacfkjmaaDoor
