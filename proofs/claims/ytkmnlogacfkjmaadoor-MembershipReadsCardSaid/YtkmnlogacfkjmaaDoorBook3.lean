/- Books: what is asked of a book. -/
import Derived.Test.YtkmnlogacfkjmaaDoorBook2
namespace Go.Proofs.YtkmnlogacfkjmaaDoor
section
set_option maxRecDepth 100000
theorem en47 : Enters Tryd.prog 47 := enters_mk Tryd.func47 (by kernel_rfl) rfl
theorem en54 : Enters Tryd.prog 54 := enters_mk Tryd.func54 (by kernel_rfl) rfl
theorem fa76_2 : FAdr Tryd.prog 76 2 2 := fadr_mk Tryd.underlying76 rfl rfl (by kernel_rfl)
end
open Go.RowKit
theorem pos_lt {l : List En} {u r : Int} {q : Nat} {x : En} (hq : q < posE l u r) (hx : l[q]? = some x) : ltB u r x = true := by
  have h := List.takeWhile_append_dropWhile (p := ltB u r) (l := l)
  rw [← h, List.getElem?_append_left hq] at hx
  exact List.all_eq_true.1 (List.all_takeWhile (p := ltB u r) (l := l)) x (List.mem_of_getElem? hx)
theorem pos_ge {l : List En} (hw : WfL l) {u r : Int} {q : Nat} {x : En} (hq : posE l u r ≤ q) (hx : l[q]? = some x) : ltB u r x = false := by
  have h := List.takeWhile_append_dropWhile (p := ltB u r) (l := l)
  have hql := (List.getElem?_eq_some_iff.1 hx).1
  have hpl : posE l u r < l.length := by omega
  have hp : l[posE l u r]? = some l[posE l u r] := List.getElem?_eq_getElem hpl
  refine sorted_ge hw hp hx hq ?_
  have h2 : (l.dropWhile (ltB u r))[0]? = some l[posE l u r] := by
    have h5 : (l.takeWhile (ltB u r) ++ l.dropWhile (ltB u r))[(l.takeWhile (ltB u r)).length]? = (l.dropWhile (ltB u r))[0]? := by rw [List.getElem?_append_right (Nat.le_refl _), Nat.sub_self]
    rw [h] at h5
    rw [← h5]
    exact hp
  have hne : l.dropWhile (ltB u r) ≠ [] := fun e => by rw [e] at h2; cases h2
  have h3 := List.head_dropWhile_not (ltB u r) hne
  have h4 : (l.dropWhile (ltB u r)).head hne = l[posE l u r] := by
    have := List.head?_eq_getElem? (l := l.dropWhile (ltB u r))
    rw [h2, List.head?_eq_some_head hne] at this
    exact Option.some.inj this
  rw [h4] at h3
  exact h3
theorem has_pos {l : List En} (hw : WfL l) {u r : Int} (h : hasE l u r = true) : ∃ e, l[posE l u r]? = some e ∧ keyB u r e = true := by
  rcases Nat.lt_or_ge (posE l u r) l.length with hp | hp
  · have he : l[posE l u r]? = some l[posE l u r] := List.getElem?_eq_getElem hp
    refine ⟨_, he, ?_⟩
    rw [← has_at hw (fun q x hq hx => pos_lt hq hx) (fun q x hq hx => pos_ge hw hq hx) he]
    exact h
  · rw [has_out (fun q x hq hx => pos_lt (by omega) hx)] at h; cases h
def untilE (l : List En) (u r : Int) : Option Int := (l.find? (keyB u r)).map (·.2.2)
theorem find_pos {l : List En} (_hw : WfL l) {u r : Int} {e : En} (he : l[posE l u r]? = some e) (hk : keyB u r e = true) : l.find? (keyB u r) = some e := by
  refine List.find?_eq_some_iff_getElem.2 ⟨hk, posE l u r, (List.getElem?_eq_some_iff.1 he).1, (List.getElem?_eq_some_iff.1 he).2, fun j hj => ?_⟩
  have := pos_lt (u := u) (r := r) hj (List.getElem?_eq_getElem (by have := (List.getElem?_eq_some_iff.1 he).1; omega))
  simp only [ltB, keyB, decide_eq_true_eq] at this ⊢
  simp
  omega
theorem find_none {l : List En} {u r : Int} (h : hasE l u r = false) : l.find? (keyB u r) = none := by
  rw [List.find?_eq_none]
  intro x hx hk
  rw [hasE, List.any_eq_false] at h
  exact h x hx hk
theorem creadO {cs : List Value} {k : Nat} {v : Value} (h : cs[k]? = some v) : cread false 1 cs k = some v := by simpa [cread] using h
theorem until_spec {X : PMap} {v : Value} {l : List En} (h : BkN X v l) (hw : WfL l) (hl : l.length < 100000) {u r : Int} : Spec Tryd.prog 20 [v, .int .i64 u, .int .i64 r] X fun w _ => w = .tuple #[.int .i64 ((untilE l u r).getD 0), .bool (untilE l u r).isSome] := by
  cases hh : hasE l u r with
  | false =>
    obtain ⟨o, rfl⟩ : ∃ o, v = .pointer o := by
      rcases h with ⟨b, sv, rfl, _⟩ | ⟨rfl, _⟩ <;> exact ⟨_, rfl⟩
    refine Spec.enter Tryd.func20 rfl Tryd.ntmps20 rfl ?_
    intro w0 hw0
    refine T.seq ?_
    refine T.region ?_
    refine SL.y (op_assign (v := .int .i64 ((0 : Nat) : Int)) rfl) rfl rfl ?_
    refine SL.y (op_assign rfl) rfl rfl ?_
    refine SL.nil ?_
    refine T.seq ?_
    refine T.region ?_
    refine SL.y (op_move rfl) rfl rfl ?_
    refine SL.y (op_move rfl) rfl rfl ?_
    refine SL.y (op_move rfl) rfl rfl ?_
    -- op
    refine SL.x (op_callF en54 (vs := [_, _, _]) rfl (index_spec h hw hl)) rfl rfl ?_
    rintro _ _ X2 ⟨rfl, hX2, rfl⟩
    rw [hh]
    refine SL.y (op_move rfl) rfl rfl ?_
    refine SL.y (op_extract rfl rfl) rfl rfl ?_
    refine SL.y (op_extract rfl rfl) rfl rfl ?_
    refine SL.y (op_assign rfl) rfl rfl ?_
    refine SL.y (op_assign rfl) rfl rfl ?_
    refine SL.nil ?_
    refine T.seq ?_
    refine T.seq ?_
    refine T.region ?_
    refine SL.y (op_move rfl) rfl rfl ?_
    refine SL.y (op_not rfl) rfl rfl ?_
    refine SL.nil ?_
    refine T.condT rfl ?_
    refine T.seq ?_
    refine T.region ?_
    refine SL.y (op_assign (v := .int .i64 ((0 : Nat) : Int)) rfl) rfl rfl ?_
    refine SL.y (op_assign rfl) rfl rfl ?_
    refine SL.nil ?_
    -- ret
    refine T.ret2 rfl (ResIs.tmp rfl) (ResIs.tmp rfl) ?_
    rw [untilE, find_none hh]; rfl
  | true =>
    obtain ⟨e, he, hk⟩ := has_pos hw hh
    have hkk := has_key hw hh
    obtain ⟨g1, g2, g3⟩ := enC_at he
    have hlt := (List.getElem?_eq_some_iff.1 he).1
    rcases h with ⟨b, sv, rfl, hb, hs⟩ | ⟨rfl, rfl⟩
    · obtain ⟨A, cp, rfl⟩ := hs.form
      obtain ⟨b2, rfl, hB⟩ := hs.blk (by omega)
      refine Spec.enter Tryd.func20 rfl Tryd.ntmps20 rfl ?_
      intro w0 hw0
      refine T.seq ?_
      refine T.region ?_
      refine SL.y (op_assign (v := .int .i64 ((0 : Nat) : Int)) rfl) rfl rfl ?_
      refine SL.y (op_assign rfl) rfl rfl ?_
      refine SL.nil ?_
      refine T.seq ?_
      refine T.region ?_
      refine SL.y (op_move rfl) rfl rfl ?_
      refine SL.y (op_move rfl) rfl rfl ?_
      refine SL.y (op_move rfl) rfl rfl ?_
      -- op
      refine SL.x (op_callF en54 (vs := [_, _, _]) rfl (index_spec (.inl ⟨b, _, rfl, hb, hs⟩) hw hl)) rfl rfl ?_
      rintro _ _ X2 ⟨rfl, hX2, rfl⟩
      rw [hh, if_pos hkk]
      have hB2 := hB.mono hX2
      have hb2 := hb.mono hX2
      refine SL.y (op_move rfl) rfl rfl ?_
      refine SL.y (op_extract rfl rfl) rfl rfl ?_
      refine SL.y (op_extract rfl rfl) rfl rfl ?_
      refine SL.y (op_assign rfl) rfl rfl ?_
      refine SL.y (op_assign rfl) rfl rfl ?_
      refine SL.nil ?_
      refine T.seq ?_
      refine T.seq ?_
      refine T.region ?_
      refine SL.y (op_move rfl) rfl rfl ?_
      refine SL.y (op_not rfl) rfl rfl ?_
      refine SL.nil ?_
      refine T.condF rfl ?_
      refine T.skip ?_
      refine T.seq ?_
      refine T.region ?_
      refine SL.y (op_move rfl) rfl rfl ?_
      first | refine SL.y (op_nil rfl) rfl rfl ?_ | refine SL.y (op_nilFn rfl) rfl rfl ?_
      refine SL.y (op_fieldAddr fa90_0 rfl) rfl rfl ?_
      first | refine SL.y (op_load ty74 rfl (by repeat (first | exact AtO.here | apply AtO.there)) rfl) rfl rfl ?_ | refine SL.y (op_loadX ty74 rfl (by assumption) rfl) rfl rfl ?_
      refine SL.y (op_move rfl) rfl rfl ?_
      first | refine SL.y (op_indexN Tryd.underlying74 ty76 rfl rfl (by omega)) rfl rfl ?_ | refine SL.y (op_index Tryd.underlying74 ty76 rfl rfl (by omega) (by omega)) rfl rfl ?_
      refine SL.y (op_fieldAddr fa76_2 rfl) rfl rfl ?_
      -- to 26: op
      refine SL.y (op_loadX ty3 rfl hB2 (by rw [show 0 + posE l u r * 3 + 2 = posE l u r * 3 + 2 by omega]; exact creadO g3)) rfl rfl ?_
      refine SL.y (op_assign rfl) rfl rfl ?_
      refine SL.y (op_assign rfl) rfl rfl ?_
      refine SL.nil ?_
      -- ret
      refine T.ret2 rfl (ResIs.tmp rfl) (ResIs.tmp rfl) ?_
      rw [untilE, find_pos hw he hk]; rfl
    · simp [hasE] at hh
def actB (d : Int) (e : En) : Bool := decide (0 ≤ d ∧ d ≤ 30000 ∧ d ≤ e.2.2)
theorem active_spec {X : PMap} {e : En} {d : Int} : Spec Tryd.prog 51 [.agg #[.int .i64 e.1, .int .i64 e.2.1, .int .i64 e.2.2], .int .i64 d] X fun w _ => w = .bool (actB d e) := by
  by_cases h1 : 0 ≤ d
  · by_cases h2 : d ≤ 30000
    · refine Spec.enter Tryd.func51 rfl Tryd.ntmps51 rfl ?_
      intro w0 hw0
      refine T.seq ?_
      refine T.region ?_
      refine SL.x (op_box rfl) rfl rfl ?_
      rintro _ _ _ ⟨B2, rfl, rfl, rfl⟩
      refine SL.y (op_assign rfl) rfl rfl ?_
      refine SL.nil ?_
      refine T.seq ?_
      refine T.region ?_
      refine SL.y (op_move rfl) rfl rfl ?_
      first | refine SL.y (op_geqT rfl rfl (by omega)) rfl rfl ?_ | refine SL.y (op_geqF rfl rfl (by omega)) rfl rfl ?_ | refine SL.y (op_geq rfl rfl) rfl rfl ?_
      refine SL.y (op_move rfl) rfl rfl ?_
      first | refine SL.skip rfl rfl ?_ | refine SL.y (op_move rfl) rfl rfl ?_
      first | refine SL.skip rfl rfl ?_ | refine SL.y (op_leqT rfl rfl (by omega)) rfl rfl ?_ | refine SL.y (op_leqF rfl rfl (by omega)) rfl rfl ?_ | refine SL.y (op_leq rfl rfl) rfl rfl ?_
      first | refine SL.y (op_pickT rfl rfl) rfl rfl ?_ | refine SL.y (op_pickF rfl rfl) rfl rfl ?_ | refine SL.y (op_pickB rfl rfl rfl) rfl rfl ?_
      refine SL.y (op_move rfl) rfl rfl ?_
      first | refine SL.skip rfl rfl ?_ | refine SL.y (op_move rfl) rfl rfl ?_
      first | refine SL.skip rfl rfl ?_ | refine SL.y (op_fieldAddr fa76_2 rfl) rfl rfl ?_
      first | refine SL.skip rfl rfl ?_ | refine SL.y (op_load ty3 rfl (by repeat (first | exact AtO.here | apply AtO.there)) rfl) rfl rfl ?_ | refine SL.y (op_loadX ty3 rfl (by assumption) rfl) rfl rfl ?_
      first | refine SL.skip rfl rfl ?_ | refine SL.y (op_leqT rfl rfl (by omega)) rfl rfl ?_ | refine SL.y (op_leqF rfl rfl (by omega)) rfl rfl ?_ | refine SL.y (op_leq rfl rfl) rfl rfl ?_
      first | refine SL.y (op_pickT rfl rfl) rfl rfl ?_ | refine SL.y (op_pickF rfl rfl) rfl rfl ?_ | refine SL.y (op_pickB rfl rfl rfl) rfl rfl ?_
      refine SL.y (op_assign rfl) rfl rfl ?_
      refine SL.nil ?_
      -- ret
      refine T.ret1 rfl (ResIs.tmp rfl) ?_
      simp [actB, h1, h2]
    · refine Spec.enter Tryd.func51 rfl Tryd.ntmps51 rfl ?_
      intro w0 hw0
      refine T.seq ?_
      refine T.region ?_
      refine SL.x (op_box rfl) rfl rfl ?_
      rintro _ _ _ ⟨B2, rfl, rfl, rfl⟩
      refine SL.y (op_assign rfl) rfl rfl ?_
      refine SL.nil ?_
      refine T.seq ?_
      refine T.region ?_
      refine SL.y (op_move rfl) rfl rfl ?_
      first | refine SL.y (op_geqT rfl rfl (by omega)) rfl rfl ?_ | refine SL.y (op_geqF rfl rfl (by omega)) rfl rfl ?_ | refine SL.y (op_geq rfl rfl) rfl rfl ?_
      refine SL.y (op_move rfl) rfl rfl ?_
      first | refine SL.skip rfl rfl ?_ | refine SL.y (op_move rfl) rfl rfl ?_
      first | refine SL.skip rfl rfl ?_ | refine SL.y (op_leqT rfl rfl (by omega)) rfl rfl ?_ | refine SL.y (op_leqF rfl rfl (by omega)) rfl rfl ?_ | refine SL.y (op_leq rfl rfl) rfl rfl ?_
      first | refine SL.y (op_pickT rfl rfl) rfl rfl ?_ | refine SL.y (op_pickF rfl rfl) rfl rfl ?_ | refine SL.y (op_pickB rfl rfl rfl) rfl rfl ?_
      refine SL.y (op_move rfl) rfl rfl ?_
      first | refine SL.skip rfl rfl ?_ | refine SL.y (op_move rfl) rfl rfl ?_
      first | refine SL.skip rfl rfl ?_ | refine SL.y (op_fieldAddr fa76_2 rfl) rfl rfl ?_
      first | refine SL.skip rfl rfl ?_ | refine SL.y (op_load ty3 rfl (by repeat (first | exact AtO.here | apply AtO.there)) rfl) rfl rfl ?_ | refine SL.y (op_loadX ty3 rfl (by assumption) rfl) rfl rfl ?_
      first | refine SL.skip rfl rfl ?_ | refine SL.y (op_leqT rfl rfl (by omega)) rfl rfl ?_ | refine SL.y (op_leqF rfl rfl (by omega)) rfl rfl ?_ | refine SL.y (op_leq rfl rfl) rfl rfl ?_
      first | refine SL.y (op_pickT rfl rfl) rfl rfl ?_ | refine SL.y (op_pickF rfl rfl) rfl rfl ?_ | refine SL.y (op_pickB rfl rfl rfl) rfl rfl ?_
      refine SL.y (op_assign rfl) rfl rfl ?_
      refine SL.nil ?_
      -- ret
      refine T.ret1 rfl (ResIs.tmp rfl) ?_
      simp [actB, h2]
  · refine Spec.enter Tryd.func51 rfl Tryd.ntmps51 rfl ?_
    intro w0 hw0
    refine T.seq ?_
    refine T.region ?_
    refine SL.x (op_box rfl) rfl rfl ?_
    rintro _ _ _ ⟨B2, rfl, rfl, rfl⟩
    refine SL.y (op_assign rfl) rfl rfl ?_
    refine SL.nil ?_
    refine T.seq ?_
    refine T.region ?_
    refine SL.y (op_move rfl) rfl rfl ?_
    first | refine SL.y (op_geqT rfl rfl (by omega)) rfl rfl ?_ | refine SL.y (op_geqF rfl rfl (by omega)) rfl rfl ?_ | refine SL.y (op_geq rfl rfl) rfl rfl ?_
    refine SL.y (op_move rfl) rfl rfl ?_
    first | refine SL.skip rfl rfl ?_ | refine SL.y (op_move rfl) rfl rfl ?_
    first | refine SL.skip rfl rfl ?_ | refine SL.y (op_leqT rfl rfl (by omega)) rfl rfl ?_ | refine SL.y (op_leqF rfl rfl (by omega)) rfl rfl ?_ | refine SL.y (op_leq rfl rfl) rfl rfl ?_
    first | refine SL.y (op_pickT rfl rfl) rfl rfl ?_ | refine SL.y (op_pickF rfl rfl) rfl rfl ?_ | refine SL.y (op_pickB rfl rfl rfl) rfl rfl ?_
    refine SL.y (op_move rfl) rfl rfl ?_
    first | refine SL.skip rfl rfl ?_ | refine SL.y (op_move rfl) rfl rfl ?_
    first | refine SL.skip rfl rfl ?_ | refine SL.y (op_fieldAddr fa76_2 rfl) rfl rfl ?_
    first | refine SL.skip rfl rfl ?_ | refine SL.y (op_load ty3 rfl (by repeat (first | exact AtO.here | apply AtO.there)) rfl) rfl rfl ?_ | refine SL.y (op_loadX ty3 rfl (by assumption) rfl) rfl rfl ?_
    first | refine SL.skip rfl rfl ?_ | refine SL.y (op_leqT rfl rfl (by omega)) rfl rfl ?_ | refine SL.y (op_leqF rfl rfl (by omega)) rfl rfl ?_ | refine SL.y (op_leq rfl rfl) rfl rfl ?_
    first | refine SL.y (op_pickT rfl rfl) rfl rfl ?_ | refine SL.y (op_pickF rfl rfl) rfl rfl ?_ | refine SL.y (op_pickB rfl rfl rfl) rfl rfl ?_
    refine SL.y (op_assign rfl) rfl rfl ?_
    refine SL.nil ?_
    -- ret
    refine T.ret1 rfl (ResIs.tmp rfl) ?_
    simp [actB, h1]
theorem elen_spec {X : PMap} {v : Value} {l : List En} (h : BkN X v l) : Spec Tryd.prog 26 [v] X fun w _ => w = .int .i64 (l.length : Int) := by
  rcases h with ⟨b, sv, rfl, hb, hs⟩ | ⟨rfl, rfl⟩
  · obtain ⟨A, cp, rfl⟩ := hs.form
    refine Spec.enter Tryd.func26 rfl Tryd.ntmps26 rfl ?_
    intro w0 hw0
    refine T.seq ?_
    refine T.region ?_
    refine SL.y (op_assign (v := .int .i64 ((0 : Nat) : Int)) rfl) rfl rfl ?_
    refine SL.nil ?_
    refine T.seq ?_
    refine T.seq ?_
    refine T.region ?_
    refine SL.y (op_move rfl) rfl rfl ?_
    refine SL.y (op_eqlNil Tryd.underlying24 rfl rfl) rfl rfl ?_
    refine SL.nil ?_
    refine T.condF rfl ?_
    refine T.skip ?_
    refine T.seq ?_
    refine T.region ?_
    refine SL.y (op_move rfl) rfl rfl ?_
    first | refine SL.y (op_nil rfl) rfl rfl ?_ | refine SL.y (op_nilFn rfl) rfl rfl ?_
    refine SL.y (op_fieldAddr fa90_0 rfl) rfl rfl ?_
    first | refine SL.y (op_load ty74 rfl (by repeat (first | exact AtO.here | apply AtO.there)) rfl) rfl rfl ?_ | refine SL.y (op_loadX ty74 rfl (by assumption) rfl) rfl rfl ?_
    refine SL.y (op_lenS Tryd.underlying74 rfl) rfl rfl ?_
    refine SL.y (op_assign rfl) rfl rfl ?_
    refine SL.nil ?_
    -- ret
    refine T.ret1 rfl (ResIs.tmp rfl) ?_
    rfl
  · refine Spec.enter Tryd.func26 rfl Tryd.ntmps26 rfl ?_
    intro w0 hw0
    refine T.seq ?_
    refine T.region ?_
    refine SL.y (op_assign (v := .int .i64 ((0 : Nat) : Int)) rfl) rfl rfl ?_
    refine SL.nil ?_
    refine T.seq ?_
    refine T.seq ?_
    refine T.region ?_
    refine SL.y (op_move rfl) rfl rfl ?_
    refine SL.y (op_eqlNil Tryd.underlying24 rfl rfl) rfl rfl ?_
    refine SL.nil ?_
    refine T.condT rfl ?_
    refine T.seq ?_
    refine T.region ?_
    refine SL.y (op_assign (v := .int .i64 ((0 : Nat) : Int)) rfl) rfl rfl ?_
    refine SL.nil ?_
    -- ret
    refine T.ret1 rfl (ResIs.tmp rfl) ?_
    rfl
theorem entries_spec {X : PMap} {v : Value} {l : List En} (h : BkN X v l) (hl : l.length < 100000) : SpecO Tryd.prog 39 [v] X fun w own1 _ => GrowS 76 3 w l.length (enC l) own1 := by
  rcases h with ⟨b, sv, rfl, hb, hs⟩ | ⟨rfl, rfl⟩
  · obtain ⟨A, cp, rfl⟩ := hs.form
    refine SpecO.enter Tryd.func39 rfl Tryd.ntmps39 rfl ?_
    intro w0 hw0
    refine T.seq ?_
    refine T.region ?_
    refine SL.y (op_assign rfl) rfl rfl ?_
    refine SL.nil ?_
    refine T.seq ?_
    refine T.seq ?_
    refine T.region ?_
    refine SL.y (op_move rfl) rfl rfl ?_
    refine SL.y (op_eqlNil Tryd.underlying24 rfl rfl) rfl rfl ?_
    refine SL.nil ?_
    refine T.condF rfl ?_
    refine T.skip ?_
    refine T.seq ?_
    refine T.region ?_
    refine SL.y (op_move rfl) rfl rfl ?_
    first | refine SL.y (op_nil rfl) rfl rfl ?_ | refine SL.y (op_nilFn rfl) rfl rfl ?_
    refine SL.y (op_fieldAddr fa90_0 rfl) rfl rfl ?_
    first | refine SL.y (op_load ty74 rfl (by repeat (first | exact AtO.here | apply AtO.there)) rfl) rfl rfl ?_ | refine SL.y (op_loadX ty74 rfl (by assumption) rfl) rfl rfl ?_
    -- op
    refine SL.x (op_callO en47 (vs := [_]) rfl (eclone_spec hs hl)) rfl rfl ?_
    rintro u own1 X1 ⟨_, rfl, hX1, hG⟩
    obtain ⟨A1, cp1, rfl⟩ := hG.form
    refine SL.y (op_assign rfl) rfl rfl ?_
    refine SL.nil ?_
    -- ret
    refine T.retO1 rfl (ResIs.tmp rfl) ?_
    simpa using hG
  · refine SpecO.enter Tryd.func39 rfl Tryd.ntmps39 rfl ?_
    intro w0 hw0
    refine T.seq ?_
    refine T.region ?_
    refine SL.y (op_assign rfl) rfl rfl ?_
    refine SL.nil ?_
    refine T.seq ?_
    refine T.seq ?_
    refine T.region ?_
    refine SL.y (op_move rfl) rfl rfl ?_
    refine SL.y (op_eqlNil Tryd.underlying24 rfl rfl) rfl rfl ?_
    refine SL.nil ?_
    refine T.condT rfl ?_
    refine T.seq ?_
    refine T.region ?_
    refine SL.y (op_assign rfl) rfl rfl ?_
    refine SL.nil ?_
    -- ret
    refine T.retO1 rfl (ResIs.tmp rfl) ?_
    exact .inl ⟨rfl, rfl, rfl, rfl⟩
end Go.Proofs.YtkmnlogacfkjmaaDoor
