/- Books: the roles of a user, the users of a role, equality, what has expired. -/
import Derived.Test.YtkmnlogacfkjmaaDoorBook3
import Derived.Test.YtkmnlogacfkjmaaDoorIdx
namespace Go.Proofs.YtkmnlogacfkjmaaDoor
section
set_option maxRecDepth 100000
theorem en51 : Enters Tryd.prog 51 := enters_mk Tryd.func51 (by kernel_rfl) rfl
theorem en52 : Enters Tryd.prog 52 := enters_mk Tryd.func52 (by kernel_rfl) rfl
end
open Go.RowKit
def onM (l : List En) (u d : Int) : Nat := l.foldl (fun m e => if e.1 = u ∧ actB d e = true then m ||| 2 ^ e.2.1.toNat else m) 0
theorem onM_succ {l : List En} {u d : Int} {k : Nat} {e : En} (he : l[k]? = some e) : onM (l.take (k + 1)) u d = if e.1 = u ∧ actB d e = true then onM (l.take k) u d ||| 2 ^ e.2.1.toNat else onM (l.take k) u d := by
  obtain ⟨h1, h2⟩ := List.getElem?_eq_some_iff.1 he
  rw [List.take_succ_eq_append_getElem h1, onM, List.foldl_append, h2]; rfl
def usersE (l : List En) (r d : Int) : List Nat := (l.filter fun e => decide (e.2.1 = r) && actB d e).map fun e => e.1.toNat
theorem usersE_succ {l : List En} {r d : Int} {k : Nat} {e : En} (he : l[k]? = some e) : usersE (l.take (k + 1)) r d = if e.2.1 = r ∧ actB d e = true then usersE (l.take k) r d ++ [e.1.toNat] else usersE (l.take k) r d := by
  obtain ⟨h1, h2⟩ := List.getElem?_eq_some_iff.1 he
  rw [List.take_succ_eq_append_getElem h1, usersE, List.filter_append, List.map_append, h2]
  by_cases hc : e.2.1 = r ∧ actB d e = true
  · rw [if_pos hc]; simp [hc.1, hc.2, usersE]
  · rw [if_neg hc]
    have : (decide (e.2.1 = r) && actB d e) = false := by
      rw [Bool.eq_false_iff]; intro h; simp at h; exact hc h
    simp [this, usersE]
theorem usersE_len (l : List En) (r d : Int) : (usersE l r d).length ≤ l.length := by rw [usersE, List.length_map]; exact List.length_filter_le _ _
def expE (l : List En) (d : Int) : List En := l.filter fun e => decide (d ≤ e.2.2)
theorem expE_succ {l : List En} {d : Int} {k : Nat} {e : En} (he : l[k]? = some e) : expE (l.take (k + 1)) d = if d ≤ e.2.2 then expE (l.take k) d ++ [e] else expE (l.take k) d := by
  obtain ⟨h1, h2⟩ := List.getElem?_eq_some_iff.1 he
  rw [List.take_succ_eq_append_getElem h1, expE, List.filter_append, h2]
  by_cases hc : d ≤ e.2.2
  · rw [if_pos hc]; simp [hc, expE]
  · rw [if_neg hc]; simp [hc, expE]
theorem on_spec {X : PMap} {v : Value} {l : List En} (h : BkN X v l) (hw : WfL l) (hl : l.length < 100000) {u d : Int} : Spec Tryd.prog 18 [v, .int .i64 u, .int .i64 d] X fun w X' => SetR X' w (onM l u d) := by
  rcases h with ⟨b, sv, rfl, hb, hs⟩ | ⟨rfl, rfl⟩
  · obtain ⟨A, cp, rfl⟩ := hs.form
    refine Spec.enter Tryd.func18 rfl Tryd.ntmps18 rfl ?_
    intro w0 hw0
    refine T.seq ?_
    refine T.region ?_
    refine SL.x (op_alloc z39) rfl rfl ?_
    rintro _ _ _ ⟨B6, rfl, rfl, rfl⟩
    refine SL.nil ?_
    refine T.seq ?_
    refine T.region ?_
    refine SL.x (op_alloc z39) rfl rfl ?_
    rintro _ _ _ ⟨B7, rfl, rfl, rfl⟩
    refine SL.nil ?_
    refine T.seq ?_
    refine T.seq ?_
    refine T.region ?_
    refine SL.y (op_move rfl) rfl rfl ?_
    refine SL.y (op_eqlNil Tryd.underlying24 rfl rfl) rfl rfl ?_
    refine SL.nil ?_
    refine T.condF rfl ?_
    refine T.skip ?_
    refine T.seq ?_
    refine T.seq ?_
    refine T.region ?_
    refine SL.y (op_move rfl) rfl rfl ?_
    first | refine SL.y (op_nil rfl) rfl rfl ?_ | refine SL.y (op_nilFn rfl) rfl rfl ?_
    refine SL.y (op_fieldAddr fa90_0 rfl) rfl rfl ?_
    first | refine SL.y (op_load ty74 rfl (by repeat (first | exact AtO.here | apply AtO.there)) rfl) rfl rfl ?_ | refine SL.y (op_loadX ty74 rfl (by assumption) rfl) rfl rfl ?_
    refine SL.y (op_lenS Tryd.underlying74 rfl) rfl rfl ?_
    refine SL.y (op_move (v := .int .i64 ((0 : Nat) : Int)) rfl) rfl rfl ?_
    refine SL.nil ?_
    refine T.block ?_
    -- loop live [1, 2, 6, 7, 16, 17, 18]
    refine T.loopW (fun m env own X' => ∃ (k : Nat) (sv : Value), m = l.length - k ∧ k ≤ l.length ∧ X.le X' ∧ SetR X' (.agg #[sv]) (onM (l.take k) u d) ∧ env = [(1, .int .i64 u), (2, .int .i64 d), (6, .pointer (some ⟨B6, 0, none⟩)), (7, .pointer (some ⟨B7, 0, none⟩)), (16, .slice A l.length cp), (17, .int .i64 (l.length : Int)), (18, .int .i64 (k : Int))] ∧ own = [⟨B7, [sv], 39, 1⟩, ⟨B6, [.slice none 0 0], 39, 1⟩]) l.length ⟨0, _, by simp, by omega, PMap.le_refl _, .inl ⟨rfl, _, _, rfl⟩, rfl, rfl⟩ (by repeat (first | exact Sub.nil | refine Sub.cons rfl ?_)) ?_
    rintro m _ _ X1 ⟨k, sv, rfl, hk, hX1, hsv, rfl, rfl⟩
    obtain ⟨As, ls, cs, hse⟩ := hsv.form
    obtain rfl : sv = .slice As ls cs := by simpa using hse
    rcases Nat.lt_or_ge k l.length with hkl | hkl
    · obtain ⟨b2, rfl, hB⟩ := hs.blk (by omega)
      have hB1 := hB.mono hX1
      obtain ⟨e, he⟩ : ∃ e, l[k]? = some e := ⟨_, List.getElem?_eq_getElem hkl⟩
      obtain ⟨g1, g2, g3⟩ := enC_at he
      have hok := hw.2 e (List.mem_of_getElem? he)
      have hsucc := onM_succ (u := u) (d := d) he
      refine T.seq ?_
      refine T.region ?_
      first | refine SL.y (op_lssT rfl rfl (by omega)) rfl rfl ?_ | refine SL.y (op_lssF rfl rfl (by omega)) rfl rfl ?_ | refine SL.y (op_lss rfl rfl) rfl rfl ?_
      refine SL.nil ?_
      refine T.seq ?_
      refine T.condT rfl ?_
      refine T.skip ?_
      refine T.seq ?_
      refine T.block ?_
      refine T.seq ?_
      refine T.region ?_
      first | refine SL.y (op_indexN Tryd.underlying74 ty76 rfl rfl (by omega)) rfl rfl ?_ | refine SL.y (op_index Tryd.underlying74 ty76 rfl rfl (by omega) (by omega)) rfl rfl ?_
      -- to 21: op
      refine SL.y (op_loadX ty76 rfl hB1 (cread3 g1 g2 g3 (by omega))) rfl rfl ?_
      by_cases hu : e.1 = u
      · skip
        refine SL.x (op_alloc z76) rfl rfl ?_
        rintro _ _ _ ⟨B9, rfl, rfl, rfl⟩
        refine SL.x (op_store ty76 rfl rfl (by repeat (first | exact AtO.here | apply AtO.there)) rfl rfl rfl) rfl rfl ?_
        rintro _ _ _ ⟨rfl, rfl⟩
        refine SL.nil ?_
        refine T.seq ?_
        refine T.region ?_
        refine SL.y (op_fieldAddr fa76_0 rfl) rfl rfl ?_
        first | refine SL.y (op_load ty3 rfl (by repeat (first | exact AtO.here | apply AtO.there)) rfl) rfl rfl ?_ | refine SL.y (op_loadX ty3 rfl (by assumption) rfl) rfl rfl ?_
        refine SL.y (op_move rfl) rfl rfl ?_
        first | refine SL.y (op_eqlT rfl rfl (by omega)) rfl rfl ?_ | refine SL.y (op_eqlF rfl rfl (by omega)) rfl rfl ?_ | refine SL.y (op_eql rfl rfl) rfl rfl ?_
        refine SL.y (op_move rfl) rfl rfl ?_
        first | refine SL.skip rfl rfl ?_ | refine SL.y (op_load ty76 rfl (by repeat (first | exact AtO.here | apply AtO.there)) rfl) rfl rfl ?_ | refine SL.y (op_loadX ty76 rfl (by assumption) rfl) rfl rfl ?_
        first | refine SL.skip rfl rfl ?_ | refine SL.y (op_move rfl) rfl rfl ?_
        -- op
        refine SL.x (op_callF en51 (vs := [_, _]) rfl (active_spec)) rfl rfl ?_
        rintro _ _ X2 ⟨rfl, hX2, rfl⟩
        cases hact : actB d e with
        | true =>
          obtain ⟨rn, hrn⟩ : ∃ rn : Nat, e.2.1 = (rn : Int) := ⟨e.2.1.toNat, by obtain ⟨_, _, _, _, _, _⟩ := hok; omega⟩
          rw [hrn]
          first | refine SL.y (op_pickT rfl rfl) rfl rfl ?_ | refine SL.y (op_pickF rfl rfl) rfl rfl ?_ | refine SL.y (op_pickB rfl rfl rfl) rfl rfl ?_
          refine SL.nil ?_
          refine T.condT rfl ?_
          refine T.region ?_
          first | refine SL.y (op_load ty39 rfl (by repeat (first | exact AtO.here | apply AtO.there)) rfl) rfl rfl ?_ | refine SL.y (op_loadX ty39 rfl (by assumption) rfl) rfl rfl ?_
          refine SL.y (op_fieldAddr fa76_1 rfl) rfl rfl ?_
          first | refine SL.y (op_load ty3 rfl (by repeat (first | exact AtO.here | apply AtO.there)) rfl) rfl rfl ?_ | refine SL.y (op_loadX ty3 rfl (by assumption) rfl) rfl rfl ?_
          -- op
          refine SL.x (op_callF en52 (vs := [_, _]) rfl (with_spec (hsv.mono hX2) rn (by obtain ⟨_, _, _, _, _, _⟩ := hok; omega))) rfl rfl ?_
          rintro w _ X3 ⟨rfl, hX3, hw3⟩
          obtain ⟨Aw, lw, cw, rfl⟩ := hw3.form
          refine SL.x (op_store ty39 rfl rfl (by repeat (first | exact AtO.here | apply AtO.there)) rfl rfl rfl) rfl rfl ?_
          rintro _ _ _ ⟨rfl, rfl⟩
          refine SL.nil ?_
          refine T.blk ?_
          refine T.region ?_
          first | refine SL.y (op_addN (q := 1) rfl rfl (by omega)) rfl rfl ?_ | refine SL.y (op_add rfl rfl (by omega) (by omega)) rfl rfl ?_ | refine SL.y (op_addW rfl rfl) rfl rfl ?_
          refine SL.y (op_move rfl) rfl rfl ?_
          refine SL.nil ?_
          -- cut
          refine T.drop B9 (by repeat (first | exact AtO.here | apply AtO.there)) ?_
          exact T.backW (l.length - (k + 1)) (by omega) ⟨k + 1, _, rfl, by omega, (hX1.trans' hX2).trans' hX3, (by rw [hsucc, if_pos ⟨hu, hact⟩, hrn]; exact hw3), rfl, rfl⟩ (by repeat (first | exact Sub.nil | refine Sub.cons rfl ?_))
        | false =>
          first | refine SL.y (op_pickT rfl rfl) rfl rfl ?_ | refine SL.y (op_pickF rfl rfl) rfl rfl ?_ | refine SL.y (op_pickB rfl rfl rfl) rfl rfl ?_
          refine SL.nil ?_
          refine T.condF rfl ?_
          refine T.skip ?_
          refine T.blk ?_
          refine T.region ?_
          first | refine SL.y (op_addN (q := 1) rfl rfl (by omega)) rfl rfl ?_ | refine SL.y (op_add rfl rfl (by omega) (by omega)) rfl rfl ?_ | refine SL.y (op_addW rfl rfl) rfl rfl ?_
          refine SL.y (op_move rfl) rfl rfl ?_
          refine SL.nil ?_
          -- cut
          refine T.drop B9 (by repeat (first | exact AtO.here | apply AtO.there)) ?_
          exact T.backW (l.length - (k + 1)) (by omega) ⟨k + 1, _, rfl, by omega, hX1.trans' hX2, (by rw [hsucc, if_neg (by rw [hact]; simp)]; exact hsv.mono hX2), rfl, rfl⟩ (by repeat (first | exact Sub.nil | refine Sub.cons rfl ?_))
      · refine SL.x (op_alloc z76) rfl rfl ?_
        rintro _ _ _ ⟨B9, rfl, rfl, rfl⟩
        refine SL.x (op_store ty76 rfl rfl (by repeat (first | exact AtO.here | apply AtO.there)) rfl rfl rfl) rfl rfl ?_
        rintro _ _ _ ⟨rfl, rfl⟩
        refine SL.nil ?_
        refine T.seq ?_
        refine T.region ?_
        refine SL.y (op_fieldAddr fa76_0 rfl) rfl rfl ?_
        first | refine SL.y (op_load ty3 rfl (by repeat (first | exact AtO.here | apply AtO.there)) rfl) rfl rfl ?_ | refine SL.y (op_loadX ty3 rfl (by assumption) rfl) rfl rfl ?_
        refine SL.y (op_move rfl) rfl rfl ?_
        first | refine SL.y (op_eqlT rfl rfl (by omega)) rfl rfl ?_ | refine SL.y (op_eqlF rfl rfl (by omega)) rfl rfl ?_ | refine SL.y (op_eql rfl rfl) rfl rfl ?_
        refine SL.y (op_move rfl) rfl rfl ?_
        first | refine SL.skip rfl rfl ?_ | refine SL.y (op_load ty76 rfl (by repeat (first | exact AtO.here | apply AtO.there)) rfl) rfl rfl ?_ | refine SL.y (op_loadX ty76 rfl (by assumption) rfl) rfl rfl ?_
        first | refine SL.skip rfl rfl ?_ | refine SL.y (op_move rfl) rfl rfl ?_
        -- op
        refine SL.skip rfl rfl ?_
        first | refine SL.y (op_pickT rfl rfl) rfl rfl ?_ | refine SL.y (op_pickF rfl rfl) rfl rfl ?_ | refine SL.y (op_pickB rfl rfl rfl) rfl rfl ?_
        refine SL.nil ?_
        refine T.condF rfl ?_
        refine T.skip ?_
        refine T.blk ?_
        refine T.region ?_
        first | refine SL.y (op_addN (q := 1) rfl rfl (by omega)) rfl rfl ?_ | refine SL.y (op_add rfl rfl (by omega) (by omega)) rfl rfl ?_ | refine SL.y (op_addW rfl rfl) rfl rfl ?_
        refine SL.y (op_move rfl) rfl rfl ?_
        refine SL.nil ?_
        -- cut
        refine T.drop B9 (by repeat (first | exact AtO.here | apply AtO.there)) ?_
        exact T.backW (l.length - (k + 1)) (by omega) ⟨k + 1, _, rfl, by omega, hX1, (by rw [hsucc, if_neg (fun h => hu h.1)]; exact hsv), rfl, rfl⟩ (by repeat (first | exact Sub.nil | refine Sub.cons rfl ?_))
    · obtain rfl : k = l.length := by omega
      rw [List.take_length] at hsv
      refine T.seq ?_
      refine T.region ?_
      first | refine SL.y (op_lssT rfl rfl (by omega)) rfl rfl ?_ | refine SL.y (op_lssF rfl rfl (by omega)) rfl rfl ?_ | refine SL.y (op_lss rfl rfl) rfl rfl ?_
      refine SL.nil ?_
      refine T.seq ?_
      refine T.condF rfl ?_
      refine T.exit (T.exitCode (T.exitCut (T.exitBlk ?_)))
      refine T.seq ?_
      refine T.region ?_
      first | refine SL.y (op_load ty39 rfl (by repeat (first | exact AtO.here | apply AtO.there)) rfl) rfl rfl ?_ | refine SL.y (op_loadX ty39 rfl (by assumption) rfl) rfl rfl ?_
      refine SL.x (op_store ty39 rfl rfl (by repeat (first | exact AtO.here | apply AtO.there)) rfl rfl rfl) rfl rfl ?_
      rintro _ _ _ ⟨rfl, rfl⟩
      refine SL.nil ?_
      -- ret
      refine T.ret1 rfl (ResIs.cell rfl ty39 (by repeat (first | exact AtO.here | apply AtO.there)) rfl) ?_
      exact hsv
  · refine Spec.enter Tryd.func18 rfl Tryd.ntmps18 rfl ?_
    intro w0 hw0
    refine T.seq ?_
    refine T.region ?_
    refine SL.x (op_alloc z39) rfl rfl ?_
    rintro _ _ _ ⟨B6, rfl, rfl, rfl⟩
    refine SL.nil ?_
    refine T.seq ?_
    refine T.region ?_
    refine SL.x (op_alloc z39) rfl rfl ?_
    rintro _ _ _ ⟨B7, rfl, rfl, rfl⟩
    refine SL.nil ?_
    refine T.seq ?_
    refine T.seq ?_
    refine T.region ?_
    refine SL.y (op_move rfl) rfl rfl ?_
    refine SL.y (op_eqlNil Tryd.underlying24 rfl rfl) rfl rfl ?_
    refine SL.nil ?_
    refine T.condT rfl ?_
    refine T.seq ?_
    refine T.region ?_
    first | refine SL.y (op_load ty39 rfl (by repeat (first | exact AtO.here | apply AtO.there)) rfl) rfl rfl ?_ | refine SL.y (op_loadX ty39 rfl (by assumption) rfl) rfl rfl ?_
    refine SL.x (op_store ty39 rfl rfl (by repeat (first | exact AtO.here | apply AtO.there)) rfl rfl rfl) rfl rfl ?_
    rintro _ _ _ ⟨rfl, rfl⟩
    refine SL.nil ?_
    -- ret
    refine T.ret1 rfl (ResIs.cell rfl ty39 (by repeat (first | exact AtO.here | apply AtO.there)) rfl) ?_
    exact .inl ⟨rfl, _, _, rfl⟩
end Go.Proofs.YtkmnlogacfkjmaaDoor
