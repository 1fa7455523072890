/- Books: the users of a role, what has expired. -/
import Derived.Test.YtkmnlogacfkjmaaDoorBook4
namespace Go.Proofs.YtkmnlogacfkjmaaDoor
section
set_option maxRecDepth 100000
theorem en14 : Enters Tryd.prog 14 := enters_mk Tryd.func14 (by kernel_rfl) rfl
theorem z90 : Zero Tryd.prog 90 [.slice none 0 0] := ⟨zero_of (by kernel_rfl)⟩
theorem st90 : StT Tryd.prog 90 [(0, 1)] [.slice none 0 0] := ⟨⟨_, Tryd.underlying90, fun _ => by kernel_rfl, z90⟩⟩
end
open Go.RowKit
theorem users_spec {X : PMap} {v : Value} {l : List En} (h : BkN X v l) (hw : WfL l) (hl : l.length < 100000) {r d : Int} : SpecO Tryd.prog 23 [v, .int .i64 r, .int .i64 d] X fun w own1 _ => GrowS 3 1 w (usersE l r d).length (ints (usersE l r d)) own1 := by
  rcases h with ⟨b, sv, rfl, hb, hs⟩ | ⟨rfl, rfl⟩
  · obtain ⟨A, cp, rfl⟩ := hs.form
    refine SpecO.enter Tryd.func23 rfl Tryd.ntmps23 rfl ?_
    intro w0 hw0
    refine T.seq ?_
    refine T.region ?_
    refine SL.y (op_assign rfl) rfl rfl ?_
    refine SL.nil ?_
    refine T.seq ?_
    refine T.region ?_
    refine SL.y (op_assign rfl) rfl rfl ?_
    refine SL.nil ?_
    refine T.seq ?_
    refine T.seq ?_
    refine T.region ?_
    refine SL.y (op_move rfl) rfl rfl ?_
    refine SL.y (op_eqlNil Tryd.underlying24 rfl rfl) rfl rfl ?_
    refine SL.nil ?_
    refine T.condF rfl ?_
    refine T.skip ?_
    refine T.seq ?_
    refine T.seq ?_
    refine T.region ?_
    refine SL.y (op_move rfl) rfl rfl ?_
    first | refine SL.y (op_nil rfl) rfl rfl ?_ | refine SL.y (op_nilFn rfl) rfl rfl ?_
    refine SL.y (op_fieldAddr fa90_0 rfl) rfl rfl ?_
    first | refine SL.y (op_load ty74 rfl (by repeat (first | exact AtO.here | apply AtO.there)) rfl) rfl rfl ?_ | refine SL.y (op_loadX ty74 rfl (by assumption) rfl) rfl rfl ?_
    refine SL.y (op_lenS Tryd.underlying74 rfl) rfl rfl ?_
    refine SL.y (op_move (v := .int .i64 ((0 : Nat) : Int)) rfl) rfl rfl ?_
    refine SL.nil ?_
    refine T.block ?_
    -- loop live [1, 2, 6, 7, 16, 17, 18]
    refine T.loopW (fun m env own X' => ∃ (k : Nat) (sv : Value) (G : Own), m = l.length - k ∧ k ≤ l.length ∧ X.le X' ∧ GrowS 3 1 sv (usersE (l.take k) r d).length (ints (usersE (l.take k) r d)) G ∧ env = [(1, .int .i64 r), (2, .int .i64 d), (7, sv), (16, .slice A l.length cp), (17, .int .i64 (l.length : Int)), (18, .int .i64 (k : Int))] ∧ G = own) l.length ⟨0, _, _, by simp, by omega, PMap.le_refl _, .inl ⟨rfl, rfl, rfl, rfl⟩, rfl, rfl⟩ (by repeat (first | exact Sub.nil | refine Sub.cons rfl ?_)) ?_
    rintro m _ _ X1 ⟨k, sv, G, rfl, hk, hX1, hG, rfl, rfl⟩
    obtain ⟨As, cs, rfl⟩ := hG.form
    rcases Nat.lt_or_ge k l.length with hkl | hkl
    · obtain ⟨b2, rfl, hB⟩ := hs.blk (by omega)
      have hB1 := hB.mono hX1
      obtain ⟨e, he⟩ : ∃ e, l[k]? = some e := ⟨_, List.getElem?_eq_getElem hkl⟩
      obtain ⟨g1, g2, g3⟩ := enC_at he
      have hok := hw.2 e (List.mem_of_getElem? he)
      have hsucc := usersE_succ (r := r) (d := d) he
      have hul := usersE_len (l.take k) r d
      have hlk : (l.take k).length = k := by rw [List.length_take]; omega
      refine T.seq ?_
      refine T.region ?_
      first | refine SL.y (op_lssT rfl rfl (by omega)) rfl rfl ?_ | refine SL.y (op_lssF rfl rfl (by omega)) rfl rfl ?_ | refine SL.y (op_lss rfl rfl) rfl rfl ?_
      refine SL.nil ?_
      refine T.seq ?_
      refine T.condT rfl ?_
      refine T.skip ?_
      refine T.seq ?_
      refine T.block ?_
      refine T.seq ?_
      refine T.region ?_
      first | refine SL.y (op_indexN Tryd.underlying74 ty76 rfl rfl (by omega)) rfl rfl ?_ | refine SL.y (op_index Tryd.underlying74 ty76 rfl rfl (by omega) (by omega)) rfl rfl ?_
      -- to 21: op
      refine SL.y (op_loadX ty76 rfl hB1 (cread3 g1 g2 g3 (by omega))) rfl rfl ?_
      by_cases hr : e.2.1 = r
      · skip
        refine SL.x (op_alloc z76) rfl rfl ?_
        rintro _ _ _ ⟨B9, rfl, rfl, rfl⟩
        refine SL.x (op_store ty76 rfl rfl (by repeat (first | exact AtO.here | apply AtO.there)) rfl rfl rfl) rfl rfl ?_
        rintro _ _ _ ⟨rfl, rfl⟩
        refine SL.nil ?_
        refine T.seq ?_
        refine T.region ?_
        refine SL.y (op_fieldAddr fa76_1 rfl) rfl rfl ?_
        first | refine SL.y (op_load ty3 rfl (by repeat (first | exact AtO.here | apply AtO.there)) rfl) rfl rfl ?_ | refine SL.y (op_loadX ty3 rfl (by assumption) rfl) rfl rfl ?_
        refine SL.y (op_move rfl) rfl rfl ?_
        first | refine SL.y (op_eqlT rfl rfl (by omega)) rfl rfl ?_ | refine SL.y (op_eqlF rfl rfl (by omega)) rfl rfl ?_ | refine SL.y (op_eql rfl rfl) rfl rfl ?_
        refine SL.y (op_move rfl) rfl rfl ?_
        first | refine SL.skip rfl rfl ?_ | refine SL.y (op_load ty76 rfl (by repeat (first | exact AtO.here | apply AtO.there)) rfl) rfl rfl ?_ | refine SL.y (op_loadX ty76 rfl (by assumption) rfl) rfl rfl ?_
        first | refine SL.skip rfl rfl ?_ | refine SL.y (op_move rfl) rfl rfl ?_
        -- op
        refine SL.x (op_callF en51 (vs := [_, _]) rfl (active_spec)) rfl rfl ?_
        rintro _ _ X2 ⟨rfl, hX2, rfl⟩
        cases hact : actB d e with
        | true =>
          obtain ⟨un, hun⟩ : ∃ un : Nat, e.1 = (un : Int) := ⟨e.1.toNat, by obtain ⟨_, _, _, _, _, _⟩ := hok; omega⟩
          rw [hun]
          first | refine SL.y (op_pickT rfl rfl) rfl rfl ?_ | refine SL.y (op_pickF rfl rfl) rfl rfl ?_ | refine SL.y (op_pickB rfl rfl rfl) rfl rfl ?_
          refine SL.nil ?_
          refine T.condT rfl ?_
          refine T.region ?_
          refine SL.y (op_move rfl) rfl rfl ?_
          refine SL.y (op_fieldAddr fa76_0 rfl) rfl rfl ?_
          first | refine SL.y (op_load ty3 rfl (by repeat (first | exact AtO.here | apply AtO.there)) rfl) rfl rfl ?_ | refine SL.y (op_loadX ty3 rfl (by assumption) rfl) rfl rfl ?_
          refine SL.x (op_buildSlice Tryd.underlying46 bs3 (qs := [(0, _)]) rfl rfl rfl rfl rfl) rfl rfl ?_
          rintro _ _ _ ⟨B34, rfl, rfl, rfl⟩
          -- op
          refine SL.x (op_appendG (own0 := [_]) sl46 rfl hG rfl rfl rfl (by (have : maxLen = 9223372036854775807 := rfl); omega) (by omega)) rfl rfl ?_
          rintro s' _ _ ⟨G', rfl, rfl, hG'⟩
          obtain ⟨As', cps', rfl⟩ := hG'.form
          refine SL.y (op_assign rfl) rfl rfl ?_
          refine SL.nil ?_
          refine T.blk ?_
          refine T.region ?_
          first | refine SL.y (op_addN (q := 1) rfl rfl (by omega)) rfl rfl ?_ | refine SL.y (op_add rfl rfl (by omega) (by omega)) rfl rfl ?_ | refine SL.y (op_addW rfl rfl) rfl rfl ?_
          refine SL.y (op_move rfl) rfl rfl ?_
          refine SL.nil ?_
          -- cut
          refine T.drop B9 (by repeat (first | exact AtO.here | apply AtO.there)) ?_
          exact T.backW (l.length - (k + 1)) (by omega) ⟨k + 1, _, G', rfl, by omega, hX1.trans' hX2, (by rw [hsucc, if_pos ⟨hr, hact⟩, hun, ints_snoc, List.length_append]; exact hG'), rfl, rfl⟩ (by repeat (first | exact Sub.nil | refine Sub.cons rfl ?_))
        | false =>
          first | refine SL.y (op_pickT rfl rfl) rfl rfl ?_ | refine SL.y (op_pickF rfl rfl) rfl rfl ?_ | refine SL.y (op_pickB rfl rfl rfl) rfl rfl ?_
          refine SL.nil ?_
          refine T.condF rfl ?_
          refine T.skip ?_
          refine T.blk ?_
          refine T.region ?_
          first | refine SL.y (op_addN (q := 1) rfl rfl (by omega)) rfl rfl ?_ | refine SL.y (op_add rfl rfl (by omega) (by omega)) rfl rfl ?_ | refine SL.y (op_addW rfl rfl) rfl rfl ?_
          refine SL.y (op_move rfl) rfl rfl ?_
          refine SL.nil ?_
          -- cut
          refine T.drop B9 (by repeat (first | exact AtO.here | apply AtO.there)) ?_
          exact T.backW (l.length - (k + 1)) (by omega) ⟨k + 1, _, G, rfl, by omega, hX1.trans' hX2, (by rw [hsucc, if_neg (by rw [hact]; simp)]; exact hG), rfl, rfl⟩ (by repeat (first | exact Sub.nil | refine Sub.cons rfl ?_))
      · refine SL.x (op_alloc z76) rfl rfl ?_
        rintro _ _ _ ⟨B9, rfl, rfl, rfl⟩
        refine SL.x (op_store ty76 rfl rfl (by repeat (first | exact AtO.here | apply AtO.there)) rfl rfl rfl) rfl rfl ?_
        rintro _ _ _ ⟨rfl, rfl⟩
        refine SL.nil ?_
        refine T.seq ?_
        refine T.region ?_
        refine SL.y (op_fieldAddr fa76_1 rfl) rfl rfl ?_
        first | refine SL.y (op_load ty3 rfl (by repeat (first | exact AtO.here | apply AtO.there)) rfl) rfl rfl ?_ | refine SL.y (op_loadX ty3 rfl (by assumption) rfl) rfl rfl ?_
        refine SL.y (op_move rfl) rfl rfl ?_
        first | refine SL.y (op_eqlT rfl rfl (by omega)) rfl rfl ?_ | refine SL.y (op_eqlF rfl rfl (by omega)) rfl rfl ?_ | refine SL.y (op_eql rfl rfl) rfl rfl ?_
        refine SL.y (op_move rfl) rfl rfl ?_
        first | refine SL.skip rfl rfl ?_ | refine SL.y (op_load ty76 rfl (by repeat (first | exact AtO.here | apply AtO.there)) rfl) rfl rfl ?_ | refine SL.y (op_loadX ty76 rfl (by assumption) rfl) rfl rfl ?_
        first | refine SL.skip rfl rfl ?_ | refine SL.y (op_move rfl) rfl rfl ?_
        -- op
        refine SL.skip rfl rfl ?_
        first | refine SL.y (op_pickT rfl rfl) rfl rfl ?_ | refine SL.y (op_pickF rfl rfl) rfl rfl ?_ | refine SL.y (op_pickB rfl rfl rfl) rfl rfl ?_
        refine SL.nil ?_
        refine T.condF rfl ?_
        refine T.skip ?_
        refine T.blk ?_
        refine T.region ?_
        first | refine SL.y (op_addN (q := 1) rfl rfl (by omega)) rfl rfl ?_ | refine SL.y (op_add rfl rfl (by omega) (by omega)) rfl rfl ?_ | refine SL.y (op_addW rfl rfl) rfl rfl ?_
        refine SL.y (op_move rfl) rfl rfl ?_
        refine SL.nil ?_
        -- cut
        refine T.drop B9 (by repeat (first | exact AtO.here | apply AtO.there)) ?_
        exact T.backW (l.length - (k + 1)) (by omega) ⟨k + 1, _, G, rfl, by omega, hX1, (by rw [hsucc, if_neg (fun h => hr h.1)]; exact hG), rfl, rfl⟩ (by repeat (first | exact Sub.nil | refine Sub.cons rfl ?_))
    · obtain rfl : k = l.length := by omega
      refine T.seq ?_
      refine T.region ?_
      first | refine SL.y (op_lssT rfl rfl (by omega)) rfl rfl ?_ | refine SL.y (op_lssF rfl rfl (by omega)) rfl rfl ?_ | refine SL.y (op_lss rfl rfl) rfl rfl ?_
      refine SL.nil ?_
      refine T.seq ?_
      refine T.condF rfl ?_
      refine T.exit (T.exitCode (T.exitCut (T.exitBlk ?_)))
      refine T.seq ?_
      refine T.region ?_
      refine SL.y (op_move rfl) rfl rfl ?_
      refine SL.y (op_assign rfl) rfl rfl ?_
      refine SL.nil ?_
      -- ret
      refine T.retO1 rfl (ResIs.tmp rfl) ?_
      rw [List.take_length] at hG ⊢
      exact hG
  · refine SpecO.enter Tryd.func23 rfl Tryd.ntmps23 rfl ?_
    intro w0 hw0
    refine T.seq ?_
    refine T.region ?_
    refine SL.y (op_assign rfl) rfl rfl ?_
    refine SL.nil ?_
    refine T.seq ?_
    refine T.region ?_
    refine SL.y (op_assign rfl) rfl rfl ?_
    refine SL.nil ?_
    refine T.seq ?_
    refine T.seq ?_
    refine T.region ?_
    refine SL.y (op_move rfl) rfl rfl ?_
    refine SL.y (op_eqlNil Tryd.underlying24 rfl rfl) rfl rfl ?_
    refine SL.nil ?_
    refine T.condT rfl ?_
    refine T.seq ?_
    refine T.region ?_
    refine SL.y (op_move rfl) rfl rfl ?_
    refine SL.y (op_assign rfl) rfl rfl ?_
    refine SL.nil ?_
    -- ret
    refine T.retO1 rfl (ResIs.tmp rfl) ?_
    exact .inl ⟨rfl, rfl, rfl, rfl⟩
theorem bnewO_spec {X : PMap} : SpecO Tryd.prog 14 [] X fun w own1 _ => ∃ b, w = .pointer (some ⟨b, 0, none⟩) ∧ own1 = [⟨b, [.slice none 0 0], 90, 1⟩] := by
  refine SpecO.enter Tryd.func14 rfl Tryd.ntmps14 rfl ?_
  intro w0 hw0
  refine T.seq ?_
  refine T.region ?_
  refine SL.y (op_assign rfl) rfl rfl ?_
  refine SL.nil ?_
  refine T.seq ?_
  refine T.region ?_
  refine SL.y (op_build st90 (qs := []) rfl rfl) rfl rfl ?_
  refine SL.x (op_box rfl) rfl rfl ?_
  rintro _ _ _ ⟨B2, rfl, rfl, rfl⟩
  refine SL.y (op_assign rfl) rfl rfl ?_
  refine SL.nil ?_
  -- ret
  refine T.retO1 rfl (ResIs.tmp rfl) ?_
  exact ⟨B2, rfl, rfl⟩
theorem bnew_spec {X : PMap} : Spec Tryd.prog 14 [] X fun w X' => BkR X' w [] := by
  refine Spec.enter Tryd.func14 rfl Tryd.ntmps14 rfl ?_
  intro w0 hw0
  refine T.seq ?_
  refine T.region ?_
  refine SL.y (op_assign rfl) rfl rfl ?_
  refine SL.nil ?_
  refine T.seq ?_
  refine T.region ?_
  refine SL.y (op_build st90 (qs := []) rfl rfl) rfl rfl ?_
  refine SL.x (op_box rfl) rfl rfl ?_
  rintro _ _ _ ⟨B2, rfl, rfl, rfl⟩
  refine SL.y (op_assign rfl) rfl rfl ?_
  refine SL.nil ?_
  -- ret
  refine T.pub B2 (by repeat (first | exact AtO.here | apply AtO.there)) ?_
  intro X1 hX1 hB1 _
  refine T.ret1 rfl (ResIs.tmp rfl) ?_
  exact ⟨B2, _, rfl, hB1, .inl ⟨rfl, rfl, _, _, rfl⟩⟩
theorem expire_spec {X : PMap} {v : Value} {l : List En} (h : BkR X v l) (hl : l.length < 100000) {d : Int} : Spec Tryd.prog 27 [v, .int .i64 d] X fun w X' => BkR X' w (expE l d) := by
  obtain ⟨b, sv, rfl, hb, hs⟩ := h
  obtain ⟨A, cp, rfl⟩ := hs.form
  refine Spec.enter Tryd.func27 rfl Tryd.ntmps27 rfl ?_
  intro w0 hw0
  refine T.seq ?_
  refine T.region ?_
  refine SL.y (op_assign rfl) rfl rfl ?_
  refine SL.nil ?_
  refine T.seq ?_
  refine T.seq ?_
  refine T.region ?_
  refine SL.y (op_move rfl) rfl rfl ?_
  refine SL.y (op_eqlNil Tryd.underlying24 rfl rfl) rfl rfl ?_
  refine SL.nil ?_
  refine T.condF rfl ?_
  refine T.skip ?_
  refine T.seq ?_
  refine T.region ?_
  -- op
  refine SL.x (op_callO en14 (vs := []) rfl (bnewO_spec)) rfl rfl ?_
  rintro _ _ X0 ⟨_, rfl, hX0, bo, rfl, rfl⟩
  have hb0 := hb.mono hX0
  have hs0 := hs.mono hX0
  refine SL.y (op_assign rfl) rfl rfl ?_
  refine SL.nil ?_
  refine T.seq ?_
  refine T.seq ?_
  refine T.region ?_
  refine SL.y (op_move rfl) rfl rfl ?_
  first | refine SL.y (op_nil rfl) rfl rfl ?_ | refine SL.y (op_nilFn rfl) rfl rfl ?_
  refine SL.y (op_fieldAddr fa90_0 rfl) rfl rfl ?_
  first | refine SL.y (op_load ty74 rfl (by repeat (first | exact AtO.here | apply AtO.there)) rfl) rfl rfl ?_ | refine SL.y (op_loadX ty74 rfl (by assumption) rfl) rfl rfl ?_
  refine SL.y (op_lenS Tryd.underlying74 rfl) rfl rfl ?_
  refine SL.y (op_move (v := .int .i64 ((0 : Nat) : Int)) rfl) rfl rfl ?_
  refine SL.nil ?_
  refine T.block ?_
  -- loop live [1, 4, 5, 14, 15, 16]
  refine T.loopW (fun m env own X' => ∃ (k : Nat) (sv : Value) (G : Own), m = l.length - k ∧ k ≤ l.length ∧ X0.le X' ∧ GrowS 76 3 sv (expE (l.take k) d).length (enC (expE (l.take k) d)) G ∧ env = [(1, .int .i64 d), (5, .pointer (some ⟨bo, 0, none⟩)), (14, .slice A l.length cp), (15, .int .i64 (l.length : Int)), (16, .int .i64 (k : Int))] ∧ own = ⟨bo, [sv], 90, 1⟩ :: G) l.length ⟨0, _, _, by simp, by omega, PMap.le_refl _, .inl ⟨rfl, rfl, rfl, rfl⟩, rfl, rfl⟩ (by repeat (first | exact Sub.nil | refine Sub.cons rfl ?_)) ?_
  rintro m _ _ X1 ⟨k, sv, G, rfl, hk, hX1, hG, rfl, rfl⟩
  obtain ⟨As, cs, rfl⟩ := hG.form
  rcases Nat.lt_or_ge k l.length with hkl | hkl
  · obtain ⟨b2, rfl, hB⟩ := hs0.blk (by omega)
    have hB1 := hB.mono hX1
    obtain ⟨e, he⟩ : ∃ e, l[k]? = some e := ⟨_, List.getElem?_eq_getElem hkl⟩
    obtain ⟨g1, g2, g3⟩ := enC_at he
    have hsucc := expE_succ (d := d) he
    have hul : (expE (l.take k) d).length ≤ (l.take k).length := List.length_filter_le _ _
    have hlk : (l.take k).length = k := by rw [List.length_take]; omega
    refine T.seq ?_
    refine T.region ?_
    first | refine SL.y (op_lssT rfl rfl (by omega)) rfl rfl ?_ | refine SL.y (op_lssF rfl rfl (by omega)) rfl rfl ?_ | refine SL.y (op_lss rfl rfl) rfl rfl ?_
    refine SL.nil ?_
    refine T.seq ?_
    refine T.condT rfl ?_
    refine T.skip ?_
    refine T.seq ?_
    refine T.block ?_
    refine T.seq ?_
    refine T.region ?_
    first | refine SL.y (op_indexN Tryd.underlying74 ty76 rfl rfl (by omega)) rfl rfl ?_ | refine SL.y (op_index Tryd.underlying74 ty76 rfl rfl (by omega) (by omega)) rfl rfl ?_
    -- to 19: op
    refine SL.y (op_loadX ty76 rfl hB1 (cread3 g1 g2 g3 (by omega))) rfl rfl ?_
    by_cases hd : d ≤ e.2.2
    · skip
      refine SL.x (op_alloc z76) rfl rfl ?_
      rintro _ _ _ ⟨B7, rfl, rfl, rfl⟩
      refine SL.x (op_store ty76 rfl rfl (by repeat (first | exact AtO.here | apply AtO.there)) rfl rfl rfl) rfl rfl ?_
      rintro _ _ _ ⟨rfl, rfl⟩
      refine SL.nil ?_
      refine T.seq ?_
      refine T.region ?_
      refine SL.y (op_fieldAddr fa76_2 rfl) rfl rfl ?_
      first | refine SL.y (op_load ty3 rfl (by repeat (first | exact AtO.here | apply AtO.there)) rfl) rfl rfl ?_ | refine SL.y (op_loadX ty3 rfl (by assumption) rfl) rfl rfl ?_
      refine SL.y (op_move rfl) rfl rfl ?_
      first | refine SL.y (op_geqT rfl rfl (by omega)) rfl rfl ?_ | refine SL.y (op_geqF rfl rfl (by omega)) rfl rfl ?_ | refine SL.y (op_geq rfl rfl) rfl rfl ?_
      refine SL.nil ?_
      refine T.condT rfl ?_
      refine T.drawG (own0 := [_, _]) (by kernel_rfl) 8 [.t 0, .t 1, .t 2, .t 3, .t 4, .t 5, .r 6, .r 7] (by kernel_rfl) ?_
      refine SD.take rfl panicBody (op_move rfl) rfl rfl ?_
      refine SD.take rfl panicBody (op_move rfl) rfl rfl ?_
      first | refine SD.take rfl panicBody (op_nil rfl) rfl rfl ?_ | refine SD.take rfl panicBody (op_nilFn rfl) rfl rfl ?_
      refine SD.take rfl panicBody (op_fieldAddr fa90_0 rfl) rfl rfl ?_
      first | refine SD.take rfl panicBody (op_load ty74 rfl (by repeat (first | exact AtO.here | apply AtO.there)) rfl) rfl rfl ?_ | refine SD.take rfl panicBody (op_loadX ty74 rfl (by assumption) rfl) rfl rfl ?_
      first | refine SD.take rfl panicBody (op_load ty76 rfl (by repeat (first | exact AtO.here | apply AtO.there)) rfl) rfl rfl ?_ | refine SD.take rfl panicBody (op_loadX ty76 rfl (by assumption) rfl) rfl rfl ?_
      refine SD.run rfl (op_buildSlice Tryd.underlying74 bs76 (qs := [(0, _)]) rfl rfl rfl rfl rfl) rfl rfl ?_
      rintro _ _ _ ⟨B30, rfl, rfl, rfl⟩
      -- op
      refine SD.runK rfl (op_appendG (own0 := [_, _]) sl74 rfl hG rfl rfl rfl (by (have : maxLen = 9223372036854775807 := rfl); omega) (by omega)) (by rintro _ _ _ ⟨G', rfl, rfl, _⟩; exact ⟨fun p hp => List.mem_append_left _ hp, PMap.le_refl _⟩) rfl rfl ?_
      rintro s' _ _ ⟨G', rfl, rfl, hG'⟩
      refine SD.nil ?_
      show SL _ _ _ _ _ _ _ [_, _, _] _ _ _
      obtain ⟨As', cps', rfl⟩ := hG'.form
      first | refine SL.y (op_nil rfl) rfl rfl ?_ | refine SL.y (op_nilFn rfl) rfl rfl ?_
      refine SL.y (op_fieldAddr fa90_0 rfl) rfl rfl ?_
      refine SL.x (op_store ty74 rfl rfl (by repeat (first | exact AtO.here | apply AtO.there)) rfl rfl rfl) rfl rfl ?_
      rintro _ _ _ ⟨rfl, rfl⟩
      refine SL.nil ?_
      refine T.blk ?_
      refine T.region ?_
      first | refine SL.y (op_addN (q := 1) rfl rfl (by omega)) rfl rfl ?_ | refine SL.y (op_add rfl rfl (by omega) (by omega)) rfl rfl ?_ | refine SL.y (op_addW rfl rfl) rfl rfl ?_
      refine SL.y (op_move rfl) rfl rfl ?_
      refine SL.nil ?_
      -- cut
      refine T.drop B7 (by repeat (first | exact AtO.here | apply AtO.there)) ?_
      exact T.backW (l.length - (k + 1)) (by omega) ⟨k + 1, _, G', rfl, by omega, hX1, (by rw [hsucc, if_pos hd, enC_append, List.length_append]; exact hG'), rfl, rfl⟩ (by repeat (first | exact Sub.nil | refine Sub.cons rfl ?_))
    · refine SL.x (op_alloc z76) rfl rfl ?_
      rintro _ _ _ ⟨B7, rfl, rfl, rfl⟩
      refine SL.x (op_store ty76 rfl rfl (by repeat (first | exact AtO.here | apply AtO.there)) rfl rfl rfl) rfl rfl ?_
      rintro _ _ _ ⟨rfl, rfl⟩
      refine SL.nil ?_
      refine T.seq ?_
      refine T.region ?_
      refine SL.y (op_fieldAddr fa76_2 rfl) rfl rfl ?_
      first | refine SL.y (op_load ty3 rfl (by repeat (first | exact AtO.here | apply AtO.there)) rfl) rfl rfl ?_ | refine SL.y (op_loadX ty3 rfl (by assumption) rfl) rfl rfl ?_
      refine SL.y (op_move rfl) rfl rfl ?_
      first | refine SL.y (op_geqT rfl rfl (by omega)) rfl rfl ?_ | refine SL.y (op_geqF rfl rfl (by omega)) rfl rfl ?_ | refine SL.y (op_geq rfl rfl) rfl rfl ?_
      refine SL.nil ?_
      refine T.condF rfl ?_
      refine T.skip ?_
      refine T.blk ?_
      refine T.region ?_
      first | refine SL.y (op_addN (q := 1) rfl rfl (by omega)) rfl rfl ?_ | refine SL.y (op_add rfl rfl (by omega) (by omega)) rfl rfl ?_ | refine SL.y (op_addW rfl rfl) rfl rfl ?_
      refine SL.y (op_move rfl) rfl rfl ?_
      refine SL.nil ?_
      -- cut
      refine T.drop B7 (by repeat (first | exact AtO.here | apply AtO.there)) ?_
      exact T.backW (l.length - (k + 1)) (by omega) ⟨k + 1, _, G, rfl, by omega, hX1, (by rw [hsucc, if_neg hd]; exact hG), rfl, rfl⟩ (by repeat (first | exact Sub.nil | refine Sub.cons rfl ?_))
  · obtain rfl : k = l.length := by omega
    refine T.seq ?_
    refine T.region ?_
    first | refine SL.y (op_lssT rfl rfl (by omega)) rfl rfl ?_ | refine SL.y (op_lssF rfl rfl (by omega)) rfl rfl ?_ | refine SL.y (op_lss rfl rfl) rfl rfl ?_
    refine SL.nil ?_
    refine T.seq ?_
    refine T.condF rfl ?_
    refine T.exit (T.exitCode (T.exitCut (T.exitBlk ?_)))
    refine T.seq ?_
    refine T.region ?_
    -- to 35: op
    refine T.pubGAt (own0 := [_]) hG ?_
    intro X2 hX2 hS2
    refine T.pubAt bo (by repeat (first | exact AtO.here | apply AtO.there)) ?_
    intro X3 hX3 hB3 _
    refine SL.y (op_move rfl) rfl rfl ?_
    refine SL.y (op_assign rfl) rfl rfl ?_
    refine SL.nil ?_
    -- ret
    refine T.ret1 rfl (ResIs.tmp rfl) ?_
    rw [List.take_length] at hS2 hB3
    exact ⟨bo, _, rfl, hB3, hS2.mono hX3⟩
theorem expireN_spec {X : PMap} {d : Int} : Spec Tryd.prog 27 [.pointer none, .int .i64 d] X fun w _ => w = .pointer none := by
  refine Spec.enter Tryd.func27 rfl Tryd.ntmps27 rfl ?_
  intro w0 hw0
  refine T.seq ?_
  refine T.region ?_
  refine SL.y (op_assign rfl) rfl rfl ?_
  refine SL.nil ?_
  refine T.seq ?_
  refine T.seq ?_
  refine T.region ?_
  refine SL.y (op_move rfl) rfl rfl ?_
  refine SL.y (op_eqlNil Tryd.underlying24 rfl rfl) rfl rfl ?_
  refine SL.nil ?_
  refine T.condT rfl ?_
  refine T.seq ?_
  refine T.region ?_
  refine SL.y (op_assign rfl) rfl rfl ?_
  refine SL.nil ?_
  -- ret
  refine T.ret1 rfl (ResIs.tmp rfl) ?_
  rfl
end Go.Proofs.YtkmnlogacfkjmaaDoor
