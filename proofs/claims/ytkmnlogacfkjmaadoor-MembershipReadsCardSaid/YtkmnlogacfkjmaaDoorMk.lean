/- Books made of raw assignments. -/
import Derived.Test.YtkmnlogacfkjmaaDoorLaw
namespace Go.Proofs.YtkmnlogacfkjmaaDoor
section
set_option maxRecDepth 100000
theorem en15 : Enters Tryd.prog 15 := enters_mk Tryd.func15 (by kernel_rfl) rfl
theorem en24 : Enters Tryd.prog 24 := enters_mk Tryd.func24 (by kernel_rfl) rfl
theorem en33 : Enters Tryd.prog 33 := enters_mk Tryd.func33 (by kernel_rfl) rfl
theorem en43 : Enters Tryd.prog 43 := enters_mk Tryd.func43 (by kernel_rfl) rfl
theorem fa50_0 : FAdr Tryd.prog 50 0 0 := fadr_mk Tryd.underlying50 rfl rfl (by kernel_rfl)
theorem fa50_1 : FAdr Tryd.prog 50 1 1 := fadr_mk Tryd.underlying50 rfl rfl (by kernel_rfl)
theorem fa50_2 : FAdr Tryd.prog 50 2 2 := fadr_mk Tryd.underlying50 rfl rfl (by kernel_rfl)
theorem st33 : StT Tryd.prog 33 [(0, 1), (1, 1), (2, 1)] [.int .i64 0, .int .i64 0, .int .i64 0] := ⟨⟨_, Tryd.underlying33, fun _ => by kernel_rfl, z33⟩⟩
theorem ty50 : Ty Tryd.prog 50 true 3 := ⟨⟨_, Tryd.underlying50, rfl⟩, by kernel_rfl⟩
theorem z50 : Zero Tryd.prog 50 [.int .u8 0, .int .u8 0, .int .u8 0] := ⟨zero_of (by kernel_rfl)⟩
end
open Go.RowKit
abbrev Rw := Nat × Nat × Nat
def rC (r : Rw) : List Value := [.int .u8 (r.1 : Int), .int .u8 (r.2.1 : Int), .int .u8 (r.2.2 : Int)]
def rawC (rs : List Rw) : List Value := (rs.map rC).flatten
theorem rawC_len (l : List Rw) : (rawC l).length = l.length * 3 := by
  induction l with
  | nil => rfl
  | cons e l ih => rw [rawC, List.map_cons, List.flatten_cons, List.length_append, ← rawC, ih]; simp [rC]; omega
theorem rawC_at : ∀ {l : List Rw} {i : Nat} {r : Rw}, l[i]? = some r → (rawC l)[i * 3]? = some (.int .u8 (r.1 : Int)) ∧ (rawC l)[i * 3 + 1]? = some (.int .u8 (r.2.1 : Int)) ∧ (rawC l)[i * 3 + 2]? = some (.int .u8 (r.2.2 : Int))
  | [], i, r, h => by cases h
  | a :: l, 0, r, h => by
    simp at h; subst h
    simp [rawC, rC]
  | a :: l, i + 1, r, h => by
    have := rawC_at (l := l) (i := i) (r := r) (by simpa using h)
    have e : rawC (a :: l) = .int .u8 (a.1 : Int) :: .int .u8 (a.2.1 : Int) :: .int .u8 (a.2.2 : Int) :: rawC l := rfl
    rw [e, show (i + 1) * 3 = i * 3 + 3 by omega, show i * 3 + 3 + 1 = i * 3 + 1 + 3 by omega, show i * 3 + 3 + 2 = i * 3 + 2 + 3 by omega]
    simpa using this
def RawR (X : PMap) (v : Value) (rs : List Rw) : Prop :=
  (rs = [] ∧ ∃ A c, v = .slice A 0 c) ∨ (0 < rs.length ∧ ∃ b c pre, v = .slice (some ⟨b, List.length pre, none⟩) rs.length c ∧ Blk X b (pre ++ rawC rs))
theorem RawR.mono {X X' : PMap} {v : Value} {rs : List Rw} (h : RawR X v rs) (hX : X.le X') : RawR X' v rs := by
  rcases h with h | ⟨h0, b, c, pre, hv, hb⟩
  · exact .inl h
  · exact .inr ⟨h0, b, c, pre, hv, hb.mono hX⟩
theorem RawR.form {X : PMap} {v : Value} {rs : List Rw} (h : RawR X v rs) : ∃ A cp, v = .slice A rs.length cp := by
  rcases h with ⟨rfl, A, c, rfl⟩ | ⟨_, b, c, pre, rfl, _⟩
  · exact ⟨_, _, rfl⟩
  · exact ⟨_, _, rfl⟩
theorem RawR.blk {X : PMap} {A : Option Addr} {cp len : Nat} {rs : List Rw} (h : RawR X (.slice A len cp) rs) (h0 : 0 < rs.length) : ∃ b pre, A = some ⟨b, List.length pre, none⟩ ∧ Blk X b (pre ++ rawC rs) := by
  rcases h with ⟨rfl, _⟩ | ⟨_, b, c, pre, hv, hb⟩
  · simp at h0
  · simp only [Value.slice.injEq] at hv
    exact ⟨b, pre, hv.1, hb⟩
def rawOk (rs : List Rw) : Prop := ∀ r ∈ rs, r.1 < 256 ∧ r.2.1 < 256 ∧ r.2.2 < 256
def fitE (r : Rw) : En := (((1 + r.1 % 5 : Nat) : Int), ((1 + r.2.1 % 8 : Nat) : Int), ((r.2.2 % 20 : Nat) : Int))
theorem fit_ok (r : Rw) : okE (fitE r) := by
  refine ⟨?_, ?_, ?_, ?_, ?_, ?_⟩ <;> simp only [fitE] <;> omega
theorem fit_err (r : Rw) : asgErr (fitE r).1 (fitE r).2.1 (fitE r).2.2 = 0 := by
  obtain ⟨h1, h2, h3, h4, h5, h6⟩ := fit_ok r
  simp only [asgErr]
  rw [if_neg (by simp [keyOk]; omega), if_neg (by omega)]
theorem fit_spec {X : PMap} {r : Rw} (h : r.1 < 256 ∧ r.2.1 < 256 ∧ r.2.2 < 256) : Spec Tryd.prog 24 [.agg #[.int .u8 (r.1 : Int), .int .u8 (r.2.1 : Int), .int .u8 (r.2.2 : Int)]] X fun w _ => w = .agg #[.int .i64 (fitE r).1, .int .i64 (fitE r).2.1, .int .i64 (fitE r).2.2] := by
  obtain ⟨h1, h2, h3⟩ := h
  refine Spec.enter Tryd.func24 rfl Tryd.ntmps24 rfl ?_
  intro w0 hw0
  refine T.seq ?_
  refine T.region ?_
  refine SL.x (op_box rfl) rfl rfl ?_
  rintro _ _ _ ⟨B1, rfl, rfl, rfl⟩
  refine SL.x (op_alloc z33) rfl rfl ?_
  rintro _ _ _ ⟨B2, rfl, rfl, rfl⟩
  refine SL.nil ?_
  refine T.seq ?_
  refine T.region ?_
  refine SL.y (op_fieldAddr fa50_0 rfl) rfl rfl ?_
  first | refine SL.y (op_load ty5 rfl (by repeat (first | exact AtO.here | apply AtO.there)) rfl) rfl rfl ?_ | refine SL.y (op_loadX ty5 rfl (by assumption) rfl) rfl rfl ?_
  -- to 5: op
  refine SL.y (op_remN (q := 5) rfl rfl rfl (by omega)) rfl rfl ?_
  first | refine SL.y (op_convI64 Tryd.underlying5 Tryd.underlying3 rfl (by omega) (by omega)) rfl rfl ?_ | refine SL.y (op_convert Tryd.underlying5 Tryd.underlying3 rfl) rfl rfl ?_
  -- to 7: op
  refine SL.y (op_addN (p := 1) rfl rfl (by omega)) rfl rfl ?_
  refine SL.y (op_fieldAddr fa50_1 rfl) rfl rfl ?_
  first | refine SL.y (op_load ty5 rfl (by repeat (first | exact AtO.here | apply AtO.there)) rfl) rfl rfl ?_ | refine SL.y (op_loadX ty5 rfl (by assumption) rfl) rfl rfl ?_
  -- to 10: op
  refine SL.y (op_remN (q := 8) rfl rfl rfl (by omega)) rfl rfl ?_
  first | refine SL.y (op_convI64 Tryd.underlying5 Tryd.underlying3 rfl (by omega) (by omega)) rfl rfl ?_ | refine SL.y (op_convert Tryd.underlying5 Tryd.underlying3 rfl) rfl rfl ?_
  -- to 12: op
  refine SL.y (op_addN (p := 1) rfl rfl (by omega)) rfl rfl ?_
  refine SL.y (op_fieldAddr fa50_2 rfl) rfl rfl ?_
  first | refine SL.y (op_load ty5 rfl (by repeat (first | exact AtO.here | apply AtO.there)) rfl) rfl rfl ?_ | refine SL.y (op_loadX ty5 rfl (by assumption) rfl) rfl rfl ?_
  -- to 15: op
  refine SL.y (op_remN (q := 20) rfl rfl rfl (by omega)) rfl rfl ?_
  first | refine SL.y (op_convI64 Tryd.underlying5 Tryd.underlying3 rfl (by omega) (by omega)) rfl rfl ?_ | refine SL.y (op_convert Tryd.underlying5 Tryd.underlying3 rfl) rfl rfl ?_
  refine SL.y (op_build st33 (qs := [(0, _), (1, _), (2, _)]) rfl rfl) rfl rfl ?_
  refine SL.x (op_store ty33 rfl rfl (by repeat (first | exact AtO.here | apply AtO.there)) rfl rfl rfl) rfl rfl ?_
  rintro _ _ _ ⟨rfl, rfl⟩
  refine SL.nil ?_
  -- ret
  refine T.ret1 rfl (ResIs.cell rfl ty33 (by repeat (first | exact AtO.here | apply AtO.there)) rfl) ?_
  rfl
/-- The book of the first k of these. -/
def stepE (l : List En) (x : En) : List En := insE x (revE l x.1 x.2.1)
def mkK (rs : List Rw) (k : Nat) : List En := (rs.take k).foldl (fun l r => stepE l (fitE r)) []
def mkE (rs : List Rw) : List En := mkK rs 16
theorem mkK_succ {rs : List Rw} {k : Nat} {r : Rw} (h : rs[k]? = some r) : mkK rs (k + 1) = stepE (mkK rs k) (fitE r) := by
  obtain ⟨h1, h2⟩ := List.getElem?_eq_some_iff.1 h
  rw [mkK, List.take_succ_eq_append_getElem h1, List.foldl_append, h2]; rfl
theorem step_wf {l : List En} (hw : WfL l) {x : En} (hx : okE x) : WfL (stepE l x) := insE_wf hw hx
theorem mkK_wf (rs : List Rw) : ∀ k, k ≤ rs.length → WfL (mkK rs k)
  | 0, _ => wf_nil
  | k + 1, h => by rw [mkK_succ (List.getElem?_eq_getElem (by omega))]; exact step_wf (mkK_wf rs k (by omega)) (fit_ok _)
theorem mkK_len (rs : List Rw) : ∀ k, k ≤ rs.length → (mkK rs k).length ≤ k
  | 0, _ => by simp [mkK]
  | k + 1, h => by
    rw [mkK_succ (List.getElem?_eq_getElem (by omega)), stepE, insE_len]
    have h1 := mkK_len rs k (by omega)
    have h2 : (revE (mkK rs k) (fitE (rs[k]'(by omega))).1 (fitE (rs[k]'(by omega))).2.1).length ≤ (mkK rs k).length := List.length_filter_le _ _
    omega
theorem mkE_short {rs : List Rw} (h : rs.length ≤ 16) : mkE rs = mkK rs rs.length := by rw [mkE, mkK, mkK, List.take_of_length_le h, List.take_length]
theorem mkE_wf (rs : List Rw) : WfL (mkE rs) := by
  rcases Nat.lt_or_ge rs.length 16 with h | h
  · rw [mkE_short (by omega)]; exact mkK_wf rs _ (Nat.le_refl _)
  · exact mkK_wf rs 16 h
theorem mkE_len (rs : List Rw) : (mkE rs).length ≤ 16 := by
  rcases Nat.lt_or_ge rs.length 16 with h | h
  · rw [mkE_short (by omega)]; have := mkK_len rs _ (Nat.le_refl rs.length); omega
  · exact mkK_len rs 16 h
theorem rmake_spec {X : PMap} {v : Value} {rs : List Rw} (h : RawR X v rs) (hr : rawOk rs) : Spec Tryd.prog 43 [v] X fun w X' => SliceR X' w (mkE rs).length (enC (mkE rs)) := by
  obtain ⟨A, cp, rfl⟩ := h.form
  refine Spec.enter Tryd.func43 rfl Tryd.ntmps43 rfl ?_
  intro w0 hw0
  refine T.seq ?_
  refine T.region ?_
  refine SL.y (op_assign rfl) rfl rfl ?_
  refine SL.nil ?_
  refine T.seq ?_
  refine T.region ?_
  refine SL.y (op_assign rfl) rfl rfl ?_
  refine SL.nil ?_
  refine T.seq ?_
  refine T.seq ?_
  refine T.region ?_
  refine SL.y (op_move rfl) rfl rfl ?_
  refine SL.y (op_lenS Tryd.underlying22 rfl) rfl rfl ?_
  refine SL.y (op_move (v := .int .i64 ((0 : Nat) : Int)) rfl) rfl rfl ?_
  refine SL.nil ?_
  refine T.block ?_
  -- loop live [2, 3, 6, 7, 8]
  refine T.loopW (fun m env own X' => ∃ (k : Nat) (sv : Value), m = rs.length - k ∧ k ≤ rs.length ∧ k ≤ 16 ∧ X.le X' ∧ SliceR X' sv (mkK rs k).length (enC (mkK rs k)) ∧ env = [(3, sv), (6, .slice A rs.length cp), (7, .int .i64 (rs.length : Int)), (8, .int .i64 (k : Int))] ∧ own = []) rs.length ⟨0, _, by simp, by omega, by omega, PMap.le_refl _, .inl ⟨rfl, rfl, _, _, rfl⟩, rfl, rfl⟩ (by repeat (first | exact Sub.nil | refine Sub.cons rfl ?_)) ?_
  rintro m _ _ X1 ⟨k, sv, rfl, hk, hk16, hX1, hs, rfl, rfl⟩
  obtain ⟨As, cs, rfl⟩ := SliceR.form hs
  rcases Nat.lt_or_ge k rs.length with hkl | hkl
  · obtain ⟨b2, pre, rfl, hB⟩ := h.blk (by omega)
    have hB1 := hB.mono hX1
    obtain ⟨r, he⟩ : ∃ r, rs[k]? = some r := ⟨_, List.getElem?_eq_getElem hkl⟩
    obtain ⟨g1, g2, g3⟩ := rawC_at he
    have e1 : (pre ++ rawC rs)[pre.length + k * 3]? = some (.int .u8 (r.1 : Int)) := by rw [List.getElem?_append_right (by omega), Nat.add_sub_cancel_left]; exact g1
    have e2 : (pre ++ rawC rs)[pre.length + k * 3 + 1]? = some (.int .u8 (r.2.1 : Int)) := by rw [List.getElem?_append_right (by omega), show pre.length + k * 3 + 1 - pre.length = k * 3 + 1 by omega]; exact g2
    have e3 : (pre ++ rawC rs)[pre.length + k * 3 + 2]? = some (.int .u8 (r.2.2 : Int)) := by rw [List.getElem?_append_right (by omega), show pre.length + k * 3 + 2 - pre.length = k * 3 + 2 by omega]; exact g3
    have hsucc := mkK_succ he
    have hkw := mkK_wf rs k hk
    have hkL := mkK_len rs k hk
    have hfe := fit_err r
    refine T.seq ?_
    refine T.region ?_
    first | refine SL.y (op_lssT rfl rfl (by omega)) rfl rfl ?_ | refine SL.y (op_lssF rfl rfl (by omega)) rfl rfl ?_ | refine SL.y (op_lss rfl rfl) rfl rfl ?_
    refine SL.nil ?_
    refine T.seq ?_
    refine T.condT rfl ?_
    refine T.skip ?_
    refine T.seq ?_
    refine T.block ?_
    refine T.seq ?_
    refine T.region ?_
    refine SL.y (op_move rfl) rfl rfl ?_
    first | refine SL.y (op_indexN Tryd.underlying22 ty50 rfl rfl (by omega)) rfl rfl ?_ | refine SL.y (op_index Tryd.underlying22 ty50 rfl rfl (by omega) (by omega)) rfl rfl ?_
    -- to 12: op
    refine SL.y (op_loadX ty50 rfl hB1 (cread3 e1 e2 e3 (by omega))) rfl rfl ?_
    by_cases hc : k = 16
    · subst hc
      refine SL.x (op_alloc z50) rfl rfl ?_
      rintro _ _ _ ⟨B5, rfl, rfl, rfl⟩
      refine SL.y (op_assign rfl) rfl rfl ?_
      refine SL.x (op_store ty50 rfl rfl (by repeat (first | exact AtO.here | apply AtO.there)) rfl rfl rfl) rfl rfl ?_
      rintro _ _ _ ⟨rfl, rfl⟩
      refine SL.nil ?_
      refine T.seq ?_
      refine T.seq ?_
      refine T.region ?_
      refine SL.y (op_move rfl) rfl rfl ?_
      first | refine SL.y (op_eqlT rfl rfl (by omega)) rfl rfl ?_ | refine SL.y (op_eqlF rfl rfl (by omega)) rfl rfl ?_ | refine SL.y (op_eql rfl rfl) rfl rfl ?_
      refine SL.nil ?_
      refine T.condT rfl ?_
      refine T.exit (T.exitCode (T.exitOther rfl (T.exitCode (T.exitCut (T.exitBlk ?_)))))
      refine T.seq ?_
      refine T.region ?_
      refine SL.y (op_move rfl) rfl rfl ?_
      refine SL.y (op_assign rfl) rfl rfl ?_
      refine SL.nil ?_
      -- ret
      refine T.ret1 rfl (ResIs.tmp rfl) ?_
      exact hs
    · refine SL.x (op_alloc z50) rfl rfl ?_
      rintro _ _ _ ⟨B5, rfl, rfl, rfl⟩
      refine SL.y (op_assign rfl) rfl rfl ?_
      refine SL.x (op_store ty50 rfl rfl (by repeat (first | exact AtO.here | apply AtO.there)) rfl rfl rfl) rfl rfl ?_
      rintro _ _ _ ⟨rfl, rfl⟩
      refine SL.nil ?_
      refine T.seq ?_
      refine T.seq ?_
      refine T.region ?_
      refine SL.y (op_move rfl) rfl rfl ?_
      first | refine SL.y (op_eqlT rfl rfl (by omega)) rfl rfl ?_ | refine SL.y (op_eqlF rfl rfl (by omega)) rfl rfl ?_ | refine SL.y (op_eql rfl rfl) rfl rfl ?_
      refine SL.nil ?_
      refine T.condF rfl ?_
      refine T.skip ?_
      refine T.region ?_
      refine SL.y (op_move rfl) rfl rfl ?_
      first | refine SL.y (op_load ty50 rfl (by repeat (first | exact AtO.here | apply AtO.there)) rfl) rfl rfl ?_ | refine SL.y (op_loadX ty50 rfl (by assumption) rfl) rfl rfl ?_
      -- op
      refine SL.x (op_callF en24 (vs := [_]) rfl (fit_spec (hr r (List.mem_of_getElem? he)))) rfl rfl ?_
      rintro _ _ X2 ⟨rfl, hX2, rfl⟩
      refine SL.x (op_callF en33 (vs := [_, _]) rfl (rassign_spec (hs.mono hX2) (by omega) (x := fitE r))) rfl rfl ?_
      rintro w3 _ X3 ⟨rfl, hX3, hw3⟩
      rw [if_pos hfe] at hw3
      obtain ⟨s3, rfl, hs3⟩ := hw3
      obtain ⟨A3, c3, rfl⟩ := SliceR.form hs3
      refine SL.y (op_move rfl) rfl rfl ?_
      refine SL.y (op_extract rfl rfl) rfl rfl ?_
      refine SL.y (op_extract rfl rfl) rfl rfl ?_
      refine SL.y (op_assign rfl) rfl rfl ?_
      refine SL.nil ?_
      refine T.blk ?_
      refine T.region ?_
      first | refine SL.y (op_addN (q := 1) rfl rfl (by omega)) rfl rfl ?_ | refine SL.y (op_add rfl rfl (by omega) (by omega)) rfl rfl ?_ | refine SL.y (op_addW rfl rfl) rfl rfl ?_
      refine SL.y (op_move rfl) rfl rfl ?_
      refine SL.nil ?_
      -- cut
      refine T.drop B5 (by repeat (first | exact AtO.here | apply AtO.there)) ?_
      exact T.backW (rs.length - (k + 1)) (by omega) ⟨k + 1, _, rfl, by omega, by omega, (hX1.trans' hX2).trans' hX3, (by rw [hsucc]; exact hs3), rfl, rfl⟩ (by repeat (first | exact Sub.nil | refine Sub.cons rfl ?_))
  · obtain rfl : k = rs.length := by omega
    refine T.seq ?_
    refine T.region ?_
    first | refine SL.y (op_lssT rfl rfl (by omega)) rfl rfl ?_ | refine SL.y (op_lssF rfl rfl (by omega)) rfl rfl ?_ | refine SL.y (op_lss rfl rfl) rfl rfl ?_
    refine SL.nil ?_
    refine T.seq ?_
    refine T.condF rfl ?_
    refine T.exit (T.exitCode (T.exitCut (T.exitBlk ?_)))
    refine T.seq ?_
    refine T.region ?_
    refine SL.y (op_move rfl) rfl rfl ?_
    refine SL.y (op_assign rfl) rfl rfl ?_
    refine SL.nil ?_
    -- ret
    refine T.ret1 rfl (ResIs.tmp rfl) ?_
    rw [← mkE_short hk16] at hs ⊢
    exact hs
theorem make12_spec {X : PMap} {v : Value} {rs : List Rw} (h : RawR X v rs) (hr : rawOk rs) : Spec Tryd.prog 13 [v] X fun w X' => ∃ p s, w = .tuple #[p, s] ∧ BkR X' p (mkE rs) ∧ SliceR X' s (mkE rs).length (enC (mkE rs)) := by
  obtain ⟨A, cp, rfl⟩ := h.form
  refine Spec.enter Tryd.func13 rfl Tryd.ntmps13 rfl ?_
  intro w0 hw0
  refine T.seq ?_
  refine T.region ?_
  refine SL.y (op_assign rfl) rfl rfl ?_
  refine SL.y (op_assign rfl) rfl rfl ?_
  refine SL.nil ?_
  refine T.seq ?_
  refine T.region ?_
  -- op
  refine SL.x (op_callF en14 (vs := []) rfl (bnew_spec)) rfl rfl ?_
  rintro p0 _ X0 ⟨rfl, hX0, hp0⟩
  refine SL.y (op_assign rfl) rfl rfl ?_
  refine SL.nil ?_
  refine T.seq ?_
  refine T.seq ?_
  refine T.region ?_
  refine SL.y (op_move rfl) rfl rfl ?_
  refine SL.y (op_lenS Tryd.underlying22 rfl) rfl rfl ?_
  refine SL.y (op_move (v := .int .i64 ((0 : Nat) : Int)) rfl) rfl rfl ?_
  refine SL.nil ?_
  refine T.block ?_
  -- loop live [0, 2, 3, 4, 11, 12, 13]
  refine T.loopW (fun m env own X' => ∃ (k : Nat) (p : Value), m = rs.length - k ∧ k ≤ rs.length ∧ k ≤ 16 ∧ X0.le X' ∧ BkR X' p (mkK rs k) ∧ env = [(0, .slice A rs.length cp), (4, p), (11, .slice A rs.length cp), (12, .int .i64 (rs.length : Int)), (13, .int .i64 (k : Int))] ∧ own = []) rs.length ⟨0, _, by simp, by omega, by omega, PMap.le_refl _, hp0, rfl, rfl⟩ (by repeat (first | exact Sub.nil | refine Sub.cons rfl ?_)) ?_
  rintro m _ _ X1 ⟨k, p, rfl, hk, hk16, hX1, hp, rfl, rfl⟩
  have hX01 := hX0.trans' hX1
  rcases Nat.lt_or_ge k rs.length with hkl | hkl
  · obtain ⟨b2, pre, rfl, hB⟩ := h.blk (by omega)
    have hB1 := hB.mono hX01
    obtain ⟨r, he⟩ : ∃ r, rs[k]? = some r := ⟨_, List.getElem?_eq_getElem hkl⟩
    obtain ⟨g1, g2, g3⟩ := rawC_at he
    have e1 : (pre ++ rawC rs)[pre.length + k * 3]? = some (.int .u8 (r.1 : Int)) := by rw [List.getElem?_append_right (by omega), Nat.add_sub_cancel_left]; exact g1
    have e2 : (pre ++ rawC rs)[pre.length + k * 3 + 1]? = some (.int .u8 (r.2.1 : Int)) := by rw [List.getElem?_append_right (by omega), show pre.length + k * 3 + 1 - pre.length = k * 3 + 1 by omega]; exact g2
    have e3 : (pre ++ rawC rs)[pre.length + k * 3 + 2]? = some (.int .u8 (r.2.2 : Int)) := by rw [List.getElem?_append_right (by omega), show pre.length + k * 3 + 2 - pre.length = k * 3 + 2 by omega]; exact g3
    have hsucc := mkK_succ he
    have hkw := mkK_wf rs k hk
    have hkL := mkK_len rs k hk
    have hfe := fit_err r
    refine T.seq ?_
    refine T.region ?_
    first | refine SL.y (op_lssT rfl rfl (by omega)) rfl rfl ?_ | refine SL.y (op_lssF rfl rfl (by omega)) rfl rfl ?_ | refine SL.y (op_lss rfl rfl) rfl rfl ?_
    refine SL.nil ?_
    refine T.seq ?_
    refine T.condT rfl ?_
    refine T.skip ?_
    refine T.seq ?_
    refine T.block ?_
    refine T.seq ?_
    refine T.region ?_
    refine SL.y (op_move rfl) rfl rfl ?_
    first | refine SL.y (op_indexN Tryd.underlying22 ty50 rfl rfl (by omega)) rfl rfl ?_ | refine SL.y (op_index Tryd.underlying22 ty50 rfl rfl (by omega) (by omega)) rfl rfl ?_
    -- to 17: op
    refine SL.y (op_loadX ty50 rfl hB1 (cread3 e1 e2 e3 (by omega))) rfl rfl ?_
    by_cases hc : k = 16
    · subst hc
      refine SL.x (op_alloc z50) rfl rfl ?_
      rintro _ _ _ ⟨B6, rfl, rfl, rfl⟩
      refine SL.y (op_assign rfl) rfl rfl ?_
      refine SL.x (op_store ty50 rfl rfl (by repeat (first | exact AtO.here | apply AtO.there)) rfl rfl rfl) rfl rfl ?_
      rintro _ _ _ ⟨rfl, rfl⟩
      refine SL.nil ?_
      refine T.seq ?_
      refine T.seq ?_
      refine T.region ?_
      refine SL.y (op_move rfl) rfl rfl ?_
      first | refine SL.y (op_eqlT rfl rfl (by omega)) rfl rfl ?_ | refine SL.y (op_eqlF rfl rfl (by omega)) rfl rfl ?_ | refine SL.y (op_eql rfl rfl) rfl rfl ?_
      refine SL.nil ?_
      refine T.condT rfl ?_
      refine T.exit (T.exitCode (T.exitOther rfl (T.exitCode (T.exitCut (T.exitBlk ?_)))))
      refine T.seq ?_
      refine T.region ?_
      refine SL.y (op_move rfl) rfl rfl ?_
      refine SL.y (op_move rfl) rfl rfl ?_
      -- op
      refine SL.x (op_callF en43 (vs := [_]) rfl (rmake_spec (h.mono hX01) hr)) rfl rfl ?_
      rintro s _ X4 ⟨rfl, hX4, hs⟩
      refine SL.y (op_assign rfl) rfl rfl ?_
      refine SL.y (op_assign rfl) rfl rfl ?_
      refine SL.nil ?_
      -- ret
      refine T.ret2 rfl (ResIs.tmp rfl) (ResIs.tmp rfl) ?_
      exact ⟨p, s, rfl, hp.mono hX4, hs⟩
    · refine SL.x (op_alloc z50) rfl rfl ?_
      rintro _ _ _ ⟨B6, rfl, rfl, rfl⟩
      refine SL.y (op_assign rfl) rfl rfl ?_
      refine SL.x (op_store ty50 rfl rfl (by repeat (first | exact AtO.here | apply AtO.there)) rfl rfl rfl) rfl rfl ?_
      rintro _ _ _ ⟨rfl, rfl⟩
      refine SL.nil ?_
      refine T.seq ?_
      refine T.seq ?_
      refine T.region ?_
      refine SL.y (op_move rfl) rfl rfl ?_
      first | refine SL.y (op_eqlT rfl rfl (by omega)) rfl rfl ?_ | refine SL.y (op_eqlF rfl rfl (by omega)) rfl rfl ?_ | refine SL.y (op_eql rfl rfl) rfl rfl ?_
      refine SL.nil ?_
      refine T.condF rfl ?_
      refine T.skip ?_
      refine T.seq ?_
      refine T.region ?_
      first | refine SL.y (op_load ty50 rfl (by repeat (first | exact AtO.here | apply AtO.there)) rfl) rfl rfl ?_ | refine SL.y (op_loadX ty50 rfl (by assumption) rfl) rfl rfl ?_
      -- op
      refine SL.x (op_callF en24 (vs := [_]) rfl (fit_spec (hr r (List.mem_of_getElem? he)))) rfl rfl ?_
      rintro _ _ X2 ⟨rfl, hX2, rfl⟩
      refine SL.x (op_alloc z33) rfl rfl ?_
      rintro _ _ _ ⟨B7, rfl, rfl, rfl⟩
      refine SL.x (op_store ty33 rfl rfl (by repeat (first | exact AtO.here | apply AtO.there)) rfl rfl rfl) rfl rfl ?_
      rintro _ _ _ ⟨rfl, rfl⟩
      refine SL.nil ?_
      refine T.seq ?_
      refine T.region ?_
      refine SL.y (op_move rfl) rfl rfl ?_
      refine SL.y (op_fieldAddr fa33_0 rfl) rfl rfl ?_
      first | refine SL.y (op_load ty3 rfl (by repeat (first | exact AtO.here | apply AtO.there)) rfl) rfl rfl ?_ | refine SL.y (op_loadX ty3 rfl (by assumption) rfl) rfl rfl ?_
      refine SL.y (op_fieldAddr fa33_1 rfl) rfl rfl ?_
      first | refine SL.y (op_load ty3 rfl (by repeat (first | exact AtO.here | apply AtO.there)) rfl) rfl rfl ?_ | refine SL.y (op_loadX ty3 rfl (by assumption) rfl) rfl rfl ?_
      refine SL.y (op_fieldAddr fa33_2 rfl) rfl rfl ?_
      first | refine SL.y (op_load ty3 rfl (by repeat (first | exact AtO.here | apply AtO.there)) rfl) rfl rfl ?_ | refine SL.y (op_loadX ty3 rfl (by assumption) rfl) rfl rfl ?_
      -- op
      refine SL.x (op_callF en15 (vs := [_, _, _, _]) rfl (assign_spec (hp.mono hX2) hkw (by omega) (u := (fitE r).1) (r := (fitE r).2.1) (t := (fitE r).2.2))) rfl rfl ?_
      rintro w3 _ X3 ⟨rfl, hX3, hw3⟩
      rw [if_pos hfe] at hw3
      obtain ⟨p3, rfl, hp3⟩ := hw3
      refine SL.y (op_move rfl) rfl rfl ?_
      refine SL.y (op_extract rfl rfl) rfl rfl ?_
      refine SL.y (op_extract rfl rfl) rfl rfl ?_
      refine SL.y (op_assign rfl) rfl rfl ?_
      refine SL.y (op_assign rfl) rfl rfl ?_
      refine SL.nil ?_
      refine T.seq ?_
      refine T.seq ?_
      refine T.region ?_
      refine SL.y (op_move rfl) rfl rfl ?_
      first | refine SL.y (op_neqT rfl rfl (by omega)) rfl rfl ?_ | refine SL.y (op_neqF rfl rfl (by omega)) rfl rfl ?_ | refine SL.y (op_neq rfl rfl) rfl rfl ?_
      refine SL.nil ?_
      refine T.condF rfl ?_
      refine T.skip ?_
      refine T.region ?_
      refine SL.y (op_move rfl) rfl rfl ?_
      refine SL.y (op_assign rfl) rfl rfl ?_
      refine SL.nil ?_
      refine T.blk ?_
      refine T.region ?_
      first | refine SL.y (op_addN (q := 1) rfl rfl (by omega)) rfl rfl ?_ | refine SL.y (op_add rfl rfl (by omega) (by omega)) rfl rfl ?_ | refine SL.y (op_addW rfl rfl) rfl rfl ?_
      refine SL.y (op_move rfl) rfl rfl ?_
      refine SL.nil ?_
      -- cut
      refine T.drop B7 (by repeat (first | exact AtO.here | apply AtO.there)) ?_
      refine T.drop B6 (by repeat (first | exact AtO.here | apply AtO.there)) ?_
      exact T.backW (rs.length - (k + 1)) (by omega) ⟨k + 1, _, rfl, by omega, by omega, (hX1.trans' hX2).trans' hX3, (by rw [hsucc, stepE, ← asg_eq hkw]; exact hp3), rfl, rfl⟩ (by repeat (first | exact Sub.nil | refine Sub.cons rfl ?_))
  · obtain rfl : k = rs.length := by omega
    refine T.seq ?_
    refine T.region ?_
    first | refine SL.y (op_lssT rfl rfl (by omega)) rfl rfl ?_ | refine SL.y (op_lssF rfl rfl (by omega)) rfl rfl ?_ | refine SL.y (op_lss rfl rfl) rfl rfl ?_
    refine SL.nil ?_
    refine T.seq ?_
    refine T.condF rfl ?_
    refine T.exit (T.exitCode (T.exitCut (T.exitBlk ?_)))
    refine T.seq ?_
    refine T.region ?_
    refine SL.y (op_move rfl) rfl rfl ?_
    refine SL.y (op_move rfl) rfl rfl ?_
    -- op
    refine SL.x (op_callF en43 (vs := [_]) rfl (rmake_spec (h.mono hX01) hr)) rfl rfl ?_
    rintro s _ X4 ⟨rfl, hX4, hs⟩
    refine SL.y (op_assign rfl) rfl rfl ?_
    refine SL.y (op_assign rfl) rfl rfl ?_
    refine SL.nil ?_
    -- ret
    refine T.ret2 rfl (ResIs.tmp rfl) (ResIs.tmp rfl) ?_
    exact ⟨p, s, rfl, by rw [mkE_short hk16]; exact hp.mono hX4, hs⟩
end Go.Proofs.YtkmnlogacfkjmaaDoor
