/- Package wire: the writer, second part. -/
import Derived.Test.YtkmnlogacfkjmaaDoorWire
namespace Go.Proofs.YtkmnlogacfkjmaaDoor
section
set_option maxRecDepth 100000
theorem en85 : Enters Tryd.prog 85 := enters_mk Tryd.func85 (by kernel_rfl) rfl
theorem en86 : Enters Tryd.prog 86 := enters_mk Tryd.func86 (by kernel_rfl) rfl
theorem en87 : Enters Tryd.prog 87 := enters_mk Tryd.func87 (by kernel_rfl) rfl
theorem en96 : Enters Tryd.prog 96 := enters_mk Tryd.func96 (by kernel_rfl) rfl
theorem fa130_0 : FAdr Tryd.prog 130 0 0 := fadr_mk Tryd.underlying130 rfl rfl (by kernel_rfl)
theorem z130 : Zero Tryd.prog 130 [.slice none 0 0] := ⟨zero_of (by kernel_rfl)⟩
theorem st130 : StT Tryd.prog 130 [(0, 1)] [.slice none 0 0] := ⟨⟨_, Tryd.underlying130, fun _ => by kernel_rfl, z130⟩⟩
theorem ty77 : Ty Tryd.prog 77 false 1 := ⟨⟨_, Tryd.underlying77, rfl⟩, by kernel_rfl⟩
end
open Go.RowKit
theorem eqBytes_spec {X : PMap} {v v' : Value} {l l' : List Nat} (h : BytesR X v l) (h' : BytesR X v' l') (hs : l.length < 2147483648) : Spec Tryd.prog 45 [v, v'] X fun u _ => u = .bool (decide (l = l')) := by
  obtain ⟨A, cp, rfl⟩ := h.form
  obtain ⟨A', cp', rfl⟩ := h'.form
  by_cases hl : l.length = l'.length
  · refine Spec.enter Tryd.func45 rfl Tryd.ntmps45 rfl ?_
    intro w0 hw0
    refine T.seq ?_
    refine T.region ?_
    refine SL.y (op_assign rfl) rfl rfl ?_
    refine SL.nil ?_
    refine T.seq ?_
    refine T.seq ?_
    refine T.region ?_
    refine SL.y (op_move rfl) rfl rfl ?_
    refine SL.y (op_lenS Tryd.underlying77 rfl) rfl rfl ?_
    refine SL.y (op_move rfl) rfl rfl ?_
    refine SL.y (op_lenS Tryd.underlying77 rfl) rfl rfl ?_
    first | refine SL.y (op_neqT rfl rfl (by omega)) rfl rfl ?_ | refine SL.y (op_neqF rfl rfl (by omega)) rfl rfl ?_ | refine SL.y (op_neq rfl rfl) rfl rfl ?_
    refine SL.nil ?_
    refine T.condF rfl ?_
    refine T.skip ?_
    refine T.seq ?_
    refine T.seq ?_
    refine T.region ?_
    refine SL.y (op_move rfl) rfl rfl ?_
    refine SL.y (op_lenS Tryd.underlying77 rfl) rfl rfl ?_
    refine SL.y (op_move (v := .int .i64 ((0 : Nat) : Int)) rfl) rfl rfl ?_
    refine SL.nil ?_
    refine T.block ?_
    -- loop live [0, 1, 4, 12, 13]
    refine T.loopW (fun m env own X' => ∃ (k : Nat), m = l.length - k ∧ k ≤ l.length ∧ X = X' ∧ l.take k = l'.take k ∧ own = [] ∧ env = [(0, .slice A l.length cp), (1, .slice A' l'.length cp'), (12, .int .i64 (l.length : Int)), (13, .int .i64 (k : Int))]) l.length ⟨0, by simp, by omega, rfl, rfl, rfl, rfl⟩ (by repeat (first | exact Sub.nil | refine Sub.cons rfl ?_)) ?_
    rintro m _ _ _ ⟨k, rfl, hk, rfl, hpre, rfl, rfl⟩
    rcases Nat.lt_or_ge k l.length with hkl | hkl
    · obtain ⟨b, p1, rfl, hB⟩ := h.blk (by omega)
      obtain ⟨b', p2, rfl, hB'⟩ := h'.blk (by omega)
      have hkl' : k < l'.length := by omega
      have e1 : (p1 ++ bytesC l)[p1.length + k]? = some (.int .u8 (l[k] : Int)) := by rw [List.getElem?_append_right (by omega), Nat.add_sub_cancel_left]; exact bytesC_at (by simp [hkl])
      have e2 : (p2 ++ bytesC l')[p2.length + k]? = some (.int .u8 (l'[k] : Int)) := by rw [List.getElem?_append_right (by omega), Nat.add_sub_cancel_left]; exact bytesC_at (by simp [hkl'])
      refine T.seq ?_
      refine T.region ?_
      first | refine SL.y (op_lssT rfl rfl (by omega)) rfl rfl ?_ | refine SL.y (op_lssF rfl rfl (by omega)) rfl rfl ?_ | refine SL.y (op_lss rfl rfl) rfl rfl ?_
      refine SL.nil ?_
      refine T.seq ?_
      refine T.condT rfl ?_
      refine T.skip ?_
      refine T.seq ?_
      refine T.block ?_
      refine T.seq ?_
      refine T.region ?_
      refine SL.y (op_move rfl) rfl rfl ?_
      refine SL.y (op_assign rfl) rfl rfl ?_
      refine SL.nil ?_
      refine T.seq ?_
      refine T.draw (by kernel_rfl) 9 [.t 0, .t 1, .t 2, .t 3, .t 4, .t 5, .t 6, .t 7, .t 8] (by kernel_rfl) ?_
      refine SD.take rfl panicBody (op_move rfl) rfl rfl ?_
      refine SD.take rfl panicBody (op_move rfl) rfl rfl ?_
      first | refine SD.take rfl panicBody (op_indexN Tryd.underlying77 ty5 rfl rfl (by omega)) rfl rfl ?_ | refine SD.take rfl panicBody (op_index Tryd.underlying77 ty5 rfl rfl (by omega) (by omega)) rfl rfl ?_
      -- to 19: op
      refine SD.take rfl panicBody (op_loadX ty5 rfl hB (cread1k' e1 (by omega))) rfl rfl ?_
      refine SD.take rfl panicBody (op_move rfl) rfl rfl ?_
      refine SD.take rfl panicBody (op_move rfl) rfl rfl ?_
      first | refine SD.take rfl panicBody (op_indexN Tryd.underlying77 ty5 rfl rfl (by omega)) rfl rfl ?_ | refine SD.take rfl panicBody (op_index Tryd.underlying77 ty5 rfl rfl (by omega) (by omega)) rfl rfl ?_
      -- to 23: op
      refine SD.take rfl panicBody (op_loadX ty5 rfl hB' (cread1k' e2 (by omega))) rfl rfl ?_
      -- to 24: op
      by_cases he : l[k] = l'[k]
      · skip
        first | refine SD.take rfl panicBody (op_neqT rfl rfl (by omega)) rfl rfl ?_ | refine SD.take rfl panicBody (op_neqF rfl rfl (by omega)) rfl rfl ?_ | refine SD.take rfl panicBody (op_neq rfl rfl) rfl rfl ?_
        refine SD.nil ?_
        show SL _ _ _ _ _ _ _ [] _ _ _
        refine SL.nil ?_
        refine T.condF rfl ?_
        refine T.skip ?_
        refine T.blk ?_
        refine T.region ?_
        first | refine SL.y (op_addN (q := 1) rfl rfl (by omega)) rfl rfl ?_ | refine SL.y (op_add rfl rfl (by omega) (by omega)) rfl rfl ?_ | refine SL.y (op_addW rfl rfl) rfl rfl ?_
        refine SL.y (op_move rfl) rfl rfl ?_
        refine SL.nil ?_
        -- cut
        exact T.backW (l.length - (k + 1)) (by omega) ⟨k + 1, rfl, by omega, rfl, by rw [List.take_succ_eq_append_getElem hkl, List.take_succ_eq_append_getElem hkl', hpre, he], rfl, rfl⟩ (by repeat (first | exact Sub.nil | refine Sub.cons rfl ?_))
      · first | refine SD.take rfl panicBody (op_neqT rfl rfl (by omega)) rfl rfl ?_ | refine SD.take rfl panicBody (op_neqF rfl rfl (by omega)) rfl rfl ?_ | refine SD.take rfl panicBody (op_neq rfl rfl) rfl rfl ?_
        refine SD.nil ?_
        show SL _ _ _ _ _ _ _ [] _ _ _
        refine SL.nil ?_
        refine T.condT rfl ?_
        refine T.seq ?_
        refine T.region ?_
        refine SL.y (op_assign rfl) rfl rfl ?_
        refine SL.nil ?_
        -- ret
        refine T.ret1 rfl (ResIs.tmp rfl) ?_
        have : l ≠ l' := fun e => he (by subst e; rfl)
        simp [this]
    · obtain rfl : k = l.length := by omega
      refine T.seq ?_
      refine T.region ?_
      first | refine SL.y (op_lssT rfl rfl (by omega)) rfl rfl ?_ | refine SL.y (op_lssF rfl rfl (by omega)) rfl rfl ?_ | refine SL.y (op_lss rfl rfl) rfl rfl ?_
      refine SL.nil ?_
      refine T.seq ?_
      refine T.condF rfl ?_
      refine T.exit (T.exitCode (T.exitCut (T.exitBlk ?_)))
      refine T.seq ?_
      refine T.region ?_
      refine SL.y (op_assign rfl) rfl rfl ?_
      refine SL.nil ?_
      -- ret
      refine T.ret1 rfl (ResIs.tmp rfl) ?_
      have : l = l' := by
        rw [List.take_length, hl, List.take_length] at hpre
        exact hpre
      simp [this]
  · refine Spec.enter Tryd.func45 rfl Tryd.ntmps45 rfl ?_
    intro w0 hw0
    refine T.seq ?_
    refine T.region ?_
    refine SL.y (op_assign rfl) rfl rfl ?_
    refine SL.nil ?_
    refine T.seq ?_
    refine T.seq ?_
    refine T.region ?_
    refine SL.y (op_move rfl) rfl rfl ?_
    refine SL.y (op_lenS Tryd.underlying77 rfl) rfl rfl ?_
    refine SL.y (op_move rfl) rfl rfl ?_
    refine SL.y (op_lenS Tryd.underlying77 rfl) rfl rfl ?_
    first | refine SL.y (op_neqT rfl rfl (by omega)) rfl rfl ?_ | refine SL.y (op_neqF rfl rfl (by omega)) rfl rfl ?_ | refine SL.y (op_neq rfl rfl) rfl rfl ?_
    refine SL.nil ?_
    refine T.condT rfl ?_
    refine T.seq ?_
    refine T.region ?_
    refine SL.y (op_assign rfl) rfl rfl ?_
    refine SL.nil ?_
    -- ret
    refine T.ret1 rfl (ResIs.tmp rfl) ?_
    have : l ≠ l' := fun e => hl (by rw [e])
    simp [this]
theorem groups_spec {X : PMap} {n : Nat} (hn : n < 18446744073709551616) : SpecO Tryd.prog 86 [.int .u64 (n : Int)] X fun u own1 _ => GrowS 5 1 u (numB n).length (bytesC (numB n)) own1 := by
  have hnl := numB_len hn
  have hs7 : ∀ v : Nat, v >>> 7 = v / 128 := fun v => Nat.shiftRight_eq_div_pow v 7
  refine SpecO.enter Tryd.func86 rfl Tryd.ntmps86 rfl ?_
  intro w0 hw0
  refine T.seq ?_
  refine T.region ?_
  refine SL.y (op_assign rfl) rfl rfl ?_
  refine SL.nil ?_
  refine T.seq ?_
  refine T.region ?_
  refine SL.y (op_move rfl) rfl rfl ?_
  -- to 5: op
  refine SL.y (op_and127L rfl rfl hn) rfl rfl ?_
  -- to 6: op
  refine SL.y (op_convU8 Tryd.underlying95 Tryd.underlying5 rfl (by omega) (by omega)) rfl rfl ?_
  refine SL.x (op_buildSlice Tryd.underlying77 bs5 (qs := [(0, _)]) rfl rfl rfl rfl rfl) rfl rfl ?_
  rintro _ _ _ ⟨B7, rfl, rfl, rfl⟩
  refine SL.y (op_assign rfl) rfl rfl ?_
  refine SL.nil ?_
  refine T.seq ?_
  refine T.seq ?_
  refine T.region ?_
  refine SL.y (op_move rfl) rfl rfl ?_
  first | refine SL.y (op_shrN (q := 7) rfl rfl (by omega)) rfl rfl ?_ | refine SL.y (op_shr rfl rfl) rfl rfl ?_
  refine SL.y (op_assign rfl) rfl rfl ?_
  refine SL.nil ?_
  refine T.block ?_
  -- loop live [0, 2, 3]
  refine T.loopW (fun m env own X' => ∃ (v : Nat) (out : List Nat) (sv : Value) (G : Own), v = m ∧ v < 18446744073709551616 ∧ X.le X' ∧ 0 < out.length ∧ numB n = numHi v ++ out.reverse ∧ GrowS 5 1 sv out.length (bytesC out) G ∧ env = [(0, .int .u64 (v : Int)), (3, sv)] ∧ G = own) (n >>> 7) ⟨n >>> 7, [n % 128], _, _, rfl, by rw [hs7]; omega, PMap.le_refl _, by simp, by rw [hs7]; rfl, .inr ⟨B7, 1, rfl, rfl, by simp, by decide, rfl⟩, rfl, rfl⟩ (by repeat (first | exact Sub.nil | refine Sub.cons rfl ?_)) ?_
  rintro m _ _ X1 ⟨v, out, sv, G, rfl, hv, hX1, ho0, hinv, hG, rfl, rfl⟩
  obtain ⟨As, cs, rfl⟩ := hG.form
  have hol : out.length ≤ 10 := by
    have := congrArg List.length hinv
    rw [List.length_append, List.length_reverse] at this; omega
  rcases Nat.eq_zero_or_pos v with h0 | h0
  · subst h0
    rw [numHi_zero, List.nil_append] at hinv
    rcases hG with ⟨h1, _⟩ | ⟨bo, cap, hv2, rfl, hc1, hc2, hc3⟩
    · omega
    obtain ⟨rfl, rfl⟩ : As = some ⟨bo, 0, none⟩ ∧ cs = cap := by injection hv2 with h1 h2 h3; exact ⟨h1, h3⟩
    refine T.seq ?_
    refine T.seq ?_
    refine T.region ?_
    refine SL.y (op_move rfl) rfl rfl ?_
    first | refine SL.y (op_gtrT rfl rfl (by omega)) rfl rfl ?_ | refine SL.y (op_gtrF rfl rfl (by omega)) rfl rfl ?_ | refine SL.y (op_gtr rfl rfl) rfl rfl ?_
    refine SL.nil ?_
    refine T.condF rfl ?_
    refine T.exit (T.exitCode (T.exitCut (T.exitBlk ?_)))
    refine T.seq ?_
    refine T.region ?_
    refine SL.y (op_move rfl) rfl rfl ?_
    -- op
    refine SL.x (op_callM en96 (vs := [_]) rfl (reverse_spec ho0 (by omega) hc1) rfl) rfl rfl ?_
    rintro _ _ X2 ⟨_, rfl, hX2, rfl⟩
    refine SL.nil ?_
    refine T.seq ?_
    refine T.region ?_
    refine SL.y (op_move rfl) rfl rfl ?_
    refine SL.y (op_assign rfl) rfl rfl ?_
    refine SL.nil ?_
    -- ret
    refine T.retO1 rfl (ResIs.tmp rfl) ?_
    refine .inr ⟨bo, cs, by rw [hinv, List.length_reverse], by rw [hinv]; rfl, by rw [hinv, List.length_reverse]; exact hc1, hc2, by rw [bytesC_len]; omega⟩
  · refine T.seq ?_
    refine T.seq ?_
    refine T.region ?_
    refine SL.y (op_move rfl) rfl rfl ?_
    first | refine SL.y (op_gtrT rfl rfl (by omega)) rfl rfl ?_ | refine SL.y (op_gtrF rfl rfl (by omega)) rfl rfl ?_ | refine SL.y (op_gtr rfl rfl) rfl rfl ?_
    refine SL.nil ?_
    refine T.condT rfl ?_
    refine T.skip ?_
    refine T.seq ?_
    refine T.block ?_
    refine T.region ?_
    refine SL.y (op_move rfl) rfl rfl ?_
    refine SL.y (op_move rfl) rfl rfl ?_
    -- to 16: op
    refine SL.y (op_and127L rfl rfl hv) rfl rfl ?_
    -- to 17: op
    refine SL.y (op_convU8 Tryd.underlying95 Tryd.underlying5 rfl (by omega) (by omega)) rfl rfl ?_
    -- to 18: op
    refine SL.y (op_or128 rfl rfl (by omega)) rfl rfl ?_
    refine SL.x (op_buildSlice Tryd.underlying77 bs5 (qs := [(0, _)]) rfl rfl rfl rfl rfl) rfl rfl ?_
    rintro _ _ _ ⟨B19, rfl, rfl, rfl⟩
    -- op
    refine SL.x (op_appendG (own0 := []) sl77 rfl hG rfl rfl rfl (by (have : maxLen = 9223372036854775807 := rfl); omega) (by omega)) rfl rfl ?_
    rintro s' G' _ ⟨_, rfl, rfl, hG'⟩
    obtain ⟨As', cps', rfl⟩ := hG'.form
    refine SL.y (op_assign rfl) rfl rfl ?_
    refine SL.nil ?_
    refine T.blk ?_
    refine T.region ?_
    refine SL.y (op_move rfl) rfl rfl ?_
    first | refine SL.y (op_shrN (q := 7) rfl rfl (by omega)) rfl rfl ?_ | refine SL.y (op_shr rfl rfl) rfl rfl ?_
    refine SL.y (op_assign rfl) rfl rfl ?_
    refine SL.nil ?_
    -- cut
    exact T.backW (v >>> 7) (by rw [hs7]; omega) ⟨v >>> 7, out ++ [128 + v % 128], _, G', rfl, by rw [hs7]; omega, hX1, by simp, by rw [hinv, hs7, numHi_pos (by omega)]; simp, by rw [bytesC_append, List.length_append]; exact hG', rfl, rfl⟩ (by repeat (first | exact Sub.nil | refine Sub.cons rfl ?_))
theorem newW_spec {X : PMap} : SpecO Tryd.prog 63 [] X fun w own1 _ => ∃ b, w = .pointer (some ⟨b, 0, none⟩) ∧ own1 = [⟨b, [.slice none 0 0], 130, 1⟩] := by
  refine SpecO.enter Tryd.func63 rfl Tryd.ntmps63 rfl ?_
  intro w0 hw0
  refine T.seq ?_
  refine T.region ?_
  refine SL.y (op_assign rfl) rfl rfl ?_
  refine SL.nil ?_
  refine T.seq ?_
  refine T.region ?_
  refine SL.y (op_build st130 (qs := []) rfl rfl) rfl rfl ?_
  refine SL.x (op_box rfl) rfl rfl ?_
  rintro _ _ _ ⟨B2, rfl, rfl, rfl⟩
  refine SL.y (op_assign rfl) rfl rfl ?_
  refine SL.nil ?_
  -- ret
  refine T.retO1 rfl (ResIs.tmp rfl) ?_
  exact ⟨B2, rfl, rfl⟩
theorem rawW_spec {X : PMap} {bw m len : Nat} {sv p : Value} {cs : List Value} {l : List Nat} {G : Own} (hG : GrowS 5 1 sv len cs G) (hp : BytesR X p l) (hm : m = l.length) (h0 : 0 < m) (hl : len + m < 1000000000) :
    SpecM Tryd.prog 85 [.pointer (some ⟨bw, 0, none⟩), p] X (⟨bw, [sv], 130, 1⟩ :: G) fun _ L' _ => ∃ sv' G', L' = ⟨bw, [sv'], 130, 1⟩ :: G' ∧ GrowS 5 1 sv' (len + m) (cs ++ bytesC l) G' := by
  subst hm
  have hmx : maxLen = 9223372036854775807 := rfl
  obtain ⟨A, cp, rfl⟩ := hp.form
  obtain ⟨As, css, rfl⟩ := hG.form
  refine SpecM.enter Tryd.func85 rfl Tryd.ntmps85 rfl ?_
  intro w0 X0 own0
  refine T.perm (own' := (⟨bw, [.slice As len css], 130, 1⟩ :: own0) ++ G) permD ?_
  refine T.seq ?_
  refine T.region ?_
  refine SL.y (op_move rfl) rfl rfl ?_
  refine SL.y (op_neqNil Tryd.underlying106 rfl rfl) rfl rfl ?_
  refine SL.nil ?_
  refine T.condT rfl ?_
  refine T.region ?_
  refine SL.y (op_move rfl) rfl rfl ?_
  refine SL.y (op_move rfl) rfl rfl ?_
  first | refine SL.y (op_nil rfl) rfl rfl ?_ | refine SL.y (op_nilFn rfl) rfl rfl ?_
  refine SL.y (op_fieldAddr fa130_0 rfl) rfl rfl ?_
  first | refine SL.y (op_load ty77 rfl (by repeat (first | exact AtO.here | apply AtO.there)) rfl) rfl rfl ?_ | refine SL.y (op_loadX ty77 rfl (by assumption) rfl) rfl rfl ?_
  refine SL.y (op_move rfl) rfl rfl ?_
  -- to 12: op
  refine SL.x (op_appendGM (own0 := ⟨bw, [.slice As len css], 130, 1⟩ :: own0) sl77 rfl hG rfl (Src.ofBytes hp) h0 (bytesC_one l) (by omega) (by omega)) rfl rfl ?_
  rintro s' _ _ ⟨G', rfl, rfl, hG'⟩
  obtain ⟨As', cps', rfl⟩ := hG'.form
  first | refine SL.y (op_nil rfl) rfl rfl ?_ | refine SL.y (op_nilFn rfl) rfl rfl ?_
  refine SL.y (op_fieldAddr fa130_0 rfl) rfl rfl ?_
  refine SL.x (op_store ty77 rfl rfl (by repeat (first | exact AtO.here | apply AtO.there)) rfl rfl rfl) rfl rfl ?_
  rintro _ _ _ ⟨rfl, rfl⟩
  refine SL.nil ?_
  -- end
  refine T.doneM0 (⟨bw, [.slice As' (len + l.length) cps'], 130, 1⟩ :: G') rfl permD ?_
  exact ⟨PMap.le_refl _, _, G', rfl, hG'⟩
theorem uintW_spec {X : PMap} {bw len : Nat} {sv : Value} {l : List Nat} {G : Own} {n : Nat} (hn : n < 18446744073709551616) (hG : GrowS 5 1 sv len (bytesC l) G) (hl : len < 900000000) :
    SpecM Tryd.prog 64 [.pointer (some ⟨bw, 0, none⟩), .int .u64 (n : Int)] X (⟨bw, [sv], 130, 1⟩ :: G) fun _ L' _ => ∃ sv' G', L' = ⟨bw, [sv'], 130, 1⟩ :: G' ∧ GrowS 5 1 sv' (len + (numB n).length) (bytesC (l ++ numB n)) G' := by
  have hnl := numB_len hn
  refine SpecM.enter Tryd.func64 rfl Tryd.ntmps64 rfl ?_
  intro w0 X0 own0
  refine T.region ?_
  refine SL.y (op_move rfl) rfl rfl ?_
  refine SL.y (op_move rfl) rfl rfl ?_
  -- op
  refine SL.x (op_callF en86 (vs := [_]) rfl ((groups_spec hn).pubG)) rfl rfl ?_
  rintro u _ X1 ⟨rfl, hX1, hu⟩
  obtain ⟨A1, c1, rfl⟩ := SliceR.form hu
  refine SL.x (op_callM en85 (vs := [_, _]) rfl (rawW_spec hG (BytesR.ofS hu) rfl (numB_pos n) (by omega)) rfl) rfl rfl ?_
  rintro _ _ X2 ⟨L', rfl, hX2, sv', G', rfl, hG'⟩
  refine SL.nil ?_
  -- end
  refine T.doneM0 (⟨bw, [sv'], 130, 1⟩ :: G') rfl (List.Perm.refl _) ?_
  exact ⟨hX1.trans' hX2, sv', G', rfl, by rw [bytesC_append]; exact hG'⟩
theorem out_spec {X : PMap} {bw : Nat} {sv : Value} {l : List Nat} (hb : Blk X bw [sv]) (hs : BytesR X sv l) (hl : l.length < 1000000) : SpecO Tryd.prog 65 [.pointer (some ⟨bw, 0, none⟩)] X fun u own1 _ => GrowS 5 1 u l.length (bytesC l) own1 := by
  obtain ⟨A, cp, rfl⟩ := hs.form
  refine SpecO.enter Tryd.func65 rfl Tryd.ntmps65 rfl ?_
  intro w0 hw0
  refine T.seq ?_
  refine T.region ?_
  refine SL.y (op_assign rfl) rfl rfl ?_
  refine SL.nil ?_
  refine T.seq ?_
  refine T.seq ?_
  refine T.region ?_
  refine SL.y (op_move rfl) rfl rfl ?_
  refine SL.y (op_eqlNil Tryd.underlying106 rfl rfl) rfl rfl ?_
  refine SL.nil ?_
  refine T.condF rfl ?_
  refine T.skip ?_
  refine T.seq ?_
  refine T.region ?_
  refine SL.y (op_move rfl) rfl rfl ?_
  first | refine SL.y (op_nil rfl) rfl rfl ?_ | refine SL.y (op_nilFn rfl) rfl rfl ?_
  refine SL.y (op_fieldAddr fa130_0 rfl) rfl rfl ?_
  first | refine SL.y (op_load ty77 rfl (by repeat (first | exact AtO.here | apply AtO.there)) rfl) rfl rfl ?_ | refine SL.y (op_loadX ty77 rfl (by assumption) rfl) rfl rfl ?_
  -- op
  refine SL.x (op_callO en87 (vs := [_]) rfl (bclone_spec hs hl)) rfl rfl ?_
  rintro u own1 X1 ⟨_, rfl, hX1, hG⟩
  obtain ⟨A1, cp1, rfl⟩ := hG.form
  refine SL.y (op_assign rfl) rfl rfl ?_
  refine SL.nil ?_
  -- ret
  refine T.retO1 rfl (ResIs.tmp rfl) ?_
  simpa using hG
end Go.Proofs.YtkmnlogacfkjmaaDoor
