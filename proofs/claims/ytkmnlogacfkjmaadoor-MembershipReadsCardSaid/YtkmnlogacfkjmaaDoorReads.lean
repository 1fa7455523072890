/- MembershipReads answers true. -/
import Derived.Test.YtkmnlogacfkjmaaDoorAw
import Derived.Test.YtkmnlogacfkjmaaDoorRdLaw
namespace Go.Proofs.YtkmnlogacfkjmaaDoor
section
set_option maxRecDepth 100000
theorem bs77 : ∃ i z, Tryd.prog.info? 77 = some i ∧ i.size = 1 ∧ i.zero = some z ∧ z.cells = ([.slice none 0 0] : List Value).toArray := bs_of (by kernel_rfl)
theorem en12 : Enters Tryd.prog 12 := enters_mk Tryd.func12 (by kernel_rfl) rfl
theorem en42 : Enters Tryd.prog 42 := enters_mk Tryd.func42 (by kernel_rfl) rfl
theorem en44 : Enters Tryd.prog 44 := enters_mk Tryd.func44 (by kernel_rfl) rfl
end
open Go.RowKit
theorem op_xor8 {P : Program} {n : NM} {own : Own} {X : PMap} {env : Env} {t t' : TypeId} {x y : Operand} {p q : Nat} (hx : eev env x = some (.int .u8 (p : Int))) (hy : eev env y = some (.int .u8 (q : Int))) (h1 : p < 256) (h2 : q < 256) : OpY P n env own X (.binOp .xor t x y t') (.int .u8 ((p ^^^ q : Nat) : Int)) := op_bits hx hy (by simp) (u8_xor_nat p q h1 h2)
theorem bytesC_set {l : List Nat} {i b : Nat} : csets (bytesC l) i (vcells (.int .u8 (b : Int))) = bytesC (l.set i b) := by
  simp [csets, vcells, bytesC, List.map_set]
theorem reads_spec {X : PMap} (hT : Tab X) {s : Value} {l : List Rw} (h : RawR X s l) (hl : rawOk l) {a b : Nat} (ha : a < 256) (hb : b < 256) {w : Value} {pl : List Nat} (hp : CutR X w pl) : Spec Tryd.prog 10 [s, .agg #[.int .u8 (a : Int), .int .u8 (b : Int)], w] X fun u _ => u = .bool true := by
  obtain ⟨A, cp, rfl⟩ := h.form
  obtain ⟨hpb, ⟨Ap, cpp, rfl, hpc⟩, hpl⟩ := hp
  refine Spec.enter Tryd.func10 rfl Tryd.ntmps10 rfl ?_
  intro w0 hw0
  refine T.seq ?_
  refine T.region ?_
  refine SL.x (op_box rfl) rfl rfl ?_
  rintro _ _ _ ⟨B4, rfl, rfl, rfl⟩
  refine SL.y (op_assign rfl) rfl rfl ?_
  refine SL.nil ?_
  refine T.seq ?_
  refine T.seq ?_
  refine T.region ?_
  -- op
  refine SL.x (op_callF en12 (vs := []) rfl (awake12_spec hT)) rfl rfl ?_
  rintro _ _ X1 ⟨rfl, hX1, rfl⟩
  refine SL.y (op_not rfl) rfl rfl ?_
  refine SL.nil ?_
  refine T.condF rfl ?_
  refine T.skip ?_
  refine T.seq ?_
  refine T.draw (by kernel_rfl) 8 [.t 0, .t 3, .t 4, .t 5, .r 1, .r 2, .t 6, .t 7] (by kernel_rfl) ?_
  refine SD.take rfl panicBody (op_move rfl) rfl rfl ?_
  refine SD.take rfl panicBody (op_indexA (i := 0) Tryd.underlying80 ty5 rfl rfl (by omega)) rfl rfl ?_
  first | refine SD.take rfl panicBody (op_load ty5 rfl (by repeat (first | exact AtO.here | apply AtO.there)) rfl) rfl rfl ?_ | refine SD.take rfl panicBody (op_loadX ty5 rfl (by assumption) rfl) rfl rfl ?_
  first | refine SD.take rfl panicBody (op_convI64 Tryd.underlying5 Tryd.underlying3 rfl (by omega) (by omega)) rfl rfl ?_ | refine SD.take rfl panicBody (op_convert Tryd.underlying5 Tryd.underlying3 rfl) rfl rfl ?_
  -- op
  refine SD.run rfl (op_callF en43 (vs := [_]) rfl (rmake_spec (h.mono hX1) hl)) rfl rfl ?_
  rintro t _ X2 ⟨rfl, hX2, ht⟩
  have hw := mkE_wf l
  have hln := mkE_len l
  generalize mkE l = L at *
  have hlb := encL_len hw (by omega)
  have hlt := encL_lt (l := L)
  obtain ⟨At, ct, rfl⟩ := SliceR.form ht
  -- op
  refine SD.run rfl (op_callO en42 (vs := [_]) rfl (rbytes_spec ht hw (by omega))) rfl rfl ?_
  rintro q _ X3 ⟨G, rfl, hX3, hG⟩
  generalize encL L = E at *
  obtain ⟨bq, cq, rfl, rfl, hq1, hq2⟩ := hG.pos (by omega)
  have hk0 : a % E.length < E.length := Nat.mod_lt _ (by omega)
  refine SD.take rfl panicBody (op_assign rfl) rfl rfl ?_
  refine SD.take rfl panicBody (op_assign rfl) rfl rfl ?_
  refine SD.nil ?_
  show SL _ _ _ _ _ _ _ [] _ _ _
  refine SL.nil ?_
  refine T.seq ?_
  refine T.region ?_
  refine SL.x (op_buildSlice Tryd.underlying77 bs5 (qs := []) rfl rfl rfl rfl rfl) rfl rfl ?_
  rintro _ _ _ ⟨B22, rfl, rfl, rfl⟩
  refine SL.y (op_move rfl) rfl rfl ?_
  refine SL.y (op_move rfl) rfl rfl ?_
  refine SL.y (op_move rfl) rfl rfl ?_
  refine SL.y (op_lenS Tryd.underlying77 rfl) rfl rfl ?_
  -- to 27: op
  refine SL.y (op_remN (q := E.length) rfl rfl rfl (by omega)) rfl rfl ?_
  generalize hkk : a % E.length = k at *
  obtain ⟨e0, he0⟩ : ∃ e0, E[k]? = some e0 := ⟨_, List.getElem?_eq_getElem hk0⟩
  have he1 := hlt e0 (List.mem_of_getElem? he0)
  -- to 28: op
  refine SL.y (op_sliceHiN Tryd.underlying77 ty5 rfl rfl rfl (by omega)) rfl rfl ?_
  -- to 29: op
  refine SL.x (op_append (q := 0) (m := k) (size := 1) (news := ((bytesC E).drop 0).take (k * 1)) sl77 rfl rfl (by repeat (first | exact AtO.here | apply AtO.there)) rfl rfl (Nat.zero_le _) (Nat.zero_le _) (Src.ofOwn (size := 1) (by repeat (first | exact AtO.here | apply AtO.there)) (by rw [bytesC_len]; omega)) (fun y hy => bytesC_one E y (List.mem_of_mem_drop (List.mem_of_mem_take hy))) (by omega) (by omega)) rfl rfl ?_
  rintro _ _ _ ⟨bk, cc, rfl, rfl, rfl, hc1, hc2⟩
  refine SL.y (op_assign rfl) rfl rfl ?_
  refine SL.nil ?_
  refine T.seq ?_
  refine T.draw (by kernel_rfl) 11 [.t 0, .t 1, .t 2, .t 3, .t 4, .t 5, .t 6, .t 7, .t 8, .t 9, .t 10] (by kernel_rfl) ?_
  refine SD.take rfl panicBody (op_move rfl) rfl rfl ?_
  refine SD.take rfl panicBody (op_move rfl) rfl rfl ?_
  refine SD.take rfl panicBody (op_move rfl) rfl rfl ?_
  refine SD.take rfl panicBody (op_lenS Tryd.underlying77 rfl) rfl rfl ?_
  -- to 34: op
  refine SD.take rfl panicBody (op_remN (q := E.length) rfl rfl rfl (by omega)) rfl rfl ?_
  rw [hkk]
  first | refine SD.take rfl panicBody (op_indexN Tryd.underlying77 ty5 rfl rfl (by omega)) rfl rfl ?_ | refine SD.take rfl panicBody (op_index Tryd.underlying77 ty5 rfl rfl (by omega) (by omega)) rfl rfl ?_
  -- to 36: op
  refine SD.take rfl panicBody (op_load ty5 rfl (by repeat (first | exact AtO.here | apply AtO.there)) (cread1k' (bytesC_at he0) (by omega))) rfl rfl ?_
  refine SD.take rfl panicBody (op_indexA (i := 1) Tryd.underlying80 ty5 rfl rfl (by omega)) rfl rfl ?_
  first | refine SD.take rfl panicBody (op_load ty5 rfl (by repeat (first | exact AtO.here | apply AtO.there)) rfl) rfl rfl ?_ | refine SD.take rfl panicBody (op_loadX ty5 rfl (by assumption) rfl) rfl rfl ?_
  -- to 39: op
  refine SD.take rfl panicBody (op_xor8 rfl rfl he1 hb) rfl rfl ?_
  first | refine SD.take rfl panicBody (op_indexN Tryd.underlying77 ty5 rfl rfl (by omega)) rfl rfl ?_ | refine SD.take rfl panicBody (op_index Tryd.underlying77 ty5 rfl rfl (by omega) (by omega)) rfl rfl ?_
  refine SD.nil ?_
  show SL _ _ _ _ _ _ _ [_] _ _ _
  -- to store: op
  refine SL.x (op_store ty5 rfl rfl (by repeat (first | exact AtO.here | apply AtO.there)) rfl rfl (Nat.ble_eq_true_of_le (by rw [bytesC_len]; simp; omega))) rfl rfl ?_
  rintro _ _ _ ⟨rfl, rfl⟩
  refine T.pubAt bq (by repeat (first | exact AtO.here | apply AtO.there)) ?_
  intro X4 hX4 hBq _
  refine T.pubAt bk (by repeat (first | exact AtO.here | apply AtO.there)) ?_
  intro X5 hX5 hBk _
  refine T.dropAt B4 (by repeat (first | exact AtO.here | apply AtO.there)) ?_
  have hcm : min pl.length 100 ≤ pl.length := Nat.min_le_left ..
  have hc100 : min pl.length 100 ≤ 100 := Nat.min_le_right ..
  have hx0 := ((((hpb.mono hX1).mono hX2).mono hX3).mono hX4).mono hX5
  have hx0 := hx0.take hpc hcm
  refine SL.nil ?_
  refine T.seq ?_
  refine T.seq ?_
  refine T.region ?_
  refine SL.y (op_move rfl) rfl rfl ?_
  refine SL.y (op_move rfl) rfl rfl ?_
  refine SL.y (op_lenS Tryd.underlying77 rfl) rfl rfl ?_
  first | refine SL.y (op_minL rfl rfl (by omega)) rfl rfl ?_ | refine SL.y (op_minR rfl rfl (by omega)) rfl rfl ?_ | refine SL.y (op_minN rfl rfl) rfl rfl ?_ | refine SL.y (op_min rfl rfl rfl) rfl rfl ?_
  -- to 45: op
  refine SL.y (op_sliceHi Tryd.underlying77 ty5 rfl rfl (by omega)) rfl rfl ?_
  generalize min pl.length 100 = k0 at *
  generalize slA Ap cpp 0 1 = A0 at *
  refine SL.y (op_move rfl) rfl rfl ?_
  refine SL.y (op_move rfl) rfl rfl ?_
  refine SL.x (op_buildSlice Tryd.underlying83 bs77 (qs := [(0, _), (1, _), (2, _)]) rfl rfl rfl rfl rfl) rfl rfl ?_
  rintro _ _ _ ⟨B48, rfl, rfl, rfl⟩
  refine SL.y (op_lenS Tryd.underlying83 rfl) rfl rfl ?_
  refine SL.y (op_move (v := .int .i64 ((0 : Nat) : Int)) rfl) rfl rfl ?_
  refine SL.nil ?_
  refine T.block ?_
  -- loop live [6, 48, 49, 50]
  refine T.pub B48 (by repeat (first | exact AtO.here | apply AtO.there)) ?_
  intro X6 hX6 hB _
  have hlt1 : ∀ x ∈ E.set k (e0 ^^^ b), x < 256 := fun x hx => by
    rcases List.mem_or_eq_of_mem_set hx with hx | rfl
    · exact hlt x hx
    · exact Nat.xor_lt_two_pow (n := 8) he1 hb
  have hq6 : BytesR X6 (.slice (some ⟨bq, 0, none⟩) E.length cq) (E.set k (e0 ^^^ b)) := .inr ⟨by rw [List.length_set]; omega, bq, cq, [], by rw [List.length_set]; rfl, by
    have := ((hBq.mono hX5).mono hX6)
    rw [Nat.zero_add, Nat.mul_one, bytesC_set] at this
    exact this⟩
  have hk6 : BytesR X6 (.slice (some ⟨bk, 0, none⟩) (0 + k) cc) (E.take k) := by
    rcases Nat.eq_zero_or_pos k with h0 | h0
    · subst h0
      exact .inl ⟨by simp, _, _, rfl⟩
    · refine .inr ⟨by rw [List.length_take]; omega, bk, cc, [], by rw [List.length_take]; congr 1; simp; omega, ?_⟩
      have := hBk.mono hX6
      rw [List.drop_zero, Nat.mul_one, show ((List.replicate 0 [Value.int IntKind.u8 0]).flatten : List Value) = [] from rfl, List.nil_append] at this
      rw [List.nil_append, bytesC, List.map_take]
      exact this
  have hrow : ∀ (i : Nat), i < 3 → ∃ v bs, [Value.slice A0 k0 cpp, .slice (some ⟨bq, 0, none⟩) E.length cq, .slice (some ⟨bk, 0, none⟩) (0 + k) cc][i]? = some v ∧ BytesR X6 v bs ∧ bs.length < 1000000 ∧ ∀ b ∈ bs, b < 256 := by
    intro i hi
    match i, hi with
    | 0, _ => exact ⟨_, _, rfl, hx0.mono hX6, by rw [List.length_take]; omega, fun b hb => hpl b (List.mem_of_mem_take hb)⟩
    | 1, _ => exact ⟨_, _, rfl, hq6, by rw [List.length_set]; omega, hlt1⟩
    | 2, _ => exact ⟨_, _, rfl, hk6, by rw [List.length_take]; omega, fun b hb => hlt b (List.mem_of_mem_take hb)⟩
  have hB : Blk X6 B48 [Value.slice A0 k0 cpp, .slice (some ⟨bq, 0, none⟩) E.length cq, .slice (some ⟨bk, 0, none⟩) (0 + k) cc] := hB
  generalize [Value.slice A0 k0 cpp, .slice (some ⟨bq, 0, none⟩) E.length cq, .slice (some ⟨bk, 0, none⟩) (0 + k) cc] = vs at *
  refine T.loopW (fun m env own X' => ∃ i : Nat, m = 3 - i ∧ i ≤ 3 ∧ X6.le X' ∧ env = [(48, .slice (some ⟨B48, 0, none⟩) 3 3), (49, .int .i64 3), (50, .int .i64 (i : Int))] ∧ own = []) 3 ⟨0, rfl, by omega, PMap.le_refl _, rfl, rfl⟩ (by repeat (first | exact Sub.nil | refine Sub.cons rfl ?_)) ?_
  rintro m _ _ X7 ⟨i, rfl, hi, hX7, rfl, rfl⟩
  rcases Nat.lt_or_ge i 3 with hi3 | hi3
  · obtain ⟨v, bs, hv, hbs, hbl, hb2⟩ := hrow i hi3
    refine T.seq ?_
    refine T.region ?_
    first | refine SL.y (op_lssT rfl rfl (by omega)) rfl rfl ?_ | refine SL.y (op_lssF rfl rfl (by omega)) rfl rfl ?_ | refine SL.y (op_lss rfl rfl) rfl rfl ?_
    refine SL.nil ?_
    refine T.seq ?_
    refine T.condT rfl ?_
    refine T.skip ?_
    refine T.seq ?_
    refine T.block ?_
    refine T.seq ?_
    refine T.region ?_
    first | refine SL.y (op_indexN Tryd.underlying83 ty77 rfl rfl (by omega)) rfl rfl ?_ | refine SL.y (op_index Tryd.underlying83 ty77 rfl rfl (by omega) (by omega)) rfl rfl ?_
    -- to 53: op
    refine SL.y (op_loadX ty77 rfl (hB.mono hX7) (cread1k' hv (by omega))) rfl rfl ?_
    obtain ⟨Av, cv, rfl⟩ := hbs.form
    refine SL.y (op_assign rfl) rfl rfl ?_
    refine SL.nil ?_
    refine T.seq ?_
    refine T.region ?_
    refine SL.y (op_move rfl) rfl rfl ?_
    -- op
    refine SL.x (op_callF en44 (vs := [_]) rfl (breadG_spec (hbs.mono hX7) hbl hb2)) rfl rfl ?_
    rintro _ _ X8 ⟨rfl, hX8, hr⟩
    rcases hr with ⟨q, h0, rfl, hq⟩ | ⟨h0, rfl⟩
    · obtain ⟨hw2, hl2, he2⟩ := rdBook_ok hb2 h0
      generalize rdBook bs = z at *
      refine SL.y (op_move rfl) rfl rfl ?_
      refine SL.y (op_extract rfl rfl) rfl rfl ?_
      refine SL.y (op_extract rfl rfl) rfl rfl ?_
      refine SL.y (op_assign rfl) rfl rfl ?_
      refine SL.y (op_assign rfl) rfl rfl ?_
      refine SL.nil ?_
      refine T.seq ?_
      refine T.seq ?_
      refine T.region ?_
      refine SL.y (op_move rfl) rfl rfl ?_
      first | refine SL.y (op_neqT rfl rfl (by omega)) rfl rfl ?_ | refine SL.y (op_neqF rfl rfl (by omega)) rfl rfl ?_ | refine SL.y (op_neq rfl rfl) rfl rfl ?_
      refine SL.nil ?_
      refine T.condF rfl ?_
      refine T.skip ?_
      refine T.seq ?_
      refine T.region ?_
      refine SL.y (op_move rfl) rfl rfl ?_
      -- op
      refine SL.x (op_callF en41 (vs := [_]) rfl (bytes_spec hq hw2 (Nat.lt_of_le_of_lt hl2 (by omega)))) rfl rfl ?_
      rintro s5 _ X9 ⟨rfl, hX9, hs5⟩
      rw [he2] at hs5
      refine SL.y (op_move rfl) rfl rfl ?_
      -- op
      refine SL.x (op_callF en45 (vs := [_, _]) rfl (eqBytes_spec hs5 (((hbs.mono hX7).mono hX8).mono hX9) (by omega))) rfl rfl ?_
      rintro _ _ X10 ⟨rfl, hX10, rfl⟩
      rw [decide_eq_true rfl]
      refine SL.y (op_not rfl) rfl rfl ?_
      refine SL.nil ?_
      refine T.condF rfl ?_
      refine T.skip ?_
      refine T.blk ?_
      refine T.region ?_
      first | refine SL.y (op_addN (q := 1) rfl rfl (by omega)) rfl rfl ?_ | refine SL.y (op_add rfl rfl (by omega) (by omega)) rfl rfl ?_ | refine SL.y (op_addW rfl rfl) rfl rfl ?_
      refine SL.y (op_move rfl) rfl rfl ?_
      refine SL.nil ?_
      -- cut
      exact T.backW (3 - (i + 1)) (by omega) ⟨i + 1, rfl, by omega, ((hX7.trans' hX8).trans' hX9).trans' hX10, rfl, rfl⟩ (by repeat (first | exact Sub.nil | refine Sub.cons rfl ?_))
    · refine SL.y (op_move rfl) rfl rfl ?_
      refine SL.y (op_extract rfl rfl) rfl rfl ?_
      refine SL.y (op_extract rfl rfl) rfl rfl ?_
      refine SL.y (op_assign rfl) rfl rfl ?_
      refine SL.y (op_assign rfl) rfl rfl ?_
      refine SL.nil ?_
      refine T.seq ?_
      refine T.seq ?_
      refine T.region ?_
      refine SL.y (op_move rfl) rfl rfl ?_
      first | refine SL.y (op_neqT rfl rfl (by omega)) rfl rfl ?_ | refine SL.y (op_neqF rfl rfl (by omega)) rfl rfl ?_ | refine SL.y (op_neq rfl rfl) rfl rfl ?_
      refine SL.nil ?_
      refine T.condT rfl ?_
      refine T.seq ?_
      refine T.seq ?_
      refine T.region ?_
      refine SL.y (op_move rfl) rfl rfl ?_
      first | refine SL.y (op_neqT rfl rfl (by omega)) rfl rfl ?_ | refine SL.y (op_neqF rfl rfl (by omega)) rfl rfl ?_ | refine SL.y (op_neq rfl rfl) rfl rfl ?_
      refine SL.y (op_move rfl) rfl rfl ?_
      first | refine SL.skip rfl rfl ?_ | refine SL.y (op_move rfl) rfl rfl ?_
      first | refine SL.skip rfl rfl ?_ | refine SL.y (op_neqNil Tryd.underlying24 rfl rfl) rfl rfl ?_
      first | refine SL.y (op_pickT rfl rfl) rfl rfl ?_ | refine SL.y (op_pickF rfl rfl) rfl rfl ?_ | refine SL.y (op_pickB rfl rfl rfl) rfl rfl ?_
      refine SL.nil ?_
      refine T.condF rfl ?_
      refine T.skip ?_
      refine T.exit (T.exitCode (T.exitBlk ?_))
      refine T.region ?_
      first | refine SL.y (op_addN (q := 1) rfl rfl (by omega)) rfl rfl ?_ | refine SL.y (op_add rfl rfl (by omega) (by omega)) rfl rfl ?_ | refine SL.y (op_addW rfl rfl) rfl rfl ?_
      refine SL.y (op_move rfl) rfl rfl ?_
      refine SL.nil ?_
      -- cut
      exact T.backW (3 - (i + 1)) (by omega) ⟨i + 1, rfl, by omega, hX7.trans' hX8, rfl, rfl⟩ (by repeat (first | exact Sub.nil | refine Sub.cons rfl ?_))
  · refine T.seq ?_
    refine T.region ?_
    first | refine SL.y (op_lssT rfl rfl (by omega)) rfl rfl ?_ | refine SL.y (op_lssF rfl rfl (by omega)) rfl rfl ?_ | refine SL.y (op_lss rfl rfl) rfl rfl ?_
    refine SL.nil ?_
    refine T.seq ?_
    refine T.condF rfl ?_
    refine T.exit (T.exitCode (T.exitCut (T.exitBlk ?_)))
    refine T.seq ?_
    refine T.region ?_
    refine SL.y (op_assign rfl) rfl rfl ?_
    refine SL.nil ?_
    -- ret
    refine T.ret1 rfl (ResIs.tmp rfl) ?_
    rfl
end Go.Proofs.YtkmnlogacfkjmaaDoor
