/- THE REFERENCE's MATRICES: Make. -/
import Derived.Test.YtoheffglppbcbaaDoorRef3
namespace Go.Proofs.YtoheffglppbcbaaDoor
section
set_option maxRecDepth 100000
theorem en81 : Enters Tryd.prog 81 := enters_mk Tryd.func81 (by kernel_rfl) rfl
theorem en82 : Enters Tryd.prog 82 := enters_mk Tryd.func82 (by kernel_rfl) rfl
theorem fa24_0 : FAdr Tryd.prog 24 0 0 := fadr_mk Tryd.underlying24 rfl rfl (by kernel_rfl)
theorem fa24_1 : FAdr Tryd.prog 24 1 1 := fadr_mk Tryd.underlying24 rfl rfl (by kernel_rfl)
theorem fa24_2 : FAdr Tryd.prog 24 2 2 := fadr_mk Tryd.underlying24 rfl rfl (by kernel_rfl)
theorem fa91_0 : FAdr Tryd.prog 91 0 0 := fadr_mk Tryd.underlying91 rfl rfl (by kernel_rfl)
theorem ty123 : Ty Tryd.prog 123 false 1 := ⟨⟨_, Tryd.underlying123, rfl⟩, by kernel_rfl⟩
theorem ty22 : Ty Tryd.prog 22 false 1 := ⟨⟨_, Tryd.underlying22, rfl⟩, by kernel_rfl⟩
theorem ty4 : Ty Tryd.prog 4 false 1 := ⟨⟨_, Tryd.underlying4, rfl⟩, by kernel_rfl⟩
theorem z1 : Zero Tryd.prog 1 [.nilFunc] := ⟨zero_of (by kernel_rfl)⟩
theorem z2 : Zero Tryd.prog 2 [.int .i64 0] := ⟨zero_of (by kernel_rfl)⟩
end
open Go.RowKit
/-- The first n elements of row i of a raw matrix with c columns. -/
def rawBits (bs : List Nat) (c i n : Nat) : Nat := maskOf ((List.range n).filter fun j => bitB bs (c * i + j))
theorem rawBits_testBit (bs : List Nat) (c i n j : Nat) : (rawBits bs c i n).testBit j = (decide (j < n) && bitB bs (c * i + j)) := by
  rw [rawBits, maskOf_testBit]
  simp
theorem rawBits_zero (bs : List Nat) (c i : Nat) : rawBits bs c i 0 = 0 := rfl
def rowsAt (bs : List Nat) (r c i j : Nat) : List Nat := (List.range r).map fun q => if q < i then rawBits bs c q c else if q = i then rawBits bs c q j else 0
/-- The rows of a raw matrix. -/
def rawRows (bs : List Nat) (r c : Nat) : List Nat := (List.range r).map fun q => rawBits bs c q c
theorem rowsAt_start (bs : List Nat) (r c : Nat) : rowsAt bs r c 0 0 = List.replicate r 0 := by
  apply List.ext_getElem
  · simp [rowsAt]
  · intro i h1 h2
    simp [rowsAt, rawBits_zero]
theorem rowsAt_next (bs : List Nat) (r c i : Nat) : rowsAt bs r c i c = rowsAt bs r c (i + 1) 0 := by
  apply List.map_congr_left
  intro q _
  rw [rawBits_zero]
  rcases Nat.lt_trichotomy q i with h | h | h
  · rw [if_pos h, if_pos (by omega)]
  · rw [if_neg (by omega), if_pos h, if_pos (by omega)]
  · rw [if_neg (by omega), if_neg (by omega), if_neg (by omega)]
    split <;> rfl
theorem rowsAt_end (bs : List Nat) (r c : Nat) : rowsAt bs r c r 0 = rawRows bs r c := by
  apply List.map_congr_left
  intro q hq
  rw [if_pos (List.mem_range.1 hq)]
theorem rowsAt_len (bs : List Nat) (r c i j : Nat) : (rowsAt bs r c i j).length = r := by simp [rowsAt]
theorem rowsAt_get (bs : List Nat) (r c i j : Nat) (h : i < r) : (rowsAt bs r c i j)[i]? = some (rawBits bs c i j) := by simp [rowsAt, h]
theorem rowsAt_set (bs : List Nat) (r c i j : Nat) : (rowsAt bs r c i j).set i (rawBits bs c i (j + 1)) = rowsAt bs r c i (j + 1) := by
  apply List.ext_getElem
  · simp [rowsAt]
  · intro q h1 h2
    rw [List.getElem_set]
    simp only [rowsAt, List.getElem_map, List.getElem_range]
    split
    · rename_i e; subst e; simp
    · rename_i e
      have : ¬ q = i := fun h => e h.symm
      simp [this]
theorem boolsC_set (bs : List Nat) (c i j : Nat) : (boolsC c (rawBits bs c i j)).set j (.bool (bitB bs (c * i + j))) = boolsC c (rawBits bs c i (j + 1)) := by
  apply List.ext_getElem
  · simp [boolsC]
  · intro q h1 h2
    rw [List.getElem_set]
    simp only [boolsC, List.getElem_map, List.getElem_range, rawBits_testBit]
    split
    · rename_i e; subst e; simp
    · rename_i e
      congr 1
      congr 1
      apply decide_eq_decide.2
      omega
theorem rowO_get (c : Nat) (bs rows : List Nat) (i b m : Nat) (h1 : bs[i]? = some b) (h2 : rows[i]? = some m) : (rowO c bs rows)[i]? = some ⟨b, boolsC c m, 4, c⟩ := by
  rw [rowO, List.getElem?_map, (List.getElem?_zip_eq_some (z := (b, m))).2 ⟨h1, h2⟩]
  rfl
theorem rowO_set (c : Nat) (bs rows : List Nat) (i b m : Nat) (h1 : bs[i]? = some b) (hl : bs.length = rows.length) : (rowO c bs rows).set i ⟨b, boolsC c m, 4, c⟩ = rowO c bs (rows.set i m) := by
  apply List.ext_getElem?
  intro q
  rw [List.getElem?_set]
  have hi := (List.getElem?_eq_some_iff.1 h1).1
  split
  · rename_i e
    subst e
    rw [if_pos (by simp [rowO]; omega)]
    exact (rowO_get c bs (rows.set i m) i b m h1 (List.getElem?_set_self (by omega))).symm
  · rename_i e
    simp only [rowO, List.getElem?_map]
    congr 1
    rcases Nat.lt_or_ge q bs.length with h | h
    · have a1 : (bs.zip rows)[q]? = some (bs[q], rows[q]'(by omega)) := List.getElem?_zip_eq_some.2 ⟨List.getElem?_eq_getElem _, List.getElem?_eq_getElem _⟩
      have a2 : (bs.zip (rows.set i m))[q]? = some (bs[q], rows[q]'(by omega)) := List.getElem?_zip_eq_some.2 ⟨List.getElem?_eq_getElem _, by rw [List.getElem?_set_ne e]; exact List.getElem?_eq_getElem _⟩
      rw [a1, a2]
    · have z1 : (bs.zip rows)[q]? = none := List.getElem?_eq_none (by rw [List.length_zip]; omega)
      have z2 : (bs.zip (rows.set i m))[q]? = none := List.getElem?_eq_none (by rw [List.length_zip]; omega)
      rw [z1, z2]
/-- v is the reference's matrix with c columns and the rows ms. -/
def M44R (X : PMap) (v : Value) (c : Nat) (ms : List Nat) : Prop :=
  ∃ s cs, v = .agg #[.int .i64 (c : Int), s] ∧ SliceR X s ms.length cs ∧ cs.length = ms.length ∧ ∀ (i m : Nat), ms[i]? = some m → ∃ A cp, cs[i]? = some (.slice A c cp) ∧ SliceR X (.slice A c cp) c (boolsC c m)
theorem M44R.mono {X X' : PMap} {v : Value} {c : Nat} {ms : List Nat} (h : M44R X v c ms) (hX : X.le X') : M44R X' v c ms := by
  obtain ⟨s, cs, h1, h2, h3, h4⟩ := h
  exact ⟨s, cs, h1, h2.mono hX, h3, fun i m hm => let ⟨A, cp, g1, g2⟩ := h4 i m hm; ⟨A, cp, g1, g2.mono hX⟩⟩

theorem make44_spec {X : PMap} {s : Value} {bs : List Nat} (R C : Nat) (_hR : R < 256) (_hC : C < 256) (h : BytesR X s bs) : Spec Tryd.prog 55 [.agg #[.int .u8 (R : Int), .int .u8 (C : Int), s]] X fun u X' => M44R X' u (C % 6) (rawRows bs (R % 6) (C % 6)) := by
  obtain ⟨A, cp, rfl⟩ := h.form
  have hr6 : R % 6 < 6 := Nat.mod_lt _ (by omega)
  have hc6 : C % 6 < 6 := Nat.mod_lt _ (by omega)
  generalize hr : R % 6 = r at *
  generalize hc : C % 6 = c at *
  refine Spec.enter Tryd.func55 rfl Tryd.ntmps55 rfl ?_
  intro w0 hw0
  refine T.seq ?_
  refine T.region ?_
  refine SL.x (op_box rfl) rfl rfl ?_
  rintro _ _ _ ⟨B1, rfl, rfl, rfl⟩
  refine SL.x (op_alloc z91) rfl rfl ?_
  rintro _ _ _ ⟨B2, rfl, rfl, rfl⟩
  refine SL.nil ?_
  refine T.seq ?_
  refine T.region ?_
  refine SL.y (op_fieldAddr fa24_0 rfl) rfl rfl ?_
  first | refine SL.y (op_load ty5 rfl (by repeat (first | exact AtO.here | apply AtO.there)) rfl) rfl rfl ?_ | refine SL.y (op_loadX ty5 rfl (by assumption) rfl) rfl rfl ?_
  -- to 8: op
  refine SL.y (op_remN (q := 6) rfl rfl rfl (by decide)) rfl rfl ?_
  rw [hr]
  first | refine SL.y (op_convI64 Tryd.underlying5 Tryd.underlying3 rfl (by omega) (by omega)) rfl rfl ?_ | refine SL.y (op_convert Tryd.underlying5 Tryd.underlying3 rfl) rfl rfl ?_
  refine SL.y (op_fieldAddr fa24_1 rfl) rfl rfl ?_
  first | refine SL.y (op_load ty5 rfl (by repeat (first | exact AtO.here | apply AtO.there)) rfl) rfl rfl ?_ | refine SL.y (op_loadX ty5 rfl (by assumption) rfl) rfl rfl ?_
  -- to 12: op
  refine SL.y (op_remN (q := 6) rfl rfl rfl (by decide)) rfl rfl ?_
  rw [hc]
  first | refine SL.y (op_convI64 Tryd.underlying5 Tryd.underlying3 rfl (by omega) (by omega)) rfl rfl ?_ | refine SL.y (op_convert Tryd.underlying5 Tryd.underlying3 rfl) rfl rfl ?_
  -- op
  refine SL.x (op_callO en81 (vs := [_, _]) rfl (new44_spec r c (by omega) (by omega))) rfl rfl ?_
  rintro _ _ X1 ⟨_, rfl, hX1, s1, G, nb, rfl, hnb, hG, rfl, rfl⟩
  refine SL.perm List.perm_append_comm ?_
  obtain ⟨As, cps, rfl⟩ := hG.form
  refine SL.x (op_alloc z91) rfl rfl ?_
  rintro _ _ _ ⟨B3, rfl, rfl, rfl⟩
  refine SL.x (op_store ty91 rfl rfl (by repeat (first | exact AtO.here | apply AtO.there)) rfl rfl rfl) rfl rfl ?_
  rintro _ _ _ ⟨rfl, rfl⟩
  refine SL.nil ?_
  refine T.seq ?_
  refine T.seq ?_
  refine T.region ?_
  refine SL.y (op_fieldAddr fa91_1 rfl) rfl rfl ?_
  first | refine SL.y (op_load ty89 rfl (by repeat (first | exact AtO.here | apply AtO.there)) rfl) rfl rfl ?_ | refine SL.y (op_loadX ty89 rfl (by assumption) rfl) rfl rfl ?_
  refine SL.y (op_lenS Tryd.underlying89 rfl) rfl rfl ?_
  refine SL.y (op_move (v := .int .i64 ((0 : Nat) : Int)) rfl) rfl rfl ?_
  refine SL.nil ?_
  refine T.block ?_
  -- loop live [1, 2, 3, 17, 18]
  refine T.loopW (fun m env own X' => ∃ i : Nat, m = r - i ∧ i ≤ r ∧ X.le X' ∧ env = [(1, .pointer (some ⟨B1, 0, none⟩)), (2, .pointer (some ⟨B2, 0, none⟩)), (3, .pointer (some ⟨B3, 0, none⟩)), (17, .int .i64 (r : Int)), (18, .int .i64 (i : Int))] ∧ own = ⟨B3, [.int .i64 (c : Int), .slice As r cps], 91, 2⟩ :: ⟨B2, [.int .i64 0, .slice none 0 0], 91, 2⟩ :: ⟨B1, [.int .u8 (R : Int), .int .u8 (C : Int), .slice A bs.length cp], 24, 3⟩ :: (rowO c nb (rowsAt bs r c i 0) ++ G)) r ⟨0, by simp, by omega, PMap.le_refl _, rfl, by rw [rowsAt_start]; rfl⟩ (by repeat (first | exact Sub.nil | refine Sub.cons rfl ?_)) ?_
  rintro m _ _ Y1 ⟨i, rfl, hi, hY1, rfl, rfl⟩
  rcases Nat.lt_or_ge i r with hir | hir
  · skip
    refine T.seq ?_
    refine T.region ?_
    first | refine SL.y (op_lssT rfl rfl (by omega)) rfl rfl ?_ | refine SL.y (op_lssF rfl rfl (by omega)) rfl rfl ?_ | refine SL.y (op_lss rfl rfl) rfl rfl ?_
    refine SL.nil ?_
    refine T.seq ?_
    refine T.condT rfl ?_
    refine T.skip ?_
    refine T.seq ?_
    refine T.block ?_
    refine T.seq ?_
    refine T.region ?_
    refine SL.y (op_move rfl) rfl rfl ?_
    refine SL.y (op_assign rfl) rfl rfl ?_
    refine SL.nil ?_
    refine T.seq ?_
    refine T.region ?_
    refine SL.y (op_assign (v := .int .i64 ((0 : Nat) : Int)) rfl) rfl rfl ?_
    refine SL.nil ?_
    refine T.block ?_
    -- loop live [1, 2, 3, 4, 5, 18]
    refine T.loopW (fun m env own X' => ∃ j : Nat, m = c - j ∧ j ≤ c ∧ X.le X' ∧ env = [(1, .pointer (some ⟨B1, 0, none⟩)), (2, .pointer (some ⟨B2, 0, none⟩)), (3, .pointer (some ⟨B3, 0, none⟩)), (4, .int .i64 (i : Int)), (5, .int .i64 (j : Int)), (17, .int .i64 (r : Int)), (18, .int .i64 (i : Int))] ∧ own = ⟨B3, [.int .i64 (c : Int), .slice As r cps], 91, 2⟩ :: ⟨B2, [.int .i64 0, .slice none 0 0], 91, 2⟩ :: ⟨B1, [.int .u8 (R : Int), .int .u8 (C : Int), .slice A bs.length cp], 24, 3⟩ :: (rowO c nb (rowsAt bs r c i j) ++ G)) c ⟨0, by simp, by omega, hY1, rfl, rfl⟩ (by repeat (first | exact Sub.nil | refine Sub.cons rfl ?_)) ?_
    rintro m _ _ Y2 ⟨j, rfl, hj, hY2, rfl, rfl⟩
    rcases Nat.lt_or_ge j c with hjc | hjc
    · rcases hG with ⟨h0, _⟩ | ⟨bG, cap, he, rfl, hcap, hcm, hcl⟩
      · omega
      · simp only [Value.slice.injEq] at he
        obtain ⟨rfl, _, rfl⟩ := he
        have hci : c * i ≤ 6 * 6 := Nat.mul_le_mul (by omega) (by omega)
        have hnbi : nb[i]? = some (nb[i]'(by omega)) := List.getElem?_eq_getElem _
        have hout : (outC c nb)[i]? = some (.slice (some ⟨nb[i]'(by omega), 0, none⟩) c c) := by rw [outC, List.getElem?_map, hnbi]; rfl
        have hrow := rowO_get c nb (rowsAt bs r c i j) i _ _ hnbi (rowsAt_get bs r c i j hir)
        refine T.seq ?_
        refine T.seq ?_
        refine T.region ?_
        refine SL.y (op_move rfl) rfl rfl ?_
        refine SL.y (op_fieldAddr fa91_0 rfl) rfl rfl ?_
        first | refine SL.y (op_load ty3 rfl (by repeat (first | exact AtO.here | apply AtO.there)) rfl) rfl rfl ?_ | refine SL.y (op_loadX ty3 rfl (by assumption) rfl) rfl rfl ?_
        first | refine SL.y (op_lssT rfl rfl (by omega)) rfl rfl ?_ | refine SL.y (op_lssF rfl rfl (by omega)) rfl rfl ?_ | refine SL.y (op_lss rfl rfl) rfl rfl ?_
        refine SL.nil ?_
        refine T.condT rfl ?_
        refine T.skip ?_
        refine T.seq ?_
        refine T.block ?_
        refine T.draw (by kernel_rfl) 16 [.t 0, .t 1, .t 2, .t 3, .t 4, .t 5, .t 6, .t 7, .t 8, .t 9, .t 10, .t 11, .t 12, .t 13, .r 14, .t 15] (by kernel_rfl) ?_
        refine SD.take rfl panicBody (op_fieldAddr fa91_1 rfl) rfl rfl ?_
        first | refine SD.take rfl panicBody (op_load ty89 rfl (by repeat (first | exact AtO.here | apply AtO.there)) rfl) rfl rfl ?_ | refine SD.take rfl panicBody (op_loadX ty89 rfl (by assumption) rfl) rfl rfl ?_
        refine SD.take rfl panicBody (op_move rfl) rfl rfl ?_
        first | refine SD.take rfl panicBody (op_indexN Tryd.underlying89 ty123 rfl rfl (by omega)) rfl rfl ?_ | refine SD.take rfl panicBody (op_index Tryd.underlying89 ty123 rfl rfl (by omega) (by omega)) rfl rfl ?_
        -- to 31: op
        refine SD.take rfl panicBody (op_load ty123 rfl (AtO.there (AtO.there (AtO.there (AtO.append AtO.here (rowO c nb (rowsAt bs r c i j)))))) (cread1 hout)) rfl rfl ?_
        refine SD.take rfl panicBody (op_move rfl) rfl rfl ?_
        refine SD.take rfl panicBody (op_fieldAddr fa24_2 rfl) rfl rfl ?_
        first | refine SD.take rfl panicBody (op_load ty22 rfl (by repeat (first | exact AtO.here | apply AtO.there)) rfl) rfl rfl ?_ | refine SD.take rfl panicBody (op_loadX ty22 rfl (by assumption) rfl) rfl rfl ?_
        refine SD.take rfl panicBody (op_fieldAddr fa91_0 rfl) rfl rfl ?_
        first | refine SD.take rfl panicBody (op_load ty3 rfl (by repeat (first | exact AtO.here | apply AtO.there)) rfl) rfl rfl ?_ | refine SD.take rfl panicBody (op_loadX ty3 rfl (by assumption) rfl) rfl rfl ?_
        refine SD.take rfl panicBody (op_move rfl) rfl rfl ?_
        -- to 38: op
        refine SD.take rfl panicBody (op_mulN rfl rfl (by omega)) rfl rfl ?_
        refine SD.take rfl panicBody (op_move rfl) rfl rfl ?_
        first | refine SD.take rfl panicBody (op_addN rfl rfl (by omega)) rfl rfl ?_ | refine SD.take rfl panicBody (op_add rfl rfl (by omega) (by omega)) rfl rfl ?_ | refine SD.take rfl panicBody (op_addW rfl rfl) rfl rfl ?_
        -- op
        refine SD.run rfl (op_callF en82 (vs := [_, _]) rfl (bit44_spec (h.mono hY2) (c * i + j) (by omega))) rfl rfl ?_
        rintro _ _ X2 ⟨rfl, hX2, rfl⟩
        have hil : i < (rowO c nb (rowsAt bs r c i j)).length := (List.getElem?_eq_some_iff.1 hrow).1
        first | refine SD.take rfl panicBody (op_indexN Tryd.underlying123 ty4 rfl rfl (by omega)) rfl rfl ?_ | refine SD.take rfl panicBody (op_index Tryd.underlying123 ty4 rfl rfl (by omega) (by omega)) rfl rfl ?_
        refine SD.nil ?_
        show SL _ _ _ _ _ _ _ [_] _ _ _
        -- to store: op
        refine SL.x (op_store ty4 rfl rfl (AtO.there (AtO.there (AtO.there (AtO.of_get (by rw [List.getElem?_append_left hil]; exact hrow))))) rfl rfl (Nat.ble_eq_true_of_le (by simp [boolsC]; omega))) rfl rfl ?_
        rintro _ _ _ ⟨rfl, rfl⟩
        rw [show 0 + j * 1 = j by omega, List.set_cons_succ, List.set_cons_succ, List.set_cons_succ, List.set_append_left _ _ hil, show csets (boolsC c (rawBits bs c i j)) j (vcells (.bool (bitB bs (c * i + j)))) = boolsC c (rawBits bs c i (j + 1)) from boolsC_set bs c i j, rowO_set c nb _ i _ _ hnbi (by rw [rowsAt_len, hnb]), rowsAt_set]
        refine SL.nil ?_
        refine T.blk ?_
        refine T.region ?_
        refine SL.y (op_move rfl) rfl rfl ?_
        first | refine SL.y (op_addN (q := 1) rfl rfl (by omega)) rfl rfl ?_ | refine SL.y (op_add rfl rfl (by omega) (by omega)) rfl rfl ?_ | refine SL.y (op_addW rfl rfl) rfl rfl ?_
        refine SL.y (op_assign rfl) rfl rfl ?_
        refine SL.nil ?_
        -- cut
        exact T.backW (c - (j + 1)) (by omega) ⟨j + 1, rfl, by omega, hY2.trans' hX2, rfl, rfl⟩ (by repeat (first | exact Sub.nil | refine Sub.cons rfl ?_))
    · obtain rfl : j = c := by omega
      refine T.seq ?_
      refine T.seq ?_
      refine T.region ?_
      refine SL.y (op_move rfl) rfl rfl ?_
      refine SL.y (op_fieldAddr fa91_0 rfl) rfl rfl ?_
      first | refine SL.y (op_load ty3 rfl (by repeat (first | exact AtO.here | apply AtO.there)) rfl) rfl rfl ?_ | refine SL.y (op_loadX ty3 rfl (by assumption) rfl) rfl rfl ?_
      first | refine SL.y (op_lssT rfl rfl (by omega)) rfl rfl ?_ | refine SL.y (op_lssF rfl rfl (by omega)) rfl rfl ?_ | refine SL.y (op_lss rfl rfl) rfl rfl ?_
      refine SL.nil ?_
      refine T.condF rfl ?_
      refine T.exit (T.exitCode (T.exitCut (T.exitBlk ?_)))
      refine T.blk ?_
      refine T.region ?_
      first | refine SL.y (op_addN (q := 1) rfl rfl (by omega)) rfl rfl ?_ | refine SL.y (op_add rfl rfl (by omega) (by omega)) rfl rfl ?_ | refine SL.y (op_addW rfl rfl) rfl rfl ?_
      refine SL.y (op_move rfl) rfl rfl ?_
      refine SL.nil ?_
      -- cut
      exact T.backW (r - (i + 1)) (by omega) ⟨i + 1, rfl, by omega, hY2, rfl, by rw [rowsAt_next]⟩ (by repeat (first | exact Sub.nil | refine Sub.cons rfl ?_))
  · obtain rfl : i = r := by omega
    rw [rowsAt_end]
    refine T.seq ?_
    refine T.region ?_
    first | refine SL.y (op_lssT rfl rfl (by omega)) rfl rfl ?_ | refine SL.y (op_lssF rfl rfl (by omega)) rfl rfl ?_ | refine SL.y (op_lss rfl rfl) rfl rfl ?_
    refine SL.nil ?_
    refine T.seq ?_
    refine T.condF rfl ?_
    refine T.exit (T.exitCode (T.exitCut (T.exitBlk ?_)))
    refine T.seq ?_
    refine T.region ?_
    first | refine SL.y (op_load ty91 rfl (by repeat (first | exact AtO.here | apply AtO.there)) rfl) rfl rfl ?_ | refine SL.y (op_loadX ty91 rfl (by assumption) rfl) rfl rfl ?_
    refine SL.x (op_store ty91 rfl rfl (by repeat (first | exact AtO.here | apply AtO.there)) rfl rfl rfl) rfl rfl ?_
    rintro _ _ _ ⟨rfl, rfl⟩
    refine SL.nil ?_
    -- ret
    refine T.perm (own' := rowO c nb (rawRows bs i c) ++ (_ :: _ :: _ :: G)) (List.perm_append_comm_assoc [_, _, _] (rowO c nb (rawRows bs i c)) G) ?_
    refine T.pubList ?_
    intro Y3 hY3 hBs
    refine T.pubG (own0 := [_, _, _]) hG ?_
    intro Y4 hY4 hS4
    refine T.ret1 rfl (ResIs.cell rfl ty91 (by repeat (first | exact AtO.here | apply AtO.there)) rfl) ?_
    have hrl : (rawRows bs i c).length = i := by simp [rawRows]
    refine ⟨_, _, rfl, by rw [hrl]; exact hS4, by simp [outC, hnb, hrl], fun q m hm => ?_⟩
    have hq : q < i := by have := (List.getElem?_eq_some_iff.1 hm).1; omega
    have hnbq : nb[q]? = some (nb[q]'(by omega)) := List.getElem?_eq_getElem _
    refine ⟨some ⟨nb[q]'(by omega), 0, none⟩, c, by rw [outC, List.getElem?_map, hnbq]; rfl, ?_⟩
    have hB := (hBs _ (List.mem_of_getElem? (rowO_get c nb _ q _ m hnbq hm))).mono hY4
    rcases Nat.eq_zero_or_pos c with h0 | h0
    · subst h0
      exact .inl ⟨rfl, rfl, _, _, rfl⟩
    · exact .inr ⟨h0, _, _, rfl, hB⟩
end Go.Proofs.YtoheffglppbcbaaDoor
