/- What the law's proof rests on: the engine, a small separation logic over the kit's walk, and contracts of the functions that the law reaches. Part 4. -/
import Derived.Test.YtaooojjhlngcmaaDoorChecked
import Derived.Shelf.Sort.AssemblysIn
import Derived.Shelf.Strconv.Itoa3
import Derived.Sort.EveryDepth
import Derived.Test.YtaooojjhlngcmaaDoorPart1
import Derived.Test.YtaooojjhlngcmaaDoorPart2
import Derived.Test.YtaooojjhlngcmaaDoorPart3
namespace Go.Proofs.YtaooojjhlngcmaaDoor
section
set_option maxRecDepth 100000
theorem bs61 : ∃ i z, Tryd.prog.info? 61 = some i ∧ i.size = 7 ∧ i.zero = some z ∧ z.cells = ([.bool false, .int .u8 0, .string ⟨#[]⟩, .int .u8 0, .int .i64 0, .slice none 0 0, .slice none 0 0] : List Value).toArray := bs_of (by kernel_rfl)
theorem fa63_0 : FAdr Tryd.prog 63 0 0 := fadr_mk Tryd.underlying63 rfl rfl (by kernel_rfl)
theorem fa63_1 : FAdr Tryd.prog 63 1 1 := fadr_mk Tryd.underlying63 rfl rfl (by kernel_rfl)
theorem fa63_2 : FAdr Tryd.prog 63 2 2 := fadr_mk Tryd.underlying63 rfl rfl (by kernel_rfl)
theorem fa63_3 : FAdr Tryd.prog 63 3 3 := fadr_mk Tryd.underlying63 rfl rfl (by kernel_rfl)
theorem sl42 : SlT Tryd.prog 42 61 7 88 := ⟨Tryd.underlying42, sl_of (by kernel_rfl) (by decide)⟩
theorem st61 : StT Tryd.prog 61 [(0, 1), (1, 1), (2, 1), (3, 4)] [.bool false, .int .u8 0, .string ⟨#[]⟩, .int .u8 0, .int .i64 0, .slice none 0 0, .slice none 0 0] := ⟨⟨_, Tryd.underlying61, fun _ => by kernel_rfl, z61⟩⟩
theorem ty63 : Ty Tryd.prog 63 true 7 := ⟨⟨_, Tryd.underlying63, rfl⟩, by kernel_rfl⟩
end
open Go.RowKit
theorem set16_spec {X : PMap} {v : Value} {cs : List Con} (h : ConsRi X v cs) (hl : cs.length < 1000) (hok : ∀ c ∈ cs, c.kind < 256 ∧ opsE c.ex ∧ wtE c.ex < 900000) : Spec Tryd.prog 18 [v] X fun u X' => ConsR X' u cs := by
  obtain ⟨rows, hr, hrl, hrow⟩ := h
  obtain ⟨A, cp, rfl⟩ := hr.form
  have hmx : maxLen = 9223372036854775807 := rfl
  refine Spec.enter Tryd.func18 rfl Tryd.ntmps18 rfl ?_
  intro w0 hw0
  refine T.seq ?_
  refine T.region ?_
  refine SL.y (op_assign rfl) rfl rfl ?_
  refine SL.nil ?_
  refine T.seq ?_
  refine T.region ?_
  refine SL.y (op_assign rfl) rfl rfl ?_
  refine SL.nil ?_
  refine T.seq ?_
  refine T.seq ?_
  refine T.region ?_
  refine SL.y (op_move rfl) rfl rfl ?_
  refine SL.y (op_lenS Tryd.underlying39 rfl) rfl rfl ?_
  refine SL.y (op_move (v := .int .i64 ((0 : Nat) : Int)) rfl) rfl rfl ?_
  refine SL.nil ?_
  refine T.block ?_
  refine T.loopW (fun m env own X' => ∃ (i : Nat) (vo : Value) (rs : List Row7), m = rows.length - i ∧ i ≤ rows.length ∧ X.le X' ∧ rs.length = (cs.take i).length ∧ GrowS 61 7 vo rs.length ((rs.map rc7).flatten) own ∧ (∀ (q : Nat) (c : Con) (r : Row7), (cs.take i)[q]? = some c → rs[q]? = some r → ConR X' c r) ∧ env = [(3, vo), (6, .slice A rows.length cp), (7, .int .i64 (rows.length : Int)), (8, .int .i64 (i : Int))]) rows.length ⟨0, _, [], by simp, by omega, PMap.le_refl _, rfl, GrowS.nil, (fun q c r h => by simp at h), rfl⟩ (by repeat (first | exact Sub.nil | refine Sub.cons rfl ?_)) ?_
  rintro m _ G X1 ⟨i, vo, rs, rfl, hi, hX1, hrsl, hG, hrs, rfl⟩
  have hrl2 : rs.length = i := by rw [hrsl, List.length_take]; omega
  obtain ⟨Av, cv, rfl⟩ := hG.form
  rcases Nat.lt_or_ge i rows.length with hil | hil
  · obtain ⟨r2, hr2⟩ : ∃ r2, rows[i]? = some r2 := ⟨_, List.getElem?_eq_getElem hil⟩
    obtain ⟨c, hc2⟩ : ∃ c, cs[i]? = some c := ⟨_, List.getElem?_eq_getElem (by omega)⟩
    have hrc := hrow i c r2 hc2 hr2
    obtain ⟨okk, oko, okw⟩ := hok c (List.mem_of_getElem? hc2)
    obtain ⟨o0, n0, a0, b0, l0, c0, m0, d0, rfl⟩ := hrc.form
    have hex := hrc.2.2.2
    simp only at hex
    obtain ⟨bA, pre, rfl, hbA⟩ := hr.blk (by omega)
    have htk := take_snoc hc2
    refine T.seq ?_
    refine T.region ?_
    first | refine SL.y (op_lssT rfl rfl (by omega)) rfl rfl ?_ | refine SL.y (op_lssF rfl rfl (by omega)) rfl rfl ?_ | refine SL.y (op_lss rfl rfl) rfl rfl ?_
    refine SL.nil ?_
    refine T.seq ?_
    refine T.condT rfl ?_
    refine T.skip ?_
    refine T.seq ?_
    refine T.block ?_
    refine T.seq ?_
    refine T.region ?_
    first | refine SL.y (op_indexN Tryd.underlying39 ty63 rfl rfl (by omega)) rfl rfl ?_ | refine SL.y (op_index Tryd.underlying39 ty63 rfl rfl (by omega) (by omega)) rfl rfl ?_
    refine SL.y (op_loadX (v := .agg #[.bool c.enf, .int .i64 (c.kind : Int), .string c.name, .int .i64 (o0 : Int), .int .i64 n0, .slice a0 l0 c0, .slice b0 m0 d0]) ty63 rfl (hbA.mono hX1) (row_read rc7i_len hr2 (by omega))) rfl rfl ?_
    refine SL.x (op_alloc z63) rfl rfl ?_
    rintro _ _ _ ⟨B5, rfl, rfl, rfl⟩
    refine SL.x (op_store ty63 rfl rfl (by repeat constructor) rfl rfl rfl) rfl rfl ?_
    rintro _ _ _ ⟨rfl, rfl⟩
    refine SL.nil ?_
    refine T.drawG (own0 := [_]) (by kernel_rfl) 13 [.t 0, .t 1, .t 2, .t 3, .t 4, .t 5, .t 6, .t 7, .t 8, .t 9, .r 10, .t 11, .r 12] (by kernel_rfl) ?_
    refine SD.take rfl panicBody (op_move rfl) rfl rfl ?_
    refine SD.take rfl panicBody (op_fieldAddr fa63_0 rfl) rfl rfl ?_
    first | refine SD.take rfl panicBody (op_load ty4 rfl (by repeat constructor) rfl) rfl rfl ?_ | refine SD.take rfl panicBody (op_loadX ty4 rfl (by assumption) rfl) rfl rfl ?_
    refine SD.take rfl panicBody (op_fieldAddr fa63_1 rfl) rfl rfl ?_
    first | refine SD.take rfl panicBody (op_load ty3 rfl (by repeat constructor) rfl) rfl rfl ?_ | refine SD.take rfl panicBody (op_loadX ty3 rfl (by assumption) rfl) rfl rfl ?_
    first | refine SD.take rfl panicBody (op_convU8 Tryd.underlying3 Tryd.underlying59 rfl (by omega) (by omega)) rfl rfl ?_ | refine SD.take rfl panicBody (op_convert Tryd.underlying3 Tryd.underlying59 rfl) rfl rfl ?_
    refine SD.take rfl panicBody (op_fieldAddr fa63_2 rfl) rfl rfl ?_
    first | refine SD.take rfl panicBody (op_load ty9 rfl (by repeat constructor) rfl) rfl rfl ?_ | refine SD.take rfl panicBody (op_loadX ty9 rfl (by assumption) rfl) rfl rfl ?_
    refine SD.take rfl panicBody (op_fieldAddr fa63_3 rfl) rfl rfl ?_
    first | refine SD.take rfl panicBody (op_load ty27 rfl (by repeat constructor) rfl) rfl rfl ?_ | refine SD.take rfl panicBody (op_loadX ty27 rfl (by assumption) rfl) rfl rfl ?_
    have hc := expr_spec 900000 (by omega) (by omega) oko (hex.mono hX1)
    try simp only at hc
    refine SD.run rfl (op_callF en14 (vs := [_]) rfl (hc)) rfl rfl ?_
    rintro _ _ X2 ⟨rfl, hX2, r8, rfl, hr8⟩
    obtain ⟨o8, n8, a8, b8, l8, c8, l9, c9, rfl⟩ := hr8.form
    refine SD.take rfl panicBody (op_build st61 (qs := [(0, _), (1, _), (2, _), (3, _)]) rfl rfl) rfl rfl ?_
    refine SD.run rfl (op_buildSlice Tryd.underlying42 bs61 (qs := [(0, _)]) rfl rfl rfl rfl rfl) rfl rfl ?_
    rintro _ _ _ ⟨B24, rfl, rfl, rfl⟩
    refine SD.nil ?_
    show SL _ _ _ _ _ _ _ [_, _] _ _ _
    refine SL.x (op_appendGA (own0 := [_, _]) (m := 1) sl42 rfl hG rfl (Src.ofOwn0 AtO.here rfl) (by intro y hy; have hy : y ∈ [Value.bool _, Value.int _ _, Value.string _, Value.int _ _, Value.int _ _, Value.slice _ _ _, Value.slice _ _ _] := hy; simp only [List.mem_cons, List.not_mem_nil, or_false] at hy; rcases hy with rfl | rfl | rfl | rfl | rfl | rfl | rfl <;> rfl) (by omega) (by omega)) rfl rfl ?_
    rintro va9 _ _ ⟨Ga9, rfl, rfl, hGa9⟩
    refine SL.y (op_assign rfl) rfl rfl ?_
    refine SL.nil ?_
    refine T.blk ?_
    refine T.region ?_
    first | refine SL.y (op_addN (q := 1) rfl rfl (by omega)) rfl rfl ?_ | refine SL.y (op_add rfl rfl (by omega) (by omega)) rfl rfl ?_ | refine SL.y (op_addW rfl rfl) rfl rfl ?_
    refine SL.y (op_move rfl) rfl rfl ?_
    refine SL.nil ?_
    refine T.less (own' := Ga9) (List.Sublist.cons _ (List.sublist_cons_self _ _)) ?_
    have hnew : ConR X2 c (c.enf, c.kind, c.name, .int .u8 (o8 : Int), .int .i64 n8, .slice a8 l8 c8, .slice b8 l9 c9) := ⟨rfl, rfl, rfl, hr8⟩
    have hG10 : GrowS 61 7 va9 (rs ++ [((c.enf, c.kind, c.name, .int .u8 (o8 : Int), .int .i64 n8, .slice a8 l8 c8, .slice b8 l9 c9) : Row7)]).length (((rs ++ [((c.enf, c.kind, c.name, .int .u8 (o8 : Int), .int .i64 n8, .slice a8 l8 c8, .slice b8 l9 c9) : Row7)]).map rc7).flatten) Ga9 := by
      rw [List.length_append, List.map_append, List.flatten_append]
      exact hGa9
    exact T.backW (rows.length - (i + 1)) (by omega) ⟨i + 1, _, _, rfl, by omega, hX1.trans' hX2, by rw [htk, List.length_append, List.length_append, hrsl]; rfl, hG10, by rw [htk]; exact rows_snoc hrsl (fun q c r h1 h2 => (hrs q c r h1 h2).mono hX2) hnew, rfl⟩ (by repeat (first | exact Sub.nil | refine Sub.cons rfl ?_))
  · obtain rfl : i = rows.length := by omega
    rw [show cs.take rows.length = cs from List.take_of_length_le (by omega)] at hrsl hrs
    refine T.seq ?_
    refine T.region ?_
    first | refine SL.y (op_lssT rfl rfl (by omega)) rfl rfl ?_ | refine SL.y (op_lssF rfl rfl (by omega)) rfl rfl ?_ | refine SL.y (op_lss rfl rfl) rfl rfl ?_
    refine SL.nil ?_
    refine T.seq ?_
    refine T.condF rfl ?_
    refine T.exit (T.exitCode (T.exitCut (T.exitBlk ?_)))
    refine T.seq ?_
    refine T.region ?_
    refine SL.y (op_move rfl) rfl rfl ?_
    refine SL.y (op_assign rfl) rfl rfl ?_
    refine SL.nil ?_
    refine T.pubG (own0 := []) hG ?_
    intro X9 hX9 hS9
    refine T.ret1 rfl (ResIs.tmp rfl) ?_
    exact ⟨rs, RowR.ofG hG hS9, hrsl, fun q c r h1 h2 => (hrs q c r h1 h2).mono hX9⟩
end Go.Proofs.YtaooojjhlngcmaaDoor
namespace Go.Proofs.YtaooojjhlngcmaaDoor
section
set_option maxRecDepth 100000
theorem en28 : Enters Tryd.prog 28 := enters_mk Tryd.func28 (by kernel_rfl) rfl
theorem en33 : Enters Tryd.prog 33 := enters_mk Tryd.func33 (by kernel_rfl) rfl
theorem en55 : Enters Tryd.prog 55 := enters_mk Tryd.func55 (by kernel_rfl) rfl
theorem en58 : Enters Tryd.prog 58 := enters_mk Tryd.func58 (by kernel_rfl) rfl
theorem en59 : Enters Tryd.prog 59 := enters_mk Tryd.func59 (by kernel_rfl) rfl
end
open Go.RowKit
noncomputable instance decEx : DecidableEq Ex := fun _ _ => Classical.propDecidable _
noncomputable instance decCon : DecidableEq Con := fun _ _ => Classical.propDecidable _
theorem ex_eq {op op' : Nat} {n n' : Int} {ns ns' : List ByteArray} {al al' : List Ex} : Ex.mk op n ns al = Ex.mk op' n' ns' al' ↔ op = op' ∧ n = n' ∧ ns = ns' ∧ al = al' := by simp
theorem take_eq {α : Type} {l l' : List α} {i : Nat} {a b : α} (ha : l[i]? = some a) (hb : l'[i]? = some b) (h : l.take i = l'.take i) : (l.take (i + 1) = l'.take (i + 1)) ↔ a = b := by
  rw [take_snoc ha, take_snoc hb, h]
  simp
theorem ne_at {α : Type} {l l' : List α} {i : Nat} {a b : α} (ha : l[i]? = some a) (hb : l'[i]? = some b) (h : a ≠ b) : l ≠ l' := fun e => by
  subst e; rw [ha] at hb; cases hb; exact h rfl
theorem eqStrs_spec {X : PMap} {v v' : Value} {l l' : List ByteArray} (h : RowR strC X v l) (h' : RowR strC X v' l') (hl : l.length < 1000000000) : Spec Tryd.prog 58 [v, v'] X fun u _ => u = .bool (decide (l = l')) := by
  obtain ⟨A, cp, rfl⟩ := h.form
  obtain ⟨A', cp', rfl⟩ := h'.form
  by_cases hlen : l.length = l'.length
  case neg =>
    refine Spec.enter Tryd.func58 rfl Tryd.ntmps58 rfl ?_
    intro w0 hw0
    refine T.seq ?_
    refine T.region ?_
    refine SL.y (op_assign rfl) rfl rfl ?_
    refine SL.nil ?_
    refine T.seq ?_
    refine T.seq ?_
    refine T.region ?_
    refine SL.y (op_move rfl) rfl rfl ?_
    refine SL.y (op_lenS Tryd.underlying24 rfl) rfl rfl ?_
    refine SL.y (op_move rfl) rfl rfl ?_
    refine SL.y (op_lenS Tryd.underlying24 rfl) rfl rfl ?_
    first | refine SL.y (op_neqT rfl rfl (by omega)) rfl rfl ?_ | refine SL.y (op_neqF rfl rfl (by omega)) rfl rfl ?_ | refine SL.y (op_neq rfl rfl) rfl rfl ?_
    refine SL.nil ?_
    refine T.condT rfl ?_
    refine T.seq ?_
    refine T.region ?_
    refine SL.y (op_assign rfl) rfl rfl ?_
    refine SL.nil ?_
    refine T.ret1 rfl (ResIs.tmp rfl) ?_
    rw [decide_eq_false fun e => hlen (by rw [e])]
  refine Spec.enter Tryd.func58 rfl Tryd.ntmps58 rfl ?_
  intro w0 hw0
  refine T.seq ?_
  refine T.region ?_
  refine SL.y (op_assign rfl) rfl rfl ?_
  refine SL.nil ?_
  refine T.seq ?_
  refine T.seq ?_
  refine T.region ?_
  refine SL.y (op_move rfl) rfl rfl ?_
  refine SL.y (op_lenS Tryd.underlying24 rfl) rfl rfl ?_
  refine SL.y (op_move rfl) rfl rfl ?_
  refine SL.y (op_lenS Tryd.underlying24 rfl) rfl rfl ?_
  first | refine SL.y (op_neqT rfl rfl (by omega)) rfl rfl ?_ | refine SL.y (op_neqF rfl rfl (by omega)) rfl rfl ?_ | refine SL.y (op_neq rfl rfl) rfl rfl ?_
  refine SL.nil ?_
  refine T.condF rfl ?_
  refine T.skip ?_
  refine T.seq ?_
  refine T.seq ?_
  refine T.region ?_
  refine SL.y (op_move rfl) rfl rfl ?_
  refine SL.y (op_lenS Tryd.underlying24 rfl) rfl rfl ?_
  refine SL.y (op_move (v := .int .i64 ((0 : Nat) : Int)) rfl) rfl rfl ?_
  refine SL.nil ?_
  refine T.block ?_
  refine T.loopW (fun m env own X' => ∃ i : Nat, m = l.length - i ∧ i ≤ l.length ∧ X.le X' ∧ l.take i = l'.take i ∧ env = [(0, .slice A l.length cp), (1, .slice A' l'.length cp'), (12, .int .i64 (l.length : Int)), (13, .int .i64 (i : Int))] ∧ own = []) l.length ⟨0, by simp, by omega, PMap.le_refl _, by simp, rfl, rfl⟩ (by repeat (first | exact Sub.nil | refine Sub.cons rfl ?_)) ?_
  rintro m _ _ X1 ⟨i, rfl, hi, hX1, heq, rfl, rfl⟩
  rcases Nat.lt_or_ge i l.length with hil | hil
  · obtain ⟨x, hx⟩ : ∃ x, l[i]? = some x := ⟨_, List.getElem?_eq_getElem hil⟩
    obtain ⟨y, hy⟩ : ∃ y, l'[i]? = some y := ⟨_, List.getElem?_eq_getElem (by omega)⟩
    obtain ⟨b, pre, rfl, hB⟩ := h.blk (by omega)
    obtain ⟨b', pre', rfl, hB'⟩ := h'.blk (by omega)
    refine T.seq ?_
    refine T.region ?_
    first | refine SL.y (op_lssT rfl rfl (by omega)) rfl rfl ?_ | refine SL.y (op_lssF rfl rfl (by omega)) rfl rfl ?_ | refine SL.y (op_lss rfl rfl) rfl rfl ?_
    refine SL.nil ?_
    refine T.seq ?_
    refine T.condT rfl ?_
    refine T.skip ?_
    refine T.seq ?_
    refine T.block ?_
    refine T.seq ?_
    refine T.region ?_
    refine SL.y (op_move rfl) rfl rfl ?_
    refine SL.y (op_assign rfl) rfl rfl ?_
    refine SL.nil ?_
    refine T.seq ?_
    refine T.draw (by kernel_rfl) 9 [.t 0, .t 1, .t 2, .t 3, .t 4, .t 5, .t 6, .t 7, .t 8] (by kernel_rfl) ?_
    refine SD.take rfl panicBody (op_move rfl) rfl rfl ?_
    refine SD.take rfl panicBody (op_move rfl) rfl rfl ?_
    first | refine SD.take rfl panicBody (op_indexN Tryd.underlying24 ty9 rfl rfl (by omega)) rfl rfl ?_ | refine SD.take rfl panicBody (op_index Tryd.underlying24 ty9 rfl rfl (by omega) (by omega)) rfl rfl ?_
    refine SD.take rfl panicBody (op_loadX ty9 rfl (hB.mono hX1) (str_read hx (by omega))) rfl rfl ?_
    refine SD.take rfl panicBody (op_move rfl) rfl rfl ?_
    refine SD.take rfl panicBody (op_move rfl) rfl rfl ?_
    first | refine SD.take rfl panicBody (op_indexN Tryd.underlying24 ty9 rfl rfl (by omega)) rfl rfl ?_ | refine SD.take rfl panicBody (op_index Tryd.underlying24 ty9 rfl rfl (by omega) (by omega)) rfl rfl ?_
    refine SD.take rfl panicBody (op_loadX ty9 rfl (hB'.mono hX1) (str_read hy (by omega))) rfl rfl ?_
    refine SD.take rfl panicBody (op_neqStrD rfl rfl) rfl rfl ?_
    refine SD.nil ?_
    show SL _ _ _ _ _ _ _ [] _ _ _
    refine SL.nil ?_
    by_cases hxy : x = y
    · rw [decide_eq_true hxy]
      refine T.condF rfl ?_
      refine T.skip ?_
      refine T.blk ?_
      refine T.region ?_
      first | refine SL.y (op_addN (q := 1) rfl rfl (by omega)) rfl rfl ?_ | refine SL.y (op_add rfl rfl (by omega) (by omega)) rfl rfl ?_ | refine SL.y (op_addW rfl rfl) rfl rfl ?_
      refine SL.y (op_move rfl) rfl rfl ?_
      refine SL.nil ?_
      exact T.backW (l.length - (i + 1)) (by omega) ⟨i + 1, rfl, by omega, hX1, (take_eq hx hy heq).2 hxy, rfl, rfl⟩ (by repeat (first | exact Sub.nil | refine Sub.cons rfl ?_))
    · rw [decide_eq_false hxy]
      refine T.condT rfl ?_
      refine T.seq ?_
      refine T.region ?_
      refine SL.y (op_assign rfl) rfl rfl ?_
      refine SL.nil ?_
      refine T.ret1 rfl (ResIs.tmp rfl) ?_
      rw [decide_eq_false (ne_at hx hy hxy)]
  · obtain rfl : i = l.length := by omega
    rw [List.take_length, hlen, List.take_length] at heq
    refine T.seq ?_
    refine T.region ?_
    first | refine SL.y (op_lssT rfl rfl (by omega)) rfl rfl ?_ | refine SL.y (op_lssF rfl rfl (by omega)) rfl rfl ?_ | refine SL.y (op_lss rfl rfl) rfl rfl ?_
    refine SL.nil ?_
    refine T.seq ?_
    refine T.condF rfl ?_
    refine T.exit (T.exitCode (T.exitCut (T.exitBlk ?_)))
    refine T.seq ?_
    refine T.region ?_
    refine SL.y (op_assign rfl) rfl rfl ?_
    refine SL.nil ?_
    refine T.ret1 rfl (ResIs.tmp rfl) ?_
    rw [decide_eq_true heq]
theorem same_spec {X : PMap} {v v' : Value} {l l' : List ByteArray} (h : RowR strC X v l) (h' : RowR strC X v' l') (hl : l.length < 1000000000) : Spec Tryd.prog 55 [v, v'] X fun u _ => u = .bool (decide (l = l')) := by
  obtain ⟨A, cp, rfl⟩ := h.form
  obtain ⟨A', cp', rfl⟩ := h'.form
  by_cases hlen : l.length = l'.length
  case neg =>
    refine Spec.enter Tryd.func55 rfl Tryd.ntmps55 rfl ?_
    intro w0 hw0
    refine T.seq ?_
    refine T.region ?_
    refine SL.y (op_assign rfl) rfl rfl ?_
    refine SL.nil ?_
    refine T.seq ?_
    refine T.seq ?_
    refine T.region ?_
    refine SL.y (op_move rfl) rfl rfl ?_
    refine SL.y (op_lenS Tryd.underlying24 rfl) rfl rfl ?_
    refine SL.y (op_move rfl) rfl rfl ?_
    refine SL.y (op_lenS Tryd.underlying24 rfl) rfl rfl ?_
    first | refine SL.y (op_neqT rfl rfl (by omega)) rfl rfl ?_ | refine SL.y (op_neqF rfl rfl (by omega)) rfl rfl ?_ | refine SL.y (op_neq rfl rfl) rfl rfl ?_
    refine SL.nil ?_
    refine T.condT rfl ?_
    refine T.seq ?_
    refine T.region ?_
    refine SL.y (op_assign rfl) rfl rfl ?_
    refine SL.nil ?_
    refine T.ret1 rfl (ResIs.tmp rfl) ?_
    rw [decide_eq_false fun e => hlen (by rw [e])]
  refine Spec.enter Tryd.func55 rfl Tryd.ntmps55 rfl ?_
  intro w0 hw0
  refine T.seq ?_
  refine T.region ?_
  refine SL.y (op_assign rfl) rfl rfl ?_
  refine SL.nil ?_
  refine T.seq ?_
  refine T.seq ?_
  refine T.region ?_
  refine SL.y (op_move rfl) rfl rfl ?_
  refine SL.y (op_lenS Tryd.underlying24 rfl) rfl rfl ?_
  refine SL.y (op_move rfl) rfl rfl ?_
  refine SL.y (op_lenS Tryd.underlying24 rfl) rfl rfl ?_
  first | refine SL.y (op_neqT rfl rfl (by omega)) rfl rfl ?_ | refine SL.y (op_neqF rfl rfl (by omega)) rfl rfl ?_ | refine SL.y (op_neq rfl rfl) rfl rfl ?_
  refine SL.nil ?_
  refine T.condF rfl ?_
  refine T.skip ?_
  refine T.seq ?_
  refine T.seq ?_
  refine T.region ?_
  refine SL.y (op_move rfl) rfl rfl ?_
  refine SL.y (op_lenS Tryd.underlying24 rfl) rfl rfl ?_
  refine SL.y (op_move (v := .int .i64 ((0 : Nat) : Int)) rfl) rfl rfl ?_
  refine SL.nil ?_
  refine T.block ?_
  refine T.loopW (fun m env own X' => ∃ i : Nat, m = l.length - i ∧ i ≤ l.length ∧ X.le X' ∧ l.take i = l'.take i ∧ env = [(0, .slice A l.length cp), (1, .slice A' l'.length cp'), (12, .int .i64 (l.length : Int)), (13, .int .i64 (i : Int))] ∧ own = []) l.length ⟨0, by simp, by omega, PMap.le_refl _, by simp, rfl, rfl⟩ (by repeat (first | exact Sub.nil | refine Sub.cons rfl ?_)) ?_
  rintro m _ _ X1 ⟨i, rfl, hi, hX1, heq, rfl, rfl⟩
  rcases Nat.lt_or_ge i l.length with hil | hil
  · obtain ⟨x, hx⟩ : ∃ x, l[i]? = some x := ⟨_, List.getElem?_eq_getElem hil⟩
    obtain ⟨y, hy⟩ : ∃ y, l'[i]? = some y := ⟨_, List.getElem?_eq_getElem (by omega)⟩
    obtain ⟨b, pre, rfl, hB⟩ := h.blk (by omega)
    obtain ⟨b', pre', rfl, hB'⟩ := h'.blk (by omega)
    refine T.seq ?_
    refine T.region ?_
    first | refine SL.y (op_lssT rfl rfl (by omega)) rfl rfl ?_ | refine SL.y (op_lssF rfl rfl (by omega)) rfl rfl ?_ | refine SL.y (op_lss rfl rfl) rfl rfl ?_
    refine SL.nil ?_
    refine T.seq ?_
    refine T.condT rfl ?_
    refine T.skip ?_
    refine T.seq ?_
    refine T.block ?_
    refine T.seq ?_
    refine T.region ?_
    refine SL.y (op_move rfl) rfl rfl ?_
    refine SL.y (op_assign rfl) rfl rfl ?_
    refine SL.nil ?_
    refine T.seq ?_
    refine T.draw (by kernel_rfl) 9 [.t 0, .t 1, .t 2, .t 3, .t 4, .t 5, .t 6, .t 7, .t 8] (by kernel_rfl) ?_
    refine SD.take rfl panicBody (op_move rfl) rfl rfl ?_
    refine SD.take rfl panicBody (op_move rfl) rfl rfl ?_
    first | refine SD.take rfl panicBody (op_indexN Tryd.underlying24 ty9 rfl rfl (by omega)) rfl rfl ?_ | refine SD.take rfl panicBody (op_index Tryd.underlying24 ty9 rfl rfl (by omega) (by omega)) rfl rfl ?_
    refine SD.take rfl panicBody (op_loadX ty9 rfl (hB.mono hX1) (str_read hx (by omega))) rfl rfl ?_
    refine SD.take rfl panicBody (op_move rfl) rfl rfl ?_
    refine SD.take rfl panicBody (op_move rfl) rfl rfl ?_
    first | refine SD.take rfl panicBody (op_indexN Tryd.underlying24 ty9 rfl rfl (by omega)) rfl rfl ?_ | refine SD.take rfl panicBody (op_index Tryd.underlying24 ty9 rfl rfl (by omega) (by omega)) rfl rfl ?_
    refine SD.take rfl panicBody (op_loadX ty9 rfl (hB'.mono hX1) (str_read hy (by omega))) rfl rfl ?_
    refine SD.take rfl panicBody (op_neqStrD rfl rfl) rfl rfl ?_
    refine SD.nil ?_
    show SL _ _ _ _ _ _ _ [] _ _ _
    refine SL.nil ?_
    by_cases hxy : x = y
    · rw [decide_eq_true hxy]
      refine T.condF rfl ?_
      refine T.skip ?_
      refine T.blk ?_
      refine T.region ?_
      first | refine SL.y (op_addN (q := 1) rfl rfl (by omega)) rfl rfl ?_ | refine SL.y (op_add rfl rfl (by omega) (by omega)) rfl rfl ?_ | refine SL.y (op_addW rfl rfl) rfl rfl ?_
      refine SL.y (op_move rfl) rfl rfl ?_
      refine SL.nil ?_
      exact T.backW (l.length - (i + 1)) (by omega) ⟨i + 1, rfl, by omega, hX1, (take_eq hx hy heq).2 hxy, rfl, rfl⟩ (by repeat (first | exact Sub.nil | refine Sub.cons rfl ?_))
    · rw [decide_eq_false hxy]
      refine T.condT rfl ?_
      refine T.seq ?_
      refine T.region ?_
      refine SL.y (op_assign rfl) rfl rfl ?_
      refine SL.nil ?_
      refine T.ret1 rfl (ResIs.tmp rfl) ?_
      rw [decide_eq_false (ne_at hx hy hxy)]
  · obtain rfl : i = l.length := by omega
    rw [List.take_length, hlen, List.take_length] at heq
    refine T.seq ?_
    refine T.region ?_
    first | refine SL.y (op_lssT rfl rfl (by omega)) rfl rfl ?_ | refine SL.y (op_lssF rfl rfl (by omega)) rfl rfl ?_ | refine SL.y (op_lss rfl rfl) rfl rfl ?_
    refine SL.nil ?_
    refine T.seq ?_
    refine T.condF rfl ?_
    refine T.exit (T.exitCode (T.exitCut (T.exitBlk ?_)))
    refine T.seq ?_
    refine T.region ?_
    refine SL.y (op_assign rfl) rfl rfl ?_
    refine SL.nil ?_
    refine T.ret1 rfl (ResIs.tmp rfl) ?_
    rw [decide_eq_true heq]
theorem eqFn_spec {X : PMap} {va vb : Value} {al bl : List Ex} {rows rows' : List Row4} (ha : RowR rc4 X va rows) (hb : RowR rc4 X vb rows') (hla : rows.length = al.length) (hlb : rows'.length = bl.length) (hl : al.length < 1000000000)
    (hra : ∀ (i : Nat) (a : Ex) (r : Row4), al[i]? = some a → rows[i]? = some r → ExR .u8 X a r) (hrb : ∀ (i : Nat) (a : Ex) (r : Row4), bl[i]? = some a → rows'[i]? = some r → ExR .u8 X a r)
    (hf : ∀ {X' : PMap} {a b : Ex} {r r' : Row4}, a ∈ al → ExR .u8 X' a r → ExR .u8 X' b r' → Spec Tryd.prog 33 [.agg #[r.1, r.2.1, r.2.2.1, r.2.2.2], .agg #[r'.1, r'.2.1, r'.2.2.1, r'.2.2.2]] X' fun u _ => u = .bool (decide (a = b))) :
    Spec Tryd.prog 59 [va, vb, .func (.func 33) #[] #[]] X fun u _ => u = .bool (decide (al = bl)) := by
  obtain ⟨A, cp, rfl⟩ := ha.form
  obtain ⟨A', cp', rfl⟩ := hb.form
  by_cases hlen : al.length = bl.length
  case neg =>
    refine Spec.enter Tryd.func59 rfl Tryd.ntmps59 rfl ?_
    intro w0 hw0
    refine T.seq ?_
    refine T.region ?_
    refine SL.y (op_assign rfl) rfl rfl ?_
    refine SL.nil ?_
    refine T.seq ?_
    refine T.seq ?_
    refine T.region ?_
    refine SL.y (op_move rfl) rfl rfl ?_
    refine SL.y (op_lenS Tryd.underlying32 rfl) rfl rfl ?_
    refine SL.y (op_move rfl) rfl rfl ?_
    refine SL.y (op_lenS Tryd.underlying32 rfl) rfl rfl ?_
    first | refine SL.y (op_neqT rfl rfl (by omega)) rfl rfl ?_ | refine SL.y (op_neqF rfl rfl (by omega)) rfl rfl ?_ | refine SL.y (op_neq rfl rfl) rfl rfl ?_
    refine SL.nil ?_
    refine T.condT rfl ?_
    refine T.seq ?_
    refine T.region ?_
    refine SL.y (op_assign rfl) rfl rfl ?_
    refine SL.nil ?_
    refine T.ret1 rfl (ResIs.tmp rfl) ?_
    rw [decide_eq_false fun e => hlen (by rw [e])]
  refine Spec.enter Tryd.func59 rfl Tryd.ntmps59 rfl ?_
  intro w0 hw0
  refine T.seq ?_
  refine T.region ?_
  refine SL.y (op_assign rfl) rfl rfl ?_
  refine SL.nil ?_
  refine T.seq ?_
  refine T.seq ?_
  refine T.region ?_
  refine SL.y (op_move rfl) rfl rfl ?_
  refine SL.y (op_lenS Tryd.underlying32 rfl) rfl rfl ?_
  refine SL.y (op_move rfl) rfl rfl ?_
  refine SL.y (op_lenS Tryd.underlying32 rfl) rfl rfl ?_
  first | refine SL.y (op_neqT rfl rfl (by omega)) rfl rfl ?_ | refine SL.y (op_neqF rfl rfl (by omega)) rfl rfl ?_ | refine SL.y (op_neq rfl rfl) rfl rfl ?_
  refine SL.nil ?_
  refine T.condF rfl ?_
  refine T.skip ?_
  refine T.seq ?_
  refine T.seq ?_
  refine T.region ?_
  refine SL.y (op_move rfl) rfl rfl ?_
  refine SL.y (op_lenS Tryd.underlying32 rfl) rfl rfl ?_
  refine SL.y (op_move (v := .int .i64 ((0 : Nat) : Int)) rfl) rfl rfl ?_
  refine SL.nil ?_
  refine T.block ?_
  refine T.loopW (fun m env own X' => ∃ i : Nat, m = rows.length - i ∧ i ≤ rows.length ∧ X.le X' ∧ al.take i = bl.take i ∧ env = [(1, .slice A' rows'.length cp'), (2, .func (.func 33) #[] #[]), (15, .slice A rows.length cp), (16, .int .i64 (rows.length : Int)), (17, .int .i64 (i : Int))] ∧ own = []) rows.length ⟨0, by simp, by omega, PMap.le_refl _, by simp, rfl, rfl⟩ (by repeat (first | exact Sub.nil | refine Sub.cons rfl ?_)) ?_
  rintro m _ _ X1 ⟨i, rfl, hi, hX1, heq, rfl, rfl⟩
  rcases Nat.lt_or_ge i rows.length with hil | hil
  · obtain ⟨r, hr⟩ : ∃ r, rows[i]? = some r := ⟨_, List.getElem?_eq_getElem hil⟩
    obtain ⟨r', hr'⟩ : ∃ r, rows'[i]? = some r := ⟨_, List.getElem?_eq_getElem (by omega)⟩
    obtain ⟨x, hx⟩ : ∃ x, al[i]? = some x := ⟨_, List.getElem?_eq_getElem (by omega)⟩
    obtain ⟨y, hy⟩ : ∃ y, bl[i]? = some y := ⟨_, List.getElem?_eq_getElem (by omega)⟩
    have h1 := (hra i x r hx hr).mono hX1
    have h2 := (hrb i y r' hy hr').mono hX1
    obtain ⟨b, pre, rfl, hB⟩ := ha.blk (by omega)
    obtain ⟨b', pre', rfl, hB'⟩ := hb.blk (by omega)
    have hcall := hf (List.mem_of_getElem? hx) h1 h2
    obtain ⟨_, _, _, _, _, _, _, _, rfl⟩ := h1.form
    obtain ⟨_, _, _, _, _, _, _, _, rfl⟩ := h2.form
    try simp only at hcall
    refine T.seq ?_
    refine T.region ?_
    first | refine SL.y (op_lssT rfl rfl (by omega)) rfl rfl ?_ | refine SL.y (op_lssF rfl rfl (by omega)) rfl rfl ?_ | refine SL.y (op_lss rfl rfl) rfl rfl ?_
    refine SL.nil ?_
    refine T.seq ?_
    refine T.condT rfl ?_
    refine T.skip ?_
    refine T.seq ?_
    refine T.block ?_
    refine T.seq ?_
    refine T.region ?_
    refine SL.y (op_move rfl) rfl rfl ?_
    first | refine SL.y (op_indexN Tryd.underlying32 ty34 rfl rfl (by omega)) rfl rfl ?_ | refine SL.y (op_index Tryd.underlying32 ty34 rfl rfl (by omega) (by omega)) rfl rfl ?_
    refine SL.y (op_loadX ty34 rfl (hB.mono hX1) (row_read rc4_len hr (by omega))) rfl rfl ?_
    refine SL.x (op_alloc z34) rfl rfl ?_
    rintro _ _ _ ⟨B8, rfl, rfl, rfl⟩
    refine SL.y (op_assign rfl) rfl rfl ?_
    refine SL.x (op_store ty34 rfl rfl (by repeat constructor) rfl rfl rfl) rfl rfl ?_
    rintro _ _ _ ⟨rfl, rfl⟩
    refine SL.nil ?_
    refine T.seq ?_
    refine T.region ?_
    refine SL.y (op_move rfl) rfl rfl ?_
    refine SL.y (op_move rfl) rfl rfl ?_
    first | refine SL.y (op_indexN Tryd.underlying32 ty34 rfl rfl (by omega)) rfl rfl ?_ | refine SL.y (op_index Tryd.underlying32 ty34 rfl rfl (by omega) (by omega)) rfl rfl ?_
    refine SL.y (op_loadX ty34 rfl (hB'.mono hX1) (row_read rc4_len hr' (by omega))) rfl rfl ?_
    refine SL.x (op_alloc z34) rfl rfl ?_
    rintro _ _ _ ⟨B9, rfl, rfl, rfl⟩
    refine SL.x (op_store ty34 rfl rfl (by repeat constructor) rfl rfl rfl) rfl rfl ?_
    rintro _ _ _ ⟨rfl, rfl⟩
    refine SL.nil ?_
    refine T.seq ?_
    refine T.region ?_
    refine SL.y (op_move rfl) rfl rfl ?_
    first | refine SL.y (op_load ty34 rfl (by repeat constructor) rfl) rfl rfl ?_ | refine SL.y (op_loadX ty34 rfl (by assumption) rfl) rfl rfl ?_
    first | refine SL.y (op_load ty34 rfl (by repeat constructor) rfl) rfl rfl ?_ | refine SL.y (op_loadX ty34 rfl (by assumption) rfl) rfl rfl ?_
    refine SL.x (op_call en33 rfl (vs := [_, _]) rfl hcall) rfl rfl ?_
    rintro _ _ X2 ⟨rfl, hX2, rfl⟩
    refine SL.y (op_not rfl) rfl rfl ?_
    refine SL.nil ?_
    by_cases hxy : x = y
    · rw [decide_eq_true hxy]
      refine T.condF rfl ?_
      refine T.skip ?_
      refine T.blk ?_
      refine T.region ?_
      first | refine SL.y (op_addN (q := 1) rfl rfl (by omega)) rfl rfl ?_ | refine SL.y (op_add rfl rfl (by omega) (by omega)) rfl rfl ?_ | refine SL.y (op_addW rfl rfl) rfl rfl ?_
      refine SL.y (op_move rfl) rfl rfl ?_
      refine SL.nil ?_
      refine T.drop B8 (by repeat constructor) ?_
      refine T.drop B9 (by repeat constructor) ?_
      exact T.backW (rows.length - (i + 1)) (by omega) ⟨i + 1, rfl, by omega, hX1.trans' hX2, (take_eq hx hy heq).2 hxy, rfl, rfl⟩ (by repeat (first | exact Sub.nil | refine Sub.cons rfl ?_))
    · rw [decide_eq_false hxy]
      refine T.condT rfl ?_
      refine T.seq ?_
      refine T.region ?_
      refine SL.y (op_assign rfl) rfl rfl ?_
      refine SL.nil ?_
      refine T.ret1 rfl (ResIs.tmp rfl) ?_
      rw [decide_eq_false (ne_at hx hy hxy)]
  · obtain rfl : i = rows.length := by omega
    rw [List.take_of_length_le (by omega), List.take_of_length_le (by omega)] at heq
    refine T.seq ?_
    refine T.region ?_
    first | refine SL.y (op_lssT rfl rfl (by omega)) rfl rfl ?_ | refine SL.y (op_lssF rfl rfl (by omega)) rfl rfl ?_ | refine SL.y (op_lss rfl rfl) rfl rfl ?_
    refine SL.nil ?_
    refine T.seq ?_
    refine T.condF rfl ?_
    refine T.exit (T.exitCode (T.exitCut (T.exitBlk ?_)))
    refine T.seq ?_
    refine T.region ?_
    refine SL.y (op_assign rfl) rfl rfl ?_
    refine SL.nil ?_
    refine T.ret1 rfl (ResIs.tmp rfl) ?_
    rw [decide_eq_true heq]
theorem eqE_spec (N : Nat) : ∀ {X : PMap} {a b : Ex} {r r' : Row4}, wtE a ≤ N → N < 100000000 → ExR .u8 X a r → ExR .u8 X b r' → Spec Tryd.prog 33 [.agg #[r.1, r.2.1, r.2.2.1, r.2.2.2], .agg #[r'.1, r'.2.1, r'.2.2.1, r'.2.2.2]] X fun u _ => u = .bool (decide (a = b)) := by
  induction N with
  | zero => intro X a b r r' h; cases a; rw [wtE] at h; omega
  | succ N ih =>
    intro X a b r r' hN hB h h'
    cases h with
    | @mk op n ns al vn va rows hn ha hl hr =>
    cases h' with
    | @mk op' n' ns' al' vn' va' rows' hn' ha' hl' hr' =>
    obtain ⟨Aa, ca, rfl⟩ := ha.form
    obtain ⟨An, cn, rfl⟩ := hn.form
    obtain ⟨Aa', ca', rfl⟩ := ha'.form
    obtain ⟨An', cn', rfl⟩ := hn'.form
    have hlen := wtL_len al
    have hnl := wtS_len ns
    rw [wtE] at hN
    by_cases h1 : op = op'
    case neg =>
      refine Spec.enter Tryd.func33 rfl Tryd.ntmps33 rfl ?_
      intro w0 hw0
      refine T.seq ?_
      refine T.region ?_
      refine SL.x (op_box rfl) rfl rfl ?_
      rintro _ _ _ ⟨B2, rfl, rfl, rfl⟩
      refine SL.x (op_box rfl) rfl rfl ?_
      rintro _ _ _ ⟨B3, rfl, rfl, rfl⟩
      refine SL.y (op_assign rfl) rfl rfl ?_
      refine SL.nil ?_
      refine T.seq ?_
      refine T.region ?_
      refine SL.y (op_fieldAddr fa34_0 rfl) rfl rfl ?_
      first | refine SL.y (op_load ty31 rfl (by repeat constructor) rfl) rfl rfl ?_ | refine SL.y (op_loadX ty31 rfl (by assumption) rfl) rfl rfl ?_
      refine SL.y (op_fieldAddr fa34_0 rfl) rfl rfl ?_
      first | refine SL.y (op_load ty31 rfl (by repeat constructor) rfl) rfl rfl ?_ | refine SL.y (op_loadX ty31 rfl (by assumption) rfl) rfl rfl ?_
      first | refine SL.y (op_eqlT rfl rfl (by omega)) rfl rfl ?_ | refine SL.y (op_eqlF rfl rfl (by omega)) rfl rfl ?_ | refine SL.y (op_eql rfl rfl) rfl rfl ?_
      refine SL.y (op_move rfl) rfl rfl ?_
      first | refine SL.skip rfl rfl ?_ | refine SL.y (op_fieldAddr fa34_1 rfl) rfl rfl ?_
      first | refine SL.skip rfl rfl ?_ | refine SL.y (op_load ty3 rfl (by repeat constructor) rfl) rfl rfl ?_ | refine SL.y (op_loadX ty3 rfl (by assumption) rfl) rfl rfl ?_
      first | refine SL.skip rfl rfl ?_ | refine SL.y (op_fieldAddr fa34_1 rfl) rfl rfl ?_
      first | refine SL.skip rfl rfl ?_ | refine SL.y (op_load ty3 rfl (by repeat constructor) rfl) rfl rfl ?_ | refine SL.y (op_loadX ty3 rfl (by assumption) rfl) rfl rfl ?_
      first | refine SL.skip rfl rfl ?_ | refine SL.y (op_eqlT rfl rfl (by omega)) rfl rfl ?_ | refine SL.y (op_eqlF rfl rfl (by omega)) rfl rfl ?_ | refine SL.y (op_eql rfl rfl) rfl rfl ?_
      first | refine SL.y (op_pickT rfl rfl) rfl rfl ?_ | refine SL.y (op_pickF rfl rfl) rfl rfl ?_ | refine SL.y (op_pickB rfl rfl rfl) rfl rfl ?_
      refine SL.y (op_move rfl) rfl rfl ?_
      first | refine SL.skip rfl rfl ?_ | refine SL.y (op_fieldAddr fa34_2 rfl) rfl rfl ?_
      first | refine SL.skip rfl rfl ?_ | refine SL.y (op_load ty24 rfl (by repeat constructor) rfl) rfl rfl ?_ | refine SL.y (op_loadX ty24 rfl (by assumption) rfl) rfl rfl ?_
      first | refine SL.skip rfl rfl ?_ | refine SL.y (op_fieldAddr fa34_2 rfl) rfl rfl ?_
      first | refine SL.skip rfl rfl ?_ | refine SL.y (op_load ty24 rfl (by repeat constructor) rfl) rfl rfl ?_ | refine SL.y (op_loadX ty24 rfl (by assumption) rfl) rfl rfl ?_
      refine SL.skip rfl rfl ?_
      first | refine SL.y (op_pickT rfl rfl) rfl rfl ?_ | refine SL.y (op_pickF rfl rfl) rfl rfl ?_ | refine SL.y (op_pickB rfl rfl rfl) rfl rfl ?_
      refine SL.y (op_move rfl) rfl rfl ?_
      first | refine SL.skip rfl rfl ?_ | refine SL.y (op_fieldAddr fa34_3 rfl) rfl rfl ?_
      first | refine SL.skip rfl rfl ?_ | refine SL.y (op_load ty32 rfl (by repeat constructor) rfl) rfl rfl ?_ | refine SL.y (op_loadX ty32 rfl (by assumption) rfl) rfl rfl ?_
      first | refine SL.skip rfl rfl ?_ | refine SL.y (op_fieldAddr fa34_3 rfl) rfl rfl ?_
      first | refine SL.skip rfl rfl ?_ | refine SL.y (op_load ty32 rfl (by repeat constructor) rfl) rfl rfl ?_ | refine SL.y (op_loadX ty32 rfl (by assumption) rfl) rfl rfl ?_
      refine SL.skip rfl rfl ?_
      first | refine SL.y (op_pickT rfl rfl) rfl rfl ?_ | refine SL.y (op_pickF rfl rfl) rfl rfl ?_ | refine SL.y (op_pickB rfl rfl rfl) rfl rfl ?_
      refine SL.y (op_assign rfl) rfl rfl ?_
      refine SL.nil ?_
      refine T.ret1 rfl (ResIs.tmp rfl) ?_
      rw [decide_eq_false fun e => h1 (ex_eq.1 e).1]
    by_cases h2 : n = n'
    case neg =>
      refine Spec.enter Tryd.func33 rfl Tryd.ntmps33 rfl ?_
      intro w0 hw0
      refine T.seq ?_
      refine T.region ?_
      refine SL.x (op_box rfl) rfl rfl ?_
      rintro _ _ _ ⟨B2, rfl, rfl, rfl⟩
      refine SL.x (op_box rfl) rfl rfl ?_
      rintro _ _ _ ⟨B3, rfl, rfl, rfl⟩
      refine SL.y (op_assign rfl) rfl rfl ?_
      refine SL.nil ?_
      refine T.seq ?_
      refine T.region ?_
      refine SL.y (op_fieldAddr fa34_0 rfl) rfl rfl ?_
      first | refine SL.y (op_load ty31 rfl (by repeat constructor) rfl) rfl rfl ?_ | refine SL.y (op_loadX ty31 rfl (by assumption) rfl) rfl rfl ?_
      refine SL.y (op_fieldAddr fa34_0 rfl) rfl rfl ?_
      first | refine SL.y (op_load ty31 rfl (by repeat constructor) rfl) rfl rfl ?_ | refine SL.y (op_loadX ty31 rfl (by assumption) rfl) rfl rfl ?_
      first | refine SL.y (op_eqlT rfl rfl (by omega)) rfl rfl ?_ | refine SL.y (op_eqlF rfl rfl (by omega)) rfl rfl ?_ | refine SL.y (op_eql rfl rfl) rfl rfl ?_
      refine SL.y (op_move rfl) rfl rfl ?_
      first | refine SL.skip rfl rfl ?_ | refine SL.y (op_fieldAddr fa34_1 rfl) rfl rfl ?_
      first | refine SL.skip rfl rfl ?_ | refine SL.y (op_load ty3 rfl (by repeat constructor) rfl) rfl rfl ?_ | refine SL.y (op_loadX ty3 rfl (by assumption) rfl) rfl rfl ?_
      first | refine SL.skip rfl rfl ?_ | refine SL.y (op_fieldAddr fa34_1 rfl) rfl rfl ?_
      first | refine SL.skip rfl rfl ?_ | refine SL.y (op_load ty3 rfl (by repeat constructor) rfl) rfl rfl ?_ | refine SL.y (op_loadX ty3 rfl (by assumption) rfl) rfl rfl ?_
      first | refine SL.skip rfl rfl ?_ | refine SL.y (op_eqlT rfl rfl (by omega)) rfl rfl ?_ | refine SL.y (op_eqlF rfl rfl (by omega)) rfl rfl ?_ | refine SL.y (op_eql rfl rfl) rfl rfl ?_
      first | refine SL.y (op_pickT rfl rfl) rfl rfl ?_ | refine SL.y (op_pickF rfl rfl) rfl rfl ?_ | refine SL.y (op_pickB rfl rfl rfl) rfl rfl ?_
      refine SL.y (op_move rfl) rfl rfl ?_
      first | refine SL.skip rfl rfl ?_ | refine SL.y (op_fieldAddr fa34_2 rfl) rfl rfl ?_
      first | refine SL.skip rfl rfl ?_ | refine SL.y (op_load ty24 rfl (by repeat constructor) rfl) rfl rfl ?_ | refine SL.y (op_loadX ty24 rfl (by assumption) rfl) rfl rfl ?_
      first | refine SL.skip rfl rfl ?_ | refine SL.y (op_fieldAddr fa34_2 rfl) rfl rfl ?_
      first | refine SL.skip rfl rfl ?_ | refine SL.y (op_load ty24 rfl (by repeat constructor) rfl) rfl rfl ?_ | refine SL.y (op_loadX ty24 rfl (by assumption) rfl) rfl rfl ?_
      refine SL.skip rfl rfl ?_
      first | refine SL.y (op_pickT rfl rfl) rfl rfl ?_ | refine SL.y (op_pickF rfl rfl) rfl rfl ?_ | refine SL.y (op_pickB rfl rfl rfl) rfl rfl ?_
      refine SL.y (op_move rfl) rfl rfl ?_
      first | refine SL.skip rfl rfl ?_ | refine SL.y (op_fieldAddr fa34_3 rfl) rfl rfl ?_
      first | refine SL.skip rfl rfl ?_ | refine SL.y (op_load ty32 rfl (by repeat constructor) rfl) rfl rfl ?_ | refine SL.y (op_loadX ty32 rfl (by assumption) rfl) rfl rfl ?_
      first | refine SL.skip rfl rfl ?_ | refine SL.y (op_fieldAddr fa34_3 rfl) rfl rfl ?_
      first | refine SL.skip rfl rfl ?_ | refine SL.y (op_load ty32 rfl (by repeat constructor) rfl) rfl rfl ?_ | refine SL.y (op_loadX ty32 rfl (by assumption) rfl) rfl rfl ?_
      refine SL.skip rfl rfl ?_
      first | refine SL.y (op_pickT rfl rfl) rfl rfl ?_ | refine SL.y (op_pickF rfl rfl) rfl rfl ?_ | refine SL.y (op_pickB rfl rfl rfl) rfl rfl ?_
      refine SL.y (op_assign rfl) rfl rfl ?_
      refine SL.nil ?_
      refine T.ret1 rfl (ResIs.tmp rfl) ?_
      rw [decide_eq_false fun e => h2 (ex_eq.1 e).2.1]
    by_cases h3 : ns = ns'
    case neg =>
      refine Spec.enter Tryd.func33 rfl Tryd.ntmps33 rfl ?_
      intro w0 hw0
      refine T.seq ?_
      refine T.region ?_
      refine SL.x (op_box rfl) rfl rfl ?_
      rintro _ _ _ ⟨B2, rfl, rfl, rfl⟩
      refine SL.x (op_box rfl) rfl rfl ?_
      rintro _ _ _ ⟨B3, rfl, rfl, rfl⟩
      refine SL.y (op_assign rfl) rfl rfl ?_
      refine SL.nil ?_
      refine T.seq ?_
      refine T.region ?_
      refine SL.y (op_fieldAddr fa34_0 rfl) rfl rfl ?_
      first | refine SL.y (op_load ty31 rfl (by repeat constructor) rfl) rfl rfl ?_ | refine SL.y (op_loadX ty31 rfl (by assumption) rfl) rfl rfl ?_
      refine SL.y (op_fieldAddr fa34_0 rfl) rfl rfl ?_
      first | refine SL.y (op_load ty31 rfl (by repeat constructor) rfl) rfl rfl ?_ | refine SL.y (op_loadX ty31 rfl (by assumption) rfl) rfl rfl ?_
      first | refine SL.y (op_eqlT rfl rfl (by omega)) rfl rfl ?_ | refine SL.y (op_eqlF rfl rfl (by omega)) rfl rfl ?_ | refine SL.y (op_eql rfl rfl) rfl rfl ?_
      refine SL.y (op_move rfl) rfl rfl ?_
      first | refine SL.skip rfl rfl ?_ | refine SL.y (op_fieldAddr fa34_1 rfl) rfl rfl ?_
      first | refine SL.skip rfl rfl ?_ | refine SL.y (op_load ty3 rfl (by repeat constructor) rfl) rfl rfl ?_ | refine SL.y (op_loadX ty3 rfl (by assumption) rfl) rfl rfl ?_
      first | refine SL.skip rfl rfl ?_ | refine SL.y (op_fieldAddr fa34_1 rfl) rfl rfl ?_
      first | refine SL.skip rfl rfl ?_ | refine SL.y (op_load ty3 rfl (by repeat constructor) rfl) rfl rfl ?_ | refine SL.y (op_loadX ty3 rfl (by assumption) rfl) rfl rfl ?_
      first | refine SL.skip rfl rfl ?_ | refine SL.y (op_eqlT rfl rfl (by omega)) rfl rfl ?_ | refine SL.y (op_eqlF rfl rfl (by omega)) rfl rfl ?_ | refine SL.y (op_eql rfl rfl) rfl rfl ?_
      first | refine SL.y (op_pickT rfl rfl) rfl rfl ?_ | refine SL.y (op_pickF rfl rfl) rfl rfl ?_ | refine SL.y (op_pickB rfl rfl rfl) rfl rfl ?_
      refine SL.y (op_move rfl) rfl rfl ?_
      first | refine SL.skip rfl rfl ?_ | refine SL.y (op_fieldAddr fa34_2 rfl) rfl rfl ?_
      first | refine SL.skip rfl rfl ?_ | refine SL.y (op_load ty24 rfl (by repeat constructor) rfl) rfl rfl ?_ | refine SL.y (op_loadX ty24 rfl (by assumption) rfl) rfl rfl ?_
      first | refine SL.skip rfl rfl ?_ | refine SL.y (op_fieldAddr fa34_2 rfl) rfl rfl ?_
      first | refine SL.skip rfl rfl ?_ | refine SL.y (op_load ty24 rfl (by repeat constructor) rfl) rfl rfl ?_ | refine SL.y (op_loadX ty24 rfl (by assumption) rfl) rfl rfl ?_
      refine SL.x (op_callF en58 (vs := [_, _]) rfl (eqStrs_spec hn hn' (by omega))) rfl rfl ?_
      rintro _ _ X1 ⟨rfl, hX1, rfl⟩
      rw [decide_eq_false h3]
      first | refine SL.y (op_pickT rfl rfl) rfl rfl ?_ | refine SL.y (op_pickF rfl rfl) rfl rfl ?_ | refine SL.y (op_pickB rfl rfl rfl) rfl rfl ?_
      refine SL.y (op_move rfl) rfl rfl ?_
      first | refine SL.skip rfl rfl ?_ | refine SL.y (op_fieldAddr fa34_3 rfl) rfl rfl ?_
      first | refine SL.skip rfl rfl ?_ | refine SL.y (op_load ty32 rfl (by repeat constructor) rfl) rfl rfl ?_ | refine SL.y (op_loadX ty32 rfl (by assumption) rfl) rfl rfl ?_
      first | refine SL.skip rfl rfl ?_ | refine SL.y (op_fieldAddr fa34_3 rfl) rfl rfl ?_
      first | refine SL.skip rfl rfl ?_ | refine SL.y (op_load ty32 rfl (by repeat constructor) rfl) rfl rfl ?_ | refine SL.y (op_loadX ty32 rfl (by assumption) rfl) rfl rfl ?_
      refine SL.skip rfl rfl ?_
      first | refine SL.y (op_pickT rfl rfl) rfl rfl ?_ | refine SL.y (op_pickF rfl rfl) rfl rfl ?_ | refine SL.y (op_pickB rfl rfl rfl) rfl rfl ?_
      refine SL.y (op_assign rfl) rfl rfl ?_
      refine SL.nil ?_
      refine T.ret1 rfl (ResIs.tmp rfl) ?_
      rw [decide_eq_false fun e => h3 (ex_eq.1 e).2.2.1]
    refine Spec.enter Tryd.func33 rfl Tryd.ntmps33 rfl ?_
    intro w0 hw0
    refine T.seq ?_
    refine T.region ?_
    refine SL.x (op_box rfl) rfl rfl ?_
    rintro _ _ _ ⟨B2, rfl, rfl, rfl⟩
    refine SL.x (op_box rfl) rfl rfl ?_
    rintro _ _ _ ⟨B3, rfl, rfl, rfl⟩
    refine SL.y (op_assign rfl) rfl rfl ?_
    refine SL.nil ?_
    refine T.seq ?_
    refine T.region ?_
    refine SL.y (op_fieldAddr fa34_0 rfl) rfl rfl ?_
    first | refine SL.y (op_load ty31 rfl (by repeat constructor) rfl) rfl rfl ?_ | refine SL.y (op_loadX ty31 rfl (by assumption) rfl) rfl rfl ?_
    refine SL.y (op_fieldAddr fa34_0 rfl) rfl rfl ?_
    first | refine SL.y (op_load ty31 rfl (by repeat constructor) rfl) rfl rfl ?_ | refine SL.y (op_loadX ty31 rfl (by assumption) rfl) rfl rfl ?_
    first | refine SL.y (op_eqlT rfl rfl (by omega)) rfl rfl ?_ | refine SL.y (op_eqlF rfl rfl (by omega)) rfl rfl ?_ | refine SL.y (op_eql rfl rfl) rfl rfl ?_
    refine SL.y (op_move rfl) rfl rfl ?_
    first | refine SL.skip rfl rfl ?_ | refine SL.y (op_fieldAddr fa34_1 rfl) rfl rfl ?_
    first | refine SL.skip rfl rfl ?_ | refine SL.y (op_load ty3 rfl (by repeat constructor) rfl) rfl rfl ?_ | refine SL.y (op_loadX ty3 rfl (by assumption) rfl) rfl rfl ?_
    first | refine SL.skip rfl rfl ?_ | refine SL.y (op_fieldAddr fa34_1 rfl) rfl rfl ?_
    first | refine SL.skip rfl rfl ?_ | refine SL.y (op_load ty3 rfl (by repeat constructor) rfl) rfl rfl ?_ | refine SL.y (op_loadX ty3 rfl (by assumption) rfl) rfl rfl ?_
    first | refine SL.skip rfl rfl ?_ | refine SL.y (op_eqlT rfl rfl (by omega)) rfl rfl ?_ | refine SL.y (op_eqlF rfl rfl (by omega)) rfl rfl ?_ | refine SL.y (op_eql rfl rfl) rfl rfl ?_
    first | refine SL.y (op_pickT rfl rfl) rfl rfl ?_ | refine SL.y (op_pickF rfl rfl) rfl rfl ?_ | refine SL.y (op_pickB rfl rfl rfl) rfl rfl ?_
    refine SL.y (op_move rfl) rfl rfl ?_
    first | refine SL.skip rfl rfl ?_ | refine SL.y (op_fieldAddr fa34_2 rfl) rfl rfl ?_
    first | refine SL.skip rfl rfl ?_ | refine SL.y (op_load ty24 rfl (by repeat constructor) rfl) rfl rfl ?_ | refine SL.y (op_loadX ty24 rfl (by assumption) rfl) rfl rfl ?_
    first | refine SL.skip rfl rfl ?_ | refine SL.y (op_fieldAddr fa34_2 rfl) rfl rfl ?_
    first | refine SL.skip rfl rfl ?_ | refine SL.y (op_load ty24 rfl (by repeat constructor) rfl) rfl rfl ?_ | refine SL.y (op_loadX ty24 rfl (by assumption) rfl) rfl rfl ?_
    refine SL.x (op_callF en58 (vs := [_, _]) rfl (eqStrs_spec hn hn' (by omega))) rfl rfl ?_
    rintro _ _ X1 ⟨rfl, hX1, rfl⟩
    rw [decide_eq_true h3]
    first | refine SL.y (op_pickT rfl rfl) rfl rfl ?_ | refine SL.y (op_pickF rfl rfl) rfl rfl ?_ | refine SL.y (op_pickB rfl rfl rfl) rfl rfl ?_
    refine SL.y (op_move rfl) rfl rfl ?_
    first | refine SL.skip rfl rfl ?_ | refine SL.y (op_fieldAddr fa34_3 rfl) rfl rfl ?_
    first | refine SL.skip rfl rfl ?_ | refine SL.y (op_load ty32 rfl (by repeat constructor) rfl) rfl rfl ?_ | refine SL.y (op_loadX ty32 rfl (by assumption) rfl) rfl rfl ?_
    first | refine SL.skip rfl rfl ?_ | refine SL.y (op_fieldAddr fa34_3 rfl) rfl rfl ?_
    first | refine SL.skip rfl rfl ?_ | refine SL.y (op_load ty32 rfl (by repeat constructor) rfl) rfl rfl ?_ | refine SL.y (op_loadX ty32 rfl (by assumption) rfl) rfl rfl ?_
    refine SL.x (op_callF en59 (vs := [_, _, _]) rfl (eqFn_spec (ha.mono hX1) (ha'.mono hX1) hl hl' (by omega) (fun i a r x y => (hr i a r x y).mono hX1) (fun i a r x y => (hr' i a r x y).mono hX1) (fun hm h1 h2 => ih (by have := wtL_mem hm; omega) (by omega) h1 h2))) rfl rfl ?_
    rintro _ _ X2 ⟨rfl, hX2, rfl⟩
    first | refine SL.y (op_pickT rfl rfl) rfl rfl ?_ | refine SL.y (op_pickF rfl rfl) rfl rfl ?_ | refine SL.y (op_pickB rfl rfl rfl) rfl rfl ?_
    refine SL.y (op_assign rfl) rfl rfl ?_
    refine SL.nil ?_
    refine T.ret1 rfl (ResIs.tmp rfl) ?_
    congr 1
    exact decide_eq_decide.2 (by rw [ex_eq]; simp [h1, h2, h3])
theorem reqE_spec (N : Nat) : ∀ {X : PMap} {a b : Ex} {r r' : Row4}, wtE a ≤ N → N < 100000000 → ExR .i64 X a r → ExR .i64 X b r' → Spec Tryd.prog 28 [.agg #[r.1, r.2.1, r.2.2.1, r.2.2.2], .agg #[r'.1, r'.2.1, r'.2.2.1, r'.2.2.2]] X fun u _ => u = .bool (decide (a = b)) := by
  induction N with
  | zero => intro X a b r r' h; cases a; rw [wtE] at h; omega
  | succ N ih =>
    intro X a b r r' hN hB h h'
    cases h with
    | @mk op n ns al vn va rows hn ha hl hr =>
    cases h' with
    | @mk op' n' ns' al' vn' va' rows' hn' ha' hl' hr' =>
    obtain ⟨Aa, ca, rfl⟩ := ha.form
    obtain ⟨An, cn, rfl⟩ := hn.form
    obtain ⟨Aa', ca', rfl⟩ := ha'.form
    obtain ⟨An', cn', rfl⟩ := hn'.form
    have hlen := wtL_len al
    have hnl := wtS_len ns
    rw [wtE] at hN
    by_cases h1 : op = op'
    case neg =>
      refine Spec.enter Tryd.func28 rfl Tryd.ntmps28 rfl ?_
      intro w0 hw0
      refine T.seq ?_
      refine T.region ?_
      refine SL.x (op_box rfl) rfl rfl ?_
      rintro _ _ _ ⟨B2, rfl, rfl, rfl⟩
      refine SL.x (op_box rfl) rfl rfl ?_
      rintro _ _ _ ⟨B3, rfl, rfl, rfl⟩
      refine SL.y (op_assign rfl) rfl rfl ?_
      refine SL.nil ?_
      refine T.seq ?_
      refine T.seq ?_
      refine T.region ?_
      refine SL.y (op_fieldAddr fa27_0 rfl) rfl rfl ?_
      first | refine SL.y (op_load ty3 rfl (by repeat constructor) rfl) rfl rfl ?_ | refine SL.y (op_loadX ty3 rfl (by assumption) rfl) rfl rfl ?_
      refine SL.y (op_fieldAddr fa27_0 rfl) rfl rfl ?_
      first | refine SL.y (op_load ty3 rfl (by repeat constructor) rfl) rfl rfl ?_ | refine SL.y (op_loadX ty3 rfl (by assumption) rfl) rfl rfl ?_
      first | refine SL.y (op_neqT rfl rfl (by omega)) rfl rfl ?_ | refine SL.y (op_neqF rfl rfl (by omega)) rfl rfl ?_ | refine SL.y (op_neq rfl rfl) rfl rfl ?_
      refine SL.y (op_move rfl) rfl rfl ?_
      first | refine SL.skip rfl rfl ?_ | refine SL.y (op_fieldAddr fa27_1 rfl) rfl rfl ?_
      first | refine SL.skip rfl rfl ?_ | refine SL.y (op_load ty3 rfl (by repeat constructor) rfl) rfl rfl ?_ | refine SL.y (op_loadX ty3 rfl (by assumption) rfl) rfl rfl ?_
      first | refine SL.skip rfl rfl ?_ | refine SL.y (op_fieldAddr fa27_1 rfl) rfl rfl ?_
      first | refine SL.skip rfl rfl ?_ | refine SL.y (op_load ty3 rfl (by repeat constructor) rfl) rfl rfl ?_ | refine SL.y (op_loadX ty3 rfl (by assumption) rfl) rfl rfl ?_
      first | refine SL.skip rfl rfl ?_ | refine SL.y (op_neqT rfl rfl (by omega)) rfl rfl ?_ | refine SL.y (op_neqF rfl rfl (by omega)) rfl rfl ?_ | refine SL.y (op_neq rfl rfl) rfl rfl ?_
      first | refine SL.y (op_pickT rfl rfl) rfl rfl ?_ | refine SL.y (op_pickF rfl rfl) rfl rfl ?_ | refine SL.y (op_pickB rfl rfl rfl) rfl rfl ?_
      refine SL.y (op_move rfl) rfl rfl ?_
      first | refine SL.skip rfl rfl ?_ | refine SL.y (op_fieldAddr fa27_2 rfl) rfl rfl ?_
      first | refine SL.skip rfl rfl ?_ | refine SL.y (op_load ty24 rfl (by repeat constructor) rfl) rfl rfl ?_ | refine SL.y (op_loadX ty24 rfl (by assumption) rfl) rfl rfl ?_
      first | refine SL.skip rfl rfl ?_ | refine SL.y (op_fieldAddr fa27_2 rfl) rfl rfl ?_
      first | refine SL.skip rfl rfl ?_ | refine SL.y (op_load ty24 rfl (by repeat constructor) rfl) rfl rfl ?_ | refine SL.y (op_loadX ty24 rfl (by assumption) rfl) rfl rfl ?_
      refine SL.skip rfl rfl ?_
      first | refine SL.skip rfl rfl ?_ | refine SL.y (op_not rfl) rfl rfl ?_
      first | refine SL.y (op_pickT rfl rfl) rfl rfl ?_ | refine SL.y (op_pickF rfl rfl) rfl rfl ?_ | refine SL.y (op_pickB rfl rfl rfl) rfl rfl ?_
      refine SL.y (op_move rfl) rfl rfl ?_
      first | refine SL.skip rfl rfl ?_ | refine SL.y (op_fieldAddr fa27_3 rfl) rfl rfl ?_
      first | refine SL.skip rfl rfl ?_ | refine SL.y (op_load ty25 rfl (by repeat constructor) rfl) rfl rfl ?_ | refine SL.y (op_loadX ty25 rfl (by assumption) rfl) rfl rfl ?_
      first | refine SL.skip rfl rfl ?_ | refine SL.y (op_lenS Tryd.underlying25 rfl) rfl rfl ?_
      first | refine SL.skip rfl rfl ?_ | refine SL.y (op_fieldAddr fa27_3 rfl) rfl rfl ?_
      first | refine SL.skip rfl rfl ?_ | refine SL.y (op_load ty25 rfl (by repeat constructor) rfl) rfl rfl ?_ | refine SL.y (op_loadX ty25 rfl (by assumption) rfl) rfl rfl ?_
      first | refine SL.skip rfl rfl ?_ | refine SL.y (op_lenS Tryd.underlying25 rfl) rfl rfl ?_
      first | refine SL.skip rfl rfl ?_ | refine SL.y (op_neqT rfl rfl (by omega)) rfl rfl ?_ | refine SL.y (op_neqF rfl rfl (by omega)) rfl rfl ?_ | refine SL.y (op_neq rfl rfl) rfl rfl ?_
      first | refine SL.y (op_pickT rfl rfl) rfl rfl ?_ | refine SL.y (op_pickF rfl rfl) rfl rfl ?_ | refine SL.y (op_pickB rfl rfl rfl) rfl rfl ?_
      refine SL.nil ?_
      refine T.condT rfl ?_
      refine T.seq ?_
      refine T.region ?_
      refine SL.y (op_assign rfl) rfl rfl ?_
      refine SL.nil ?_
      refine T.ret1 rfl (ResIs.tmp rfl) ?_
      rw [decide_eq_false fun e => h1 (ex_eq.1 e).1]
    by_cases h2 : n = n'
    case neg =>
      refine Spec.enter Tryd.func28 rfl Tryd.ntmps28 rfl ?_
      intro w0 hw0
      refine T.seq ?_
      refine T.region ?_
      refine SL.x (op_box rfl) rfl rfl ?_
      rintro _ _ _ ⟨B2, rfl, rfl, rfl⟩
      refine SL.x (op_box rfl) rfl rfl ?_
      rintro _ _ _ ⟨B3, rfl, rfl, rfl⟩
      refine SL.y (op_assign rfl) rfl rfl ?_
      refine SL.nil ?_
      refine T.seq ?_
      refine T.seq ?_
      refine T.region ?_
      refine SL.y (op_fieldAddr fa27_0 rfl) rfl rfl ?_
      first | refine SL.y (op_load ty3 rfl (by repeat constructor) rfl) rfl rfl ?_ | refine SL.y (op_loadX ty3 rfl (by assumption) rfl) rfl rfl ?_
      refine SL.y (op_fieldAddr fa27_0 rfl) rfl rfl ?_
      first | refine SL.y (op_load ty3 rfl (by repeat constructor) rfl) rfl rfl ?_ | refine SL.y (op_loadX ty3 rfl (by assumption) rfl) rfl rfl ?_
      first | refine SL.y (op_neqT rfl rfl (by omega)) rfl rfl ?_ | refine SL.y (op_neqF rfl rfl (by omega)) rfl rfl ?_ | refine SL.y (op_neq rfl rfl) rfl rfl ?_
      refine SL.y (op_move rfl) rfl rfl ?_
      first | refine SL.skip rfl rfl ?_ | refine SL.y (op_fieldAddr fa27_1 rfl) rfl rfl ?_
      first | refine SL.skip rfl rfl ?_ | refine SL.y (op_load ty3 rfl (by repeat constructor) rfl) rfl rfl ?_ | refine SL.y (op_loadX ty3 rfl (by assumption) rfl) rfl rfl ?_
      first | refine SL.skip rfl rfl ?_ | refine SL.y (op_fieldAddr fa27_1 rfl) rfl rfl ?_
      first | refine SL.skip rfl rfl ?_ | refine SL.y (op_load ty3 rfl (by repeat constructor) rfl) rfl rfl ?_ | refine SL.y (op_loadX ty3 rfl (by assumption) rfl) rfl rfl ?_
      first | refine SL.skip rfl rfl ?_ | refine SL.y (op_neqT rfl rfl (by omega)) rfl rfl ?_ | refine SL.y (op_neqF rfl rfl (by omega)) rfl rfl ?_ | refine SL.y (op_neq rfl rfl) rfl rfl ?_
      first | refine SL.y (op_pickT rfl rfl) rfl rfl ?_ | refine SL.y (op_pickF rfl rfl) rfl rfl ?_ | refine SL.y (op_pickB rfl rfl rfl) rfl rfl ?_
      refine SL.y (op_move rfl) rfl rfl ?_
      first | refine SL.skip rfl rfl ?_ | refine SL.y (op_fieldAddr fa27_2 rfl) rfl rfl ?_
      first | refine SL.skip rfl rfl ?_ | refine SL.y (op_load ty24 rfl (by repeat constructor) rfl) rfl rfl ?_ | refine SL.y (op_loadX ty24 rfl (by assumption) rfl) rfl rfl ?_
      first | refine SL.skip rfl rfl ?_ | refine SL.y (op_fieldAddr fa27_2 rfl) rfl rfl ?_
      first | refine SL.skip rfl rfl ?_ | refine SL.y (op_load ty24 rfl (by repeat constructor) rfl) rfl rfl ?_ | refine SL.y (op_loadX ty24 rfl (by assumption) rfl) rfl rfl ?_
      refine SL.skip rfl rfl ?_
      first | refine SL.skip rfl rfl ?_ | refine SL.y (op_not rfl) rfl rfl ?_
      first | refine SL.y (op_pickT rfl rfl) rfl rfl ?_ | refine SL.y (op_pickF rfl rfl) rfl rfl ?_ | refine SL.y (op_pickB rfl rfl rfl) rfl rfl ?_
      refine SL.y (op_move rfl) rfl rfl ?_
      first | refine SL.skip rfl rfl ?_ | refine SL.y (op_fieldAddr fa27_3 rfl) rfl rfl ?_
      first | refine SL.skip rfl rfl ?_ | refine SL.y (op_load ty25 rfl (by repeat constructor) rfl) rfl rfl ?_ | refine SL.y (op_loadX ty25 rfl (by assumption) rfl) rfl rfl ?_
      first | refine SL.skip rfl rfl ?_ | refine SL.y (op_lenS Tryd.underlying25 rfl) rfl rfl ?_
      first | refine SL.skip rfl rfl ?_ | refine SL.y (op_fieldAddr fa27_3 rfl) rfl rfl ?_
      first | refine SL.skip rfl rfl ?_ | refine SL.y (op_load ty25 rfl (by repeat constructor) rfl) rfl rfl ?_ | refine SL.y (op_loadX ty25 rfl (by assumption) rfl) rfl rfl ?_
      first | refine SL.skip rfl rfl ?_ | refine SL.y (op_lenS Tryd.underlying25 rfl) rfl rfl ?_
      first | refine SL.skip rfl rfl ?_ | refine SL.y (op_neqT rfl rfl (by omega)) rfl rfl ?_ | refine SL.y (op_neqF rfl rfl (by omega)) rfl rfl ?_ | refine SL.y (op_neq rfl rfl) rfl rfl ?_
      first | refine SL.y (op_pickT rfl rfl) rfl rfl ?_ | refine SL.y (op_pickF rfl rfl) rfl rfl ?_ | refine SL.y (op_pickB rfl rfl rfl) rfl rfl ?_
      refine SL.nil ?_
      refine T.condT rfl ?_
      refine T.seq ?_
      refine T.region ?_
      refine SL.y (op_assign rfl) rfl rfl ?_
      refine SL.nil ?_
      refine T.ret1 rfl (ResIs.tmp rfl) ?_
      rw [decide_eq_false fun e => h2 (ex_eq.1 e).2.1]
    by_cases h3 : ns = ns'
    case neg =>
      refine Spec.enter Tryd.func28 rfl Tryd.ntmps28 rfl ?_
      intro w0 hw0
      refine T.seq ?_
      refine T.region ?_
      refine SL.x (op_box rfl) rfl rfl ?_
      rintro _ _ _ ⟨B2, rfl, rfl, rfl⟩
      refine SL.x (op_box rfl) rfl rfl ?_
      rintro _ _ _ ⟨B3, rfl, rfl, rfl⟩
      refine SL.y (op_assign rfl) rfl rfl ?_
      refine SL.nil ?_
      refine T.seq ?_
      refine T.seq ?_
      refine T.region ?_
      refine SL.y (op_fieldAddr fa27_0 rfl) rfl rfl ?_
      first | refine SL.y (op_load ty3 rfl (by repeat constructor) rfl) rfl rfl ?_ | refine SL.y (op_loadX ty3 rfl (by assumption) rfl) rfl rfl ?_
      refine SL.y (op_fieldAddr fa27_0 rfl) rfl rfl ?_
      first | refine SL.y (op_load ty3 rfl (by repeat constructor) rfl) rfl rfl ?_ | refine SL.y (op_loadX ty3 rfl (by assumption) rfl) rfl rfl ?_
      first | refine SL.y (op_neqT rfl rfl (by omega)) rfl rfl ?_ | refine SL.y (op_neqF rfl rfl (by omega)) rfl rfl ?_ | refine SL.y (op_neq rfl rfl) rfl rfl ?_
      refine SL.y (op_move rfl) rfl rfl ?_
      first | refine SL.skip rfl rfl ?_ | refine SL.y (op_fieldAddr fa27_1 rfl) rfl rfl ?_
      first | refine SL.skip rfl rfl ?_ | refine SL.y (op_load ty3 rfl (by repeat constructor) rfl) rfl rfl ?_ | refine SL.y (op_loadX ty3 rfl (by assumption) rfl) rfl rfl ?_
      first | refine SL.skip rfl rfl ?_ | refine SL.y (op_fieldAddr fa27_1 rfl) rfl rfl ?_
      first | refine SL.skip rfl rfl ?_ | refine SL.y (op_load ty3 rfl (by repeat constructor) rfl) rfl rfl ?_ | refine SL.y (op_loadX ty3 rfl (by assumption) rfl) rfl rfl ?_
      first | refine SL.skip rfl rfl ?_ | refine SL.y (op_neqT rfl rfl (by omega)) rfl rfl ?_ | refine SL.y (op_neqF rfl rfl (by omega)) rfl rfl ?_ | refine SL.y (op_neq rfl rfl) rfl rfl ?_
      first | refine SL.y (op_pickT rfl rfl) rfl rfl ?_ | refine SL.y (op_pickF rfl rfl) rfl rfl ?_ | refine SL.y (op_pickB rfl rfl rfl) rfl rfl ?_
      refine SL.y (op_move rfl) rfl rfl ?_
      first | refine SL.skip rfl rfl ?_ | refine SL.y (op_fieldAddr fa27_2 rfl) rfl rfl ?_
      first | refine SL.skip rfl rfl ?_ | refine SL.y (op_load ty24 rfl (by repeat constructor) rfl) rfl rfl ?_ | refine SL.y (op_loadX ty24 rfl (by assumption) rfl) rfl rfl ?_
      first | refine SL.skip rfl rfl ?_ | refine SL.y (op_fieldAddr fa27_2 rfl) rfl rfl ?_
      first | refine SL.skip rfl rfl ?_ | refine SL.y (op_load ty24 rfl (by repeat constructor) rfl) rfl rfl ?_ | refine SL.y (op_loadX ty24 rfl (by assumption) rfl) rfl rfl ?_
      refine SL.x (op_callF en55 (vs := [_, _]) rfl (same_spec hn hn' (by omega))) rfl rfl ?_
      rintro _ _ X1 ⟨rfl, hX1, rfl⟩
      rw [decide_eq_false h3]
      first | refine SL.skip rfl rfl ?_ | refine SL.y (op_not rfl) rfl rfl ?_
      first | refine SL.y (op_pickT rfl rfl) rfl rfl ?_ | refine SL.y (op_pickF rfl rfl) rfl rfl ?_ | refine SL.y (op_pickB rfl rfl rfl) rfl rfl ?_
      refine SL.y (op_move rfl) rfl rfl ?_
      first | refine SL.skip rfl rfl ?_ | refine SL.y (op_fieldAddr fa27_3 rfl) rfl rfl ?_
      first | refine SL.skip rfl rfl ?_ | refine SL.y (op_load ty25 rfl (by repeat constructor) rfl) rfl rfl ?_ | refine SL.y (op_loadX ty25 rfl (by assumption) rfl) rfl rfl ?_
      first | refine SL.skip rfl rfl ?_ | refine SL.y (op_lenS Tryd.underlying25 rfl) rfl rfl ?_
      first | refine SL.skip rfl rfl ?_ | refine SL.y (op_fieldAddr fa27_3 rfl) rfl rfl ?_
      first | refine SL.skip rfl rfl ?_ | refine SL.y (op_load ty25 rfl (by repeat constructor) rfl) rfl rfl ?_ | refine SL.y (op_loadX ty25 rfl (by assumption) rfl) rfl rfl ?_
      first | refine SL.skip rfl rfl ?_ | refine SL.y (op_lenS Tryd.underlying25 rfl) rfl rfl ?_
      first | refine SL.skip rfl rfl ?_ | refine SL.y (op_neqT rfl rfl (by omega)) rfl rfl ?_ | refine SL.y (op_neqF rfl rfl (by omega)) rfl rfl ?_ | refine SL.y (op_neq rfl rfl) rfl rfl ?_
      first | refine SL.y (op_pickT rfl rfl) rfl rfl ?_ | refine SL.y (op_pickF rfl rfl) rfl rfl ?_ | refine SL.y (op_pickB rfl rfl rfl) rfl rfl ?_
      refine SL.nil ?_
      refine T.condT rfl ?_
      refine T.seq ?_
      refine T.region ?_
      refine SL.y (op_assign rfl) rfl rfl ?_
      refine SL.nil ?_
      refine T.ret1 rfl (ResIs.tmp rfl) ?_
      rw [decide_eq_false fun e => h3 (ex_eq.1 e).2.2.1]
    by_cases h4 : al.length = al'.length
    case neg =>
      refine Spec.enter Tryd.func28 rfl Tryd.ntmps28 rfl ?_
      intro w0 hw0
      refine T.seq ?_
      refine T.region ?_
      refine SL.x (op_box rfl) rfl rfl ?_
      rintro _ _ _ ⟨B2, rfl, rfl, rfl⟩
      refine SL.x (op_box rfl) rfl rfl ?_
      rintro _ _ _ ⟨B3, rfl, rfl, rfl⟩
      refine SL.y (op_assign rfl) rfl rfl ?_
      refine SL.nil ?_
      refine T.seq ?_
      refine T.seq ?_
      refine T.region ?_
      refine SL.y (op_fieldAddr fa27_0 rfl) rfl rfl ?_
      first | refine SL.y (op_load ty3 rfl (by repeat constructor) rfl) rfl rfl ?_ | refine SL.y (op_loadX ty3 rfl (by assumption) rfl) rfl rfl ?_
      refine SL.y (op_fieldAddr fa27_0 rfl) rfl rfl ?_
      first | refine SL.y (op_load ty3 rfl (by repeat constructor) rfl) rfl rfl ?_ | refine SL.y (op_loadX ty3 rfl (by assumption) rfl) rfl rfl ?_
      first | refine SL.y (op_neqT rfl rfl (by omega)) rfl rfl ?_ | refine SL.y (op_neqF rfl rfl (by omega)) rfl rfl ?_ | refine SL.y (op_neq rfl rfl) rfl rfl ?_
      refine SL.y (op_move rfl) rfl rfl ?_
      first | refine SL.skip rfl rfl ?_ | refine SL.y (op_fieldAddr fa27_1 rfl) rfl rfl ?_
      first | refine SL.skip rfl rfl ?_ | refine SL.y (op_load ty3 rfl (by repeat constructor) rfl) rfl rfl ?_ | refine SL.y (op_loadX ty3 rfl (by assumption) rfl) rfl rfl ?_
      first | refine SL.skip rfl rfl ?_ | refine SL.y (op_fieldAddr fa27_1 rfl) rfl rfl ?_
      first | refine SL.skip rfl rfl ?_ | refine SL.y (op_load ty3 rfl (by repeat constructor) rfl) rfl rfl ?_ | refine SL.y (op_loadX ty3 rfl (by assumption) rfl) rfl rfl ?_
      first | refine SL.skip rfl rfl ?_ | refine SL.y (op_neqT rfl rfl (by omega)) rfl rfl ?_ | refine SL.y (op_neqF rfl rfl (by omega)) rfl rfl ?_ | refine SL.y (op_neq rfl rfl) rfl rfl ?_
      first | refine SL.y (op_pickT rfl rfl) rfl rfl ?_ | refine SL.y (op_pickF rfl rfl) rfl rfl ?_ | refine SL.y (op_pickB rfl rfl rfl) rfl rfl ?_
      refine SL.y (op_move rfl) rfl rfl ?_
      first | refine SL.skip rfl rfl ?_ | refine SL.y (op_fieldAddr fa27_2 rfl) rfl rfl ?_
      first | refine SL.skip rfl rfl ?_ | refine SL.y (op_load ty24 rfl (by repeat constructor) rfl) rfl rfl ?_ | refine SL.y (op_loadX ty24 rfl (by assumption) rfl) rfl rfl ?_
      first | refine SL.skip rfl rfl ?_ | refine SL.y (op_fieldAddr fa27_2 rfl) rfl rfl ?_
      first | refine SL.skip rfl rfl ?_ | refine SL.y (op_load ty24 rfl (by repeat constructor) rfl) rfl rfl ?_ | refine SL.y (op_loadX ty24 rfl (by assumption) rfl) rfl rfl ?_
      refine SL.x (op_callF en55 (vs := [_, _]) rfl (same_spec hn hn' (by omega))) rfl rfl ?_
      rintro _ _ X1 ⟨rfl, hX1, rfl⟩
      rw [decide_eq_true h3]
      first | refine SL.skip rfl rfl ?_ | refine SL.y (op_not rfl) rfl rfl ?_
      first | refine SL.y (op_pickT rfl rfl) rfl rfl ?_ | refine SL.y (op_pickF rfl rfl) rfl rfl ?_ | refine SL.y (op_pickB rfl rfl rfl) rfl rfl ?_
      refine SL.y (op_move rfl) rfl rfl ?_
      first | refine SL.skip rfl rfl ?_ | refine SL.y (op_fieldAddr fa27_3 rfl) rfl rfl ?_
      first | refine SL.skip rfl rfl ?_ | refine SL.y (op_load ty25 rfl (by repeat constructor) rfl) rfl rfl ?_ | refine SL.y (op_loadX ty25 rfl (by assumption) rfl) rfl rfl ?_
      first | refine SL.skip rfl rfl ?_ | refine SL.y (op_lenS Tryd.underlying25 rfl) rfl rfl ?_
      first | refine SL.skip rfl rfl ?_ | refine SL.y (op_fieldAddr fa27_3 rfl) rfl rfl ?_
      first | refine SL.skip rfl rfl ?_ | refine SL.y (op_load ty25 rfl (by repeat constructor) rfl) rfl rfl ?_ | refine SL.y (op_loadX ty25 rfl (by assumption) rfl) rfl rfl ?_
      first | refine SL.skip rfl rfl ?_ | refine SL.y (op_lenS Tryd.underlying25 rfl) rfl rfl ?_
      first | refine SL.skip rfl rfl ?_ | refine SL.y (op_neqT rfl rfl (by omega)) rfl rfl ?_ | refine SL.y (op_neqF rfl rfl (by omega)) rfl rfl ?_ | refine SL.y (op_neq rfl rfl) rfl rfl ?_
      first | refine SL.y (op_pickT rfl rfl) rfl rfl ?_ | refine SL.y (op_pickF rfl rfl) rfl rfl ?_ | refine SL.y (op_pickB rfl rfl rfl) rfl rfl ?_
      refine SL.nil ?_
      refine T.condT rfl ?_
      refine T.seq ?_
      refine T.region ?_
      refine SL.y (op_assign rfl) rfl rfl ?_
      refine SL.nil ?_
      refine T.ret1 rfl (ResIs.tmp rfl) ?_
      rw [decide_eq_false fun e => h4 (by rw [(ex_eq.1 e).2.2.2])]
    refine Spec.enter Tryd.func28 rfl Tryd.ntmps28 rfl ?_
    intro w0 hw0
    refine T.seq ?_
    refine T.region ?_
    refine SL.x (op_box rfl) rfl rfl ?_
    rintro _ _ _ ⟨B2, rfl, rfl, rfl⟩
    refine SL.x (op_box rfl) rfl rfl ?_
    rintro _ _ _ ⟨B3, rfl, rfl, rfl⟩
    refine SL.y (op_assign rfl) rfl rfl ?_
    refine SL.nil ?_
    refine T.seq ?_
    refine T.seq ?_
    refine T.region ?_
    refine SL.y (op_fieldAddr fa27_0 rfl) rfl rfl ?_
    first | refine SL.y (op_load ty3 rfl (by repeat constructor) rfl) rfl rfl ?_ | refine SL.y (op_loadX ty3 rfl (by assumption) rfl) rfl rfl ?_
    refine SL.y (op_fieldAddr fa27_0 rfl) rfl rfl ?_
    first | refine SL.y (op_load ty3 rfl (by repeat constructor) rfl) rfl rfl ?_ | refine SL.y (op_loadX ty3 rfl (by assumption) rfl) rfl rfl ?_
    first | refine SL.y (op_neqT rfl rfl (by omega)) rfl rfl ?_ | refine SL.y (op_neqF rfl rfl (by omega)) rfl rfl ?_ | refine SL.y (op_neq rfl rfl) rfl rfl ?_
    refine SL.y (op_move rfl) rfl rfl ?_
    first | refine SL.skip rfl rfl ?_ | refine SL.y (op_fieldAddr fa27_1 rfl) rfl rfl ?_
    first | refine SL.skip rfl rfl ?_ | refine SL.y (op_load ty3 rfl (by repeat constructor) rfl) rfl rfl ?_ | refine SL.y (op_loadX ty3 rfl (by assumption) rfl) rfl rfl ?_
    first | refine SL.skip rfl rfl ?_ | refine SL.y (op_fieldAddr fa27_1 rfl) rfl rfl ?_
    first | refine SL.skip rfl rfl ?_ | refine SL.y (op_load ty3 rfl (by repeat constructor) rfl) rfl rfl ?_ | refine SL.y (op_loadX ty3 rfl (by assumption) rfl) rfl rfl ?_
    first | refine SL.skip rfl rfl ?_ | refine SL.y (op_neqT rfl rfl (by omega)) rfl rfl ?_ | refine SL.y (op_neqF rfl rfl (by omega)) rfl rfl ?_ | refine SL.y (op_neq rfl rfl) rfl rfl ?_
    first | refine SL.y (op_pickT rfl rfl) rfl rfl ?_ | refine SL.y (op_pickF rfl rfl) rfl rfl ?_ | refine SL.y (op_pickB rfl rfl rfl) rfl rfl ?_
    refine SL.y (op_move rfl) rfl rfl ?_
    first | refine SL.skip rfl rfl ?_ | refine SL.y (op_fieldAddr fa27_2 rfl) rfl rfl ?_
    first | refine SL.skip rfl rfl ?_ | refine SL.y (op_load ty24 rfl (by repeat constructor) rfl) rfl rfl ?_ | refine SL.y (op_loadX ty24 rfl (by assumption) rfl) rfl rfl ?_
    first | refine SL.skip rfl rfl ?_ | refine SL.y (op_fieldAddr fa27_2 rfl) rfl rfl ?_
    first | refine SL.skip rfl rfl ?_ | refine SL.y (op_load ty24 rfl (by repeat constructor) rfl) rfl rfl ?_ | refine SL.y (op_loadX ty24 rfl (by assumption) rfl) rfl rfl ?_
    refine SL.x (op_callF en55 (vs := [_, _]) rfl (same_spec hn hn' (by omega))) rfl rfl ?_
    rintro _ _ X1 ⟨rfl, hX1, rfl⟩
    rw [decide_eq_true h3]
    first | refine SL.skip rfl rfl ?_ | refine SL.y (op_not rfl) rfl rfl ?_
    first | refine SL.y (op_pickT rfl rfl) rfl rfl ?_ | refine SL.y (op_pickF rfl rfl) rfl rfl ?_ | refine SL.y (op_pickB rfl rfl rfl) rfl rfl ?_
    refine SL.y (op_move rfl) rfl rfl ?_
    first | refine SL.skip rfl rfl ?_ | refine SL.y (op_fieldAddr fa27_3 rfl) rfl rfl ?_
    first | refine SL.skip rfl rfl ?_ | refine SL.y (op_load ty25 rfl (by repeat constructor) rfl) rfl rfl ?_ | refine SL.y (op_loadX ty25 rfl (by assumption) rfl) rfl rfl ?_
    first | refine SL.skip rfl rfl ?_ | refine SL.y (op_lenS Tryd.underlying25 rfl) rfl rfl ?_
    first | refine SL.skip rfl rfl ?_ | refine SL.y (op_fieldAddr fa27_3 rfl) rfl rfl ?_
    first | refine SL.skip rfl rfl ?_ | refine SL.y (op_load ty25 rfl (by repeat constructor) rfl) rfl rfl ?_ | refine SL.y (op_loadX ty25 rfl (by assumption) rfl) rfl rfl ?_
    first | refine SL.skip rfl rfl ?_ | refine SL.y (op_lenS Tryd.underlying25 rfl) rfl rfl ?_
    first | refine SL.skip rfl rfl ?_ | refine SL.y (op_neqT rfl rfl (by omega)) rfl rfl ?_ | refine SL.y (op_neqF rfl rfl (by omega)) rfl rfl ?_ | refine SL.y (op_neq rfl rfl) rfl rfl ?_
    first | refine SL.y (op_pickT rfl rfl) rfl rfl ?_ | refine SL.y (op_pickF rfl rfl) rfl rfl ?_ | refine SL.y (op_pickB rfl rfl rfl) rfl rfl ?_
    refine SL.nil ?_
    refine T.condF rfl ?_
    refine T.skip ?_
    refine T.seq ?_
    refine T.seq ?_
    refine T.region ?_
    refine SL.y (op_fieldAddr fa27_3 rfl) rfl rfl ?_
    first | refine SL.y (op_load ty25 rfl (by repeat constructor) rfl) rfl rfl ?_ | refine SL.y (op_loadX ty25 rfl (by assumption) rfl) rfl rfl ?_
    refine SL.y (op_lenS Tryd.underlying25 rfl) rfl rfl ?_
    refine SL.y (op_move (v := .int .i64 ((0 : Nat) : Int)) rfl) rfl rfl ?_
    refine SL.nil ?_
    refine T.block ?_
    refine T.loopW (fun m env own X' => ∃ i : Nat, m = rows.length - i ∧ i ≤ rows.length ∧ X1.le X' ∧ al.take i = al'.take i ∧ env = [(2, .pointer (some ⟨B2, 0, none⟩)), (3, .pointer (some ⟨B3, 0, none⟩)), (37, .int .i64 (rows.length : Int)), (38, .int .i64 (i : Int))] ∧ own = [⟨B3, [.int .i64 (op' : Int), .int .i64 n', .slice An' ns'.length cn', .slice Aa' rows'.length ca'], 27, 4⟩, ⟨B2, [.int .i64 (op : Int), .int .i64 n, .slice An ns.length cn, .slice Aa rows.length ca], 27, 4⟩]) rows.length ⟨0, by simp, by omega, PMap.le_refl _, by simp, rfl, rfl⟩ (by repeat (first | exact Sub.nil | refine Sub.cons rfl ?_)) ?_
    rintro m _ _ X2 ⟨i, rfl, hi, hX2, heq, rfl, rfl⟩
    rcases Nat.lt_or_ge i rows.length with hil | hil
    · obtain ⟨r, hr1⟩ : ∃ r, rows[i]? = some r := ⟨_, List.getElem?_eq_getElem hil⟩
      obtain ⟨r', hr2⟩ : ∃ r, rows'[i]? = some r := ⟨_, List.getElem?_eq_getElem (by omega)⟩
      obtain ⟨x, hx⟩ : ∃ x, al[i]? = some x := ⟨_, List.getElem?_eq_getElem (by omega)⟩
      obtain ⟨y, hy⟩ : ∃ y, al'[i]? = some y := ⟨_, List.getElem?_eq_getElem (by omega)⟩
      have g1 := ((hr i x r hx hr1).mono hX1).mono hX2
      have g2 := ((hr' i y r' hy hr2).mono hX1).mono hX2
      obtain ⟨b, pre, rfl, hB1⟩ := ha.blk (by omega)
      obtain ⟨b', pre', rfl, hB2⟩ := ha'.blk (by omega)
      have hB1 := (hB1.mono hX1).mono hX2
      have hB2 := (hB2.mono hX1).mono hX2
      have hwx := wtL_mem (List.mem_of_getElem? hx)
      have hcall := ih (by omega) (by omega) g1 g2
      obtain ⟨_, _, _, _, _, _, _, _, rfl⟩ := g1.form
      obtain ⟨_, _, _, _, _, _, _, _, rfl⟩ := g2.form
      try simp only at hcall
      refine T.seq ?_
      refine T.region ?_
      first | refine SL.y (op_lssT rfl rfl (by omega)) rfl rfl ?_ | refine SL.y (op_lssF rfl rfl (by omega)) rfl rfl ?_ | refine SL.y (op_lss rfl rfl) rfl rfl ?_
      refine SL.nil ?_
      refine T.seq ?_
      refine T.condT rfl ?_
      refine T.skip ?_
      refine T.seq ?_
      refine T.block ?_
      refine T.seq ?_
      refine T.region ?_
      refine SL.y (op_move rfl) rfl rfl ?_
      refine SL.y (op_assign rfl) rfl rfl ?_
      refine SL.nil ?_
      refine T.seq ?_
      refine T.draw (by kernel_rfl) 12 [.t 0, .t 1, .t 2, .t 3, .t 4, .t 5, .t 6, .t 7, .t 8, .t 9, .r 10, .t 11] (by kernel_rfl) ?_
      refine SD.take rfl panicBody (op_fieldAddr fa27_3 rfl) rfl rfl ?_
      first | refine SD.take rfl panicBody (op_load ty25 rfl (by repeat constructor) rfl) rfl rfl ?_ | refine SD.take rfl panicBody (op_loadX ty25 rfl (by assumption) rfl) rfl rfl ?_
      refine SD.take rfl panicBody (op_move rfl) rfl rfl ?_
      first | refine SD.take rfl panicBody (op_indexN Tryd.underlying25 ty27 rfl rfl (by omega)) rfl rfl ?_ | refine SD.take rfl panicBody (op_index Tryd.underlying25 ty27 rfl rfl (by omega) (by omega)) rfl rfl ?_
      refine SD.take rfl panicBody (op_loadX ty27 rfl hB1 (row_read rc4_len hr1 (by omega))) rfl rfl ?_
      refine SD.take rfl panicBody (op_fieldAddr fa27_3 rfl) rfl rfl ?_
      first | refine SD.take rfl panicBody (op_load ty25 rfl (by repeat constructor) rfl) rfl rfl ?_ | refine SD.take rfl panicBody (op_loadX ty25 rfl (by assumption) rfl) rfl rfl ?_
      refine SD.take rfl panicBody (op_move rfl) rfl rfl ?_
      first | refine SD.take rfl panicBody (op_indexN Tryd.underlying25 ty27 rfl rfl (by omega)) rfl rfl ?_ | refine SD.take rfl panicBody (op_index Tryd.underlying25 ty27 rfl rfl (by omega) (by omega)) rfl rfl ?_
      refine SD.take rfl panicBody (op_loadX ty27 rfl hB2 (row_read rc4_len hr2 (by omega))) rfl rfl ?_
      refine SD.run rfl (op_callF en28 (vs := [_, _]) rfl (hcall)) rfl rfl ?_
      rintro _ _ X3 ⟨rfl, hX3, rfl⟩
      refine SD.take rfl panicBody (op_not rfl) rfl rfl ?_
      refine SD.nil ?_
      show SL _ _ _ _ _ _ _ [] _ _ _
      refine SL.nil ?_
      by_cases hxy : x = y
      · rw [decide_eq_true hxy]
        refine T.condF rfl ?_
        refine T.skip ?_
        refine T.blk ?_
        refine T.region ?_
        first | refine SL.y (op_addN (q := 1) rfl rfl (by omega)) rfl rfl ?_ | refine SL.y (op_add rfl rfl (by omega) (by omega)) rfl rfl ?_ | refine SL.y (op_addW rfl rfl) rfl rfl ?_
        refine SL.y (op_move rfl) rfl rfl ?_
        refine SL.nil ?_
        exact T.backW (rows.length - (i + 1)) (by omega) ⟨i + 1, rfl, by omega, hX2.trans' hX3, (take_eq hx hy heq).2 hxy, rfl, rfl⟩ (by repeat (first | exact Sub.nil | refine Sub.cons rfl ?_))
      · rw [decide_eq_false hxy]
        refine T.condT rfl ?_
        refine T.seq ?_
        refine T.region ?_
        refine SL.y (op_assign rfl) rfl rfl ?_
        refine SL.nil ?_
        refine T.ret1 rfl (ResIs.tmp rfl) ?_
        rw [decide_eq_false fun e => ne_at hx hy hxy (ex_eq.1 e).2.2.2]
    · obtain rfl : i = rows.length := by omega
      rw [List.take_of_length_le (by omega), List.take_of_length_le (by omega)] at heq
      refine T.seq ?_
      refine T.region ?_
      first | refine SL.y (op_lssT rfl rfl (by omega)) rfl rfl ?_ | refine SL.y (op_lssF rfl rfl (by omega)) rfl rfl ?_ | refine SL.y (op_lss rfl rfl) rfl rfl ?_
      refine SL.nil ?_
      refine T.seq ?_
      refine T.condF rfl ?_
      refine T.exit (T.exitCode (T.exitCut (T.exitBlk ?_)))
      refine T.seq ?_
      refine T.region ?_
      refine SL.y (op_assign rfl) rfl rfl ?_
      refine SL.nil ?_
      refine T.ret1 rfl (ResIs.tmp rfl) ?_
      rw [decide_eq_true (ex_eq.2 ⟨h1, h2, h3, heq⟩)]
theorem con_eq {e e' : Bool} {k k' : Nat} {s s' : ByteArray} {x x' : Ex} : Con.mk e k s x = Con.mk e' k' s' x' ↔ e = e' ∧ k = k' ∧ s = s' ∧ x = x' := by simp
theorem op_eqlBb {P : Program} {n : NM} {own : Own} {X : PMap} {env : Env} {t t' : TypeId} {x y : Operand} {b c : Bool} (ht : P.underlying t = some .bool) (hx : eev env x = some (.bool b)) (hy : eev env y = some (.bool c)) : OpY P n env own X (.binOp .eql t x y t') (.bool (b == c)) := op_eqlB ht hx hy
theorem eqC1_spec {X : PMap} {c d : Con} {r r' : Row7} (h : ConR X c r) (h' : ConR X d r') (hw : wtE c.ex < 900000) : Spec Tryd.prog 57 [.agg (rc7 r).toArray, .agg (rc7 r').toArray] X fun u _ => u = .bool (decide (c = d)) := by
  obtain ⟨e, k, s, x⟩ := c
  obtain ⟨e', k', s', x'⟩ := d
  have hex := h.2.2.2
  have hex' := h'.2.2.2
  obtain ⟨o0, n0, a0, b0, l0, c0, m0, d0, rfl⟩ := h.form
  obtain ⟨o1, n1, a1, b1, l1, c1, m1, d1, rfl⟩ := h'.form
  simp only at hex hex' hw
  have hcall := eqE_spec _ (Nat.le_refl _) (by omega) hex hex'
  try simp only at hcall
  have e0 : (rc7 (e, k, s, .int .u8 (o0 : Int), .int .i64 n0, .slice a0 l0 c0, .slice b0 m0 d0)).toArray = #[.bool e, .int .u8 (k : Int), .string s, .int .u8 (o0 : Int), .int .i64 n0, .slice a0 l0 c0, .slice b0 m0 d0] := rfl
  have e1 : (rc7 (e', k', s', .int .u8 (o1 : Int), .int .i64 n1, .slice a1 l1 c1, .slice b1 m1 d1)).toArray = #[.bool e', .int .u8 (k' : Int), .string s', .int .u8 (o1 : Int), .int .i64 n1, .slice a1 l1 c1, .slice b1 m1 d1] := rfl
  rw [e0, e1]
  by_cases h1 : e = e'
  case neg =>
    have hb : (e == e') = false := by simpa using h1
    refine Spec.enter Tryd.func57 rfl Tryd.ntmps57 rfl ?_
    intro w0 hw0
    refine T.seq ?_
    refine T.region ?_
    refine SL.x (op_box rfl) rfl rfl ?_
    rintro _ _ _ ⟨B2, rfl, rfl, rfl⟩
    refine SL.x (op_box rfl) rfl rfl ?_
    rintro _ _ _ ⟨B3, rfl, rfl, rfl⟩
    refine SL.y (op_assign rfl) rfl rfl ?_
    refine SL.nil ?_
    refine T.seq ?_
    refine T.region ?_
    refine SL.y (op_fieldAddr fa61_0 rfl) rfl rfl ?_
    first | refine SL.y (op_load ty4 rfl (by repeat constructor) rfl) rfl rfl ?_ | refine SL.y (op_loadX ty4 rfl (by assumption) rfl) rfl rfl ?_
    refine SL.y (op_fieldAddr fa61_0 rfl) rfl rfl ?_
    first | refine SL.y (op_load ty4 rfl (by repeat constructor) rfl) rfl rfl ?_ | refine SL.y (op_loadX ty4 rfl (by assumption) rfl) rfl rfl ?_
    refine SL.y (op_eqlBb Tryd.underlying4 rfl rfl) rfl rfl ?_
    rw [hb]
    refine SL.y (op_move rfl) rfl rfl ?_
    first | refine SL.skip rfl rfl ?_ | refine SL.y (op_fieldAddr fa61_1 rfl) rfl rfl ?_
    first | refine SL.skip rfl rfl ?_ | refine SL.y (op_load ty59 rfl (by repeat constructor) rfl) rfl rfl ?_ | refine SL.y (op_loadX ty59 rfl (by assumption) rfl) rfl rfl ?_
    first | refine SL.skip rfl rfl ?_ | refine SL.y (op_fieldAddr fa61_1 rfl) rfl rfl ?_
    first | refine SL.skip rfl rfl ?_ | refine SL.y (op_load ty59 rfl (by repeat constructor) rfl) rfl rfl ?_ | refine SL.y (op_loadX ty59 rfl (by assumption) rfl) rfl rfl ?_
    first | refine SL.skip rfl rfl ?_ | refine SL.y (op_eqlT rfl rfl (by omega)) rfl rfl ?_ | refine SL.y (op_eqlF rfl rfl (by omega)) rfl rfl ?_ | refine SL.y (op_eql rfl rfl) rfl rfl ?_
    first | refine SL.y (op_pickT rfl rfl) rfl rfl ?_ | refine SL.y (op_pickF rfl rfl) rfl rfl ?_ | refine SL.y (op_pickB rfl rfl rfl) rfl rfl ?_
    refine SL.y (op_move rfl) rfl rfl ?_
    first | refine SL.skip rfl rfl ?_ | refine SL.y (op_fieldAddr fa61_2 rfl) rfl rfl ?_
    first | refine SL.skip rfl rfl ?_ | refine SL.y (op_load ty9 rfl (by repeat constructor) rfl) rfl rfl ?_ | refine SL.y (op_loadX ty9 rfl (by assumption) rfl) rfl rfl ?_
    first | refine SL.skip rfl rfl ?_ | refine SL.y (op_fieldAddr fa61_2 rfl) rfl rfl ?_
    first | refine SL.skip rfl rfl ?_ | refine SL.y (op_load ty9 rfl (by repeat constructor) rfl) rfl rfl ?_ | refine SL.y (op_loadX ty9 rfl (by assumption) rfl) rfl rfl ?_
    first | refine SL.skip rfl rfl ?_ | refine SL.y (op_eqlStrD rfl rfl) rfl rfl ?_
    first | refine SL.y (op_pickT rfl rfl) rfl rfl ?_ | refine SL.y (op_pickF rfl rfl) rfl rfl ?_ | refine SL.y (op_pickB rfl rfl rfl) rfl rfl ?_
    refine SL.y (op_move rfl) rfl rfl ?_
    first | refine SL.skip rfl rfl ?_ | refine SL.y (op_fieldAddr fa61_3 rfl) rfl rfl ?_
    first | refine SL.skip rfl rfl ?_ | refine SL.y (op_load ty34 rfl (by repeat constructor) rfl) rfl rfl ?_ | refine SL.y (op_loadX ty34 rfl (by assumption) rfl) rfl rfl ?_
    first | refine SL.skip rfl rfl ?_ | refine SL.y (op_fieldAddr fa61_3 rfl) rfl rfl ?_
    first | refine SL.skip rfl rfl ?_ | refine SL.y (op_load ty34 rfl (by repeat constructor) rfl) rfl rfl ?_ | refine SL.y (op_loadX ty34 rfl (by assumption) rfl) rfl rfl ?_
    refine SL.skip rfl rfl ?_
    first | refine SL.y (op_pickT rfl rfl) rfl rfl ?_ | refine SL.y (op_pickF rfl rfl) rfl rfl ?_ | refine SL.y (op_pickB rfl rfl rfl) rfl rfl ?_
    refine SL.y (op_assign rfl) rfl rfl ?_
    refine SL.nil ?_
    refine T.ret1 rfl (ResIs.tmp rfl) ?_
    rw [decide_eq_false fun e => h1 (con_eq.1 e).1]
  subst h1
  by_cases h2 : k = k'
  case neg =>
    refine Spec.enter Tryd.func57 rfl Tryd.ntmps57 rfl ?_
    intro w0 hw0
    refine T.seq ?_
    refine T.region ?_
    refine SL.x (op_box rfl) rfl rfl ?_
    rintro _ _ _ ⟨B2, rfl, rfl, rfl⟩
    refine SL.x (op_box rfl) rfl rfl ?_
    rintro _ _ _ ⟨B3, rfl, rfl, rfl⟩
    refine SL.y (op_assign rfl) rfl rfl ?_
    refine SL.nil ?_
    refine T.seq ?_
    refine T.region ?_
    refine SL.y (op_fieldAddr fa61_0 rfl) rfl rfl ?_
    first | refine SL.y (op_load ty4 rfl (by repeat constructor) rfl) rfl rfl ?_ | refine SL.y (op_loadX ty4 rfl (by assumption) rfl) rfl rfl ?_
    refine SL.y (op_fieldAddr fa61_0 rfl) rfl rfl ?_
    first | refine SL.y (op_load ty4 rfl (by repeat constructor) rfl) rfl rfl ?_ | refine SL.y (op_loadX ty4 rfl (by assumption) rfl) rfl rfl ?_
    refine SL.y (op_eqlBb Tryd.underlying4 rfl rfl) rfl rfl ?_
    rw [show (e == e) = true by simp]
    refine SL.y (op_move rfl) rfl rfl ?_
    first | refine SL.skip rfl rfl ?_ | refine SL.y (op_fieldAddr fa61_1 rfl) rfl rfl ?_
    first | refine SL.skip rfl rfl ?_ | refine SL.y (op_load ty59 rfl (by repeat constructor) rfl) rfl rfl ?_ | refine SL.y (op_loadX ty59 rfl (by assumption) rfl) rfl rfl ?_
    first | refine SL.skip rfl rfl ?_ | refine SL.y (op_fieldAddr fa61_1 rfl) rfl rfl ?_
    first | refine SL.skip rfl rfl ?_ | refine SL.y (op_load ty59 rfl (by repeat constructor) rfl) rfl rfl ?_ | refine SL.y (op_loadX ty59 rfl (by assumption) rfl) rfl rfl ?_
    first | refine SL.skip rfl rfl ?_ | refine SL.y (op_eqlT rfl rfl (by omega)) rfl rfl ?_ | refine SL.y (op_eqlF rfl rfl (by omega)) rfl rfl ?_ | refine SL.y (op_eql rfl rfl) rfl rfl ?_
    first | refine SL.y (op_pickT rfl rfl) rfl rfl ?_ | refine SL.y (op_pickF rfl rfl) rfl rfl ?_ | refine SL.y (op_pickB rfl rfl rfl) rfl rfl ?_
    refine SL.y (op_move rfl) rfl rfl ?_
    first | refine SL.skip rfl rfl ?_ | refine SL.y (op_fieldAddr fa61_2 rfl) rfl rfl ?_
    first | refine SL.skip rfl rfl ?_ | refine SL.y (op_load ty9 rfl (by repeat constructor) rfl) rfl rfl ?_ | refine SL.y (op_loadX ty9 rfl (by assumption) rfl) rfl rfl ?_
    first | refine SL.skip rfl rfl ?_ | refine SL.y (op_fieldAddr fa61_2 rfl) rfl rfl ?_
    first | refine SL.skip rfl rfl ?_ | refine SL.y (op_load ty9 rfl (by repeat constructor) rfl) rfl rfl ?_ | refine SL.y (op_loadX ty9 rfl (by assumption) rfl) rfl rfl ?_
    first | refine SL.skip rfl rfl ?_ | refine SL.y (op_eqlStrD rfl rfl) rfl rfl ?_
    first | refine SL.y (op_pickT rfl rfl) rfl rfl ?_ | refine SL.y (op_pickF rfl rfl) rfl rfl ?_ | refine SL.y (op_pickB rfl rfl rfl) rfl rfl ?_
    refine SL.y (op_move rfl) rfl rfl ?_
    first | refine SL.skip rfl rfl ?_ | refine SL.y (op_fieldAddr fa61_3 rfl) rfl rfl ?_
    first | refine SL.skip rfl rfl ?_ | refine SL.y (op_load ty34 rfl (by repeat constructor) rfl) rfl rfl ?_ | refine SL.y (op_loadX ty34 rfl (by assumption) rfl) rfl rfl ?_
    first | refine SL.skip rfl rfl ?_ | refine SL.y (op_fieldAddr fa61_3 rfl) rfl rfl ?_
    first | refine SL.skip rfl rfl ?_ | refine SL.y (op_load ty34 rfl (by repeat constructor) rfl) rfl rfl ?_ | refine SL.y (op_loadX ty34 rfl (by assumption) rfl) rfl rfl ?_
    refine SL.skip rfl rfl ?_
    first | refine SL.y (op_pickT rfl rfl) rfl rfl ?_ | refine SL.y (op_pickF rfl rfl) rfl rfl ?_ | refine SL.y (op_pickB rfl rfl rfl) rfl rfl ?_
    refine SL.y (op_assign rfl) rfl rfl ?_
    refine SL.nil ?_
    refine T.ret1 rfl (ResIs.tmp rfl) ?_
    rw [decide_eq_false fun e => h2 (con_eq.1 e).2.1]
  by_cases h3 : s = s'
  case neg =>
    refine Spec.enter Tryd.func57 rfl Tryd.ntmps57 rfl ?_
    intro w0 hw0
    refine T.seq ?_
    refine T.region ?_
    refine SL.x (op_box rfl) rfl rfl ?_
    rintro _ _ _ ⟨B2, rfl, rfl, rfl⟩
    refine SL.x (op_box rfl) rfl rfl ?_
    rintro _ _ _ ⟨B3, rfl, rfl, rfl⟩
    refine SL.y (op_assign rfl) rfl rfl ?_
    refine SL.nil ?_
    refine T.seq ?_
    refine T.region ?_
    refine SL.y (op_fieldAddr fa61_0 rfl) rfl rfl ?_
    first | refine SL.y (op_load ty4 rfl (by repeat constructor) rfl) rfl rfl ?_ | refine SL.y (op_loadX ty4 rfl (by assumption) rfl) rfl rfl ?_
    refine SL.y (op_fieldAddr fa61_0 rfl) rfl rfl ?_
    first | refine SL.y (op_load ty4 rfl (by repeat constructor) rfl) rfl rfl ?_ | refine SL.y (op_loadX ty4 rfl (by assumption) rfl) rfl rfl ?_
    refine SL.y (op_eqlBb Tryd.underlying4 rfl rfl) rfl rfl ?_
    rw [show (e == e) = true by simp]
    refine SL.y (op_move rfl) rfl rfl ?_
    first | refine SL.skip rfl rfl ?_ | refine SL.y (op_fieldAddr fa61_1 rfl) rfl rfl ?_
    first | refine SL.skip rfl rfl ?_ | refine SL.y (op_load ty59 rfl (by repeat constructor) rfl) rfl rfl ?_ | refine SL.y (op_loadX ty59 rfl (by assumption) rfl) rfl rfl ?_
    first | refine SL.skip rfl rfl ?_ | refine SL.y (op_fieldAddr fa61_1 rfl) rfl rfl ?_
    first | refine SL.skip rfl rfl ?_ | refine SL.y (op_load ty59 rfl (by repeat constructor) rfl) rfl rfl ?_ | refine SL.y (op_loadX ty59 rfl (by assumption) rfl) rfl rfl ?_
    first | refine SL.skip rfl rfl ?_ | refine SL.y (op_eqlT rfl rfl (by omega)) rfl rfl ?_ | refine SL.y (op_eqlF rfl rfl (by omega)) rfl rfl ?_ | refine SL.y (op_eql rfl rfl) rfl rfl ?_
    first | refine SL.y (op_pickT rfl rfl) rfl rfl ?_ | refine SL.y (op_pickF rfl rfl) rfl rfl ?_ | refine SL.y (op_pickB rfl rfl rfl) rfl rfl ?_
    refine SL.y (op_move rfl) rfl rfl ?_
    first | refine SL.skip rfl rfl ?_ | refine SL.y (op_fieldAddr fa61_2 rfl) rfl rfl ?_
    first | refine SL.skip rfl rfl ?_ | refine SL.y (op_load ty9 rfl (by repeat constructor) rfl) rfl rfl ?_ | refine SL.y (op_loadX ty9 rfl (by assumption) rfl) rfl rfl ?_
    first | refine SL.skip rfl rfl ?_ | refine SL.y (op_fieldAddr fa61_2 rfl) rfl rfl ?_
    first | refine SL.skip rfl rfl ?_ | refine SL.y (op_load ty9 rfl (by repeat constructor) rfl) rfl rfl ?_ | refine SL.y (op_loadX ty9 rfl (by assumption) rfl) rfl rfl ?_
    first | refine SL.skip rfl rfl ?_ | refine SL.y (op_eqlStrD rfl rfl) rfl rfl ?_
    rw [decide_eq_false h3]
    first | refine SL.y (op_pickT rfl rfl) rfl rfl ?_ | refine SL.y (op_pickF rfl rfl) rfl rfl ?_ | refine SL.y (op_pickB rfl rfl rfl) rfl rfl ?_
    refine SL.y (op_move rfl) rfl rfl ?_
    first | refine SL.skip rfl rfl ?_ | refine SL.y (op_fieldAddr fa61_3 rfl) rfl rfl ?_
    first | refine SL.skip rfl rfl ?_ | refine SL.y (op_load ty34 rfl (by repeat constructor) rfl) rfl rfl ?_ | refine SL.y (op_loadX ty34 rfl (by assumption) rfl) rfl rfl ?_
    first | refine SL.skip rfl rfl ?_ | refine SL.y (op_fieldAddr fa61_3 rfl) rfl rfl ?_
    first | refine SL.skip rfl rfl ?_ | refine SL.y (op_load ty34 rfl (by repeat constructor) rfl) rfl rfl ?_ | refine SL.y (op_loadX ty34 rfl (by assumption) rfl) rfl rfl ?_
    refine SL.skip rfl rfl ?_
    first | refine SL.y (op_pickT rfl rfl) rfl rfl ?_ | refine SL.y (op_pickF rfl rfl) rfl rfl ?_ | refine SL.y (op_pickB rfl rfl rfl) rfl rfl ?_
    refine SL.y (op_assign rfl) rfl rfl ?_
    refine SL.nil ?_
    refine T.ret1 rfl (ResIs.tmp rfl) ?_
    rw [decide_eq_false fun e => h3 (con_eq.1 e).2.2.1]
  refine Spec.enter Tryd.func57 rfl Tryd.ntmps57 rfl ?_
  intro w0 hw0
  refine T.seq ?_
  refine T.region ?_
  refine SL.x (op_box rfl) rfl rfl ?_
  rintro _ _ _ ⟨B2, rfl, rfl, rfl⟩
  refine SL.x (op_box rfl) rfl rfl ?_
  rintro _ _ _ ⟨B3, rfl, rfl, rfl⟩
  refine SL.y (op_assign rfl) rfl rfl ?_
  refine SL.nil ?_
  refine T.seq ?_
  refine T.region ?_
  refine SL.y (op_fieldAddr fa61_0 rfl) rfl rfl ?_
  first | refine SL.y (op_load ty4 rfl (by repeat constructor) rfl) rfl rfl ?_ | refine SL.y (op_loadX ty4 rfl (by assumption) rfl) rfl rfl ?_
  refine SL.y (op_fieldAddr fa61_0 rfl) rfl rfl ?_
  first | refine SL.y (op_load ty4 rfl (by repeat constructor) rfl) rfl rfl ?_ | refine SL.y (op_loadX ty4 rfl (by assumption) rfl) rfl rfl ?_
  refine SL.y (op_eqlBb Tryd.underlying4 rfl rfl) rfl rfl ?_
  rw [show (e == e) = true by simp]
  refine SL.y (op_move rfl) rfl rfl ?_
  first | refine SL.skip rfl rfl ?_ | refine SL.y (op_fieldAddr fa61_1 rfl) rfl rfl ?_
  first | refine SL.skip rfl rfl ?_ | refine SL.y (op_load ty59 rfl (by repeat constructor) rfl) rfl rfl ?_ | refine SL.y (op_loadX ty59 rfl (by assumption) rfl) rfl rfl ?_
  first | refine SL.skip rfl rfl ?_ | refine SL.y (op_fieldAddr fa61_1 rfl) rfl rfl ?_
  first | refine SL.skip rfl rfl ?_ | refine SL.y (op_load ty59 rfl (by repeat constructor) rfl) rfl rfl ?_ | refine SL.y (op_loadX ty59 rfl (by assumption) rfl) rfl rfl ?_
  first | refine SL.skip rfl rfl ?_ | refine SL.y (op_eqlT rfl rfl (by omega)) rfl rfl ?_ | refine SL.y (op_eqlF rfl rfl (by omega)) rfl rfl ?_ | refine SL.y (op_eql rfl rfl) rfl rfl ?_
  first | refine SL.y (op_pickT rfl rfl) rfl rfl ?_ | refine SL.y (op_pickF rfl rfl) rfl rfl ?_ | refine SL.y (op_pickB rfl rfl rfl) rfl rfl ?_
  refine SL.y (op_move rfl) rfl rfl ?_
  first | refine SL.skip rfl rfl ?_ | refine SL.y (op_fieldAddr fa61_2 rfl) rfl rfl ?_
  first | refine SL.skip rfl rfl ?_ | refine SL.y (op_load ty9 rfl (by repeat constructor) rfl) rfl rfl ?_ | refine SL.y (op_loadX ty9 rfl (by assumption) rfl) rfl rfl ?_
  first | refine SL.skip rfl rfl ?_ | refine SL.y (op_fieldAddr fa61_2 rfl) rfl rfl ?_
  first | refine SL.skip rfl rfl ?_ | refine SL.y (op_load ty9 rfl (by repeat constructor) rfl) rfl rfl ?_ | refine SL.y (op_loadX ty9 rfl (by assumption) rfl) rfl rfl ?_
  first | refine SL.skip rfl rfl ?_ | refine SL.y (op_eqlStrD rfl rfl) rfl rfl ?_
  rw [decide_eq_true h3]
  first | refine SL.y (op_pickT rfl rfl) rfl rfl ?_ | refine SL.y (op_pickF rfl rfl) rfl rfl ?_ | refine SL.y (op_pickB rfl rfl rfl) rfl rfl ?_
  refine SL.y (op_move rfl) rfl rfl ?_
  first | refine SL.skip rfl rfl ?_ | refine SL.y (op_fieldAddr fa61_3 rfl) rfl rfl ?_
  first | refine SL.skip rfl rfl ?_ | refine SL.y (op_load ty34 rfl (by repeat constructor) rfl) rfl rfl ?_ | refine SL.y (op_loadX ty34 rfl (by assumption) rfl) rfl rfl ?_
  first | refine SL.skip rfl rfl ?_ | refine SL.y (op_fieldAddr fa61_3 rfl) rfl rfl ?_
  first | refine SL.skip rfl rfl ?_ | refine SL.y (op_load ty34 rfl (by repeat constructor) rfl) rfl rfl ?_ | refine SL.y (op_loadX ty34 rfl (by assumption) rfl) rfl rfl ?_
  refine SL.x (op_callF en33 (vs := [_, _]) rfl (hcall)) rfl rfl ?_
  rintro _ _ X2 ⟨rfl, hX2, rfl⟩
  first | refine SL.y (op_pickT rfl rfl) rfl rfl ?_ | refine SL.y (op_pickF rfl rfl) rfl rfl ?_ | refine SL.y (op_pickB rfl rfl rfl) rfl rfl ?_
  refine SL.y (op_assign rfl) rfl rfl ?_
  refine SL.nil ?_
  refine T.ret1 rfl (ResIs.tmp rfl) ?_
  congr 1
  exact decide_eq_decide.2 (by rw [con_eq]; simp [h2, h3])
end Go.Proofs.YtaooojjhlngcmaaDoor
namespace Go.Proofs.YtaooojjhlngcmaaDoor
section
set_option maxRecDepth 100000
theorem en17 : Enters Tryd.prog 17 := enters_mk Tryd.func17 (by kernel_rfl) rfl
theorem en43 : Enters Tryd.prog 43 := enters_mk Tryd.func43 (by kernel_rfl) rfl
theorem en44 : Enters Tryd.prog 44 := enters_mk Tryd.func44 (by kernel_rfl) rfl
theorem en45 : Enters Tryd.prog 45 := enters_mk Tryd.func45 (by kernel_rfl) rfl
theorem en74 : Enters Tryd.prog 74 := enters_mk Tryd.func74 (by kernel_rfl) rfl
end
open Go.RowKit
theorem sameName_spec {X : PMap} {B : Nat} {c : Con} {w1 w2 w3 w4 : Value} {d : Row7} (hB : Blk X B (rc7 (c.enf, c.kind, c.name, w1, w2, w3, w4))) (hd : ∃ (o : Nat) (n : Int) (A B : Option Addr) (l c1 l' c' : Nat), d.2.2.2 = (.int .u8 (o : Int), .int .i64 n, .slice A l c1, .slice B l' c')) : Spec Tryd.prog 44 [.agg (rc7 d).toArray, .pointer (some ⟨B, 0, none⟩)] X fun u _ => u = .bool (decide (d.2.2.1 = c.name)) := by
  obtain ⟨e, k, s, r⟩ := d
  obtain ⟨o, n, A, Bb, l, c1, l', c', hr⟩ := hd
  simp only at hr
  subst hr
  refine Spec.enter Tryd.func44 rfl Tryd.ntmps44 rfl ?_
  intro w0 hw0
  refine T.seq ?_
  refine T.region ?_
  refine SL.x (op_box rfl) rfl rfl ?_
  rintro _ _ _ ⟨B2, rfl, rfl, rfl⟩
  refine SL.y (op_assign rfl) rfl rfl ?_
  refine SL.nil ?_
  refine T.seq ?_
  refine T.region ?_
  refine SL.y (op_fieldAddr fa61_2 rfl) rfl rfl ?_
  first | refine SL.y (op_load ty9 rfl (by repeat constructor) rfl) rfl rfl ?_ | refine SL.y (op_loadX ty9 rfl (by assumption) rfl) rfl rfl ?_
  refine SL.y (op_fieldAddr fa61_2 rfl) rfl rfl ?_
  first | refine SL.y (op_load ty9 rfl (by repeat constructor) rfl) rfl rfl ?_ | refine SL.y (op_loadX ty9 rfl (by assumption) rfl) rfl rfl ?_
  refine SL.y (op_eqlStrD rfl rfl) rfl rfl ?_
  refine SL.y (op_assign rfl) rfl rfl ?_
  refine SL.nil ?_
  refine T.ret1 rfl (ResIs.tmp rfl) ?_
  rfl
theorem idxC_spec {X : PMap} {v : Value} {B : Nat} {c : Con} {w1 w2 w3 w4 : Value} {cs : List Con} (h : ConsR X v cs) (hB : Blk X B (rc7 (c.enf, c.kind, c.name, w1, w2, w3, w4))) (hl : cs.length < 1000) : Spec Tryd.prog 74 [v, .func (.func 44) #[] #[.pointer (some ⟨B, 0, none⟩)]] X fun u _ => ∃ k : Int, u = .int .i64 k ∧ (0 ≤ k ↔ c.name ∈ cs.map (·.name)) := by
  obtain ⟨rows, hr, hrl, hrow⟩ := h
  obtain ⟨A, cp, rfl⟩ := hr.form
  refine Spec.enter Tryd.func74 rfl Tryd.ntmps74 rfl ?_
  intro w0 hw0
  refine T.seq ?_
  refine T.region ?_
  refine SL.y (op_assign (v := .int .i64 ((0 : Nat) : Int)) rfl) rfl rfl ?_
  refine SL.nil ?_
  refine T.seq ?_
  refine T.seq ?_
  refine T.region ?_
  refine SL.y (op_move rfl) rfl rfl ?_
  refine SL.y (op_lenS Tryd.underlying42 rfl) rfl rfl ?_
  refine SL.y (op_move (v := .int .i64 ((0 : Nat) : Int)) rfl) rfl rfl ?_
  refine SL.nil ?_
  refine T.block ?_
  refine T.loopW (fun m env own X' => ∃ i : Nat, m = rows.length - i ∧ i ≤ rows.length ∧ X.le X' ∧ (∀ q d, q < i → cs[q]? = some d → d.name ≠ c.name) ∧ env = [(0, .slice A rows.length cp), (1, .func (.func 44) #[] #[.pointer (some ⟨B, 0, none⟩)]), (7, .int .i64 (rows.length : Int)), (8, .int .i64 (i : Int))] ∧ own = []) rows.length ⟨0, by simp, by omega, PMap.le_refl _, fun q x hq => absurd hq (by omega), rfl, rfl⟩ (by repeat (first | exact Sub.nil | refine Sub.cons rfl ?_)) ?_
  rintro m _ _ X1 ⟨i, rfl, hi, hX1, hne, rfl, rfl⟩
  rcases Nat.lt_or_ge i rows.length with hil | hil
  · obtain ⟨r2, hr2⟩ : ∃ r2, rows[i]? = some r2 := ⟨_, List.getElem?_eq_getElem hil⟩
    obtain ⟨d, hd2⟩ : ∃ d, cs[i]? = some d := ⟨_, List.getElem?_eq_getElem (by omega)⟩
    have hrc := hrow i d r2 hd2 hr2
    obtain ⟨b, pre, rfl, hbA⟩ := hr.blk (by omega)
    have hf := hrc.2.2.2.form
    have hnm := hrc.2.2.1
    refine T.seq ?_
    refine T.region ?_
    first | refine SL.y (op_lssT rfl rfl (by omega)) rfl rfl ?_ | refine SL.y (op_lssF rfl rfl (by omega)) rfl rfl ?_ | refine SL.y (op_lss rfl rfl) rfl rfl ?_
    refine SL.nil ?_
    refine T.seq ?_
    refine T.condT rfl ?_
    refine T.skip ?_
    refine T.seq ?_
    refine T.block ?_
    refine T.seq ?_
    refine T.region ?_
    refine SL.y (op_move rfl) rfl rfl ?_
    refine SL.y (op_assign rfl) rfl rfl ?_
    refine SL.nil ?_
    refine T.seq ?_
    refine T.region ?_
    refine SL.y (op_move rfl) rfl rfl ?_
    refine SL.y (op_move rfl) rfl rfl ?_
    refine SL.y (op_move rfl) rfl rfl ?_
    first | refine SL.y (op_indexN Tryd.underlying42 ty61 rfl rfl (by omega)) rfl rfl ?_ | refine SL.y (op_index Tryd.underlying42 ty61 rfl rfl (by omega) (by omega)) rfl rfl ?_
    refine SL.y (op_loadX ty61 rfl (hbA.mono hX1) (row_read rc7_len hr2 (by omega))) rfl rfl ?_
    refine SL.x (op_call en44 rfl (vs := [_]) rfl (sameName_spec (hB.mono hX1) hf)) rfl rfl ?_
    rintro _ _ X2 ⟨rfl, hX2, rfl⟩
    rw [hnm]
    by_cases hc : d.name = c.name
    · rw [decide_eq_true hc]
      refine SL.nil ?_
      refine T.condT rfl ?_
      refine T.seq ?_
      refine T.region ?_
      refine SL.y (op_move rfl) rfl rfl ?_
      refine SL.y (op_assign rfl) rfl rfl ?_
      refine SL.nil ?_
      refine T.ret1 rfl (ResIs.tmp rfl) ?_
      exact ⟨_, rfl, fun _ => List.mem_map.2 ⟨d, List.mem_of_getElem? hd2, hc⟩, fun _ => by omega⟩
    · rw [decide_eq_false hc]
      refine SL.nil ?_
      refine T.condF rfl ?_
      refine T.skip ?_
      refine T.blk ?_
      refine T.region ?_
      first | refine SL.y (op_addN (q := 1) rfl rfl (by omega)) rfl rfl ?_ | refine SL.y (op_add rfl rfl (by omega) (by omega)) rfl rfl ?_ | refine SL.y (op_addW rfl rfl) rfl rfl ?_
      refine SL.y (op_move rfl) rfl rfl ?_
      refine SL.nil ?_
      have hne2 : ∀ (q : Nat) (y : Con), q < i + 1 → cs[q]? = some y → y.name ≠ c.name := fun q y hq hy => by
        rcases Nat.lt_or_ge q i with h1 | h1
        · exact hne q y h1 hy
        · obtain rfl : q = i := by omega
          rw [hd2] at hy; cases hy; exact hc
      exact T.backW (rows.length - (i + 1)) (by omega) ⟨i + 1, rfl, by omega, hX1.trans' hX2, hne2, rfl, rfl⟩ (by repeat (first | exact Sub.nil | refine Sub.cons rfl ?_))
  · refine T.seq ?_
    refine T.region ?_
    first | refine SL.y (op_lssT rfl rfl (by omega)) rfl rfl ?_ | refine SL.y (op_lssF rfl rfl (by omega)) rfl rfl ?_ | refine SL.y (op_lss rfl rfl) rfl rfl ?_
    refine SL.nil ?_
    refine T.seq ?_
    refine T.condF rfl ?_
    refine T.exit (T.exitCode (T.exitCut (T.exitBlk ?_)))
    refine T.seq ?_
    refine T.region ?_
    refine SL.y (op_assign rfl) rfl rfl ?_
    refine SL.nil ?_
    refine T.ret1 rfl (ResIs.tmp rfl) ?_
    refine ⟨_, rfl, fun h => absurd h (by omega), fun hm => ?_⟩
    obtain ⟨d, hd, hdn⟩ := List.mem_map.1 hm
    obtain ⟨q, hq⟩ := List.mem_iff_getElem?.1 hd
    have h1 := (List.getElem?_eq_some_iff.1 hq).1
    exact absurd hdn (hne q d (by omega) hq)
theorem conC_spec {X : PMap} {v : Value} {B : Nat} {c : Con} {w1 w2 w3 w4 : Value} {cs : List Con} (h : ConsR X v cs) (hB : Blk X B (rc7 (c.enf, c.kind, c.name, w1, w2, w3, w4))) (hl : cs.length < 1000) : Spec Tryd.prog 43 [v, .func (.func 44) #[] #[.pointer (some ⟨B, 0, none⟩)]] X fun u _ => u = .bool (decide (c.name ∈ cs.map (·.name))) := by
  obtain ⟨A, cp, rfl⟩ : ∃ A cp, v = .slice A cs.length cp := by
    obtain ⟨rows, hr, hrl, _⟩ := h
    obtain ⟨A, cp, rfl⟩ := hr.form
    exact ⟨A, cp, by rw [hrl]⟩
  refine Spec.enter Tryd.func43 rfl Tryd.ntmps43 rfl ?_
  intro w0 hw0
  refine T.seq ?_
  refine T.region ?_
  refine SL.y (op_assign rfl) rfl rfl ?_
  refine SL.nil ?_
  refine T.seq ?_
  refine T.region ?_
  refine SL.y (op_move rfl) rfl rfl ?_
  refine SL.y (op_move rfl) rfl rfl ?_
  refine SL.x (op_callF en74 (vs := [_, _]) rfl (idxC_spec h hB hl)) rfl rfl ?_
  rintro _ _ X1 ⟨rfl, hX1, k, rfl, hk⟩
  refine SL.y (op_geq rfl rfl) rfl rfl ?_
  refine SL.y (op_assign rfl) rfl rfl ?_
  refine SL.nil ?_
  refine T.ret1 rfl (ResIs.tmp rfl) ?_
  simp only [hk]
theorem chkCs_at {cs : List Con} {i : Nat} {c : Con} (h0 : chkCs [] (cs.take i) = 0) (hc : cs[i]? = some c) (hz : errC ((cs.take i).map (·.name)) c ≠ 0) : chkCs [] cs = errC ((cs.take i).map (·.name)) c := by
  obtain ⟨h1, h2⟩ := List.getElem?_eq_some_iff.1 hc
  have e : cs = cs.take i ++ c :: cs.drop (i + 1) := by rw [← h2, ← List.drop_eq_getElem_cons h1, List.take_append_drop]
  have : chkCs [] (cs.take i ++ c :: cs.drop (i + 1)) = errC ((cs.take i).map (·.name)) c := by
    rw [chkCs_app, if_neg (by simp [h0]), List.nil_append, chkCs, if_pos hz]
  rwa [← e] at this
theorem chkCs_snoc {cs : List Con} {i : Nat} {c : Con} (h0 : chkCs [] (cs.take i) = 0) (hc : cs[i]? = some c) (hz : errC ((cs.take i).map (·.name)) c = 0) : chkCs [] (cs.take (i + 1)) = 0 := by
  rw [take_snoc hc, chkCs_app, if_neg (by simp [h0]), List.nil_append, chkCs, if_neg (fun h => h hz), chkCs]
theorem check_spec {M : Nat} {X : PMap} (hI : ItoaOk M X) {v : Value} {cs : List Con} (h : ConsR X v cs) (hl : cs.length ≤ 40) (h0 : 0 < cs.length) (hw : wtC cs < 15000000) (hww : ∀ c ∈ cs, wtE c.ex < 900000) (hn : ∀ c ∈ cs, chkE c.ex = 0 → numE M c.ex)
    : Spec Tryd.prog 17 [v] X fun u _ => u = .int .i64 (chkAll cs) := by
  have hcs := h
  obtain ⟨rows, hr, hrl, hrow⟩ := h
  obtain ⟨A, cp, rfl⟩ := hr.form
  have hcap := hr.cap (by omega)
  by_cases h32 : 32 < cs.length
  · refine Spec.enter Tryd.func17 rfl Tryd.ntmps17 rfl ?_
    intro w0 hw0
    refine T.seq ?_
    refine T.region ?_
    refine SL.y (op_assign (v := .int .i64 ((0 : Nat) : Int)) rfl) rfl rfl ?_
    refine SL.nil ?_
    refine T.seq ?_
    refine T.seq ?_
    refine T.region ?_
    refine SL.y (op_move rfl) rfl rfl ?_
    refine SL.y (op_lenS Tryd.underlying42 rfl) rfl rfl ?_
    first | refine SL.y (op_gtrT rfl rfl (by omega)) rfl rfl ?_ | refine SL.y (op_gtrF rfl rfl (by omega)) rfl rfl ?_ | refine SL.y (op_gtr rfl rfl) rfl rfl ?_
    refine SL.nil ?_
    refine T.condT rfl ?_
    refine T.seq ?_
    refine T.region ?_
    refine SL.y (op_assign (v := .int .i64 ((3 : Nat) : Int)) rfl) rfl rfl ?_
    refine SL.nil ?_
    refine T.ret1 rfl (ResIs.tmp rfl) ?_
    rw [chkAll, if_pos h32]; rfl
  refine Spec.enter Tryd.func17 rfl Tryd.ntmps17 rfl ?_
  intro w0 hw0
  refine T.seq ?_
  refine T.region ?_
  refine SL.y (op_assign (v := .int .i64 ((0 : Nat) : Int)) rfl) rfl rfl ?_
  refine SL.nil ?_
  refine T.seq ?_
  refine T.seq ?_
  refine T.region ?_
  refine SL.y (op_move rfl) rfl rfl ?_
  refine SL.y (op_lenS Tryd.underlying42 rfl) rfl rfl ?_
  first | refine SL.y (op_gtrT rfl rfl (by omega)) rfl rfl ?_ | refine SL.y (op_gtrF rfl rfl (by omega)) rfl rfl ?_ | refine SL.y (op_gtr rfl rfl) rfl rfl ?_
  refine SL.nil ?_
  refine T.condF rfl ?_
  refine T.skip ?_
  refine T.seq ?_
  refine T.seq ?_
  refine T.region ?_
  refine SL.y (op_move rfl) rfl rfl ?_
  refine SL.y (op_lenS Tryd.underlying42 rfl) rfl rfl ?_
  refine SL.y (op_move (v := .int .i64 ((0 : Nat) : Int)) rfl) rfl rfl ?_
  refine SL.nil ?_
  refine T.block ?_
  refine T.loopW (fun m env own X' => ∃ i : Nat, m = rows.length - i ∧ i ≤ rows.length ∧ X.le X' ∧ chkCs [] (cs.take i) = 0 ∧ env = [(0, .slice A rows.length cp), (9, .slice A rows.length cp), (10, .int .i64 (rows.length : Int)), (11, .int .i64 (i : Int))] ∧ own = []) rows.length ⟨0, by simp, by omega, PMap.le_refl _, by simp [chkCs], rfl, rfl⟩ (by repeat (first | exact Sub.nil | refine Sub.cons rfl ?_)) ?_
  rintro m _ _ X1 ⟨i, rfl, hi, hX1, hz0, rfl, rfl⟩
  rcases Nat.lt_or_ge i rows.length with hil | hil
  · obtain ⟨r2, hr2⟩ : ∃ r2, rows[i]? = some r2 := ⟨_, List.getElem?_eq_getElem hil⟩
    obtain ⟨c, hc2⟩ : ∃ c, cs[i]? = some c := ⟨_, List.getElem?_eq_getElem (by omega)⟩
    have hmc := List.mem_of_getElem? hc2
    have hrc := hrow i c r2 hc2 hr2
    have htk : ConsR X (.slice (slA A cp 0 7) i cp) (cs.take i) := ⟨rows.take i, hr.take (sz := 7) (by omega), by rw [List.length_take, List.length_take]; omega, fun q d r a b => by
      rw [List.getElem?_take] at a b
      split at a
      · rename_i hq
        rw [if_pos hq] at b
        exact hrow q d r a b
      · cases a⟩
    obtain ⟨bA, pre, rfl, hbA⟩ := hr.blk (by omega)
    obtain ⟨o8, n8, a8, b8, l8, c8, l9, c9, rfl⟩ := hrc.form
    have hex := hrc.2.2.2
    simp only at hex
    have hwe := hww c hmc
    have hlt : (cs.take i).length < 1000 := by rw [List.length_take]; omega
    refine T.seq ?_
    refine T.region ?_
    first | refine SL.y (op_lssT rfl rfl (by omega)) rfl rfl ?_ | refine SL.y (op_lssF rfl rfl (by omega)) rfl rfl ?_ | refine SL.y (op_lss rfl rfl) rfl rfl ?_
    refine SL.nil ?_
    refine T.seq ?_
    refine T.condT rfl ?_
    refine T.skip ?_
    refine T.seq ?_
    refine T.block ?_
    refine T.seq ?_
    refine T.region ?_
    refine SL.y (op_move rfl) rfl rfl ?_
    first | refine SL.y (op_indexN Tryd.underlying42 ty61 rfl rfl (by omega)) rfl rfl ?_ | refine SL.y (op_index Tryd.underlying42 ty61 rfl rfl (by omega) (by omega)) rfl rfl ?_
    refine SL.y (op_loadX (v := .agg #[.bool c.enf, .int .u8 (c.kind : Int), .string c.name, .int .u8 (o8 : Int), .int .i64 n8, .slice a8 l8 c8, .slice b8 l9 c9]) ty61 rfl (hbA.mono hX1) (row_read rc7_len hr2 (by omega))) rfl rfl ?_
    by_cases hk1 : c.kind < 1
    · have he : errC ((cs.take i).map (·.name)) c = 1 := by rw [errC, if_pos (.inl hk1)]
      refine SL.x (op_alloc z61) rfl rfl ?_
      rintro _ _ _ ⟨B4, rfl, rfl, rfl⟩
      refine SL.y (op_assign rfl) rfl rfl ?_
      refine SL.x (op_store ty61 rfl rfl (by repeat constructor) rfl rfl rfl) rfl rfl ?_
      rintro _ _ _ ⟨rfl, rfl⟩
      refine SL.nil ?_
      refine T.seq ?_
      refine T.block ?_
      refine T.seq ?_
      refine T.region ?_
      refine SL.y (op_fieldAddr fa61_1 rfl) rfl rfl ?_
      first | refine SL.y (op_load ty59 rfl (by repeat constructor) rfl) rfl rfl ?_ | refine SL.y (op_loadX ty59 rfl (by assumption) rfl) rfl rfl ?_
      first | refine SL.y (op_lssT rfl rfl (by omega)) rfl rfl ?_ | refine SL.y (op_lssF rfl rfl (by omega)) rfl rfl ?_ | refine SL.y (op_lss rfl rfl) rfl rfl ?_
      refine SL.y (op_move rfl) rfl rfl ?_
      first | refine SL.skip rfl rfl ?_ | refine SL.y (op_fieldAddr fa61_1 rfl) rfl rfl ?_
      first | refine SL.skip rfl rfl ?_ | refine SL.y (op_load ty59 rfl (by repeat constructor) rfl) rfl rfl ?_ | refine SL.y (op_loadX ty59 rfl (by assumption) rfl) rfl rfl ?_
      first | refine SL.skip rfl rfl ?_ | refine SL.y (op_gtrT rfl rfl (by omega)) rfl rfl ?_ | refine SL.y (op_gtrF rfl rfl (by omega)) rfl rfl ?_ | refine SL.y (op_gtr rfl rfl) rfl rfl ?_
      first | refine SL.y (op_pickT rfl rfl) rfl rfl ?_ | refine SL.y (op_pickF rfl rfl) rfl rfl ?_ | refine SL.y (op_pickB rfl rfl rfl) rfl rfl ?_
      refine SL.y (op_assign rfl) rfl rfl ?_
      refine SL.nil ?_
      refine T.condT rfl ?_
      refine T.seq ?_
      refine T.region ?_
      refine SL.y (op_assign (v := .int .i64 ((1 : Nat) : Int)) rfl) rfl rfl ?_
      refine SL.nil ?_
      refine T.ret1 rfl (ResIs.tmp rfl) ?_
      rw [chkAll, if_neg h32, chkCs_at hz0 hc2 (by rw [he]; decide), he]; rfl
    by_cases hk3 : 3 < c.kind
    · have he : errC ((cs.take i).map (·.name)) c = 1 := by rw [errC, if_pos (.inr hk3)]
      refine SL.x (op_alloc z61) rfl rfl ?_
      rintro _ _ _ ⟨B4, rfl, rfl, rfl⟩
      refine SL.y (op_assign rfl) rfl rfl ?_
      refine SL.x (op_store ty61 rfl rfl (by repeat constructor) rfl rfl rfl) rfl rfl ?_
      rintro _ _ _ ⟨rfl, rfl⟩
      refine SL.nil ?_
      refine T.seq ?_
      refine T.block ?_
      refine T.seq ?_
      refine T.region ?_
      refine SL.y (op_fieldAddr fa61_1 rfl) rfl rfl ?_
      first | refine SL.y (op_load ty59 rfl (by repeat constructor) rfl) rfl rfl ?_ | refine SL.y (op_loadX ty59 rfl (by assumption) rfl) rfl rfl ?_
      first | refine SL.y (op_lssT rfl rfl (by omega)) rfl rfl ?_ | refine SL.y (op_lssF rfl rfl (by omega)) rfl rfl ?_ | refine SL.y (op_lss rfl rfl) rfl rfl ?_
      refine SL.y (op_move rfl) rfl rfl ?_
      first | refine SL.skip rfl rfl ?_ | refine SL.y (op_fieldAddr fa61_1 rfl) rfl rfl ?_
      first | refine SL.skip rfl rfl ?_ | refine SL.y (op_load ty59 rfl (by repeat constructor) rfl) rfl rfl ?_ | refine SL.y (op_loadX ty59 rfl (by assumption) rfl) rfl rfl ?_
      first | refine SL.skip rfl rfl ?_ | refine SL.y (op_gtrT rfl rfl (by omega)) rfl rfl ?_ | refine SL.y (op_gtrF rfl rfl (by omega)) rfl rfl ?_ | refine SL.y (op_gtr rfl rfl) rfl rfl ?_
      first | refine SL.y (op_pickT rfl rfl) rfl rfl ?_ | refine SL.y (op_pickF rfl rfl) rfl rfl ?_ | refine SL.y (op_pickB rfl rfl rfl) rfl rfl ?_
      refine SL.y (op_assign rfl) rfl rfl ?_
      refine SL.nil ?_
      refine T.condT rfl ?_
      refine T.seq ?_
      refine T.region ?_
      refine SL.y (op_assign (v := .int .i64 ((1 : Nat) : Int)) rfl) rfl rfl ?_
      refine SL.nil ?_
      refine T.ret1 rfl (ResIs.tmp rfl) ?_
      rw [chkAll, if_neg h32, chkCs_at hz0 hc2 (by rw [he]; decide), he]; rfl
    have hk : ¬(c.kind < 1 ∨ 3 < c.kind) := fun h => by omega
    refine SL.x (op_alloc z61) rfl rfl ?_
    rintro _ _ _ ⟨B4, rfl, rfl, rfl⟩
    refine SL.y (op_assign rfl) rfl rfl ?_
    refine SL.x (op_store ty61 rfl rfl (by repeat constructor) rfl rfl rfl) rfl rfl ?_
    rintro _ _ _ ⟨rfl, rfl⟩
    refine SL.nil ?_
    refine T.seq ?_
    refine T.block ?_
    refine T.seq ?_
    refine T.region ?_
    refine SL.y (op_fieldAddr fa61_1 rfl) rfl rfl ?_
    first | refine SL.y (op_load ty59 rfl (by repeat constructor) rfl) rfl rfl ?_ | refine SL.y (op_loadX ty59 rfl (by assumption) rfl) rfl rfl ?_
    first | refine SL.y (op_lssT rfl rfl (by omega)) rfl rfl ?_ | refine SL.y (op_lssF rfl rfl (by omega)) rfl rfl ?_ | refine SL.y (op_lss rfl rfl) rfl rfl ?_
    refine SL.y (op_move rfl) rfl rfl ?_
    first | refine SL.skip rfl rfl ?_ | refine SL.y (op_fieldAddr fa61_1 rfl) rfl rfl ?_
    first | refine SL.skip rfl rfl ?_ | refine SL.y (op_load ty59 rfl (by repeat constructor) rfl) rfl rfl ?_ | refine SL.y (op_loadX ty59 rfl (by assumption) rfl) rfl rfl ?_
    first | refine SL.skip rfl rfl ?_ | refine SL.y (op_gtrT rfl rfl (by omega)) rfl rfl ?_ | refine SL.y (op_gtrF rfl rfl (by omega)) rfl rfl ?_ | refine SL.y (op_gtr rfl rfl) rfl rfl ?_
    first | refine SL.y (op_pickT rfl rfl) rfl rfl ?_ | refine SL.y (op_pickF rfl rfl) rfl rfl ?_ | refine SL.y (op_pickB rfl rfl rfl) rfl rfl ?_
    refine SL.y (op_assign rfl) rfl rfl ?_
    refine SL.nil ?_
    refine T.pub B4 (by repeat constructor) ?_
    intro X2 hX2 hB4 _
    have hB4 : Blk X2 B4 (rc7 (c.enf, c.kind, c.name, .int .u8 (o8 : Int), .int .i64 n8, .slice a8 l8 c8, .slice b8 l9 c9)) := hB4
    refine T.condF rfl ?_
    refine T.seq ?_
    refine T.region ?_
    refine SL.y (op_fieldAddr fa61_2 rfl) rfl rfl ?_
    first | refine SL.y (op_load ty9 rfl (by repeat constructor) rfl) rfl rfl ?_ | refine SL.y (op_loadX ty9 rfl (by assumption) rfl) rfl rfl ?_
    refine SL.x (op_callF en42 (vs := [_]) rfl (nvalid_spec)) rfl rfl ?_
    rintro _ _ X3 ⟨rfl, hX3, rfl⟩
    by_cases hv : validS c.name
    case neg =>
      have he : errC ((cs.take i).map (·.name)) c = 9 := by rw [errC, if_neg hk, if_pos hv]
      rw [decide_eq_false hv]
      refine SL.y (op_not rfl) rfl rfl ?_
      refine SL.y (op_assign rfl) rfl rfl ?_
      refine SL.nil ?_
      refine T.condT rfl ?_
      refine T.seq ?_
      refine T.region ?_
      refine SL.y (op_assign (v := .int .i64 ((9 : Nat) : Int)) rfl) rfl rfl ?_
      refine SL.nil ?_
      refine T.ret1 rfl (ResIs.tmp rfl) ?_
      rw [chkAll, if_neg h32, chkCs_at hz0 hc2 (by rw [he]; decide), he]; rfl
    rw [decide_eq_true hv]
    refine SL.y (op_not rfl) rfl rfl ?_
    refine SL.y (op_assign rfl) rfl rfl ?_
    refine SL.nil ?_
    refine T.condF rfl ?_
    refine T.seq ?_
    refine T.region ?_
    refine SL.y (op_move rfl) rfl rfl ?_
    refine SL.y (op_move rfl) rfl rfl ?_
    refine SL.y (op_sliceHi (l := i) Tryd.underlying42 ty61 rfl rfl (by omega)) rfl rfl ?_
    refine SL.y (op_makeFunc (vs := []) (us := [_]) rfl rfl) rfl rfl ?_
    have hcall := conC_spec (((htk.mono hX1).mono hX2).mono hX3) (hB4.mono hX3) hlt
    rw [List.length_take, Nat.min_eq_left (by omega)] at hlt
    refine SL.x (op_callF en43 (vs := [_, _]) rfl (hcall)) rfl rfl ?_
    rintro _ _ X4 ⟨rfl, hX4, rfl⟩
    by_cases hm : c.name ∈ (cs.take i).map (·.name)
    · have he : errC ((cs.take i).map (·.name)) c = 5 := by rw [errC, if_neg hk, if_neg (fun h => h hv), if_pos hm]
      rw [decide_eq_true hm]
      refine SL.y (op_assign rfl) rfl rfl ?_
      refine SL.nil ?_
      refine T.condT rfl ?_
      refine T.seq ?_
      refine T.region ?_
      refine SL.y (op_assign (v := .int .i64 ((5 : Nat) : Int)) rfl) rfl rfl ?_
      refine SL.nil ?_
      refine T.ret1 rfl (ResIs.tmp rfl) ?_
      rw [chkAll, if_neg h32, chkCs_at hz0 hc2 (by rw [he]; decide), he]; rfl
    rw [decide_eq_false hm]
    have he : errC ((cs.take i).map (·.name)) c = chkE c.ex := by rw [errC, if_neg hk, if_neg (fun h => h hv), if_neg hm]
    have hX14 := ((hX1.trans' hX2).trans' hX3).trans' hX4
    refine SL.y (op_assign rfl) rfl rfl ?_
    refine SL.nil ?_
    refine T.condF rfl ?_
    refine T.skip ?_
    refine T.blk ?_
    refine T.seq ?_
    refine T.region ?_
    refine SL.y (op_fieldAddr fa61_3 rfl) rfl rfl ?_
    refine SL.y (op_loadX ty34 rfl ((hB4.mono hX3).mono hX4) rfl) rfl rfl ?_
    refine SL.x (op_callF en13 (vs := [_]) rfl (chk_spec (by omega) (hex.mono hX14))) rfl rfl ?_
    rintro _ _ X5 ⟨rfl, hX5, rfl⟩
    by_cases hz : chkE c.ex = 0
    · skip
      refine SL.y (op_assign rfl) rfl rfl ?_
      refine SL.nil ?_
      refine T.seq ?_
      refine T.region ?_
      refine SL.y (op_move rfl) rfl rfl ?_
      first | refine SL.y (op_neqT rfl rfl (by omega)) rfl rfl ?_ | refine SL.y (op_neqF rfl rfl (by omega)) rfl rfl ?_ | refine SL.y (op_neq rfl rfl) rfl rfl ?_
      refine SL.nil ?_
      refine T.condF rfl ?_
      refine T.skip ?_
      refine T.blk ?_
      refine T.region ?_
      first | refine SL.y (op_addN (q := 1) rfl rfl (by omega)) rfl rfl ?_ | refine SL.y (op_add rfl rfl (by omega) (by omega)) rfl rfl ?_ | refine SL.y (op_addW rfl rfl) rfl rfl ?_
      refine SL.y (op_move rfl) rfl rfl ?_
      refine SL.nil ?_
      exact T.backW (rows.length - (i + 1)) (by omega) ⟨i + 1, rfl, by omega, hX14.trans' hX5, chkCs_snoc hz0 hc2 (he.trans hz), rfl, rfl⟩ (by repeat (first | exact Sub.nil | refine Sub.cons rfl ?_))
    · refine SL.y (op_assign rfl) rfl rfl ?_
      refine SL.nil ?_
      refine T.seq ?_
      refine T.region ?_
      refine SL.y (op_move rfl) rfl rfl ?_
      first | refine SL.y (op_neqT rfl rfl (by omega)) rfl rfl ?_ | refine SL.y (op_neqF rfl rfl (by omega)) rfl rfl ?_ | refine SL.y (op_neq rfl rfl) rfl rfl ?_
      refine SL.nil ?_
      refine T.condT rfl ?_
      refine T.seq ?_
      refine T.region ?_
      refine SL.y (op_move rfl) rfl rfl ?_
      refine SL.y (op_assign rfl) rfl rfl ?_
      refine SL.nil ?_
      refine T.ret1 rfl (ResIs.tmp rfl) ?_
      rw [chkAll, if_neg h32, chkCs_at hz0 hc2 (by rw [he]; exact hz), he, if_pos hz]
  · obtain rfl : i = rows.length := by omega
    have e : cs.take rows.length = cs := List.take_of_length_le (by omega)
    rw [e] at hz0
    have hll := linesL_len (cs := cs) fun c hc => (chkCs_mem hz0 c hc).2.2.1.2.1
    have hsz : (⟨(linesL cs).toArray⟩ : ByteArray).size = (linesL cs).length := by show (linesL cs).toArray.size = _; simp
    refine T.seq ?_
    refine T.region ?_
    first | refine SL.y (op_lssT rfl rfl (by omega)) rfl rfl ?_ | refine SL.y (op_lssF rfl rfl (by omega)) rfl rfl ?_ | refine SL.y (op_lss rfl rfl) rfl rfl ?_
    refine SL.nil ?_
    refine T.seq ?_
    refine T.condF rfl ?_
    refine T.exit (T.exitCode (T.exitCut (T.exitBlk ?_)))
    refine T.seq ?_
    refine T.seq ?_
    refine T.region ?_
    refine SL.y (op_move rfl) rfl rfl ?_
    refine SL.x (op_callF en45 (vs := [_]) rfl (lines_spec (hI.mono hX1) (hcs.mono hX1) hl h0 hw hww (fun c hc => hn c hc (chkCs_mem hz0 c hc).2.2.2) (chkCs_mem hz0))) rfl rfl ?_
    rintro _ _ X5 ⟨rfl, hX5, rfl⟩
    by_cases h8 : 8000 < (linesL cs).length
    · skip
      refine SL.y (op_lenStr Tryd.underlying9 rfl) rfl rfl ?_
      first | refine SL.y (op_gtrT rfl rfl (by omega)) rfl rfl ?_ | refine SL.y (op_gtrF rfl rfl (by omega)) rfl rfl ?_ | refine SL.y (op_gtr rfl rfl) rfl rfl ?_
      refine SL.nil ?_
      refine T.condT rfl ?_
      refine T.seq ?_
      refine T.region ?_
      refine SL.y (op_assign (v := .int .i64 ((3 : Nat) : Int)) rfl) rfl rfl ?_
      refine SL.nil ?_
      refine T.ret1 rfl (ResIs.tmp rfl) ?_
      rw [chkAll, if_neg h32, if_neg (by simp [hz0]), if_pos h8]; rfl
    · refine SL.y (op_lenStr Tryd.underlying9 rfl) rfl rfl ?_
      first | refine SL.y (op_gtrT rfl rfl (by omega)) rfl rfl ?_ | refine SL.y (op_gtrF rfl rfl (by omega)) rfl rfl ?_ | refine SL.y (op_gtr rfl rfl) rfl rfl ?_
      refine SL.nil ?_
      refine T.condF rfl ?_
      refine T.skip ?_
      refine T.seq ?_
      refine T.region ?_
      refine SL.y (op_assign (v := .int .i64 ((0 : Nat) : Int)) rfl) rfl rfl ?_
      refine SL.nil ?_
      refine T.ret1 rfl (ResIs.tmp rfl) ?_
      rw [chkAll, if_neg h32, if_neg (by simp [hz0]), if_neg h8]; rfl
theorem cprint_spec {M : Nat} {X : PMap} (hI : ItoaOk M X) {v : Value} {cs : List Con} (h : ConsR X v cs) (hl : cs.length ≤ 40) (h0 : 0 < cs.length) (hw : wtC cs < 15000000) (hww : ∀ c ∈ cs, wtE c.ex < 900000) (hn : ∀ c ∈ cs, chkE c.ex = 0 → numE M c.ex)
    : Spec Tryd.prog 36 [v] X fun u _ => u = .string (if chkAll cs = 0 then ⟨(linesL cs).toArray⟩ else ⟨#[]⟩) := by
  obtain ⟨A, cp, rfl⟩ : ∃ A cp, v = .slice A cs.length cp := by
    obtain ⟨rows, hr, hrl, _⟩ := h
    obtain ⟨A, cp, rfl⟩ := hr.form
    exact ⟨A, cp, by rw [hrl]⟩
  by_cases hc : chkAll cs = 0
  · have hz0 : chkCs [] cs = 0 := by
      unfold chkAll at hc
      split at hc
      · cases hc
      · split at hc
        · rename_i h2; exact absurd hc h2
        · rename_i h2; exact Decidable.not_not.1 h2
    refine Spec.enter Tryd.func36 rfl Tryd.ntmps36 rfl ?_
    intro w0 hw0
    refine T.seq ?_
    refine T.region ?_
    refine SL.y (op_assign rfl) rfl rfl ?_
    refine SL.nil ?_
    refine T.seq ?_
    refine T.seq ?_
    refine T.region ?_
    refine SL.y (op_move rfl) rfl rfl ?_
    refine SL.x (op_callF en17 (vs := [_]) rfl (check_spec hI h hl h0 hw hww hn)) rfl rfl ?_
    rintro _ _ X1 ⟨rfl, hX1, rfl⟩
    first | refine SL.y (op_neqT rfl rfl (by omega)) rfl rfl ?_ | refine SL.y (op_neqF rfl rfl (by omega)) rfl rfl ?_ | refine SL.y (op_neq rfl rfl) rfl rfl ?_
    refine SL.nil ?_
    refine T.condF rfl ?_
    refine T.skip ?_
    refine T.seq ?_
    refine T.region ?_
    refine SL.y (op_move rfl) rfl rfl ?_
    refine SL.x (op_callF en45 (vs := [_]) rfl (lines_spec (hI.mono hX1) (h.mono hX1) hl h0 hw hww (fun c hc => hn c hc (chkCs_mem hz0 c hc).2.2.2) (chkCs_mem hz0))) rfl rfl ?_
    rintro _ _ X2 ⟨rfl, hX2, rfl⟩
    refine SL.y (op_assign rfl) rfl rfl ?_
    refine SL.nil ?_
    refine T.ret1 rfl (ResIs.tmp rfl) ?_
    rw [if_pos hc]
  · refine Spec.enter Tryd.func36 rfl Tryd.ntmps36 rfl ?_
    intro w0 hw0
    refine T.seq ?_
    refine T.region ?_
    refine SL.y (op_assign rfl) rfl rfl ?_
    refine SL.nil ?_
    refine T.seq ?_
    refine T.seq ?_
    refine T.region ?_
    refine SL.y (op_move rfl) rfl rfl ?_
    refine SL.x (op_callF en17 (vs := [_]) rfl (check_spec hI h hl h0 hw hww hn)) rfl rfl ?_
    rintro _ _ X1 ⟨rfl, hX1, rfl⟩
    first | refine SL.y (op_neqT rfl rfl (by omega)) rfl rfl ?_ | refine SL.y (op_neqF rfl rfl (by omega)) rfl rfl ?_ | refine SL.y (op_neq rfl rfl) rfl rfl ?_
    refine SL.nil ?_
    refine T.condT rfl ?_
    refine T.seq ?_
    refine T.region ?_
    refine SL.y (op_assign rfl) rfl rfl ?_
    refine SL.nil ?_
    refine T.ret1 rfl (ResIs.tmp rfl) ?_
    rw [if_neg hc]
end Go.Proofs.YtaooojjhlngcmaaDoor
namespace Go.Proofs.YtaooojjhlngcmaaDoor
section
set_option maxRecDepth 100000
theorem en26 : Enters Tryd.prog 26 := enters_mk Tryd.func26 (by kernel_rfl) rfl
theorem en29 : Enters Tryd.prog 29 := enters_mk Tryd.func29 (by kernel_rfl) rfl
theorem en30 : Enters Tryd.prog 30 := enters_mk Tryd.func30 (by kernel_rfl) rfl
theorem en36 : Enters Tryd.prog 36 := enters_mk Tryd.func36 (by kernel_rfl) rfl
end
open Go.RowKit
theorem itoa10 {X : PMap} (v : Nat) (h : v < 10) : Spec Tryd.prog 82 [.int .i64 (v : Int)] X fun u _ => u = .string (decB v) := by
  have := itoa_spec (X := X) v h
  have e : decB v = ⟨#[UInt8.ofNat (48 + v)]⟩ := by rw [decB, decG, if_pos h]
  rwa [← e] at this
def leafE (s : ByteArray) : Ex := .mk 4 0 [s] []
theorem leaf_spec {X : PMap} {s : ByteArray} : Spec Tryd.prog 29 [.string s] X fun u X' => ∃ r : Row4, u = .agg #[r.1, r.2.1, r.2.2.1, r.2.2.2] ∧ ExR .u8 X' (leafE s) r := by
  refine Spec.enter Tryd.func29 rfl Tryd.ntmps29 rfl ?_
  intro w0 hw0
  refine T.seq ?_
  refine T.region ?_
  refine SL.x (op_alloc z34) rfl rfl ?_
  rintro _ _ _ ⟨B2, rfl, rfl, rfl⟩
  refine SL.nil ?_
  refine T.seq ?_
  refine T.region ?_
  refine SL.y (op_move rfl) rfl rfl ?_
  refine SL.x (op_buildSlice Tryd.underlying24 bs9 (qs := [(0, _)]) rfl rfl rfl rfl rfl) rfl rfl ?_
  rintro _ _ _ ⟨B4, rfl, rfl, rfl⟩
  refine SL.y (op_build st34 (qs := [(0, _), (2, _)]) rfl rfl) rfl rfl ?_
  refine SL.x (op_store ty34 rfl rfl (by repeat constructor) rfl rfl rfl) rfl rfl ?_
  rintro _ _ _ ⟨rfl, rfl⟩
  refine SL.nil ?_
  refine T.pub B4 (by repeat constructor) ?_
  intro X1 hX1 hB4 _
  refine T.ret1 rfl (ResIs.cell rfl ty34 (by repeat constructor) rfl) ?_
  exact ⟨(.int .u8 ((4 : Nat) : Int), .int .i64 0, .slice (some ⟨B4, 0, none⟩) 1 1, .slice none 0 0), rfl, .mk (rows := []) (.inr ⟨by simp, B4, 1, [], rfl, hB4, by simp, by decide⟩) (.inl ⟨rfl, _, _, rfl⟩) rfl (fun i a r h => by simp at h)⟩
theorem pair_spec {X : PMap} {op : Nat} {a b : Ex} {ra rb : Row4} (ha : ExR .u8 X a ra) (hb : ExR .u8 X b rb) : Spec Tryd.prog 30 [.int .u8 (op : Int), .agg #[ra.1, ra.2.1, ra.2.2.1, ra.2.2.2], .agg #[rb.1, rb.2.1, rb.2.2.1, rb.2.2.2]] X fun u X' => ∃ r : Row4, u = .agg #[r.1, r.2.1, r.2.2.1, r.2.2.2] ∧ ExR .u8 X' (.mk op 0 [] [a, b]) r := by
  obtain ⟨o1, n1, a1, b1, l1, c1, l2, c2, rfl⟩ := ha.form
  obtain ⟨o3, n3, a3, b3, l3, c3, l4, c4, rfl⟩ := hb.form
  refine Spec.enter Tryd.func30 rfl Tryd.ntmps30 rfl ?_
  intro w0 hw0
  refine T.seq ?_
  refine T.region ?_
  refine SL.x (op_box rfl) rfl rfl ?_
  rintro _ _ _ ⟨B4, rfl, rfl, rfl⟩
  refine SL.x (op_box rfl) rfl rfl ?_
  rintro _ _ _ ⟨B5, rfl, rfl, rfl⟩
  refine SL.x (op_alloc z34) rfl rfl ?_
  rintro _ _ _ ⟨B6, rfl, rfl, rfl⟩
  refine SL.nil ?_
  refine T.seq ?_
  refine T.region ?_
  refine SL.y (op_move rfl) rfl rfl ?_
  first | refine SL.y (op_load ty34 rfl (by repeat constructor) rfl) rfl rfl ?_ | refine SL.y (op_loadX ty34 rfl (by assumption) rfl) rfl rfl ?_
  first | refine SL.y (op_load ty34 rfl (by repeat constructor) rfl) rfl rfl ?_ | refine SL.y (op_loadX ty34 rfl (by assumption) rfl) rfl rfl ?_
  refine SL.x (op_buildSlice Tryd.underlying32 bs34 (qs := [(0, _), (1, _)]) rfl rfl rfl rfl rfl) rfl rfl ?_
  rintro _ _ _ ⟨B10, rfl, rfl, rfl⟩
  refine SL.y (op_build st34 (qs := [(0, _), (3, _)]) rfl rfl) rfl rfl ?_
  refine SL.x (op_store ty34 rfl rfl (by repeat constructor) rfl rfl rfl) rfl rfl ?_
  rintro _ _ _ ⟨rfl, rfl⟩
  refine SL.nil ?_
  refine T.pub B10 (by repeat constructor) ?_
  intro X1 hX1 hB10 _
  refine T.ret1 rfl (ResIs.cell rfl ty34 (by repeat constructor) rfl) ?_
  refine ⟨(.int .u8 (op : Int), .int .i64 0, .slice none 0 0, .slice (some ⟨B10, 0, none⟩) 2 2), rfl, .mk (rows := [(.int .u8 (o1 : Int), .int .i64 n1, .slice a1 l1 c1, .slice b1 l2 c2), (.int .u8 (o3 : Int), .int .i64 n3, .slice a3 l3 c3, .slice b3 l4 c4)]) (.inl ⟨rfl, _, _, rfl⟩) (.inr ⟨by simp, B10, 2, [], rfl, hB10, by simp, by decide⟩) rfl (fun i x r h h' => ?_)⟩
  match i, h, h' with
  | 0, h, h' => cases h; cases h'; exact ha.mono hX1
  | 1, h, h' => cases h; cases h'; exact hb.mono hX1
theorem valid_of {s : ByteArray} (h1 : s.size ≠ 0) (h2 : s.size ≤ 12) (h3 : s ∉ keyws) (h4 : (List.range s.size).all (fun k => match s[k]? with | some b => innB b && (k != 0 || letB b) | none => true) = true) : validS s := by
  refine ⟨h1, h2, h3, fun k b _ hb => ?_⟩
  have hk : k < s.size := by
    rcases Nat.lt_or_ge k s.size with h | h
    · exact h
    · rw [ByteArray.getElem?_ge' s k (by omega)] at hb; cases hb
  have := List.all_eq_true.1 h4 k (List.mem_range.2 hk)
  rw [hb] at this
  simp only [Bool.and_eq_true, Bool.or_eq_true, bne_iff_ne, ne_eq] at this
  exact ⟨this.1, fun h0 => this.2.resolve_left fun h => h h0⟩
theorem valA : validS ⟨#[97]⟩ := valid_of (by decide) (by decide) (by simp [keyws]) (by decide)
theorem valB : validS ⟨#[98]⟩ := valid_of (by decide) (by decide) (by simp [keyws]) (by decide)
theorem valC : validS ⟨#[99]⟩ := valid_of (by decide) (by decide) (by simp [keyws]) (by decide)
theorem valSod : validS ⟨#[115, 111, 100]⟩ := valid_of (by decide) (by decide) (by simp [keyws]) (by decide)
theorem node_of {op : Nat} {n : Int} {ns : List ByteArray} {al : List Ex} (h1 : ¬(op < 1 ∨ 16 < op ∨ al.length ≠ argN op)) (h2 : ¬((n ≠ 0 ∧ op ≠ 1) ∨ ¬namN op ns.length)) (h3 : ∀ s ∈ ns, validS s) (h4 : ns.Nodup) (h5 : ¬(n < 0 ∨ 999999 < n)) (h6 : nodeL al = 0) : nodeE (.mk op n ns al) = 0 := by
  rw [node_args (own0' h1 h2 h3 h4 h5), h6]
theorem nodeL_of {al : List Ex} (h : ∀ a ∈ al, nodeE a = 0) : nodeL al = 0 := by
  induction al with
  | nil => rfl
  | cons a al ih => rw [nodeL, if_neg (fun hh => hh (h a (by simp))), ih fun x hx => h x (by simp [hx])]
theorem leaf_node {s : ByteArray} (h : validS s) : nodeE (leafE s) = 0 := node_of (by decide) (fun h => h.elim (fun h => h.1 rfl) (fun h => h (show namN 4 1 by decide))) (fun t ht => by rw [List.mem_singleton.1 ht]; exact h) (by simp) (by decide) rfl
theorem two_node {op : Nat} {a b : Ex} (h1 : 8 ≤ op) (h2 : op ≤ 16) (ha : nodeE a = 0) (hb : nodeE b = 0) : nodeE (.mk op 0 [] [a, b]) = 0 := by
  refine node_of ?_ ?_ (fun t ht => by cases ht) (by simp) (by decide) (nodeL_of fun x hx => ?_)
  · have : argN op = 2 := by unfold argN; rw [if_neg (by omega), if_neg (by omega)]
    simp only [List.length_cons, List.length_nil]; omega
  · rintro (⟨h, _⟩ | h)
    · exact h rfl
    · refine h ?_
      unfold namN
      rw [if_neg (by omega), if_neg (by omega)]; rfl
  · rcases List.mem_cons.1 hx with rfl | hx
    · exact ha
    · rw [List.mem_singleton.1 hx]; exact hb
def lA : Ex := leafE ⟨#[97]⟩
def lB : Ex := leafE ⟨#[98]⟩
def lC : Ex := leafE ⟨#[99]⟩
def eNot : Ex := .mk 7 0 [] [.mk 8 0 [] [lA, lB]]
def eLe : Ex := .mk 11 0 [] [.mk 5 0 [⟨#[97]⟩, ⟨#[98]⟩] [], .mk 1 1 [] []]
theorem chk_of {e : Ex} (h1 : decide (depE e ≤ 10 ∧ sizE e ≤ 200) = true) (h2 : nodeE e = 0) : chkE e = 0 := by
  have := of_decide_eq_true h1
  rw [chkE, if_neg (by omega), h2]
theorem chk1 : chkE (.mk 8 0 [] [lA, .mk 8 0 [] [lB, lC]]) = 0 := chk_of (by kernel_rfl) (two_node (by decide) (by decide) (leaf_node valA) (two_node (by decide) (by decide) (leaf_node valB) (leaf_node valC)))
theorem chk2 : chkE (.mk 10 0 [] [lA, .mk 10 0 [] [lB, lC]]) = 0 := chk_of (by kernel_rfl) (two_node (by decide) (by decide) (leaf_node valA) (two_node (by decide) (by decide) (leaf_node valB) (leaf_node valC)))
theorem chk3 : chkE eNot = 0 := chk_of (by kernel_rfl) (node_of (by decide) (by decide) (fun t ht => by cases ht) (by simp) (by decide) (nodeL_of fun x hx => by rw [List.mem_singleton.1 hx]; exact two_node (by decide) (by decide) (leaf_node valA) (leaf_node valB)))
theorem chk4 : chkE eLe = 0 := chk_of (by kernel_rfl) (two_node (by decide) (by decide) (node_of (by decide) (by decide) (fun t ht => by
  rcases List.mem_cons.1 ht with rfl | ht
  · exact valA
  · rw [List.mem_singleton.1 ht]; exact valB) (by simp) (by decide) rfl) (node_of (by decide) (by decide) (fun t ht => by cases ht) (by simp) (by decide) rfl))
def cSod : Con := ⟨true, 1, ⟨#[115, 111, 100]⟩, eLe⟩
theorem chk5 : chkAll [cSod] = 0 := by
  have e : errC [] cSod = 0 := by
    rw [errC, if_neg (by decide), if_neg (fun h => h valSod), if_neg (by simp), show cSod.ex = eLe from rfl, chk4]
  have e2 : chkCs [] [cSod] = 0 := by rw [chkCs, if_neg (fun h => h e), chkCs]
  rw [chkAll, if_neg (by decide), if_neg (fun h => h e2), if_neg (of_decide_eq_true (by kernel_rfl))]
theorem num10 {e : Ex} (h : e = .mk 8 0 [] [lA, .mk 8 0 [] [lB, lC]] ∨ e = .mk 10 0 [] [lA, .mk 10 0 [] [lB, lC]] ∨ e = eNot ∨ e = eLe) : numE 10 e := by
  rcases h with rfl | rfl | rfl | rfl <;> simp [numE, numL, eNot, eLe, lA, lB, lC, leafE]
theorem tx1 : textE (.mk 8 0 [] [lA, .mk 8 0 [] [lB, lC]]) = ⟨#[97, 32, 97, 110, 100, 32, 40, 98, 32, 97, 110, 100, 32, 99, 41]⟩ := by kernel_rfl
theorem tx2 : textE (.mk 10 0 [] [lA, .mk 10 0 [] [lB, lC]]) = ⟨#[97, 32, 45, 62, 32, 98, 32, 45, 62, 32, 99]⟩ := by kernel_rfl
theorem tx3 : textE eNot = ⟨#[110, 111, 116, 32, 40, 97, 32, 97, 110, 100, 32, 98, 41]⟩ := by kernel_rfl
theorem tx4 : (⟨(linesL [cSod]).toArray⟩ : ByteArray) = ⟨#[101, 110, 102, 111, 114, 99, 101, 32, 115, 116, 97, 116, 105, 99, 32, 115, 111, 100, 58, 32, 99, 111, 117, 110, 116, 40, 97, 44, 32, 98, 41, 32, 60, 61, 32, 49, 59, 10]⟩ := by kernel_rfl
theorem awake16_spec {X : PMap} : Spec Tryd.prog 11 [] X fun u _ => u = .bool true := by
  have hI : ∀ {X : PMap}, ItoaOk 10 X := fun _ _ v h => itoa10 v h
  refine Spec.enter Tryd.func11 rfl Tryd.ntmps11 rfl ?_
  intro w0 hw0
  refine T.seq ?_
  refine T.region ?_
  refine SL.y (op_assign rfl) rfl rfl ?_
  refine SL.nil ?_
  refine T.seq ?_
  refine T.region ?_
  refine SL.x (op_callF en29 (vs := [_]) rfl (leaf_spec (s := ⟨#[97]⟩))) rfl rfl ?_
  rintro _ _ X1 ⟨rfl, hX1, rA, rfl, hA⟩
  refine SL.x (op_callF en29 (vs := [_]) rfl (leaf_spec (s := ⟨#[98]⟩))) rfl rfl ?_
  rintro _ _ X2 ⟨rfl, hX2, rB, rfl, hB⟩
  refine SL.x (op_callF en29 (vs := [_]) rfl (leaf_spec (s := ⟨#[99]⟩))) rfl rfl ?_
  rintro _ _ X3 ⟨rfl, hX3, rC, rfl, hC⟩
  have hA := (hA.mono hX2).mono hX3
  have hB := hB.mono hX3
  obtain ⟨oa, na, aa, ba, la, ca, la2, ca2, rfl⟩ := hA.form
  obtain ⟨ob, nb, ab, bb, lb, cb, lb2, cb2, rfl⟩ := hB.form
  obtain ⟨oc, nc, ac, bc, lc, cc, lc2, cc2, rfl⟩ := hC.form
  refine SL.x (op_alloc z34) rfl rfl ?_
  rintro _ _ _ ⟨B1, rfl, rfl, rfl⟩
  refine SL.x (op_alloc z34) rfl rfl ?_
  rintro _ _ _ ⟨B2, rfl, rfl, rfl⟩
  refine SL.x (op_alloc z34) rfl rfl ?_
  rintro _ _ _ ⟨B3, rfl, rfl, rfl⟩
  refine SL.x (op_store ty34 rfl rfl (by repeat constructor) rfl rfl rfl) rfl rfl ?_
  rintro _ _ _ ⟨rfl, rfl⟩
  refine SL.x (op_store ty34 rfl rfl (by repeat constructor) rfl rfl rfl) rfl rfl ?_
  rintro _ _ _ ⟨rfl, rfl⟩
  refine SL.x (op_store ty34 rfl rfl (by repeat constructor) rfl rfl rfl) rfl rfl ?_
  rintro _ _ _ ⟨rfl, rfl⟩
  refine SL.nil ?_
  refine T.seq ?_
  refine T.region ?_
  first | refine SL.y (op_load ty34 rfl (by repeat constructor) rfl) rfl rfl ?_ | refine SL.y (op_loadX ty34 rfl (by assumption) rfl) rfl rfl ?_
  first | refine SL.y (op_load ty34 rfl (by repeat constructor) rfl) rfl rfl ?_ | refine SL.y (op_loadX ty34 rfl (by assumption) rfl) rfl rfl ?_
  refine SL.x (op_callF en30 (vs := [_, _, _]) rfl (pair_spec (op := 8) hA hB)) rfl rfl ?_
  rintro _ _ X4 ⟨rfl, hX4, rP, rfl, hP⟩
  obtain ⟨op, np, ap, bp, lp, cp, lp2, cp2, rfl⟩ := hP.form
  refine SL.x (op_buildSlice Tryd.underlying32 bs34 (qs := [(0, _)]) rfl rfl rfl rfl rfl) rfl rfl ?_
  rintro _ _ _ ⟨B12, rfl, rfl, rfl⟩
  refine SL.y (op_build st34 (qs := [(0, _), (3, _)]) rfl rfl) rfl rfl ?_
  refine SL.x (op_alloc z34) rfl rfl ?_
  rintro _ _ _ ⟨B4, rfl, rfl, rfl⟩
  refine SL.x (op_store ty34 rfl rfl (by repeat constructor) rfl rfl rfl) rfl rfl ?_
  rintro _ _ _ ⟨rfl, rfl⟩
  refine SL.nil ?_
  refine T.seq ?_
  refine T.region ?_
  refine SL.x (op_buildSlice Tryd.underlying24 bs9 (qs := [(0, _), (1, _)]) rfl rfl rfl rfl rfl) rfl rfl ?_
  rintro _ _ _ ⟨B14, rfl, rfl, rfl⟩
  refine SL.y (op_build st34 (qs := [(0, _), (2, _)]) rfl rfl) rfl rfl ?_
  refine SL.y (op_build st34 (qs := [(0, _), (1, _)]) rfl rfl) rfl rfl ?_
  refine T.pubAt B12 (by repeat constructor) ?_
  intro X5 hX5 hB12 _
  refine T.pubAt B14 (by repeat constructor) ?_
  intro X6 hX6 hB14 _
  have hNot : ExR .u8 X6 eNot (.int .u8 ((7 : Nat) : Int), .int .i64 0, .slice none 0 0, .slice (some ⟨B12, 0, none⟩) 1 1) := .mk (rows := [(.int .u8 (op : Int), .int .i64 np, .slice ap lp cp, .slice bp lp2 cp2)]) (.inl ⟨rfl, _, _, rfl⟩) (.inr ⟨by simp, B12, 1, [], rfl, hB12.mono hX6, by simp, by decide⟩) rfl (fun i x r h h' => by
    match i, h, h' with
    | 0, h, h' => cases h; cases h'; exact (hP.mono hX5).mono hX6)
  have hCnt : ExR .u8 X6 (.mk 5 0 [⟨#[97]⟩, ⟨#[98]⟩] []) (.int .u8 ((5 : Nat) : Int), .int .i64 0, .slice (some ⟨B14, 0, none⟩) 2 2, .slice none 0 0) := .mk (rows := []) (.inr ⟨by simp, B14, 2, [], rfl, hB14, by simp, by decide⟩) (.inl ⟨rfl, _, _, rfl⟩) rfl (fun i a r h => by simp at h)
  have hNum : ExR .u8 X6 (.mk 1 1 [] []) (.int .u8 ((1 : Nat) : Int), .int .i64 1, .slice none 0 0, .slice none 0 0) := .mk (rows := []) (.inl ⟨rfl, _, _, rfl⟩) (.inl ⟨rfl, _, _, rfl⟩) rfl (fun i a r h => by simp at h)
  have hcall := pair_spec (op := 11) hCnt hNum
  simp only at hcall
  refine SL.x (op_callF en30 (vs := [_, _, _]) rfl (hcall)) rfl rfl ?_
  rintro _ _ X7 ⟨rfl, hX7, rL, rfl, hL⟩
  obtain ⟨ol, nl, al, bl, ll, cl, ll2, cl2, rfl⟩ := hL.form
  have hX47 := ((hX4.trans' hX5).trans' hX6).trans' hX7
  have hA := hA.mono hX47
  have hB := hB.mono hX47
  have hC := hC.mono hX47
  refine SL.x (op_alloc z34) rfl rfl ?_
  rintro _ _ _ ⟨B5, rfl, rfl, rfl⟩
  refine SL.x (op_store ty34 rfl rfl (by repeat constructor) rfl rfl rfl) rfl rfl ?_
  rintro _ _ _ ⟨rfl, rfl⟩
  refine SL.nil ?_
  refine T.seq ?_
  refine T.draw (by kernel_rfl) 34 [.t 0, .t 1, .t 2, .r 3, .r 4, .r 5, .t 6, .t 7, .t 8, .t 9, .t 10, .r 11, .r 12, .r 13, .t 14, .t 15, .t 16, .t 17, .r 18, .t 19, .t 20, .t 21, .t 22, .t 23, .r 24, .r 25, .t 26, .t 27, .t 28, .t 29, .r 30, .t 31, .t 32, .t 33] (by kernel_rfl) ?_
  first | refine SD.take rfl panicBody (op_load ty34 rfl (by repeat constructor) rfl) rfl rfl ?_ | refine SD.take rfl panicBody (op_loadX ty34 rfl (by assumption) rfl) rfl rfl ?_
  first | refine SD.take rfl panicBody (op_load ty34 rfl (by repeat constructor) rfl) rfl rfl ?_ | refine SD.take rfl panicBody (op_loadX ty34 rfl (by assumption) rfl) rfl rfl ?_
  first | refine SD.take rfl panicBody (op_load ty34 rfl (by repeat constructor) rfl) rfl rfl ?_ | refine SD.take rfl panicBody (op_loadX ty34 rfl (by assumption) rfl) rfl rfl ?_
  have hc1 := pair_spec (op := 8) hB hC
  try simp only at hc1
  refine SD.run rfl (op_callF en30 (vs := [_, _, _]) rfl (hc1)) rfl rfl ?_
  rintro _ _ X8 ⟨rfl, hX8, r8, rfl, h8⟩
  obtain ⟨o8, n8, a8, b8, l8, c8, m8, d8, rfl⟩ := h8.form
  have hc2 := pair_spec (op := 8) (hA.mono hX8) h8
  try simp only at hc2
  refine SD.run rfl (op_callF en30 (vs := [_, _, _]) rfl (hc2)) rfl rfl ?_
  rintro _ _ X9 ⟨rfl, hX9, r9, rfl, h9⟩
  obtain ⟨o9, n9, a9, b9, l9, c9, m9, d9, rfl⟩ := h9.form
  have hc3 := eprint_spec hI (of_decide_eq_true (by kernel_rfl)) (fun _ => num10 (.inl rfl)) h9
  try simp only at hc3
  refine SD.run rfl (op_callF en26 (vs := [_]) rfl (hc3)) rfl rfl ?_
  rintro _ _ X10 ⟨rfl, hX10, rfl⟩
  rw [if_pos chk1, tx1]
  refine SD.take rfl panicBody (op_eqlStrD rfl rfl) rfl rfl ?_
  rw [decide_eq_true rfl]
  have hX7A := (hX8.trans' hX9).trans' hX10
  refine SD.take rfl panicBody (op_move rfl) rfl rfl ?_
  first | refine SD.skip rfl panicBody rfl rfl ?_ | refine SD.take rfl panicBody (op_load ty34 rfl (by repeat constructor) rfl) rfl rfl ?_ | refine SD.take rfl panicBody (op_loadX ty34 rfl (by assumption) rfl) rfl rfl ?_
  first | refine SD.skip rfl panicBody rfl rfl ?_ | refine SD.take rfl panicBody (op_load ty34 rfl (by repeat constructor) rfl) rfl rfl ?_ | refine SD.take rfl panicBody (op_loadX ty34 rfl (by assumption) rfl) rfl rfl ?_
  first | refine SD.skip rfl panicBody rfl rfl ?_ | refine SD.take rfl panicBody (op_load ty34 rfl (by repeat constructor) rfl) rfl rfl ?_ | refine SD.take rfl panicBody (op_loadX ty34 rfl (by assumption) rfl) rfl rfl ?_
  have hc4 := pair_spec (op := 10) (hB.mono hX7A) (hC.mono hX7A)
  try simp only at hc4
  refine SD.run rfl (op_callF en30 (vs := [_, _, _]) rfl (hc4)) rfl rfl ?_
  rintro _ _ X11 ⟨rfl, hX11, r11, rfl, h11⟩
  obtain ⟨o11, n11, a11, b11, l11, c11, m11, d11, rfl⟩ := h11.form
  have hc5 := pair_spec (op := 10) ((hA.mono hX7A).mono hX11) h11
  try simp only at hc5
  refine SD.run rfl (op_callF en30 (vs := [_, _, _]) rfl (hc5)) rfl rfl ?_
  rintro _ _ X12 ⟨rfl, hX12, r12, rfl, h12⟩
  obtain ⟨o12, n12, a12, b12, l12, c12, m12, d12, rfl⟩ := h12.form
  have hc6 := eprint_spec hI (of_decide_eq_true (by kernel_rfl)) (fun _ => num10 (.inr (.inl rfl))) h12
  try simp only at hc6
  refine SD.run rfl (op_callF en26 (vs := [_]) rfl (hc6)) rfl rfl ?_
  rintro _ _ X13 ⟨rfl, hX13, rfl⟩
  rw [if_pos chk2, tx2]
  first | refine SD.skip rfl panicBody rfl rfl ?_ | refine SD.take rfl panicBody (op_eqlStrD rfl rfl) rfl rfl ?_
  rw [decide_eq_true rfl]
  have hX713 := ((hX7A.trans' hX11).trans' hX12).trans' hX13
  have hNot2 := (hNot.mono hX7).mono hX713
  first | refine SD.take rfl panicBody (op_pickT rfl rfl) rfl rfl ?_ | refine SD.take rfl panicBody (op_pickF rfl rfl) rfl rfl ?_ | refine SD.take rfl panicBody (op_pickB rfl rfl rfl) rfl rfl ?_
  refine SD.take rfl panicBody (op_move rfl) rfl rfl ?_
  first | refine SD.skip rfl panicBody rfl rfl ?_ | refine SD.take rfl panicBody (op_load ty34 rfl (by repeat constructor) rfl) rfl rfl ?_ | refine SD.take rfl panicBody (op_loadX ty34 rfl (by assumption) rfl) rfl rfl ?_
  have hc7 := eprint_spec hI (of_decide_eq_true (by kernel_rfl)) (fun _ => num10 (.inr (.inr (.inl rfl)))) hNot2
  try simp only at hc7
  refine SD.run rfl (op_callF en26 (vs := [_]) rfl (hc7)) rfl rfl ?_
  rintro _ _ X14 ⟨rfl, hX14, rfl⟩
  rw [if_pos chk3, tx3]
  first | refine SD.skip rfl panicBody rfl rfl ?_ | refine SD.take rfl panicBody (op_eqlStrD rfl rfl) rfl rfl ?_
  rw [decide_eq_true rfl]
  first | refine SD.take rfl panicBody (op_pickT rfl rfl) rfl rfl ?_ | refine SD.take rfl panicBody (op_pickF rfl rfl) rfl rfl ?_ | refine SD.take rfl panicBody (op_pickB rfl rfl rfl) rfl rfl ?_
  refine SD.take rfl panicBody (op_move rfl) rfl rfl ?_
  first | refine SD.skip rfl panicBody rfl rfl ?_ | refine SD.take rfl panicBody (op_load ty34 rfl (by repeat constructor) rfl) rfl rfl ?_ | refine SD.take rfl panicBody (op_loadX ty34 rfl (by assumption) rfl) rfl rfl ?_
  first | refine SD.skip rfl panicBody rfl rfl ?_ | refine SD.take rfl panicBody (op_build st61 (qs := [(0, _), (1, _), (2, _), (3, _)]) rfl rfl) rfl rfl ?_
  refine SD.run rfl (op_buildSlice Tryd.underlying42 bs61 (qs := [(0, _)]) rfl rfl rfl rfl rfl) rfl rfl ?_
  rintro _ _ _ ⟨B42, rfl, rfl, rfl⟩
  refine SD.pub B42 (by repeat constructor) ?_
  intro X15 hX15 hB42 _
  have hCs : ConsR X15 (.slice (some ⟨B42, 0, none⟩) 1 1) [cSod] := ⟨[(true, 1, ⟨#[115, 111, 100]⟩, .int .u8 (ol : Int), .int .i64 nl, .slice al ll cl, .slice bl ll2 cl2)], .inr ⟨by simp, B42, 1, [], rfl, hB42, by simp, by decide⟩, rfl, fun i x r h h' => by
    match i, h, h' with
    | 0, h, h' => cases h; cases h'; exact ⟨rfl, rfl, rfl, ((hL.mono hX713).mono hX14).mono hX15⟩⟩
  have hc8 := cprint_spec hI hCs (by simp) (by simp) (of_decide_eq_true (by kernel_rfl)) (fun c hc => by rw [List.mem_singleton.1 hc]; exact of_decide_eq_true (by kernel_rfl)) (fun c hc _ => by rw [List.mem_singleton.1 hc]; exact num10 (.inr (.inr (.inr rfl))))
  try simp only at hc8
  refine SD.run rfl (op_callF en36 (vs := [_]) rfl (hc8)) rfl rfl ?_
  rintro _ _ X16 ⟨rfl, hX16, rfl⟩
  rw [if_pos chk5, tx4]
  first | refine SD.skip rfl panicBody rfl rfl ?_ | refine SD.take rfl panicBody (op_eqlStrD rfl rfl) rfl rfl ?_
  rw [decide_eq_true rfl]
  first | refine SD.take rfl panicBody (op_pickT rfl rfl) rfl rfl ?_ | refine SD.take rfl panicBody (op_pickF rfl rfl) rfl rfl ?_ | refine SD.take rfl panicBody (op_pickB rfl rfl rfl) rfl rfl ?_
  refine SD.take rfl panicBody (op_move rfl) rfl rfl ?_
  first | refine SD.skip rfl panicBody rfl rfl ?_ | refine SD.take rfl panicBody (op_load ty34 rfl (by repeat constructor) rfl) rfl rfl ?_ | refine SD.take rfl panicBody (op_loadX ty34 rfl (by assumption) rfl) rfl rfl ?_
  have hc9 := depth_spec _ (Nat.le_refl _) (of_decide_eq_true (by kernel_rfl)) (((hNot2.mono hX14).mono hX15).mono hX16)
  try simp only at hc9
  refine SD.run rfl (op_callF en22 (vs := [_]) rfl (hc9)) rfl rfl ?_
  rintro _ _ X17 ⟨rfl, hX17, rfl⟩
  rw [show depE eNot = 3 by kernel_rfl]
  first | refine SD.skip rfl panicBody rfl rfl ?_ | refine SD.take rfl panicBody (op_eqlT rfl rfl (by omega)) rfl rfl ?_ | refine SD.take rfl panicBody (op_eqlF rfl rfl (by omega)) rfl rfl ?_ | refine SD.take rfl panicBody (op_eql rfl rfl) rfl rfl ?_
  first | refine SD.take rfl panicBody (op_pickT rfl rfl) rfl rfl ?_ | refine SD.take rfl panicBody (op_pickF rfl rfl) rfl rfl ?_ | refine SD.take rfl panicBody (op_pickB rfl rfl rfl) rfl rfl ?_
  refine SD.take rfl panicBody (op_assign rfl) rfl rfl ?_
  refine SD.nil ?_
  show SL _ _ _ _ _ _ _ [] _ _ _
  refine SL.nil ?_
  refine T.ret1 rfl (ResIs.tmp rfl) ?_
  rfl
end Go.Proofs.YtaooojjhlngcmaaDoor
namespace Go.Proofs.YtaooojjhlngcmaaDoor
open Go.Shelf
end Go.Proofs.YtaooojjhlngcmaaDoor
namespace Go.Proofs.YtaooojjhlngcmaaDoor
open Go.RowKit
/-- The table of powers of ten lies as its initialiser lays it. -/
def Pow10 (X : PMap) : Prop := ∀ w, PIn X w → Lib.TabIs Tryd.prog w "internal/strconv.uint64pow10" .u64 Lib.pow10Tab
theorem Pow10.mono {X X' : PMap} (h : Pow10 X) (hX : X.le X') : Pow10 X' := fun w hw => h w fun k o hk => hw k o (hX k o hk)
end Go.Proofs.YtaooojjhlngcmaaDoor
namespace Go.Proofs.YtaooojjhlngcmaaDoor
open Go.RowKit
end Go.Proofs.YtaooojjhlngcmaaDoor
namespace Go.Proofs.YtaooojjhlngcmaaDoor
open Go.RowKit
/-- Ascending, each one once. -/
def StrS (l : List ByteArray) : Prop := l.Pairwise fun a b => ltS a b = true
theorem StrS.nodup {l : List ByteArray} (h : StrS l) : l.Nodup := h.imp fun {a b} hab e => by subst e; rw [lt_irr] at hab; cases hab
theorem StrS.same : ∀ {l m : List ByteArray}, StrS l → StrS m → (∀ x, x ∈ l ↔ x ∈ m) → l = m
  | [], [], _, _, _ => rfl
  | [], b :: m, _, _, h => by have := (h b).2 (by simp); cases this
  | a :: l, [], _, _, h => by have := (h a).1 (by simp); cases this
  | a :: l, b :: m, h1, h2, h => by
    obtain ⟨g1, g2⟩ := List.pairwise_cons.1 h1
    obtain ⟨k1, k2⟩ := List.pairwise_cons.1 h2
    have hab : a = b := by
      rcases List.mem_cons.1 ((h a).1 (by simp)) with e | hm
      · exact e
      · rcases List.mem_cons.1 ((h b).2 (by simp)) with e | hl
        · exact e.symm
        · have := lt_asym (k1 a hm)
          rw [g1 b hl] at this; cases this
    subst hab
    rw [StrS.same g2 k2 fun x => ?_]
    have hx := h x
    constructor
    · intro hxl
      rcases List.mem_cons.1 (hx.1 (by simp [hxl])) with e | hm
      · subst e; have := g1 x hxl; rw [lt_irr] at this; cases this
      · exact hm
    · intro hxm
      rcases List.mem_cons.1 (hx.2 (by simp [hxm])) with e | hm
      · subst e; have := k1 x hxm; rw [lt_irr] at this; cases this
      · exact hm
end Go.Proofs.YtaooojjhlngcmaaDoor
namespace Go.Proofs.YtaooojjhlngcmaaDoor
open Go.RowKit
theorem RowR.lent {α : Type} {rc : α → List Value} {X1 : PMap} {e : TypeId} {size : Nat} {v : Value} {rs : List α} {G : Own} (hg : GrowS e size v rs.length (rs.map rc).flatten G) (h2 : ∀ p ∈ G, Blk X1 p.b p.cs) : RowR rc X1 v rs := by
  rcases hg with ⟨h0, _, rfl, _⟩ | ⟨b, cap, rfl, rfl, h3, h4, _⟩
  · exact .inl ⟨List.eq_nil_of_length_eq_zero h0, _, _, rfl⟩
  · rcases Nat.eq_zero_or_pos rs.length with h0 | h0
    · exact .inl ⟨List.eq_nil_of_length_eq_zero h0, _, _, by rw [h0]⟩
    · exact .inr ⟨h0, b, cap, [], rfl, h2 ⟨b, _, e, cap * size⟩ (by simp), h3, h4⟩
end Go.Proofs.YtaooojjhlngcmaaDoor
namespace Go.Proofs.YtaooojjhlngcmaaDoor
open Go.RowKit
end Go.Proofs.YtaooojjhlngcmaaDoor
namespace Go.Proofs.YtaooojjhlngcmaaDoor
open Go.RowKit
theorem ConsR.form {X : PMap} {v : Value} {cs : List Con} (h : ConsR X v cs) : ∃ A cp, v = .slice A cs.length cp := by
  obtain ⟨rows, hr, hrl, _⟩ := h
  obtain ⟨A, cp, rfl⟩ := hr.form
  exact ⟨A, cp, by rw [hrl]⟩
end Go.Proofs.YtaooojjhlngcmaaDoor
namespace Go.Proofs.YtaooojjhlngcmaaDoor
section
set_option maxRecDepth 100000
theorem en11 : Enters Tryd.prog 11 := enters_mk Tryd.func11 (by kernel_rfl) rfl
theorem en16 : Enters Tryd.prog 16 := enters_mk Tryd.func16 (by kernel_rfl) rfl
theorem en18 : Enters Tryd.prog 18 := enters_mk Tryd.func18 (by kernel_rfl) rfl
end
open Go.RowKit
theorem cons_len (l : List Itm) : (consOf l).length ≤ 34 := by rw [consOf, List.length_map, List.length_take]; omega
theorem cons_wt (l : List Itm) : ∀ c ∈ consOf l, wtE c.ex < 300000 := fun c hc => by
  obtain ⟨x, _, rfl⟩ := List.mem_map.1 hc
  exact built_wt _
theorem cons_ok {l : List Itm} (h : ∀ x ∈ l, itOk x) : ∀ c ∈ consOf l, c.kind < 256 ∧ opsE c.ex ∧ wtE c.ex < 900000 := fun c hc => by
  have hw := cons_wt l c hc
  obtain ⟨x, hx, rfl⟩ := List.mem_map.1 hc
  obtain ⟨h1, _, h3⟩ := h x (List.mem_of_mem_take hx)
  exact ⟨h1, built_ops h3, by omega⟩
end Go.Proofs.YtaooojjhlngcmaaDoor
namespace Go.Proofs.YtaooojjhlngcmaaDoor
section
set_option maxRecDepth 100000
theorem en31 : Enters Tryd.prog 31 := enters_mk Tryd.func31 (by kernel_rfl) rfl
theorem en32 : Enters Tryd.prog 32 := enters_mk Tryd.func32 (by kernel_rfl) rfl
theorem en56 : Enters Tryd.prog 56 := enters_mk Tryd.func56 (by kernel_rfl) rfl
theorem en57 : Enters Tryd.prog 57 := enters_mk Tryd.func57 (by kernel_rfl) rfl
end
open Go.RowKit
/-- Some cells of a row, read as one. -/
theorem row_part {α : Type} {rc : α → List Value} {sz s : Nat} (hrc : ∀ x, (rc x).length = sz) {rs : List α} {k k' j : Nat} {r : α} {pre : List Value} (he : rs[k]? = some r) (hj : j + s ≤ sz) (e : k' = pre.length + k * sz + j) : cread true s (pre ++ (rs.map rc).flatten) k' = some (.agg (((rc r).drop j).take s).toArray) := by
  subst e
  obtain ⟨h1, h2⟩ := List.getElem?_eq_some_iff.1 he
  have hl := rows_len hrc rs
  have hm : k * sz + sz ≤ rs.length * sz := by
    have := Nat.mul_le_mul_right sz (show k + 1 ≤ rs.length from h1)
    rw [Nat.succ_mul] at this; exact this
  have hd : ((pre ++ (rs.map rc).flatten).drop (pre.length + k * sz + j)) = (rc r).drop j ++ ((rs.drop (k + 1)).map rc).flatten := by
    rw [List.drop_append, List.drop_eq_nil_of_le (by omega), List.nil_append, show pre.length + k * sz + j - pre.length = k * sz + j by omega, ← List.drop_drop, rows_drop hrc (by omega), List.drop_eq_getElem_cons h1, h2, List.map_cons, List.flatten_cons, List.drop_append_of_le_length (by rw [hrc]; omega)]
  unfold cread
  rw [show Nat.ble (pre.length + k * sz + j + s) (pre ++ (rs.map rc).flatten).length = true from Nat.ble_eq_true_of_le (by rw [List.length_append, hl]; omega)]
  simp only [cond_true, hd]
  rw [List.take_append_of_le_length (by rw [List.length_drop, hrc]; omega)]
theorem eqFnC_spec {X : PMap} {va vb : Value} {cs ds : List Con} (ha : ConsR X va cs) (hb : ConsR X vb ds) (hl : cs.length < 1000000000) (hw : ∀ c ∈ cs, wtE c.ex < 900000) :
    Spec Tryd.prog 56 [va, vb, .func (.func 57) #[] #[]] X fun u _ => u = .bool (decide (cs = ds)) := by
  obtain ⟨rows, ha, hla, hra⟩ := ha
  obtain ⟨rows', hb, hlb, hrb⟩ := hb
  obtain ⟨A, cp, rfl⟩ := ha.form
  obtain ⟨A', cp', rfl⟩ := hb.form
  by_cases hlen : cs.length = ds.length
  case neg =>
    refine Spec.enter Tryd.func56 rfl Tryd.ntmps56 rfl ?_
    intro w0 hw0
    refine T.seq ?_
    refine T.region ?_
    refine SL.y (op_assign rfl) rfl rfl ?_
    refine SL.nil ?_
    refine T.seq ?_
    refine T.seq ?_
    refine T.region ?_
    refine SL.y (op_move rfl) rfl rfl ?_
    refine SL.y (op_lenS Tryd.underlying42 rfl) rfl rfl ?_
    refine SL.y (op_move rfl) rfl rfl ?_
    refine SL.y (op_lenS Tryd.underlying42 rfl) rfl rfl ?_
    first | refine SL.y (op_neqT rfl rfl (by omega)) rfl rfl ?_ | refine SL.y (op_neqF rfl rfl (by omega)) rfl rfl ?_ | refine SL.y (op_neq rfl rfl) rfl rfl ?_
    refine SL.nil ?_
    refine T.condT rfl ?_
    refine T.seq ?_
    refine T.region ?_
    refine SL.y (op_assign rfl) rfl rfl ?_
    refine SL.nil ?_
    refine T.ret1 rfl (ResIs.tmp rfl) ?_
    rw [decide_eq_false fun e => hlen (by rw [e])]
  refine Spec.enter Tryd.func56 rfl Tryd.ntmps56 rfl ?_
  intro w0 hw0
  refine T.seq ?_
  refine T.region ?_
  refine SL.y (op_assign rfl) rfl rfl ?_
  refine SL.nil ?_
  refine T.seq ?_
  refine T.seq ?_
  refine T.region ?_
  refine SL.y (op_move rfl) rfl rfl ?_
  refine SL.y (op_lenS Tryd.underlying42 rfl) rfl rfl ?_
  refine SL.y (op_move rfl) rfl rfl ?_
  refine SL.y (op_lenS Tryd.underlying42 rfl) rfl rfl ?_
  first | refine SL.y (op_neqT rfl rfl (by omega)) rfl rfl ?_ | refine SL.y (op_neqF rfl rfl (by omega)) rfl rfl ?_ | refine SL.y (op_neq rfl rfl) rfl rfl ?_
  refine SL.nil ?_
  refine T.condF rfl ?_
  refine T.skip ?_
  refine T.seq ?_
  refine T.seq ?_
  refine T.region ?_
  refine SL.y (op_move rfl) rfl rfl ?_
  refine SL.y (op_lenS Tryd.underlying42 rfl) rfl rfl ?_
  refine SL.y (op_move (v := .int .i64 ((0 : Nat) : Int)) rfl) rfl rfl ?_
  refine SL.nil ?_
  refine T.block ?_
  refine T.loopW (fun m env own X' => ∃ i : Nat, m = rows.length - i ∧ i ≤ rows.length ∧ X.le X' ∧ cs.take i = ds.take i ∧ env = [(1, .slice A' rows'.length cp'), (2, .func (.func 57) #[] #[]), (15, .slice A rows.length cp), (16, .int .i64 (rows.length : Int)), (17, .int .i64 (i : Int))] ∧ own = []) rows.length ⟨0, by simp, by omega, PMap.le_refl _, by simp, rfl, rfl⟩ (by repeat (first | exact Sub.nil | refine Sub.cons rfl ?_)) ?_
  rintro m _ _ X1 ⟨i, rfl, hi, hX1, heq, rfl, rfl⟩
  rcases Nat.lt_or_ge i rows.length with hil | hil
  · obtain ⟨r, hr⟩ : ∃ r, rows[i]? = some r := ⟨_, List.getElem?_eq_getElem hil⟩
    obtain ⟨r', hr'⟩ : ∃ r, rows'[i]? = some r := ⟨_, List.getElem?_eq_getElem (by omega)⟩
    obtain ⟨x, hx⟩ : ∃ x, cs[i]? = some x := ⟨_, List.getElem?_eq_getElem (by omega)⟩
    obtain ⟨y, hy⟩ : ∃ y, ds[i]? = some y := ⟨_, List.getElem?_eq_getElem (by omega)⟩
    have h1 := (hra i x r hx hr).mono hX1
    have h2 := (hrb i y r' hy hr').mono hX1
    obtain ⟨b, pre, rfl, hB⟩ := ha.blk (by omega)
    obtain ⟨b', pre', rfl, hB'⟩ := hb.blk (by omega)
    have hcall := eqC1_spec h1 h2 (hw x (List.mem_of_getElem? hx))
    obtain ⟨_, _, _, _, _, _, _, _, rfl⟩ := h1.form
    obtain ⟨_, _, _, _, _, _, _, _, rfl⟩ := h2.form
    try simp only [rc7] at hcall
    refine T.seq ?_
    refine T.region ?_
    first | refine SL.y (op_lssT rfl rfl (by omega)) rfl rfl ?_ | refine SL.y (op_lssF rfl rfl (by omega)) rfl rfl ?_ | refine SL.y (op_lss rfl rfl) rfl rfl ?_
    refine SL.nil ?_
    refine T.seq ?_
    refine T.condT rfl ?_
    refine T.skip ?_
    refine T.seq ?_
    refine T.block ?_
    refine T.seq ?_
    refine T.region ?_
    refine SL.y (op_move rfl) rfl rfl ?_
    first | refine SL.y (op_indexN Tryd.underlying42 ty61 rfl rfl (by omega)) rfl rfl ?_ | refine SL.y (op_index Tryd.underlying42 ty61 rfl rfl (by omega) (by omega)) rfl rfl ?_
    refine SL.y (op_loadX ty61 rfl (hB.mono hX1) (row_read rc7_len hr (by omega))) rfl rfl ?_
    refine SL.x (op_alloc z61) rfl rfl ?_
    rintro _ _ _ ⟨B8, rfl, rfl, rfl⟩
    refine SL.y (op_assign rfl) rfl rfl ?_
    refine SL.x (op_store ty61 rfl rfl (by repeat constructor) rfl rfl rfl) rfl rfl ?_
    rintro _ _ _ ⟨rfl, rfl⟩
    refine SL.nil ?_
    refine T.seq ?_
    refine T.region ?_
    refine SL.y (op_move rfl) rfl rfl ?_
    refine SL.y (op_move rfl) rfl rfl ?_
    first | refine SL.y (op_indexN Tryd.underlying42 ty61 rfl rfl (by omega)) rfl rfl ?_ | refine SL.y (op_index Tryd.underlying42 ty61 rfl rfl (by omega) (by omega)) rfl rfl ?_
    refine SL.y (op_loadX ty61 rfl (hB'.mono hX1) (row_read rc7_len hr' (by omega))) rfl rfl ?_
    refine SL.x (op_alloc z61) rfl rfl ?_
    rintro _ _ _ ⟨B9, rfl, rfl, rfl⟩
    refine SL.x (op_store ty61 rfl rfl (by repeat constructor) rfl rfl rfl) rfl rfl ?_
    rintro _ _ _ ⟨rfl, rfl⟩
    refine SL.nil ?_
    refine T.seq ?_
    refine T.region ?_
    refine SL.y (op_move rfl) rfl rfl ?_
    first | refine SL.y (op_load ty61 rfl (by repeat constructor) rfl) rfl rfl ?_ | refine SL.y (op_loadX ty61 rfl (by assumption) rfl) rfl rfl ?_
    first | refine SL.y (op_load ty61 rfl (by repeat constructor) rfl) rfl rfl ?_ | refine SL.y (op_loadX ty61 rfl (by assumption) rfl) rfl rfl ?_
    refine SL.x (op_call en57 rfl (vs := [_, _]) rfl hcall) rfl rfl ?_
    rintro _ _ X2 ⟨rfl, hX2, rfl⟩
    refine SL.y (op_not rfl) rfl rfl ?_
    refine SL.nil ?_
    by_cases hxy : x = y
    · rw [decide_eq_true hxy]
      refine T.condF rfl ?_
      refine T.skip ?_
      refine T.blk ?_
      refine T.region ?_
      first | refine SL.y (op_addN (q := 1) rfl rfl (by omega)) rfl rfl ?_ | refine SL.y (op_add rfl rfl (by omega) (by omega)) rfl rfl ?_ | refine SL.y (op_addW rfl rfl) rfl rfl ?_
      refine SL.y (op_move rfl) rfl rfl ?_
      refine SL.nil ?_
      refine T.drop B8 (by repeat constructor) ?_
      refine T.drop B9 (by repeat constructor) ?_
      exact T.backW (rows.length - (i + 1)) (by omega) ⟨i + 1, rfl, by omega, hX1.trans' hX2, (take_eq hx hy heq).2 hxy, rfl, rfl⟩ (by repeat (first | exact Sub.nil | refine Sub.cons rfl ?_))
    · rw [decide_eq_false hxy]
      refine T.condT rfl ?_
      refine T.seq ?_
      refine T.region ?_
      refine SL.y (op_assign rfl) rfl rfl ?_
      refine SL.nil ?_
      refine T.ret1 rfl (ResIs.tmp rfl) ?_
      rw [decide_eq_false (ne_at hx hy hxy)]
  · obtain rfl : i = rows.length := by omega
    rw [List.take_of_length_le (by omega), List.take_of_length_le (by omega)] at heq
    refine T.seq ?_
    refine T.region ?_
    first | refine SL.y (op_lssT rfl rfl (by omega)) rfl rfl ?_ | refine SL.y (op_lssF rfl rfl (by omega)) rfl rfl ?_ | refine SL.y (op_lss rfl rfl) rfl rfl ?_
    refine SL.nil ?_
    refine T.seq ?_
    refine T.condF rfl ?_
    refine T.exit (T.exitCode (T.exitCut (T.exitBlk ?_)))
    refine T.seq ?_
    refine T.region ?_
    refine SL.y (op_assign rfl) rfl rfl ?_
    refine SL.nil ?_
    refine T.ret1 rfl (ResIs.tmp rfl) ?_
    rw [decide_eq_true heq]
theorem conEq_spec {X : PMap} {va vb : Value} {cs ds : List Con} (ha : ConsR X va cs) (hb : ConsR X vb ds) (hl : cs.length < 1000000000) (hw : ∀ c ∈ cs, wtE c.ex < 900000) :
    Spec Tryd.prog 31 [va, vb] X fun u _ => u = .bool (decide (cs = ds)) := by
  obtain ⟨A, cp, rfl⟩ := ha.form
  obtain ⟨A', cp', rfl⟩ := hb.form
  refine Spec.enter Tryd.func31 rfl Tryd.ntmps31 rfl ?_
  intro w0 hw0
  refine T.seq ?_
  refine T.region ?_
  refine SL.y (op_assign rfl) rfl rfl ?_
  refine SL.nil ?_
  refine T.seq ?_
  refine T.region ?_
  refine SL.y (op_move rfl) rfl rfl ?_
  refine SL.y (op_move rfl) rfl rfl ?_
  refine SL.x (op_callF en56 (vs := [_, _, _]) rfl (eqFnC_spec ha hb hl hw)) rfl rfl ?_
  rintro _ _ X2 ⟨rfl, hX2, rfl⟩
  refine SL.y (op_assign rfl) rfl rfl ?_
  refine SL.nil ?_
  refine T.ret1 rfl (ResIs.tmp rfl) ?_
  rfl
theorem rconEq_spec {X : PMap} {va vb : Value} {cs ds : List Con} (ha : ConsRi X va cs) (hb : ConsRi X vb ds) (hl : cs.length < 1000000000) (hw : ∀ c ∈ cs, wtE c.ex < 900000) :
    Spec Tryd.prog 32 [va, vb] X fun u _ => u = .bool (decide (cs = ds)) := by
  obtain ⟨rows, ha, hla, hra⟩ := ha
  obtain ⟨rows', hb, hlb, hrb⟩ := hb
  obtain ⟨A, cp, rfl⟩ := ha.form
  obtain ⟨A', cp', rfl⟩ := hb.form
  by_cases hlen : cs.length = ds.length
  case neg =>
    refine Spec.enter Tryd.func32 rfl Tryd.ntmps32 rfl ?_
    intro w0 hw0
    refine T.seq ?_
    refine T.region ?_
    refine SL.y (op_assign rfl) rfl rfl ?_
    refine SL.nil ?_
    refine T.seq ?_
    refine T.seq ?_
    refine T.region ?_
    refine SL.y (op_move rfl) rfl rfl ?_
    refine SL.y (op_lenS Tryd.underlying39 rfl) rfl rfl ?_
    refine SL.y (op_move rfl) rfl rfl ?_
    refine SL.y (op_lenS Tryd.underlying39 rfl) rfl rfl ?_
    first | refine SL.y (op_neqT rfl rfl (by omega)) rfl rfl ?_ | refine SL.y (op_neqF rfl rfl (by omega)) rfl rfl ?_ | refine SL.y (op_neq rfl rfl) rfl rfl ?_
    refine SL.nil ?_
    refine T.condT rfl ?_
    refine T.seq ?_
    refine T.region ?_
    refine SL.y (op_assign rfl) rfl rfl ?_
    refine SL.nil ?_
    refine T.ret1 rfl (ResIs.tmp rfl) ?_
    rw [decide_eq_false fun e => hlen (by rw [e])]
  refine Spec.enter Tryd.func32 rfl Tryd.ntmps32 rfl ?_
  intro w0 hw0
  refine T.seq ?_
  refine T.region ?_
  refine SL.y (op_assign rfl) rfl rfl ?_
  refine SL.nil ?_
  refine T.seq ?_
  refine T.seq ?_
  refine T.region ?_
  refine SL.y (op_move rfl) rfl rfl ?_
  refine SL.y (op_lenS Tryd.underlying39 rfl) rfl rfl ?_
  refine SL.y (op_move rfl) rfl rfl ?_
  refine SL.y (op_lenS Tryd.underlying39 rfl) rfl rfl ?_
  first | refine SL.y (op_neqT rfl rfl (by omega)) rfl rfl ?_ | refine SL.y (op_neqF rfl rfl (by omega)) rfl rfl ?_ | refine SL.y (op_neq rfl rfl) rfl rfl ?_
  refine SL.nil ?_
  refine T.condF rfl ?_
  refine T.skip ?_
  refine T.seq ?_
  refine T.seq ?_
  refine T.region ?_
  refine SL.y (op_move rfl) rfl rfl ?_
  refine SL.y (op_lenS Tryd.underlying39 rfl) rfl rfl ?_
  refine SL.y (op_move (v := .int .i64 ((0 : Nat) : Int)) rfl) rfl rfl ?_
  refine SL.nil ?_
  refine T.block ?_
  refine T.loopW (fun m env own X' => ∃ i : Nat, m = rows.length - i ∧ i ≤ rows.length ∧ X.le X' ∧ cs.take i = ds.take i ∧ env = [(0, .slice A rows.length cp), (1, .slice A' rows'.length cp'), (12, .int .i64 (rows.length : Int)), (13, .int .i64 (i : Int))] ∧ own = []) rows.length ⟨0, by simp, by omega, PMap.le_refl _, by simp, rfl, rfl⟩ (by repeat (first | exact Sub.nil | refine Sub.cons rfl ?_)) ?_
  rintro m _ _ X1 ⟨i, rfl, hi, hX1, heq, rfl, rfl⟩
  rcases Nat.lt_or_ge i rows.length with hil | hil
  · obtain ⟨r, hr⟩ : ∃ r, rows[i]? = some r := ⟨_, List.getElem?_eq_getElem hil⟩
    obtain ⟨r', hr'⟩ : ∃ r, rows'[i]? = some r := ⟨_, List.getElem?_eq_getElem (by omega)⟩
    obtain ⟨x, hx⟩ : ∃ x, cs[i]? = some x := ⟨_, List.getElem?_eq_getElem (by omega)⟩
    obtain ⟨y, hy⟩ : ∃ y, ds[i]? = some y := ⟨_, List.getElem?_eq_getElem (by omega)⟩
    have h1 := (hra i x r hx hr).mono hX1
    have h2 := (hrb i y r' hy hr').mono hX1
    have hwx := hw x (List.mem_of_getElem? hx)
    obtain ⟨b, pre, rfl, hB⟩ := ha.blk (by omega)
    obtain ⟨b', pre', rfl, hB'⟩ := hb.blk (by omega)
    have hB := hB.mono hX1
    have hB' := hB'.mono hX1
    have hne := fun h => ne_at (l := cs) (l' := ds) hx hy h
    have hsn := take_eq hx hy heq
    obtain ⟨e, k, s, a⟩ := x
    obtain ⟨e', k', s', a'⟩ := y
    have hex := h1.2.2.2
    have hex' := h2.2.2.2
    obtain ⟨o0, n0, a0, b0, l0, c0, m0, d0, rfl⟩ := h1.form
    obtain ⟨o1, n1, a1, b1, l1, c1, m1, d1, rfl⟩ := h2.form
    simp only at hex hex' hwx hr hr'
    have hcall := reqE_spec _ (Nat.le_refl _) (by omega) hex hex'
    try simp only at hcall
    refine T.seq ?_
    refine T.region ?_
    first | refine SL.y (op_lssT rfl rfl (by omega)) rfl rfl ?_ | refine SL.y (op_lssF rfl rfl (by omega)) rfl rfl ?_ | refine SL.y (op_lss rfl rfl) rfl rfl ?_
    refine SL.nil ?_
    refine T.seq ?_
    refine T.condT rfl ?_
    refine T.skip ?_
    refine T.seq ?_
    refine T.block ?_
    refine T.seq ?_
    refine T.region ?_
    refine SL.y (op_move rfl) rfl rfl ?_
    refine SL.y (op_assign rfl) rfl rfl ?_
    refine SL.nil ?_
    refine T.seq ?_
    refine T.draw (by kernel_rfl) 51 [.t 0, .t 1, .t 2, .t 3, .t 4, .t 5, .t 6, .t 7, .t 8, .t 9, .t 10, .t 11, .t 12, .t 13, .t 14, .t 15, .t 16, .t 17, .t 18, .t 19, .t 20, .t 21, .t 22, .t 23, .t 24, .t 25, .t 26, .t 27, .t 28, .t 29, .t 30, .t 31, .t 32, .t 33, .t 34, .t 35, .t 36, .t 37, .t 38, .t 39, .t 40, .t 41, .t 42, .t 43, .t 44, .t 45, .t 46, .t 47, .r 48, .t 49, .t 50] (by kernel_rfl) ?_
    refine SD.take rfl panicBody (op_move rfl) rfl rfl ?_
    refine SD.take rfl panicBody (op_move rfl) rfl rfl ?_
    first | refine SD.take rfl panicBody (op_indexN Tryd.underlying39 ty63 rfl rfl (by omega)) rfl rfl ?_ | refine SD.take rfl panicBody (op_index Tryd.underlying39 ty63 rfl rfl (by omega) (by omega)) rfl rfl ?_
    refine SD.take rfl panicBody (op_fieldAddr fa63_0 rfl) rfl rfl ?_
    refine SD.take rfl panicBody (op_loadX (v := .bool e) ty4 rfl hB (row_cell (sz := 7) (j := 0) rc7i_len hr rfl (by omega))) rfl rfl ?_
    refine SD.take rfl panicBody (op_move rfl) rfl rfl ?_
    refine SD.take rfl panicBody (op_move rfl) rfl rfl ?_
    first | refine SD.take rfl panicBody (op_indexN Tryd.underlying39 ty63 rfl rfl (by omega)) rfl rfl ?_ | refine SD.take rfl panicBody (op_index Tryd.underlying39 ty63 rfl rfl (by omega) (by omega)) rfl rfl ?_
    refine SD.take rfl panicBody (op_fieldAddr fa63_0 rfl) rfl rfl ?_
    refine SD.take rfl panicBody (op_loadX (v := .bool e') ty4 rfl hB' (row_cell (sz := 7) (j := 0) rc7i_len hr' rfl (by omega))) rfl rfl ?_
    refine SD.take rfl panicBody (op_neqB (b := e) (c := e') Tryd.underlying4 rfl rfl) rfl rfl ?_
    by_cases g1 : e = e'
    case neg =>
      rw [show (e != e') = true by simpa using g1]
      refine SD.take rfl panicBody (op_move rfl) rfl rfl ?_
      first | refine SD.skip rfl panicBody rfl rfl ?_ | refine SD.take rfl panicBody (op_move rfl) rfl rfl ?_
      first | refine SD.skip rfl panicBody rfl rfl ?_ | refine SD.take rfl panicBody (op_move rfl) rfl rfl ?_
      first | refine SD.skip rfl panicBody rfl rfl ?_ | refine SD.take rfl panicBody (op_indexN Tryd.underlying39 ty63 rfl rfl (by omega)) rfl rfl ?_ | refine SD.take rfl panicBody (op_index Tryd.underlying39 ty63 rfl rfl (by omega) (by omega)) rfl rfl ?_
      first | refine SD.skip rfl panicBody rfl rfl ?_ | refine SD.take rfl panicBody (op_fieldAddr fa63_1 rfl) rfl rfl ?_
      first | refine SD.skip rfl panicBody rfl rfl ?_ | refine SD.take rfl panicBody (op_load ty3 rfl (by repeat constructor) rfl) rfl rfl ?_ | refine SD.take rfl panicBody (op_loadX ty3 rfl (by assumption) rfl) rfl rfl ?_
      first | refine SD.skip rfl panicBody rfl rfl ?_ | refine SD.take rfl panicBody (op_move rfl) rfl rfl ?_
      first | refine SD.skip rfl panicBody rfl rfl ?_ | refine SD.take rfl panicBody (op_move rfl) rfl rfl ?_
      first | refine SD.skip rfl panicBody rfl rfl ?_ | refine SD.take rfl panicBody (op_indexN Tryd.underlying39 ty63 rfl rfl (by omega)) rfl rfl ?_ | refine SD.take rfl panicBody (op_index Tryd.underlying39 ty63 rfl rfl (by omega) (by omega)) rfl rfl ?_
      first | refine SD.skip rfl panicBody rfl rfl ?_ | refine SD.take rfl panicBody (op_fieldAddr fa63_1 rfl) rfl rfl ?_
      first | refine SD.skip rfl panicBody rfl rfl ?_ | refine SD.take rfl panicBody (op_load ty3 rfl (by repeat constructor) rfl) rfl rfl ?_ | refine SD.take rfl panicBody (op_loadX ty3 rfl (by assumption) rfl) rfl rfl ?_
      first | refine SD.skip rfl panicBody rfl rfl ?_ | refine SD.take rfl panicBody (op_neqT rfl rfl (by omega)) rfl rfl ?_ | refine SD.take rfl panicBody (op_neqF rfl rfl (by omega)) rfl rfl ?_ | refine SD.take rfl panicBody (op_neq rfl rfl) rfl rfl ?_
      first | refine SD.take rfl panicBody (op_pickT rfl rfl) rfl rfl ?_ | refine SD.take rfl panicBody (op_pickF rfl rfl) rfl rfl ?_ | refine SD.take rfl panicBody (op_pickB rfl rfl rfl) rfl rfl ?_
      refine SD.take rfl panicBody (op_move rfl) rfl rfl ?_
      first | refine SD.skip rfl panicBody rfl rfl ?_ | refine SD.take rfl panicBody (op_move rfl) rfl rfl ?_
      first | refine SD.skip rfl panicBody rfl rfl ?_ | refine SD.take rfl panicBody (op_move rfl) rfl rfl ?_
      first | refine SD.skip rfl panicBody rfl rfl ?_ | refine SD.take rfl panicBody (op_indexN Tryd.underlying39 ty63 rfl rfl (by omega)) rfl rfl ?_ | refine SD.take rfl panicBody (op_index Tryd.underlying39 ty63 rfl rfl (by omega) (by omega)) rfl rfl ?_
      first | refine SD.skip rfl panicBody rfl rfl ?_ | refine SD.take rfl panicBody (op_fieldAddr fa63_2 rfl) rfl rfl ?_
      first | refine SD.skip rfl panicBody rfl rfl ?_ | refine SD.take rfl panicBody (op_load ty9 rfl (by repeat constructor) rfl) rfl rfl ?_ | refine SD.take rfl panicBody (op_loadX ty9 rfl (by assumption) rfl) rfl rfl ?_
      first | refine SD.skip rfl panicBody rfl rfl ?_ | refine SD.take rfl panicBody (op_move rfl) rfl rfl ?_
      first | refine SD.skip rfl panicBody rfl rfl ?_ | refine SD.take rfl panicBody (op_move rfl) rfl rfl ?_
      first | refine SD.skip rfl panicBody rfl rfl ?_ | refine SD.take rfl panicBody (op_indexN Tryd.underlying39 ty63 rfl rfl (by omega)) rfl rfl ?_ | refine SD.take rfl panicBody (op_index Tryd.underlying39 ty63 rfl rfl (by omega) (by omega)) rfl rfl ?_
      first | refine SD.skip rfl panicBody rfl rfl ?_ | refine SD.take rfl panicBody (op_fieldAddr fa63_2 rfl) rfl rfl ?_
      first | refine SD.skip rfl panicBody rfl rfl ?_ | refine SD.take rfl panicBody (op_load ty9 rfl (by repeat constructor) rfl) rfl rfl ?_ | refine SD.take rfl panicBody (op_loadX ty9 rfl (by assumption) rfl) rfl rfl ?_
      first | refine SD.skip rfl panicBody rfl rfl ?_ | refine SD.take rfl panicBody (op_neqStrD rfl rfl) rfl rfl ?_
      first | refine SD.take rfl panicBody (op_pickT rfl rfl) rfl rfl ?_ | refine SD.take rfl panicBody (op_pickF rfl rfl) rfl rfl ?_ | refine SD.take rfl panicBody (op_pickB rfl rfl rfl) rfl rfl ?_
      refine SD.take rfl panicBody (op_move rfl) rfl rfl ?_
      first | refine SD.skip rfl panicBody rfl rfl ?_ | refine SD.take rfl panicBody (op_move rfl) rfl rfl ?_
      first | refine SD.skip rfl panicBody rfl rfl ?_ | refine SD.take rfl panicBody (op_move rfl) rfl rfl ?_
      first | refine SD.skip rfl panicBody rfl rfl ?_ | refine SD.take rfl panicBody (op_indexN Tryd.underlying39 ty63 rfl rfl (by omega)) rfl rfl ?_ | refine SD.take rfl panicBody (op_index Tryd.underlying39 ty63 rfl rfl (by omega) (by omega)) rfl rfl ?_
      first | refine SD.skip rfl panicBody rfl rfl ?_ | refine SD.take rfl panicBody (op_fieldAddr fa63_3 rfl) rfl rfl ?_
      first | refine SD.skip rfl panicBody rfl rfl ?_ | refine SD.take rfl panicBody (op_load ty27 rfl (by repeat constructor) rfl) rfl rfl ?_ | refine SD.take rfl panicBody (op_loadX ty27 rfl (by assumption) rfl) rfl rfl ?_
      first | refine SD.skip rfl panicBody rfl rfl ?_ | refine SD.take rfl panicBody (op_move rfl) rfl rfl ?_
      first | refine SD.skip rfl panicBody rfl rfl ?_ | refine SD.take rfl panicBody (op_move rfl) rfl rfl ?_
      first | refine SD.skip rfl panicBody rfl rfl ?_ | refine SD.take rfl panicBody (op_indexN Tryd.underlying39 ty63 rfl rfl (by omega)) rfl rfl ?_ | refine SD.take rfl panicBody (op_index Tryd.underlying39 ty63 rfl rfl (by omega) (by omega)) rfl rfl ?_
      first | refine SD.skip rfl panicBody rfl rfl ?_ | refine SD.take rfl panicBody (op_fieldAddr fa63_3 rfl) rfl rfl ?_
      first | refine SD.skip rfl panicBody rfl rfl ?_ | refine SD.take rfl panicBody (op_load ty27 rfl (by repeat constructor) rfl) rfl rfl ?_ | refine SD.take rfl panicBody (op_loadX ty27 rfl (by assumption) rfl) rfl rfl ?_
      refine SD.skipF rfl rfl rfl ?_
      first | refine SD.skip rfl panicBody rfl rfl ?_ | refine SD.take rfl panicBody (op_not rfl) rfl rfl ?_
      first | refine SD.take rfl panicBody (op_pickT rfl rfl) rfl rfl ?_ | refine SD.take rfl panicBody (op_pickF rfl rfl) rfl rfl ?_ | refine SD.take rfl panicBody (op_pickB rfl rfl rfl) rfl rfl ?_
      refine SD.nil ?_
      show SL _ _ _ _ _ _ _ [] _ _ _
      refine SL.nil ?_
      refine T.condT rfl ?_
      refine T.seq ?_
      refine T.region ?_
      refine SL.y (op_assign rfl) rfl rfl ?_
      refine SL.nil ?_
      refine T.ret1 rfl (ResIs.tmp rfl) ?_
      rw [decide_eq_false (hne fun h => g1 (con_eq.1 h).1)]
    subst g1
    rw [show (e != e) = false by simp]
    refine SD.take rfl panicBody (op_move rfl) rfl rfl ?_
    first | refine SD.skip rfl panicBody rfl rfl ?_ | refine SD.take rfl panicBody (op_move rfl) rfl rfl ?_
    first | refine SD.skip rfl panicBody rfl rfl ?_ | refine SD.take rfl panicBody (op_move rfl) rfl rfl ?_
    first | refine SD.skip rfl panicBody rfl rfl ?_ | refine SD.take rfl panicBody (op_indexN Tryd.underlying39 ty63 rfl rfl (by omega)) rfl rfl ?_ | refine SD.take rfl panicBody (op_index Tryd.underlying39 ty63 rfl rfl (by omega) (by omega)) rfl rfl ?_
    first | refine SD.skip rfl panicBody rfl rfl ?_ | refine SD.take rfl panicBody (op_fieldAddr fa63_1 rfl) rfl rfl ?_
    refine SD.take rfl panicBody (op_loadX (v := .int .i64 (k : Int)) ty3 rfl hB (row_cell (sz := 7) (j := 1) rc7i_len hr rfl (by omega))) rfl rfl ?_
    first | refine SD.skip rfl panicBody rfl rfl ?_ | refine SD.take rfl panicBody (op_move rfl) rfl rfl ?_
    first | refine SD.skip rfl panicBody rfl rfl ?_ | refine SD.take rfl panicBody (op_move rfl) rfl rfl ?_
    first | refine SD.skip rfl panicBody rfl rfl ?_ | refine SD.take rfl panicBody (op_indexN Tryd.underlying39 ty63 rfl rfl (by omega)) rfl rfl ?_ | refine SD.take rfl panicBody (op_index Tryd.underlying39 ty63 rfl rfl (by omega) (by omega)) rfl rfl ?_
    first | refine SD.skip rfl panicBody rfl rfl ?_ | refine SD.take rfl panicBody (op_fieldAddr fa63_1 rfl) rfl rfl ?_
    refine SD.take rfl panicBody (op_loadX (v := .int .i64 (k' : Int)) ty3 rfl hB' (row_cell (sz := 7) (j := 1) rc7i_len hr' rfl (by omega))) rfl rfl ?_
    by_cases g2 : k = k'
    case neg =>
      first | refine SD.skip rfl panicBody rfl rfl ?_ | refine SD.take rfl panicBody (op_neqT rfl rfl (by omega)) rfl rfl ?_ | refine SD.take rfl panicBody (op_neqF rfl rfl (by omega)) rfl rfl ?_ | refine SD.take rfl panicBody (op_neq rfl rfl) rfl rfl ?_
      first | refine SD.take rfl panicBody (op_pickT rfl rfl) rfl rfl ?_ | refine SD.take rfl panicBody (op_pickF rfl rfl) rfl rfl ?_ | refine SD.take rfl panicBody (op_pickB rfl rfl rfl) rfl rfl ?_
      refine SD.take rfl panicBody (op_move rfl) rfl rfl ?_
      first | refine SD.skip rfl panicBody rfl rfl ?_ | refine SD.take rfl panicBody (op_move rfl) rfl rfl ?_
      first | refine SD.skip rfl panicBody rfl rfl ?_ | refine SD.take rfl panicBody (op_move rfl) rfl rfl ?_
      first | refine SD.skip rfl panicBody rfl rfl ?_ | refine SD.take rfl panicBody (op_indexN Tryd.underlying39 ty63 rfl rfl (by omega)) rfl rfl ?_ | refine SD.take rfl panicBody (op_index Tryd.underlying39 ty63 rfl rfl (by omega) (by omega)) rfl rfl ?_
      first | refine SD.skip rfl panicBody rfl rfl ?_ | refine SD.take rfl panicBody (op_fieldAddr fa63_2 rfl) rfl rfl ?_
      first | refine SD.skip rfl panicBody rfl rfl ?_ | refine SD.take rfl panicBody (op_load ty9 rfl (by repeat constructor) rfl) rfl rfl ?_ | refine SD.take rfl panicBody (op_loadX ty9 rfl (by assumption) rfl) rfl rfl ?_
      first | refine SD.skip rfl panicBody rfl rfl ?_ | refine SD.take rfl panicBody (op_move rfl) rfl rfl ?_
      first | refine SD.skip rfl panicBody rfl rfl ?_ | refine SD.take rfl panicBody (op_move rfl) rfl rfl ?_
      first | refine SD.skip rfl panicBody rfl rfl ?_ | refine SD.take rfl panicBody (op_indexN Tryd.underlying39 ty63 rfl rfl (by omega)) rfl rfl ?_ | refine SD.take rfl panicBody (op_index Tryd.underlying39 ty63 rfl rfl (by omega) (by omega)) rfl rfl ?_
      first | refine SD.skip rfl panicBody rfl rfl ?_ | refine SD.take rfl panicBody (op_fieldAddr fa63_2 rfl) rfl rfl ?_
      first | refine SD.skip rfl panicBody rfl rfl ?_ | refine SD.take rfl panicBody (op_load ty9 rfl (by repeat constructor) rfl) rfl rfl ?_ | refine SD.take rfl panicBody (op_loadX ty9 rfl (by assumption) rfl) rfl rfl ?_
      first | refine SD.skip rfl panicBody rfl rfl ?_ | refine SD.take rfl panicBody (op_neqStrD rfl rfl) rfl rfl ?_
      first | refine SD.take rfl panicBody (op_pickT rfl rfl) rfl rfl ?_ | refine SD.take rfl panicBody (op_pickF rfl rfl) rfl rfl ?_ | refine SD.take rfl panicBody (op_pickB rfl rfl rfl) rfl rfl ?_
      refine SD.take rfl panicBody (op_move rfl) rfl rfl ?_
      first | refine SD.skip rfl panicBody rfl rfl ?_ | refine SD.take rfl panicBody (op_move rfl) rfl rfl ?_
      first | refine SD.skip rfl panicBody rfl rfl ?_ | refine SD.take rfl panicBody (op_move rfl) rfl rfl ?_
      first | refine SD.skip rfl panicBody rfl rfl ?_ | refine SD.take rfl panicBody (op_indexN Tryd.underlying39 ty63 rfl rfl (by omega)) rfl rfl ?_ | refine SD.take rfl panicBody (op_index Tryd.underlying39 ty63 rfl rfl (by omega) (by omega)) rfl rfl ?_
      first | refine SD.skip rfl panicBody rfl rfl ?_ | refine SD.take rfl panicBody (op_fieldAddr fa63_3 rfl) rfl rfl ?_
      first | refine SD.skip rfl panicBody rfl rfl ?_ | refine SD.take rfl panicBody (op_load ty27 rfl (by repeat constructor) rfl) rfl rfl ?_ | refine SD.take rfl panicBody (op_loadX ty27 rfl (by assumption) rfl) rfl rfl ?_
      first | refine SD.skip rfl panicBody rfl rfl ?_ | refine SD.take rfl panicBody (op_move rfl) rfl rfl ?_
      first | refine SD.skip rfl panicBody rfl rfl ?_ | refine SD.take rfl panicBody (op_move rfl) rfl rfl ?_
      first | refine SD.skip rfl panicBody rfl rfl ?_ | refine SD.take rfl panicBody (op_indexN Tryd.underlying39 ty63 rfl rfl (by omega)) rfl rfl ?_ | refine SD.take rfl panicBody (op_index Tryd.underlying39 ty63 rfl rfl (by omega) (by omega)) rfl rfl ?_
      first | refine SD.skip rfl panicBody rfl rfl ?_ | refine SD.take rfl panicBody (op_fieldAddr fa63_3 rfl) rfl rfl ?_
      first | refine SD.skip rfl panicBody rfl rfl ?_ | refine SD.take rfl panicBody (op_load ty27 rfl (by repeat constructor) rfl) rfl rfl ?_ | refine SD.take rfl panicBody (op_loadX ty27 rfl (by assumption) rfl) rfl rfl ?_
      refine SD.skipF rfl rfl rfl ?_
      first | refine SD.skip rfl panicBody rfl rfl ?_ | refine SD.take rfl panicBody (op_not rfl) rfl rfl ?_
      first | refine SD.take rfl panicBody (op_pickT rfl rfl) rfl rfl ?_ | refine SD.take rfl panicBody (op_pickF rfl rfl) rfl rfl ?_ | refine SD.take rfl panicBody (op_pickB rfl rfl rfl) rfl rfl ?_
      refine SD.nil ?_
      show SL _ _ _ _ _ _ _ [] _ _ _
      refine SL.nil ?_
      refine T.condT rfl ?_
      refine T.seq ?_
      refine T.region ?_
      refine SL.y (op_assign rfl) rfl rfl ?_
      refine SL.nil ?_
      refine T.ret1 rfl (ResIs.tmp rfl) ?_
      rw [decide_eq_false (hne fun h => g2 (con_eq.1 h).2.1)]
    subst g2
    first | refine SD.skip rfl panicBody rfl rfl ?_ | refine SD.take rfl panicBody (op_neqT rfl rfl (by omega)) rfl rfl ?_ | refine SD.take rfl panicBody (op_neqF rfl rfl (by omega)) rfl rfl ?_ | refine SD.take rfl panicBody (op_neq rfl rfl) rfl rfl ?_
    first | refine SD.take rfl panicBody (op_pickT rfl rfl) rfl rfl ?_ | refine SD.take rfl panicBody (op_pickF rfl rfl) rfl rfl ?_ | refine SD.take rfl panicBody (op_pickB rfl rfl rfl) rfl rfl ?_
    refine SD.take rfl panicBody (op_move rfl) rfl rfl ?_
    first | refine SD.skip rfl panicBody rfl rfl ?_ | refine SD.take rfl panicBody (op_move rfl) rfl rfl ?_
    first | refine SD.skip rfl panicBody rfl rfl ?_ | refine SD.take rfl panicBody (op_move rfl) rfl rfl ?_
    first | refine SD.skip rfl panicBody rfl rfl ?_ | refine SD.take rfl panicBody (op_indexN Tryd.underlying39 ty63 rfl rfl (by omega)) rfl rfl ?_ | refine SD.take rfl panicBody (op_index Tryd.underlying39 ty63 rfl rfl (by omega) (by omega)) rfl rfl ?_
    first | refine SD.skip rfl panicBody rfl rfl ?_ | refine SD.take rfl panicBody (op_fieldAddr fa63_2 rfl) rfl rfl ?_
    refine SD.take rfl panicBody (op_loadX (v := .string s) ty9 rfl hB (row_cell (sz := 7) (j := 2) rc7i_len hr rfl (by omega))) rfl rfl ?_
    first | refine SD.skip rfl panicBody rfl rfl ?_ | refine SD.take rfl panicBody (op_move rfl) rfl rfl ?_
    first | refine SD.skip rfl panicBody rfl rfl ?_ | refine SD.take rfl panicBody (op_move rfl) rfl rfl ?_
    first | refine SD.skip rfl panicBody rfl rfl ?_ | refine SD.take rfl panicBody (op_indexN Tryd.underlying39 ty63 rfl rfl (by omega)) rfl rfl ?_ | refine SD.take rfl panicBody (op_index Tryd.underlying39 ty63 rfl rfl (by omega) (by omega)) rfl rfl ?_
    first | refine SD.skip rfl panicBody rfl rfl ?_ | refine SD.take rfl panicBody (op_fieldAddr fa63_2 rfl) rfl rfl ?_
    refine SD.take rfl panicBody (op_loadX (v := .string s') ty9 rfl hB' (row_cell (sz := 7) (j := 2) rc7i_len hr' rfl (by omega))) rfl rfl ?_
    refine SD.take rfl panicBody (op_neqStrD (s := s) (s' := s') rfl rfl) rfl rfl ?_
    by_cases g3 : s = s'
    case neg =>
      rw [decide_eq_false g3, Bool.not_false]
      first | refine SD.take rfl panicBody (op_pickT rfl rfl) rfl rfl ?_ | refine SD.take rfl panicBody (op_pickF rfl rfl) rfl rfl ?_ | refine SD.take rfl panicBody (op_pickB rfl rfl rfl) rfl rfl ?_
      refine SD.take rfl panicBody (op_move rfl) rfl rfl ?_
      first | refine SD.skip rfl panicBody rfl rfl ?_ | refine SD.take rfl panicBody (op_move rfl) rfl rfl ?_
      first | refine SD.skip rfl panicBody rfl rfl ?_ | refine SD.take rfl panicBody (op_move rfl) rfl rfl ?_
      first | refine SD.skip rfl panicBody rfl rfl ?_ | refine SD.take rfl panicBody (op_indexN Tryd.underlying39 ty63 rfl rfl (by omega)) rfl rfl ?_ | refine SD.take rfl panicBody (op_index Tryd.underlying39 ty63 rfl rfl (by omega) (by omega)) rfl rfl ?_
      first | refine SD.skip rfl panicBody rfl rfl ?_ | refine SD.take rfl panicBody (op_fieldAddr fa63_3 rfl) rfl rfl ?_
      first | refine SD.skip rfl panicBody rfl rfl ?_ | refine SD.take rfl panicBody (op_load ty27 rfl (by repeat constructor) rfl) rfl rfl ?_ | refine SD.take rfl panicBody (op_loadX ty27 rfl (by assumption) rfl) rfl rfl ?_
      first | refine SD.skip rfl panicBody rfl rfl ?_ | refine SD.take rfl panicBody (op_move rfl) rfl rfl ?_
      first | refine SD.skip rfl panicBody rfl rfl ?_ | refine SD.take rfl panicBody (op_move rfl) rfl rfl ?_
      first | refine SD.skip rfl panicBody rfl rfl ?_ | refine SD.take rfl panicBody (op_indexN Tryd.underlying39 ty63 rfl rfl (by omega)) rfl rfl ?_ | refine SD.take rfl panicBody (op_index Tryd.underlying39 ty63 rfl rfl (by omega) (by omega)) rfl rfl ?_
      first | refine SD.skip rfl panicBody rfl rfl ?_ | refine SD.take rfl panicBody (op_fieldAddr fa63_3 rfl) rfl rfl ?_
      first | refine SD.skip rfl panicBody rfl rfl ?_ | refine SD.take rfl panicBody (op_load ty27 rfl (by repeat constructor) rfl) rfl rfl ?_ | refine SD.take rfl panicBody (op_loadX ty27 rfl (by assumption) rfl) rfl rfl ?_
      refine SD.skipF rfl rfl rfl ?_
      first | refine SD.skip rfl panicBody rfl rfl ?_ | refine SD.take rfl panicBody (op_not rfl) rfl rfl ?_
      first | refine SD.take rfl panicBody (op_pickT rfl rfl) rfl rfl ?_ | refine SD.take rfl panicBody (op_pickF rfl rfl) rfl rfl ?_ | refine SD.take rfl panicBody (op_pickB rfl rfl rfl) rfl rfl ?_
      refine SD.nil ?_
      show SL _ _ _ _ _ _ _ [] _ _ _
      refine SL.nil ?_
      refine T.condT rfl ?_
      refine T.seq ?_
      refine T.region ?_
      refine SL.y (op_assign rfl) rfl rfl ?_
      refine SL.nil ?_
      refine T.ret1 rfl (ResIs.tmp rfl) ?_
      rw [decide_eq_false (hne fun h => g3 (con_eq.1 h).2.2.1)]
    rw [decide_eq_true g3, Bool.not_true]
    subst g3
    first | refine SD.take rfl panicBody (op_pickT rfl rfl) rfl rfl ?_ | refine SD.take rfl panicBody (op_pickF rfl rfl) rfl rfl ?_ | refine SD.take rfl panicBody (op_pickB rfl rfl rfl) rfl rfl ?_
    refine SD.take rfl panicBody (op_move rfl) rfl rfl ?_
    first | refine SD.skip rfl panicBody rfl rfl ?_ | refine SD.take rfl panicBody (op_move rfl) rfl rfl ?_
    first | refine SD.skip rfl panicBody rfl rfl ?_ | refine SD.take rfl panicBody (op_move rfl) rfl rfl ?_
    first | refine SD.skip rfl panicBody rfl rfl ?_ | refine SD.take rfl panicBody (op_indexN Tryd.underlying39 ty63 rfl rfl (by omega)) rfl rfl ?_ | refine SD.take rfl panicBody (op_index Tryd.underlying39 ty63 rfl rfl (by omega) (by omega)) rfl rfl ?_
    first | refine SD.skip rfl panicBody rfl rfl ?_ | refine SD.take rfl panicBody (op_fieldAddr fa63_3 rfl) rfl rfl ?_
    refine SD.take rfl panicBody (op_loadX (v := .agg #[.int .i64 (o0 : Int), .int .i64 n0, .slice a0 l0 c0, .slice b0 m0 d0]) ty27 rfl hB (row_part (sz := 7) (s := 4) (j := 3) rc7i_len hr (by omega) (by omega))) rfl rfl ?_
    first | refine SD.skip rfl panicBody rfl rfl ?_ | refine SD.take rfl panicBody (op_move rfl) rfl rfl ?_
    first | refine SD.skip rfl panicBody rfl rfl ?_ | refine SD.take rfl panicBody (op_move rfl) rfl rfl ?_
    first | refine SD.skip rfl panicBody rfl rfl ?_ | refine SD.take rfl panicBody (op_indexN Tryd.underlying39 ty63 rfl rfl (by omega)) rfl rfl ?_ | refine SD.take rfl panicBody (op_index Tryd.underlying39 ty63 rfl rfl (by omega) (by omega)) rfl rfl ?_
    first | refine SD.skip rfl panicBody rfl rfl ?_ | refine SD.take rfl panicBody (op_fieldAddr fa63_3 rfl) rfl rfl ?_
    refine SD.take rfl panicBody (op_loadX (v := .agg #[.int .i64 (o1 : Int), .int .i64 n1, .slice a1 l1 c1, .slice b1 m1 d1]) ty27 rfl hB' (row_part (sz := 7) (s := 4) (j := 3) rc7i_len hr' (by omega) (by omega))) rfl rfl ?_
    refine SD.run rfl (op_callF en28 (vs := [_, _]) rfl (hcall)) rfl rfl ?_
    rintro _ _ X2 ⟨rfl, hX2, rfl⟩
    first | refine SD.skip rfl panicBody rfl rfl ?_ | refine SD.take rfl panicBody (op_not rfl) rfl rfl ?_
    first | refine SD.take rfl panicBody (op_pickT rfl rfl) rfl rfl ?_ | refine SD.take rfl panicBody (op_pickF rfl rfl) rfl rfl ?_ | refine SD.take rfl panicBody (op_pickB rfl rfl rfl) rfl rfl ?_
    refine SD.nil ?_
    show SL _ _ _ _ _ _ _ [] _ _ _
    refine SL.nil ?_
    by_cases hxy : a = a'
    · rw [decide_eq_true hxy]
      refine T.condF rfl ?_
      refine T.skip ?_
      refine T.blk ?_
      refine T.region ?_
      first | refine SL.y (op_addN (q := 1) rfl rfl (by omega)) rfl rfl ?_ | refine SL.y (op_add rfl rfl (by omega) (by omega)) rfl rfl ?_ | refine SL.y (op_addW rfl rfl) rfl rfl ?_
      refine SL.y (op_move rfl) rfl rfl ?_
      refine SL.nil ?_
      exact T.backW (rows.length - (i + 1)) (by omega) ⟨i + 1, rfl, by omega, hX1.trans' hX2, hsn.2 (con_eq.2 ⟨rfl, rfl, rfl, hxy⟩), rfl, rfl⟩ (by repeat (first | exact Sub.nil | refine Sub.cons rfl ?_))
    · rw [decide_eq_false hxy]
      refine T.condT rfl ?_
      refine T.seq ?_
      refine T.region ?_
      refine SL.y (op_assign rfl) rfl rfl ?_
      refine SL.nil ?_
      refine T.ret1 rfl (ResIs.tmp rfl) ?_
      rw [decide_eq_false (hne fun h => hxy (con_eq.1 h).2.2.2)]
  · obtain rfl : i = rows.length := by omega
    rw [List.take_of_length_le (by omega), List.take_of_length_le (by omega)] at heq
    refine T.seq ?_
    refine T.region ?_
    first | refine SL.y (op_lssT rfl rfl (by omega)) rfl rfl ?_ | refine SL.y (op_lssF rfl rfl (by omega)) rfl rfl ?_ | refine SL.y (op_lss rfl rfl) rfl rfl ?_
    refine SL.nil ?_
    refine T.seq ?_
    refine T.condF rfl ?_
    refine T.exit (T.exitCode (T.exitCut (T.exitBlk ?_)))
    refine T.seq ?_
    refine T.region ?_
    refine SL.y (op_assign rfl) rfl rfl ?_
    refine SL.nil ?_
    refine T.ret1 rfl (ResIs.tmp rfl) ?_
    rw [decide_eq_true heq]
theorem ConsRi.form {X : PMap} {v : Value} {cs : List Con} (h : ConsRi X v cs) : ∃ A cp, v = .slice A cs.length cp := by
  obtain ⟨rows, h, hl, _⟩ := h
  obtain ⟨A, c, rfl⟩ := h.form
  exact ⟨A, c, by rw [hl]⟩
theorem sEquals_spec {X : PMap} {v v' : Value} {l l' : List Itm} (h : ItsR X v l) (h' : ItsR X v' l') (hok : ∀ x ∈ l, itOk x) (hok' : ∀ x ∈ l', itOk x) : Spec Tryd.prog 9 [v, v'] X fun u _ => u = .bool true := by
  have hl := cons_len l
  have hw := cons_wt l
  have hck := cons_ok hok
  have hl' := cons_len l'
  have hw' := cons_wt l'
  have hck' := cons_ok hok'
  refine Spec.enter Tryd.func9 rfl Tryd.ntmps9 rfl ?_
  intro w0 hw0
  refine T.seq ?_
  refine T.region ?_
  refine SL.y (op_assign rfl) rfl rfl ?_
  refine SL.nil ?_
  refine T.seq ?_
  refine T.seq ?_
  refine T.region ?_
  refine SL.x (op_callF en11 (vs := []) rfl (awake16_spec)) rfl rfl ?_
  rintro _ _ X0 ⟨rfl, hX0, rfl⟩
  refine SL.y (op_not rfl) rfl rfl ?_
  refine SL.nil ?_
  refine T.condF rfl ?_
  refine T.skip ?_
  refine T.seq ?_
  refine T.region ?_
  refine SL.y (op_move rfl) rfl rfl ?_
  refine SL.x (op_callF en16 (vs := [_]) rfl (ball_spec (h.mono hX0) hok)) rfl rfl ?_
  rintro v1 _ X1 ⟨rfl, hX1, h1⟩
  refine SL.y (op_move rfl) rfl rfl ?_
  refine SL.x (op_callF en16 (vs := [_]) rfl (ball_spec ((h'.mono hX0).mono hX1) hok')) rfl rfl ?_
  rintro v2 _ X2 ⟨rfl, hX2, h2⟩
  generalize consOf l = cs at *
  generalize consOf l' = ds at *
  have h1 := h1.mono hX2
  have hW : ∀ c ∈ cs, wtE c.ex < 900000 := fun c hc => Nat.lt_trans (hw c hc) (by omega)
  have hW' : ∀ c ∈ ds, wtE c.ex < 900000 := fun c hc => Nat.lt_trans (hw' c hc) (by omega)
  refine SL.y (op_assign rfl) rfl rfl ?_
  refine SL.y (op_assign rfl) rfl rfl ?_
  refine SL.nil ?_
  refine T.seq ?_
  refine T.region ?_
  refine SL.y (op_move rfl) rfl rfl ?_
  refine SL.x (op_callF en18 (vs := [_]) rfl (set16_spec h1 (by omega) hck)) rfl rfl ?_
  rintro v3 _ X3 ⟨rfl, hX3, h3⟩
  have h1 := h1.mono hX3
  have h2 := h2.mono hX3
  refine SL.y (op_move rfl) rfl rfl ?_
  refine SL.x (op_callF en18 (vs := [_]) rfl (set16_spec h2 (by omega) hck')) rfl rfl ?_
  rintro v4 _ X4 ⟨rfl, hX4, h4⟩
  have h1 := h1.mono hX4
  have h2 := h2.mono hX4
  have h3 := h3.mono hX4
  obtain ⟨A1, c1, rfl⟩ := h1.form
  obtain ⟨A2, c2, rfl⟩ := h2.form
  obtain ⟨A3, c3, rfl⟩ := h3.form
  obtain ⟨A4, c4, rfl⟩ := h4.form
  refine SL.y (op_assign rfl) rfl rfl ?_
  refine SL.y (op_assign rfl) rfl rfl ?_
  refine SL.nil ?_
  refine T.seq ?_
  refine T.seq ?_
  refine T.region ?_
  refine SL.y (op_move rfl) rfl rfl ?_
  refine SL.y (op_move rfl) rfl rfl ?_
  refine SL.x (op_callF en31 (vs := [_, _]) rfl (conEq_spec h3 h4 (by omega) hW)) rfl rfl ?_
  rintro _ _ X5 ⟨rfl, hX5, rfl⟩
  have h1 := h1.mono hX5
  have h2 := h2.mono hX5
  have h3 := h3.mono hX5
  have h4 := h4.mono hX5
  refine SL.y (op_move rfl) rfl rfl ?_
  refine SL.y (op_move rfl) rfl rfl ?_
  refine SL.x (op_callF en32 (vs := [_, _]) rfl (rconEq_spec h1 h2 (by omega) hW)) rfl rfl ?_
  rintro _ _ X6 ⟨rfl, hX6, rfl⟩
  have h1 := h1.mono hX6
  have h2 := h2.mono hX6
  have h3 := h3.mono hX6
  have h4 := h4.mono hX6
  refine SL.y (op_neqBS Tryd.underlying4 rfl rfl) rfl rfl ?_
  refine SL.y (op_move rfl) rfl rfl ?_
  first | refine SL.skip rfl rfl ?_ | refine SL.y (op_move rfl) rfl rfl ?_
  first | refine SL.skip rfl rfl ?_ | refine SL.y (op_move rfl) rfl rfl ?_
  refine SL.x (op_callF en31 (vs := [_, _]) rfl (conEq_spec h4 h3 (by omega) hW')) rfl rfl ?_
  rintro _ _ X7 ⟨rfl, hX7, rfl⟩
  have h1 := h1.mono hX7
  have h2 := h2.mono hX7
  have h3 := h3.mono hX7
  have h4 := h4.mono hX7
  first | refine SL.skip rfl rfl ?_ | refine SL.y (op_move rfl) rfl rfl ?_
  first | refine SL.skip rfl rfl ?_ | refine SL.y (op_move rfl) rfl rfl ?_
  refine SL.x (op_callF en32 (vs := [_, _]) rfl (rconEq_spec h1 h2 (by omega) hW)) rfl rfl ?_
  rintro _ _ X8 ⟨rfl, hX8, rfl⟩
  have h1 := h1.mono hX8
  have h2 := h2.mono hX8
  have h3 := h3.mono hX8
  have h4 := h4.mono hX8
  rw [show decide (ds = cs) = decide (cs = ds) from decide_eq_decide.2 eq_comm]
  refine SL.y (op_neqBS Tryd.underlying4 rfl rfl) rfl rfl ?_
  first | refine SL.y (op_pickT rfl rfl) rfl rfl ?_ | refine SL.y (op_pickF rfl rfl) rfl rfl ?_ | refine SL.y (op_pickB rfl rfl rfl) rfl rfl ?_
  refine SL.y (op_move rfl) rfl rfl ?_
  first | refine SL.skip rfl rfl ?_ | refine SL.y (op_move rfl) rfl rfl ?_
  first | refine SL.skip rfl rfl ?_ | refine SL.y (op_move rfl) rfl rfl ?_
  refine SL.x (op_callF en18 (vs := [_]) rfl (set16_spec h1 (by omega) hck)) rfl rfl ?_
  rintro v5 _ X9 ⟨rfl, hX9, h5⟩
  have h1 := h1.mono hX9
  have h2 := h2.mono hX9
  have h3 := h3.mono hX9
  have h4 := h4.mono hX9
  refine SL.x (op_callF en31 (vs := [_, _]) rfl (conEq_spec h3 h5 (by omega) hW)) rfl rfl ?_
  rintro _ _ X10 ⟨rfl, hX10, rfl⟩
  have h1 := h1.mono hX10
  have h2 := h2.mono hX10
  have h3 := h3.mono hX10
  have h4 := h4.mono hX10
  rw [decide_eq_true rfl]
  first | refine SL.skip rfl rfl ?_ | refine SL.y (op_not rfl) rfl rfl ?_
  first | refine SL.y (op_pickT rfl rfl) rfl rfl ?_ | refine SL.y (op_pickF rfl rfl) rfl rfl ?_ | refine SL.y (op_pickB rfl rfl rfl) rfl rfl ?_
  refine SL.nil ?_
  refine T.condF rfl ?_
  refine T.skip ?_
  refine T.seq ?_
  refine T.seq ?_
  refine T.region ?_
  refine SL.y (op_assign (v := .int .i64 ((0 : Nat) : Int)) rfl) rfl rfl ?_
  refine SL.nil ?_
  refine T.block ?_
  obtain ⟨r1, k1, e1, g1⟩ := h1
  obtain ⟨r2, k2, e2, g2⟩ := h2
  obtain ⟨r3, k3, e3, g3⟩ := h3
  obtain ⟨r4, k4, e4, g4⟩ := h4
  refine T.loopW (fun m env own X' => ∃ i : Nat, m = cs.length - i ∧ i ≤ cs.length ∧ i ≤ ds.length ∧ X10.le X' ∧ env = [(5, .slice A1 cs.length c1), (6, .slice A2 ds.length c2), (7, .slice A3 cs.length c3), (8, .slice A4 ds.length c4), (9, .int .i64 (i : Int))] ∧ own = []) cs.length ⟨0, by simp, by omega, by omega, PMap.le_refl _, rfl, rfl⟩ (by repeat (first | exact Sub.nil | refine Sub.cons rfl ?_)) ?_
  rintro m _ _ X11 ⟨i, rfl, hi, hi2, hX11, rfl, rfl⟩
  by_cases hil : i < cs.length
  case neg =>
    obtain rfl : i = cs.length := by omega
    refine T.seq ?_
    refine T.seq ?_
    refine T.region ?_
    refine SL.y (op_move rfl) rfl rfl ?_
    refine SL.y (op_move rfl) rfl rfl ?_
    refine SL.y (op_lenS Tryd.underlying39 rfl) rfl rfl ?_
    first | refine SL.y (op_lssT rfl rfl (by omega)) rfl rfl ?_ | refine SL.y (op_lssF rfl rfl (by omega)) rfl rfl ?_ | refine SL.y (op_lss rfl rfl) rfl rfl ?_
    refine SL.y (op_move rfl) rfl rfl ?_
    first | refine SL.skip rfl rfl ?_ | refine SL.y (op_move rfl) rfl rfl ?_
    first | refine SL.skip rfl rfl ?_ | refine SL.y (op_move rfl) rfl rfl ?_
    first | refine SL.skip rfl rfl ?_ | refine SL.y (op_lenS Tryd.underlying39 rfl) rfl rfl ?_
    first | refine SL.skip rfl rfl ?_ | refine SL.y (op_lssT rfl rfl (by omega)) rfl rfl ?_ | refine SL.y (op_lssF rfl rfl (by omega)) rfl rfl ?_ | refine SL.y (op_lss rfl rfl) rfl rfl ?_
    first | refine SL.y (op_pickT rfl rfl) rfl rfl ?_ | refine SL.y (op_pickF rfl rfl) rfl rfl ?_ | refine SL.y (op_pickB rfl rfl rfl) rfl rfl ?_
    refine SL.nil ?_
    refine T.condF rfl ?_
    refine T.exit (T.exitCode (T.exitCut (T.exitBlk ?_)))
    refine T.seq ?_
    refine T.region ?_
    refine SL.y (op_assign rfl) rfl rfl ?_
    refine SL.nil ?_
    refine T.ret1 rfl (ResIs.tmp rfl) ?_
    rfl
  by_cases hil2 : i < ds.length
  case neg =>
    obtain rfl : i = ds.length := by omega
    refine T.seq ?_
    refine T.seq ?_
    refine T.region ?_
    refine SL.y (op_move rfl) rfl rfl ?_
    refine SL.y (op_move rfl) rfl rfl ?_
    refine SL.y (op_lenS Tryd.underlying39 rfl) rfl rfl ?_
    first | refine SL.y (op_lssT rfl rfl (by omega)) rfl rfl ?_ | refine SL.y (op_lssF rfl rfl (by omega)) rfl rfl ?_ | refine SL.y (op_lss rfl rfl) rfl rfl ?_
    refine SL.y (op_move rfl) rfl rfl ?_
    first | refine SL.skip rfl rfl ?_ | refine SL.y (op_move rfl) rfl rfl ?_
    first | refine SL.skip rfl rfl ?_ | refine SL.y (op_move rfl) rfl rfl ?_
    first | refine SL.skip rfl rfl ?_ | refine SL.y (op_lenS Tryd.underlying39 rfl) rfl rfl ?_
    first | refine SL.skip rfl rfl ?_ | refine SL.y (op_lssT rfl rfl (by omega)) rfl rfl ?_ | refine SL.y (op_lssF rfl rfl (by omega)) rfl rfl ?_ | refine SL.y (op_lss rfl rfl) rfl rfl ?_
    first | refine SL.y (op_pickT rfl rfl) rfl rfl ?_ | refine SL.y (op_pickF rfl rfl) rfl rfl ?_ | refine SL.y (op_pickB rfl rfl rfl) rfl rfl ?_
    refine SL.nil ?_
    refine T.condF rfl ?_
    refine T.exit (T.exitCode (T.exitCut (T.exitBlk ?_)))
    refine T.seq ?_
    refine T.region ?_
    refine SL.y (op_assign rfl) rfl rfl ?_
    refine SL.nil ?_
    refine T.ret1 rfl (ResIs.tmp rfl) ?_
    rfl
  obtain ⟨x, hx⟩ : ∃ x, cs[i]? = some x := ⟨_, List.getElem?_eq_getElem hil⟩
  obtain ⟨y, hy⟩ : ∃ y, ds[i]? = some y := ⟨_, List.getElem?_eq_getElem hil2⟩
  obtain ⟨t1, ht1⟩ : ∃ r, r1[i]? = some r := ⟨_, List.getElem?_eq_getElem (by omega)⟩
  obtain ⟨t2, ht2⟩ : ∃ r, r2[i]? = some r := ⟨_, List.getElem?_eq_getElem (by omega)⟩
  obtain ⟨t3, ht3⟩ : ∃ r, r3[i]? = some r := ⟨_, List.getElem?_eq_getElem (by omega)⟩
  obtain ⟨t4, ht4⟩ : ∃ r, r4[i]? = some r := ⟨_, List.getElem?_eq_getElem (by omega)⟩
  have q1 := (g1 i x t1 hx ht1).mono hX11
  have q2 := (g2 i y t2 hy ht2).mono hX11
  have q3 := (g3 i x t3 hx ht3).mono hX11
  have q4 := (g4 i y t4 hy ht4).mono hX11
  obtain ⟨b1, p1, rfl, hB1⟩ := k1.blk (by omega)
  obtain ⟨b2, p2, rfl, hB2⟩ := k2.blk (by omega)
  obtain ⟨b3, p3, rfl, hB3⟩ := k3.blk (by omega)
  obtain ⟨b4, p4, rfl, hB4⟩ := k4.blk (by omega)
  have hB1 := hB1.mono hX11
  have hB2 := hB2.mono hX11
  have hB3 := hB3.mono hX11
  have hB4 := hB4.mono hX11
  have hwx := hW x (List.mem_of_getElem? hx)
  have x1 := q1.2.2.2
  have x2 := q2.2.2.2
  have x3 := q3.2.2.2
  have x4 := q4.2.2.2
  obtain ⟨o10, n10, a10, b10, l10, c10, m10, d10, rfl⟩ := q1.form
  obtain ⟨o20, n20, a20, b20, l20, c20, m20, d20, rfl⟩ := q2.form
  obtain ⟨o30, n30, a30, b30, l30, c30, m30, d30, rfl⟩ := q3.form
  obtain ⟨o40, n40, a40, b40, l40, c40, m40, d40, rfl⟩ := q4.form
  simp only at x1 x2 x3 x4
  have hc3 := fun {X'} (hX : X11.le X') => eqE_spec _ (Nat.le_refl _) (by omega) (x3.mono hX) (x4.mono hX)
  have hc1 := fun {X'} (hX : X11.le X') => reqE_spec _ (Nat.le_refl _) (by omega) (x1.mono hX) (x2.mono hX)
  try simp only at hc1 hc3
  refine T.seq ?_
  refine T.seq ?_
  refine T.region ?_
  refine SL.y (op_move rfl) rfl rfl ?_
  refine SL.y (op_move rfl) rfl rfl ?_
  refine SL.y (op_lenS Tryd.underlying39 rfl) rfl rfl ?_
  first | refine SL.y (op_lssT rfl rfl (by omega)) rfl rfl ?_ | refine SL.y (op_lssF rfl rfl (by omega)) rfl rfl ?_ | refine SL.y (op_lss rfl rfl) rfl rfl ?_
  refine SL.y (op_move rfl) rfl rfl ?_
  first | refine SL.skip rfl rfl ?_ | refine SL.y (op_move rfl) rfl rfl ?_
  first | refine SL.skip rfl rfl ?_ | refine SL.y (op_move rfl) rfl rfl ?_
  first | refine SL.skip rfl rfl ?_ | refine SL.y (op_lenS Tryd.underlying39 rfl) rfl rfl ?_
  first | refine SL.skip rfl rfl ?_ | refine SL.y (op_lssT rfl rfl (by omega)) rfl rfl ?_ | refine SL.y (op_lssF rfl rfl (by omega)) rfl rfl ?_ | refine SL.y (op_lss rfl rfl) rfl rfl ?_
  first | refine SL.y (op_pickT rfl rfl) rfl rfl ?_ | refine SL.y (op_pickF rfl rfl) rfl rfl ?_ | refine SL.y (op_pickB rfl rfl rfl) rfl rfl ?_
  refine SL.nil ?_
  refine T.condT rfl ?_
  refine T.skip ?_
  refine T.seq ?_
  refine T.block ?_
  refine T.seq ?_
  refine T.draw (by kernel_rfl) 23 [.t 0, .t 1, .t 2, .t 3, .t 4, .t 5, .t 6, .t 7, .t 8, .t 9, .t 11, .t 12, .t 13, .t 14, .t 15, .t 16, .t 17, .t 18, .t 19, .t 20, .r 10, .r 21, .t 22] (by kernel_rfl) ?_
  refine SD.take rfl panicBody (op_move rfl) rfl rfl ?_
  refine SD.take rfl panicBody (op_move rfl) rfl rfl ?_
  first | refine SD.take rfl panicBody (op_indexN Tryd.underlying42 ty61 rfl rfl (by omega)) rfl rfl ?_ | refine SD.take rfl panicBody (op_index Tryd.underlying42 ty61 rfl rfl (by omega) (by omega)) rfl rfl ?_
  refine SD.take rfl panicBody (op_fieldAddr fa61_3 rfl) rfl rfl ?_
  refine SD.take rfl panicBody (op_loadX (v := .agg #[.int .u8 (o30 : Int), .int .i64 n30, .slice a30 l30 c30, .slice b30 m30 d30]) ty34 rfl hB3 (row_part (sz := 7) (s := 4) (j := 3) rc7_len ht3 (by omega) (by omega))) rfl rfl ?_
  refine SD.take rfl panicBody (op_move rfl) rfl rfl ?_
  refine SD.take rfl panicBody (op_move rfl) rfl rfl ?_
  first | refine SD.take rfl panicBody (op_indexN Tryd.underlying42 ty61 rfl rfl (by omega)) rfl rfl ?_ | refine SD.take rfl panicBody (op_index Tryd.underlying42 ty61 rfl rfl (by omega) (by omega)) rfl rfl ?_
  refine SD.take rfl panicBody (op_fieldAddr fa61_3 rfl) rfl rfl ?_
  refine SD.take rfl panicBody (op_loadX (v := .agg #[.int .u8 (o40 : Int), .int .i64 n40, .slice a40 l40 c40, .slice b40 m40 d40]) ty34 rfl hB4 (row_part (sz := 7) (s := 4) (j := 3) rc7_len ht4 (by omega) (by omega))) rfl rfl ?_
  refine SD.take rfl panicBody (op_move rfl) rfl rfl ?_
  refine SD.take rfl panicBody (op_move rfl) rfl rfl ?_
  first | refine SD.take rfl panicBody (op_indexN Tryd.underlying39 ty63 rfl rfl (by omega)) rfl rfl ?_ | refine SD.take rfl panicBody (op_index Tryd.underlying39 ty63 rfl rfl (by omega) (by omega)) rfl rfl ?_
  refine SD.take rfl panicBody (op_fieldAddr fa63_3 rfl) rfl rfl ?_
  refine SD.take rfl panicBody (op_loadX (v := .agg #[.int .i64 (o10 : Int), .int .i64 n10, .slice a10 l10 c10, .slice b10 m10 d10]) ty27 rfl hB1 (row_part (sz := 7) (s := 4) (j := 3) rc7i_len ht1 (by omega) (by omega))) rfl rfl ?_
  refine SD.take rfl panicBody (op_move rfl) rfl rfl ?_
  refine SD.take rfl panicBody (op_move rfl) rfl rfl ?_
  first | refine SD.take rfl panicBody (op_indexN Tryd.underlying39 ty63 rfl rfl (by omega)) rfl rfl ?_ | refine SD.take rfl panicBody (op_index Tryd.underlying39 ty63 rfl rfl (by omega) (by omega)) rfl rfl ?_
  refine SD.take rfl panicBody (op_fieldAddr fa63_3 rfl) rfl rfl ?_
  refine SD.take rfl panicBody (op_loadX (v := .agg #[.int .i64 (o20 : Int), .int .i64 n20, .slice a20 l20 c20, .slice b20 m20 d20]) ty27 rfl hB2 (row_part (sz := 7) (s := 4) (j := 3) rc7i_len ht2 (by omega) (by omega))) rfl rfl ?_
  refine SD.run rfl (op_callF en33 (vs := [_, _]) rfl (hc3 (PMap.le_refl _))) rfl rfl ?_
  rintro _ _ X12 ⟨rfl, hX12, rfl⟩
  refine SD.run rfl (op_callF en28 (vs := [_, _]) rfl (hc1 hX12)) rfl rfl ?_
  rintro _ _ X13 ⟨rfl, hX13, rfl⟩
  refine SD.take rfl panicBody (op_neqBS Tryd.underlying4 rfl rfl) rfl rfl ?_
  refine SD.nil ?_
  show SL _ _ _ _ _ _ _ [] _ _ _
  refine SL.nil ?_
  refine T.condF rfl ?_
  refine T.skip ?_
  refine T.blk ?_
  refine T.region ?_
  refine SL.y (op_move rfl) rfl rfl ?_
  first | refine SL.y (op_addN (q := 1) rfl rfl (by omega)) rfl rfl ?_ | refine SL.y (op_add rfl rfl (by omega) (by omega)) rfl rfl ?_ | refine SL.y (op_addW rfl rfl) rfl rfl ?_
  refine SL.y (op_assign rfl) rfl rfl ?_
  refine SL.nil ?_
  exact T.backW (cs.length - (i + 1)) (by omega) ⟨i + 1, rfl, by omega, by omega, (hX11.trans' hX12).trans' hX13, rfl, rfl⟩ (by repeat (first | exact Sub.nil | refine Sub.cons rfl ?_))
end Go.Proofs.YtaooojjhlngcmaaDoor
