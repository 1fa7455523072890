/- What the law's proof rests on: the engine, a small separation logic over the kit's walk, and contracts of the functions that the law reaches. Part 4. -/
import Derived.Laws.BytesString
import Derived.Test.YtnpcilglilfajaaGreatDoorPart1
import Derived.Test.YtnpcilglilfajaaGreatDoorPart2
import Derived.Test.YtnpcilglilfajaaGreatDoorPart3
namespace Go.Proofs.YtnpcilglilfajaaGreatDoor
section
set_option maxRecDepth 100000
theorem en124 : Enters Tryz.prog 124 := enters_mk Tryz.func124 (by kernel_rfl) rfl
theorem en36 : Enters Tryz.prog 36 := enters_mk Tryz.func36 (by kernel_rfl) rfl
theorem en74 : Enters Tryz.prog 74 := enters_mk Tryz.func74 (by kernel_rfl) rfl
end
open Go.RowKit
abbrev S3E (b : Nat) (op : Nat) (n : Int) (vn va : Value) : Ow := ⟨b, [.int .u8 (op : Int), .int .i64 n, vn, va], 70, 4⟩
abbrev SetO (b : Nat) (A : Option Addr) (l c : Nat) : Ow := ⟨b, [.slice A l c], 53, 1⟩
theorem numb_spec (N : Nat) : ∀ {X : PMap} {e : Ex} {r : Row4} {vt vs : Value} {ns : List ByteArray} {adm : Nat}, wtE e ≤ N → N < 100000000 → ns.length ≤ 63 → TabR X vt ns → SetR X vs adm → ExR .u8 X e r → Spec Tryz.prog 74 [.agg #[r.1, r.2.1, r.2.2.1, r.2.2.2], vt, vs] X fun u X' => ∃ r' : Row4, u = .tuple #[.agg #[r'.1, r'.2.1, r'.2.2.1, r'.2.2.2], .bool (numbF ns adm e).isSome] ∧ FmR .u8 X' ((numbF ns adm e).getD zeF) r' := by
  induction N with
  | zero => intro X e r _ _ _ _ h; cases e; rw [wtE] at h; omega
  | succ N ih =>
    intro X e r vt vs ns adm hN hB h63 hT hS h
    have hmx : maxLen = 9223372036854775807 := rfl
    cases h with
    | @mk op n l al vn va rows hn ha hl hr =>
    obtain ⟨Aa, ca, rfl⟩ := ha.form
    obtain ⟨An, cn, rfl⟩ := hn.form
    obtain ⟨As, ls, cs, rfl⟩ := hS.form
    have hlen := wtL_len al
    have hnl := wtS_len l
    rw [wtE] at hN
    refine Spec.enter Tryz.func74 rfl Tryz.ntmps74 rfl ?_
    intro w0 hw0
    refine T.seq <| T.region <| SL.w (op_box rfl) ?_
    rintro _ _ _ ⟨B3, rfl, rfl, rfl⟩
    refine SL.w (op_box rfl) ?_
    rintro _ _ _ ⟨B5, rfl, rfl, rfl⟩
    refine SL.w (op_alloc z36) ?_
    rintro _ _ _ ⟨B6, rfl, rfl, rfl⟩
    refine SL.as rfl <| SL.nil <| T.seq <| T.region <| SL.v (op_fieldAddr fa70_0 rfl) <| SL.v (op_load ty33 rfl (by repeat constructor) rfl) ?_
    refine SL.v (op_fieldAddr fa70_1 rfl) <| SL.v (op_load ty3 rfl (by repeat constructor) rfl) ?_
    refine SL.v (op_build st36 (qs := [(0, _), (1, _)]) rfl rfl) <| SL.w (op_alloc z36) ?_
    rintro _ _ _ ⟨B8, rfl, rfl, rfl⟩
    refine SL.w (op_store ty36 rfl rfl (by repeat constructor) rfl rfl rfl) ?_
    rintro _ _ _ ⟨rfl, rfl⟩
    refine SL.nil <| T.seq <| T.seq <| T.region <| SL.v (op_fieldAddr fa70_2 rfl) <| SL.v (op_load ty59 rfl (by repeat constructor) rfl) ?_
    refine SL.v (op_lenS Tryz.underlying59 rfl) <| SL.v (op_move (v := .int .i64 ((0 : Nat) : Int)) rfl) <| SL.nil <| T.block <| T.loopW (fun m env own X' => ∃ (i : Nat) (vn : Value) (Gn : Own) (rs : List Nat), m = l.length - i ∧ i ≤ l.length ∧ X.le X' ∧ numbN ns adm (l.take i) = some rs ∧ rs.length = i ∧ GrowS 3 1 vn rs.length (ints rs) Gn ∧ env = [(1, vt), (3, .pointer (some ⟨B3, 0, none⟩)), (5, .pointer (some ⟨B5, 0, none⟩)), (6, .pointer (some ⟨B6, 0, none⟩)), (8, .pointer (some ⟨B8, 0, none⟩)), (23, .slice An l.length cn), (24, .int .i64 (l.length : Int)), (25, .int .i64 (i : Int))] ∧ own = S3F B8 op n vn (.slice none 0 0) :: S3F B6 0 0 (.slice none 0 0) (.slice none 0 0) :: SetO B5 As ls cs :: S3E B3 op n (.slice An l.length cn) (.slice Aa rows.length ca) :: Gn) l.length ⟨0, _, [], [], by simp, by omega, PMap.le_refl _, rfl, rfl, GrowS.nil, rfl, rfl⟩ (by repeat (first | exact Sub.nil | refine Sub.cons rfl ?_)) ?_
    rintro m _ _ X1 ⟨i, vn1, Gn, rs, rfl, hi, hX1, hrs, hrsl, hGn, rfl, rfl⟩
    obtain ⟨An1, cn1, rfl⟩ := hGn.form
    rcases Nat.lt_or_ge i l.length with hil | hil
    · obtain ⟨s, hs⟩ : ∃ s, l[i]? = some s := ⟨_, List.getElem?_eq_getElem hil⟩
      obtain ⟨bN, preN, rfl, hbN⟩ := hn.blk (by omega)
      have hple := posN_le (s := s) (ns := ns)
      refine T.seq <| T.region <| SL.v (op_lssT rfl rfl (by omega)) ?_
      refine SL.nil <| T.seq <| T.condT rfl <| T.skip <| T.seq <| T.block <| T.seq <| T.region <| SL.v (op_indexN Tryz.underlying59 ty9 rfl rfl (by omega)) ?_
      refine SL.v (op_loadX ty9 rfl (hbN.mono hX1) (str_read hs (by omega))) ?_
      refine SL.as rfl <| SL.nil <| T.seq <| T.region <| SL.mv rfl <| SL.mv rfl <| SL.w (op_callF en36 (vs := [_, _]) rfl (numT_spec (s := s) (hT.mono hX1))) ?_
      rintro _ _ X2 ⟨rfl, hX2, rfl⟩
      by_cases hp : posN s ns = 0
      · have hno := numb_no1 (op := op) (n := n) (al := al) (numbN_bad (adm := adm) hs (.inl hp))
        rw [show decide (posN s ns ≠ 0) = false from decide_eq_false (by simpa using hp)]
        refine SL.mv rfl <| SL.v (op_extract rfl rfl) <| SL.v (op_extract rfl rfl) <| SL.as rfl <| SL.as rfl <| SL.nil <| T.seq <| T.seq <| T.region <| SL.mv rfl <| SL.v (op_not rfl) <| SL.mv rfl <| SL.skip rfl rfl ?_
        refine SL.skip rfl rfl ?_
        refine SL.skip rfl rfl ?_
        refine SL.v (op_pickT rfl rfl) <| SL.nil <| T.condT rfl <| T.seq <| T.region <| SL.v (op_build st36 (qs := []) rfl rfl) <| SL.w (op_store ty36 rfl rfl (by repeat constructor) rfl rfl rfl) ?_
        rintro _ _ _ ⟨rfl, rfl⟩
        refine SL.as rfl <| SL.nil <| T.ret2 rfl (ResIs.cell rfl ty36 (by repeat constructor) rfl) (ResIs.tmp rfl) ?_
        rw [hno]
        exact ⟨_, rfl, zeF_R⟩
      rw [show decide (posN s ns ≠ 0) = true from decide_eq_true hp]
      refine SL.mv rfl <| SL.v (op_extract rfl rfl) <| SL.v (op_extract rfl rfl) <| SL.as rfl <| SL.as rfl <| SL.nil <| T.seq <| T.seq <| T.region <| SL.mv rfl <| SL.v (op_not rfl) <| SL.mv rfl <| SL.v (op_load ty53 rfl (by repeat constructor) rfl) ?_
      refine SL.mv rfl <| SL.w (op_callF en124 (vs := [_, _]) rfl (has_spec ((hS.mono hX1).mono hX2) (posN s ns : Int))) ?_
      rintro _ _ X3 ⟨rfl, hX3, rfl⟩
      by_cases hb : adm.testBit (posN s ns) = true
      · have hno := numb_no1 (op := op) (n := n) (al := al) (numbN_bad (adm := adm) hs (.inr hb))
        rw [show hasB adm (posN s ns : Int) = true by simp [hasB, hb]]
        refine SL.v (op_pickF rfl rfl) <| SL.nil <| T.condT rfl <| T.seq <| T.region <| SL.v (op_build st36 (qs := []) rfl rfl) <| SL.w (op_store ty36 rfl rfl (by repeat constructor) rfl rfl rfl) ?_
        rintro _ _ _ ⟨rfl, rfl⟩
        refine SL.as rfl <| SL.nil <| T.ret2 rfl (ResIs.cell rfl ty36 (by repeat constructor) rfl) (ResIs.tmp rfl) ?_
        rw [hno]
        exact ⟨_, rfl, zeF_R⟩
      rw [show hasB adm (posN s ns : Int) = false by simp [hasB, hb]]
      refine SL.v (op_pickF rfl rfl) <| SL.nil <| T.condF rfl <| T.skip <| T.region <| SL.v (op_fieldAddr fa36_2 rfl) <| SL.v (op_load ty24 rfl (by repeat constructor) rfl) ?_
      refine SL.mv rfl <| SL.w (op_buildSlice Tryz.underlying24 bs3 (qs := [(0, _)]) rfl rfl rfl rfl rfl) ?_
      rintro _ _ _ ⟨B46, rfl, rfl, rfl⟩
      refine SL.w (op_appendGA (own0 := [_, _, _, _, _]) (m := 1) sl24 rfl hGn rfl (Src.ofOwn0 AtO.here rfl) (by intro y hy; have hy : y ∈ [Value.int _ _] := hy; simp only [List.mem_cons, List.not_mem_nil, or_false] at hy; rcases hy with rfl; rfl) (by omega) (by omega)) ?_
      rintro vn9 _ _ ⟨Gn9, rfl, rfl, hGn9⟩
      obtain ⟨An9, cn9, rfl⟩ := hGn9.form
      refine SL.v (op_fieldAddr fa36_2 rfl) <| SL.w (op_store ty24 rfl rfl (by repeat constructor) rfl rfl rfl) ?_
      rintro _ _ _ ⟨rfl, rfl⟩
      refine SL.nil <| T.blk <| T.region <| SL.v (op_addN (q := 1) rfl rfl (by omega)) ?_
      refine SL.mv rfl <| SL.nil <| T.less (List.sublist_cons_self _ _) ?_
      have hGn10 : GrowS 3 1 (.slice An9 (rs.length + 1) cn9) (rs ++ [posN s ns]).length (ints (rs ++ [posN s ns])) Gn9 := by
        rw [List.length_append, show ints (rs ++ [posN s ns]) = ints rs ++ ints [posN s ns] by simp [ints]]
        exact hGn9
      exact T.backW (l.length - (i + 1)) (by omega) ⟨i + 1, _, _, rs ++ [posN s ns], rfl, by omega, (hX1.trans' hX2).trans' hX3, numbN_snoc hs (fun h => h.elim hp hb) hrs, by rw [List.length_append, hrsl]; rfl, hGn10, rfl, rfl⟩ (by repeat (first | exact Sub.nil | refine Sub.cons rfl ?_))
    obtain rfl : i = l.length := by omega
    rw [List.take_of_length_le (by omega)] at hrs
    refine T.seq <| T.region <| SL.v (op_lssF rfl rfl (by omega)) ?_
    refine SL.nil <| T.seq <| T.condF rfl ?_
    refine T.exit (T.exitCode (T.exitCut (T.exitBlk ?_)))
    refine T.seq <| T.seq <| T.region <| SL.v (op_fieldAddr fa70_3 rfl) <| SL.v (op_load ty68 rfl (by repeat constructor) rfl) ?_
    refine SL.v (op_lenS Tryz.underlying68 rfl) <| SL.v (op_move (v := .int .i64 ((0 : Nat) : Int)) rfl) <| SL.nil <| T.block <| T.pubG (own0 := [_, _, _, _]) hGn ?_
    intro Y1 hY1 hS1
    have hXY := hX1.trans' hY1
    have hN1 := IntsR.ofG hGn hS1
    obtain ⟨vn8, hvn8⟩ : ∃ v, v = Value.slice An1 rs.length cn1 := ⟨_, rfl⟩
    refine T.drop B3 (by repeat constructor) ?_
    refine T.loopW (fun m env own X' => ∃ (i : Nat) (va : Value) (Ga : Own) (bl : List Fm) (qs : List Row4), m = rows.length - i ∧ i ≤ rows.length ∧ Y1.le X' ∧ numbL ns adm (al.take i) = some bl ∧ bl.length = i ∧ qs.length = i ∧ GrowS 36 4 va qs.length (qs.map rc4).flatten Ga ∧ (∀ (q : Nat) (a : Fm) (r : Row4), bl[q]? = some a → qs[q]? = some r → FmR .u8 X' a r) ∧ env = [(1, vt), (5, .pointer (some ⟨B5, 0, none⟩)), (6, .pointer (some ⟨B6, 0, none⟩)), (8, .pointer (some ⟨B8, 0, none⟩)), (51, .slice Aa rows.length ca), (52, .int .i64 (rows.length : Int)), (53, .int .i64 (i : Int))] ∧ own = S3F B8 op n (.slice An1 rs.length cn1) va :: S3F B6 0 0 (.slice none 0 0) (.slice none 0 0) :: SetO B5 As ls cs :: Ga) rows.length ⟨0, _, [], [], [], by simp, by omega, PMap.le_refl _, rfl, rfl, rfl, GrowS.nil, fun q a r _ h => by simp at h, rfl, rfl⟩ (by repeat (first | exact Sub.nil | refine Sub.cons rfl ?_)) ?_
    rintro m _ _ X2 ⟨i, va, Ga, bl, qs, rfl, hi, hX2, hbl, hbll, hqsl, hGa, hqs, rfl, rfl⟩
    obtain ⟨Aa7, ca7, rfl⟩ := hGa.form
    rcases Nat.lt_or_ge i rows.length with hil | hil
    · obtain ⟨r2, hr2⟩ : ∃ r2, rows[i]? = some r2 := ⟨_, List.getElem?_eq_getElem hil⟩
      obtain ⟨a, ha2⟩ : ∃ a, al[i]? = some a := ⟨_, List.getElem?_eq_getElem (by omega)⟩
      have hra := (hr i a r2 ha2 hr2).mono (hXY.trans' hX2)
      obtain ⟨bA, pre, rfl, hbA⟩ := ha.blk (by omega)
      have hma := List.mem_of_getElem? ha2
      have hwa := wtL_mem hma
      have hih := ih (by omega) (by omega) h63 (hT.mono (hXY.trans' hX2)) (hS.mono (hXY.trans' hX2)) hra
      obtain ⟨_, _, _, _, _, _, _, _, rfl⟩ := hra.form
      try simp only at hih
      refine T.seq <| T.region <| SL.v (op_lssT rfl rfl (by omega)) ?_
      refine SL.nil <| T.seq <| T.condT rfl <| T.skip <| T.seq <| T.block <| T.seq <| T.region <| SL.v (op_indexN Tryz.underlying68 ty70 rfl rfl (by omega)) ?_
      refine SL.v (op_loadX ty70 rfl (hbA.mono (hXY.trans' hX2)) (row_read rc4_len hr2 (by omega))) ?_
      refine SL.w (op_alloc z70) ?_
      rintro _ _ _ ⟨B14, rfl, rfl, rfl⟩
      refine SL.w (op_store ty70 rfl rfl (by repeat constructor) rfl rfl rfl) ?_
      rintro _ _ _ ⟨rfl, rfl⟩
      refine SL.nil <| T.seq <| T.region <| SL.v (op_load ty70 rfl (by repeat constructor) rfl) ?_
      refine SL.mv rfl <| SL.v (op_load ty53 rfl (by repeat constructor) rfl) ?_
      refine SL.w (op_callF en74 (vs := [_, _, _]) rfl (hih)) ?_
      rintro _ _ X3 ⟨rfl, hX3, r8, rfl, hr8⟩
      obtain ⟨o8, n8, a8, b8, l8, c8, l9, c9, rfl⟩ := hr8.form
      cases hnf : numbF ns adm a with
      | none =>
        have hno := numb_no2 (op := op) (n := n) (l := l) (numbL_bad (adm := adm) ha2 hnf)
        rw [Option.isSome_none]
        refine SL.mv rfl <| SL.v (op_extract rfl rfl) <| SL.v (op_extract rfl rfl) <| SL.w (op_alloc z36) ?_
        rintro _ _ _ ⟨B15, rfl, rfl, rfl⟩
        refine SL.w (op_store ty36 rfl rfl (by repeat constructor) rfl rfl rfl) ?_
        rintro _ _ _ ⟨rfl, rfl⟩
        refine SL.as rfl <| SL.nil <| T.seq <| T.seq <| T.region <| SL.mv rfl <| SL.v (op_not rfl) <| SL.nil <| T.condT rfl <| T.seq <| T.region <| SL.v (op_build st36 (qs := []) rfl rfl) <| SL.w (op_store ty36 rfl rfl (by repeat constructor) rfl rfl rfl) ?_
        rintro _ _ _ ⟨rfl, rfl⟩
        refine SL.as rfl <| SL.nil <| T.ret2 rfl (ResIs.cell rfl ty36 (by repeat constructor) rfl) (ResIs.tmp rfl) ?_
        rw [hno]
        exact ⟨_, rfl, zeF_R⟩
      | some f =>
        rw [hnf] at hr8
        rw [Option.isSome_some]
        refine SL.mv rfl <| SL.v (op_extract rfl rfl) <| SL.v (op_extract rfl rfl) <| SL.w (op_alloc z36) ?_
        rintro _ _ _ ⟨B15, rfl, rfl, rfl⟩
        refine SL.w (op_store ty36 rfl rfl (by repeat constructor) rfl rfl rfl) ?_
        rintro _ _ _ ⟨rfl, rfl⟩
        refine SL.as rfl <| SL.nil <| T.seq <| T.seq <| T.region <| SL.mv rfl <| SL.v (op_not rfl) <| SL.nil <| T.condF rfl <| T.skip <| T.region <| SL.v (op_fieldAddr fa36_3 rfl) <| SL.v (op_load ty34 rfl (by repeat constructor) rfl) ?_
        refine SL.v (op_load ty36 rfl (by repeat constructor) rfl) ?_
        refine SL.w (op_buildSlice Tryz.underlying34 bs36 (qs := [(0, _)]) rfl rfl rfl rfl rfl) ?_
        rintro _ _ _ ⟨B70, rfl, rfl, rfl⟩
        refine SL.w (op_appendGA (own0 := [_, _, _, _, _, _]) (m := 1) sl34 rfl hGa rfl (Src.ofOwn0 AtO.here rfl) (by intro y hy; have hy : y ∈ [Value.int _ _, Value.int _ _, Value.slice _ _ _, Value.slice _ _ _] := hy; simp only [List.mem_cons, List.not_mem_nil, or_false] at hy; rcases hy with rfl | rfl | rfl | rfl <;> rfl) (by omega) (by omega)) ?_
        rintro va9 _ _ ⟨Ga9, rfl, rfl, hGa9⟩
        obtain ⟨Aa9, ca9, rfl⟩ := hGa9.form
        refine SL.v (op_fieldAddr fa36_3 rfl) <| SL.w (op_store ty34 rfl rfl (by repeat constructor) rfl rfl rfl) ?_
        rintro _ _ _ ⟨rfl, rfl⟩
        refine SL.nil <| T.blk <| T.region <| SL.v (op_addN (q := 1) rfl rfl (by omega)) ?_
        refine SL.mv rfl <| SL.nil <| T.less (List.sublist_cons_self _ _) ?_
        refine T.less (List.sublist_cons_self _ _) ?_
        refine T.less (List.sublist_cons_self _ _) ?_
        have hGa10 : GrowS 36 4 (.slice Aa9 (qs.length + 1) ca9) (qs ++ [((.int .u8 (o8 : Int), .int .i64 n8, .slice a8 l8 c8, .slice b8 l9 c9) : Row4)]).length (((qs ++ [((.int .u8 (o8 : Int), .int .i64 n8, .slice a8 l8 c8, .slice b8 l9 c9) : Row4)]).map rc4).flatten) Ga9 := by
          rw [List.length_append, List.map_append, List.flatten_append]
          exact hGa9
        have hrows2 : ∀ (q : Nat) (a : Fm) (r : Row4), (bl ++ [f])[q]? = some a → (qs ++ [((.int .u8 (o8 : Int), .int .i64 n8, .slice a8 l8 c8, .slice b8 l9 c9) : Row4)])[q]? = some r → FmR .u8 X3 a r := rows_snoc2 (by omega) (fun q a r h1 h2 => (hqs q a r h1 h2).mono hX3) hr8
        exact T.backW (rows.length - (i + 1)) (by omega) ⟨i + 1, _, _, bl ++ [f], qs ++ [(.int .u8 (o8 : Int), .int .i64 n8, .slice a8 l8 c8, .slice b8 l9 c9)], rfl, by omega, hX2.trans' hX3, numbL_snoc ha2 hnf hbl, by rw [List.length_append, hbll]; rfl, by rw [List.length_append, hqsl]; rfl, hGa10, hrows2, rfl, rfl⟩ (by repeat (first | exact Sub.nil | refine Sub.cons rfl ?_))
    · obtain rfl : i = rows.length := by omega
      rw [List.take_of_length_le (by omega)] at hbl
      refine T.seq <| T.region <| SL.v (op_lssF rfl rfl (by omega)) ?_
      refine SL.nil <| T.seq <| T.condF rfl ?_
      refine T.exit (T.exitCode (T.exitCut (T.exitBlk ?_)))
      refine T.seq <| T.region <| SL.v (op_load ty36 rfl (by repeat constructor) rfl) ?_
      refine SL.w (op_store ty36 rfl rfl (by repeat constructor) rfl rfl rfl) ?_
      rintro _ _ _ ⟨rfl, rfl⟩
      refine SL.as rfl <| SL.nil <| T.pubG (own0 := [_, _, _]) hGa ?_
      intro X9 hX9 hS9
      refine T.ret2 rfl (ResIs.cell rfl ty36 (by repeat constructor) rfl) (ResIs.tmp rfl) ?_
      have hA : RowR rc4 X9 (.slice Aa7 qs.length ca7) qs := RowR.ofG hGa hS9
      rw [numb_mk hrs hbl]
      exact ⟨(.int .u8 (op : Int), .int .i64 n, .slice An1 rs.length cn1, .slice Aa7 qs.length ca7), rfl, .mk ((hN1.mono hX2).mono hX9) hA (hqsl.trans hbll.symm) (fun q a r h1 h2 => (hqs q a r h1 h2).mono hX9)⟩
end Go.Proofs.YtnpcilglilfajaaGreatDoor
namespace Go.Proofs.YtnpcilglilfajaaGreatDoor
open Go.RowKit
end Go.Proofs.YtnpcilglilfajaaGreatDoor
namespace Go.Proofs.YtnpcilglilfajaaGreatDoor
open Go.RowKit
end Go.Proofs.YtnpcilglilfajaaGreatDoor
namespace Go.Proofs.YtnpcilglilfajaaGreatDoor
section
set_option maxRecDepth 100000
theorem en72 : Enters Tryz.prog 72 := enters_mk Tryz.func72 (by kernel_rfl) rfl
theorem en73 : Enters Tryz.prog 73 := enters_mk Tryz.func73 (by kernel_rfl) rfl
end
open Go.RowKit
/-- The formula of an expression, and the error. -/
noncomputable def resF (ns : List ByteArray) (adm kind : Nat) (e : Ex) : Fm × Int :=
  if kind < 1 ∨ 3 < kind then (zeF, 1) else if chkE e ≠ 0 then (zeF, chkE e) else match numbF ns adm e with
    | none => (zeF, 9)
    | some f => if chkF kind f ≠ 0 then (zeF, chkF kind f) else (f, 0)
theorem TabR.form {X : PMap} {v : Value} {ns : List ByteArray} (h : TabR X v ns) : ∃ b, v = .pointer (some ⟨b, 0, none⟩) := let ⟨b, _, _, h1, _⟩ := h; ⟨b, h1⟩
theorem resolve_spec {X : PMap} {e : Ex} {r : Row4} {vt vs : Value} {ns : List ByteArray} {adm kind : Nat} (hw : wtE e < 1000000) (hk : kind < 256) (h63 : ns.length ≤ 63) (hT : TabR X vt ns) (hS : SetR X vs adm) (h : ExR .u8 X e r) : Spec Tryz.prog 25 [.agg #[r.1, r.2.1, r.2.2.1, r.2.2.2], .int .u8 (kind : Int), vt, vs] X fun u X' => ∃ r' : Row4, u = .tuple #[.agg #[r'.1, r'.2.1, r'.2.2.1, r'.2.2.2], .int .i64 (resF ns adm kind e).2] ∧ FmR .u8 X' (resF ns adm kind e).1 r' := by
  have hc1 := fun {X' : PMap} (hX : X.le X') => chk_spec (by omega) (h.mono hX)
  have hc2 := fun {X' : PMap} (hX : X.le X') => numb_spec (wtE e) (Nat.le_refl _) (by omega) h63 (hT.mono hX) (hS.mono hX) (h.mono hX)
  obtain ⟨bt, rfl⟩ := hT.form
  obtain ⟨As, ls, cs, rfl⟩ := hS.form
  obtain ⟨o, n, A, B, l, c, l', c', rfl⟩ := h.form
  try simp only at hc1
  try simp only at hc2
  rw [resF]
  by_cases k1 : kind < 1
  · rw [if_pos (.inl k1)]
    refine Spec.enter Tryz.func25 rfl Tryz.ntmps25 rfl ?_
    intro w0 hw0
    refine T.seq <| T.region <| SL.w (op_box rfl) ?_
    rintro _ _ _ ⟨B4, rfl, rfl, rfl⟩
    refine SL.w (op_box rfl) ?_
    rintro _ _ _ ⟨B7, rfl, rfl, rfl⟩
    refine SL.w (op_alloc z36) ?_
    rintro _ _ _ ⟨B8, rfl, rfl, rfl⟩
    refine SL.v (op_assign (v := .int .i64 ((0 : Nat) : Int)) rfl) <| SL.nil <| T.seq <| T.seq <| T.region <| SL.mv rfl <| SL.v (op_eqlNil Tryz.underlying64 rfl rfl) <| SL.mv rfl <| SL.mv rfl <| SL.v (op_lssT rfl rfl (by omega)) ?_
    refine SL.v (op_pickF rfl rfl) <| SL.mv rfl <| SL.skip rfl rfl ?_
    refine SL.skip rfl rfl ?_
    refine SL.v (op_pickT rfl rfl) <| SL.nil <| T.condT rfl <| T.seq <| T.region <| SL.v (op_build st36 (qs := []) rfl rfl) <| SL.w (op_store ty36 rfl rfl (by repeat constructor) rfl rfl rfl) ?_
    rintro _ _ _ ⟨rfl, rfl⟩
    refine SL.v (op_assign (v := .int .i64 ((1 : Nat) : Int)) rfl) <| SL.nil <| T.ret2 rfl (ResIs.cell rfl ty36 (by repeat constructor) rfl) (ResIs.tmp rfl) ?_
    exact ⟨_, rfl, zeF_R⟩
  by_cases k2 : 3 < kind
  · rw [if_pos (.inr k2)]
    refine Spec.enter Tryz.func25 rfl Tryz.ntmps25 rfl ?_
    intro w0 hw0
    refine T.seq <| T.region <| SL.w (op_box rfl) ?_
    rintro _ _ _ ⟨B4, rfl, rfl, rfl⟩
    refine SL.w (op_box rfl) ?_
    rintro _ _ _ ⟨B7, rfl, rfl, rfl⟩
    refine SL.w (op_alloc z36) ?_
    rintro _ _ _ ⟨B8, rfl, rfl, rfl⟩
    refine SL.v (op_assign (v := .int .i64 ((0 : Nat) : Int)) rfl) <| SL.nil <| T.seq <| T.seq <| T.region <| SL.mv rfl <| SL.v (op_eqlNil Tryz.underlying64 rfl rfl) <| SL.mv rfl <| SL.mv rfl <| SL.v (op_lssF rfl rfl (by omega)) ?_
    refine SL.v (op_pickF rfl rfl) <| SL.mv rfl <| SL.mv rfl <| SL.v (op_gtrT rfl rfl (by omega)) ?_
    refine SL.v (op_pickF rfl rfl) <| SL.nil <| T.condT rfl <| T.seq <| T.region <| SL.v (op_build st36 (qs := []) rfl rfl) <| SL.w (op_store ty36 rfl rfl (by repeat constructor) rfl rfl rfl) ?_
    rintro _ _ _ ⟨rfl, rfl⟩
    refine SL.v (op_assign (v := .int .i64 ((1 : Nat) : Int)) rfl) <| SL.nil <| T.ret2 rfl (ResIs.cell rfl ty36 (by repeat constructor) rfl) (ResIs.tmp rfl) ?_
    exact ⟨_, rfl, zeF_R⟩
  rw [if_neg (fun h => h.elim k1 k2)]
  refine Spec.enter Tryz.func25 rfl Tryz.ntmps25 rfl ?_
  intro w0 hw0
  refine T.seq <| T.region <| SL.w (op_box rfl) ?_
  rintro _ _ _ ⟨B4, rfl, rfl, rfl⟩
  refine SL.w (op_box rfl) ?_
  rintro _ _ _ ⟨B7, rfl, rfl, rfl⟩
  refine SL.w (op_alloc z36) ?_
  rintro _ _ _ ⟨B8, rfl, rfl, rfl⟩
  refine SL.v (op_assign (v := .int .i64 ((0 : Nat) : Int)) rfl) <| SL.nil <| T.seq <| T.seq <| T.region <| SL.mv rfl <| SL.v (op_eqlNil Tryz.underlying64 rfl rfl) <| SL.mv rfl <| SL.mv rfl <| SL.v (op_lssF rfl rfl (by omega)) ?_
  refine SL.v (op_pickF rfl rfl) <| SL.mv rfl <| SL.mv rfl <| SL.v (op_gtrF rfl rfl (by omega)) ?_
  refine SL.v (op_pickF rfl rfl) <| SL.nil <| T.condF rfl <| T.skip <| T.seq <| T.seq <| T.region <| SL.v (op_load ty70 rfl (by repeat constructor) rfl) ?_
  refine SL.w (op_callF en73 (vs := [_]) rfl (hc1 (PMap.le_refl _))) ?_
  rintro _ _ X1 ⟨rfl, hX1, rfl⟩
  by_cases d : chkE e = 0
  case neg =>
    rw [if_pos d]
    refine SL.as rfl <| SL.nil <| T.seq <| T.region <| SL.mv rfl <| SL.v (op_neqT rfl rfl (by omega)) ?_
    refine SL.nil <| T.condT rfl <| T.seq <| T.region <| SL.v (op_build st36 (qs := []) rfl rfl) <| SL.mv rfl <| SL.w (op_store ty36 rfl rfl (by repeat constructor) rfl rfl rfl) ?_
    rintro _ _ _ ⟨rfl, rfl⟩
    refine SL.as rfl <| SL.nil <| T.ret2 rfl (ResIs.cell rfl ty36 (by repeat constructor) rfl) (ResIs.tmp rfl) ?_
    exact ⟨_, rfl, zeF_R⟩
  rw [if_neg (fun h => h d), d]
  refine SL.as rfl <| SL.nil <| T.seq <| T.region <| SL.mv rfl <| SL.v (op_neqF rfl rfl (by omega)) ?_
  refine SL.nil <| T.condF rfl <| T.skip <| T.seq <| T.region <| SL.v (op_load ty70 rfl (by repeat constructor) rfl) ?_
  refine SL.mv rfl <| SL.v (op_load ty53 rfl (by repeat constructor) rfl) ?_
  refine SL.w (op_callF en74 (vs := [_, _, _]) rfl (hc2 hX1)) ?_
  rintro _ _ X2 ⟨rfl, hX2, r8, rfl, hr8⟩
  cases hnf : numbF ns adm e with
  | none =>
    obtain ⟨o8, n8, a8, b8, l8, c8, l9, c9, rfl⟩ := hr8.form
    rw [Option.isSome_none]
    refine SL.mv rfl <| SL.v (op_extract rfl rfl) <| SL.v (op_extract rfl rfl) <| SL.w (op_alloc z36) ?_
    rintro _ _ _ ⟨B11, rfl, rfl, rfl⟩
    refine SL.w (op_store ty36 rfl rfl (by repeat constructor) rfl rfl rfl) ?_
    rintro _ _ _ ⟨rfl, rfl⟩
    refine SL.as rfl <| SL.nil <| T.seq <| T.seq <| T.region <| SL.mv rfl <| SL.v (op_not rfl) <| SL.nil <| T.condT rfl <| T.seq <| T.region <| SL.v (op_build st36 (qs := []) rfl rfl) <| SL.w (op_store ty36 rfl rfl (by repeat constructor) rfl rfl rfl) ?_
    rintro _ _ _ ⟨rfl, rfl⟩
    refine SL.v (op_assign (v := .int .i64 ((9 : Nat) : Int)) rfl) <| SL.nil <| T.ret2 rfl (ResIs.cell rfl ty36 (by repeat constructor) rfl) (ResIs.tmp rfl) ?_
    exact ⟨_, rfl, zeF_R⟩
  | some f =>
    rw [hnf, Option.getD_some] at hr8
    have hwf := numbF_wt e hnf
    have hc3 := fun {X' : PMap} (hX : X2.le X') => fchk_spec (kind := kind) (by omega) hk (hr8.mono hX)
    obtain ⟨o8, n8, a8, b8, l8, c8, l9, c9, rfl⟩ := hr8.form
    try simp only at hc3
    rw [Option.isSome_some]
    refine SL.mv rfl <| SL.v (op_extract rfl rfl) <| SL.v (op_extract rfl rfl) <| SL.w (op_alloc z36) ?_
    rintro _ _ _ ⟨B11, rfl, rfl, rfl⟩
    refine SL.w (op_store ty36 rfl rfl (by repeat constructor) rfl rfl rfl) ?_
    rintro _ _ _ ⟨rfl, rfl⟩
    refine SL.as rfl <| SL.nil <| T.seq <| T.seq <| T.region <| SL.mv rfl <| SL.v (op_not rfl) <| SL.nil <| T.condF rfl <| T.skip <| T.seq <| T.seq <| T.region <| SL.v (op_load ty36 rfl (by repeat constructor) rfl) ?_
    refine SL.mv rfl <| SL.w (op_callF en18 (vs := [_, _]) rfl (hc3 (PMap.le_refl _))) ?_
    rintro _ _ X3 ⟨rfl, hX3, rfl⟩
    simp only
    by_cases d2 : chkF kind f = 0
    case neg =>
      rw [if_pos d2]
      refine SL.as rfl <| SL.nil <| T.seq <| T.region <| SL.mv rfl <| SL.v (op_neqT rfl rfl (by omega)) ?_
      refine SL.nil <| T.condT rfl <| T.seq <| T.region <| SL.v (op_build st36 (qs := []) rfl rfl) <| SL.mv rfl <| SL.w (op_store ty36 rfl rfl (by repeat constructor) rfl rfl rfl) ?_
      rintro _ _ _ ⟨rfl, rfl⟩
      refine SL.as rfl <| SL.nil <| T.ret2 rfl (ResIs.cell rfl ty36 (by repeat constructor) rfl) (ResIs.tmp rfl) ?_
      exact ⟨_, rfl, zeF_R⟩
    rw [if_neg (fun h => h d2), d2]
    refine SL.as rfl <| SL.nil <| T.seq <| T.region <| SL.mv rfl <| SL.v (op_neqF rfl rfl (by omega)) ?_
    refine SL.nil <| T.condF rfl <| T.skip <| T.seq <| T.region <| SL.v (op_load ty36 rfl (by repeat constructor) rfl) ?_
    refine SL.w (op_store ty36 rfl rfl (by repeat constructor) rfl rfl rfl) ?_
    rintro _ _ _ ⟨rfl, rfl⟩
    refine SL.v (op_assign (v := .int .i64 ((0 : Nat) : Int)) rfl) <| SL.nil <| T.ret2 rfl (ResIs.cell rfl ty36 (by repeat constructor) rfl) (ResIs.tmp rfl) ?_
    exact ⟨_, rfl, hr8.mono hX3⟩
theorem tabl_spec {X : PMap} {v : Value} {l : List ByteArray} (h : RowR strC X v l) (hl : l.length < 1000000) : Spec Tryz.prog 24 [v] X fun u X' => if errOf 63 [] l = 0 then TabR X' u l else u = .pointer none := by
  obtain ⟨A, cp, rfl⟩ := h.form
  refine Spec.enter Tryz.func24 rfl Tryz.ntmps24 rfl ?_
  intro w0 hw0
  refine T.seq <| T.region <| SL.as rfl <| SL.nil <| T.seq <| T.region <| SL.mv rfl <| SL.w (op_callF en72 (vs := [_, _]) rfl (of_tab_spec (n := 63) h hl)) ?_
  rintro u2 _ X1 ⟨rfl, hX1, hu⟩
  by_cases he : errOf 63 [] l = 0
  · rw [if_pos he] at hu
    obtain ⟨v', rfl, hT⟩ := hu
    refine SL.mv rfl <| SL.v (op_extract rfl rfl) <| SL.v (op_extract rfl rfl) <| SL.as rfl <| SL.as rfl <| SL.nil <| T.seq <| T.seq <| T.region <| SL.mv rfl <| SL.v (op_neqF rfl rfl (by omega)) ?_
    refine SL.nil <| T.condF rfl <| T.skip <| T.seq <| T.region <| SL.mv rfl <| SL.as rfl <| SL.nil <| T.ret1 rfl (ResIs.tmp rfl) ?_
    rw [if_pos he]
    exact hT
  · rw [if_neg he] at hu
    subst hu
    refine SL.mv rfl <| SL.v (op_extract rfl rfl) <| SL.v (op_extract rfl rfl) <| SL.as rfl <| SL.as rfl <| SL.nil <| T.seq <| T.seq <| T.region <| SL.mv rfl <| SL.v (op_neqT rfl rfl (by omega)) ?_
    refine SL.nil <| T.condT rfl <| T.seq <| T.region <| SL.as rfl <| SL.nil <| T.ret1 rfl (ResIs.tmp rfl) ?_
    rw [if_neg he]
end Go.Proofs.YtnpcilglilfajaaGreatDoor
namespace Go.Proofs.YtnpcilglilfajaaGreatDoor
section
set_option maxRecDepth 100000
theorem en15 : Enters Tryz.prog 15 := enters_mk Tryz.func15 (by kernel_rfl) rfl
theorem en24 : Enters Tryz.prog 24 := enters_mk Tryz.func24 (by kernel_rfl) rfl
theorem en25 : Enters Tryz.prog 25 := enters_mk Tryz.func25 (by kernel_rfl) rfl
theorem en50 : Enters Tryz.prog 50 := enters_mk Tryz.func50 (by kernel_rfl) rfl
theorem en57 : Enters Tryz.prog 57 := enters_mk Tryz.func57 (by kernel_rfl) rfl
theorem z101 : Zero Tryz.prog 101 [.bool false, .int .u8 0, .string ⟨#[]⟩, .int .u8 0, .int .i64 0, .slice none 0 0, .slice none 0 0] := ⟨zero_of (by kernel_rfl)⟩
theorem st101 : StT Tryz.prog 101 [(0, 1), (1, 1), (2, 1), (3, 4)] [.bool false, .int .u8 0, .string ⟨#[]⟩, .int .u8 0, .int .i64 0, .slice none 0 0, .slice none 0 0] := ⟨⟨_, Tryz.underlying101, fun _ => by kernel_rfl, z101⟩⟩
end
open Go.RowKit
section
variable {P : Program} {n : NM} {own : Own} {X : PMap} {env : Env}
/-- string(b) of published bytes. -/
theorem op_strBytesR {src dst e : TypeId} {x : Operand} {v : Value} {l : List UInt8} (hs : P.underlying src = some (.slice e)) (he : P.underlying e = some (.int .u8)) (hd : P.underlying dst = some .string)
    (hx : eev env x = some v) (hv : BytesR X v (l.map (·.toNat))) (h0 : 0 < l.length) : OpY P n env own X (.convert src dst x) (.string ⟨l.toArray⟩) := by
  rcases hv with ⟨h1, _⟩ | ⟨_, b, c, pre, rfl, hB⟩
  · rw [List.map_eq_nil_iff] at h1; rw [h1] at h0; exact absurd h0 (by simp)
  · refine op_strBytes (a := ⟨b, pre.length, none⟩) (cap := c) hs he hd (by rw [hx, List.length_map]) fun W hst j hj => ?_
    refine Eq.trans (congrArg W.cell? (show Addr.add ⟨b, pre.length, none⟩ j = ⟨b, pre.length + j, none⟩ by unfold Addr.add; split <;> simp_all)) (hB.cell hst.pers (i := pre.length + j) (v := .int .u8 (l[j].toNat : Int)) ?_)
    exact (by
      rw [List.getElem?_append_right (by omega), Nat.add_sub_cancel_left]
      exact bytesC_at (b := l[j].toNat) (by simp [hj]))
end
theorem exLeaf {k : IntKind} {X : PMap} {op : Nat} {n : Int} {vn : Value} {ns : List ByteArray} (hn : RowR strC X vn ns) : ExR k X (.mk op n ns []) (.int k (op : Int), .int .i64 n, vn, .slice none 0 0) := .mk (rows := []) hn (.inl ⟨rfl, _, _, rfl⟩) rfl (fun i a r h => by simp at h)
theorem exTwo {k : IntKind} {X : PMap} {op : Nat} {n : Int} {va : Value} {a b : Ex} {ra rb : Row4} (h : RowR rc4 X va [ra, rb]) (ha : ExR k X a ra) (hb : ExR k X b rb) : ExR k X (.mk op n [] [a, b]) (.int k (op : Int), .int .i64 n, .slice none 0 0, va) := .mk (rows := [ra, rb]) (.inl ⟨rfl, _, _, rfl⟩) h rfl (fun i x r h1 h2 => by
  match i with
  | 0 => simp at h1 h2; subst h1 h2; exact ha
  | 1 => simp at h1 h2; subst h1 h2; exact hb
  | i + 2 => simp at h1)
def sClerk : ByteArray := ⟨#[99, 108, 101, 114, 107]⟩
def sAud : ByteArray := ⟨#[97, 117, 100, 105, 116, 111, 114]⟩
def sTell : ByteArray := ⟨#[116, 101, 108, 108, 101, 114]⟩
def nsA : List ByteArray := [sClerk, sAud, sTell]
def e1A : Ex := .mk 11 0 [] [.mk 5 0 [sClerk, sAud] [], .mk 1 1 [] []]
def e2A : Ex := .mk 11 0 [] [.mk 16 0 [] [.mk 4 0 [sClerk] [], .mk 1 1 [] []], .mk 1 2 [] []]
def f1A : Fm := .mk 11 0 [] [.mk 5 0 [1, 2] [], .mk 1 1 [] []]
def f3A : Fm := .mk 4 0 [3] []
def sSod : ByteArray := ⟨#[115, 111, 100]⟩
theorem aw18n : errOf 63 [] nsA = 0 := errOf_ok (by intro s hs; simp only [nsA, List.mem_cons, List.not_mem_nil, or_false] at hs; rcases hs with rfl | rfl | rfl <;> exact of_decide_eq_true (by kernel_rfl)) (of_decide_eq_true (by kernel_rfl)) (by decide) (by decide)
theorem aw18a : resF nsA 0 1 e1A = (f1A, 0) := by kernel_rfl
theorem aw18b : (resF nsA 0 3 e1A).2 = 10 := by kernel_rfl
theorem aw18c : (resF nsA 0 1 e2A).2 = 10 := by kernel_rfl
theorem aw18t : typF f1A = (1, 0) := by kernel_rfl
theorem aw18m : menF f1A = 6 := by kernel_rfl
theorem aw18k : chkC18 1 sSod f3A = 0 := by kernel_rfl
theorem numB_small {n : Nat} (h : n < 128) : numB n = [n] := by rw [numB, Nat.div_eq_of_lt h, numHi_zero, Nat.mod_eq_of_lt h]; rfl
theorem aw18e : enc18 true 1 sSod f3A = [1, 1, 3, 115, 111, 100, 4, 0, 1, 3, 0] := by
  rw [enc18, show sSod.size = 3 from rfl, numB_small (by decide), numB_small (by decide)]
  simp [encF, encFL, f3A, numB_small, byN, sSod]
theorem awt18 {X : PMap} (hT : Tab X) {v : Value} {m : Nat} (h : SetR X v m) (hd : ∀ i ∈ mem64 m, i < 10) {s : List UInt8} (hs : txtOf (mem64 m) ++ [125] = s) : Spec Tryz.prog 57 [v] X fun u _ => u = .string ⟨s.toArray⟩ :=
  (text_spec hT h hd).mono fun _ _ _ hv => by rw [hv, hs]
theorem awake18_spec {X : PMap} (hT : Tab X) : Spec Tryz.prog 13 [] X fun u _ => u = .bool true := by
  refine Spec.enter Tryz.func13 rfl Tryz.ntmps13 rfl ?_
  intro w0 hw0
  refine T.seq <| T.region <| SL.as rfl <| SL.nil <| T.seq <| T.region <| SL.w (op_buildSlice Tryz.underlying59 bs9 (qs := [(0, _), (1, _), (2, _)]) rfl rfl rfl rfl rfl) ?_
  rintro _ _ _ ⟨B15, rfl, rfl, rfl⟩
  refine T.pubAt B15 (by repeat constructor) ?_
  intro X1 hX1 hB15 _
  refine SL.w (op_callF en24 (vs := [_]) rfl (tabl_spec (l := nsA) (.inr ⟨by decide, B15, 3, [], rfl, hB15, by decide, by decide⟩) (by decide))) ?_
  rintro vt _ X2 ⟨rfl, hX2, hTb⟩
  rw [if_pos aw18n] at hTb
  obtain ⟨bt, hbt⟩ := hTb.form
  subst hbt
  refine SL.as rfl <| SL.nil <| T.seq <| T.seq <| T.region <| SL.mv rfl <| SL.v (op_eqlNil Tryz.underlying64 rfl rfl) <| SL.nil <| T.condF rfl <| T.skip <| T.seq <| T.region <| SL.v (op_build st70 (qs := [(0, _), (1, _)]) rfl rfl) <| SL.w (op_alloc z70) ?_
  rintro _ _ _ ⟨B2, rfl, rfl, rfl⟩
  refine SL.w (op_store ty70 rfl rfl (by repeat constructor) rfl rfl rfl) ?_
  rintro _ _ _ ⟨rfl, rfl⟩
  refine SL.nil <| T.seq <| T.region <| SL.w (op_buildSlice Tryz.underlying59 bs9 (qs := [(0, _), (1, _)]) rfl rfl rfl rfl rfl) ?_
  rintro _ _ _ ⟨B20, rfl, rfl, rfl⟩
  refine SL.v (op_build st70 (qs := [(0, _), (2, _)]) rfl rfl) <| SL.w (op_alloc z70) ?_
  rintro _ _ _ ⟨B3, rfl, rfl, rfl⟩
  refine SL.w (op_store ty70 rfl rfl (by repeat constructor) rfl rfl rfl) ?_
  rintro _ _ _ ⟨rfl, rfl⟩
  refine SL.nil <| T.seq <| T.region <| T.pubAt B20 (by repeat constructor) ?_
  intro X3 hX3 hB20 _
  refine SL.v (op_load ty70 rfl (by repeat constructor) rfl) ?_
  refine SL.v (op_load ty70 rfl (by repeat constructor) rfl) ?_
  refine SL.w (op_buildSlice Tryz.underlying68 bs70 (qs := [(0, _), (1, _)]) rfl rfl rfl rfl rfl) ?_
  rintro _ _ _ ⟨B24, rfl, rfl, rfl⟩
  refine SL.v (op_build st70 (qs := [(0, _), (3, _)]) rfl rfl) <| SL.w (op_alloc z70) ?_
  rintro _ _ _ ⟨B4, rfl, rfl, rfl⟩
  refine SL.w (op_store ty70 rfl rfl (by repeat constructor) rfl rfl rfl) ?_
  rintro _ _ _ ⟨rfl, rfl⟩
  refine SL.nil <| T.seq <| T.region <| T.pubAt B24 (by repeat constructor) ?_
  intro X4 hX4 hB24 _
  have hR20 : RowR strC X4 (.slice (some ⟨B20, 0, none⟩) 2 2) [sClerk, sAud] := .inr ⟨by decide, B20, 2, [], rfl, hB20.mono hX4, by decide, by decide⟩
  have hE0 := exLeaf (k := .u8) (op := 5) (n := 0) hR20
  have hE1 := exLeaf (k := .u8) (X := X4) (op := 1) (n := 1) (vn := .slice none 0 0) (.inl ⟨rfl, _, _, rfl⟩)
  have hE : ExR .u8 X4 e1A (.int .u8 11, .int .i64 0, .slice none 0 0, .slice (some ⟨B24, 0, none⟩) 2 2) := exTwo (op := 11) (n := 0) (ra := (.int .u8 5, .int .i64 0, .slice (some ⟨B20, 0, none⟩) 2 2, .slice none 0 0)) (rb := (.int .u8 1, .int .i64 1, .slice none 0 0, .slice none 0 0)) (.inr ⟨Nat.zero_lt_succ _, B24, 2, [], rfl, hB24, Nat.le_refl _, by (have : maxLen = 9223372036854775807 := rfl); omega⟩) hE0 hE1
  have hT4 := (hTb.mono hX3).mono hX4
  have hr1 := resolve_spec (kind := 1) (by decide) (by decide) (by decide) hT4 (SetR.zero (A := none) (c := 0)) hE
  rw [aw18a] at hr1
  try simp only at hr1
  refine SL.v (op_load ty70 rfl (by repeat constructor) rfl) ?_
  refine SL.mv rfl <| SL.v (op_build st53 (qs := []) rfl rfl) <| SL.w (op_callF en25 (vs := [_, _, _, _]) rfl (hr1)) ?_
  rintro _ _ X5 ⟨rfl, hX5, r8, rfl, hr8⟩
  have hr2 := resolve_spec (kind := 3) (by decide) (by decide) (by decide) (hT4.mono hX5) (SetR.zero (A := none) (c := 0)) (hE.mono hX5)
  rw [aw18b] at hr2
  try simp only at hr2
  have hty := fun {X' : PMap} (hX : X5.le X') => ftyp_spec (by decide) (hr8.mono hX)
  simp only [aw18t] at hty
  have hmn := fun {X' : PMap} (hX : X5.le X') => fment_spec (wtF f1A) (Nat.le_refl _) (by decide) (insF_rol f1A (kind := 1) (by kernel_rfl)) (hr8.mono hX)
  simp only [aw18m] at hmn
  obtain ⟨o8, n8, a8, b8, l8, c8, l9, c9, rfl⟩ := hr8.form
  try simp only at hty
  try simp only at hmn
  refine SL.mv rfl <| SL.v (op_extract rfl rfl) <| SL.v (op_extract rfl rfl) <| SL.w (op_alloc z36) ?_
  rintro _ _ _ ⟨B5, rfl, rfl, rfl⟩
  refine SL.w (op_store ty36 rfl rfl (by repeat constructor) rfl rfl rfl) ?_
  rintro _ _ _ ⟨rfl, rfl⟩
  refine SL.as rfl <| SL.nil <| T.seq <| T.region <| SL.v (op_load ty70 rfl (by repeat constructor) rfl) ?_
  refine SL.mv rfl <| SL.v (op_build st53 (qs := []) rfl rfl) <| SL.w (op_callF en25 (vs := [_, _, _, _]) rfl (hr2)) ?_
  rintro _ _ X6 ⟨rfl, hX6, r9, rfl, hr9⟩
  obtain ⟨o9, n9, a9, b9, l10, c10, l11, c11, rfl⟩ := hr9.form
  refine SL.mv rfl <| SL.v (op_extract rfl rfl) <| SL.v (op_extract rfl rfl) <| SL.w (op_alloc z36) ?_
  rintro _ _ _ ⟨B7, rfl, rfl, rfl⟩
  refine SL.w (op_store ty36 rfl rfl (by repeat constructor) rfl rfl rfl) ?_
  rintro _ _ _ ⟨rfl, rfl⟩
  refine SL.as rfl <| SL.nil <| T.seq <| T.region <| SL.w (op_buildSlice Tryz.underlying59 bs9 (qs := [(0, _)]) rfl rfl rfl rfl rfl) ?_
  rintro _ _ _ ⟨B40, rfl, rfl, rfl⟩
  refine SL.v (op_build st70 (qs := [(0, _), (2, _)]) rfl rfl) <| SL.v (op_load ty70 rfl (by repeat constructor) rfl) ?_
  refine SL.w (op_buildSlice Tryz.underlying68 bs70 (qs := [(0, _), (1, _)]) rfl rfl rfl rfl rfl) ?_
  rintro _ _ _ ⟨B43, rfl, rfl, rfl⟩
  refine SL.v (op_build st70 (qs := [(0, _), (3, _)]) rfl rfl) <| SL.w (op_alloc z70) ?_
  rintro _ _ _ ⟨B9, rfl, rfl, rfl⟩
  refine SL.w (op_store ty70 rfl rfl (by repeat constructor) rfl rfl rfl) ?_
  rintro _ _ _ ⟨rfl, rfl⟩
  refine SL.nil <| T.seq <| T.region <| SL.v (op_load ty70 rfl (by repeat constructor) rfl) ?_
  refine SL.v (op_build st70 (qs := [(0, _), (1, _)]) rfl rfl) <| SL.w (op_buildSlice Tryz.underlying68 bs70 (qs := [(0, _), (1, _)]) rfl rfl rfl rfl rfl) ?_
  rintro _ _ _ ⟨B48, rfl, rfl, rfl⟩
  refine SL.v (op_build st70 (qs := [(0, _), (3, _)]) rfl rfl) <| T.pubAt B40 (by repeat constructor) ?_
  intro X7 hX7 hB40 _
  refine T.pubAt B43 (by repeat constructor) ?_
  intro X8 hX8 hB43 _
  refine T.pubAt B48 (by repeat constructor) ?_
  intro X9 hX9 hB48 _
  have hR40 : RowR strC X9 (.slice (some ⟨B40, 0, none⟩) 1 1) [sClerk] := .inr ⟨by decide, B40, 1, [], rfl, (hB40.mono hX8).mono hX9, by decide, by decide⟩
  have hF0 := exLeaf (k := .u8) (op := 4) (n := 0) hR40
  have hF1 := exLeaf (k := .u8) (X := X9) (op := 1) (n := 1) (vn := .slice none 0 0) (.inl ⟨rfl, _, _, rfl⟩)
  have hF2 := exLeaf (k := .u8) (X := X9) (op := 1) (n := 2) (vn := .slice none 0 0) (.inl ⟨rfl, _, _, rfl⟩)
  have hF3 := exTwo (op := 16) (n := 0) (va := .slice (some ⟨B43, 0, none⟩) 2 2) (ra := (.int .u8 4, .int .i64 0, .slice (some ⟨B40, 0, none⟩) 1 1, .slice none 0 0)) (rb := (.int .u8 1, .int .i64 1, .slice none 0 0, .slice none 0 0)) (.inr ⟨Nat.zero_lt_succ _, B43, 2, [], rfl, hB43.mono hX9, Nat.le_refl _, by (have : maxLen = 9223372036854775807 := rfl); omega⟩) hF0 hF1
  have hF : ExR .u8 X9 e2A (.int .u8 11, .int .i64 0, .slice none 0 0, .slice (some ⟨B48, 0, none⟩) 2 2) := exTwo (op := 11) (n := 0) (ra := (.int .u8 16, .int .i64 0, .slice none 0 0, .slice (some ⟨B43, 0, none⟩) 2 2)) (rb := (.int .u8 1, .int .i64 2, .slice none 0 0, .slice none 0 0)) (.inr ⟨Nat.zero_lt_succ _, B48, 2, [], rfl, hB48, Nat.le_refl _, by (have : maxLen = 9223372036854775807 := rfl); omega⟩) hF3 hF2
  have hX59 := ((hX6.trans' hX7).trans' hX8).trans' hX9
  have hr3 := resolve_spec (kind := 1) (by decide) (by decide) (by decide) ((hT4.mono hX5).mono hX59) (SetR.zero (A := none) (c := 0)) hF
  rw [aw18c] at hr3
  try simp only at hr3
  refine SL.mv rfl <| SL.v (op_build st53 (qs := []) rfl rfl) <| SL.w (op_callF en25 (vs := [_, _, _, _]) rfl (hr3)) ?_
  rintro _ _ X10 ⟨rfl, hX10, r12, rfl, hr12⟩
  obtain ⟨o13, n13, a13, b13, l13, c13, l14, c14, rfl⟩ := hr12.form
  have hX510 := hX59.trans' hX10
  refine SL.mv rfl <| SL.v (op_extract rfl rfl) <| SL.v (op_extract rfl rfl) <| SL.w (op_alloc z36) ?_
  rintro _ _ _ ⟨B10, rfl, rfl, rfl⟩
  refine SL.w (op_store ty36 rfl rfl (by repeat constructor) rfl rfl rfl) ?_
  rintro _ _ _ ⟨rfl, rfl⟩
  refine SL.as rfl <| SL.nil <| T.seq <| T.region <| SL.v (op_load ty36 rfl (by repeat constructor) rfl) ?_
  refine SL.w (op_callF en15 (vs := [_]) rfl (hty hX510)) ?_
  rintro _ _ X11 ⟨rfl, hX11, rfl⟩
  refine SL.mv rfl <| SL.v (op_extract rfl rfl) <| SL.v (op_extract rfl rfl) <| SL.as rfl <| SL.as rfl <| SL.nil <| T.seq <| T.region <| SL.w (op_buildSlice Tryz.underlying24 bs3 (qs := [(0, _)]) rfl rfl rfl rfl rfl) ?_
  rintro _ _ _ ⟨B60, rfl, rfl, rfl⟩
  refine SL.v (op_build st36 (qs := [(0, _), (2, _)]) rfl rfl) <| SL.v (op_build st101 (qs := [(0, _), (1, _), (2, _), (3, _)]) rfl rfl) <| SL.w (op_alloc z101) ?_
  rintro _ _ _ ⟨B14, rfl, rfl, rfl⟩
  refine SL.w (op_store ty101 rfl rfl (by repeat constructor) rfl rfl rfl) ?_
  rintro _ _ _ ⟨rfl, rfl⟩
  refine SL.nil <| T.seq <| T.region <| SL.mv rfl <| SL.v (op_eqlT rfl rfl (by omega)) ?_
  refine SL.mv rfl <| SL.mv rfl <| SL.v (op_eqlT rfl rfl (by omega)) ?_
  refine SL.v (op_pickT rfl rfl) <| SL.mv rfl <| SL.mv rfl <| SL.v (op_eqlT rfl rfl (by omega)) ?_
  refine SL.v (op_pickT rfl rfl) <| SL.mv rfl <| SL.mv rfl <| SL.v (op_eqlT rfl rfl (by omega)) ?_
  refine SL.v (op_pickT rfl rfl) <| SL.mv rfl <| SL.mv rfl <| SL.v (op_eqlT rfl rfl (by omega)) ?_
  refine SL.v (op_pickT rfl rfl) <| SL.mv rfl <| T.pubAt B60 (by repeat constructor) ?_
  intro X12 hX12 hB60 _
  have hX512 := (hX510.trans' hX11).trans' hX12
  refine SL.v (op_load ty36 rfl (by repeat constructor) rfl) ?_
  refine SL.w (op_callF en21 (vs := [_]) rfl (hmn hX512)) ?_
  rintro v83 _ X13 ⟨rfl, hX13, hS13⟩
  have hT13 := ((((hT.mono hX1).mono hX2).mono hX3).mono hX4).mono ((hX5.trans' hX512).trans' hX13)
  refine SL.w (op_callF en57 (vs := [_]) rfl (awt18 hT13 hS13 (by decide) (s := [123, 49, 32, 50, 125]) (by decide))) ?_
  rintro _ _ X14 ⟨rfl, hX14, rfl⟩
  refine SL.v (op_eqlStrT Tryz.underlying9 rfl rfl) ?_
  have hcb := cbytes_spec (enf := true) (kind := 1) (name := sSod) (f := f3A) (r := (.int .u8 4, .int .i64 0, .slice (some ⟨B60, 0, none⟩) 1 1, .slice none 0 0)) (by decide) (by decide) (.mk (rows := []) (op := 4) (rs := [3]) ⟨.inr ⟨by decide, B60, 1, rfl, (hB60.mono hX13).mono hX14⟩, _, _, rfl, by decide⟩ (.inl ⟨rfl, _, _, rfl⟩) rfl (fun i a r h => by simp at h))
  simp only [aw18k, aw18e, ↓reduceIte] at hcb
  refine SL.v (op_pickT rfl rfl) <| SL.mv rfl <| SL.v (op_load ty101 rfl (by repeat constructor) rfl) ?_
  refine SL.w (op_callF en50 (vs := [_]) rfl (hcb)) ?_
  rintro v89 _ X15 ⟨rfl, hX15, hb15⟩
  obtain ⟨A89, c89, rfl⟩ := hb15.form
  refine SL.v (op_strBytesR (l := [1, 1, 3, 115, 111, 100, 4, 0, 1, 3, 0]) Tryz.underlying44 Tryz.underlying5 Tryz.underlying9 rfl hb15 (by decide)) ?_
  refine SL.v (op_eqlStrT Tryz.underlying9 rfl rfl) <| SL.v (op_pickT rfl rfl) <| SL.as rfl <| SL.nil <| T.ret1 rfl (ResIs.tmp rfl) ?_
  rfl
end Go.Proofs.YtnpcilglilfajaaGreatDoor
namespace Go.Proofs.YtnpcilglilfajaaGreatDoor
section
set_option maxRecDepth 100000
theorem en139 : Enters Tryz.prog 139 := enters_mk Tryz.func139 (by kernel_rfl) rfl
end
open Go.RowKit
def strB8 (l : List Nat) : ByteArray := ⟨(l.map UInt8.ofNat).toArray⟩
section
variable {P : Program} {n : NM} {own : Own} {X : PMap} {env : Env}
theorem op_strN8 {src dst e : TypeId} {x : Operand} {v : Value} {l : List Nat} (hs : P.underlying src = some (.slice e)) (he : P.underlying e = some (.int .u8)) (hd : P.underlying dst = some .string)
    (hx : eev env x = some v) (hv : BytesR X v l) (hb : ∀ b ∈ l, b < 256) : OpY P n env own X (.convert src dst x) (.string (strB8 l)) := by
  have hm : (l.map UInt8.ofNat).map (·.toNat) = l := by
    rw [List.map_map]
    refine (List.map_congr_left fun b hb' => ?_).trans (List.map_id _)
    have := hb b hb'
    show (UInt8.ofNat b).toNat = b
    rw [UInt8.toNat_ofNat']; omega
  rcases Nat.eq_zero_or_pos l.length with h0 | h0
  · obtain rfl := List.eq_nil_of_length_eq_zero h0
    obtain ⟨A, cp, rfl⟩ := hv.form
    cases A with
    | some a => exact op_strBytes (l := []) hs he hd hx fun W hst j hj => absurd hj (by simp)
    | none =>
      intro a W oper hop ha hst
      have hr : (convert src dst (.slice none 0 cp)).run P W = .ok (.string ⟨#[]⟩) W := by
        rw [run_convert_bytes_string W src dst e none 0 cp hs he hd]
        rfl
      simp only [execOp, hop, ha.eval hx, Sem.run_bind, Sem.run_pure]
      rw [show ([] : List Nat).length = 0 from rfl, hr]
      rfl
  · exact op_strBytesR (l := l.map UInt8.ofNat) hs he hd hx (by rw [hm]; exact hv) (by simpa using h0)
end
section
variable {X : PMap} {b : Nat} {sv : Value} {e : Int}
theorem rflag_spec {bs : List Nat} (h : CutR X sv bs) (hl : bs.length < 1000000) : SpecM Tryz.prog 88 [.pointer (some ⟨b, 0, none⟩)] X [RdO b sv e] fun u L' X' => u = .bool (rdFlag e bs).1 ∧ ∃ sv', L' = [RdO b sv' (rdFlag e bs).2.1] ∧ CutR X' sv' (rdFlag e bs).2.2 := by
  by_cases he : e = 0
  case neg =>
    have ef : rdFlag e bs = (false, e, bs) := by unfold rdFlag; rw [if_pos he]
    rw [ef]
    refine SpecM.enter Tryz.func88 rfl Tryz.ntmps88 rfl ?_
    intro w0 X0 own0
    refine T.seq <| T.region <| SL.as rfl <| SL.nil <| T.seq <| T.seq <| T.region <| SL.mv rfl <| SL.w (op_callM en135 (vs := [_]) rfl (rok_spec) rfl) ?_
    rintro _ _ X1 ⟨_, rfl, hX1, rfl, rfl⟩
    rw [decide_eq_false he]
    refine SL.v (op_not rfl) <| SL.mv rfl <| SL.skip rfl rfl ?_
    refine SL.skip rfl rfl ?_
    refine SL.skip rfl rfl ?_
    refine SL.skip rfl rfl ?_
    refine SL.skip rfl rfl ?_
    refine SL.skip rfl rfl ?_
    refine SL.skip rfl rfl ?_
    refine SL.skip rfl rfl ?_
    refine SL.skip rfl rfl ?_
    refine SL.skip rfl rfl ?_
    refine SL.skip rfl rfl ?_
    refine SL.skip rfl rfl ?_
    refine SL.skip rfl rfl ?_
    refine SL.skip rfl rfl ?_
    refine SL.skip rfl rfl ?_
    refine SL.skip rfl rfl ?_
    refine SL.skip rfl rfl ?_
    refine SL.skip rfl rfl ?_
    refine SL.v (op_pickT rfl rfl) <| SL.nil <| T.condT rfl <| T.seq <| T.region <| SL.as rfl <| SL.nil <| T.retM1 [RdO b sv e] rfl (ResIs.tmp rfl) (List.Perm.refl _) ?_
    exact ⟨hX1, rfl, sv, rfl, h.mono hX1⟩
  subst he
  match bs, h, hl with
  | [], h, hl =>
    have ef : rdFlag 0 [] = (false, 6, []) := rfl
    rw [ef]
    obtain ⟨h1, ⟨A, cp, rfl, hcp⟩, hb⟩ := h
    refine SpecM.enter Tryz.func88 rfl Tryz.ntmps88 rfl ?_
    intro w0 X0 own0
    refine T.seq <| T.region <| SL.as rfl <| SL.nil <| T.seq <| T.seq <| T.region <| SL.mv rfl <| SL.w (op_callM en135 (vs := [_]) rfl (rok_spec) rfl) ?_
    rintro _ _ X1 ⟨_, rfl, hX1, rfl, rfl⟩
    rw [decide_eq_true rfl]
    refine SL.v (op_not rfl) <| SL.mv rfl <| SL.mv rfl <| SL.mv rfl <| SL.v (op_nil rfl) <| SL.v (op_fieldAddr fa222_0 rfl) <| SL.v (op_load ty44 rfl (by repeat constructor) rfl) ?_
    refine SL.v (op_lenS Tryz.underlying44 rfl) <| SL.v (op_eql rfl rfl) <| SL.mv rfl <| SL.skip rfl rfl ?_
    refine SL.skip rfl rfl ?_
    refine SL.skip rfl rfl ?_
    refine SL.skip rfl rfl ?_
    refine SL.skip rfl rfl ?_
    refine SL.skip rfl rfl ?_
    refine SL.skip rfl rfl ?_
    refine SL.v (op_pickT rfl rfl) <| SL.w (op_callM en136 (vs := [_, _, _]) rfl (rrefuse_spec true 6) rfl) ?_
    rintro _ _ X2 ⟨_, rfl, hX2, rfl, rfl⟩
    refine SL.v (op_not rfl) <| SL.v (op_pickF rfl rfl) <| SL.nil <| T.condT rfl <| T.seq <| T.region <| SL.as rfl <| SL.nil <| T.retM1 [RdO b (.slice A 0 cp) 6] rfl (ResIs.tmp rfl) (List.Perm.refl _) ?_
    exact ⟨hX1.trans' hX2, rfl, _, rfl, .inl ⟨rfl, _, _, rfl⟩, ⟨_, _, rfl, hcp⟩, hb⟩
  | c :: t, h, hl =>
    have h0 := h
    obtain ⟨h1, ⟨A, cp, rfl, hcp⟩, hb⟩ := h
    obtain ⟨bA, pre, rfl, hB⟩ := h1.blk (by simp)
    have e0 : (pre ++ bytesC (c :: t))[pre.length + 0]? = some (.int .u8 (c : Int)) := by rw [List.getElem?_append_right (by omega), Nat.add_sub_cancel_left]; rfl
    have hcl : (c :: t).length = t.length + 1 := rfl
    rw [List.length_cons] at hl hcp
    by_cases hc : 1 < c
    · have ef : rdFlag 0 (c :: t) = (false, 6, c :: t) := by unfold rdFlag; simp [hc]
      rw [ef]
      refine SpecM.enter Tryz.func88 rfl Tryz.ntmps88 rfl ?_
      intro w0 X0 own0
      refine T.seq <| T.region <| SL.as rfl <| SL.nil <| T.seq <| T.seq <| T.region <| SL.mv rfl <| SL.w (op_callM en135 (vs := [_]) rfl (rok_spec) rfl) ?_
      rintro _ _ X1 ⟨_, rfl, hX1, rfl, rfl⟩
      rw [decide_eq_true rfl]
      refine SL.v (op_not rfl) <| SL.mv rfl <| SL.mv rfl <| SL.mv rfl <| SL.v (op_nil rfl) <| SL.v (op_fieldAddr fa222_0 rfl) <| SL.v (op_load ty44 rfl (by repeat constructor) rfl) ?_
      refine SL.v (op_lenS Tryz.underlying44 rfl) <| SL.v (op_eqlF rfl rfl (by omega)) ?_
      refine SL.mv rfl <| SL.mv rfl <| SL.v (op_nil rfl) <| SL.v (op_fieldAddr fa222_0 rfl) <| SL.v (op_load ty44 rfl (by repeat constructor) rfl) ?_
      refine SL.v (op_index Tryz.underlying44 ty5 rfl rfl (by omega) (by omega)) ?_
      refine SL.v (op_loadX ty5 rfl (hB.mono hX1) (cread1k' e0 (by omega))) ?_
      refine SL.v (op_gtrT rfl rfl (by omega)) ?_
      refine SL.v (op_pickF rfl rfl) <| SL.w (op_callM en136 (vs := [_, _, _]) rfl (rrefuse_spec true 6) rfl) ?_
      rintro _ _ X2 ⟨_, rfl, hX2, rfl, rfl⟩
      refine SL.v (op_not rfl) <| SL.v (op_pickF rfl rfl) <| SL.nil <| T.condT rfl <| T.seq <| T.region <| SL.as rfl <| SL.nil <| T.retM1 [RdO b (.slice (some ⟨bA, pre.length, none⟩) (c :: t).length cp) 6] rfl (ResIs.tmp rfl) (List.Perm.refl _) ?_
      exact ⟨hX1.trans' hX2, rfl, _, rfl, (h0.mono hX1).mono hX2⟩
    · have ef : rdFlag 0 (c :: t) = (decide (c = 1), 0, t) := by unfold rdFlag; simp [hc]
      rw [ef]
      refine SpecM.enter Tryz.func88 rfl Tryz.ntmps88 rfl ?_
      intro w0 X0 own0
      refine T.seq <| T.region <| SL.as rfl <| SL.nil <| T.seq <| T.seq <| T.region <| SL.mv rfl <| SL.w (op_callM en135 (vs := [_]) rfl (rok_spec) rfl) ?_
      rintro _ _ X1 ⟨_, rfl, hX1, rfl, rfl⟩
      rw [decide_eq_true rfl]
      refine SL.v (op_not rfl) <| SL.mv rfl <| SL.mv rfl <| SL.mv rfl <| SL.v (op_nil rfl) <| SL.v (op_fieldAddr fa222_0 rfl) <| SL.v (op_load ty44 rfl (by repeat constructor) rfl) ?_
      refine SL.v (op_lenS Tryz.underlying44 rfl) <| SL.v (op_eqlF rfl rfl (by omega)) ?_
      refine SL.mv rfl <| SL.mv rfl <| SL.v (op_nil rfl) <| SL.v (op_fieldAddr fa222_0 rfl) <| SL.v (op_load ty44 rfl (by repeat constructor) rfl) ?_
      refine SL.v (op_index Tryz.underlying44 ty5 rfl rfl (by omega) (by omega)) ?_
      refine SL.v (op_loadX ty5 rfl (hB.mono hX1) (cread1k' e0 (by omega))) ?_
      refine SL.v (op_gtrF rfl rfl (by omega)) ?_
      refine SL.v (op_pickF rfl rfl) <| SL.w (op_callM en136 (vs := [_, _, _]) rfl (rrefuse_spec false 6) rfl) ?_
      rintro _ _ X2 ⟨_, rfl, hX2, rfl, rfl⟩
      refine SL.v (op_not rfl) <| SL.v (op_pickF rfl rfl) <| SL.nil <| T.condF rfl <| T.skip <| T.seq <| T.region <| SL.mv rfl <| SL.w (op_callM en137 (vs := [_, _]) rfl (rtake_spec (k := 1) ((h0.mono hX1).mono hX2) (by rw [List.length_cons]; exact hl) (by rw [List.length_cons]; omega)) rfl) ?_
      rintro u3 _ X3 ⟨_, rfl, hX3, hu3, sv3, rfl, h3⟩
      obtain ⟨g1, ⟨A3, c3, rfl, hc3⟩, _⟩ := hu3
      obtain ⟨b3, pre3, rfl, hB3⟩ := g1.blk (by rw [List.take_succ_cons, List.take_zero]; exact Nat.zero_lt_one)
      have e3 : (pre3 ++ bytesC (List.take 1 (c :: t)))[pre3.length + 0]? = some (.int .u8 (c : Int)) := by rw [List.getElem?_append_right (by omega), Nat.add_sub_cancel_left]; rfl
      have el : (List.take 1 (c :: t)).length = 1 := rfl
      refine SL.v (op_index Tryz.underlying44 ty5 rfl rfl (by omega) (by omega)) ?_
      refine SL.v (op_loadX ty5 rfl hB3 (cread1k' e3 (by omega))) ?_
      refine SL.v (op_eql rfl rfl) <| SL.as rfl <| SL.nil <| T.retM1 [RdO b sv3 0] rfl (ResIs.tmp rfl) (List.Perm.refl _) ?_
      exact ⟨(hX1.trans' hX2).trans' hX3, by congr 1; exact decide_eq_decide.2 (by omega), sv3, rfl, h3⟩
theorem rbytes_spec {bs : List Nat} (h : CutR X sv bs) (hl : bs.length < 1000000) {most : Nat} (hm : most < 1000000000) : SpecM Tryz.prog 139 [.pointer (some ⟨b, 0, none⟩), .int .i64 (most : Int)] X [RdO b sv e] fun u L' X' => CutR X' u (rdByt most e bs).1 ∧ ∃ sv', L' = [RdO b sv' (rdByt most e bs).2.1] ∧ CutR X' sv' (rdByt most e bs).2.2 := by
  have hnilc : ∀ {X' : PMap}, CutR X' (.slice none 0 0) [] := ⟨.inl ⟨rfl, _, _, rfl⟩, ⟨_, _, rfl, Nat.le_refl _⟩, fun _ h => (by cases h)⟩
  by_cases he : e = 0
  case neg =>
    rw [rdByt, if_pos he]
    refine SpecM.enter Tryz.func139 rfl Tryz.ntmps139 rfl ?_
    intro w0 X0 own0
    refine T.seq <| T.region <| SL.as rfl <| SL.nil <| T.seq <| T.seq <| T.region <| SL.mv rfl <| SL.w (op_callM en135 (vs := [_]) rfl (rok_spec) rfl) ?_
    rintro _ _ X1 ⟨_, rfl, hX1, rfl, rfl⟩
    rw [decide_eq_false he]
    refine SL.v (op_not rfl) <| SL.mv rfl <| SL.skip rfl rfl ?_
    refine SL.skip rfl rfl ?_
    refine SL.skip rfl rfl ?_
    refine SL.skip rfl rfl ?_
    refine SL.skip rfl rfl ?_
    refine SL.v (op_pickT rfl rfl) <| SL.nil <| T.condT rfl <| T.seq <| T.region <| SL.as rfl <| SL.nil <| T.retM1 [RdO b sv e] rfl (ResIs.tmp rfl) (List.Perm.refl _) ?_
    exact ⟨hX1, hnilc, sv, rfl, h.mono hX1⟩
  subst he
  rw [rdByt, if_neg (by simp)]
  refine SpecM.enter Tryz.func139 rfl Tryz.ntmps139 rfl ?_
  intro w0 X0 own0
  refine T.seq <| T.region <| SL.as rfl <| SL.nil <| T.seq <| T.seq <| T.region <| SL.mv rfl <| SL.w (op_callM en135 (vs := [_]) rfl (rok_spec) rfl) ?_
  rintro _ _ X1 ⟨_, rfl, hX1, rfl, rfl⟩
  rw [decide_eq_true rfl]
  refine SL.v (op_not rfl) <| SL.mv rfl <| SL.mv rfl <| SL.mv rfl <| SL.v (op_lssF rfl rfl (by omega)) ?_
  refine SL.w (op_callM en136 (vs := [_, _, _]) rfl (rrefuse_spec false 1) rfl) ?_
  rintro _ _ Xa ⟨_, rfl, hXa, rfl, rfl⟩
  refine SL.v (op_not rfl) <| SL.v (op_pickF rfl rfl) <| SL.nil <| T.condF rfl <| T.skip <| T.seq <| T.region <| SL.mv rfl ?_
  have h1 := (h.mono hX1).mono hXa
  refine SL.w (op_callM en180 (vs := [_]) rfl (rnumber_spec h1 hl) rfl) ?_
  rintro _ _ X2 ⟨_, rfl, hX2, rfl, rfl⟩
  have h2 := h1.mono hX2
  have hX02 := (hX1.trans' hXa).trans' hX2
  have hlen := h2.len (k := (numR bs).2)
  have hnl := numR_lt bs
  generalize (numR bs).1 = v at *
  generalize hnn : (numR bs).2 = n at *
  by_cases hn0 : n = 0
  · rw [if_pos hn0]
    refine SL.mv rfl <| SL.v (op_extract rfl rfl) <| SL.v (op_extract rfl rfl) <| SL.as rfl <| SL.as rfl <| SL.nil <| T.seq <| T.seq <| T.region <| SL.mv rfl <| SL.mv rfl <| SL.v (op_eqlT rfl rfl (by omega)) ?_
    refine SL.w (op_callM en136 (vs := [_, _, _]) rfl (rrefuse_spec true 6) rfl) ?_
    rintro _ _ X3 ⟨_, rfl, hX3, rfl, rfl⟩
    refine SL.v (op_not rfl) <| SL.mv rfl <| SL.skip rfl rfl ?_
    refine SL.skip rfl rfl ?_
    refine SL.skip rfl rfl ?_
    refine SL.skip rfl rfl ?_
    refine SL.skip rfl rfl ?_
    refine SL.skip rfl rfl ?_
    refine SL.skip rfl rfl ?_
    refine SL.v (op_pickT rfl rfl) <| SL.mv rfl <| SL.skip rfl rfl ?_
    refine SL.skip rfl rfl ?_
    refine SL.skip rfl rfl ?_
    refine SL.skip rfl rfl ?_
    refine SL.skip rfl rfl ?_
    refine SL.skip rfl rfl ?_
    refine SL.skip rfl rfl ?_
    refine SL.skip rfl rfl ?_
    refine SL.skip rfl rfl ?_
    refine SL.skip rfl rfl ?_
    refine SL.skip rfl rfl ?_
    refine SL.skip rfl rfl ?_
    refine SL.skip rfl rfl ?_
    refine SL.v (op_pickT rfl rfl) <| SL.nil <| T.condT rfl <| T.seq <| T.region <| SL.as rfl <| SL.nil <| T.retM1 [RdO b sv 6] rfl (ResIs.tmp rfl) (List.Perm.refl _) ?_
    exact ⟨hX02.trans' hX3, hnilc, sv, rfl, h2.mono hX3⟩
  rw [if_neg hn0]
  have hnle := hlen hn0 rfl h.2.2
  refine SL.mv rfl <| SL.v (op_extract rfl rfl) <| SL.v (op_extract rfl rfl) <| SL.as rfl <| SL.as rfl <| SL.nil <| T.seq <| T.seq <| T.region <| SL.mv rfl <| SL.mv rfl <| SL.v (op_eqlF rfl rfl (by omega)) ?_
  refine SL.w (op_callM en136 (vs := [_, _, _]) rfl (rrefuse_spec false 6) rfl) ?_
  rintro _ _ X3 ⟨_, rfl, hX3, rfl, rfl⟩
  refine SL.v (op_not rfl) <| SL.mv rfl <| SL.mv rfl <| SL.mv rfl <| SL.mv rfl <| SL.v (op_convU64 Tryz.underlying3 Tryz.underlying58 rfl (by omega) (by omega)) ?_
  by_cases hv : most < v
  · rw [if_pos hv]
    refine SL.v (op_gtrT rfl rfl (by omega)) ?_
    refine SL.w (op_callM en136 (vs := [_, _, _]) rfl (rrefuse_spec true 3) rfl) ?_
    rintro _ _ X4 ⟨_, rfl, hX4, rfl, rfl⟩
    refine SL.v (op_not rfl) <| SL.v (op_pickF rfl rfl) <| SL.mv rfl <| SL.skip rfl rfl ?_
    refine SL.skip rfl rfl ?_
    refine SL.skip rfl rfl ?_
    refine SL.skip rfl rfl ?_
    refine SL.skip rfl rfl ?_
    refine SL.skip rfl rfl ?_
    refine SL.skip rfl rfl ?_
    refine SL.skip rfl rfl ?_
    refine SL.skip rfl rfl ?_
    refine SL.skip rfl rfl ?_
    refine SL.skip rfl rfl ?_
    refine SL.skip rfl rfl ?_
    refine SL.skip rfl rfl ?_
    refine SL.v (op_pickT rfl rfl) <| SL.nil <| T.condT rfl <| T.seq <| T.region <| SL.as rfl <| SL.nil <| T.retM1 [RdO b sv 3] rfl (ResIs.tmp rfl) (List.Perm.refl _) ?_
    exact ⟨(hX02.trans' hX3).trans' hX4, hnilc, sv, rfl, (h2.mono hX3).mono hX4⟩
  rw [if_neg hv]
  obtain ⟨A, cp, rfl, hcp⟩ := h2.2.1
  refine SL.v (op_gtrF rfl rfl (by omega)) ?_
  refine SL.w (op_callM en136 (vs := [_, _, _]) rfl (rrefuse_spec false 3) rfl) ?_
  rintro _ _ X4 ⟨_, rfl, hX4, rfl, rfl⟩
  refine SL.v (op_not rfl) <| SL.v (op_pickF rfl rfl) <| SL.mv rfl <| SL.mv rfl <| SL.mv rfl <| SL.mv rfl <| SL.v (op_nil rfl) <| SL.v (op_fieldAddr fa222_0 rfl) <| SL.v (op_load ty44 rfl (by repeat constructor) rfl) ?_
  refine SL.v (op_lenS Tryz.underlying44 rfl) <| SL.mv rfl <| SL.v (op_subN (p := bs.length) (q := n) rfl rfl (by omega) (by omega)) ?_
  refine SL.v (op_convU64 Tryz.underlying3 Tryz.underlying58 rfl (by omega) (by omega)) ?_
  by_cases hv2 : bs.length - n < v
  · rw [if_pos hv2]
    refine SL.v (op_gtrT rfl rfl (by omega)) ?_
    refine SL.w (op_callM en136 (vs := [_, _, _]) rfl (rrefuse_spec true 6) rfl) ?_
    rintro _ _ X5 ⟨_, rfl, hX5, rfl, rfl⟩
    refine SL.v (op_not rfl) <| SL.v (op_pickF rfl rfl) <| SL.nil <| T.condT rfl <| T.seq <| T.region <| SL.as rfl <| SL.nil <| T.retM1 [RdO b (.slice A bs.length cp) 6] rfl (ResIs.tmp rfl) (List.Perm.refl _) ?_
    exact ⟨((hX02.trans' hX3).trans' hX4).trans' hX5, hnilc, _, rfl, ((h2.mono hX3).mono hX4).mono hX5⟩
  rw [if_neg hv2]
  refine SL.v (op_gtrF rfl rfl (by omega)) ?_
  refine SL.w (op_callM en136 (vs := [_, _, _]) rfl (rrefuse_spec false 6) rfl) ?_
  rintro _ _ X5 ⟨_, rfl, hX5, rfl, rfl⟩
  refine SL.v (op_not rfl) <| SL.v (op_pickF rfl rfl) <| SL.nil <| T.condF rfl <| T.skip <| T.seq <| T.region <| SL.mv rfl <| SL.mv rfl <| SL.w (op_callM en137 (vs := [_, _]) rfl (rtake_spec (((h2.mono hX3).mono hX4).mono hX5) hl hnle) rfl) ?_
  rintro u6 _ X6 ⟨_, rfl, hX6, _, sv6, rfl, h6⟩
  refine SL.nil <| T.seq <| T.region <| SL.mv rfl <| SL.mv rfl <| SL.v (op_convI64 Tryz.underlying58 Tryz.underlying3 rfl (by omega) (by omega)) ?_
  refine SL.w (op_callM en137 (vs := [_, _]) rfl (rtake_spec (k := v) h6 (by rw [List.length_drop]; omega) (by rw [List.length_drop]; omega)) rfl) ?_
  rintro u7 _ X7 ⟨_, rfl, hX7, hu7, sv7, rfl, h7⟩
  obtain ⟨A7, c7, hu7v, _⟩ := hu7.2.1
  subst hu7v
  refine SL.as rfl <| SL.nil <| T.retM1 [RdO b sv7 0] rfl (ResIs.tmp rfl) (List.Perm.refl _) ?_
  exact ⟨((((hX02.trans' hX3).trans' hX4).trans' hX5).trans' hX6).trans' hX7, hu7, sv7, rfl, h7⟩
theorem rstr_spec {bs : List Nat} (h : CutR X sv bs) (hl : bs.length < 1000000) {most : Nat} (hm : most < 1000000000) : SpecM Tryz.prog 90 [.pointer (some ⟨b, 0, none⟩), .int .i64 (most : Int)] X [RdO b sv e] fun u L' X' => u = .string (strB8 (rdByt most e bs).1) ∧ ∃ sv', L' = [RdO b sv' (rdByt most e bs).2.1] ∧ CutR X' sv' (rdByt most e bs).2.2 := by
  refine SpecM.enter Tryz.func90 rfl Tryz.ntmps90 rfl ?_
  intro w0 X0 own0
  refine T.seq <| T.region <| SL.as rfl <| SL.nil <| T.seq <| T.region <| SL.mv rfl <| SL.mv rfl <| SL.w (op_callM en139 (vs := [_, _]) rfl (rbytes_spec h hl hm) rfl) ?_
  rintro u1 _ X1 ⟨_, rfl, hX1, hu1, sv1, rfl, h1⟩
  obtain ⟨A1, c1, hu1v, _⟩ := hu1.2.1
  subst hu1v
  refine SL.v (op_strN8 (l := (rdByt most e bs).1) Tryz.underlying44 Tryz.underlying5 Tryz.underlying9 rfl hu1.1 hu1.2.2) <| SL.as rfl <| SL.nil <| T.retM1 [RdO b sv1 (rdByt most e bs).2.1] rfl (ResIs.tmp rfl) (List.Perm.refl _) ?_
  exact ⟨hX1, rfl, sv1, rfl, h1⟩
end
end Go.Proofs.YtnpcilglilfajaaGreatDoor
namespace Go.Proofs.YtnpcilglilfajaaGreatDoor
open Go.RowKit
/-- The byte at a place; 0 behind the end. -/
def nx (p : List Nat) (q : Nat) : Nat := (p[q]?).getD 0
theorem nx_lt {p : List Nat} (h : ∀ b ∈ p, b < 256) (q : Nat) : nx p q < 256 := by
  unfold nx
  cases hq : p[q]? with
  | none => simp
  | some b => exact h b (List.mem_of_getElem? hq)
/-- The first k roles that a mask has. -/
def maskR (m k : Nat) : List Nat := ((List.range k).filter fun i => decide ((m >>> i) % 2 = 1)).map (· + 1)
theorem maskR_succ (m k : Nat) : maskR m (k + 1) = maskR m k ++ if (m >>> k) % 2 = 1 then [k + 1] else [] := by
  unfold maskR
  rw [List.range_succ, List.filter_append, List.map_append]
  congr 1
  by_cases h : (m >>> k) % 2 = 1
  · have e : ([k].filter fun i => decide ((m >>> i) % 2 = 1)) = [k] := List.filter_cons_of_pos (decide_eq_true h)
    rw [if_pos h, e]; rfl
  · have e : ([k].filter fun i => decide ((m >>> i) % 2 = 1)) = [] := List.filter_cons_of_neg (fun e => h (of_decide_eq_true e))
    rw [if_neg h, e]; rfl
theorem maskR_len (m k : Nat) : (maskR m k).length ≤ k := by
  rw [maskR, List.length_map]
  exact Nat.le_trans (List.length_filter_le _ _) (by simp)
theorem maskR_mem {m k r : Nat} (h : r ∈ maskR m k) : 1 ≤ r ∧ r ≤ k := by
  obtain ⟨i, hi, rfl⟩ := List.mem_map.1 h
  have := List.mem_range.1 (List.mem_filter.1 hi).1
  omega
theorem maskR_nd (m k : Nat) : (maskR m k).Nodup := by
  unfold maskR
  refine List.Pairwise.map _ (fun a b h => ?_) (List.Pairwise.filter _ List.nodup_range)
  omega
def cntR (b m : Nat) : List Nat := if maskR m 6 = [] then [1 + b / 3 % 6] else maskR m 6
def numLeaf (kind b m : Nat) : Fm := if b % 3 = 0 then .mk 1 ((b / 3 % 4 : Nat) : Int) [] [] else if kind = 3 then .mk 6 0 [1 + b / 3 % 6] [] else .mk 5 0 (cntR b m) []
def numUse (kind b : Nat) : Nat := if b % 3 = 0 ∨ kind = 3 then 0 else 1
/-- A formula of the type Int, and the place behind it. -/
def numS (p : List Nat) (kind : Nat) : Nat → Nat → Fm × Nat
  | 0, q => (numLeaf kind (nx p q) (nx p (q + 1)), q + 1 + numUse kind (nx p q))
  | d + 1, q => if 0 < d ∧ nx p q % 3 = 2 then (.mk 16 0 [] [(numS p kind d (q + 1)).1, (numS p kind d (numS p kind d (q + 1)).2).1], (numS p kind d (numS p kind d (q + 1)).2).2)
    else (numLeaf kind (nx p q) (nx p (q + 1)), q + 1 + numUse kind (nx p q))
def cmpS (p : List Nat) (kind b d q : Nat) : Fm × Nat := (.mk (11 + b % 5) 0 [] [(numS p kind (d - 1) q).1, (numS p kind (d - 1) (numS p kind (d - 1) q).2).1], (numS p kind (d - 1) (numS p kind (d - 1) q).2).2)
def truLeaf (p : List Nat) (kind b d q : Nat) : Fm × Nat :=
  if kind = 3 ∧ 1 < d then cmpS p kind (b / 8) d q else if kind = 3 ∨ b % 16 = 9 then (.mk (2 + b / 16 % 2) 0 [] [], q) else (.mk 4 0 [1 + b / 8 % 6] [], q)
/-- A formula of the type Bool, and the place behind it. -/
def truS (p : List Nat) (kind : Nat) : Nat → Nat → Fm × Nat
  | 0, q => truLeaf p kind (nx p q) 0 (q + 1)
  | d + 1, q => if d = 0 ∨ nx p q % 8 ≤ 1 then truLeaf p kind (nx p q) (d + 1) (q + 1) else if 6 ≤ nx p q % 8 then cmpS p kind (nx p q / 8) (d + 1) (q + 1)
    else if nx p q % 8 = 2 then (.mk 7 0 [] [(truS p kind d (q + 1)).1], (truS p kind d (q + 1)).2)
    else (.mk (8 + nx p q % 8 - 3) 0 [] [(truS p kind d (q + 1)).1, (truS p kind d (truS p kind d (q + 1)).2).1], (truS p kind d (truS p kind d (q + 1)).2).2)
def mkS (p : List Nat) (kind : Nat) : Fm := (truS p kind 4 0).1
theorem numS_le (p : List Nat) (kind : Nat) : ∀ d q, (numS p kind d q).2 + 1 ≤ q + 3 * 2 ^ d
  | 0, q => by
    rw [numS]; unfold numUse; split <;> simp <;> omega
  | d + 1, q => by
    have h2 : 2 ^ (d + 1) = 2 * 2 ^ d := by rw [Nat.pow_succ, Nat.mul_comm]
    have h1 : 1 ≤ 2 ^ d := Nat.one_le_two_pow
    have a := numS_le p kind d (q + 1)
    have b := numS_le p kind d (numS p kind d (q + 1)).2
    rw [numS, h2]
    split
    · simp only; omega
    · unfold numUse; simp only; split <;> omega
theorem cmpS_le (p : List Nat) (kind b d q : Nat) (hd : 1 ≤ d) : (cmpS p kind b d q).2 + 2 ≤ q + 3 * 2 ^ d := by
  obtain ⟨d, rfl⟩ : ∃ e, d = e + 1 := ⟨d - 1, by omega⟩
  have h2 : 2 ^ (d + 1) = 2 * 2 ^ d := by rw [Nat.pow_succ, Nat.mul_comm]
  have a := numS_le p kind d q
  have b := numS_le p kind d (numS p kind d q).2
  rw [cmpS, Nat.add_sub_cancel, h2]
  simp only; omega
theorem truS_le (p : List Nat) (kind : Nat) : ∀ d q, (truS p kind d q).2 + 1 ≤ q + 3 * 2 ^ d
  | 0, q => by
    rw [truS]; unfold truLeaf; rw [if_neg (by omega)]; split <;> simp only <;> omega
  | d + 1, q => by
    have h2 : 2 ^ (d + 1) = 2 * 2 ^ d := by rw [Nat.pow_succ, Nat.mul_comm]
    have h1 : 1 ≤ 2 ^ d := Nat.one_le_two_pow
    have a := truS_le p kind d (q + 1)
    have b := truS_le p kind d (truS p kind d (q + 1)).2
    have c := cmpS_le p kind (nx p q / 8) (d + 1) (q + 1) (by omega)
    rw [h2] at c
    rw [truS, h2]
    split
    · unfold truLeaf
      split
      · omega
      · split <;> simp only <;> omega
    · split
      · omega
      · split <;> simp only <;> omega
/-- A formula that Check accepts, of a type, over the roles 1 to 6, of a nesting. -/
structure MkOk (kind t d : Nat) (f : Fm) : Prop where
  ins : insF kind f = 0
  fit : fitF f = true
  typ : resT f.op = t
  dep : depF f ≤ d
  siz : sizF f + 1 ≤ 2 ^ d
  wt : wtF f ≤ 7 * sizF f
  men : ∀ j, (menF f).testBit j = true → 1 ≤ j ∧ j ≤ 6
theorem mk_one {kind op t : Nat} {n : Int} {rs : List Nat} (d : Nat) (hd : 1 ≤ d) (h1 : ownF op n rs 0 = 0) (h2 : ¬kinF kind op) (h3 : resT op = t) (h4 : ∀ r ∈ rs, 1 ≤ r ∧ r ≤ 6) (h5 : rs.length ≤ 6) : MkOk kind t d (.mk op n rs []) where
  ins := by rw [insF, List.length_nil, h1, if_neg (by simp), if_neg h2, insFL]
  fit := by rw [fitF, fitFL]
  typ := h3
  dep := by rw [depF, depFL]; omega
  siz := by
    rw [sizF, sizFL]
    have : 2 ^ 1 ≤ 2 ^ d := Nat.pow_le_pow_right (by omega) hd
    omega
  wt := by rw [wtF, wtFL, sizF, sizFL]; omega
  men := fun j hj => by
    rw [menF, menFL, Nat.or_zero, mskF_bit] at hj
    exact h4 j (of_decide_eq_true hj)
theorem mk_bin {kind op t u d : Nat} {a b : Fm} (h1 : ownF op 0 [] 2 = 0) (h2 : ¬kinF kind op) (h3 : resT op = t) (hu : wanT op = u) (ha : MkOk kind u d a) (hb : MkOk kind u d b) : MkOk kind t (d + 1) (.mk op 0 [] [a, b]) where
  ins := by
    rw [insF, show ([a, b] : List Fm).length = 2 from rfl, h1, if_neg (by simp), if_neg h2, insFL, ha.ins, if_neg (by simp), insFL, hb.ins, if_neg (by simp), insFL]
  fit := by
    rw [fitF, fitFL, fitFL, fitFL, hu]
    simp [ha.fit, hb.fit, ha.typ, hb.typ]
  typ := h3
  dep := by
    have := ha.dep
    have := hb.dep
    rw [depF, depFL, depFL, depFL]; omega
  siz := by
    have h2 : 2 ^ (d + 1) = 2 * 2 ^ d := by rw [Nat.pow_succ, Nat.mul_comm]
    have := ha.siz
    have := hb.siz
    rw [sizF, sizFL, sizFL, sizFL, h2]; omega
  wt := by
    have := ha.wt
    have := hb.wt
    rw [wtF, wtFL, wtFL, wtFL, sizF, sizFL, sizFL, sizFL, List.length_nil]; omega
  men := fun j hj => by
    rw [menF, menFL, menFL, menFL, Nat.or_zero, show mskF [] = 0 from rfl, Nat.zero_or, Nat.testBit_or, Bool.or_eq_true] at hj
    exact hj.elim (ha.men j) (hb.men j)
theorem mk_not {kind d : Nat} {a : Fm} (ha : MkOk kind 1 d a) : MkOk kind 1 (d + 1) (.mk 7 0 [] [a]) where
  ins := by
    rw [insF, show ([a] : List Fm).length = 1 from rfl, show ownF 7 0 [] 1 = 0 by decide, if_neg (by simp), if_neg (by unfold kinF; omega), insFL, ha.ins, if_neg (by simp), insFL]
  fit := by
    rw [fitF, fitFL, fitFL]
    simp [ha.fit, ha.typ, wanT]
  typ := rfl
  dep := by
    have := ha.dep
    rw [depF, depFL, depFL]; omega
  siz := by
    have h2 : 2 ^ (d + 1) = 2 * 2 ^ d := by rw [Nat.pow_succ, Nat.mul_comm]
    have := ha.siz
    rw [sizF, sizFL, sizFL, h2]; omega
  wt := by
    have := ha.wt
    rw [wtF, wtFL, wtFL, sizF, sizFL, sizFL, List.length_nil]; omega
  men := fun j hj => by
    rw [menF, menFL, menFL, Nat.or_zero, show mskF [] = 0 from rfl, Nat.zero_or] at hj
    exact ha.men j hj
theorem MkOk.up {kind t d e : Nat} {f : Fm} (h : MkOk kind t d f) (hd : d ≤ e) : MkOk kind t e f :=
  ⟨h.ins, h.fit, h.typ, Nat.le_trans h.dep hd, Nat.le_trans h.siz (Nat.pow_le_pow_right (by omega) hd), h.wt, h.men⟩
theorem cntR_ok (b m : Nat) : 1 ≤ (cntR b m).length ∧ (cntR b m).length ≤ 6 ∧ (∀ r ∈ cntR b m, 1 ≤ r ∧ r ≤ 6) ∧ (cntR b m).Nodup := by
  unfold cntR
  split
  · refine ⟨by simp, by simp, fun r hr => ?_, by simp⟩
    rw [List.mem_singleton.1 hr]
    have : b / 3 % 6 < 6 := Nat.mod_lt _ (by omega)
    omega
  · rename_i h
    exact ⟨List.length_pos_iff.2 h, maskR_len _ _, fun r hr => maskR_mem hr, maskR_nd _ _⟩
theorem own_okF {op : Nat} {n : Int} {rs : List Nat} (h1 : 1 ≤ op ∧ op ≤ 16) (h2 : argF op = 0) (h3 : op ≠ 1 → n = 0) (h4 : leaF op ≤ rs.length ∧ rs.length ≤ mosF op) (h5 : 0 ≤ n ∧ n ≤ 999999) (h6 : ∀ r ∈ rs, 1 ≤ r ∧ r ≤ 6) (h7 : rs.Nodup) : ownF op n rs 0 = 0 := by
  unfold ownF
  rw [if_neg (by rw [h2]; omega), if_neg (by
    rintro (⟨a, b⟩ | a | a)
    · exact b (h3 a)
    · omega
    · omega), if_neg (by omega), if_neg (by
    rintro ⟨r, hr, a⟩
    have := h6 r hr
    omega), if_neg (fun h => h h7)]
theorem numLeaf_ok {kind : Nat} (_hk : 1 ≤ kind ∧ kind ≤ 3) (b m d : Nat) (hd : 1 ≤ d) : MkOk kind 2 d (numLeaf kind b m) := by
  have h4 : b / 3 % 4 < 4 := Nat.mod_lt _ (by omega)
  have h6 : b / 3 % 6 < 6 := Nat.mod_lt _ (by omega)
  unfold numLeaf
  split
  · exact mk_one d hd (own_okF (by omega) rfl (fun h => absurd rfl h) (by decide) (by omega) (fun r hr => by cases hr) (by simp)) (by unfold kinF; omega) rfl (fun r hr => by cases hr) (by simp)
  · split
    · have hr : ∀ r ∈ [1 + b / 3 % 6], 1 ≤ r ∧ r ≤ 6 := fun r hr => by rw [List.mem_singleton.1 hr]; omega
      exact mk_one d hd (own_okF (by omega) rfl (fun _ => rfl) ⟨Nat.le_refl 1, Nat.le_refl 1⟩ (by omega) hr (by simp)) (by unfold kinF; omega) rfl hr (by simp)
    · obtain ⟨a1, a2, a3, a4⟩ := cntR_ok b m
      exact mk_one d hd (own_okF (by omega) rfl (fun _ => rfl) ⟨a1, Nat.le_trans a2 (by decide)⟩ (by omega) a3 a4) (by unfold kinF; omega) rfl a3 a2
theorem numS_ok {kind : Nat} (hk : 1 ≤ kind ∧ kind ≤ 3) (p : List Nat) : ∀ d q, MkOk kind 2 (max d 1) (numS p kind d q).1
  | 0, q => numLeaf_ok hk _ _ _ (by omega)
  | d + 1, q => by
    rw [numS]
    split
    · rename_i h
      have a := numS_ok hk p d (q + 1)
      have b := numS_ok hk p d (numS p kind d (q + 1)).2
      rw [show max d 1 = d by omega] at a b
      rw [show max (d + 1) 1 = d + 1 by omega]
      exact mk_bin (by decide) (by unfold kinF; omega) rfl rfl a b
    · exact numLeaf_ok hk _ _ _ (by omega)
theorem cmpS_ok {kind : Nat} (hk : 1 ≤ kind ∧ kind ≤ 3) (p : List Nat) (b d q : Nat) (hd : 2 ≤ d) : MkOk kind 1 d (cmpS p kind b d q).1 := by
  obtain ⟨e, rfl⟩ : ∃ e, d = e + 1 := ⟨d - 1, by omega⟩
  have h5 : b % 5 < 5 := Nat.mod_lt _ (by omega)
  have x := numS_ok hk p e q
  have y := numS_ok hk p e (numS p kind e q).2
  rw [show max e 1 = e by omega] at x y
  rw [cmpS, Nat.add_sub_cancel]
  generalize b % 5 = c at h5
  refine mk_bin ?_ (by unfold kinF; omega) ?_ ?_ x y
  · match c, h5 with
    | 0, _ => decide
    | 1, _ => decide
    | 2, _ => decide
    | 3, _ => decide
    | 4, _ => decide
  · unfold resT; rw [if_neg (by omega)]
  · unfold wanT; rw [if_pos (by omega)]
theorem truLeaf_ok {kind : Nat} (hk : 1 ≤ kind ∧ kind ≤ 3) (p : List Nat) (b d q : Nat) (hd : 1 ≤ d) : MkOk kind 1 d (truLeaf p kind b d q).1 := by
  have h6 : b / 8 % 6 < 6 := Nat.mod_lt _ (by omega)
  have h2 : b / 16 % 2 < 2 := Nat.mod_lt _ (by omega)
  unfold truLeaf
  split
  · rename_i h; exact cmpS_ok hk p _ _ _ (by omega)
  · split
    · generalize b / 16 % 2 = c at h2
      refine mk_one d hd (own_okF (by omega) ?_ (fun _ => rfl) ?_ (by omega) (fun r hr => by cases hr) (by simp)) (by unfold kinF; omega) ?_ (fun r hr => by cases hr) (by simp)
      · unfold argF; rw [if_pos (by omega)]
      · unfold leaF mosF; rw [if_neg (by omega), if_neg (by omega), if_neg (by omega)]; simp
      · unfold resT; rw [if_neg (by omega)]
    · rename_i h
      have hr : ∀ r ∈ [1 + b / 8 % 6], 1 ≤ r ∧ r ≤ 6 := fun r hr => by rw [List.mem_singleton.1 hr]; omega
      exact mk_one d hd (own_okF (by omega) rfl (fun _ => rfl) ⟨Nat.le_refl 1, Nat.le_refl 1⟩ (by omega) hr (by simp)) (by unfold kinF; omega) rfl hr (by simp)
theorem truLeaf_01 (p : List Nat) (kind b q : Nat) : truLeaf p kind b 0 q = truLeaf p kind b 1 q := by
  simp [truLeaf]
theorem truS_ok {kind : Nat} (hk : 1 ≤ kind ∧ kind ≤ 3) (p : List Nat) : ∀ d q, MkOk kind 1 (max d 1) (truS p kind d q).1
  | 0, q => by
    rw [truS, truLeaf_01]
    exact truLeaf_ok hk p (nx p q) 1 (q + 1) (by omega)
  | d + 1, q => by
    have h8 : nx p q % 8 < 8 := Nat.mod_lt _ (by omega)
    rw [truS, show max (d + 1) 1 = d + 1 by omega]
    split
    · exact truLeaf_ok hk p _ _ _ (by omega)
    · rename_i h
      split
      · exact cmpS_ok hk p _ _ _ (by omega)
      · have a := truS_ok hk p d (q + 1)
        have b := truS_ok hk p d (truS p kind d (q + 1)).2
        rw [show max d 1 = d by omega] at a b
        split
        · exact mk_not a
        · generalize hc : nx p q % 8 = c at *
          refine mk_bin ?_ (by unfold kinF; omega) ?_ ?_ a b
          · have h3 : 3 ≤ c := by omega
            match c, h3 with
            | 3, _ => decide
            | 4, _ => decide
            | 5, _ => decide
            | c + 6, _ => omega
          · unfold resT; rw [if_neg (by omega)]
          · unfold wanT; rw [if_neg (by omega)]
theorem filter_sub {α : Type} {p q : α → Bool} (h : ∀ a, p a = true → q a = true) : ∀ {l : List α}, (l.filter p).Sublist (l.filter q)
  | [] => List.Sublist.refl _
  | a :: l => by
    cases hp : p a with
    | true => rw [List.filter_cons_of_pos hp, List.filter_cons_of_pos (h a hp)]; exact (filter_sub h).cons_cons a
    | false =>
      rw [List.filter_cons_of_neg (by rw [hp]; simp)]
      cases hq : q a with
      | true => rw [List.filter_cons_of_pos hq]; exact (filter_sub h).cons a
      | false => rw [List.filter_cons_of_neg (by rw [hq]; simp)]; exact filter_sub h
theorem mkS_ok {kind : Nat} (hk : 1 ≤ kind ∧ kind ≤ 3) (p : List Nat) : MkOk kind 1 4 (mkS p kind) := truS_ok hk p 4 0
theorem mkS_chk {kind : Nat} (hk : 1 ≤ kind ∧ kind ≤ 3) (p : List Nat) : chkF kind (mkS p kind) = 0 := by
  have h := mkS_ok hk p
  have h1 := h.siz
  have h2 := h.dep
  unfold chkF
  rw [if_neg (by omega), if_neg (by rw [lookF, if_neg (by omega), h.ins]; simp), if_neg (by rw [h.fit, h.typ]; simp), if_neg]
  rintro ⟨_, h8⟩
  have : cntB 64 (menF (mkS p kind)) ≤ 6 := by
    rw [cntB, List.countP_eq_length_filter]
    have hsub : ((List.range 64).filter fun i => (menF (mkS p kind)).testBit i).Sublist ((List.range 64).filter fun i => decide (1 ≤ i ∧ i ≤ 6)) :=
      filter_sub fun i hi => decide_eq_true (h.men i hi)
    exact Nat.le_trans hsub.length_le (by decide)
  omega
end Go.Proofs.YtnpcilglilfajaaGreatDoor
namespace Go.Proofs.YtnpcilglilfajaaGreatDoor
open Go.RowKit
theorem cons_erase {α : Type} : ∀ (l : List α) (j : Nat) (h : j < l.length), (l[j] :: l.eraseIdx j).Perm l
  | [], j, h => by cases h
  | a :: l, 0, _ => List.Perm.refl _
  | a :: l, j + 1, h => by
    rw [List.eraseIdx_cons_succ, List.getElem_cons_succ]
    exact (List.Perm.swap _ _ _).trans (List.Perm.cons a (cons_erase l j (by simpa using h)))
section
variable {P : Program} {n : NM} {w0 : Base} {X0 X : PMap} {own : Own} {env : Env}
/-- A call that changes one of the call's own blocks, whichever stands where. -/
theorem op_callJ {c : Operand} {f : FuncId} {xs : Array Operand} {ts : Array TypeId} {fs cs : Array Value} {vs : List Value} {x : Ow} {j : Nat} {Φ : Value → Ow → PMap → Prop} (he : Enters P f) (hc : eev env c = some (.func (.func f) fs cs)) (hx : xs.toList.map (eev env) = vs.map some)
    (h : SpecM P f (fs.toList ++ vs ++ cs.toList) X [x] fun u L' X' => ∃ x', L' = [x'] ∧ Φ u x' X') (hj : AtO own x.b x.cs x.ty x.sz j) : OpX P n w0 X0 env own X (.call { callee := .value c, args := xs, argTypes := ts }) false fun v own' X' => ∃ x', own' = own.set j x' ∧ X.le X' ∧ Φ v x' X' := by
  intro a W oper K Q ro hop ha hs hK
  have all : ∀ (xs : List Operand) (vs : List Value), xs.map (eev env) = vs.map some → xs.map a.eval = vs := by
    intro xs
    induction xs with
    | nil => intro vs h; cases vs <;> simp_all
    | cons x xs ih =>
      intro vs h
      cases vs with
      | nil => simp at h
      | cons v vs =>
        simp only [List.map_cons, List.cons.injEq] at h
        simp [ha.eval h.1, ih vs h.2]
  have h1 : xs.map a.eval = vs.toArray := by apply Array.toList_inj.1; simp [all _ _ hx]
  have hex : (execOp a.eval oper).run P W = .ok (.enter f (fs.toList ++ vs ++ cs.toList).toArray) W := by
    have hargs : fs ++ vs.toArray ++ cs = (fs.toList ++ vs ++ cs.toList).toArray := by apply Array.toList_inj.1; simp
    simp only [execOp, hop, resolve, ha.eval hc, h1, Deferred.ofValue, invoke, Sem.run_bind, Sem.run_pure, Result.andThen_ok]
    rw [hargs]
    exact he _ _
  obtain ⟨hjl, hjx⟩ := List.getElem?_eq_some_iff.1 hj.get
  have hp : own.Perm ([x] ++ own.eraseIdx j) := by
    have := cons_erase own j hjl
    rw [hjx] at this
    exact this.symm
  refine wp_enters (noDefer_spec (by rw [hop]; rfl)) hex ((h w0 X0 (own.eraseIdx j) W (hs.perm hp)).mono fun e w' hfin => ?_)
  obtain ⟨v, L', X', rfl, hsat, hX, x', rfl, hΦ⟩ := hfin
  have hp' : ([x'] ++ own.eraseIdx j).Perm (own.set j x') := by
    have hl : j < (own.set j x').length := by rw [List.length_set]; exact hjl
    have := cons_erase (own.set j x') j hl
    rw [List.getElem_set_self, List.eraseIdx_set_eq] at this
    exact this
  exact ⟨v, rfl, hK v _ X' w' ⟨x', rfl, hX, hΦ⟩ (hsat.perm hp') (fun h => by cases h)⟩
end
end Go.Proofs.YtnpcilglilfajaaGreatDoor
namespace Go.Proofs.YtnpcilglilfajaaGreatDoor
section
set_option maxRecDepth 100000
theorem en13 : Enters Tryz.prog 13 := enters_mk Tryz.func13 (by kernel_rfl) rfl
end
open Go.RowKit
theorem fmLeaf {k : IntKind} {X : PMap} {op : Nat} {n : Int} {vn : Value} {rs : List Nat} (hn : IntsR X vn rs) : FmR k X (.mk op n rs []) (.int k (op : Int), .int .i64 n, vn, .slice none 0 0) := .mk (rows := []) hn (.inl ⟨rfl, _, _, rfl⟩) rfl (fun i a r h => by simp at h)
theorem fmTwo {k : IntKind} {X : PMap} {op : Nat} {n : Int} {va : Value} {a b : Fm} {ra rb : Row4} (h : RowR rc4 X va [ra, rb]) (ha : FmR k X a ra) (hb : FmR k X b rb) : FmR k X (.mk op n [] [a, b]) (.int k (op : Int), .int .i64 n, .slice none 0 0, va) := .mk (rows := [ra, rb]) IntsR.nil h rfl (fun i x r h1 h2 => by
  match i with
  | 0 => simp at h1 h2; subst h1 h2; exact ha
  | 1 => simp at h1 h2; subst h1 h2; exact hb
  | i + 2 => simp at h1)
theorem ints1 {X : PMap} {b : Nat} {r : Nat} (h : Blk X b [.int .i64 (r : Int)]) : IntsR X (.slice (some ⟨b, 0, none⟩) 1 1) [r] := ⟨.inr ⟨Nat.zero_lt_one, b, 1, rfl, h⟩, _, _, rfl, Nat.le_refl _⟩
theorem row2 {X : PMap} {b : Nat} {r s : Row4} (h : Blk X b [r.1, r.2.1, r.2.2.1, r.2.2.2, s.1, s.2.1, s.2.2.1, s.2.2.2]) : RowR rc4 X (.slice (some ⟨b, 0, none⟩) 2 2) [r, s] := .inr ⟨Nat.zero_lt_succ _, b, 2, [], rfl, h, Nat.le_refl _, by (have : maxLen = 9223372036854775807 := rfl); omega⟩
end Go.Proofs.YtnpcilglilfajaaGreatDoor
namespace Go.Proofs.YtnpcilglilfajaaGreatDoor
section
set_option maxRecDepth 100000
theorem en159 : Enters Tryz.prog 159 := enters_mk Tryz.func159 (by kernel_rfl) rfl
theorem en191 : Enters Tryz.prog 191 := enters_mk Tryz.func191 (by kernel_rfl) rfl
theorem fa203_0 : FAdr Tryz.prog 203 0 0 := fadr_mk Tryz.underlying203 rfl rfl (by kernel_rfl)
theorem fa203_1 : FAdr Tryz.prog 203 1 1 := fadr_mk Tryz.underlying203 rfl rfl (by kernel_rfl)
end
open Go.RowKit
abbrev SrcO (b : Nat) (A : Option Addr) (l c : Nat) (q : Nat) : Ow := ⟨b, [.slice A l c, .int .i64 (q : Int)], 203, 2⟩
theorem nx_at {p : List Nat} {q : Nat} (h : q < p.length) : p[q]? = some (nx p q) := by
  rw [nx, List.getElem?_eq_getElem h]; rfl
theorem next_spec18 {X : PMap} {b c q : Nat} {A : Option Addr} {p : List Nat} (h : BytesR X (.slice A p.length c) p) (hb : ∀ x ∈ p, x < 256) (hq : q < 1000000) (hl : p.length < 1000000) : SpecM Tryz.prog 159 [.pointer (some ⟨b, 0, none⟩)] X [SrcO b A p.length c q] fun u L' _ => ∃ x', L' = [x'] ∧ u = .int .i64 (nx p q : Int) ∧ x' = SrcO b A p.length c (q + 1) := by
  by_cases hc : p.length < q + 1
  · have e : nx p q = 0 := by rw [nx, List.getElem?_eq_none (by omega)]; rfl
    rw [e]
    refine SpecM.enter Tryz.func159 rfl Tryz.ntmps159 rfl ?_
    intro w0 X0 own0
    refine T.seq <| T.region <| SL.v (op_assign (v := .int .i64 ((0 : Nat) : Int)) rfl) <| SL.nil <| T.seq <| T.region <| SL.mv rfl <| SL.v (op_nil rfl) <| SL.v (op_fieldAddr fa203_1 rfl) <| SL.v (op_load ty3 rfl (by repeat constructor) rfl) ?_
    refine SL.v (op_addN (p := q) (q := 1) rfl rfl (by omega)) ?_
    refine SL.v (op_nil rfl) <| SL.v (op_fieldAddr fa203_1 rfl) <| SL.w (op_store ty3 rfl rfl (by repeat constructor) rfl rfl rfl) ?_
    rintro _ _ _ ⟨rfl, rfl⟩
    refine SL.nil <| T.seq <| T.seq <| T.draw (by kernel_rfl) 10 [.t 0, .t 1, .t 2, .t 3, .t 4, .t 5, .t 6, .t 7, .t 8, .t 9] (by kernel_rfl) ?_
    refine SD.take rfl panicBody (op_move rfl) rfl rfl ?_
    refine SD.take rfl panicBody (op_nil rfl) rfl rfl ?_
    refine SD.take rfl panicBody (op_fieldAddr fa203_1 rfl) rfl rfl ?_
    refine SD.take rfl panicBody (op_load ty3 rfl (by repeat constructor) rfl) rfl rfl ?_
    refine SD.take rfl panicBody (op_move rfl) rfl rfl ?_
    refine SD.take rfl panicBody (op_nil rfl) rfl rfl ?_
    refine SD.take rfl panicBody (op_fieldAddr fa203_0 rfl) rfl rfl ?_
    refine SD.take rfl panicBody (op_load ty44 rfl (by repeat constructor) rfl) rfl rfl ?_
    refine SD.take rfl panicBody (op_lenS Tryz.underlying44 rfl) rfl rfl ?_
    refine SD.take rfl panicBody (op_gtrT rfl rfl (by omega)) rfl rfl ?_
    refine SD.nil ?_
    show SL _ _ _ _ _ _ _ [] _ _ _
    refine SL.nil <| T.condT rfl <| T.seq <| T.region <| SL.v (op_assign (v := .int .i64 ((0 : Nat) : Int)) rfl) <| SL.nil <| T.retM1 [SrcO b A p.length c (q + 1)] rfl (ResIs.tmp rfl) (List.Perm.refl _) ?_
    exact ⟨PMap.le_refl _, _, rfl, rfl, rfl⟩
  · obtain ⟨bA, pre, rfl, hB⟩ := h.blk (by omega)
    have hx := nx_lt hb q
    have e2 : (pre ++ bytesC p)[pre.length + q]? = some (.int .u8 (nx p q : Int)) := by rw [List.getElem?_append_right (by omega), Nat.add_sub_cancel_left]; exact bytesC_at (nx_at (by omega))
    refine SpecM.enter Tryz.func159 rfl Tryz.ntmps159 rfl ?_
    intro w0 X0 own0
    refine T.seq <| T.region <| SL.v (op_assign (v := .int .i64 ((0 : Nat) : Int)) rfl) <| SL.nil <| T.seq <| T.region <| SL.mv rfl <| SL.v (op_nil rfl) <| SL.v (op_fieldAddr fa203_1 rfl) <| SL.v (op_load ty3 rfl (by repeat constructor) rfl) ?_
    refine SL.v (op_addN (p := q) (q := 1) rfl rfl (by omega)) ?_
    refine SL.v (op_nil rfl) <| SL.v (op_fieldAddr fa203_1 rfl) <| SL.w (op_store ty3 rfl rfl (by repeat constructor) rfl rfl rfl) ?_
    rintro _ _ _ ⟨rfl, rfl⟩
    refine SL.nil <| T.seq <| T.seq <| T.draw (by kernel_rfl) 10 [.t 0, .t 1, .t 2, .t 3, .t 4, .t 5, .t 6, .t 7, .t 8, .t 9] (by kernel_rfl) ?_
    refine SD.take rfl panicBody (op_move rfl) rfl rfl ?_
    refine SD.take rfl panicBody (op_nil rfl) rfl rfl ?_
    refine SD.take rfl panicBody (op_fieldAddr fa203_1 rfl) rfl rfl ?_
    refine SD.take rfl panicBody (op_load ty3 rfl (by repeat constructor) rfl) rfl rfl ?_
    refine SD.take rfl panicBody (op_move rfl) rfl rfl ?_
    refine SD.take rfl panicBody (op_nil rfl) rfl rfl ?_
    refine SD.take rfl panicBody (op_fieldAddr fa203_0 rfl) rfl rfl ?_
    refine SD.take rfl panicBody (op_load ty44 rfl (by repeat constructor) rfl) rfl rfl ?_
    refine SD.take rfl panicBody (op_lenS Tryz.underlying44 rfl) rfl rfl ?_
    refine SD.take rfl panicBody (op_gtrF rfl rfl (by omega)) rfl rfl ?_
    refine SD.nil ?_
    show SL _ _ _ _ _ _ _ [] _ _ _
    refine SL.nil <| T.condF rfl <| T.skip <| T.seq <| T.draw (by kernel_rfl) 13 [.t 0, .t 1, .t 2, .t 3, .t 4, .t 5, .t 6, .t 7, .t 8, .t 9, .t 10, .t 11, .t 12] (by kernel_rfl) ?_
    refine SD.take rfl panicBody (op_move rfl) rfl rfl ?_
    refine SD.take rfl panicBody (op_nil rfl) rfl rfl ?_
    refine SD.take rfl panicBody (op_fieldAddr fa203_0 rfl) rfl rfl ?_
    refine SD.take rfl panicBody (op_load ty44 rfl (by repeat constructor) rfl) rfl rfl ?_
    refine SD.take rfl panicBody (op_move rfl) rfl rfl ?_
    refine SD.take rfl panicBody (op_nil rfl) rfl rfl ?_
    refine SD.take rfl panicBody (op_fieldAddr fa203_1 rfl) rfl rfl ?_
    refine SD.take rfl panicBody (op_load ty3 rfl (by repeat constructor) rfl) rfl rfl ?_
    refine SD.take rfl panicBody (op_subN (p := q + 1) (q := 1) rfl rfl (by omega) (by omega)) rfl rfl ?_
    rw [Nat.add_sub_cancel]
    refine SD.take rfl panicBody (op_indexN Tryz.underlying44 ty5 rfl rfl (by omega)) rfl rfl ?_
    refine SD.take rfl panicBody (op_loadX ty5 rfl hB (cread1k' e2 (by omega))) rfl rfl ?_
    refine SD.take rfl panicBody (op_convI64 Tryz.underlying5 Tryz.underlying3 rfl (by omega) (by omega)) rfl rfl ?_
    refine SD.take rfl panicBody (op_assign rfl) rfl rfl ?_
    refine SD.nil ?_
    show SL _ _ _ _ _ _ _ [] _ _ _
    refine SL.nil <| T.retM1 [SrcO b (some ⟨bA, pre.length, none⟩) p.length c (q + 1)] rfl (ResIs.tmp rfl) (List.Perm.refl _) ?_
    exact ⟨PMap.le_refl _, _, rfl, rfl, rfl⟩
theorem perm3o {a b c : Ow} {G O : Own} : (a :: b :: c :: (G ++ O)).Perm ((a :: b :: c :: O) ++ G) := .cons _ (.cons _ (.cons _ (show (G ++ O).Perm (O ++ G) from List.perm_append_comm)))
theorem numS_leaf {p : List Nat} {kind d q : Nat} (h : ¬(1 < d ∧ nx p q % 3 = 2)) : numS p kind d q = (numLeaf kind (nx p q) (nx p (q + 1)), q + 1 + numUse kind (nx p q)) := by
  cases d with
  | zero => rfl
  | succ d => rw [numS, if_neg (fun hh => h ⟨by omega, hh.2⟩)]
theorem numS_node {p : List Nat} {kind d q : Nat} (h1 : 1 < d) (h : nx p q % 3 = 2) : numS p kind d q = (.mk 16 0 [] [(numS p kind (d - 1) (q + 1)).1, (numS p kind (d - 1) (numS p kind (d - 1) (q + 1)).2).1], (numS p kind (d - 1) (numS p kind (d - 1) (q + 1)).2).2) := by
  obtain ⟨e, rfl⟩ : ∃ e, d = e + 1 := ⟨d - 1, by omega⟩
  rw [numS, if_pos ⟨by omega, h⟩, Nat.add_sub_cancel]
theorem numS_spec {kind : Nat} (d : Nat) : ∀ {X : PMap} {b c q : Nat} {A : Option Addr} {p : List Nat}, BytesR X (.slice A p.length c) p → (∀ x ∈ p, x < 256) → p.length < 1000000 → q + 3 * 2 ^ d < 1000000 → SpecM Tryz.prog 191 [.pointer (some ⟨b, 0, none⟩), .int .i64 (d : Int), .int .i64 (kind : Int), .int .i64 6] X [SrcO b A p.length c q] fun u L' X' => ∃ x', L' = [x'] ∧ ∃ r : Row4, u = .agg #[r.1, r.2.1, r.2.2.1, r.2.2.2] ∧ FmR .i64 X' (numS p kind d q).1 r ∧ x' = SrcO b A p.length c (numS p kind d q).2 := by
  induction d using Nat.strongRecOn with
  | _ d ih =>
  intro X b c q A p h hb hl hq
  have hmx : maxLen = 9223372036854775807 := rfl
  have hp2 : 1 ≤ 2 ^ d := Nat.one_le_two_pow
  have hx := nx_lt hb q
  have hd : d < 2 ^ d := Nat.lt_two_pow_self
  by_cases hbr : 1 < d ∧ nx p q % 3 = 2
  · obtain ⟨hd1, h3⟩ := hbr
    have e2 : 2 ^ d = 2 * 2 ^ (d - 1) := by
      obtain ⟨e, rfl⟩ : ∃ e, d = e + 1 := ⟨d - 1, by omega⟩
      rw [Nat.add_sub_cancel, Nat.pow_succ, Nat.mul_comm]
    have hle := numS_le p kind (d - 1) (q + 1)
    rw [numS_node hd1 h3]
    refine SpecM.enter Tryz.func191 rfl Tryz.ntmps191 rfl ?_
    intro w0 X0 own0
    refine T.seq <| T.region <| SL.w (op_alloc z27) ?_
    rintro _ _ _ ⟨B8, rfl, rfl, rfl⟩
    refine SL.nil <| T.seq <| T.region <| SL.mv rfl <| SL.w (op_callJ en159 rfl (vs := [_]) rfl (next_spec18 (q := q) h hb (by omega) hl) (by repeat constructor)) ?_
    rintro _ _ X1 ⟨_, rfl, hX1, rfl, rfl⟩
    refine SL.as rfl <| SL.nil <| T.seq <| T.seq <| T.region <| SL.mv rfl <| SL.v (op_gtrT rfl rfl (by omega)) ?_
    refine SL.mv rfl <| SL.mv rfl <| SL.v (op_remN (p := nx p q) (q := 3) rfl rfl rfl (by omega)) ?_
    rw [h3]
    refine SL.v (op_eqlT rfl rfl (by omega)) ?_
    refine SL.v (op_pickT rfl rfl) <| SL.nil <| T.condT rfl <| T.seq <| T.region <| SL.mv rfl <| SL.mv rfl <| SL.v (op_subN (p := d) (q := 1) rfl rfl (by omega) (by omega)) ?_
    refine SL.mv rfl <| SL.mv rfl <| SL.w (op_callJ en191 rfl (vs := [_, _, _, _]) rfl (ih (d - 1) (by omega) (q := q + 1) (h.mono hX1) hb hl (by omega)) (by repeat constructor)) ?_
    rintro _ _ X2 ⟨_, rfl, hX2, r1, rfl, hr1, rfl⟩
    obtain ⟨o1, n1, a1, b1, l1, c1, l2, c2, rfl⟩ := hr1.form
    refine SL.w (op_alloc z27) ?_
    rintro _ _ _ ⟨B10, rfl, rfl, rfl⟩
    refine SL.w (op_store ty27 rfl rfl (by repeat constructor) rfl rfl rfl) ?_
    rintro _ _ _ ⟨rfl, rfl⟩
    refine SL.nil <| T.seq <| T.region <| SL.mv rfl <| SL.mv rfl <| SL.v (op_subN (p := d) (q := 1) rfl rfl (by omega) (by omega)) ?_
    refine SL.mv rfl <| SL.mv rfl <| SL.w (op_callJ en191 rfl (vs := [_, _, _, _]) rfl (ih (d - 1) (by omega) (q := (numS p kind (d - 1) (q + 1)).2) ((h.mono hX1).mono hX2) hb hl (by omega)) (by repeat constructor)) ?_
    rintro _ _ X3 ⟨_, rfl, hX3, r2, rfl, hr2, rfl⟩
    obtain ⟨o3, n3, a3, b3, l3, c3, l4, c4, rfl⟩ := hr2.form
    refine SL.w (op_alloc z27) ?_
    rintro _ _ _ ⟨B11, rfl, rfl, rfl⟩
    refine SL.w (op_store ty27 rfl rfl (by repeat constructor) rfl rfl rfl) ?_
    rintro _ _ _ ⟨rfl, rfl⟩
    refine SL.nil <| T.seq <| T.region <| SL.v (op_load ty27 rfl (by repeat constructor) rfl) ?_
    refine SL.v (op_load ty27 rfl (by repeat constructor) rfl) ?_
    refine SL.w (op_buildSlice Tryz.underlying25 bs27 (qs := [(0, _), (1, _)]) rfl rfl rfl rfl rfl) ?_
    rintro _ _ _ ⟨B38, rfl, rfl, rfl⟩
    refine SL.v (op_build st27 (qs := [(0, _), (3, _)]) rfl rfl) <| SL.w (op_store ty27 rfl rfl (by repeat constructor) rfl rfl rfl) ?_
    rintro _ _ _ ⟨rfl, rfl⟩
    refine SL.nil <| T.pub B38 (by repeat constructor) ?_
    intro X4 hX4 hB38 _
    refine T.retM1S [_] _ rfl (ResIs.cell rfl ty27 (by repeat constructor) rfl) (.cons _ (.cons _ (.cons _ (.refl _)))) (List.Perm.refl _) ?_
    exact ⟨((hX1.trans' hX2).trans' hX3).trans' hX4, _, rfl, (.int .i64 16, .int .i64 0, .slice none 0 0, .slice (some ⟨B38, 0, none⟩) 2 2), rfl, fmTwo (op := 16) (row2 hB38) ((hr1.mono hX3).mono hX4) (hr2.mono hX4), rfl⟩
  rw [numS_leaf hbr]
  refine SpecM.enter Tryz.func191 rfl Tryz.ntmps191 rfl ?_
  intro w0 X0 own0
  refine T.seq <| T.region <| SL.w (op_alloc z27) ?_
  rintro _ _ _ ⟨B8, rfl, rfl, rfl⟩
  refine SL.nil <| T.seq <| T.region <| SL.mv rfl <| SL.w (op_callJ en159 rfl (vs := [_]) rfl (next_spec18 (q := q) h hb (by omega) hl) (by repeat constructor)) ?_
  rintro _ _ X1 ⟨_, rfl, hX1, rfl, rfl⟩
  refine SL.as rfl <| SL.nil <| T.seq <| T.meet (fun _ env own X' => X1.le X' ∧ env = [(0, .pointer (some ⟨b, 0, none⟩)), (2, .int .i64 (kind : Int)), (3, .int .i64 6), (8, .pointer (some ⟨B8, 0, none⟩)), (9, .int .i64 (nx p q : Int))] ∧ own = F6 B8 0 0 (.slice none 0 0) (.slice none 0 0) :: SrcO b A p.length c (q + 1) :: own0) ?_ ?_
  · by_cases hd1 : 1 < d
    · skip
      refine T.seq <| T.region <| SL.mv rfl <| SL.v (op_gtrT rfl rfl (by omega)) ?_
      refine SL.mv rfl <| SL.mv rfl <| SL.v (op_remN (p := nx p q) (q := 3) rfl rfl rfl (by omega)) ?_
      refine SL.v (op_eqlF rfl rfl (by omega)) ?_
      refine SL.v (op_pickT rfl rfl) <| SL.nil <| T.condF rfl <| T.skip ?_
      exact T.backW 0 (by omega) ⟨PMap.le_refl _, rfl, rfl⟩ (by repeat (first | exact Sub.nil | refine Sub.cons rfl ?_))
    · refine T.seq <| T.region <| SL.mv rfl <| SL.v (op_gtrF rfl rfl (by omega)) ?_
      refine SL.mv rfl <| SL.skip rfl rfl ?_
      refine SL.skip rfl rfl ?_
      refine SL.skip rfl rfl ?_
      refine SL.v (op_pickF rfl rfl) <| SL.nil <| T.condF rfl <| T.skip ?_
      exact T.backW 0 (by omega) ⟨PMap.le_refl _, rfl, rfl⟩ (by repeat (first | exact Sub.nil | refine Sub.cons rfl ?_))
  rintro _ _ _ X2 ⟨hX2, rfl, rfl⟩
  have h6 : nx p q / 3 % 6 < 6 := Nat.mod_lt _ (by omega)
  refine T.seq <| T.seq <| T.region <| SL.mv rfl <| SL.v (op_remN (p := nx p q) (q := 3) rfl rfl rfl (by omega)) ?_
  by_cases h0 : nx p q % 3 = 0
  · rw [numLeaf, if_pos h0, numUse, if_pos (.inl h0)]
    refine SL.v (op_eqlT rfl rfl (by omega)) ?_
    refine SL.nil <| T.condT rfl <| T.seq <| T.region <| SL.mv rfl <| SL.v (op_quoN (p := nx p q) (q := 3) rfl rfl rfl (by omega) (by omega)) ?_
    refine SL.v (op_remN (p := nx p q / 3) (q := 4) rfl rfl rfl (by omega)) ?_
    refine SL.v (op_build st27 (qs := [(0, _), (1, _)]) rfl rfl) <| SL.w (op_store ty27 rfl rfl (by repeat constructor) rfl rfl rfl) ?_
    rintro _ _ _ ⟨rfl, rfl⟩
    refine SL.nil <| T.retM1S [_] _ rfl (ResIs.cell rfl ty27 (by repeat constructor) rfl) (.cons _ (.refl _)) (List.Perm.refl _) ?_
    exact ⟨hX1.trans' hX2, _, rfl, _, rfl, fmLeaf (op := 1) IntsR.nil, rfl⟩
  by_cases hk : kind = 3
  · rw [numLeaf, if_neg h0, if_pos hk, numUse, if_pos (.inr hk)]
    refine SL.v (op_eqlF rfl rfl (by omega)) ?_
    refine SL.nil <| T.condF rfl <| T.skip <| T.seq <| T.seq <| T.region <| SL.mv rfl <| SL.v (op_eqlT rfl rfl (by omega)) ?_
    refine SL.nil <| T.condT rfl <| T.seq <| T.region <| SL.mv rfl <| SL.v (op_quoN (p := nx p q) (q := 3) rfl rfl rfl (by omega) (by omega)) ?_
    refine SL.mv rfl <| SL.v (op_remN (p := nx p q / 3) (q := 6) rfl rfl rfl (by omega)) ?_
    refine SL.v (op_addN (p := 1) (q := nx p q / 3 % 6) rfl rfl (by omega)) ?_
    refine SL.w (op_buildSlice Tryz.underlying24 bs3 (qs := [(0, _)]) rfl rfl rfl rfl rfl) ?_
    rintro _ _ _ ⟨B54, rfl, rfl, rfl⟩
    refine SL.v (op_build st27 (qs := [(0, _), (2, _)]) rfl rfl) <| SL.w (op_store ty27 rfl rfl (by repeat constructor) rfl rfl rfl) ?_
    rintro _ _ _ ⟨rfl, rfl⟩
    refine SL.nil <| T.pub B54 (by repeat constructor) ?_
    intro X3 hX3 hB54 _
    refine T.retM1S [_] _ rfl (ResIs.cell rfl ty27 (by repeat constructor) rfl) (.cons _ (.refl _)) (List.Perm.refl _) ?_
    exact ⟨(hX1.trans' hX2).trans' hX3, _, rfl, _, rfl, fmLeaf (op := 6) (ints1 hB54), rfl⟩
  rw [numLeaf, if_neg h0, if_neg hk, numUse, if_neg (fun hh => hh.elim h0 hk)]
  refine SL.v (op_eqlF rfl rfl (by omega)) ?_
  refine SL.nil <| T.condF rfl <| T.skip <| T.seq <| T.seq <| T.region <| SL.mv rfl <| SL.v (op_eqlF rfl rfl (by omega)) ?_
  refine SL.nil <| T.condF rfl <| T.skip <| T.seq <| T.region <| SL.v (op_build st27 (qs := [(0, _)]) rfl rfl) <| SL.w (op_alloc z27) ?_
  rintro _ _ _ ⟨B12, rfl, rfl, rfl⟩
  refine SL.w (op_store ty27 rfl rfl (by repeat constructor) rfl rfl rfl) ?_
  rintro _ _ _ ⟨rfl, rfl⟩
  refine SL.nil <| T.seq <| T.region <| SL.mv rfl <| SL.w (op_callJ en159 rfl (vs := [_]) rfl (next_spec18 (q := q + 1) ((h.mono hX1).mono hX2) hb (by omega) hl) (by repeat constructor)) ?_
  rintro _ _ X3 ⟨_, rfl, hX3, rfl, rfl⟩
  obtain ⟨m, hm⟩ : ∃ m, m = nx p (q + 1) := ⟨_, rfl⟩
  have hm2 : m < 256 := by rw [hm]; exact nx_lt hb _
  rw [← hm]
  refine SL.as rfl <| SL.nil <| T.seq <| T.seq <| T.region <| SL.v (op_assign (v := .int .i64 ((1 : Nat) : Int)) rfl) <| SL.nil <| T.block <| T.loopW (fun w env own X' => ∃ (i : Nat) (vn : Value) (G : Own), w = 6 - i ∧ i ≤ 6 ∧ X3.le X' ∧ GrowS 3 1 vn (maskR m i).length (ints (maskR m i)) G ∧ env = [(3, .int .i64 6), (8, .pointer (some ⟨B8, 0, none⟩)), (9, .int .i64 (nx p q : Int)), (12, .pointer (some ⟨B12, 0, none⟩)), (13, .int .i64 (m : Int)), (14, .int .i64 ((1 + i : Nat) : Int))] ∧ own = F6 B12 5 0 vn (.slice none 0 0) :: F6 B8 0 0 (.slice none 0 0) (.slice none 0 0) :: SrcO b A p.length c (q + 1 + 1) :: (G ++ own0)) 6 ⟨0, _, [], by omega, by omega, PMap.le_refl _, GrowS.nil, rfl, rfl⟩ (by repeat (first | exact Sub.nil | refine Sub.cons rfl ?_)) ?_
  rintro w _ _ X4 ⟨i, vn, G, rfl, hi, hX4, hG, rfl, rfl⟩
  obtain ⟨An, cn, rfl⟩ := hG.form
  have hml := maskR_len m i
  rcases Nat.lt_or_ge i 6 with hil | hil
  case inl =>
    have hms := maskR_succ m i
    refine T.seq <| T.seq <| T.region <| SL.mv rfl <| SL.mv rfl <| SL.v (op_leqT rfl rfl (by omega)) ?_
    refine SL.nil <| T.condT rfl <| T.skip <| T.seq <| T.block <| T.seq <| T.region <| SL.mv rfl <| SL.mv rfl <| SL.v (op_subN (p := 1 + i) (q := 1) rfl rfl (by omega) (by omega)) ?_
    rw [Nat.add_sub_cancel_left]
    refine SL.v (op_shrK (p := m) (q := i) rfl rfl (by show i ≤ 64; omega)) ?_
    refine SL.v (op_remN (p := m >>> i) (q := 2) rfl rfl rfl (by omega)) ?_
    by_cases hb1 : (m >>> i) % 2 = 1
    · rw [if_pos hb1] at hms
      refine SL.v (op_eqlT rfl rfl (by omega)) ?_
      refine SL.nil <| T.condT rfl <| T.region <| SL.v (op_fieldAddr fa27_2 rfl) <| SL.v (op_load ty24 rfl (by repeat constructor) rfl) ?_
      refine SL.mv rfl <| SL.w (op_buildSlice Tryz.underlying24 bs3 (qs := [(0, _)]) rfl rfl rfl rfl rfl) ?_
      rintro _ _ _ ⟨B73, rfl, rfl, rfl⟩
      refine SL.perm perm4 ?_
      refine SL.w (op_appendGA (own0 := _ :: _ :: _ :: _ :: own0) (m := 1) sl24 rfl hG rfl (Src.ofOwn0 AtO.here rfl) (by intro y hy; have hy : y ∈ [Value.int _ _] := hy; simp only [List.mem_cons, List.not_mem_nil, or_false] at hy; rcases hy with rfl; rfl) (by omega) (by omega)) ?_
      rintro vn9 _ _ ⟨Gn9, rfl, rfl, hGn9⟩
      obtain ⟨An9, cn9, rfl⟩ := hGn9.form
      refine SL.v (op_fieldAddr fa27_2 rfl) <| SL.w (op_store ty24 rfl rfl (by repeat constructor) rfl rfl rfl) ?_
      rintro _ _ _ ⟨rfl, rfl⟩
      refine SL.nil <| T.blk <| T.region <| SL.mv rfl <| SL.v (op_addN (q := 1) rfl rfl (by omega)) ?_
      refine SL.as rfl <| SL.nil <| T.less (List.sublist_cons_self _ _) ?_
      refine T.perm perm3o.symm ?_
      have hGn10 : GrowS 3 1 (.slice An9 ((maskR m i).length + 1) cn9) (maskR m (i + 1)).length (ints (maskR m (i + 1))) Gn9 := by
        rw [hms, List.length_append, show ints (maskR m i ++ [i + 1]) = ints (maskR m i) ++ ints [i + 1] by simp [ints], Nat.add_comm i 1]
        exact hGn9
      exact T.backW (6 - (i + 1)) (by omega) ⟨i + 1, _, Gn9, rfl, by omega, hX4, hGn10, rfl, rfl⟩ (by repeat (first | exact Sub.nil | refine Sub.cons rfl ?_))
    · rw [if_neg hb1, List.append_nil] at hms
      refine SL.v (op_eqlF rfl rfl (by omega)) ?_
      refine SL.nil <| T.condF rfl <| T.skip <| T.blk <| T.region <| SL.mv rfl <| SL.v (op_addN (q := 1) rfl rfl (by omega)) ?_
      refine SL.as rfl <| SL.nil ?_
      exact T.backW (6 - (i + 1)) (by omega) ⟨i + 1, _, G, rfl, by omega, hX4, (by rw [hms]; exact hG), rfl, rfl⟩ (by repeat (first | exact Sub.nil | refine Sub.cons rfl ?_))
  obtain rfl : i = 6 := by omega
  have hXX := (((hX1.trans' hX2).trans' hX3).trans' hX4)
  by_cases he : maskR m 6 = []
  · have hcr : cntR (nx p q) m = [1 + nx p q / 3 % 6] := if_pos he
    rw [hcr]
    rw [he] at hG ⊢
    refine T.seq <| T.seq <| T.region <| SL.mv rfl <| SL.mv rfl <| SL.v (op_leqF rfl rfl (by omega)) ?_
    refine SL.nil <| T.condF rfl ?_
    refine T.exit (T.exitCode (T.exitCut (T.exitBlk ?_)))
    refine T.seq <| T.seq <| T.region <| SL.v (op_fieldAddr fa27_2 rfl) <| SL.v (op_load ty24 rfl (by repeat constructor) rfl) ?_
    refine SL.v (op_lenS Tryz.underlying24 rfl) <| SL.v (op_eql rfl rfl) <| SL.nil <| T.condT rfl <| T.region <| SL.mv rfl <| SL.v (op_quoN (p := nx p q) (q := 3) rfl rfl rfl (by omega) (by omega)) ?_
    refine SL.mv rfl <| SL.v (op_remN (p := nx p q / 3) (q := 6) rfl rfl rfl (by omega)) ?_
    refine SL.v (op_addN (p := 1) (q := nx p q / 3 % 6) rfl rfl (by omega)) ?_
    refine SL.w (op_buildSlice Tryz.underlying24 bs3 (qs := [(0, _)]) rfl rfl rfl rfl rfl) ?_
    rintro _ _ _ ⟨B85, rfl, rfl, rfl⟩
    refine SL.v (op_fieldAddr fa27_2 rfl) <| SL.w (op_store ty24 rfl rfl (by repeat constructor) rfl rfl rfl) ?_
    rintro _ _ _ ⟨rfl, rfl⟩
    refine SL.nil <| T.seq <| T.region <| SL.v (op_load ty27 rfl (by repeat constructor) rfl) ?_
    refine SL.w (op_store ty27 rfl rfl (by repeat constructor) rfl rfl rfl) ?_
    rintro _ _ _ ⟨rfl, rfl⟩
    refine SL.nil <| T.pub B85 (by repeat constructor) ?_
    intro X5 hX5 hB85 _
    refine T.retM1S [_] _ rfl (ResIs.cell rfl ty27 (by repeat constructor) rfl) (.cons _ (.cons _ (.cons_cons _ (List.sublist_append_right _ _)))) (List.Perm.refl _) ?_
    exact ⟨hXX.trans' hX5, _, rfl, _, rfl, fmLeaf (op := 5) (ints1 hB85), rfl⟩
  · have hcr : cntR (nx p q) m = maskR m 6 := if_neg he
    have hlp := List.length_pos_iff.2 he
    rw [hcr]
    refine T.seq <| T.seq <| T.region <| SL.mv rfl <| SL.mv rfl <| SL.v (op_leqF rfl rfl (by omega)) ?_
    refine SL.nil <| T.condF rfl ?_
    refine T.exit (T.exitCode (T.exitCut (T.exitBlk ?_)))
    refine T.seq <| T.seq <| T.region <| SL.v (op_fieldAddr fa27_2 rfl) <| SL.v (op_load ty24 rfl (by repeat constructor) rfl) ?_
    refine SL.v (op_lenS Tryz.underlying24 rfl) <| SL.v (op_eqlF rfl rfl (by omega)) ?_
    refine SL.nil <| T.condF rfl <| T.skip <| T.seq <| T.region <| SL.v (op_load ty27 rfl (by repeat constructor) rfl) ?_
    refine SL.w (op_store ty27 rfl rfl (by repeat constructor) rfl rfl rfl) ?_
    rintro _ _ _ ⟨rfl, rfl⟩
    refine SL.nil <| T.perm perm3o ?_
    refine T.pubG (own0 := _ :: _ :: _ :: own0) hG ?_
    intro X5 hX5 hS5
    refine T.retM1S [_] _ rfl (ResIs.cell rfl ty27 (by repeat constructor) rfl) (.cons _ (.cons _ (.refl _))) (List.Perm.refl _) ?_
    exact ⟨hXX.trans' hX5, _, rfl, _, rfl, fmLeaf (op := 5) (IntsR.ofG hG hS5), rfl⟩
end Go.Proofs.YtnpcilglilfajaaGreatDoor
namespace Go.Proofs.YtnpcilglilfajaaGreatDoor
section
set_option maxRecDepth 100000
theorem en141 : Enters Tryz.prog 141 := enters_mk Tryz.func141 (by kernel_rfl) rfl
theorem en89 : Enters Tryz.prog 89 := enters_mk Tryz.func89 (by kernel_rfl) rfl
theorem en91 : Enters Tryz.prog 91 := enters_mk Tryz.func91 (by kernel_rfl) rfl
end
open Go.RowKit
def rdBody (f : Int → List Nat → Fm × Int × List Nat) (e : Int) (bs : List Nat) : Fm × Int × List Nat :=
  (.mk (rdOp e bs).1 ((rdN e bs).1 : Int) (rdR e bs).1 (rdAs f (rdA e bs).1 (rdA e bs).2.1 (rdA e bs).2.2).1, (rdAs f (rdA e bs).1 (rdA e bs).2.1 (rdA e bs).2.2).2)
theorem rd_errs {e : Int} {bs : List Nat} (h : e ≠ 0) : rdOp e bs = (0, e, bs) ∧ rdN e bs = (0, e, bs) ∧ rdK e bs = (0, e, bs) ∧ rdR e bs = ([], e, bs) ∧ rdA e bs = (0, e, bs) := by
  have a : rdOp e bs = (0, e, bs) := rdU_err h
  have b : rdN e bs = (0, e, bs) := by rw [rdN, a]; exact rdU_err h
  have c : rdK e bs = (0, e, bs) := by rw [rdK, b]; exact rdU_err h
  have d : rdR e bs = ([], e, bs) := by rw [rdR, c]; rfl
  exact ⟨a, b, c, d, by rw [rdA, d]; exact rdU_err h⟩
def err0 (d : Nat) (e : Int) : Int := if d = 0 then (if e = 0 then 6 else e) else e
theorem rdF_body (d : Nat) (e : Int) (bs : List Nat) : rdF d e bs = rdBody (rdF (d - 1)) (err0 d e) bs := by
  cases d with
  | succ d => rfl
  | zero =>
    have he : err0 0 e ≠ 0 := by unfold err0; rw [if_pos rfl]; split <;> omega
    obtain ⟨a, b, _, c, g⟩ := rd_errs (bs := bs) he
    rw [rdBody, a, b, c, g]
    rfl
section
variable {X : PMap} {b : Nat} {sv : Value} {e : Int}
theorem rnumJ {bs : List Nat} (h : CutR X sv bs) (hl : bs.length < 1000000) {most : Nat} (hm : most < 1000000000) : SpecM Tryz.prog 89 [.pointer (some ⟨b, 0, none⟩), .int .i64 (most : Int)] X [RdO b sv e] fun u L' X' => ∃ x', L' = [x'] ∧ ∃ sv', u = .int .i64 ((rdU 2 most e bs).1 : Int) ∧ x' = RdO b sv' (rdU 2 most e bs).2.1 ∧ CutR X' sv' (rdU 2 most e bs).2.2 := by
  refine SpecM.mono (rnum_spec h hl hm) ?_
  rintro _ _ _ _ ⟨rfl, sv', rfl, h'⟩
  exact ⟨_, rfl, sv', rfl, rfl, h'⟩
theorem rcntJ {bs : List Nat} (h : CutR X sv bs) (hl : bs.length < 1000000) {most : Nat} (hm : most < 1000000000) : SpecM Tryz.prog 141 [.pointer (some ⟨b, 0, none⟩), .int .i64 (most : Int)] X [RdO b sv e] fun u L' X' => ∃ x', L' = [x'] ∧ ∃ sv', u = .int .i64 ((rdU 3 most e bs).1 : Int) ∧ x' = RdO b sv' (rdU 3 most e bs).2.1 ∧ CutR X' sv' (rdU 3 most e bs).2.2 := by
  refine SpecM.mono (rcount_spec h hl hm) ?_
  rintro _ _ _ _ ⟨rfl, sv', rfl, h'⟩
  exact ⟨_, rfl, sv', rfl, rfl, h'⟩
theorem rerrJ : SpecM Tryz.prog 142 [.pointer (some ⟨b, 0, none⟩)] X [RdO b sv e] fun u L' _ => ∃ x', L' = [x'] ∧ u = .int .i64 e ∧ x' = RdO b sv e := by
  refine SpecM.mono rerr_spec ?_
  rintro _ _ _ _ ⟨rfl, rfl⟩
  exact ⟨_, rfl, rfl, rfl⟩
theorem rfailJ (c : Int) : SpecM Tryz.prog 140 [.pointer (some ⟨b, 0, none⟩), .int .i64 c] X [RdO b sv e] fun _ L' _ => ∃ x', L' = [x'] ∧ x' = RdO b sv (if e = 0 then c else e) := by
  refine SpecM.mono (rfail_spec c) ?_
  rintro _ _ _ _ rfl
  exact ⟨_, rfl, rfl⟩
end
theorem drop_len {bs bs' : List Nat} {n : Nat} (h : ∃ j, bs' = bs.drop j) (hl : bs.length < n) : bs'.length < n := by
  obtain ⟨j, rfl⟩ := h
  rw [List.length_drop]; omega
theorem read_spec (d : Nat) : ∀ {X : PMap} {b : Nat} {sv : Value} {e : Int} {bs : List Nat}, CutR X sv bs → bs.length < 1000000 → d ≤ 100 → SpecM Tryz.prog 91 [.pointer (some ⟨b, 0, none⟩), .int .i64 (d : Int)] X [RdO b sv e] fun u L' X' => ∃ x', L' = [x'] ∧ ∃ r : Row4, u = .agg #[r.1, r.2.1, r.2.2.1, r.2.2.2] ∧ FmR .u8 X' (rdF d e bs).1 r ∧ ∃ sv', x' = RdO b sv' (rdF d e bs).2.1 ∧ CutR X' sv' (rdF d e bs).2.2 := by
  induction d using Nat.strongRecOn with
  | _ d ih =>
  intro X b sv e bs h hl hd
  have hmx : maxLen = 9223372036854775807 := rfl
  rw [rdF_body]
  obtain ⟨e1, he1⟩ : ∃ e1, e1 = err0 d e := ⟨_, rfl⟩
  have hd0 : d = 0 → e1 ≠ 0 := fun h0 => by rw [he1]; unfold err0; rw [if_pos h0]; split <;> omega
  rw [← he1]
  refine SpecM.enter Tryz.func91 rfl Tryz.ntmps91 rfl ?_
  intro w0 X0 own0
  refine T.seq <| T.region <| SL.w (op_alloc z36) ?_
  rintro _ _ _ ⟨B4, rfl, rfl, rfl⟩
  refine SL.nil <| T.seq <| T.meet (fun _ env own X' => X.le X' ∧ env = [(0, .pointer (some ⟨b, 0, none⟩)), (1, .int .i64 (d : Int)), (4, .pointer (some ⟨B4, 0, none⟩))] ∧ own = S3F B4 0 0 (.slice none 0 0) (.slice none 0 0) :: RdO b sv e1 :: own0) ?_ ?_
  · by_cases h0 : d = 0
    · have : e1 = if e = 0 then 6 else e := by rw [he1, err0, if_pos h0]
      refine T.seq <| T.region <| SL.mv rfl <| SL.v (op_eqlT rfl rfl (by omega)) ?_
      refine SL.nil <| T.condT rfl <| T.region <| SL.mv rfl <| SL.w (op_callJ en140 rfl (vs := [_, _]) rfl (rfailJ 6) (by repeat constructor)) ?_
      rintro _ _ X1 ⟨_, rfl, hX1, rfl⟩
      refine SL.nil ?_
      exact T.backW 0 (by omega) ⟨hX1, rfl, by rw [this]; rfl⟩ (by repeat (first | exact Sub.nil | refine Sub.cons rfl ?_))
    · have : e1 = e := by rw [he1, err0, if_neg h0]
      subst this
      refine T.seq <| T.region <| SL.mv rfl <| SL.v (op_eqlF rfl rfl (by omega)) ?_
      refine SL.nil <| T.condF rfl <| T.skip ?_
      exact T.backW 0 (by omega) ⟨PMap.le_refl _, rfl, rfl⟩ (by repeat (first | exact Sub.nil | refine Sub.cons rfl ?_))
  rintro _ _ _ X1 ⟨hX1, rfl, rfl⟩
  clear he1
  have l1 : (rdOp e1 bs).2.2.length < 1000000 := drop_len rdU_sub hl
  have l2 : (rdN e1 bs).2.2.length < 1000000 := drop_len rdU_sub l1
  have l3 : (rdK e1 bs).2.2.length < 1000000 := drop_len rdU_sub l2
  have l4 : (rdR e1 bs).2.2.length < 1000000 := drop_len rdRs_sub l3
  have l5 : (rdA e1 bs).2.2.length < 1000000 := drop_len rdU_sub l4
  have m1 : (rdOp e1 bs).1 ≤ 16 := rdU_le
  have m2 : (rdN e1 bs).1 ≤ 999999 := rdU_le
  have m3 : (rdK e1 bs).1 ≤ 8 := rdU_le
  have m4 : (rdA e1 bs).1 ≤ 2 := rdU_le
  refine T.seq <| T.region <| SL.mv rfl <| SL.w (op_callJ en89 rfl (vs := [_, _]) rfl (rnumJ (h.mono hX1) hl (most := 16) (by decide)) (by repeat constructor)) ?_
  rintro _ _ X2 ⟨_, rfl, hX2, sv2, rfl, rfl, h2⟩
  refine SL.perm (own' := S3F B4 0 0 (.slice none 0 0) (.slice none 0 0) :: RdO b sv2 (rdOp e1 bs).2.1 :: own0) (List.Perm.refl _) ?_
  have h2 : CutR X2 sv2 (rdOp e1 bs).2.2 := h2
  refine SL.v (op_convU8 (p := ((rdOp e1 bs).1 : Int)) Tryz.underlying3 Tryz.underlying33 rfl (by omega) (by omega)) ?_
  refine SL.v (op_build st36 (qs := [(0, _)]) rfl rfl) <| SL.w (op_alloc z36) ?_
  rintro _ _ _ ⟨B5, rfl, rfl, rfl⟩
  refine SL.w (op_store ty36 rfl rfl (by repeat constructor) rfl rfl rfl) ?_
  rintro _ _ _ ⟨rfl, rfl⟩
  refine SL.nil <| T.seq <| T.region <| SL.mv rfl <| SL.w (op_callJ en89 rfl (vs := [_, _]) rfl (rnumJ h2 l1 (most := 999999) (by decide)) (by repeat constructor)) ?_
  rintro _ _ X3 ⟨_, rfl, hX3, sv3, rfl, rfl, h3⟩
  refine SL.perm (own' := S3F B5 (rdOp e1 bs).1 0 (.slice none 0 0) (.slice none 0 0) :: S3F B4 0 0 (.slice none 0 0) (.slice none 0 0) :: RdO b sv3 (rdN e1 bs).2.1 :: own0) (List.Perm.refl _) ?_
  have h3 : CutR X3 sv3 (rdN e1 bs).2.2 := h3
  refine SL.v (op_fieldAddr fa36_1 rfl) <| SL.w (op_store ty3 rfl rfl (by repeat constructor) rfl rfl rfl) ?_
  rintro _ _ _ ⟨rfl, rfl⟩
  refine SL.nil <| T.seq <| T.meet (fun _ env own X' => ∃ (sv' vn : Value) (G : Own), X3.le X' ∧ CutR X' sv' (rdR e1 bs).2.2 ∧ GrowS 3 1 vn (rdR e1 bs).1.length (ints (rdR e1 bs).1) G ∧ (rdR e1 bs).1.length ≤ 8 ∧ env = [(0, .pointer (some ⟨b, 0, none⟩)), (1, .int .i64 (d : Int)), (4, .pointer (some ⟨B4, 0, none⟩)), (5, .pointer (some ⟨B5, 0, none⟩))] ∧ own = S3F B5 (rdOp e1 bs).1 ((rdN e1 bs).1 : Int) vn (.slice none 0 0) :: S3F B4 0 0 (.slice none 0 0) (.slice none 0 0) :: RdO b sv' (rdR e1 bs).2.1 :: (G ++ own0)) ?_ ?_
  · refine T.perm (own' := S3F B5 (rdOp e1 bs).1 ((rdN e1 bs).1 : Int) (.slice none 0 0) (.slice none 0 0) :: S3F B4 0 0 (.slice none 0 0) (.slice none 0 0) :: RdO b sv3 (rdN e1 bs).2.1 :: own0) (List.Perm.refl _) ?_
    refine T.seq <| T.region <| SL.mv rfl <| SL.w (op_callJ en141 rfl (vs := [_, _]) rfl (rcntJ h3 l2 (most := 8) (by decide)) (by repeat constructor)) ?_
    rintro _ _ X4 ⟨_, rfl, hX4, sv4, rfl, rfl, h4⟩
    have h4 : CutR X4 sv4 (rdK e1 bs).2.2 := h4
    refine SL.as rfl <| SL.nil <| T.block <| T.loopW (fun m env own X' => ∃ (q : Nat) (rs : List Nat) (e' : Int) (bs' : List Nat) (sv' vn : Value) (G : Own), q = m ∧ q + rs.length ≤ 8 ∧ rdR e1 bs = (rs ++ (rdRs q e' bs').1, (rdRs q e' bs').2) ∧ bs'.length < 1000000 ∧ X4.le X' ∧ CutR X' sv' bs' ∧ GrowS 3 1 vn rs.length (ints rs) G ∧ env = [(0, .pointer (some ⟨b, 0, none⟩)), (1, .int .i64 (d : Int)), (4, .pointer (some ⟨B4, 0, none⟩)), (5, .pointer (some ⟨B5, 0, none⟩)), (6, .int .i64 (q : Int))] ∧ own = S3F B5 (rdOp e1 bs).1 ((rdN e1 bs).1 : Int) vn (.slice none 0 0) :: S3F B4 0 0 (.slice none 0 0) (.slice none 0 0) :: RdO b sv' e' :: (G ++ own0)) ((rdK e1 bs).1) ⟨(rdK e1 bs).1, [], (rdK e1 bs).2.1, (rdK e1 bs).2.2, sv4, _, [], rfl, by simpa using m3, by rw [List.nil_append]; rfl, l3, PMap.le_refl _, h4, GrowS.nil, rfl, rfl⟩ (by repeat (first | exact Sub.nil | refine Sub.cons rfl ?_)) ?_
    rintro m _ _ X5 ⟨q, rs, e', bs', sv', vn, G, rfl, hq, hrd, hlb, hX5, hcut, hG, rfl, rfl⟩
    obtain ⟨An, cn, rfl⟩ := hG.form
    by_cases hgo : 0 < q ∧ e' = 0
    case pos =>
      obtain ⟨hq0, rfl⟩ := hgo
      obtain ⟨q, rfl⟩ : ∃ p, q = p + 1 := ⟨q - 1, by omega⟩
      rw [rdRs, if_neg (by simp)] at hrd
      simp only at hrd
      refine T.seq <| T.seq <| T.region <| SL.mv rfl <| SL.v (op_gtrT rfl rfl (by omega)) ?_
      refine SL.mv rfl <| SL.mv rfl <| SL.w (op_callJ en142 rfl (vs := [_]) rfl (rerrJ) (by repeat constructor)) ?_
      rintro _ _ X6 ⟨_, rfl, hX6, rfl, rfl⟩
      refine SL.v (op_eqlT rfl rfl (by omega)) ?_
      refine SL.v (op_pickT rfl rfl) <| SL.nil <| T.condT rfl <| T.skip <| T.seq <| T.block <| T.drawG (own0 := [_, _]) (by kernel_rfl) 5 [.t 0, .t 1, .t 2, .r 3, .r 4] (by kernel_rfl) ?_
      refine SD.take rfl panicBody (op_fieldAddr fa36_2 rfl) rfl rfl ?_
      refine SD.take rfl panicBody (op_load ty24 rfl (by repeat constructor) rfl) rfl rfl ?_
      refine SD.take rfl panicBody (op_move rfl) rfl rfl ?_
      refine SD.runK rfl (op_callJ en89 rfl (vs := [_, _]) rfl (rnumJ (hcut.mono hX6) hlb (most := 63) (by decide)) (by repeat constructor)) (by rintro _ _ _ ⟨_, rfl, hX, _⟩; exact ⟨fun p hp => show p ∈ [_, _] ++ _ from List.mem_append_left _ hp, hX⟩) rfl rfl ?_
      rintro _ _ X7 ⟨_, rfl, hX7, sv7, rfl, rfl, h7⟩
      refine SD.run rfl (op_buildSlice Tryz.underlying24 bs3 (qs := [(0, _)]) rfl rfl rfl rfl rfl) rfl rfl ?_
      rintro _ _ _ ⟨B34, rfl, rfl, rfl⟩
      refine SD.nil ?_
      show SL _ _ _ _ _ _ _ [_, _, _] _ _ _
      refine SL.perm perm4 ?_
      refine SL.w (op_appendGA (own0 := _ :: _ :: _ :: _ :: own0) (m := 1) sl24 rfl hG rfl (Src.ofOwn0 AtO.here rfl) (by intro y hy; have hy : y ∈ [Value.int _ _] := hy; simp only [List.mem_cons, List.not_mem_nil, or_false] at hy; rcases hy with rfl; rfl) (by omega) (by omega)) ?_
      rintro vn9 _ _ ⟨Gn9, rfl, rfl, hGn9⟩
      obtain ⟨An9, cn9, rfl⟩ := hGn9.form
      refine SL.v (op_fieldAddr fa36_2 rfl) <| SL.w (op_store ty24 rfl rfl (by repeat constructor) rfl rfl rfl) ?_
      rintro _ _ _ ⟨rfl, rfl⟩
      refine SL.nil <| T.blk <| T.region <| SL.mv rfl <| SL.v (op_subN (p := q + 1) (q := 1) rfl rfl (by omega) (by omega)) ?_
      rw [Nat.add_sub_cancel]
      refine SL.as rfl <| SL.nil <| T.less (List.sublist_cons_self _ _) ?_
      refine T.perm perm3o.symm ?_
      have hGn10 : GrowS 3 1 (.slice An9 (rs.length + 1) cn9) (rs ++ [(rdU 2 63 0 bs').1]).length (ints (rs ++ [(rdU 2 63 0 bs').1])) Gn9 := by
        rw [List.length_append, show ints (rs ++ [(rdU 2 63 0 bs').1]) = ints rs ++ ints [(rdU 2 63 0 bs').1] by simp [ints]]
        exact hGn9
      exact T.backW q (by omega) ⟨q, rs ++ [(rdU 2 63 0 bs').1], _, _, sv7, _, Gn9, rfl, by rw [List.length_append]; simp only [List.length_singleton]; omega, by rw [hrd]; simp, drop_len rdU_sub hlb, (hX5.trans' hX6).trans' hX7, h7, hGn10, rfl, rfl⟩ (by repeat (first | exact Sub.nil | refine Sub.cons rfl ?_))
    have hend : rdR e1 bs = (rs, e', bs') := by
      rw [hrd]
      rcases Nat.eq_zero_or_pos q with h0 | h0
      · subst h0; simp [rdRs]
      · rw [rdRs_err (fun h => hgo ⟨h0, h⟩)]; simp
    rcases Nat.eq_zero_or_pos q with h0 | h0
    · subst h0
      refine T.seq <| T.seq <| T.region <| SL.mv rfl <| SL.v (op_gtrF rfl rfl (by omega)) ?_
      refine SL.mv rfl <| SL.skip rfl rfl ?_
      refine SL.skip rfl rfl ?_
      refine SL.skip rfl rfl ?_
      refine SL.v (op_pickF rfl rfl) <| SL.nil <| T.condF rfl ?_
      refine T.exit (T.exitCode (T.exitCut (T.exitBlk ?_)))
      exact T.backW 0 (by omega) ⟨sv', _, G, hX4.trans' hX5, by rw [hend]; exact hcut, by rw [hend]; exact hG, by rw [hend]; exact (by omega : rs.length ≤ 8), rfl, by rw [hend]⟩ (by repeat (first | exact Sub.nil | refine Sub.cons rfl ?_))
    · have he' : e' ≠ 0 := fun h => hgo ⟨h0, h⟩
      refine T.seq <| T.seq <| T.region <| SL.mv rfl <| SL.v (op_gtrT rfl rfl (by omega)) ?_
      refine SL.mv rfl <| SL.mv rfl <| SL.w (op_callJ en142 rfl (vs := [_]) rfl (rerrJ) (by repeat constructor)) ?_
      rintro _ _ X6 ⟨_, rfl, hX6, rfl, rfl⟩
      refine SL.v (op_eqlF rfl rfl (by omega)) ?_
      refine SL.v (op_pickT rfl rfl) <| SL.nil <| T.condF rfl ?_
      refine T.exit (T.exitCode (T.exitCut (T.exitBlk ?_)))
      exact T.backW 0 (by omega) ⟨sv', _, G, (hX4.trans' hX5).trans' hX6, by rw [hend]; exact hcut.mono hX6, by rw [hend]; exact hG, by rw [hend]; exact (by omega : rs.length ≤ 8), rfl, by rw [hend]; rfl⟩ (by repeat (first | exact Sub.nil | refine Sub.cons rfl ?_))
  rintro _ _ _ X4 ⟨sv4, vn, Gn, hX4, h4, hGn, hr8, rfl, rfl⟩
  obtain ⟨An, cn, rfl⟩ := hGn.form
  have hX04 := ((hX1.trans' hX2).trans' hX3).trans' hX4
  refine T.perm perm3o ?_
  refine T.pubG (own0 := _ :: _ :: _ :: own0) hGn ?_
  intro X5 hX5 hS5
  have hN : IntsR X5 (.slice An (rdR e1 bs).1.length cn) (rdR e1 bs).1 := IntsR.ofG hGn hS5
  have h5 := h4.mono hX5
  have hd1 : d = 0 → (rdA e1 bs).2.1 ≠ 0 := fun h0 => by rw [(rd_errs (hd0 h0)).2.2.2.2]; exact hd0 h0
  refine T.seq <| T.meet (fun _ env own X' => ∃ (sv' va : Value) (Ga : Own) (rows : List Row4), X5.le X' ∧ CutR X' sv' (rdBody (rdF (d - 1)) e1 bs).2.2 ∧ GrowS 36 4 va rows.length (rows.map rc4).flatten Ga ∧ rows.length = (rdAs (rdF (d - 1)) (rdA e1 bs).1 (rdA e1 bs).2.1 (rdA e1 bs).2.2).1.length ∧ (∀ (q : Nat) (a : Fm) (r : Row4), (rdAs (rdF (d - 1)) (rdA e1 bs).1 (rdA e1 bs).2.1 (rdA e1 bs).2.2).1[q]? = some a → rows[q]? = some r → FmR .u8 X' a r) ∧ env = [(4, .pointer (some ⟨B4, 0, none⟩)), (5, .pointer (some ⟨B5, 0, none⟩))] ∧ own = S3F B5 (rdOp e1 bs).1 ((rdN e1 bs).1 : Int) (.slice An (rdR e1 bs).1.length cn) va :: S3F B4 0 0 (.slice none 0 0) (.slice none 0 0) :: RdO b sv' (rdBody (rdF (d - 1)) e1 bs).2.1 :: (Ga ++ own0)) ?_ ?_
  · refine T.seq <| T.region <| SL.mv rfl <| SL.w (op_callJ en141 rfl (vs := [_, _]) rfl (rcntJ h5 l4 (most := 2) (by decide)) (by repeat constructor)) ?_
    rintro _ _ X6 ⟨_, rfl, hX6, sv6, rfl, rfl, h6⟩
    have h6 : CutR X6 sv6 (rdA e1 bs).2.2 := h6
    refine SL.as rfl <| SL.nil <| T.block <| T.loopW (fun m env own X' => ∃ (q : Nat) (al : List Fm) (rows : List Row4) (e' : Int) (bs' : List Nat) (sv' va : Value) (G : Own), q = m ∧ q + rows.length ≤ 2 ∧ rows.length = al.length ∧ rdAs (rdF (d - 1)) (rdA e1 bs).1 (rdA e1 bs).2.1 (rdA e1 bs).2.2 = (al ++ (rdAs (rdF (d - 1)) q e' bs').1, (rdAs (rdF (d - 1)) q e' bs').2) ∧ bs'.length < 1000000 ∧ (d = 0 → e' ≠ 0) ∧ X5.le X' ∧ CutR X' sv' bs' ∧ GrowS 36 4 va rows.length (rows.map rc4).flatten G ∧ (∀ (q : Nat) (a : Fm) (r : Row4), al[q]? = some a → rows[q]? = some r → FmR .u8 X' a r) ∧ env = [(0, .pointer (some ⟨b, 0, none⟩)), (1, .int .i64 (d : Int)), (4, .pointer (some ⟨B4, 0, none⟩)), (5, .pointer (some ⟨B5, 0, none⟩)), (7, .int .i64 (q : Int))] ∧ own = S3F B5 (rdOp e1 bs).1 ((rdN e1 bs).1 : Int) (.slice An (rdR e1 bs).1.length cn) va :: S3F B4 0 0 (.slice none 0 0) (.slice none 0 0) :: RdO b sv' e' :: (G ++ own0)) ((rdA e1 bs).1) ⟨(rdA e1 bs).1, [], [], (rdA e1 bs).2.1, (rdA e1 bs).2.2, sv6, _, [], rfl, by simpa using m4, rfl, by rw [List.nil_append], l5, hd1, hX6, h6, GrowS.nil, (fun q a r h => by simp at h), rfl, rfl⟩ (by repeat (first | exact Sub.nil | refine Sub.cons rfl ?_)) ?_
    rintro m _ _ X7 ⟨q, al, rows, e', bs', sv', va, G, rfl, hq, hral, hrd, hlb, hde, hX7, hcut, hG, hrows, rfl, rfl⟩
    obtain ⟨Aa, ca, rfl⟩ := hG.form
    by_cases hgo : 0 < q ∧ e' = 0
    case pos =>
      obtain ⟨hq0, rfl⟩ := hgo
      have hd1 : d ≠ 0 := fun h => hde h rfl
      obtain ⟨q, rfl⟩ : ∃ p, q = p + 1 := ⟨q - 1, by omega⟩
      rw [rdAs, if_neg (by simp)] at hrd
      simp only at hrd
      refine T.seq <| T.seq <| T.region <| SL.mv rfl <| SL.v (op_gtrT rfl rfl (by omega)) ?_
      refine SL.mv rfl <| SL.mv rfl <| SL.w (op_callJ en142 rfl (vs := [_]) rfl (rerrJ) (by repeat constructor)) ?_
      rintro _ _ X8 ⟨_, rfl, hX8, rfl, rfl⟩
      refine SL.v (op_eqlT rfl rfl (by omega)) ?_
      refine SL.v (op_pickT rfl rfl) <| SL.nil <| T.condT rfl <| T.skip <| T.seq <| T.block <| T.drawG (own0 := [_, _]) (by kernel_rfl) 7 [.t 0, .t 1, .t 2, .t 3, .t 4, .r 5, .r 6] (by kernel_rfl) ?_
      refine SD.take rfl panicBody (op_fieldAddr fa36_3 rfl) rfl rfl ?_
      refine SD.take rfl panicBody (op_load ty34 rfl (by repeat constructor) rfl) rfl rfl ?_
      refine SD.take rfl panicBody (op_move rfl) rfl rfl ?_
      refine SD.take rfl panicBody (op_move rfl) rfl rfl ?_
      refine SD.take rfl panicBody (op_subN (p := d) (q := 1) rfl rfl (by omega) (by omega)) rfl rfl ?_
      refine SD.runK rfl (op_callJ en91 rfl (vs := [_, _]) rfl (ih (d - 1) (by omega) (hcut.mono hX8) hlb (by omega)) (by repeat constructor)) (by rintro _ _ _ ⟨_, rfl, hX, _⟩; exact ⟨fun p hp => show p ∈ [_, _] ++ _ from List.mem_append_left _ hp, hX⟩) rfl rfl ?_
      rintro _ _ X9 ⟨_, rfl, hX9, r9, rfl, hr9, sv9, rfl, h9⟩
      obtain ⟨o8, n8, a8, b8, l8, c8, l9, c9, rfl⟩ := hr9.form
      refine SD.run rfl (op_buildSlice Tryz.underlying34 bs36 (qs := [(0, _)]) rfl rfl rfl rfl rfl) rfl rfl ?_
      rintro _ _ _ ⟨B54, rfl, rfl, rfl⟩
      refine SD.nil ?_
      show SL _ _ _ _ _ _ _ [_, _, _] _ _ _
      refine SL.perm perm4 ?_
      refine SL.w (op_appendGA (own0 := _ :: _ :: _ :: _ :: own0) (m := 1) sl34 rfl hG rfl (Src.ofOwn0 AtO.here rfl) (by intro y hy; have hy : y ∈ [Value.int _ _, Value.int _ _, Value.slice _ _ _, Value.slice _ _ _] := hy; simp only [List.mem_cons, List.not_mem_nil, or_false] at hy; rcases hy with rfl | rfl | rfl | rfl <;> rfl) (by omega) (by omega)) ?_
      rintro va9 _ _ ⟨Ga9, rfl, rfl, hGa9⟩
      obtain ⟨Aa9, ca9, rfl⟩ := hGa9.form
      refine SL.v (op_fieldAddr fa36_3 rfl) <| SL.w (op_store ty34 rfl rfl (by repeat constructor) rfl rfl rfl) ?_
      rintro _ _ _ ⟨rfl, rfl⟩
      refine SL.nil <| T.blk <| T.region <| SL.mv rfl <| SL.v (op_subN (p := q + 1) (q := 1) rfl rfl (by omega) (by omega)) ?_
      rw [Nat.add_sub_cancel]
      refine SL.as rfl <| SL.nil <| T.less (List.sublist_cons_self _ _) ?_
      refine T.perm perm3o.symm ?_
      have hGa10 : GrowS 36 4 (.slice Aa9 (rows.length + 1) ca9) (rows ++ [((.int .u8 (o8 : Int), .int .i64 n8, .slice a8 l8 c8, .slice b8 l9 c9) : Row4)]).length (((rows ++ [((.int .u8 (o8 : Int), .int .i64 n8, .slice a8 l8 c8, .slice b8 l9 c9) : Row4)]).map rc4).flatten) Ga9 := by
        rw [List.length_append, List.map_append, List.flatten_append]
        exact hGa9
      exact T.backW q (by omega) ⟨q, al ++ [(rdF (d - 1) 0 bs').1], rows ++ [(.int .u8 (o8 : Int), .int .i64 n8, .slice a8 l8 c8, .slice b8 l9 c9)], _, _, sv9, _, Ga9, rfl, by rw [List.length_append]; simp only [List.length_singleton]; omega, by rw [List.length_append, List.length_append, hral]; rfl, by rw [hrd]; simp, drop_len (rdF_sub (d - 1) 0 bs') hlb, fun h => absurd h hd1, (hX7.trans' hX8).trans' hX9, h9, hGa10, rows_snoc2 hral.symm (fun q a r h1 h2 => ((hrows q a r h1 h2).mono hX8).mono hX9) hr9, rfl, rfl⟩ (by repeat (first | exact Sub.nil | refine Sub.cons rfl ?_))
    have hend : rdAs (rdF (d - 1)) (rdA e1 bs).1 (rdA e1 bs).2.1 (rdA e1 bs).2.2 = (al, e', bs') := by
      rw [hrd]
      rcases Nat.eq_zero_or_pos q with h0 | h0
      · subst h0; simp [rdAs]
      · rw [rdAs_err (fun h => hgo ⟨h0, h⟩)]; simp
    have hb1 : (rdBody (rdF (d - 1)) e1 bs).2 = (e', bs') := by rw [rdBody, hend]
    rcases Nat.eq_zero_or_pos q with h0 | h0
    · subst h0
      refine T.seq <| T.seq <| T.region <| SL.mv rfl <| SL.v (op_gtrF rfl rfl (by omega)) ?_
      refine SL.mv rfl <| SL.skip rfl rfl ?_
      refine SL.skip rfl rfl ?_
      refine SL.skip rfl rfl ?_
      refine SL.v (op_pickF rfl rfl) <| SL.nil <| T.condF rfl ?_
      refine T.exit (T.exitCode (T.exitCut (T.exitBlk ?_)))
      exact T.backW 0 (by omega) ⟨sv', _, G, rows, hX7, by rw [hb1]; exact hcut, hG, by rw [hend]; exact hral, by rw [hend]; exact hrows, rfl, by rw [hb1]⟩ (by repeat (first | exact Sub.nil | refine Sub.cons rfl ?_))
    · have he' : e' ≠ 0 := fun h => hgo ⟨h0, h⟩
      refine T.seq <| T.seq <| T.region <| SL.mv rfl <| SL.v (op_gtrT rfl rfl (by omega)) ?_
      refine SL.mv rfl <| SL.mv rfl <| SL.w (op_callJ en142 rfl (vs := [_]) rfl (rerrJ) (by repeat constructor)) ?_
      rintro _ _ X8 ⟨_, rfl, hX8, rfl, rfl⟩
      refine SL.v (op_eqlF rfl rfl (by omega)) ?_
      refine SL.v (op_pickT rfl rfl) <| SL.nil <| T.condF rfl ?_
      refine T.exit (T.exitCode (T.exitCut (T.exitBlk ?_)))
      exact T.backW 0 (by omega) ⟨sv', _, G, rows, hX7.trans' hX8, by rw [hb1]; exact hcut.mono hX8, hG, by rw [hend]; exact hral, by rw [hend]; exact (fun q a r h1 h2 => (hrows q a r h1 h2).mono hX8), rfl, by rw [hb1]; rfl⟩ (by repeat (first | exact Sub.nil | refine Sub.cons rfl ?_))
  rintro _ _ _ X6 ⟨sv6, va, Ga, rows, hX6, h6, hGa, hral, hrows, rfl, rfl⟩
  obtain ⟨Aa, ca, rfl⟩ := hGa.form
  refine T.seq <| T.region <| SL.v (op_load ty36 rfl (by repeat constructor) rfl) ?_
  refine SL.w (op_store ty36 rfl rfl (by repeat constructor) rfl rfl rfl) ?_
  rintro _ _ _ ⟨rfl, rfl⟩
  refine SL.nil <| T.perm perm3o ?_
  refine T.pubG (own0 := _ :: _ :: _ :: own0) hGa ?_
  intro X7 hX7 hS7
  refine T.retM1S [_] _ rfl (ResIs.cell rfl ty36 (by repeat constructor) rfl) (.cons _ (.cons _ (.refl _))) (List.Perm.refl _) ?_
  exact ⟨((hX04.trans' hX5).trans' hX6).trans' hX7, _, rfl, (.int .u8 ((rdOp e1 bs).1 : Int), .int .i64 ((rdN e1 bs).1 : Int), .slice An (rdR e1 bs).1.length cn, .slice Aa rows.length ca), rfl, .mk ((hN.mono hX6).mono hX7) (RowR.ofG hGa hS7) hral (fun q a r h1 h2 => (hrows q a r h1 h2).mono hX7), sv6, rfl, h6.mono hX7⟩
end Go.Proofs.YtnpcilglilfajaaGreatDoor
namespace Go.Proofs.YtnpcilglilfajaaGreatDoor
open Go.RowKit
end Go.Proofs.YtnpcilglilfajaaGreatDoor
namespace Go.Proofs.YtnpcilglilfajaaGreatDoor
open Go.RowKit
structure Cf where
  enf : Bool
  kind : Nat
  name : ByteArray
  fm : Fm
/-- Constraints over role numbers in memory. -/
def CfR (X : PMap) (c : Cf) (r : Row7) : Prop := r.1 = c.enf ∧ r.2.1 = c.kind ∧ r.2.2.1 = c.name ∧ FmR .u8 X c.fm r.2.2.2
theorem CfR.mono {X X' : PMap} {c : Cf} {r : Row7} (h : CfR X c r) (hX : X.le X') : CfR X' c r := ⟨h.1, h.2.1, h.2.2.1, h.2.2.2.mono hX⟩
theorem CfR.form {X : PMap} {c : Cf} {r : Row7} (h : CfR X c r) : ∃ (o : Nat) (n : Int) (A B : Option Addr) (l c1 l' c' : Nat), r = (c.enf, c.kind, c.name, .int .u8 (o : Int), .int .i64 n, .slice A l c1, .slice B l' c') := by
  obtain ⟨e, k, s, r4⟩ := r
  obtain ⟨h1, h2, h3, h4⟩ := h
  simp only at h1 h2 h3 h4
  subst h1 h2 h3
  obtain ⟨o, n, A, B, l, c1, l', c', rfl⟩ := h4.form
  exact ⟨_, _, _, _, _, _, _, _, rfl⟩
def CfsR (X : PMap) (v : Value) (cs : List Cf) : Prop := ∃ rows : List Row7, RowR rc7 X v rows ∧ rows.length = cs.length ∧ ∀ (i : Nat) (c : Cf) (r : Row7), cs[i]? = some c → rows[i]? = some r → CfR X c r
theorem CfsR.mono {X X' : PMap} {v : Value} {cs : List Cf} (h : CfsR X v cs) (hX : X.le X') : CfsR X' v cs :=
  let ⟨rows, h1, h2, h3⟩ := h
  ⟨rows, h1.mono hX, h2, fun i c r a b => (h3 i c r a b).mono hX⟩
theorem CfsR.nil {X : PMap} {A : Option Addr} {c : Nat} : CfsR X (.slice A 0 c) [] := ⟨[], .inl ⟨rfl, _, _, rfl⟩, rfl, fun i c r h => by simp at h⟩
def CfRi (X : PMap) (c : Cf) (r : Row7) : Prop := r.1 = c.enf ∧ r.2.1 = c.kind ∧ r.2.2.1 = c.name ∧ FmR .i64 X c.fm r.2.2.2
theorem CfRi.mono {X X' : PMap} {c : Cf} {r : Row7} (h : CfRi X c r) (hX : X.le X') : CfRi X' c r := ⟨h.1, h.2.1, h.2.2.1, h.2.2.2.mono hX⟩
theorem CfRi.form {X : PMap} {c : Cf} {r : Row7} (h : CfRi X c r) : ∃ (o : Nat) (n : Int) (A B : Option Addr) (l c1 l' c' : Nat), r = (c.enf, c.kind, c.name, .int .i64 (o : Int), .int .i64 n, .slice A l c1, .slice B l' c') := by
  obtain ⟨e, k, s, r4⟩ := r
  obtain ⟨h1, h2, h3, h4⟩ := h
  simp only at h1 h2 h3 h4
  subst h1 h2 h3
  obtain ⟨o, n, A, B, l, c1, l', c', rfl⟩ := h4.form
  exact ⟨_, _, _, _, _, _, _, _, rfl⟩
def CfsRi (X : PMap) (v : Value) (cs : List Cf) : Prop := ∃ rows : List Row7, RowR rc7i X v rows ∧ rows.length = cs.length ∧ ∀ (i : Nat) (c : Cf) (r : Row7), cs[i]? = some c → rows[i]? = some r → CfRi X c r
theorem CfsRi.mono {X X' : PMap} {v : Value} {cs : List Cf} (h : CfsRi X v cs) (hX : X.le X') : CfsRi X' v cs :=
  let ⟨rows, h1, h2, h3⟩ := h
  ⟨rows, h1.mono hX, h2, fun i c r a b => (h3 i c r a b).mono hX⟩
theorem CfsRi.nil {X : PMap} {A : Option Addr} {c : Nat} : CfsRi X (.slice A 0 c) [] := ⟨[], .inl ⟨rfl, _, _, rfl⟩, rfl, fun i c r h => by simp at h⟩
end Go.Proofs.YtnpcilglilfajaaGreatDoor
namespace Go.Proofs.YtnpcilglilfajaaGreatDoor
section
set_option maxRecDepth 100000
theorem en87 : Enters Tryz.prog 87 := enters_mk Tryz.func87 (by kernel_rfl) rfl
theorem en88 : Enters Tryz.prog 88 := enters_mk Tryz.func88 (by kernel_rfl) rfl
theorem en90 : Enters Tryz.prog 90 := enters_mk Tryz.func90 (by kernel_rfl) rfl
theorem en92 : Enters Tryz.prog 92 := enters_mk Tryz.func92 (by kernel_rfl) rfl
end
open Go.RowKit
def zeC : Cf := ⟨false, 0, ⟨#[]⟩, zeF⟩
def rcK (bs : List Nat) : Nat × Int × List Nat := rdU 2 3 (rdFlag 0 bs).2.1 (rdFlag 0 bs).2.2
def rcN (bs : List Nat) : List Nat × Int × List Nat := rdByt 12 (rcK bs).2.1 (rcK bs).2.2
def rcF (bs : List Nat) : Fm × Int × List Nat := rdF 10 (rcN bs).2.1 (rcN bs).2.2
def rdCf (bs : List Nat) : Cf := ⟨(rdFlag 0 bs).1, (rcK bs).1, strB8 (rcN bs).1, (rcF bs).1⟩
noncomputable def readM (bs : List Nat) : Cf × Int := if endE (rcF bs).2.1 (rcF bs).2.2 ≠ 0 ∨ chkC18 (rcK bs).1 (strB8 (rcN bs).1) (rcF bs).1 ≠ 0 then (zeC, 6) else (rdCf bs, 0)
theorem rdFlag_sub (e : Int) (bs : List Nat) : ∃ j, (rdFlag e bs).2.2 = bs.drop j := by
  unfold rdFlag
  split
  · exact ⟨0, rfl⟩
  · split
    · exact ⟨0, rfl⟩
    · split
      · exact ⟨0, rfl⟩
      · exact ⟨1, rfl⟩
theorem rdByt_sub (most : Nat) (e : Int) (bs : List Nat) : ∃ j, (rdByt most e bs).2.2 = bs.drop j := by
  unfold rdByt
  split
  · exact ⟨0, rfl⟩
  · split
    · exact ⟨0, rfl⟩
    · split
      · exact ⟨0, rfl⟩
      · split
        · exact ⟨0, rfl⟩
        · exact ⟨_, by simp only; rw [List.drop_drop]⟩
theorem rdAs_wt {f : Int → List Nat → Fm × Int × List Nat} {w : Nat} (hf : ∀ e bs, wtF (f e bs).1 ≤ w) : ∀ (k : Nat) (e : Int) (bs : List Nat), wtFL (rdAs f k e bs).1 ≤ k * w
  | 0, _, _ => by simp [rdAs, wtFL]
  | k + 1, e, bs => by
    by_cases he : e ≠ 0
    · rw [rdAs_err he, wtFL]; exact Nat.zero_le _
    · rw [rdAs, if_neg he]
      simp only
      have h1 := hf e bs
      have h2 := rdAs_wt hf k (f e bs).2.1 (f e bs).2.2
      rw [wtFL, Nat.add_mul]; omega
theorem rdRs_len : ∀ (k : Nat) (e : Int) (bs : List Nat), (rdRs k e bs).1.length ≤ k
  | 0, _, _ => Nat.le_refl _
  | k + 1, e, bs => by
    by_cases he : e ≠ 0
    · rw [rdRs_err he]; exact Nat.zero_le _
    · rw [rdRs, if_neg he]
      have := rdRs_len k (rdU 2 63 e bs).2.1 (rdU 2 63 e bs).2.2
      simp only [List.length_cons]; omega
theorem rdF_wt : ∀ (d : Nat) (e : Int) (bs : List Nat), wtF (rdF d e bs).1 + 9 ≤ 10 * 2 ^ d
  | 0, _, _ => by show 1 + 9 ≤ 10 * 1; omega
  | d + 1, e, bs => by
    have h1 : (rdK e bs).1 ≤ 8 := rdU_le
    have h2 : (rdR e bs).1.length ≤ (rdK e bs).1 := rdRs_len _ _ _
    have h3 : (rdA e bs).1 ≤ 2 := rdU_le
    have hp : 1 ≤ 2 ^ d := Nat.one_le_two_pow
    have h4 := rdAs_wt (f := rdF d) (w := 10 * 2 ^ d - 9) (fun e bs => by have := rdF_wt d e bs; omega) (rdA e bs).1 (rdA e bs).2.1 (rdA e bs).2.2
    have h5 : (rdA e bs).1 * (10 * 2 ^ d - 9) ≤ 2 * (10 * 2 ^ d - 9) := Nat.mul_le_mul_right _ h3
    rw [rdF]
    simp only
    rw [wtF, Nat.pow_succ]
    omega
section
variable {X : PMap} {b : Nat} {sv : Value} {e : Int}
theorem rflagJ {bs : List Nat} (h : CutR X sv bs) (hl : bs.length < 1000000) : SpecM Tryz.prog 88 [.pointer (some ⟨b, 0, none⟩)] X [RdO b sv e] fun u L' X' => ∃ x', L' = [x'] ∧ ∃ sv', u = .bool (rdFlag e bs).1 ∧ x' = RdO b sv' (rdFlag e bs).2.1 ∧ CutR X' sv' (rdFlag e bs).2.2 := by
  refine SpecM.mono (rflag_spec h hl) ?_
  rintro _ _ _ _ ⟨rfl, sv', rfl, h'⟩
  exact ⟨_, rfl, sv', rfl, rfl, h'⟩
theorem rstrJ {bs : List Nat} (h : CutR X sv bs) (hl : bs.length < 1000000) {most : Nat} (hm : most < 1000000000) : SpecM Tryz.prog 90 [.pointer (some ⟨b, 0, none⟩), .int .i64 (most : Int)] X [RdO b sv e] fun u L' X' => ∃ x', L' = [x'] ∧ ∃ sv', u = .string (strB8 (rdByt most e bs).1) ∧ x' = RdO b sv' (rdByt most e bs).2.1 ∧ CutR X' sv' (rdByt most e bs).2.2 := by
  refine SpecM.mono (rstr_spec h hl hm) ?_
  rintro _ _ _ _ ⟨rfl, sv', rfl, h'⟩
  exact ⟨_, rfl, sv', rfl, rfl, h'⟩
theorem rendJ {bs : List Nat} (h : CutR X sv bs) : SpecM Tryz.prog 92 [.pointer (some ⟨b, 0, none⟩)] X [RdO b sv e] fun u L' _ => ∃ x', L' = [x'] ∧ u = .int .i64 (endE e bs) ∧ x' = RdO b sv e := by
  refine SpecM.mono (rend_spec h) ?_
  rintro _ _ _ _ ⟨rfl, rfl⟩
  exact ⟨_, rfl, rfl, rfl⟩
end
abbrev ConO (b : Nat) (enf : Bool) (kind : Nat) (name : ByteArray) (r : Row4) : Ow := ⟨b, [.bool enf, .int .u8 (kind : Int), .string name, r.1, r.2.1, r.2.2.1, r.2.2.2], 101, 7⟩
abbrev zr4 : Row4 := (.int .u8 0, .int .i64 0, .slice none 0 0, .slice none 0 0)
theorem readC_spec {X : PMap} {v : Value} {bs : List Nat} (h : BytesR X v bs) (hl : bs.length < 1000000) (hb : ∀ b ∈ bs, b < 256) : Spec Tryz.prog 45 [v] X fun u X' => ∃ r : Row7, u = .tuple #[.agg (rc7 r).toArray, .int .i64 (readM bs).2] ∧ CfR X' (readM bs).1 r := by
  have l1 : (rdFlag 0 bs).2.2.length < 1000000 := drop_len (rdFlag_sub 0 bs) hl
  have l2 : (rcK bs).2.2.length < 1000000 := drop_len rdU_sub l1
  have l3 : (rcN bs).2.2.length < 1000000 := drop_len (rdByt_sub _ _ _) l2
  have m2 : (rcK bs).1 ≤ 3 := rdU_le
  have hw := rdF_wt 10 (rcN bs).2.1 (rcN bs).2.2
  have hw2 : wtF (rcF bs).1 < 20000 := by rw [rcF]; omega
  obtain ⟨A, cp, rfl⟩ := h.form
  refine Spec.enter Tryz.func45 rfl Tryz.ntmps45 rfl ?_
  intro w0 hw0
  refine T.seq <| T.region <| SL.w (op_alloc z101) ?_
  rintro _ _ _ ⟨B2, rfl, rfl, rfl⟩
  refine SL.v (op_assign (v := .int .i64 ((0 : Nat) : Int)) rfl) <| SL.nil <| T.seq <| T.region <| SL.mv rfl <| SL.w (op_callO en87 (vs := [_]) rfl (newR_spec h hl hb)) ?_
  rintro _ _ X1 ⟨_, rfl, hX1, br, sv1, rfl, rfl, h1⟩
  refine SL.perm (own' := [RdO br sv1 0, ⟨B2, [.bool false, .int .u8 0, .string ⟨#[]⟩, .int .u8 0, .int .i64 0, .slice none 0 0, .slice none 0 0], 101, 7⟩]) (List.Perm.of_eq rfl) ?_
  refine SL.as rfl <| SL.nil <| T.seq <| T.region <| SL.mv rfl <| SL.w (op_callJ en88 rfl (vs := [_]) rfl (rflagJ h1 hl) (by repeat constructor)) ?_
  rintro _ _ X2 ⟨_, rfl, hX2, sv2, rfl, rfl, h2⟩
  refine SL.v (op_build st101 (qs := [(0, _)]) rfl rfl) <| SL.w (op_alloc z101) ?_
  rintro _ _ _ ⟨B5, rfl, rfl, rfl⟩
  refine SL.w (op_store ty101 rfl rfl (by repeat constructor) rfl rfl rfl) ?_
  rintro _ _ _ ⟨rfl, rfl⟩
  refine SL.nil <| T.seq <| T.region <| SL.mv rfl <| SL.perm (own' := [ConO B5 (rdFlag 0 bs).1 0 ⟨#[]⟩ zr4, RdO br sv2 (rdFlag 0 bs).2.1, ConO B2 false 0 ⟨#[]⟩ zr4]) (List.Perm.of_eq rfl) ?_
  refine SL.w (op_callJ en89 rfl (vs := [_, _]) rfl (rnumJ h2 l1 (most := 3) (by decide)) (by repeat constructor)) ?_
  rintro _ _ X3 ⟨_, rfl, hX3, sv3, rfl, rfl, h3⟩
  have h3 : CutR X3 sv3 (rcK bs).2.2 := h3
  refine SL.v (op_convU8 (p := ((rcK bs).1 : Int)) Tryz.underlying3 Tryz.underlying41 rfl (by omega) (by omega)) ?_
  refine SL.v (op_fieldAddr fa101_1 rfl) <| SL.w (op_store ty41 rfl rfl (by repeat constructor) rfl rfl rfl) ?_
  rintro _ _ _ ⟨rfl, rfl⟩
  refine SL.nil <| T.seq <| T.region <| SL.mv rfl <| SL.perm (own' := [ConO B5 (rdFlag 0 bs).1 (rcK bs).1 ⟨#[]⟩ zr4, RdO br sv3 (rcK bs).2.1, ConO B2 false 0 ⟨#[]⟩ zr4]) (List.Perm.of_eq rfl) ?_
  refine SL.w (op_callJ en90 rfl (vs := [_, _]) rfl (rstrJ h3 l2 (most := 12) (by decide)) (by repeat constructor)) ?_
  rintro _ _ X4 ⟨_, rfl, hX4, sv4, rfl, rfl, h4⟩
  have h4 : CutR X4 sv4 (rcN bs).2.2 := h4
  refine SL.v (op_fieldAddr fa101_2 rfl) <| SL.w (op_store ty9 rfl rfl (by repeat constructor) rfl rfl rfl) ?_
  rintro _ _ _ ⟨rfl, rfl⟩
  refine SL.nil <| T.seq <| T.region <| SL.mv rfl <| SL.perm (own' := [ConO B5 (rdFlag 0 bs).1 (rcK bs).1 (strB8 (rcN bs).1) zr4, RdO br sv4 (rcN bs).2.1, ConO B2 false 0 ⟨#[]⟩ zr4]) (List.Perm.of_eq rfl) ?_
  refine SL.w (op_callJ en91 rfl (vs := [_, _]) rfl (read_spec 10 h4 l3 (by decide)) (by repeat constructor)) ?_
  rintro _ _ X5 ⟨_, rfl, hX5, r5, rfl, hr5, sv5, rfl, h5⟩
  have hr5 : FmR .u8 X5 (rcF bs).1 r5 := hr5
  have h5 : CutR X5 sv5 (rcF bs).2.2 := h5
  have hcc := fun {X' : PMap} (hX : X5.le X') => conchk_spec (enf := (rdFlag 0 bs).1) (kind := (rcK bs).1) (name := strB8 (rcN bs).1) (by omega) (by omega) (hr5.mono hX)
  have hr5' := hr5
  obtain ⟨o8, n8, a8, b8, l8, c8, l9, c9, rfl⟩ := hr5.form
  try simp only at hcc
  refine SL.v (op_fieldAddr fa101_3 rfl) <| SL.w (op_store ty36 rfl rfl (by repeat constructor) rfl rfl rfl) ?_
  rintro _ _ _ ⟨rfl, rfl⟩
  refine SL.nil <| T.seq <| T.seq <| T.region <| SL.mv rfl <| SL.perm (own' := [ConO B5 (rdFlag 0 bs).1 (rcK bs).1 (strB8 (rcN bs).1) (.int .u8 (o8 : Int), .int .i64 n8, .slice a8 l8 c8, .slice b8 l9 c9), RdO br sv5 (rcF bs).2.1, ConO B2 false 0 ⟨#[]⟩ zr4]) (List.Perm.of_eq rfl) ?_
  refine SL.w (op_callJ en92 rfl (vs := [_]) rfl (rendJ h5) (by repeat constructor)) ?_
  rintro _ _ X6 ⟨_, rfl, hX6, rfl, rfl⟩
  have hz : ∀ {X' : PMap}, CfR X' zeC (false, 0, ⟨#[]⟩, zr4) := ⟨rfl, rfl, rfl, zeF_R⟩
  rw [readM]
  by_cases he : endE (rcF bs).2.1 (rcF bs).2.2 = 0
  case neg =>
    rw [if_pos (.inl he)]
    refine SL.v (op_neqT rfl rfl (by omega)) ?_
    refine SL.mv rfl <| SL.skip rfl rfl ?_
    refine SL.skip rfl rfl ?_
    refine SL.skip rfl rfl ?_
    refine SL.v (op_pickT rfl rfl) <| SL.nil <| T.condT rfl <| T.seq <| T.region <| SL.v (op_build st101 (qs := []) rfl rfl) <| SL.w (op_store ty101 rfl rfl (by repeat constructor) rfl rfl rfl) ?_
    rintro _ _ _ ⟨rfl, rfl⟩
    refine SL.v (op_assign (v := .int .i64 ((6 : Nat) : Int)) rfl) <| SL.nil <| T.ret2 rfl (ResIs.cell rfl ty101 (by repeat constructor) rfl) (ResIs.tmp rfl) ?_
    exact ⟨_, rfl, hz⟩
  rw [he]
  refine SL.v (op_neqF rfl rfl (by omega)) ?_
  refine SL.mv rfl <| SL.v (op_load ty101 rfl (by repeat constructor) rfl) ?_
  refine SL.w (op_callF en47 (vs := [_]) rfl (hcc hX6)) ?_
  rintro _ _ X7 ⟨rfl, hX7, rfl⟩
  by_cases hc : chkC18 (rcK bs).1 (strB8 (rcN bs).1) (rcF bs).1 = 0
  case neg =>
    rw [if_pos (.inr hc)]
    refine SL.v (op_neqT rfl rfl (by omega)) ?_
    refine SL.v (op_pickF rfl rfl) <| SL.nil <| T.condT rfl <| T.seq <| T.region <| SL.v (op_build st101 (qs := []) rfl rfl) <| SL.w (op_store ty101 rfl rfl (by repeat constructor) rfl rfl rfl) ?_
    rintro _ _ _ ⟨rfl, rfl⟩
    refine SL.v (op_assign (v := .int .i64 ((6 : Nat) : Int)) rfl) <| SL.nil <| T.ret2 rfl (ResIs.cell rfl ty101 (by repeat constructor) rfl) (ResIs.tmp rfl) ?_
    exact ⟨_, rfl, hz⟩
  rw [hc, if_neg (by simp)]
  refine SL.v (op_neqF rfl rfl (by omega)) ?_
  refine SL.v (op_pickF rfl rfl) <| SL.nil <| T.condF rfl <| T.skip <| T.seq <| T.region <| SL.v (op_load ty101 rfl (by repeat constructor) rfl) ?_
  refine SL.w (op_store ty101 rfl rfl (by repeat constructor) rfl rfl rfl) ?_
  rintro _ _ _ ⟨rfl, rfl⟩
  refine SL.v (op_assign (v := .int .i64 ((0 : Nat) : Int)) rfl) <| SL.nil <| T.ret2 rfl (ResIs.cell rfl ty101 (by repeat constructor) rfl) (ResIs.tmp rfl) ?_
  exact ⟨((rdFlag 0 bs).1, (rcK bs).1, strB8 (rcN bs).1, .int .u8 (o8 : Int), .int .i64 n8, .slice a8 l8 c8, .slice b8 l9 c9), rfl, rfl, rfl, rfl, (hr5'.mono hX6).mono hX7⟩
end Go.Proofs.YtnpcilglilfajaaGreatDoor
namespace Go.Proofs.YtnpcilglilfajaaGreatDoor
section
set_option maxRecDepth 100000
theorem en115 : Enters Tryz.prog 115 := enters_mk Tryz.func115 (by kernel_rfl) rfl
theorem en160 : Enters Tryz.prog 160 := enters_mk Tryz.func160 (by kernel_rfl) rfl
theorem en68 : Enters Tryz.prog 68 := enters_mk Tryz.func68 (by kernel_rfl) rfl
theorem fa46_0 : FAdr Tryz.prog 46 0 0 := fadr_mk Tryz.underlying46 rfl rfl (by kernel_rfl)
theorem fa46_1 : FAdr Tryz.prog 46 1 1 := fadr_mk Tryz.underlying46 rfl rfl (by kernel_rfl)
theorem z203 : Zero Tryz.prog 203 [.slice none 0 0, .int .i64 0] := ⟨zero_of (by kernel_rfl)⟩
theorem st203 : StT Tryz.prog 203 [(0, 1), (1, 1)] [.slice none 0 0, .int .i64 0] := ⟨⟨_, Tryz.underlying203, fun _ => by kernel_rfl, z203⟩⟩
end
open Go.RowKit
theorem fmOne {k : IntKind} {X : PMap} {op : Nat} {n : Int} {b : Nat} {a : Fm} {ra : Row4} (h : Blk X b [ra.1, ra.2.1, ra.2.2.1, ra.2.2.2]) (ha : FmR k X a ra) : FmR k X (.mk op n [] [a]) (.int k (op : Int), .int .i64 n, .slice none 0 0, .slice (some ⟨b, 0, none⟩) 1 1) := .mk (rows := [ra]) IntsR.nil (.inr ⟨Nat.zero_lt_one, b, 1, [], rfl, h, Nat.le_refl _, by (have : maxLen = 9223372036854775807 := rfl); omega⟩) rfl (fun i x r h1 h2 => by
  match i with
  | 0 => simp at h1 h2; subst h1 h2; exact ha
  | i + 1 => simp at h1)
theorem pow_half {d : Nat} (h : 1 ≤ d) : 2 ^ d = 2 * 2 ^ (d - 1) := by
  obtain ⟨e, rfl⟩ : ∃ e, d = e + 1 := ⟨d - 1, by omega⟩
  rw [Nat.add_sub_cancel, Nat.pow_succ, Nat.mul_comm]
theorem cmpS_spec {kind x d : Nat} {X : PMap} {b c q : Nat} {A : Option Addr} {p : List Nat} (h : BytesR X (.slice A p.length c) p) (hb : ∀ x ∈ p, x < 256) (hl : p.length < 1000000) (hd : 1 ≤ d) (hq : q + 3 * 2 ^ d ≤ 1000000) : SpecM Tryz.prog 160 [.pointer (some ⟨b, 0, none⟩), .int .i64 (x : Int), .int .i64 (d : Int), .int .i64 (kind : Int), .int .i64 6] X [SrcO b A p.length c q] fun u L' X' => ∃ x', L' = [x'] ∧ ∃ r : Row4, u = .agg #[r.1, r.2.1, r.2.2.1, r.2.2.2] ∧ FmR .i64 X' (cmpS p kind x d q).1 r ∧ x' = SrcO b A p.length c (cmpS p kind x d q).2 := by
  have hmx : maxLen = 9223372036854775807 := rfl
  have e2 := pow_half hd
  have hp2 : 1 ≤ 2 ^ (d - 1) := Nat.one_le_two_pow
  have hd2 : d < 2 ^ d := Nat.lt_two_pow_self
  have hle := numS_le p kind (d - 1) q
  rw [cmpS]
  refine SpecM.enter Tryz.func160 rfl Tryz.ntmps160 rfl ?_
  intro w0 X0 own0
  refine T.seq <| T.region <| SL.w (op_alloc z27) ?_
  rintro _ _ _ ⟨B10, rfl, rfl, rfl⟩
  refine SL.nil <| T.seq <| T.region <| SL.mv rfl <| SL.mv rfl <| SL.v (op_subN (p := d) (q := 1) rfl rfl (by omega) (by omega)) ?_
  refine SL.mv rfl <| SL.mv rfl <| SL.w (op_callJ en191 rfl (vs := [_, _, _, _]) rfl (numS_spec (d - 1) (q := q) h hb hl (by omega)) (by repeat constructor)) ?_
  rintro _ _ X1 ⟨_, rfl, hX1, r1, rfl, hr1, rfl⟩
  obtain ⟨o1, n1, a1, b1, l1, c1, l2, c2, rfl⟩ := hr1.form
  refine SL.w (op_alloc z27) ?_
  rintro _ _ _ ⟨B11, rfl, rfl, rfl⟩
  refine SL.w (op_store ty27 rfl rfl (by repeat constructor) rfl rfl rfl) ?_
  rintro _ _ _ ⟨rfl, rfl⟩
  refine SL.nil <| T.seq <| T.region <| SL.mv rfl <| SL.mv rfl <| SL.v (op_subN (p := d) (q := 1) rfl rfl (by omega) (by omega)) ?_
  refine SL.mv rfl <| SL.mv rfl <| SL.w (op_callJ en191 rfl (vs := [_, _, _, _]) rfl (numS_spec (d - 1) (q := (numS p kind (d - 1) q).2) (h.mono hX1) hb hl (by omega)) (by repeat constructor)) ?_
  rintro _ _ X2 ⟨_, rfl, hX2, r2, rfl, hr2, rfl⟩
  obtain ⟨o3, n3, a3, b3, l3, c3, l4, c4, rfl⟩ := hr2.form
  refine SL.w (op_alloc z27) ?_
  rintro _ _ _ ⟨B12, rfl, rfl, rfl⟩
  refine SL.w (op_store ty27 rfl rfl (by repeat constructor) rfl rfl rfl) ?_
  rintro _ _ _ ⟨rfl, rfl⟩
  refine SL.nil <| T.seq <| T.region <| SL.mv rfl <| SL.v (op_remN (p := x) (q := 5) rfl rfl rfl (by omega)) ?_
  refine SL.v (op_addN (p := 11) (q := x % 5) rfl rfl (by have : x % 5 < 5 := Nat.mod_lt _ (by omega); omega)) ?_
  refine SL.v (op_load ty27 rfl (by repeat constructor) rfl) ?_
  refine SL.v (op_load ty27 rfl (by repeat constructor) rfl) ?_
  refine SL.w (op_buildSlice Tryz.underlying25 bs27 (qs := [(0, _), (1, _)]) rfl rfl rfl rfl rfl) ?_
  rintro _ _ _ ⟨B30, rfl, rfl, rfl⟩
  refine SL.v (op_build st27 (qs := [(0, _), (3, _)]) rfl rfl) <| SL.w (op_store ty27 rfl rfl (by repeat constructor) rfl rfl rfl) ?_
  rintro _ _ _ ⟨rfl, rfl⟩
  refine SL.nil <| T.pub B30 (by repeat constructor) ?_
  intro X3 hX3 hB30 _
  refine T.retM1S [_] _ rfl (ResIs.cell rfl ty27 (by repeat constructor) rfl) (.cons _ (.cons _ (.cons _ (.refl _)))) (List.Perm.refl _) ?_
  exact ⟨(hX1.trans' hX2).trans' hX3, _, rfl, _, rfl, fmTwo (op := 11 + x % 5) (row2 hB30) ((hr1.mono hX2).mono hX3) (hr2.mono hX3), rfl⟩
theorem truS_leaf {p : List Nat} {kind d q : Nat} (h : d ≤ 1 ∨ nx p q % 8 ≤ 1) : truS p kind d q = truLeaf p kind (nx p q) d (q + 1) := by
  cases d with
  | zero => rfl
  | succ d => rw [truS, if_pos (by omega)]
theorem truS_cmp {p : List Nat} {kind d q : Nat} (h : ¬(d ≤ 1 ∨ nx p q % 8 ≤ 1)) (h6 : 6 ≤ nx p q % 8) : truS p kind d q = cmpS p kind (nx p q / 8) d (q + 1) := by
  obtain ⟨e, rfl⟩ : ∃ e, d = e + 1 := ⟨d - 1, by omega⟩
  rw [truS, if_neg (by omega), if_pos h6]
theorem truS_not {p : List Nat} {kind d q : Nat} (h : ¬(d ≤ 1 ∨ nx p q % 8 ≤ 1)) (h6 : nx p q % 8 = 2) : truS p kind d q = (.mk 7 0 [] [(truS p kind (d - 1) (q + 1)).1], (truS p kind (d - 1) (q + 1)).2) := by
  obtain ⟨e, rfl⟩ : ∃ e, d = e + 1 := ⟨d - 1, by omega⟩
  rw [truS, if_neg (by omega), if_neg (by omega), if_pos h6, Nat.add_sub_cancel]
theorem truS_bin {p : List Nat} {kind d q : Nat} (h : ¬(d ≤ 1 ∨ nx p q % 8 ≤ 1)) (h6 : ¬6 ≤ nx p q % 8) (h2 : nx p q % 8 ≠ 2) : truS p kind d q = (.mk (8 + nx p q % 8 - 3) 0 [] [(truS p kind (d - 1) (q + 1)).1, (truS p kind (d - 1) (truS p kind (d - 1) (q + 1)).2).1], (truS p kind (d - 1) (truS p kind (d - 1) (q + 1)).2).2) := by
  obtain ⟨e, rfl⟩ : ∃ e, d = e + 1 := ⟨d - 1, by omega⟩
  rw [truS, if_neg (by omega), if_neg h6, if_neg h2, Nat.add_sub_cancel]
theorem truS_spec {kind : Nat} (d : Nat) : ∀ {X : PMap} {b c q : Nat} {A : Option Addr} {p : List Nat}, BytesR X (.slice A p.length c) p → (∀ x ∈ p, x < 256) → p.length < 1000000 → q + 3 * 2 ^ d < 1000000 → SpecM Tryz.prog 115 [.pointer (some ⟨b, 0, none⟩), .int .i64 (d : Int), .int .i64 (kind : Int), .int .i64 6] X [SrcO b A p.length c q] fun u L' X' => ∃ x', L' = [x'] ∧ ∃ r : Row4, u = .agg #[r.1, r.2.1, r.2.2.1, r.2.2.2] ∧ FmR .i64 X' (truS p kind d q).1 r ∧ x' = SrcO b A p.length c (truS p kind d q).2 := by
  induction d using Nat.strongRecOn with
  | _ d ih =>
  intro X b c q A p h hb hl hq
  have hmx : maxLen = 9223372036854775807 := rfl
  have hp2 : 1 ≤ 2 ^ d := Nat.one_le_two_pow
  have hx := nx_lt hb q
  have hd2 : d < 2 ^ d := Nat.lt_two_pow_self
  by_cases hlf : d ≤ 1 ∨ nx p q % 8 ≤ 1
  · rw [truS_leaf hlf, truLeaf]
    refine SpecM.enter Tryz.func115 rfl Tryz.ntmps115 rfl ?_
    intro w0 X0 own0
    refine T.seq <| T.region <| SL.w (op_alloc z27) ?_
    rintro _ _ _ ⟨B8, rfl, rfl, rfl⟩
    refine SL.nil <| T.seq <| T.region <| SL.mv rfl <| SL.w (op_callJ en159 rfl (vs := [_]) rfl (next_spec18 (q := q) h hb (by omega) hl) (by repeat constructor)) ?_
    rintro _ _ X1 ⟨_, rfl, hX1, rfl, rfl⟩
    by_cases hd1 : d ≤ 1
    · skip
      refine SL.as rfl <| SL.nil <| T.seq <| T.seq <| T.region <| SL.mv rfl <| SL.v (op_leqT rfl rfl (by omega)) ?_
      refine SL.mv rfl <| SL.skip rfl rfl ?_
      refine SL.skip rfl rfl ?_
      by_cases hk : kind = 3
      · rw [if_neg (by omega), if_pos (.inl hk)]
        refine SL.skip rfl rfl ?_
        refine SL.v (op_pickT rfl rfl) <| SL.nil <| T.condT rfl <| T.seq <| T.block <| T.seq <| T.region <| SL.mv rfl <| SL.v (op_eqlT rfl rfl (by omega)) ?_
        refine SL.mv rfl <| SL.mv rfl <| SL.v (op_gtrF rfl rfl (by omega)) ?_
        refine SL.v (op_pickT rfl rfl) <| SL.as rfl <| SL.nil <| T.condF rfl <| T.seq <| T.region <| SL.mv rfl <| SL.v (op_eqlT rfl rfl (by omega)) ?_
        refine SL.mv rfl <| SL.skip rfl rfl ?_
        refine SL.skip rfl rfl ?_
        refine SL.skip rfl rfl ?_
        refine SL.v (op_pickT rfl rfl) <| SL.as rfl <| SL.nil <| T.condT rfl <| T.seq <| T.region <| SL.mv rfl <| SL.v (op_quoN (p := nx p q) (q := 16) rfl rfl rfl (by omega) (by omega)) ?_
        refine SL.v (op_remN (p := nx p q / 16) (q := 2) rfl rfl rfl (by omega)) ?_
        refine SL.v (op_addN (p := 2) (q := nx p q / 16 % 2) rfl rfl (by omega)) ?_
        refine SL.v (op_build st27 (qs := [(0, _)]) rfl rfl) <| SL.w (op_store ty27 rfl rfl (by repeat constructor) rfl rfl rfl) ?_
        rintro _ _ _ ⟨rfl, rfl⟩
        refine SL.nil <| T.retM1S [_] _ rfl (ResIs.cell rfl ty27 (by repeat constructor) rfl) (.cons _ (.refl _)) (List.Perm.refl _) ?_
        exact ⟨hX1, _, rfl, _, rfl, fmLeaf (op := 2 + nx p q / 16 % 2) IntsR.nil, rfl⟩
      by_cases h16 : nx p q % 16 = 9
      · rw [if_neg (fun h => hk h.1), if_pos (.inr h16)]
        refine SL.skip rfl rfl ?_
        refine SL.v (op_pickT rfl rfl) <| SL.nil <| T.condT rfl <| T.seq <| T.block <| T.seq <| T.region <| SL.mv rfl <| SL.v (op_eqlF rfl rfl (by omega)) ?_
        refine SL.mv rfl <| SL.skip rfl rfl ?_
        refine SL.skip rfl rfl ?_
        refine SL.v (op_pickF rfl rfl) <| SL.as rfl <| SL.nil <| T.condF rfl <| T.seq <| T.region <| SL.mv rfl <| SL.v (op_eqlF rfl rfl (by omega)) ?_
        refine SL.mv rfl <| SL.mv rfl <| SL.v (op_remN (p := nx p q) (q := 16) rfl rfl rfl (by omega)) ?_
        refine SL.v (op_eqlT rfl rfl (by omega)) ?_
        refine SL.v (op_pickF rfl rfl) <| SL.as rfl <| SL.nil <| T.condT rfl <| T.seq <| T.region <| SL.mv rfl <| SL.v (op_quoN (p := nx p q) (q := 16) rfl rfl rfl (by omega) (by omega)) ?_
        refine SL.v (op_remN (p := nx p q / 16) (q := 2) rfl rfl rfl (by omega)) ?_
        refine SL.v (op_addN (p := 2) (q := nx p q / 16 % 2) rfl rfl (by omega)) ?_
        refine SL.v (op_build st27 (qs := [(0, _)]) rfl rfl) <| SL.w (op_store ty27 rfl rfl (by repeat constructor) rfl rfl rfl) ?_
        rintro _ _ _ ⟨rfl, rfl⟩
        refine SL.nil <| T.retM1S [_] _ rfl (ResIs.cell rfl ty27 (by repeat constructor) rfl) (.cons _ (.refl _)) (List.Perm.refl _) ?_
        exact ⟨hX1, _, rfl, _, rfl, fmLeaf (op := 2 + nx p q / 16 % 2) IntsR.nil, rfl⟩
      · rw [if_neg (fun h => hk h.1), if_neg (fun h => h.elim hk h16)]
        refine SL.skip rfl rfl ?_
        refine SL.v (op_pickT rfl rfl) <| SL.nil <| T.condT rfl <| T.seq <| T.block <| T.seq <| T.region <| SL.mv rfl <| SL.v (op_eqlF rfl rfl (by omega)) ?_
        refine SL.mv rfl <| SL.skip rfl rfl ?_
        refine SL.skip rfl rfl ?_
        refine SL.v (op_pickF rfl rfl) <| SL.as rfl <| SL.nil <| T.condF rfl <| T.seq <| T.region <| SL.mv rfl <| SL.v (op_eqlF rfl rfl (by omega)) ?_
        refine SL.mv rfl <| SL.mv rfl <| SL.v (op_remN (p := nx p q) (q := 16) rfl rfl rfl (by omega)) ?_
        refine SL.v (op_eqlF rfl rfl (by omega)) ?_
        refine SL.v (op_pickF rfl rfl) <| SL.as rfl <| SL.nil <| T.condF rfl <| T.skip <| T.blk <| T.seq <| T.region <| SL.mv rfl <| SL.v (op_quoN (p := nx p q) (q := 8) rfl rfl rfl (by omega) (by omega)) ?_
        refine SL.mv rfl <| SL.v (op_remN (p := nx p q / 8) (q := 6) rfl rfl rfl (by omega)) ?_
        refine SL.v (op_addN (p := 1) (q := nx p q / 8 % 6) rfl rfl (by omega)) ?_
        refine SL.w (op_buildSlice Tryz.underlying24 bs3 (qs := [(0, _)]) rfl rfl rfl rfl rfl) ?_
        rintro _ _ _ ⟨B53, rfl, rfl, rfl⟩
        refine SL.v (op_build st27 (qs := [(0, _), (2, _)]) rfl rfl) <| SL.w (op_store ty27 rfl rfl (by repeat constructor) rfl rfl rfl) ?_
        rintro _ _ _ ⟨rfl, rfl⟩
        refine SL.nil <| T.pub B53 (by repeat constructor) ?_
        intro X2 hX2 hB53 _
        refine T.retM1S [_] _ rfl (ResIs.cell rfl ty27 (by repeat constructor) rfl) (.cons _ (.refl _)) (List.Perm.refl _) ?_
        exact ⟨hX1.trans' hX2, _, rfl, _, rfl, fmLeaf (op := 4) (ints1 hB53), rfl⟩
    · refine SL.as rfl <| SL.nil <| T.seq <| T.seq <| T.region <| SL.mv rfl <| SL.v (op_leqF rfl rfl (by omega)) ?_
      refine SL.mv rfl <| SL.mv rfl <| SL.v (op_remN (p := nx p q) (q := 8) rfl rfl rfl (by omega)) ?_
      by_cases hk : kind = 3
      · rw [if_pos ⟨hk, by omega⟩]
        refine SL.v (op_leqT rfl rfl (by omega)) ?_
        refine SL.v (op_pickF rfl rfl) <| SL.nil <| T.condT rfl <| T.seq <| T.block <| T.seq <| T.region <| SL.mv rfl <| SL.v (op_eqlT rfl rfl (by omega)) ?_
        refine SL.mv rfl <| SL.mv rfl <| SL.v (op_gtrT rfl rfl (by omega)) ?_
        refine SL.v (op_pickT rfl rfl) <| SL.as rfl <| SL.nil <| T.condT rfl <| T.seq <| T.region <| SL.mv rfl <| SL.mv rfl <| SL.v (op_quoN (p := nx p q) (q := 8) rfl rfl rfl (by omega) (by omega)) ?_
        refine SL.mv rfl <| SL.mv rfl <| SL.mv rfl <| SL.w (op_callJ en160 rfl (vs := [_, _, _, _, _]) rfl (cmpS_spec (q := q + 1) (h.mono hX1) hb hl (by omega) (by omega)) (by repeat constructor)) ?_
        rintro _ _ X2 ⟨_, rfl, hX2, r2, rfl, hr2, rfl⟩
        obtain ⟨o3, n3, a3, b3, l3, c3, l4, c4, rfl⟩ := hr2.form
        refine SL.w (op_store ty27 rfl rfl (by repeat constructor) rfl rfl rfl) ?_
        rintro _ _ _ ⟨rfl, rfl⟩
        refine SL.nil <| T.retM1S [_] _ rfl (ResIs.cell rfl ty27 (by repeat constructor) rfl) (.cons _ (.refl _)) (List.Perm.refl _) ?_
        exact ⟨hX1.trans' hX2, _, rfl, _, rfl, hr2, rfl⟩
      by_cases h16 : nx p q % 16 = 9
      · rw [if_neg (fun h => hk h.1), if_pos (.inr h16)]
        refine SL.v (op_leqT rfl rfl (by omega)) ?_
        refine SL.v (op_pickF rfl rfl) <| SL.nil <| T.condT rfl <| T.seq <| T.block <| T.seq <| T.region <| SL.mv rfl <| SL.v (op_eqlF rfl rfl (by omega)) ?_
        refine SL.mv rfl <| SL.skip rfl rfl ?_
        refine SL.skip rfl rfl ?_
        refine SL.v (op_pickF rfl rfl) <| SL.as rfl <| SL.nil <| T.condF rfl <| T.seq <| T.region <| SL.mv rfl <| SL.v (op_eqlF rfl rfl (by omega)) ?_
        refine SL.mv rfl <| SL.mv rfl <| SL.v (op_remN (p := nx p q) (q := 16) rfl rfl rfl (by omega)) ?_
        refine SL.v (op_eqlT rfl rfl (by omega)) ?_
        refine SL.v (op_pickF rfl rfl) <| SL.as rfl <| SL.nil <| T.condT rfl <| T.seq <| T.region <| SL.mv rfl <| SL.v (op_quoN (p := nx p q) (q := 16) rfl rfl rfl (by omega) (by omega)) ?_
        refine SL.v (op_remN (p := nx p q / 16) (q := 2) rfl rfl rfl (by omega)) ?_
        refine SL.v (op_addN (p := 2) (q := nx p q / 16 % 2) rfl rfl (by omega)) ?_
        refine SL.v (op_build st27 (qs := [(0, _)]) rfl rfl) <| SL.w (op_store ty27 rfl rfl (by repeat constructor) rfl rfl rfl) ?_
        rintro _ _ _ ⟨rfl, rfl⟩
        refine SL.nil <| T.retM1S [_] _ rfl (ResIs.cell rfl ty27 (by repeat constructor) rfl) (.cons _ (.refl _)) (List.Perm.refl _) ?_
        exact ⟨hX1, _, rfl, _, rfl, fmLeaf (op := 2 + nx p q / 16 % 2) IntsR.nil, rfl⟩
      · rw [if_neg (fun h => hk h.1), if_neg (fun h => h.elim hk h16)]
        refine SL.v (op_leqT rfl rfl (by omega)) ?_
        refine SL.v (op_pickF rfl rfl) <| SL.nil <| T.condT rfl <| T.seq <| T.block <| T.seq <| T.region <| SL.mv rfl <| SL.v (op_eqlF rfl rfl (by omega)) ?_
        refine SL.mv rfl <| SL.skip rfl rfl ?_
        refine SL.skip rfl rfl ?_
        refine SL.v (op_pickF rfl rfl) <| SL.as rfl <| SL.nil <| T.condF rfl <| T.seq <| T.region <| SL.mv rfl <| SL.v (op_eqlF rfl rfl (by omega)) ?_
        refine SL.mv rfl <| SL.mv rfl <| SL.v (op_remN (p := nx p q) (q := 16) rfl rfl rfl (by omega)) ?_
        refine SL.v (op_eqlF rfl rfl (by omega)) ?_
        refine SL.v (op_pickF rfl rfl) <| SL.as rfl <| SL.nil <| T.condF rfl <| T.skip <| T.blk <| T.seq <| T.region <| SL.mv rfl <| SL.v (op_quoN (p := nx p q) (q := 8) rfl rfl rfl (by omega) (by omega)) ?_
        refine SL.mv rfl <| SL.v (op_remN (p := nx p q / 8) (q := 6) rfl rfl rfl (by omega)) ?_
        refine SL.v (op_addN (p := 1) (q := nx p q / 8 % 6) rfl rfl (by omega)) ?_
        refine SL.w (op_buildSlice Tryz.underlying24 bs3 (qs := [(0, _)]) rfl rfl rfl rfl rfl) ?_
        rintro _ _ _ ⟨B53, rfl, rfl, rfl⟩
        refine SL.v (op_build st27 (qs := [(0, _), (2, _)]) rfl rfl) <| SL.w (op_store ty27 rfl rfl (by repeat constructor) rfl rfl rfl) ?_
        rintro _ _ _ ⟨rfl, rfl⟩
        refine SL.nil <| T.pub B53 (by repeat constructor) ?_
        intro X2 hX2 hB53 _
        refine T.retM1S [_] _ rfl (ResIs.cell rfl ty27 (by repeat constructor) rfl) (.cons _ (.refl _)) (List.Perm.refl _) ?_
        exact ⟨hX1.trans' hX2, _, rfl, _, rfl, fmLeaf (op := 4) (ints1 hB53), rfl⟩
  · have hd1 : ¬d ≤ 1 := fun h => hlf (.inl h)
    have e2 := pow_half (show 1 ≤ d by omega)
    have hle := truS_le p kind (d - 1) (q + 1)
    have h8 : nx p q % 8 < 8 := Nat.mod_lt _ (by omega)
    refine SpecM.enter Tryz.func115 rfl Tryz.ntmps115 rfl ?_
    intro w0 X0 own0
    refine T.seq <| T.region <| SL.w (op_alloc z27) ?_
    rintro _ _ _ ⟨B8, rfl, rfl, rfl⟩
    refine SL.nil <| T.seq <| T.region <| SL.mv rfl <| SL.w (op_callJ en159 rfl (vs := [_]) rfl (next_spec18 (q := q) h hb (by omega) hl) (by repeat constructor)) ?_
    rintro _ _ X1 ⟨_, rfl, hX1, rfl, rfl⟩
    refine SL.as rfl <| SL.nil <| T.seq <| T.seq <| T.region <| SL.mv rfl <| SL.v (op_leqF rfl rfl (by omega)) ?_
    refine SL.mv rfl <| SL.mv rfl <| SL.v (op_remN (p := nx p q) (q := 8) rfl rfl rfl (by omega)) ?_
    refine SL.v (op_leqF rfl rfl (by omega)) ?_
    refine SL.v (op_pickF rfl rfl) <| SL.nil <| T.condF rfl <| T.skip <| T.seq <| T.seq <| T.region <| SL.mv rfl <| SL.v (op_remN (p := nx p q) (q := 8) rfl rfl rfl (by omega)) ?_
    by_cases h6 : 6 ≤ nx p q % 8
    · rw [truS_cmp hlf h6]
      refine SL.v (op_geqT rfl rfl (by omega)) ?_
      refine SL.nil <| T.condT rfl <| T.seq <| T.region <| SL.mv rfl <| SL.mv rfl <| SL.v (op_quoN (p := nx p q) (q := 8) rfl rfl rfl (by omega) (by omega)) ?_
      refine SL.mv rfl <| SL.mv rfl <| SL.mv rfl <| SL.w (op_callJ en160 rfl (vs := [_, _, _, _, _]) rfl (cmpS_spec (q := q + 1) (h.mono hX1) hb hl (by omega) (by omega)) (by repeat constructor)) ?_
      rintro _ _ X2 ⟨_, rfl, hX2, r2, rfl, hr2, rfl⟩
      obtain ⟨o3, n3, a3, b3, l3, c3, l4, c4, rfl⟩ := hr2.form
      refine SL.w (op_store ty27 rfl rfl (by repeat constructor) rfl rfl rfl) ?_
      rintro _ _ _ ⟨rfl, rfl⟩
      refine SL.nil <| T.retM1S [_] _ rfl (ResIs.cell rfl ty27 (by repeat constructor) rfl) (.cons _ (.refl _)) (List.Perm.refl _) ?_
      exact ⟨hX1.trans' hX2, _, rfl, _, rfl, hr2, rfl⟩
    refine SL.v (op_geqF rfl rfl (by omega)) ?_
    refine SL.nil <| T.condF rfl <| T.skip <| T.seq <| T.region <| SL.mv rfl <| SL.mv rfl <| SL.v (op_subN (p := d) (q := 1) rfl rfl (by omega) (by omega)) ?_
    refine SL.mv rfl <| SL.mv rfl <| SL.w (op_callJ en115 rfl (vs := [_, _, _, _]) rfl (ih (d - 1) (by omega) (q := q + 1) (h.mono hX1) hb hl (by omega)) (by repeat constructor)) ?_
    rintro _ _ X2 ⟨_, rfl, hX2, r1, rfl, hr1, rfl⟩
    obtain ⟨o1, n1, a1, b1, l1, c1, l2, c2, rfl⟩ := hr1.form
    refine SL.w (op_alloc z27) ?_
    rintro _ _ _ ⟨B10, rfl, rfl, rfl⟩
    refine SL.w (op_store ty27 rfl rfl (by repeat constructor) rfl rfl rfl) ?_
    rintro _ _ _ ⟨rfl, rfl⟩
    refine SL.nil <| T.seq <| T.seq <| T.region <| SL.mv rfl <| SL.v (op_remN (p := nx p q) (q := 8) rfl rfl rfl (by omega)) ?_
    by_cases h2 : nx p q % 8 = 2
    · rw [truS_not hlf h2]
      refine SL.v (op_eqlT rfl rfl (by omega)) ?_
      refine SL.nil <| T.condT rfl <| T.seq <| T.region <| SL.v (op_load ty27 rfl (by repeat constructor) rfl) ?_
      refine SL.w (op_buildSlice Tryz.underlying25 bs27 (qs := [(0, _)]) rfl rfl rfl rfl rfl) ?_
      rintro _ _ _ ⟨B75, rfl, rfl, rfl⟩
      refine SL.v (op_build st27 (qs := [(0, _), (3, _)]) rfl rfl) <| SL.w (op_store ty27 rfl rfl (by repeat constructor) rfl rfl rfl) ?_
      rintro _ _ _ ⟨rfl, rfl⟩
      refine SL.nil <| T.pub B75 (by repeat constructor) ?_
      intro X3 hX3 hB75 _
      refine T.retM1S [_] _ rfl (ResIs.cell rfl ty27 (by repeat constructor) rfl) (.cons _ (.cons _ (.refl _))) (List.Perm.refl _) ?_
      exact ⟨(hX1.trans' hX2).trans' hX3, _, rfl, _, rfl, fmOne (op := 7) hB75 (hr1.mono hX3), rfl⟩
    rw [truS_bin hlf h6 h2]
    refine SL.v (op_eqlF rfl rfl (by omega)) ?_
    refine SL.nil <| T.condF rfl <| T.skip <| T.seq <| T.region <| SL.mv rfl <| SL.mv rfl <| SL.v (op_subN (p := d) (q := 1) rfl rfl (by omega) (by omega)) ?_
    refine SL.mv rfl <| SL.mv rfl <| SL.w (op_callJ en115 rfl (vs := [_, _, _, _]) rfl (ih (d - 1) (by omega) (q := (truS p kind (d - 1) (q + 1)).2) ((h.mono hX1).mono hX2) hb hl (by omega)) (by repeat constructor)) ?_
    rintro _ _ X3 ⟨_, rfl, hX3, r2, rfl, hr2, rfl⟩
    obtain ⟨o3, n3, a3, b3, l3, c3, l4, c4, rfl⟩ := hr2.form
    refine SL.w (op_alloc z27) ?_
    rintro _ _ _ ⟨B11, rfl, rfl, rfl⟩
    refine SL.w (op_store ty27 rfl rfl (by repeat constructor) rfl rfl rfl) ?_
    rintro _ _ _ ⟨rfl, rfl⟩
    refine SL.nil <| T.seq <| T.region <| SL.mv rfl <| SL.v (op_remN (p := nx p q) (q := 8) rfl rfl rfl (by omega)) ?_
    refine SL.v (op_addN (p := 8) (q := nx p q % 8) rfl rfl (by omega)) ?_
    refine SL.v (op_subN (p := 8 + nx p q % 8) (q := 3) rfl rfl (by omega) (by omega)) ?_
    refine SL.v (op_load ty27 rfl (by repeat constructor) rfl) ?_
    refine SL.v (op_load ty27 rfl (by repeat constructor) rfl) ?_
    refine SL.w (op_buildSlice Tryz.underlying25 bs27 (qs := [(0, _), (1, _)]) rfl rfl rfl rfl rfl) ?_
    rintro _ _ _ ⟨B89, rfl, rfl, rfl⟩
    refine SL.v (op_build st27 (qs := [(0, _), (3, _)]) rfl rfl) <| SL.w (op_store ty27 rfl rfl (by repeat constructor) rfl rfl rfl) ?_
    rintro _ _ _ ⟨rfl, rfl⟩
    refine SL.nil <| T.pub B89 (by repeat constructor) ?_
    intro X4 hX4 hB89 _
    refine T.retM1S [_] _ rfl (ResIs.cell rfl ty27 (by repeat constructor) rfl) (.cons _ (.cons _ (.cons _ (.refl _)))) (List.Perm.refl _) ?_
    exact ⟨((hX1.trans' hX2).trans' hX3).trans' hX4, _, rfl, _, rfl, fmTwo (op := 8 + nx p q % 8 - 3) (row2 hB89) ((hr1.mono hX3).mono hX4) (hr2.mono hX4), rfl⟩
theorem mkS_spec {kind : Nat} {X : PMap} {v : Value} {p : List Nat} (h : BytesR X v p) (hb : ∀ x ∈ p, x < 256) (hl : p.length < 1000000) : Spec Tryz.prog 68 [v, .int .i64 (kind : Int), .int .i64 6] X fun u X' => ∃ r : Row4, u = .agg #[r.1, r.2.1, r.2.2.1, r.2.2.2] ∧ FmR .i64 X' (mkS p kind) r := by
  obtain ⟨A, c, rfl⟩ := h.form
  refine Spec.enter Tryz.func68 rfl Tryz.ntmps68 rfl ?_
  intro w0 hw0
  refine T.seq <| T.region <| SL.w (op_alloc z27) ?_
  rintro _ _ _ ⟨B6, rfl, rfl, rfl⟩
  refine SL.nil <| T.seq <| T.region <| SL.mv rfl <| SL.v (op_build st203 (qs := [(0, _)]) rfl rfl) <| SL.w (op_box rfl) ?_
  rintro _ _ _ ⟨B10, rfl, rfl, rfl⟩
  refine SL.as rfl <| SL.nil <| T.seq <| T.region <| SL.mv rfl <| SL.mv rfl <| SL.mv rfl <| SL.w (op_callJ en115 rfl (vs := [_, _, _, _]) rfl (truS_spec (kind := kind) 4 (q := 0) h hb hl (by decide)) (by repeat constructor)) ?_
  rintro _ _ X1 ⟨_, rfl, hX1, r, rfl, hr, rfl⟩
  obtain ⟨o3, n3, a3, b3, l3, c3, l4, c4, rfl⟩ := hr.form
  refine SL.w (op_store ty27 rfl rfl (by repeat constructor) rfl rfl rfl) ?_
  rintro _ _ _ ⟨rfl, rfl⟩
  refine SL.nil <| T.ret1 rfl (ResIs.cell rfl ty27 (by repeat constructor) rfl) ?_
  exact ⟨_, rfl, hr⟩
/-- The kind that a Raw stands for, and its formula. -/
def kdR (k : Nat) : Nat := 1 + k % 3
def fitR (bs : List Nat) (k : Nat) : Fm := mkS (bs.take 40) (kdR k)
theorem fit_spec {X : PMap} {w : Value} {bs : List Nat} {k : Nat} (h : CutR X w bs) : Spec Tryz.prog 20 [.agg #[w, .int .u8 (k : Int)]] X fun u X' => ∃ r : Row4, u = .tuple #[.agg #[r.1, r.2.1, r.2.2.1, r.2.2.2], .int .i64 (kdR k : Int)] ∧ FmR .i64 X' (fitR bs k) r := by
  obtain ⟨h1, ⟨A, cp, rfl, hcp⟩, hb⟩ := h
  have h40 : (bs.take 40).length = min bs.length 40 := by rw [List.length_take, Nat.min_comm]
  have ht := h1.take hcp (k := min bs.length 40) (by omega)
  have hk : k % 3 < 3 := Nat.mod_lt _ (by omega)
  have et : bs.take (min bs.length 40) = bs.take 40 := by
    rcases Nat.le_total bs.length 40 with h | h
    · rw [Nat.min_eq_left h, List.take_length, List.take_of_length_le h]
    · rw [Nat.min_eq_right h]
  rw [et] at ht
  refine Spec.enter Tryz.func20 rfl Tryz.ntmps20 rfl ?_
  intro w0 hw0
  refine T.seq <| T.region <| SL.w (op_box rfl) ?_
  rintro _ _ _ ⟨B1, rfl, rfl, rfl⟩
  refine SL.w (op_alloc z27) ?_
  rintro _ _ _ ⟨B2, rfl, rfl, rfl⟩
  refine SL.v (op_assign (v := .int .i64 ((0 : Nat) : Int)) rfl) <| SL.nil <| T.seq <| T.region <| SL.v (op_fieldAddr fa46_1 rfl) <| SL.v (op_load ty5 rfl (by repeat constructor) rfl) ?_
  refine SL.v (op_remN (p := k) (q := 3) rfl rfl rfl (by omega)) ?_
  refine SL.v (op_convI64 Tryz.underlying5 Tryz.underlying3 rfl (by omega) (by omega)) ?_
  refine SL.v (op_addN (p := 1) (q := k % 3) rfl rfl (by omega)) ?_
  refine SL.as rfl <| SL.nil <| T.seq <| T.region <| SL.v (op_fieldAddr fa46_0 rfl) <| SL.v (op_load ty44 rfl (by repeat constructor) rfl) ?_
  refine SL.v (op_fieldAddr fa46_0 rfl) <| SL.v (op_load ty44 rfl (by repeat constructor) rfl) ?_
  refine SL.v (op_lenS Tryz.underlying44 rfl) <| SL.v (op_minN (p := bs.length) (q := 40) rfl rfl) <| SL.v (op_sliceHi (l := min bs.length 40) Tryz.underlying44 ty5 rfl rfl (by omega)) ?_
  refine SL.mv rfl <| SL.w (op_callF en68 (vs := [_, _, _]) rfl (mkS_spec (kind := kdR k) ht (fun x hx => hb x (List.mem_of_mem_take hx)) (by omega))) ?_
  rintro _ _ X1 ⟨rfl, hX1, r, rfl, hr⟩
  obtain ⟨o3, n3, a3, b3, l3, c3, l4, c4, rfl⟩ := hr.form
  refine SL.mv rfl <| SL.w (op_store ty27 rfl rfl (by repeat constructor) rfl rfl rfl) ?_
  rintro _ _ _ ⟨rfl, rfl⟩
  refine SL.as rfl <| SL.nil <| T.ret2 rfl (ResIs.cell rfl ty27 (by repeat constructor) rfl) (ResIs.tmp rfl) ?_
  exact ⟨_, rfl, hr⟩
end Go.Proofs.YtnpcilglilfajaaGreatDoor
namespace Go.Proofs.YtnpcilglilfajaaGreatDoor
open Go.RowKit
end Go.Proofs.YtnpcilglilfajaaGreatDoor
namespace Go.Proofs.YtnpcilglilfajaaGreatDoor
section
set_option maxRecDepth 100000
theorem en20 : Enters Tryz.prog 20 := enters_mk Tryz.func20 (by kernel_rfl) rfl
theorem ty46 : Ty Tryz.prog 46 true 2 := ⟨⟨_, Tryz.underlying46, rfl⟩, by kernel_rfl⟩
end
open Go.RowKit
theorem fitR_wt {bs : List Nat} {k : Nat} : wtF (fitR bs k) ≤ 961 := by
  have h := mkS_ok (kind := kdR k) (by unfold kdR; omega) (bs.take 40)
  have h1 := h.wt
  have h2 := h.siz
  rw [fitR]
  omega
theorem fitR_nok (bs : List Nat) (k : Nat) : nokF (fitR bs k) := insF_nok _ (mkS_ok (kind := kdR k) (by unfold kdR; omega) (bs.take 40)).ins
theorem fitR_chk (bs : List Nat) (k : Nat) : chkF (kdR k) (fitR bs k) = 0 := mkS_chk (by unfold kdR; omega) _
end Go.Proofs.YtnpcilglilfajaaGreatDoor
namespace Go.Proofs.YtnpcilglilfajaaGreatDoor
open Go.RowKit
theorem byN_strB8 {l : List Nat} (h : ∀ b ∈ l, b < 256) : byN (strB8 l) = l := by
  rw [strB8, byN, List.map_map]
  refine (List.map_congr_left fun b hb => ?_).trans (List.map_id _)
  have := h b hb
  show (UInt8.ofNat b).toNat = b
  rw [UInt8.toNat_ofNat']; omega
theorem byN_lt (s : ByteArray) : ∀ b ∈ byN s, b < 256 := fun b hb => by
  obtain ⟨x, _, rfl⟩ := List.mem_map.1 hb
  exact x.toNat_lt
theorem flatB_lt {l : List Nat} : ∀ b ∈ (l.map numB).flatten, b < 256 := fun b hb => by
  obtain ⟨q, hq, hb⟩ := List.mem_flatten.1 hb
  obtain ⟨r, _, rfl⟩ := List.mem_map.1 hq
  exact numB_lt b hb
mutual
theorem encF_lt : ∀ f : Fm, ∀ b ∈ encF f, b < 256
  | .mk op n rs al => fun b hb => by
    rw [encF] at hb
    simp only [List.mem_append] at hb
    rcases hb with hb | hb | hb | hb | hb | hb
    · exact numB_lt b hb
    · exact numB_lt b hb
    · exact numB_lt b hb
    · exact flatB_lt b hb
    · exact numB_lt b hb
    · exact encFL_lt al b hb
theorem encFL_lt : ∀ l : List Fm, ∀ b ∈ encFL l, b < 256
  | [] => fun b hb => by rw [encFL] at hb; cases hb
  | a :: l => fun b hb => by
    rw [encFL, List.mem_append] at hb
    exact hb.elim (encF_lt a b) (encFL_lt l b)
end
theorem enc18_lt (e : Bool) (k : Nat) (s : ByteArray) (f : Fm) : ∀ b ∈ enc18 e k s f, b < 256 := fun b hb => by
  rw [enc18] at hb
  simp only [List.mem_append] at hb
  rcases hb with (((hb | hb) | hb) | hb) | hb
  · rw [List.mem_singleton.1 hb]; split <;> omega
  · exact numB_lt b hb
  · exact numB_lt b hb
  · exact byN_lt s b hb
  · exact encF_lt f b hb
theorem enc18_len {e : Bool} {k : Nat} {s : ByteArray} {f : Fm} (hk : k < 256) (hs : s.size ≤ 12) (hn : nokF f) (hw : wtF f < 20000) : (enc18 e k s f).length < 900000 ∧ 0 < (enc18 e k s f).length := by
  have a1 := numB_len (n := k) (by omega)
  have a2 := numB_len (n := s.size) (by omega)
  have a3 := byN_len s
  have a4 := encF_len f hn (by omega)
  rw [enc18]
  simp only [List.length_append, List.length_singleton]
  omega
theorem rdFlag_cons (b : Nat) (t : List Nat) : rdFlag 0 (b :: t) = if 1 < b then (false, 6, b :: t) else (decide (b = 1), 0, t) := by
  unfold rdFlag
  rw [if_neg (by simp)]
theorem rdFlag_ok {bs : List Nat} (h : (rdFlag 0 bs).2.1 = 0) : bs = [if (rdFlag 0 bs).1 then 1 else 0] ++ (rdFlag 0 bs).2.2 := by
  cases bs with
  | nil => cases h
  | cons b t =>
    rw [rdFlag_cons] at h ⊢
    by_cases hb : 1 < b
    · rw [if_pos hb] at h; cases h
    · rw [if_neg hb]
      by_cases h1 : b = 1
      · subst h1; rfl
      · have : b = 0 := by omega
        subst this; rfl
/-- What was read has these bytes. -/
theorem read_ok {bs : List Nat} (hb : ∀ b ∈ bs, b < 256) (h : (readM bs).2 = 0) : chkC18 (readM bs).1.kind (readM bs).1.name (readM bs).1.fm = 0 ∧ enc18 (readM bs).1.enf (readM bs).1.kind (readM bs).1.name (readM bs).1.fm = bs := by
  rw [readM] at h ⊢
  split at h
  · cases h
  · rename_i hc
    rw [if_neg hc]
    have he : endE (rcF bs).2.1 (rcF bs).2.2 = 0 := Classical.not_not.1 fun h => hc (.inl h)
    have hk : chkC18 (rcK bs).1 (strB8 (rcN bs).1) (rcF bs).1 = 0 := Classical.not_not.1 fun h => hc (.inr h)
    refine ⟨hk, ?_⟩
    have e1 : (rcF bs).2.1 = 0 ∧ (rcF bs).2.2 = [] := by
      unfold endE at he
      split at he
      · cases he
      · rename_i hn
        refine ⟨he, Classical.not_not.1 fun h => hn ⟨he, h⟩⟩
    obtain ⟨j1, s1⟩ := rdFlag_sub 0 bs
    have b1 := sub_lt hb s1
    obtain ⟨j2, s2⟩ := rdU_sub (c := 2) (e := (rdFlag 0 bs).2.1) (most := 3) (bs := (rdFlag 0 bs).2.2)
    have b2 := sub_lt b1 (show (rcK bs).2.2 = _ from s2)
    obtain ⟨j3, s3⟩ := rdByt_sub 12 (rcK bs).2.1 (rcK bs).2.2
    have b3 := sub_lt b2 (show (rcN bs).2.2 = _ from s3)
    obtain ⟨f0, hf⟩ := rdF_ok 10 (rcN bs).2.1 (rcN bs).2.2 b3 (show (rcF bs).2.1 = 0 from e1.1)
    have hf : (rcN bs).2.2 = encF (rcF bs).1 ++ (rcF bs).2.2 := hf
    have hn : (rcK bs).2.1 = 0 ∧ (rcK bs).2.2 = numB (rcN bs).1.length ++ ((rcN bs).1 ++ (rcN bs).2.2) ∧ ∀ b ∈ (rcN bs).1, b < 256 := by
      have f1 : (rdByt 12 (rcK bs).2.1 (rcK bs).2.2).2.1 = 0 := f0
      show (rcK bs).2.1 = 0 ∧ (rcK bs).2.2 = numB (rdByt 12 (rcK bs).2.1 (rcK bs).2.2).1.length ++ ((rdByt 12 (rcK bs).2.1 (rcK bs).2.2).1 ++ (rdByt 12 (rcK bs).2.1 (rcK bs).2.2).2.2) ∧ _
      unfold rcN
      unfold rdByt at f1 ⊢
      by_cases c1 : (rcK bs).2.1 ≠ 0
      · rw [if_pos c1] at f1; exact absurd f1 c1
      rw [if_neg c1] at f1 ⊢
      by_cases c2 : (numR (rcK bs).2.2).2 = 0
      · rw [if_pos c2] at f1; cases f1
      rw [if_neg c2] at f1 ⊢
      by_cases c3 : 12 < (numR (rcK bs).2.2).1
      · rw [if_pos c3] at f1; cases f1
      rw [if_neg c3] at f1 ⊢
      by_cases c4 : (rcK bs).2.2.length - (numR (rcK bs).2.2).2 < (numR (rcK bs).2.2).1
      · rw [if_pos c4] at f1; cases f1
      rw [if_neg c4]
      obtain ⟨g1, g2⟩ := numR_enc b2 c2
      refine ⟨Classical.not_not.1 c1, ?_, fun b hb' => b2 b (List.mem_of_mem_drop (List.mem_of_mem_take hb'))⟩
      simp only
      rw [List.take_append_drop, List.length_take, List.length_drop, Nat.min_eq_left (by omega), ← g2, List.take_append_drop]
    obtain ⟨n0, hn1, hn2⟩ := hn
    obtain ⟨k0, hk1, _⟩ := rdU_ok (c := 2) (e := (rdFlag 0 bs).2.1) (most := 3) b1 (by decide) (show (rcK bs).2.1 = 0 from n0)
    have hk1 : (rdFlag 0 bs).2.2 = numB (rcK bs).1 ++ (rcK bs).2.2 := hk1
    have hfl : bs = [if (rdFlag 0 bs).1 then 1 else 0] ++ (rdFlag 0 bs).2.2 := rdFlag_ok k0
    show enc18 (rdFlag 0 bs).1 (rcK bs).1 (strB8 (rcN bs).1) (rcF bs).1 = bs
    have hz : (strB8 (rcN bs).1).size = (rcN bs).1.length := by simp [strB8, ByteArray.size]
    rw [enc18, byN_strB8 hn2, hz]
    simp only [List.append_assoc]
    rw [e1.2, List.append_nil] at hf
    rw [← hf, ← hn1, ← hk1]
    exact hfl.symm
/-- A constraint of raw data. -/
def rawC (e : Bool) (m : Nat) (bs : List Nat) (k : Nat) : Cf := ⟨e, kdR k, word6 m, fitR bs k⟩
theorem words_ok : (words6.all validB) = true := by kernel_rfl
theorem word6_valid (m : Nat) : validS (word6 m) := validB_iff.1 (List.all_eq_true.1 words_ok _ (List.mem_of_getElem? (word6_at m)))
theorem rawC_ok (e : Bool) (m : Nat) (bs : List Nat) (k : Nat) : chkC18 (rawC e m bs k).kind (rawC e m bs k).name (rawC e m bs k).fm = 0 := by
  have h1 : ¬((rawC e m bs k).kind < 1 ∨ 3 < (rawC e m bs k).kind) := by show ¬(kdR k < 1 ∨ 3 < kdR k); unfold kdR; omega
  rw [chkC18, if_neg h1, if_neg (fun h => h (word6_valid m))]
  exact fitR_chk bs k
end Go.Proofs.YtnpcilglilfajaaGreatDoor
namespace Go.Proofs.YtnpcilglilfajaaGreatDoor
section
set_option maxRecDepth 100000
theorem en143 : Enters Tryz.prog 143 := enters_mk Tryz.func143 (by kernel_rfl) rfl
theorem en181 : Enters Tryz.prog 181 := enters_mk Tryz.func181 (by kernel_rfl) rfl
theorem en93 : Enters Tryz.prog 93 := enters_mk Tryz.func93 (by kernel_rfl) rfl
end
open Go.RowKit
theorem numB12_spec {X : PMap} {n : Nat} (hn : n < 9223372036854775808) : SpecO Tryz.prog 181 [.int .i64 (n : Int)] X fun u own1 _ => GrowS 5 1 u (numB n).length (bytesC (numB n)) own1 := by
  have hnl := numB_len (n := n) (by omega)
  refine SpecO.enter Tryz.func181 rfl Tryz.ntmps181 rfl ?_
  intro w0 hw0
  refine T.seq <| T.region <| SL.as rfl <| SL.nil <| T.seq <| T.region <| SL.mv rfl <| SL.v (op_remN (q := 128) rfl rfl rfl (by omega)) ?_
  refine SL.v (op_convU8 Tryz.underlying3 Tryz.underlying5 rfl (by omega) (by omega)) ?_
  refine SL.w (op_buildSlice Tryz.underlying44 bs5 (qs := [(0, _)]) rfl rfl rfl rfl rfl) ?_
  rintro _ _ _ ⟨B7, rfl, rfl, rfl⟩
  refine SL.as rfl <| SL.nil <| T.seq <| T.region <| SL.mv rfl <| SL.v (op_quoN (q := 128) rfl rfl rfl (by omega) (by omega)) ?_
  refine SL.as rfl <| SL.nil <| T.seq <| T.block <| T.loopW (fun m env own X' => ∃ (v : Nat) (out : List Nat) (bo cap : Nat), v = m ∧ v < 9223372036854775808 ∧ X.le X' ∧ 0 < out.length ∧ out.length ≤ cap ∧ cap ≤ maxLen ∧ numB n = numHi v ++ out ∧ env = [(0, .int .i64 (v : Int)), (3, .slice (some ⟨bo, 0, none⟩) out.length cap)] ∧ own = [⟨bo, bytesC out, 5, cap * 1⟩]) (n / 128) ⟨n / 128, [n % 128], B7, 1, rfl, by omega, PMap.le_refl _, by simp, by simp, by decide, rfl, rfl, rfl⟩ (by repeat (first | exact Sub.nil | refine Sub.cons rfl ?_)) ?_
  rintro m _ _ X1 ⟨v, out, bo, cap, rfl, hv, hX1, ho0, hoc, hcm, hinv, rfl, rfl⟩
  have hol : out.length ≤ 10 := by
    have := congrArg List.length hinv
    rw [List.length_append] at this; omega
  rcases Nat.eq_zero_or_pos v with h0 | h0
  · subst h0
    rw [numHi_zero, List.nil_append] at hinv
    refine T.seq <| T.seq <| T.region <| SL.mv rfl <| SL.v (op_gtrF rfl rfl (by omega)) ?_
    refine SL.nil <| T.condF rfl ?_
    refine T.exit (T.exitCode (T.exitCut (T.exitBlk ?_)))
    refine T.seq <| T.region <| SL.mv rfl <| SL.as rfl <| SL.nil <| T.retO1 rfl (ResIs.tmp rfl) ?_
    exact .inr ⟨bo, cap, by rw [hinv], by rw [hinv], by rw [hinv]; exact hoc, hcm, by rw [bytesC_len]; omega⟩
  · refine T.seq <| T.seq <| T.region <| SL.mv rfl <| SL.v (op_gtrT rfl rfl (by omega)) ?_
    refine SL.nil <| T.condT rfl <| T.skip <| T.block <| T.seq <| T.region <| SL.mv rfl <| SL.v (op_remN (q := 128) rfl rfl rfl (by omega)) ?_
    refine SL.v (op_addN (p := 128) rfl rfl (by omega)) ?_
    refine SL.v (op_convU8 Tryz.underlying3 Tryz.underlying5 rfl (by omega) (by omega)) ?_
    refine SL.w (op_buildSlice Tryz.underlying44 bs5 (qs := [(0, _)]) rfl rfl rfl rfl rfl) ?_
    rintro _ _ _ ⟨B16, rfl, rfl, rfl⟩
    refine SL.mv rfl <| SL.w (op_append (m := out.length) (news := bytesC out) sl44 rfl rfl AtO.here rfl rfl (Nat.le_refl _) (by decide) (Src.ofOwn0 (AtO.there AtO.here) (by rw [bytesC_len]; omega)) (bytesC_one out) (by (have : maxLen = 9223372036854775807 := rfl); omega) (by omega)) ?_
    rintro _ _ _ ⟨b18, cap18, rfl, rfl, rfl, hc18, hm18⟩
    have e1 : 1 + out.length = ((128 + v % 128) :: out).length := by simp [Nat.add_comm]
    rw [e1] at hc18 ⊢
    refine SL.as rfl <| SL.nil <| T.region <| SL.mv rfl <| SL.v (op_quoN (q := 128) rfl rfl rfl (by omega) (by omega)) ?_
    refine SL.as rfl <| SL.nil <| T.blk <| T.drop bo (by repeat constructor) ?_
    exact T.backW (v / 128) (by omega) ⟨v / 128, (128 + v % 128) :: out, b18, cap18, rfl, by omega, hX1, by simp, hc18, hm18, by rw [hinv, numHi_pos (by omega)]; simp, rfl, rfl⟩ (by repeat (first | exact Sub.nil | refine Sub.cons rfl ?_))
theorem numB12U_spec {X : PMap} {n : Nat} (hn : n < 9223372036854775808) : SpecO Tryz.prog 143 [.int .i64 (n : Int)] X fun u own1 _ => GrowS 5 1 u (numB n).length (bytesC (numB n)) own1 := by
  refine SpecO.enter Tryz.func143 rfl Tryz.ntmps143 rfl ?_
  intro w0 hw0
  refine T.seq <| T.region <| SL.as rfl <| SL.nil <| T.seq <| T.region <| SL.mv rfl <| SL.w (op_callO en181 (vs := [_]) rfl (numB12_spec hn)) ?_
  rintro u1 own1 X1 ⟨_, rfl, hX1, hG⟩
  obtain ⟨A1, c1, rfl⟩ := hG.form
  refine SL.as rfl <| SL.nil <| T.retO1 rfl (ResIs.tmp rfl) ?_
  rw [List.append_nil]
  exact hG
/-- Bytes that grow. -/
def ByG (v : Value) (l : List Nat) (G : Own) : Prop := GrowS 5 1 v l.length (bytesC l) G
theorem ByG.form {v : Value} {l : List Nat} {G : Own} (h : ByG v l G) : ∃ A c, v = .slice A l.length c := GrowS.form h
theorem ByG.app {v : Value} {a l : List Nat} {G : Own} (h : GrowS 5 1 v (a.length + l.length) (bytesC a ++ bytesC l) G) : ByG v (a ++ l) G := by rw [ByG, List.length_append, bytesC_append]; exact h
theorem rbytesF_spec (N : Nat) : ∀ {X : PMap} {f : Fm} {r : Row4}, wtF f ≤ N → N < 1000000 → nokF f → FmR .i64 X f r → SpecO Tryz.prog 93 [.agg #[r.1, r.2.1, r.2.2.1, r.2.2.2]] X fun u own1 _ => ByG u (encF f) own1 := by
  induction N with
  | zero => intro X f r h; have := wtF_pos f; omega
  | succ N ih =>
    intro X f r hN hB hok h
    have hmx : maxLen = 9223372036854775807 := rfl
    have hel := encF_len f hok (by omega)
    cases h with
    | @mk op n rs al vn va rows hn ha hl hr =>
    obtain ⟨Aa, ca, rfl⟩ := ha.form
    obtain ⟨An, cn, rfl⟩ := hn.form
    have hlen := wtFL_len al
    rw [nokF] at hok
    obtain ⟨h1, h2, h3, h4, h5⟩ := hok
    rw [wtF] at hN hel
    obtain ⟨m, rfl⟩ : ∃ m : Nat, n = (m : Int) := ⟨n.toNat, by omega⟩
    rw [encF, Int.toNat_natCast] at hel ⊢
    simp only [List.length_append] at hel
    refine SpecO.enter Tryz.func93 rfl Tryz.ntmps93 rfl ?_
    intro w0 hw0
    have a1 := numB_len (n := op) (by omega)
    have a2 := numB_len (n := m) (by omega)
    have a3 := numB_len (n := rs.length) (by omega)
    have a4 := numB_len (n := al.length) (by omega)
    have a5 := flatB_len h4
    refine T.seq <| T.region <| SL.w (op_box rfl) ?_
    rintro _ _ _ ⟨B1, rfl, rfl, rfl⟩
    refine SL.as rfl <| SL.nil <| T.seq <| T.draw (by kernel_rfl) 6 [.t 0, .t 1, .t 3, .t 4, .r 2, .r 5] (by kernel_rfl) ?_
    refine SD.take rfl panicBody (op_fieldAddr fa27_0 rfl) rfl rfl ?_
    refine SD.take rfl panicBody (op_load ty3 rfl (by repeat constructor) rfl) rfl rfl ?_
    refine SD.take rfl panicBody (op_fieldAddr fa27_1 rfl) rfl rfl ?_
    refine SD.take rfl panicBody (op_load ty3 rfl (by repeat constructor) rfl) rfl rfl ?_
    refine SD.run rfl (op_callO en143 (vs := [_]) rfl (numB12U_spec (n := op) (by omega))) rfl rfl ?_
    rintro u1 _ X1 ⟨G1, rfl, hX1, hG1⟩
    obtain ⟨A1, c1, rfl⟩ := hG1.form
    refine SD.run rfl (op_callF en143 (vs := [_]) rfl ((numB12U_spec (n := m) (by omega)).pubG)) rfl rfl ?_
    rintro u2 _ X2 ⟨rfl, hX2, hS2⟩
    refine SD.nil ?_
    show SL _ _ _ _ _ _ _ [_, _] _ _ _
    obtain ⟨A2, c2, rfl⟩ := SliceR.form hS2
    refine SL.perm (own' := [F6 B1 op (m : Int) (.slice An rs.length cn) (.slice Aa rows.length ca)] ++ G1) List.perm_append_comm ?_
    refine SL.w (op_appendGM (own0 := [_]) sl44 rfl hG1 rfl (Src.ofBytes (BytesR.ofS hS2)) (numB_pos _) (bytesC_one _) (by omega) (by omega)) ?_
    rintro u3 _ _ ⟨G3, rfl, rfl, hG3⟩
    have hG3 : ByG u3 (numB op ++ numB m) G3 := ByG.app hG3
    obtain ⟨A3, c3, rfl⟩ := hG3.form
    refine SL.as rfl <| SL.nil <| T.seq <| T.region <| SL.mv rfl <| T.pubAt B1 (by repeat constructor) ?_
    intro Y1 hY1 hB1 _
    refine SL.v (op_fieldAddr fa27_2 rfl) <| SL.v (op_loadX ty24 rfl (by assumption) rfl) ?_
    refine SL.v (op_lenS Tryz.underlying24 rfl) <| SL.w (op_callF en143 (vs := [_]) rfl ((numB12U_spec (n := rs.length) (by omega)).pubG)) ?_
    rintro u4 _ X4 ⟨rfl, hX4, hS4⟩
    obtain ⟨A4, c4, rfl⟩ := SliceR.form hS4
    refine SL.w (op_appendGM (own0 := []) sl44 rfl hG3 rfl (Src.ofBytes (BytesR.ofS hS4)) (numB_pos _) (bytesC_one _) (by simp only [List.length_append]; omega) (by simp only [List.length_append]; omega)) ?_
    rintro u5 G5 _ ⟨_, rfl, rfl, hG5⟩
    have hG5 : ByG u5 (numB op ++ numB m ++ numB rs.length) G5 := ByG.app hG5
    have hB1 := hB1.mono hX4
    have hX04 := ((hX1.trans' hX2).trans' hY1).trans' hX4
    obtain ⟨L3, hL3⟩ : ∃ L3, L3 = numB op ++ numB m ++ numB rs.length := ⟨_, rfl⟩
    have hL3l : L3.length ≤ 30 := by rw [hL3]; simp only [List.length_append]; omega
    rw [← hL3] at hG5
    refine SL.as rfl <| SL.nil <| T.seq <| T.seq <| T.region <| SL.v (op_fieldAddr fa27_2 rfl) <| SL.v (op_loadX ty24 rfl (by assumption) rfl) ?_
    refine SL.v (op_lenS Tryz.underlying24 rfl) <| SL.v (op_move (v := .int .i64 ((0 : Nat) : Int)) rfl) <| SL.nil <| T.block <| T.loopW (fun q env own X' => ∃ (i : Nat) (v : Value) (G : Own), q = rs.length - i ∧ i ≤ rs.length ∧ X4.le X' ∧ ByG v (L3 ++ ((rs.take i).map numB).flatten) G ∧ env = [(1, .pointer (some ⟨B1, 0, none⟩)), (3, v), (22, .slice An rs.length cn), (23, .int .i64 (rs.length : Int)), (24, .int .i64 (i : Int))] ∧ G = own) rs.length ⟨0, _, _, by simp, by omega, PMap.le_refl _, by simpa using hG5, rfl, rfl⟩ (by repeat (first | exact Sub.nil | refine Sub.cons rfl ?_)) ?_
    rintro q _ _ X5 ⟨i, v5, G6, rfl, hi, hX5, hG6, rfl, rfl⟩
    have hB1 := hB1.mono hX5
    obtain ⟨A6, c6, rfl⟩ := hG6.form
    have a6 := flatB_len (l := rs.take i) fun r hr => h4 r (List.mem_of_mem_take hr)
    have a7 : (rs.take i).length ≤ rs.length := by rw [List.length_take]; omega
    rcases Nat.lt_or_ge i rs.length with hil | hil
    · obtain ⟨b, rfl, hB⟩ := hn.blk (by omega)
      have htk : rs.take (i + 1) = rs.take i ++ [rs[i]] := List.take_succ_eq_append_getElem hil
      have hri := h4 _ (List.getElem_mem hil)
      have hnl := numB_len (n := rs[i]) (by omega)
      refine T.seq <| T.region <| SL.v (op_lssT rfl rfl (by omega)) ?_
      refine SL.nil <| T.seq <| T.condT rfl <| T.skip <| T.seq <| T.block <| T.seq <| T.region <| SL.v (op_indexN Tryz.underlying24 ty3 rfl rfl (by omega)) ?_
      refine SL.v (op_loadX ty3 rfl ((hB.mono hX04).mono hX5) (cread1 (ints_get rs i hil))) <| SL.as rfl <| SL.nil <| T.region <| SL.mv rfl <| SL.mv rfl <| SL.w (op_callF en143 (vs := [_]) rfl ((numB12U_spec (n := rs[i]) (by omega)).pubG)) ?_
      rintro u7 _ X7 ⟨rfl, hX7, hS7⟩
      obtain ⟨A7, c7, rfl⟩ := SliceR.form hS7
      refine SL.w (op_appendGM (own0 := []) sl44 rfl hG6 rfl (Src.ofBytes (BytesR.ofS hS7)) (numB_pos _) (bytesC_one _) (by simp only [List.length_append]; omega) (by simp only [List.length_append]; omega)) ?_
      rintro u8 G8 _ ⟨_, rfl, rfl, hG8⟩
      have hG8 := ByG.app hG8
      refine SL.as rfl <| SL.nil <| T.blk <| T.region <| SL.v (op_addN (q := 1) rfl rfl (by omega)) ?_
      refine SL.mv rfl <| SL.nil ?_
      exact T.backW (rs.length - (i + 1)) (by omega) ⟨i + 1, u8, G8, rfl, by omega, hX5.trans' hX7, by rw [htk, List.map_append, List.flatten_append, List.map_singleton, List.flatten_singleton, ← List.append_assoc]; exact hG8, rfl, rfl⟩ (by repeat (first | exact Sub.nil | refine Sub.cons rfl ?_))
    obtain rfl : i = rs.length := by omega
    rw [List.take_of_length_le (Nat.le_refl _)] at hG6 a6 ⊢
    have hX05 := hX04.trans' hX5
    refine T.seq <| T.region <| SL.v (op_lssF rfl rfl (by omega)) ?_
    refine SL.nil <| T.seq <| T.condF rfl ?_
    refine T.exit (T.exitCode (T.exitCut (T.exitBlk ?_)))
    refine T.seq <| T.region <| SL.mv rfl <| SL.v (op_fieldAddr fa27_3 rfl) <| SL.v (op_loadX ty25 rfl (by assumption) rfl) ?_
    refine SL.v (op_lenS Tryz.underlying25 rfl) <| SL.w (op_callF en143 (vs := [_]) rfl ((numB12U_spec (n := rows.length) (by omega)).pubG)) ?_
    rintro u7 _ X7 ⟨rfl, hX7, hS7⟩
    obtain ⟨A7, c7, rfl⟩ := SliceR.form hS7
    refine SL.w (op_appendGM (own0 := []) sl44 rfl hG6 rfl (Src.ofBytes (BytesR.ofS hS7)) (numB_pos _) (bytesC_one _) (by rw [hl, hmx]; rw [List.length_append]; omega) (by rw [hl]; rw [List.length_append]; omega)) ?_
    rintro u8 G8 _ ⟨_, rfl, rfl, hG8⟩
    have hG8 : ByG u8 (L3 ++ (rs.map numB).flatten ++ numB rows.length) G8 := ByG.app hG8
    have hB1 := hB1.mono hX7
    have hX07 := hX05.trans' hX7
    obtain ⟨L5, hL5⟩ : ∃ L5, L5 = L3 ++ (rs.map numB).flatten ++ numB rows.length := ⟨_, rfl⟩
    have hL5l : L5.length ≤ 40 + 10 * rs.length := by rw [hL5, hl]; simp only [List.length_append]; omega
    rw [← hL5] at hG8
    refine SL.as rfl <| SL.nil <| T.seq <| T.seq <| T.region <| SL.v (op_fieldAddr fa27_3 rfl) <| SL.v (op_loadX ty25 rfl (by assumption) rfl) ?_
    refine SL.v (op_lenS Tryz.underlying25 rfl) <| SL.v (op_move (v := .int .i64 ((0 : Nat) : Int)) rfl) <| SL.nil <| T.block <| T.loopW (fun q env own X' => ∃ (i : Nat) (v : Value) (G : Own), q = rows.length - i ∧ i ≤ rows.length ∧ X7.le X' ∧ ByG v (L5 ++ encFL (al.take i)) G ∧ env = [(3, v), (40, .slice Aa rows.length ca), (41, .int .i64 (rows.length : Int)), (42, .int .i64 (i : Int))] ∧ G = own) rows.length ⟨0, _, _, by simp, by omega, PMap.le_refl _, by simpa [encFL] using hG8, rfl, rfl⟩ (by repeat (first | exact Sub.nil | refine Sub.cons rfl ?_)) ?_
    rintro q _ _ X9 ⟨i, v9, G9, rfl, hi, hX9, hG9, rfl, rfl⟩
    obtain ⟨A9, c9, rfl⟩ := hG9.form
    have hX09 := hX07.trans' hX9
    rcases Nat.lt_or_ge i rows.length with hil | hil
    · obtain ⟨r2, hr2⟩ : ∃ r2, rows[i]? = some r2 := ⟨_, List.getElem?_eq_getElem hil⟩
      obtain ⟨a, ha2⟩ : ∃ a, al[i]? = some a := ⟨_, List.getElem?_eq_getElem (by omega)⟩
      have hma := List.mem_of_getElem? ha2
      have hra := (hr i a r2 ha2 hr2).mono hX09
      obtain ⟨bA, pre, rfl, hbA⟩ := ha.blk (by omega)
      have hwa := wtFL_mem hma
      have hts := take_snoc ha2
      have hnt : nokFL (al.take i) := nokFL_take h5
      have hw2 : wtFL (al.take i) ≤ wtFL al := by
        have := wtFL_app (al.drop i) (al.take i)
        rw [List.take_append_drop] at this; omega
      have hel2 := encFL_len (al.take i) hnt (by omega)
      have hela := encF_len a (nokFL_mem h5 hma) (by omega)
      have hpos : 0 < (encF a).length := by
        cases a
        rw [encF, List.length_append]
        have := numB_pos
        exact Nat.lt_of_lt_of_le (this _) (Nat.le_add_right _ _)
      have hih := (ih (by omega) (by omega) (nokFL_mem h5 hma) hra).pubG
      obtain ⟨_, _, _, _, _, _, _, _, rfl⟩ := hra.form
      try simp only at hih
      refine T.seq <| T.region <| SL.v (op_lssT rfl rfl (by omega)) ?_
      refine SL.nil <| T.seq <| T.condT rfl <| T.skip <| T.seq <| T.block <| T.seq <| T.region <| SL.v (op_indexN Tryz.underlying25 ty27 rfl rfl (by omega)) ?_
      refine SL.v (op_loadX ty27 rfl (hbA.mono hX09) (row_read rc4_len hr2 (by omega))) ?_
      refine SL.w (op_alloc z27) ?_
      rintro _ _ _ ⟨B7, rfl, rfl, rfl⟩
      refine SL.w (op_store ty27 rfl rfl (by repeat constructor) rfl rfl rfl) ?_
      rintro _ _ _ ⟨rfl, rfl⟩
      refine SL.nil <| T.region <| SL.mv rfl <| SL.v (op_load ty27 rfl (by repeat constructor) rfl) ?_
      refine SL.w (op_callF en93 (vs := [_]) rfl (hih)) ?_
      rintro u10 _ X10 ⟨rfl, hX10, hS10⟩
      obtain ⟨A10, c10, rfl⟩ := SliceR.form hS10
      refine SL.w (op_appendGM (own0 := [_]) sl44 rfl hG9 rfl (Src.ofBytes (BytesR.ofS hS10)) hpos (bytesC_one _) (by rw [List.length_append]; omega) (by rw [List.length_append]; omega)) ?_
      rintro u11 _ _ ⟨G11, rfl, rfl, hG11⟩
      have hG11 := ByG.app hG11
      refine SL.as rfl <| SL.nil <| T.blk <| T.region <| SL.v (op_addN (q := 1) rfl rfl (by omega)) ?_
      refine SL.mv rfl <| SL.nil <| T.less (List.sublist_cons_self _ _) ?_
      exact T.backW (rows.length - (i + 1)) (by omega) ⟨i + 1, u11, G11, rfl, by omega, hX9.trans' hX10, by rw [hts, encFL_app, encFL, encFL, List.append_nil, ← List.append_assoc]; exact hG11, rfl, rfl⟩ (by repeat (first | exact Sub.nil | refine Sub.cons rfl ?_))
    · obtain rfl : i = rows.length := by omega
      rw [List.take_of_length_le (by omega)] at hG9 ⊢
      refine T.seq <| T.region <| SL.v (op_lssF rfl rfl (by omega)) ?_
      refine SL.nil <| T.seq <| T.condF rfl ?_
      refine T.exit (T.exitCode (T.exitCut (T.exitBlk ?_)))
      refine T.seq <| T.region <| SL.mv rfl <| SL.as rfl <| SL.nil <| T.retO1 rfl (ResIs.tmp rfl) ?_
      generalize Value.slice A9 (L5 ++ encFL al).length c9 = w at hG9 ⊢
      rw [hL5, hL3, hl] at hG9
      simp only [List.append_assoc] at hG9 ⊢
      exact hG9
end Go.Proofs.YtnpcilglilfajaaGreatDoor
namespace Go.Proofs.YtnpcilglilfajaaGreatDoor
section
set_option maxRecDepth 100000
theorem fa96_0 : FAdr Tryz.prog 96 0 0 := fadr_mk Tryz.underlying96 rfl rfl (by kernel_rfl)
theorem fa96_1 : FAdr Tryz.prog 96 1 1 := fadr_mk Tryz.underlying96 rfl rfl (by kernel_rfl)
theorem fa96_2 : FAdr Tryz.prog 96 2 2 := fadr_mk Tryz.underlying96 rfl rfl (by kernel_rfl)
theorem fa98_0 : FAdr Tryz.prog 98 0 0 := fadr_mk Tryz.underlying98 rfl rfl (by kernel_rfl)
theorem fa98_1 : FAdr Tryz.prog 98 1 1 := fadr_mk Tryz.underlying98 rfl rfl (by kernel_rfl)
theorem fa98_2 : FAdr Tryz.prog 98 2 2 := fadr_mk Tryz.underlying98 rfl rfl (by kernel_rfl)
theorem fa98_3 : FAdr Tryz.prog 98 3 3 := fadr_mk Tryz.underlying98 rfl rfl (by kernel_rfl)
theorem z98 : Zero Tryz.prog 98 [.bool false, .int .i64 0, .string ⟨#[]⟩, .int .i64 0, .int .i64 0, .slice none 0 0, .slice none 0 0] := ⟨zero_of (by kernel_rfl)⟩
theorem st98 : StT Tryz.prog 98 [(0, 1), (1, 1), (2, 1), (3, 4)] [.bool false, .int .i64 0, .string ⟨#[]⟩, .int .i64 0, .int .i64 0, .slice none 0 0, .slice none 0 0] := ⟨⟨_, Tryz.underlying98, fun _ => by kernel_rfl, z98⟩⟩
theorem ty98 : Ty Tryz.prog 98 true 7 := ⟨⟨_, Tryz.underlying98, rfl⟩, by kernel_rfl⟩
end
open Go.RowKit
theorem fitN_spec {X : PMap} {w : Value} {bs : List Nat} {e : Bool} {m k : Nat} (h : CutR X w bs) (hm : m < 256) : Spec Tryz.prog 44 [.agg #[.bool e, .int .u8 (m : Int), w, .int .u8 (k : Int)]] X fun u X' => ∃ r : Row4, u = .agg #[.bool e, .int .i64 (kdR k : Int), .string (word6 m), r.1, r.2.1, r.2.2.1, r.2.2.2] ∧ FmR .i64 X' (fitR bs k) r := by
  have hfit := fit_spec (k := k) h
  obtain ⟨_, ⟨Aw, cw, rfl, _⟩, _⟩ := h
  refine Spec.enter Tryz.func44 rfl Tryz.ntmps44 rfl ?_
  intro w0 hw0
  refine T.seq <| T.region <| SL.w (op_box rfl) ?_
  rintro _ _ _ ⟨B1, rfl, rfl, rfl⟩
  refine SL.w (op_alloc z98) ?_
  rintro _ _ _ ⟨B2, rfl, rfl, rfl⟩
  refine SL.nil <| T.seq <| T.region <| SL.v (op_fieldAddr fa96_2 rfl) <| SL.v (op_load ty46 rfl (by repeat constructor) rfl) ?_
  refine SL.w (op_callF en20 (vs := [_]) rfl (hfit)) ?_
  rintro _ _ X1 ⟨rfl, hX1, r, rfl, hr⟩
  have hr' := hr
  obtain ⟨o3, n3, a3, b3, l3, c3, l4, c4, rfl⟩ := hr.form
  refine SL.mv rfl <| SL.v (op_extract rfl rfl) <| SL.v (op_extract rfl rfl) <| SL.w (op_alloc z27) ?_
  rintro _ _ _ ⟨B3, rfl, rfl, rfl⟩
  refine SL.w (op_store ty27 rfl rfl (by repeat constructor) rfl rfl rfl) ?_
  rintro _ _ _ ⟨rfl, rfl⟩
  refine SL.as rfl <| SL.nil <| T.seq <| T.draw (by kernel_rfl) 8 [.t 0, .t 1, .t 2, .t 3, .t 4, .t 6, .r 5, .t 7] (by kernel_rfl) ?_
  refine SD.take rfl panicBody (op_fieldAddr fa96_0 rfl) rfl rfl ?_
  refine SD.take rfl panicBody (op_load ty4 rfl (by repeat constructor) rfl) rfl rfl ?_
  refine SD.take rfl panicBody (op_move rfl) rfl rfl ?_
  refine SD.take rfl panicBody (op_fieldAddr fa96_1 rfl) rfl rfl ?_
  refine SD.take rfl panicBody (op_load ty5 rfl (by repeat constructor) rfl) rfl rfl ?_
  refine SD.take rfl panicBody (op_load ty27 rfl (by repeat constructor) rfl) rfl rfl ?_
  refine SD.run rfl (op_callF en86 (vs := [_]) rfl (word6_spec hm)) rfl rfl ?_
  rintro _ _ X2 ⟨rfl, hX2, rfl⟩
  refine SD.take rfl panicBody (op_build st98 (qs := [(0, _), (1, _), (2, _), (3, _)]) rfl rfl) rfl rfl ?_
  refine SD.nil ?_
  show SL _ _ _ _ _ _ _ [_] _ _ _
  refine SL.w (op_store ty98 rfl rfl (by repeat constructor) rfl rfl rfl) ?_
  rintro _ _ _ ⟨rfl, rfl⟩
  refine SL.nil <| T.ret1 rfl (ResIs.cell rfl ty98 (by repeat constructor) rfl) ?_
  exact ⟨(.int .i64 (o3 : Int), .int .i64 n3, .slice a3 l3 c3, .slice b3 l4 c4), rfl, hr'.mono hX2⟩
theorem rcbytes_spec {X : PMap} {f : Fm} {r : Row4} {e : Bool} {k : Nat} {s : ByteArray} (hk : k < 128) (hs0 : 0 < s.size) (hs1 : s.size < 128) (hw : wtF f < 20000) (hn : nokF f) (h : FmR .i64 X f r) : SpecO Tryz.prog 46 [.agg #[.bool e, .int .i64 (k : Int), .string s, r.1, r.2.1, r.2.2.1, r.2.2.2]] X fun u own1 _ => ByG u (enc18 e k s f) own1 := by
  have hmx : maxLen = 9223372036854775807 := rfl
  have hel := encF_len f hn (by omega)
  have hpos : 0 < (encF f).length := by
    cases f
    rw [encF, List.length_append]
    exact Nat.lt_of_lt_of_le (numB_pos _) (Nat.le_add_right _ _)
  have hby := fun {X' : PMap} (hX : X.le X') => (rbytesF_spec _ (Nat.le_refl _) (by omega) hn (h.mono hX)).pubG
  obtain ⟨o3, n3, a3, b3, l3, c3, l4, c4, rfl⟩ := h.form
  try simp only at hby
  rw [enc18, numB_small hk, numB_small hs1]
  refine SpecO.enter Tryz.func46 rfl Tryz.ntmps46 rfl ?_
  intro w0 hw0
  refine T.seq <| T.region <| SL.w (op_box rfl) ?_
  rintro _ _ _ ⟨B1, rfl, rfl, rfl⟩
  refine SL.as rfl <| SL.nil <| T.seq <| T.region <| T.pubAt B1 (by repeat constructor) ?_
  intro Y1 hY1 hB1 _
  refine SL.w (op_buildSlice Tryz.underlying44 bs5 (qs := [(0, _)]) rfl rfl rfl rfl rfl) ?_
  rintro _ _ _ ⟨B4, rfl, rfl, rfl⟩
  refine SL.as rfl <| SL.nil <| T.seq <| T.meet (fun _ env own X' => ∃ (v : Value) (G : Own), Y1.le X' ∧ ByG v [if e then 1 else 0] G ∧ env = [(1, .pointer (some ⟨B1, 0, none⟩)), (3, v)] ∧ G = own) ?_ ?_
  · cases e with
    | true =>
      refine T.seq <| T.region <| SL.v (op_fieldAddr fa98_0 rfl) <| SL.v (op_loadX ty4 rfl (by assumption) rfl) ?_
      refine SL.nil <| T.condT rfl <| T.region <| SL.w (op_buildSlice Tryz.underlying44 bs5 (qs := [(0, _)]) rfl rfl rfl rfl rfl) ?_
      rintro _ _ _ ⟨B7, rfl, rfl, rfl⟩
      refine SL.as rfl <| SL.nil <| T.drop B4 (by repeat constructor) ?_
      exact T.backW 0 (by omega) ⟨_, _, PMap.le_refl _, .inr ⟨B7, 1, rfl, rfl, Nat.le_refl _, by (have : maxLen = 9223372036854775807 := rfl); omega, rfl⟩, rfl, rfl⟩ (by repeat (first | exact Sub.nil | refine Sub.cons rfl ?_))
    | false =>
      refine T.seq <| T.region <| SL.v (op_fieldAddr fa98_0 rfl) <| SL.v (op_loadX ty4 rfl (by assumption) rfl) ?_
      refine SL.nil <| T.condF rfl <| T.skip ?_
      exact T.backW 0 (by omega) ⟨_, _, PMap.le_refl _, .inr ⟨B4, 1, rfl, rfl, Nat.le_refl _, by (have : maxLen = 9223372036854775807 := rfl); omega, rfl⟩, rfl, rfl⟩ (by repeat (first | exact Sub.nil | refine Sub.cons rfl ?_))
  rintro _ _ _ X1 ⟨v1, G1, hX1, hG1, rfl, rfl⟩
  obtain ⟨A1, c1, rfl⟩ := hG1.form
  have hB1 := hB1.mono hX1
  refine T.seq <| T.region <| SL.mv rfl <| SL.v (op_fieldAddr fa98_1 rfl) <| SL.v (op_loadX ty3 rfl (by assumption) rfl) ?_
  refine SL.v (op_convU8 Tryz.underlying3 Tryz.underlying5 rfl (by omega) (by omega)) ?_
  refine SL.v (op_fieldAddr fa98_2 rfl) <| SL.v (op_loadX ty9 rfl (by assumption) rfl) ?_
  refine SL.v (op_lenStr Tryz.underlying9 rfl) <| SL.v (op_convU8 Tryz.underlying3 Tryz.underlying5 rfl (by omega) (by omega)) ?_
  refine SL.w (op_buildSlice Tryz.underlying44 bs5 (qs := [(0, _), (1, _)]) rfl rfl rfl rfl rfl) ?_
  rintro _ _ _ ⟨B16, rfl, rfl, rfl⟩
  refine SL.w (op_appendGA (own0 := [_]) (m := 2) sl44 rfl hG1 rfl (Src.ofOwn0 AtO.here rfl) (by intro y hy; have hy : y ∈ [Value.int _ _, Value.int _ _] := hy; simp only [List.mem_cons, List.not_mem_nil, or_false] at hy; rcases hy with rfl | rfl <;> rfl) (by simp only [List.length_singleton]; omega) (by simp only [List.length_singleton]; omega)) ?_
  rintro v2 _ _ ⟨G2, rfl, rfl, hG2⟩
  have hG2 : ByG v2 ([if e then 1 else 0] ++ [k, s.size]) G2 := ByG.app hG2
  obtain ⟨A2, c2, rfl⟩ := hG2.form
  refine SL.as rfl <| SL.nil <| T.seq <| T.region <| T.dropAt B16 (by repeat constructor) ?_
  refine SL.perm (own' := G2) (List.Perm.refl _) ?_
  have hbl := byN_len s
  refine SL.mv rfl <| SL.v (op_fieldAddr fa98_2 rfl) <| SL.v (op_loadX ty9 rfl (by assumption) rfl) ?_
  refine SL.w (op_bytesOf Tryz.underlying9 Tryz.underlying44 Tryz.underlying5 rfl) ?_
  rintro _ _ X3 ⟨b21, c21, rfl, rfl, hX3, hB21⟩
  rw [byN_C] at hB21
  have hB1 := hB1.mono hX3
  refine SL.w (op_appendGM (own0 := []) (m := s.size) (u := .slice (some ⟨b21, 0, none⟩) s.size c21) (news := bytesC (byN s)) sl44 rfl hG2 rfl (hbl ▸ Src.ofBytes (.inr ⟨by omega, b21, c21, [], rfl, hB21⟩)) hs0 (bytesC_one _) (by simp only [List.length_append, List.length_cons, List.length_nil]; omega) (by simp only [List.length_append, List.length_cons, List.length_nil]; omega)) ?_
  rintro v4 G4 _ ⟨_, rfl, rfl, hG4⟩
  have hG4 : ByG v4 ([if e then 1 else 0] ++ [k, s.size] ++ byN s) G4 := ByG.app (by rw [hbl]; exact hG4)
  obtain ⟨A4, c4', rfl⟩ := hG4.form
  refine SL.as rfl <| SL.nil <| T.seq <| T.region <| SL.mv rfl <| SL.v (op_fieldAddr fa98_3 rfl) <| SL.v (op_loadX ty27 rfl (by assumption) rfl) ?_
  refine SL.w (op_callF en93 (vs := [_]) rfl (hby ((hY1.trans' hX1).trans' hX3))) ?_
  rintro v5 _ X5 ⟨rfl, hX5, hS5⟩
  obtain ⟨A5, c5, rfl⟩ := SliceR.form hS5
  refine SL.w (op_appendGM (own0 := []) sl44 rfl hG4 rfl (Src.ofBytes (BytesR.ofS hS5)) hpos (bytesC_one _) (by simp only [List.length_append, List.length_cons, List.length_nil]; omega) (by simp only [List.length_append, List.length_cons, List.length_nil]; omega)) ?_
  rintro v6 G6 _ ⟨_, rfl, rfl, hG6⟩
  have hG6 : ByG v6 ([if e then 1 else 0] ++ [k, s.size] ++ byN s ++ encF f) G6 := ByG.app hG6
  refine SL.as rfl <| SL.nil <| T.retO1 rfl (ResIs.tmp rfl) ?_
  rw [show [if e = true then 1 else 0] ++ [k] ++ [s.size] = [if e = true then 1 else 0] ++ [k, s.size] from rfl]
  exact hG6
end Go.Proofs.YtnpcilglilfajaaGreatDoor
namespace Go.Proofs.YtnpcilglilfajaaGreatDoor
open Go.RowKit
noncomputable instance decEx : DecidableEq Ex := fun _ _ => Classical.propDecidable _
noncomputable instance decCon : DecidableEq Con := fun _ _ => Classical.propDecidable _
theorem take_eq {α : Type} {l l' : List α} {i : Nat} {a b : α} (ha : l[i]? = some a) (hb : l'[i]? = some b) (h : l.take i = l'.take i) : (l.take (i + 1) = l'.take (i + 1)) ↔ a = b := by
  rw [take_snoc ha, take_snoc hb, h]
  simp
theorem ne_at {α : Type} {l l' : List α} {i : Nat} {a b : α} (ha : l[i]? = some a) (hb : l'[i]? = some b) (h : a ≠ b) : l ≠ l' := fun e => by
  subst e; rw [ha] at hb; cases hb; exact h rfl
theorem op_eqlBb {P : Program} {n : NM} {own : Own} {X : PMap} {env : Env} {t t' : TypeId} {x y : Operand} {b c : Bool} (ht : P.underlying t = some .bool) (hx : eev env x = some (.bool b)) (hy : eev env y = some (.bool c)) : OpY P n env own X (.binOp .eql t x y t') (.bool (b == c)) := op_eqlB ht hx hy
end Go.Proofs.YtnpcilglilfajaaGreatDoor
namespace Go.Proofs.YtnpcilglilfajaaGreatDoor
section
set_option maxRecDepth 100000
theorem en39 : Enters Tryz.prog 39 := enters_mk Tryz.func39 (by kernel_rfl) rfl
end
open Go.RowKit
noncomputable instance decFm : DecidableEq Fm := fun _ _ => Classical.propDecidable _
theorem fm_eq {op op' : Nat} {n n' : Int} {ns ns' : List Nat} {al al' : List Fm} : Fm.mk op n ns al = Fm.mk op' n' ns' al' ↔ op = op' ∧ n = n' ∧ ns = ns' ∧ al = al' := by simp
end Go.Proofs.YtnpcilglilfajaaGreatDoor
namespace Go.Proofs.YtnpcilglilfajaaGreatDoor
section
set_option maxRecDepth 100000
theorem en101 : Enters Tryz.prog 101 := enters_mk Tryz.func101 (by kernel_rfl) rfl
theorem en53 : Enters Tryz.prog 53 := enters_mk Tryz.func53 (by kernel_rfl) rfl
end
open Go.RowKit
noncomputable instance decCf : DecidableEq Cf := fun _ _ => Classical.propDecidable _
theorem cf_eq {e e' : Bool} {k k' : Nat} {s s' : ByteArray} {x x' : Fm} : Cf.mk e k s x = Cf.mk e' k' s' x' ↔ e = e' ∧ k = k' ∧ s = s' ∧ x = x' := by simp
theorem feqFn_spec {X : PMap} {va vb : Value} {al bl : List Fm} {rows rows' : List Row4} (ha : RowR rc4 X va rows) (hb : RowR rc4 X vb rows') (hla : rows.length = al.length) (hlb : rows'.length = bl.length) (hl : al.length < 1000000000)
    (hra : ∀ (i : Nat) (a : Fm) (r : Row4), al[i]? = some a → rows[i]? = some r → FmR .u8 X a r) (hrb : ∀ (i : Nat) (a : Fm) (r : Row4), bl[i]? = some a → rows'[i]? = some r → FmR .u8 X a r)
    (hf : ∀ {X' : PMap} {a b : Fm} {r r' : Row4}, a ∈ al → FmR .u8 X' a r → FmR .u8 X' b r' → Spec Tryz.prog 53 [.agg #[r.1, r.2.1, r.2.2.1, r.2.2.2], .agg #[r'.1, r'.2.1, r'.2.2.1, r'.2.2.2]] X' fun u _ => u = .bool (decide (a = b))) :
    Spec Tryz.prog 101 [va, vb, .func (.func 53) #[] #[]] X fun u _ => u = .bool (decide (al = bl)) := by
  obtain ⟨A, cp, rfl⟩ := ha.form
  obtain ⟨A', cp', rfl⟩ := hb.form
  by_cases hlen : al.length = bl.length
  case neg =>
    refine Spec.enter Tryz.func101 rfl Tryz.ntmps101 rfl ?_
    intro w0 hw0
    refine T.seq <| T.region <| SL.as rfl <| SL.nil <| T.seq <| T.seq <| T.region <| SL.mv rfl <| SL.v (op_lenS Tryz.underlying34 rfl) <| SL.mv rfl <| SL.v (op_lenS Tryz.underlying34 rfl) <| SL.v (op_neqT rfl rfl (by omega)) ?_
    refine SL.nil <| T.condT rfl <| T.seq <| T.region <| SL.as rfl <| SL.nil <| T.ret1 rfl (ResIs.tmp rfl) ?_
    rw [decide_eq_false fun e => hlen (by rw [e])]
  refine Spec.enter Tryz.func101 rfl Tryz.ntmps101 rfl ?_
  intro w0 hw0
  refine T.seq <| T.region <| SL.as rfl <| SL.nil <| T.seq <| T.seq <| T.region <| SL.mv rfl <| SL.v (op_lenS Tryz.underlying34 rfl) <| SL.mv rfl <| SL.v (op_lenS Tryz.underlying34 rfl) <| SL.v (op_neqF rfl rfl (by omega)) ?_
  refine SL.nil <| T.condF rfl <| T.skip <| T.seq <| T.seq <| T.region <| SL.mv rfl <| SL.v (op_lenS Tryz.underlying34 rfl) <| SL.v (op_move (v := .int .i64 ((0 : Nat) : Int)) rfl) <| SL.nil <| T.block <| T.loopW (fun m env own X' => ∃ i : Nat, m = rows.length - i ∧ i ≤ rows.length ∧ X.le X' ∧ al.take i = bl.take i ∧ env = [(1, .slice A' rows'.length cp'), (2, .func (.func 53) #[] #[]), (15, .slice A rows.length cp), (16, .int .i64 (rows.length : Int)), (17, .int .i64 (i : Int))] ∧ own = []) rows.length ⟨0, by simp, by omega, PMap.le_refl _, by simp, rfl, rfl⟩ (by repeat (first | exact Sub.nil | refine Sub.cons rfl ?_)) ?_
  rintro m _ _ X1 ⟨i, rfl, hi, hX1, heq, rfl, rfl⟩
  rcases Nat.lt_or_ge i rows.length with hil | hil
  · obtain ⟨r, hr⟩ : ∃ r, rows[i]? = some r := ⟨_, List.getElem?_eq_getElem hil⟩
    obtain ⟨r', hr'⟩ : ∃ r, rows'[i]? = some r := ⟨_, List.getElem?_eq_getElem (by omega)⟩
    obtain ⟨x, hx⟩ : ∃ x, al[i]? = some x := ⟨_, List.getElem?_eq_getElem (by omega)⟩
    obtain ⟨y, hy⟩ : ∃ y, bl[i]? = some y := ⟨_, List.getElem?_eq_getElem (by omega)⟩
    have h1 := (hra i x r hx hr).mono hX1
    have h2 := (hrb i y r' hy hr').mono hX1
    obtain ⟨b, pre, rfl, hB⟩ := ha.blk (by omega)
    obtain ⟨b', pre', rfl, hB'⟩ := hb.blk (by omega)
    have hcall := hf (List.mem_of_getElem? hx) h1 h2
    obtain ⟨_, _, _, _, _, _, _, _, rfl⟩ := h1.form
    obtain ⟨_, _, _, _, _, _, _, _, rfl⟩ := h2.form
    try simp only at hcall
    refine T.seq <| T.region <| SL.v (op_lssT rfl rfl (by omega)) ?_
    refine SL.nil <| T.seq <| T.condT rfl <| T.skip <| T.seq <| T.block <| T.seq <| T.region <| SL.mv rfl <| SL.v (op_indexN Tryz.underlying34 ty36 rfl rfl (by omega)) ?_
    refine SL.v (op_loadX ty36 rfl (hB.mono hX1) (row_read rc4_len hr (by omega))) ?_
    refine SL.w (op_alloc z36) ?_
    rintro _ _ _ ⟨B8, rfl, rfl, rfl⟩
    refine SL.as rfl <| SL.w (op_store ty36 rfl rfl (by repeat constructor) rfl rfl rfl) ?_
    rintro _ _ _ ⟨rfl, rfl⟩
    refine SL.nil <| T.seq <| T.region <| SL.mv rfl <| SL.mv rfl <| SL.v (op_indexN Tryz.underlying34 ty36 rfl rfl (by omega)) ?_
    refine SL.v (op_loadX ty36 rfl (hB'.mono hX1) (row_read rc4_len hr' (by omega))) ?_
    refine SL.w (op_alloc z36) ?_
    rintro _ _ _ ⟨B9, rfl, rfl, rfl⟩
    refine SL.w (op_store ty36 rfl rfl (by repeat constructor) rfl rfl rfl) ?_
    rintro _ _ _ ⟨rfl, rfl⟩
    refine SL.nil <| T.seq <| T.region <| SL.mv rfl <| SL.v (op_load ty36 rfl (by repeat constructor) rfl) ?_
    refine SL.v (op_load ty36 rfl (by repeat constructor) rfl) ?_
    refine SL.w (op_call en53 rfl (vs := [_, _]) rfl hcall) ?_
    rintro _ _ X2 ⟨rfl, hX2, rfl⟩
    refine SL.v (op_not rfl) <| SL.nil ?_
    by_cases hxy : x = y
    · rw [decide_eq_true hxy]
      refine T.condF rfl <| T.skip <| T.blk <| T.region <| SL.v (op_addN (q := 1) rfl rfl (by omega)) ?_
      refine SL.mv rfl <| SL.nil <| T.drop B8 (by repeat constructor) ?_
      refine T.drop B9 (by repeat constructor) ?_
      exact T.backW (rows.length - (i + 1)) (by omega) ⟨i + 1, rfl, by omega, hX1.trans' hX2, (take_eq hx hy heq).2 hxy, rfl, rfl⟩ (by repeat (first | exact Sub.nil | refine Sub.cons rfl ?_))
    · rw [decide_eq_false hxy]
      refine T.condT rfl <| T.seq <| T.region <| SL.as rfl <| SL.nil <| T.ret1 rfl (ResIs.tmp rfl) ?_
      rw [decide_eq_false (ne_at hx hy hxy)]
  · obtain rfl : i = rows.length := by omega
    rw [List.take_of_length_le (by omega), List.take_of_length_le (by omega)] at heq
    refine T.seq <| T.region <| SL.v (op_lssF rfl rfl (by omega)) ?_
    refine SL.nil <| T.seq <| T.condF rfl ?_
    refine T.exit (T.exitCode (T.exitCut (T.exitBlk ?_)))
    refine T.seq <| T.region <| SL.as rfl <| SL.nil <| T.ret1 rfl (ResIs.tmp rfl) ?_
    rw [decide_eq_true heq]
theorem feq_spec (N : Nat) : ∀ {X : PMap} {a b : Fm} {r r' : Row4}, wtF a ≤ N → N < 100000000 → FmR .u8 X a r → FmR .u8 X b r' → Spec Tryz.prog 53 [.agg #[r.1, r.2.1, r.2.2.1, r.2.2.2], .agg #[r'.1, r'.2.1, r'.2.2.1, r'.2.2.2]] X fun u _ => u = .bool (decide (a = b)) := by
  induction N with
  | zero => intro X a b r r' h; have := wtF_pos a; omega
  | succ N ih =>
    intro X a b r r' hN hB h h'
    cases h with
    | @mk op n ns al vn va rows hn ha hl hr =>
    cases h' with
    | @mk op' n' ns' al' vn' va' rows' hn' ha' hl' hr' =>
    obtain ⟨Aa, ca, rfl⟩ := ha.form
    obtain ⟨An, cn, rfl⟩ := hn.form
    obtain ⟨Aa', ca', rfl⟩ := ha'.form
    obtain ⟨An', cn', rfl⟩ := hn'.form
    have hlen := wtFL_len al
    rw [wtF] at hN
    by_cases h1 : op = op'
    case neg =>
      refine Spec.enter Tryz.func53 rfl Tryz.ntmps53 rfl ?_
      intro w0 hw0
      refine T.seq <| T.region <| SL.w (op_box rfl) ?_
      rintro _ _ _ ⟨B2, rfl, rfl, rfl⟩
      refine SL.w (op_box rfl) ?_
      rintro _ _ _ ⟨B3, rfl, rfl, rfl⟩
      refine SL.as rfl <| SL.nil <| T.seq <| T.region <| SL.v (op_fieldAddr fa36_0 rfl) <| SL.v (op_load ty33 rfl (by repeat constructor) rfl) ?_
      refine SL.v (op_fieldAddr fa36_0 rfl) <| SL.v (op_load ty33 rfl (by repeat constructor) rfl) ?_
      refine SL.v (op_eqlF rfl rfl (by omega)) ?_
      refine SL.mv rfl <| SL.skip rfl rfl ?_
      refine SL.skip rfl rfl ?_
      refine SL.skip rfl rfl ?_
      refine SL.skip rfl rfl ?_
      refine SL.skip rfl rfl ?_
      refine SL.v (op_pickF rfl rfl) <| SL.mv rfl <| SL.skip rfl rfl ?_
      refine SL.skip rfl rfl ?_
      refine SL.skip rfl rfl ?_
      refine SL.skip rfl rfl ?_
      refine SL.skip rfl rfl ?_
      refine SL.v (op_pickF rfl rfl) <| SL.mv rfl <| SL.skip rfl rfl ?_
      refine SL.skip rfl rfl ?_
      refine SL.skip rfl rfl ?_
      refine SL.skip rfl rfl ?_
      refine SL.skip rfl rfl ?_
      refine SL.v (op_pickF rfl rfl) <| SL.as rfl <| SL.nil <| T.ret1 rfl (ResIs.tmp rfl) ?_
      rw [decide_eq_false fun e => h1 (fm_eq.1 e).1]
    by_cases h2 : n = n'
    case neg =>
      refine Spec.enter Tryz.func53 rfl Tryz.ntmps53 rfl ?_
      intro w0 hw0
      refine T.seq <| T.region <| SL.w (op_box rfl) ?_
      rintro _ _ _ ⟨B2, rfl, rfl, rfl⟩
      refine SL.w (op_box rfl) ?_
      rintro _ _ _ ⟨B3, rfl, rfl, rfl⟩
      refine SL.as rfl <| SL.nil <| T.seq <| T.region <| SL.v (op_fieldAddr fa36_0 rfl) <| SL.v (op_load ty33 rfl (by repeat constructor) rfl) ?_
      refine SL.v (op_fieldAddr fa36_0 rfl) <| SL.v (op_load ty33 rfl (by repeat constructor) rfl) ?_
      refine SL.v (op_eqlT rfl rfl (by omega)) ?_
      refine SL.mv rfl <| SL.v (op_fieldAddr fa36_1 rfl) <| SL.v (op_load ty3 rfl (by repeat constructor) rfl) ?_
      refine SL.v (op_fieldAddr fa36_1 rfl) <| SL.v (op_load ty3 rfl (by repeat constructor) rfl) ?_
      refine SL.v (op_eqlF rfl rfl (by omega)) ?_
      refine SL.v (op_pickT rfl rfl) <| SL.mv rfl <| SL.skip rfl rfl ?_
      refine SL.skip rfl rfl ?_
      refine SL.skip rfl rfl ?_
      refine SL.skip rfl rfl ?_
      refine SL.skip rfl rfl ?_
      refine SL.v (op_pickF rfl rfl) <| SL.mv rfl <| SL.skip rfl rfl ?_
      refine SL.skip rfl rfl ?_
      refine SL.skip rfl rfl ?_
      refine SL.skip rfl rfl ?_
      refine SL.skip rfl rfl ?_
      refine SL.v (op_pickF rfl rfl) <| SL.as rfl <| SL.nil <| T.ret1 rfl (ResIs.tmp rfl) ?_
      rw [decide_eq_false fun e => h2 (fm_eq.1 e).2.1]
    by_cases h3 : ns = ns'
    case neg =>
      refine Spec.enter Tryz.func53 rfl Tryz.ntmps53 rfl ?_
      intro w0 hw0
      refine T.seq <| T.region <| SL.w (op_box rfl) ?_
      rintro _ _ _ ⟨B2, rfl, rfl, rfl⟩
      refine SL.w (op_box rfl) ?_
      rintro _ _ _ ⟨B3, rfl, rfl, rfl⟩
      refine SL.as rfl <| SL.nil <| T.seq <| T.region <| SL.v (op_fieldAddr fa36_0 rfl) <| SL.v (op_load ty33 rfl (by repeat constructor) rfl) ?_
      refine SL.v (op_fieldAddr fa36_0 rfl) <| SL.v (op_load ty33 rfl (by repeat constructor) rfl) ?_
      refine SL.v (op_eqlT rfl rfl (by omega)) ?_
      refine SL.mv rfl <| SL.v (op_fieldAddr fa36_1 rfl) <| SL.v (op_load ty3 rfl (by repeat constructor) rfl) ?_
      refine SL.v (op_fieldAddr fa36_1 rfl) <| SL.v (op_load ty3 rfl (by repeat constructor) rfl) ?_
      refine SL.v (op_eqlT rfl rfl (by omega)) ?_
      refine SL.v (op_pickT rfl rfl) <| SL.mv rfl <| SL.v (op_fieldAddr fa36_2 rfl) <| SL.v (op_load ty24 rfl (by repeat constructor) rfl) ?_
      refine SL.v (op_fieldAddr fa36_2 rfl) <| SL.v (op_load ty24 rfl (by repeat constructor) rfl) ?_
      refine SL.w (op_callF en39 (vs := [_, _]) rfl (eqInts_spec hn.1 hn'.1 (by omega))) ?_
      rintro _ _ X1 ⟨rfl, hX1, rfl⟩
      rw [decide_eq_false h3]
      refine SL.v (op_pickT rfl rfl) <| SL.mv rfl <| SL.skip rfl rfl ?_
      refine SL.skip rfl rfl ?_
      refine SL.skip rfl rfl ?_
      refine SL.skip rfl rfl ?_
      refine SL.skip rfl rfl ?_
      refine SL.v (op_pickF rfl rfl) <| SL.as rfl <| SL.nil <| T.ret1 rfl (ResIs.tmp rfl) ?_
      rw [decide_eq_false fun e => h3 (fm_eq.1 e).2.2.1]
    refine Spec.enter Tryz.func53 rfl Tryz.ntmps53 rfl ?_
    intro w0 hw0
    refine T.seq <| T.region <| SL.w (op_box rfl) ?_
    rintro _ _ _ ⟨B2, rfl, rfl, rfl⟩
    refine SL.w (op_box rfl) ?_
    rintro _ _ _ ⟨B3, rfl, rfl, rfl⟩
    refine SL.as rfl <| SL.nil <| T.seq <| T.region <| SL.v (op_fieldAddr fa36_0 rfl) <| SL.v (op_load ty33 rfl (by repeat constructor) rfl) ?_
    refine SL.v (op_fieldAddr fa36_0 rfl) <| SL.v (op_load ty33 rfl (by repeat constructor) rfl) ?_
    refine SL.v (op_eqlT rfl rfl (by omega)) ?_
    refine SL.mv rfl <| SL.v (op_fieldAddr fa36_1 rfl) <| SL.v (op_load ty3 rfl (by repeat constructor) rfl) ?_
    refine SL.v (op_fieldAddr fa36_1 rfl) <| SL.v (op_load ty3 rfl (by repeat constructor) rfl) ?_
    refine SL.v (op_eqlT rfl rfl (by omega)) ?_
    refine SL.v (op_pickT rfl rfl) <| SL.mv rfl <| SL.v (op_fieldAddr fa36_2 rfl) <| SL.v (op_load ty24 rfl (by repeat constructor) rfl) ?_
    refine SL.v (op_fieldAddr fa36_2 rfl) <| SL.v (op_load ty24 rfl (by repeat constructor) rfl) ?_
    refine SL.w (op_callF en39 (vs := [_, _]) rfl (eqInts_spec hn.1 hn'.1 (by omega))) ?_
    rintro _ _ X1 ⟨rfl, hX1, rfl⟩
    rw [decide_eq_true h3]
    refine SL.v (op_pickT rfl rfl) <| SL.mv rfl <| SL.v (op_fieldAddr fa36_3 rfl) <| SL.v (op_load ty34 rfl (by repeat constructor) rfl) ?_
    refine SL.v (op_fieldAddr fa36_3 rfl) <| SL.v (op_load ty34 rfl (by repeat constructor) rfl) ?_
    refine SL.w (op_callF en101 (vs := [_, _, _]) rfl (feqFn_spec (ha.mono hX1) (ha'.mono hX1) hl hl' (by omega) (fun i a r x y => (hr i a r x y).mono hX1) (fun i a r x y => (hr' i a r x y).mono hX1) (fun hm h1 h2 => ih (by have := wtFL_mem hm; omega) (by omega) h1 h2))) ?_
    rintro _ _ X2 ⟨rfl, hX2, rfl⟩
    refine SL.v (op_pickT rfl rfl) <| SL.as rfl <| SL.nil <| T.ret1 rfl (ResIs.tmp rfl) ?_
    congr 1
    exact decide_eq_decide.2 (by rw [fm_eq]; simp [h1, h2, h3])
theorem feqC_spec {X : PMap} {c d : Cf} {r r' : Row7} (h : CfR X c r) (h' : CfR X d r') (hw : wtF c.fm < 900000) : Spec Tryz.prog 51 [.agg (rc7 r).toArray, .agg (rc7 r').toArray] X fun u _ => u = .bool (decide (c = d)) := by
  obtain ⟨e, k, s, x⟩ := c
  obtain ⟨e', k', s', x'⟩ := d
  have hex := h.2.2.2
  have hex' := h'.2.2.2
  obtain ⟨o0, n0, a0, b0, l0, c0, m0, d0, rfl⟩ := h.form
  obtain ⟨o1, n1, a1, b1, l1, c1, m1, d1, rfl⟩ := h'.form
  simp only at hex hex' hw
  have hcall := feq_spec _ (Nat.le_refl _) (by omega) hex hex'
  try simp only at hcall
  have e0 : (rc7 (e, k, s, .int .u8 (o0 : Int), .int .i64 n0, .slice a0 l0 c0, .slice b0 m0 d0)).toArray = #[.bool e, .int .u8 (k : Int), .string s, .int .u8 (o0 : Int), .int .i64 n0, .slice a0 l0 c0, .slice b0 m0 d0] := rfl
  have e1 : (rc7 (e', k', s', .int .u8 (o1 : Int), .int .i64 n1, .slice a1 l1 c1, .slice b1 m1 d1)).toArray = #[.bool e', .int .u8 (k' : Int), .string s', .int .u8 (o1 : Int), .int .i64 n1, .slice a1 l1 c1, .slice b1 m1 d1] := rfl
  rw [e0, e1]
  by_cases h1 : e = e'
  case neg =>
    have hb : (e == e') = false := by simpa using h1
    refine Spec.enter Tryz.func51 rfl Tryz.ntmps51 rfl ?_
    intro w0 hw0
    refine T.seq <| T.region <| SL.w (op_box rfl) ?_
    rintro _ _ _ ⟨B2, rfl, rfl, rfl⟩
    refine SL.w (op_box rfl) ?_
    rintro _ _ _ ⟨B3, rfl, rfl, rfl⟩
    refine SL.as rfl <| SL.nil <| T.seq <| T.region <| SL.v (op_fieldAddr fa101_0 rfl) <| SL.v (op_load ty4 rfl (by repeat constructor) rfl) ?_
    refine SL.v (op_fieldAddr fa101_0 rfl) <| SL.v (op_load ty4 rfl (by repeat constructor) rfl) ?_
    refine SL.v (op_eqlBb Tryz.underlying4 rfl rfl) ?_
    rw [hb]
    refine SL.mv rfl <| SL.skip rfl rfl ?_
    refine SL.skip rfl rfl ?_
    refine SL.skip rfl rfl ?_
    refine SL.skip rfl rfl ?_
    refine SL.skip rfl rfl ?_
    refine SL.v (op_pickF rfl rfl) <| SL.mv rfl <| SL.skip rfl rfl ?_
    refine SL.skip rfl rfl ?_
    refine SL.skip rfl rfl ?_
    refine SL.skip rfl rfl ?_
    refine SL.skip rfl rfl ?_
    refine SL.v (op_pickF rfl rfl) <| SL.mv rfl <| SL.skip rfl rfl ?_
    refine SL.skip rfl rfl ?_
    refine SL.skip rfl rfl ?_
    refine SL.skip rfl rfl ?_
    refine SL.skip rfl rfl ?_
    refine SL.v (op_pickF rfl rfl) <| SL.as rfl <| SL.nil <| T.ret1 rfl (ResIs.tmp rfl) ?_
    rw [decide_eq_false fun e => h1 (cf_eq.1 e).1]
  subst h1
  by_cases h2 : k = k'
  case neg =>
    refine Spec.enter Tryz.func51 rfl Tryz.ntmps51 rfl ?_
    intro w0 hw0
    refine T.seq <| T.region <| SL.w (op_box rfl) ?_
    rintro _ _ _ ⟨B2, rfl, rfl, rfl⟩
    refine SL.w (op_box rfl) ?_
    rintro _ _ _ ⟨B3, rfl, rfl, rfl⟩
    refine SL.as rfl <| SL.nil <| T.seq <| T.region <| SL.v (op_fieldAddr fa101_0 rfl) <| SL.v (op_load ty4 rfl (by repeat constructor) rfl) ?_
    refine SL.v (op_fieldAddr fa101_0 rfl) <| SL.v (op_load ty4 rfl (by repeat constructor) rfl) ?_
    refine SL.v (op_eqlBb Tryz.underlying4 rfl rfl) ?_
    rw [show (e == e) = true by simp]
    refine SL.mv rfl <| SL.v (op_fieldAddr fa101_1 rfl) <| SL.v (op_load ty41 rfl (by repeat constructor) rfl) ?_
    refine SL.v (op_fieldAddr fa101_1 rfl) <| SL.v (op_load ty41 rfl (by repeat constructor) rfl) ?_
    refine SL.v (op_eqlF rfl rfl (by omega)) ?_
    refine SL.v (op_pickT rfl rfl) <| SL.mv rfl <| SL.skip rfl rfl ?_
    refine SL.skip rfl rfl ?_
    refine SL.skip rfl rfl ?_
    refine SL.skip rfl rfl ?_
    refine SL.skip rfl rfl ?_
    refine SL.v (op_pickF rfl rfl) <| SL.mv rfl <| SL.skip rfl rfl ?_
    refine SL.skip rfl rfl ?_
    refine SL.skip rfl rfl ?_
    refine SL.skip rfl rfl ?_
    refine SL.skip rfl rfl ?_
    refine SL.v (op_pickF rfl rfl) <| SL.as rfl <| SL.nil <| T.ret1 rfl (ResIs.tmp rfl) ?_
    rw [decide_eq_false fun e => h2 (cf_eq.1 e).2.1]
  by_cases h3 : s = s'
  case neg =>
    refine Spec.enter Tryz.func51 rfl Tryz.ntmps51 rfl ?_
    intro w0 hw0
    refine T.seq <| T.region <| SL.w (op_box rfl) ?_
    rintro _ _ _ ⟨B2, rfl, rfl, rfl⟩
    refine SL.w (op_box rfl) ?_
    rintro _ _ _ ⟨B3, rfl, rfl, rfl⟩
    refine SL.as rfl <| SL.nil <| T.seq <| T.region <| SL.v (op_fieldAddr fa101_0 rfl) <| SL.v (op_load ty4 rfl (by repeat constructor) rfl) ?_
    refine SL.v (op_fieldAddr fa101_0 rfl) <| SL.v (op_load ty4 rfl (by repeat constructor) rfl) ?_
    refine SL.v (op_eqlBb Tryz.underlying4 rfl rfl) ?_
    rw [show (e == e) = true by simp]
    refine SL.mv rfl <| SL.v (op_fieldAddr fa101_1 rfl) <| SL.v (op_load ty41 rfl (by repeat constructor) rfl) ?_
    refine SL.v (op_fieldAddr fa101_1 rfl) <| SL.v (op_load ty41 rfl (by repeat constructor) rfl) ?_
    refine SL.v (op_eqlT rfl rfl (by omega)) ?_
    refine SL.v (op_pickT rfl rfl) <| SL.mv rfl <| SL.v (op_fieldAddr fa101_2 rfl) <| SL.v (op_load ty9 rfl (by repeat constructor) rfl) ?_
    refine SL.v (op_fieldAddr fa101_2 rfl) <| SL.v (op_load ty9 rfl (by repeat constructor) rfl) ?_
    refine SL.v (op_eqlStrD rfl rfl) ?_
    rw [decide_eq_false h3]
    refine SL.v (op_pickT rfl rfl) <| SL.mv rfl <| SL.skip rfl rfl ?_
    refine SL.skip rfl rfl ?_
    refine SL.skip rfl rfl ?_
    refine SL.skip rfl rfl ?_
    refine SL.skip rfl rfl ?_
    refine SL.v (op_pickF rfl rfl) <| SL.as rfl <| SL.nil <| T.ret1 rfl (ResIs.tmp rfl) ?_
    rw [decide_eq_false fun e => h3 (cf_eq.1 e).2.2.1]
  refine Spec.enter Tryz.func51 rfl Tryz.ntmps51 rfl ?_
  intro w0 hw0
  refine T.seq <| T.region <| SL.w (op_box rfl) ?_
  rintro _ _ _ ⟨B2, rfl, rfl, rfl⟩
  refine SL.w (op_box rfl) ?_
  rintro _ _ _ ⟨B3, rfl, rfl, rfl⟩
  refine SL.as rfl <| SL.nil <| T.seq <| T.region <| SL.v (op_fieldAddr fa101_0 rfl) <| SL.v (op_load ty4 rfl (by repeat constructor) rfl) ?_
  refine SL.v (op_fieldAddr fa101_0 rfl) <| SL.v (op_load ty4 rfl (by repeat constructor) rfl) ?_
  refine SL.v (op_eqlBb Tryz.underlying4 rfl rfl) ?_
  rw [show (e == e) = true by simp]
  refine SL.mv rfl <| SL.v (op_fieldAddr fa101_1 rfl) <| SL.v (op_load ty41 rfl (by repeat constructor) rfl) ?_
  refine SL.v (op_fieldAddr fa101_1 rfl) <| SL.v (op_load ty41 rfl (by repeat constructor) rfl) ?_
  refine SL.v (op_eqlT rfl rfl (by omega)) ?_
  refine SL.v (op_pickT rfl rfl) <| SL.mv rfl <| SL.v (op_fieldAddr fa101_2 rfl) <| SL.v (op_load ty9 rfl (by repeat constructor) rfl) ?_
  refine SL.v (op_fieldAddr fa101_2 rfl) <| SL.v (op_load ty9 rfl (by repeat constructor) rfl) ?_
  refine SL.v (op_eqlStrD rfl rfl) ?_
  rw [decide_eq_true h3]
  refine SL.v (op_pickT rfl rfl) <| SL.mv rfl <| SL.v (op_fieldAddr fa101_3 rfl) <| SL.v (op_load ty36 rfl (by repeat constructor) rfl) ?_
  refine SL.v (op_fieldAddr fa101_3 rfl) <| SL.v (op_load ty36 rfl (by repeat constructor) rfl) ?_
  refine SL.w (op_callF en53 (vs := [_, _]) rfl (hcall)) ?_
  rintro _ _ X2 ⟨rfl, hX2, rfl⟩
  refine SL.v (op_pickT rfl rfl) <| SL.as rfl <| SL.nil <| T.ret1 rfl (ResIs.tmp rfl) ?_
  congr 1
  exact decide_eq_decide.2 (by rw [cf_eq]; simp [h2, h3])

end Go.Proofs.YtnpcilglilfajaaGreatDoor
namespace Go.Proofs.YtnpcilglilfajaaGreatDoor
open Go.RowKit
inductive Tr where
  | nil
  | t (i : Nat) (r : Tr)
  | r (i : Nat) (r : Tr)
  | w (i j : Nat) (p q : Tr)
  | w3 (i j k : Nat) (p q s : Tr)
def tlen : Tr → Nat
  | .nil => 0
  | .t _ r => tlen r + 1
  | .r _ r => tlen r + 1
  | .w _ _ p _ => tlen p + 1
  | .w3 _ _ _ p _ _ => tlen p + 1
def treeOk (ops : Array Oper) (nh : Nat) : Tr → Array Bool → Bool
  | .nil, listed => Region.seqB .any ops (ops.size - nh) nh listed
  | .t i r, listed => Nat.blt i nh && (Region.ready .any ops listed).contains i && Region.free .any ops listed i && depB ops none i && treeOk ops nh r (listed.setIfInBounds i true)
  | .r i r, listed => Nat.blt i nh && decide (Region.ready .any ops listed = [i]) && treeOk ops nh r (listed.setIfInBounds i true)
  | .w i j p q, listed => Nat.blt i nh && Nat.blt j nh && Nat.beq (tlen p) (tlen q) && decide (Region.ready .any ops listed = [i, j]) && treeOk ops nh p (listed.setIfInBounds i true) && treeOk ops nh q (listed.setIfInBounds j true)
  | .w3 i j k p q s, listed => Nat.blt i nh && Nat.blt j nh && Nat.blt k nh && Nat.beq (tlen p) (tlen q) && Nat.beq (tlen p) (tlen s) && decide (Region.ready .any ops listed = [i, j, k]) && treeOk ops nh p (listed.setIfInBounds i true) && treeOk ops nh q (listed.setIfInBounds j true) && treeOk ops nh s (listed.setIfInBounds k true)
def treeDrawOk (ops : Array Oper) (nh : Nat) (tr : Tr) : Bool :=
  noDefers ops && Region.noSelect ops && tailB ops nh && decide (tlen tr + (ops.size - nh) = ops.size) && treeOk ops nh tr (Array.replicate ops.size false)
def SDT (ro : Option Nat) (P : Program) (n : NM) (w0 : Base) (X0 : PMap) (ops : Array Oper) (Q : Exit → Act → World → Prop) (nh : Nat) (ownS : Own) (XS : PMap) (tr : Tr) (env : Env) (own : Own) (X : PMap) : Prop :=
  ∀ (listed : Array Bool) a W, Region.noSelect ops = true → noDefers ops = true → TailWaits ops nh → HeadInv .any ops nh listed → treeOk ops nh tr listed = true →
    EOk n env a → Sat w0 X0 own X W → Stab ownS XS W → hdAny ro P ops Q none (Stab ownS XS) nh (tailL ro P ops Q nh) (tlen tr) listed a W
section
variable {P : Program} {n : NM} {w0 : Base} {X0 X XS : PMap} {own ownS : Own} {env : Env} {ops : Array Oper} {Q : Exit → Act → World → Prop} {nh : Nat} {ro : Option Nat}
theorem SDT.nil (h : SL ro P n w0 X0 ops Q (ops.toList.drop nh) env own X) : SDT ro P n w0 X0 ops Q nh ownS XS .nil env own X :=
  fun _ a W _ _ _ _ hp ha hs _ => ⟨hp, h a W ha hs⟩
theorem SDT.take {i : Nat} {tr : Tr} {d : Option Tmp} {op : Op} {ty : TypeId} {pos : String} {af : Array Edge} {g : Option (Nat × Bool)} {v : Value} (hi : ops[i]? = some ⟨d, op, ty, pos, af, g⟩)
    (hQ : ∀ c a w, Q (.panic c) (a.put d v) w → Q (.panic c) a w)
    (h : OpY P n env ownS XS op v) (hg : gwant ops env g = some true) (hd : dok n d = true) (h' : SDT ro P n w0 X0 ops Q nh ownS XS tr (eput env d v) own X) : SDT ro P n w0 X0 ops Q nh ownS XS (.t i tr) env own X := by
  intro listed a W hns hnd ht inv hp ha hs hst
  simp only [treeOk, Bool.and_eq_true] at hp
  obtain ⟨⟨⟨⟨hin, hr⟩, hf⟩, hdp⟩, hp⟩ := hp
  have hin' : i < nh := Nat.le_of_ble_eq_true hin
  have hr' : i ∈ Region.ready .any ops listed := by simpa using hr
  refine hd_first hi (Region.noSelect_spec hns) (noDefers_spec hnd) ht hin' hQ (fun _ _ _ h => tail_done h) (depB_ne hdp) (fun l w inv hun h => h (depB_opn hdp inv hun)) _ listed a W inv (Region.free_spec hi hf) hr' (.inl ⟨gwant_spec ha hg, fun w hw => h a w _ rfl ha hw⟩) (fun _ => hst) ?_
  exact h' _ _ _ hns hnd ht (inv.set hr' hin') hp (ha.eput hd v) hs hst
theorem SDT.run {i : Nat} {tr : Tr} {d : Option Tmp} {op : Op} {ty : TypeId} {pos : String} {af : Array Edge} {g : Option (Nat × Bool)} {k : Value → Own → PMap → Prop} (hi : ops[i]? = some ⟨d, op, ty, pos, af, g⟩)
    (h : OpX P n w0 X0 env own X op true k) (hg : gwant ops env g = some true) (hd : dok n d = true) (h' : ∀ v own' X', k v own' X' → SDT ro P n w0 X0 ops Q nh ownS XS tr (eput env d v) own' X') : SDT ro P n w0 X0 ops Q nh ownS XS (.r i tr) env own X := by
  intro listed a W hns hnd ht inv hp ha hs hst
  simp only [treeOk, Bool.and_eq_true, decide_eq_true_eq] at hp
  obtain ⟨⟨hin, hr⟩, hp⟩ := hp
  have hin' : i < nh := Nat.le_of_ble_eq_true hin
  have hr' : i ∈ Region.ready .any ops listed := by rw [hr]; simp
  refine ⟨by rw [hr]; simp, fun j hj => ?_⟩
  rw [hr] at hj
  have hji : j = i := by simpa using hj
  subst hji
  refine ⟨hin', ?_⟩
  unfold wpOpIn
  simp only [hi]
  rw [if_pos (gwant_spec ha hg)]
  refine h a W _ _ _ _ rfl ha hs fun v own' X' W' hk hs' hgr => ⟨fun _ => hst.grow (hgr rfl), ?_⟩
  exact h' v own' X' hk _ _ _ hns hnd ht (inv.set hr' hin') hp (ha.eput hd v) hs' (hst.grow (hgr rfl))
theorem SDT.runK {i : Nat} {tr : Tr} {d : Option Tmp} {op : Op} {ty : TypeId} {pos : String} {af : Array Edge} {g : Option (Nat × Bool)} {gr : Bool} {k : Value → Own → PMap → Prop} (hi : ops[i]? = some ⟨d, op, ty, pos, af, g⟩)
    (h : OpX P n w0 X0 env own X op gr k) (hkeep : ∀ v own' X', k v own' X' → (∀ p ∈ ownS, p ∈ own') ∧ XS.le X') (hg : gwant ops env g = some true) (hd : dok n d = true) (h' : ∀ v own' X', k v own' X' → SDT ro P n w0 X0 ops Q nh ownS XS tr (eput env d v) own' X') : SDT ro P n w0 X0 ops Q nh ownS XS (.r i tr) env own X := by
  intro listed a W hns hnd ht inv hp ha hs hst
  simp only [treeOk, Bool.and_eq_true, decide_eq_true_eq] at hp
  obtain ⟨⟨hin, hr⟩, hp⟩ := hp
  have hin' : i < nh := Nat.le_of_ble_eq_true hin
  have hr' : i ∈ Region.ready .any ops listed := by rw [hr]; simp
  refine ⟨by rw [hr]; simp, fun j hj => ?_⟩
  rw [hr] at hj
  have hji : j = i := by simpa using hj
  subst hji
  refine ⟨hin', ?_⟩
  unfold wpOpIn
  simp only [hi]
  rw [if_pos (gwant_spec ha hg)]
  refine h a W _ _ _ _ rfl ha hs fun v own' X' W' hk hs' _ => ?_
  obtain ⟨h1, h2⟩ := hkeep v own' X' hk
  have hst' : Stab ownS XS W' := ⟨fun p hp => hs'.stab.own p (h1 p hp), fun q o hq => hs'.stab.pers q o (h2 q o hq)⟩
  exact ⟨fun _ => hst', h' v own' X' hk _ _ _ hns hnd ht (inv.set hr' hin') hp (ha.eput hd v) hs' hst'⟩
theorem SDT.one {i : Nat} {tr : Tr} {d : Option Tmp} {op : Op} {ty : TypeId} {pos : String} {af : Array Edge} {g : Option (Nat × Bool)} {k : Value → Own → PMap → Prop} {listed : Array Bool} {a : Act} {W : World} (hi : ops[i]? = some ⟨d, op, ty, pos, af, g⟩)
    (h : OpX P n w0 X0 env own X op true k) (hg : gwant ops env g = some true) (hd : dok n d = true) (h' : ∀ v own' X', k v own' X' → SDT ro P n w0 X0 ops Q nh ownS XS tr (eput env d v) own' X')
    (hns : Region.noSelect ops = true) (hnd : noDefers ops = true) (ht : TailWaits ops nh) (inv : HeadInv .any ops nh listed) (hr : i ∈ Region.ready .any ops listed) (hin : i < nh) (hp : treeOk ops nh tr (listed.setIfInBounds i true) = true)
    (ha : EOk n env a) (hs : Sat w0 X0 own X W) (hst : Stab ownS XS W) : i < nh ∧ wpOpIn (FR ro) DEP P ops Q i (fun a' w' => (opn none (listed.setIfInBounds i true) = true → Stab ownS XS w') ∧ hdAny ro P ops Q none (Stab ownS XS) nh (tailL ro P ops Q nh) (tlen tr) (listed.setIfInBounds i true) a' w') a W := by
  refine ⟨hin, ?_⟩
  unfold wpOpIn
  simp only [hi]
  rw [if_pos (gwant_spec ha hg)]
  refine h a W _ _ _ _ rfl ha hs fun v own' X' W' hk hs' hgr => ⟨fun _ => hst.grow (hgr rfl), ?_⟩
  exact h' v own' X' hk _ _ _ hns hnd ht (inv.set hr hin) hp (ha.eput hd v) hs' (hst.grow (hgr rfl))
theorem SDT.two {i j : Nat} {p q : Tr} {d1 d2 : Option Tmp} {op1 op2 : Op} {tya tyb : TypeId} {pos1 pos2 : String} {af1 af2 : Array Edge} {g1 g2 : Option (Nat × Bool)} {k1 k2 : Value → Own → PMap → Prop}
    (hi : ops[i]? = some ⟨d1, op1, tya, pos1, af1, g1⟩) (hj : ops[j]? = some ⟨d2, op2, tyb, pos2, af2, g2⟩)
    (h1 : OpX P n w0 X0 env own X op1 true k1) (h2 : OpX P n w0 X0 env own X op2 true k2) (hg1 : gwant ops env g1 = some true) (hg2 : gwant ops env g2 = some true) (hd1 : dok n d1 = true) (hd2 : dok n d2 = true)
    (c1 : ∀ v own' X', k1 v own' X' → SDT ro P n w0 X0 ops Q nh ownS XS p (eput env d1 v) own' X')
    (c2 : ∀ v own' X', k2 v own' X' → SDT ro P n w0 X0 ops Q nh ownS XS q (eput env d2 v) own' X') : SDT ro P n w0 X0 ops Q nh ownS XS (.w i j p q) env own X := by
  intro listed a W hns hnd ht inv hp ha hs hst
  simp only [treeOk, Bool.and_eq_true, decide_eq_true_eq] at hp
  obtain ⟨⟨⟨⟨⟨hin, hjn⟩, hlen⟩, hr⟩, hp1⟩, hp2⟩ := hp
  have hlen := Nat.eq_of_beq_eq_true hlen
  have hr1 : i ∈ Region.ready .any ops listed := by rw [hr]; simp
  have hr2 : j ∈ Region.ready .any ops listed := by rw [hr]; simp
  have b1 := SDT.one hi h1 hg1 hd1 c1 hns hnd ht inv hr1 (Nat.le_of_ble_eq_true hin) hp1 ha hs hst
  have b2 := SDT.one hj h2 hg2 hd2 c2 hns hnd ht inv hr2 (Nat.le_of_ble_eq_true hjn) hp2 ha hs hst
  rw [← hlen] at b2
  refine ⟨by rw [hr]; simp, fun k hk => ?_⟩
  rw [hr] at hk
  rcases (by simpa using hk : k = i ∨ k = j) with rfl | rfl
  · exact b1
  · exact b2
theorem SDT.three {i j k : Nat} {p q s : Tr} {d1 d2 d3 : Option Tmp} {op1 op2 op3 : Op} {tya tyb tyc : TypeId} {pos1 pos2 pos3 : String} {af1 af2 af3 : Array Edge} {g1 g2 g3 : Option (Nat × Bool)} {k1 k2 k3 : Value → Own → PMap → Prop}
    (hi : ops[i]? = some ⟨d1, op1, tya, pos1, af1, g1⟩) (hj : ops[j]? = some ⟨d2, op2, tyb, pos2, af2, g2⟩) (hk : ops[k]? = some ⟨d3, op3, tyc, pos3, af3, g3⟩)
    (h1 : OpX P n w0 X0 env own X op1 true k1) (h2 : OpX P n w0 X0 env own X op2 true k2) (h3 : OpX P n w0 X0 env own X op3 true k3) (hg1 : gwant ops env g1 = some true) (hg2 : gwant ops env g2 = some true) (hg3 : gwant ops env g3 = some true) (hd1 : dok n d1 = true) (hd2 : dok n d2 = true) (hd3 : dok n d3 = true)
    (c1 : ∀ v own' X', k1 v own' X' → SDT ro P n w0 X0 ops Q nh ownS XS p (eput env d1 v) own' X')
    (c2 : ∀ v own' X', k2 v own' X' → SDT ro P n w0 X0 ops Q nh ownS XS q (eput env d2 v) own' X')
    (c3 : ∀ v own' X', k3 v own' X' → SDT ro P n w0 X0 ops Q nh ownS XS s (eput env d3 v) own' X') : SDT ro P n w0 X0 ops Q nh ownS XS (.w3 i j k p q s) env own X := by
  intro listed a W hns hnd ht inv hp ha hs hst
  simp only [treeOk, Bool.and_eq_true, decide_eq_true_eq] at hp
  obtain ⟨⟨⟨⟨⟨⟨⟨⟨hin, hjn⟩, hkn⟩, hlen⟩, hlen2⟩, hr⟩, hp1⟩, hp2⟩, hp3⟩ := hp
  have hlen := Nat.eq_of_beq_eq_true hlen
  have hlen2 := Nat.eq_of_beq_eq_true hlen2
  have hr1 : i ∈ Region.ready .any ops listed := by rw [hr]; simp
  have hr2 : j ∈ Region.ready .any ops listed := by rw [hr]; simp
  have hr3 : k ∈ Region.ready .any ops listed := by rw [hr]; simp
  have b1 := SDT.one hi h1 hg1 hd1 c1 hns hnd ht inv hr1 (Nat.le_of_ble_eq_true hin) hp1 ha hs hst
  have b2 := SDT.one hj h2 hg2 hd2 c2 hns hnd ht inv hr2 (Nat.le_of_ble_eq_true hjn) hp2 ha hs hst
  have b3 := SDT.one hk h3 hg3 hd3 c3 hns hnd ht inv hr3 (Nat.le_of_ble_eq_true hkn) hp3 ha hs hst
  rw [← hlen] at b2
  rw [← hlen2] at b3
  refine ⟨by rw [hr]; simp, fun x hx => ?_⟩
  rw [hr] at hx
  rcases (by simpa using hx : x = i ∨ x = j ∨ x = k) with rfl | rfl | rfl
  · exact b1
  · exact b2
  · exact b3
theorem SDT.start {id : Nat} {a : Act} {W : World} (hm : P.follows .mixedOrders = true) (tr : Tr) (hok : treeDrawOk ops nh tr = true) (ha : EOk n env a) (hs : Sat w0 X0 own X W)
    (h : SDT ro P n w0 X0 ops Q nh own X tr env own X) : (Code.region id ops true).wpIn (FR ro) DEP P Q a W := by
  simp only [treeDrawOk, Bool.and_eq_true, decide_eq_true_eq] at hok
  obtain ⟨⟨⟨⟨hnd, hns⟩, htb⟩, hlen⟩, hp⟩ := hok
  refine wpIn_region_any hm ?_
  have hs' := hs.draw (W.drawn + 1)
  have inv : HeadInv .any ops nh (Array.replicate ops.size false) := ⟨by simp, (fun j oj _ hl => by rw [getD_replicate_false] at hl; cases hl), (fun t _ ht => by simp [ht])⟩
  have h1 := h (Array.replicate ops.size false) a _ hns hnd (tailWaits_of htb) inv hp ha hs' ⟨fun p hp => hs'.stab.own p hp, hs'.stab.pers⟩
  have hsz : ops.size - nh = (ops.toList.drop nh).length := by simp
  have h2 := wpAny_of_hd (g := ops.size - nh) (fun listed a w (hL : tailL ro P ops Q nh listed a w) => by
    have := wpAnyIn_of_seq (P := P) (ops := ops) (Q := Q) (ro := ro) (ops.toList.drop nh) nh listed a w (fun j => by simp) (by rw [← hsz]; exact hL.1) hL.2
    rw [hsz]; exact this) _ _ _ _ h1
  rw [hlen] at h2
  exact h2
end
end Go.Proofs.YtnpcilglilfajaaGreatDoor
namespace Go.Proofs.YtnpcilglilfajaaGreatDoor
section
set_option maxRecDepth 100000
theorem bs1 : ∃ i z, Tryz.prog.info? 1 = some i ∧ i.size = 1 ∧ i.zero = some z ∧ z.cells = ([.nilFunc] : List Value).toArray := bs_of (by kernel_rfl)
theorem en44 : Enters Tryz.prog 44 := enters_mk Tryz.func44 (by kernel_rfl) rfl
theorem en45 : Enters Tryz.prog 45 := enters_mk Tryz.func45 (by kernel_rfl) rfl
theorem en46 : Enters Tryz.prog 46 := enters_mk Tryz.func46 (by kernel_rfl) rfl
theorem en49 : Enters Tryz.prog 49 := enters_mk Tryz.func49 (by kernel_rfl) rfl
theorem en51 : Enters Tryz.prog 51 := enters_mk Tryz.func51 (by kernel_rfl) rfl
theorem ty96 : Ty Tryz.prog 96 true 4 := ⟨⟨_, Tryz.underlying96, rfl⟩, by kernel_rfl⟩
end
open Go.RowKit
end Go.Proofs.YtnpcilglilfajaaGreatDoor
namespace Go.Proofs.YtnpcilglilfajaaGreatDoor
section
set_option maxRecDepth 100000
theorem bs44 : ∃ i z, Tryz.prog.info? 44 = some i ∧ i.size = 1 ∧ i.zero = some z ∧ z.cells = ([.slice none 0 0] : List Value).toArray := bs_of (by kernel_rfl)
end
open Go.RowKit
theorem readM_err {bs : List Nat} (h : (readM bs).2 ≠ 0) : readM bs = (zeC, 6) := by
  unfold readM at h ⊢
  split
  · rfl
  · rename_i hc; rw [if_neg hc] at h; exact absurd rfl h
theorem readM_wt (bs : List Nat) : wtF (readM bs).1.fm < 20000 := by
  unfold readM
  split
  · decide
  · have := rdF_wt 10 (rcN bs).2.1 (rcN bs).2.2
    show wtF (rdF 10 (rcN bs).2.1 (rcN bs).2.2).1 < 20000
    omega
theorem op_xor8 {P : Program} {n : NM} {own : Own} {X : PMap} {env : Env} {t t' : TypeId} {x y : Operand} {p q : Nat} (hx : eev env x = some (.int .u8 (p : Int))) (hy : eev env y = some (.int .u8 (q : Int))) (h1 : p < 256) (h2 : q < 256) : OpY P n env own X (.binOp .xor t x y t') (.int .u8 ((p ^^^ q : Nat) : Int)) := op_bits hx hy (by simp) (u8_xor_nat p q h1 h2)
theorem bytesC_set {l : List Nat} {i b : Nat} : csets (bytesC l) i (vcells (.int .u8 (b : Int))) = bytesC (l.set i b) := by
  simp [csets, vcells, bytesC, List.map_set]
theorem fReads_spec {X : PMap} (hT : Tab X) {w1 w2 : Value} {bs1 pl : List Nat} {e1 : Bool} {m1 k1 a b : Nat} (hc1 : CutR X w1 bs1) (hm1 : m1 < 256) (_ha : a < 256) (hb : b < 256) (hp : CutR X w2 pl) : Spec Tryz.prog 11 [.agg #[.bool e1, .int .u8 (m1 : Int), w1, .int .u8 (k1 : Int)], .agg #[.int .u8 (a : Int), .int .u8 (b : Int)], w2] X fun u _ => u = .bool true := by
  have hfa := fun {X' : PMap} (hX : X.le X') => fitN_spec (e := e1) (k := k1) (hc1.mono hX) hm1
  obtain ⟨_, ⟨Aw1, cw1, rfl, _⟩, _⟩ := hc1
  obtain ⟨hpb, ⟨Ap, cpp, rfl, hpc⟩, hpl⟩ := hp
  have va := rawC_ok e1 m1 bs1 k1
  obtain ⟨ka1, ka2, ka3, _⟩ := chkC18_ok va
  have wa : wtF (fitR bs1 k1) ≤ 961 := fitR_wt
  have na := fitR_nok bs1 k1
  have ka2 : kdR k1 ≤ 3 := ka2
  have za : 0 < (word6 m1).size ∧ (word6 m1).size ≤ 12 := ⟨by have := (word6_valid m1).1; omega, (word6_valid m1).2.1⟩
  obtain ⟨hlb, hE0⟩ := enc18_len (e := e1) (k := kdR k1) (s := word6 m1) (f := fitR bs1 k1) (by omega) za.2 na (by omega)
  have hlt := enc18_lt e1 (kdR k1) (word6 m1) (fitR bs1 k1)
  refine Spec.enter Tryz.func11 rfl Tryz.ntmps11 rfl ?_
  intro w0 hw0
  refine T.seq <| T.region <| SL.w (op_box rfl) ?_
  rintro _ _ _ ⟨B3, rfl, rfl, rfl⟩
  refine SL.w (op_box rfl) ?_
  rintro _ _ _ ⟨B4, rfl, rfl, rfl⟩
  refine SL.as rfl <| SL.nil <| T.seq <| T.seq <| T.region <| SL.w (op_callF en13 (vs := []) rfl (awake18_spec hT)) ?_
  rintro _ _ X1 ⟨rfl, hX1, rfl⟩
  refine SL.v (op_not rfl) <| SL.nil <| T.condF rfl <| T.skip <| T.seq <| T.region <| SL.v (op_load ty96 rfl (by repeat constructor) rfl) ?_
  refine SL.w (op_callF en44 (vs := [_]) rfl (hfa hX1)) ?_
  rintro _ _ X2 ⟨rfl, hX2, ra, rfl, hra⟩
  have h17 := rcbytes_spec (e := e1) (k := kdR k1) (s := word6 m1) (by omega) za.1 (by omega) (by omega) na hra
  obtain ⟨o1, n1, p1, q1, i1, j1, i2, j2, rfl⟩ := hra.form
  try simp only at h17
  generalize enc18 e1 (kdR k1) (word6 m1) (fitR bs1 k1) = E at *
  refine SL.w (op_callO en46 (vs := [_]) rfl (h17)) ?_
  rintro q _ X3 ⟨G, rfl, hX3, hG⟩
  obtain ⟨bq, cq, rfl, rfl, hq1, hq2⟩ := GrowS.pos hG hE0
  have hk0 : a % E.length < E.length := Nat.mod_lt _ (by omega)
  refine SL.as rfl <| SL.nil <| T.seq <| T.region <| SL.w (op_buildSlice Tryz.underlying44 bs5 (qs := []) rfl rfl rfl rfl rfl) ?_
  rintro _ _ _ ⟨B18, rfl, rfl, rfl⟩
  refine SL.mv rfl <| SL.v (op_indexA (i := 0) Tryz.underlying113 ty5 rfl rfl (by omega)) ?_
  refine SL.v (op_load ty5 rfl (by repeat constructor) rfl) ?_
  refine SL.v (op_convI64 Tryz.underlying5 Tryz.underlying3 rfl (by omega) (by omega)) ?_
  refine SL.mv rfl <| SL.v (op_lenS Tryz.underlying44 rfl) <| SL.v (op_remN (q := E.length) rfl rfl rfl (by omega)) ?_
  generalize hkk : a % E.length = k at *
  obtain ⟨e0, he0⟩ : ∃ e0, E[k]? = some e0 := ⟨_, List.getElem?_eq_getElem hk0⟩
  have he1 := hlt e0 (List.mem_of_getElem? he0)
  refine SL.v (op_sliceHiN Tryz.underlying44 ty5 rfl rfl rfl (by omega)) ?_
  refine SL.w (op_append (q := 0) (m := k) (size := 1) (news := ((bytesC E).drop 0).take (k * 1)) sl44 rfl rfl (by repeat constructor) rfl rfl (Nat.zero_le _) (Nat.zero_le _) (Src.ofOwn (size := 1) (by repeat constructor) (by rw [bytesC_len]; omega)) (fun y hy => bytesC_one E y (List.mem_of_mem_drop (List.mem_of_mem_take hy))) (by omega) (by omega)) ?_
  rintro _ _ _ ⟨bk, cc, rfl, rfl, rfl, hc1, hc2⟩
  refine SL.as rfl <| SL.nil <| T.seq <| T.draw (by kernel_rfl) 13 [.t 0, .t 1, .t 2, .t 3, .t 4, .t 5, .t 6, .t 7, .t 8, .t 9, .t 10, .t 11, .t 12] (by kernel_rfl) ?_
  refine SD.take rfl panicBody (op_move rfl) rfl rfl ?_
  refine SD.take rfl panicBody (op_indexA (i := 0) Tryz.underlying113 ty5 rfl rfl (by omega)) rfl rfl ?_
  refine SD.take rfl panicBody (op_load ty5 rfl (by repeat constructor) rfl) rfl rfl ?_
  refine SD.take rfl panicBody (op_convI64 Tryz.underlying5 Tryz.underlying3 rfl (by omega) (by omega)) rfl rfl ?_
  refine SD.take rfl panicBody (op_move rfl) rfl rfl ?_
  refine SD.take rfl panicBody (op_lenS Tryz.underlying44 rfl) rfl rfl ?_
  refine SD.take rfl panicBody (op_remN (q := E.length) rfl rfl rfl (by omega)) rfl rfl ?_
  rw [hkk]
  refine SD.take rfl panicBody (op_indexN Tryz.underlying44 ty5 rfl rfl (by omega)) rfl rfl ?_
  refine SD.take rfl panicBody (op_load ty5 rfl (by repeat constructor) (cread1k' (bytesC_at he0) (by omega))) rfl rfl ?_
  refine SD.take rfl panicBody (op_indexA (i := 1) Tryz.underlying113 ty5 rfl rfl (by omega)) rfl rfl ?_
  refine SD.take rfl panicBody (op_load ty5 rfl (by repeat constructor) rfl) rfl rfl ?_
  refine SD.take rfl panicBody (op_xor8 rfl rfl he1 hb) rfl rfl ?_
  refine SD.take rfl panicBody (op_indexN Tryz.underlying44 ty5 rfl rfl (by omega)) rfl rfl ?_
  refine SD.nil ?_
  show SL _ _ _ _ _ _ _ [_] _ _ _
  refine SL.w (op_store ty5 rfl rfl (by repeat constructor) rfl rfl (Nat.ble_eq_true_of_le (by rw [bytesC_len]; simp; omega))) ?_
  rintro _ _ _ ⟨rfl, rfl⟩
  refine T.pubAt bq (by repeat constructor) ?_
  intro X4 hX4 hBq _
  refine T.pubAt bk (by repeat constructor) ?_
  intro X5 hX5 hBk _
  refine T.dropAt B4 (by repeat constructor) ?_
  refine T.dropAt B3 (by repeat constructor) ?_
  have hcm : min pl.length 100 ≤ pl.length := Nat.min_le_left ..
  have hc100 : min pl.length 100 ≤ 100 := Nat.min_le_right ..
  have hx0 := ((((hpb.mono hX1).mono hX2).mono hX3).mono hX4).mono hX5
  have hx0 := hx0.take hpc hcm
  refine SL.nil <| T.seq <| T.seq <| T.region <| SL.mv rfl <| SL.mv rfl <| SL.v (op_lenS Tryz.underlying44 rfl) <| SL.v (op_minN rfl rfl) <| SL.v (op_sliceHi Tryz.underlying44 ty5 rfl rfl (by omega)) ?_
  generalize min pl.length 100 = k0 at *
  generalize slA Ap cpp 0 1 = A0 at *
  refine SL.mv rfl <| SL.mv rfl <| SL.w (op_buildSlice Tryz.underlying114 bs44 (qs := [(0, _), (1, _), (2, _)]) rfl rfl rfl rfl rfl) ?_
  rintro _ _ _ ⟨B48, rfl, rfl, rfl⟩
  refine SL.v (op_lenS Tryz.underlying114 rfl) <| SL.v (op_move (v := .int .i64 ((0 : Nat) : Int)) rfl) <| SL.nil <| T.block <| T.pub B48 (by repeat constructor) ?_
  intro X6 hX6 hB _
  have hlt1 : ∀ x ∈ E.set k (e0 ^^^ b), x < 256 := fun x hx => by
    rcases List.mem_or_eq_of_mem_set hx with hx | rfl
    · exact hlt x hx
    · exact Nat.xor_lt_two_pow (n := 8) he1 hb
  have hq6 : BytesR X6 (.slice (some ⟨bq, 0, none⟩) E.length cq) (E.set k (e0 ^^^ b)) := .inr ⟨by rw [List.length_set]; omega, bq, cq, [], by rw [List.length_set]; rfl, by
    have := ((hBq.mono hX5).mono hX6)
    rw [Nat.zero_add, Nat.mul_one, bytesC_set] at this
    exact this⟩
  have hk6 : BytesR X6 (.slice (some ⟨bk, 0, none⟩) (0 + k) cc) (E.take k) := by
    rcases Nat.eq_zero_or_pos k with h0 | h0
    · subst h0
      exact .inl ⟨by simp, _, _, rfl⟩
    · refine .inr ⟨by rw [List.length_take]; omega, bk, cc, [], by rw [List.length_take]; congr 1; simp; omega, ?_⟩
      have := hBk.mono hX6
      rw [List.drop_zero, Nat.mul_one, show ((List.replicate 0 [Value.int IntKind.u8 0]).flatten : List Value) = [] from rfl, List.nil_append] at this
      rw [List.nil_append, bytesC, List.map_take]
      exact this
  have hrow : ∀ (i : Nat), i < 3 → ∃ v bs, [Value.slice A0 k0 cpp, .slice (some ⟨bq, 0, none⟩) E.length cq, .slice (some ⟨bk, 0, none⟩) (0 + k) cc][i]? = some v ∧ BytesR X6 v bs ∧ bs.length < 1000000 ∧ ∀ b ∈ bs, b < 256 := by
    intro i hi
    match i, hi with
    | 0, _ => exact ⟨_, _, rfl, hx0.mono hX6, by rw [List.length_take]; omega, fun b hb => hpl b (List.mem_of_mem_take hb)⟩
    | 1, _ => exact ⟨_, _, rfl, hq6, by rw [List.length_set]; omega, hlt1⟩
    | 2, _ => exact ⟨_, _, rfl, hk6, by rw [List.length_take]; omega, fun b hb => hlt b (List.mem_of_mem_take hb)⟩
  have hB : Blk X6 B48 [Value.slice A0 k0 cpp, .slice (some ⟨bq, 0, none⟩) E.length cq, .slice (some ⟨bk, 0, none⟩) (0 + k) cc] := hB
  generalize [Value.slice A0 k0 cpp, .slice (some ⟨bq, 0, none⟩) E.length cq, .slice (some ⟨bk, 0, none⟩) (0 + k) cc] = vs at *
  refine T.loopW (fun m env own X' => ∃ i : Nat, m = 3 - i ∧ i ≤ 3 ∧ X6.le X' ∧ env = [(48, .slice (some ⟨B48, 0, none⟩) 3 3), (49, .int .i64 3), (50, .int .i64 (i : Int))] ∧ own = []) 3 ⟨0, rfl, by omega, PMap.le_refl _, rfl, rfl⟩ (by repeat (first | exact Sub.nil | refine Sub.cons rfl ?_)) ?_
  rintro m _ _ X7 ⟨i, rfl, hi, hX7, rfl, rfl⟩
  rcases Nat.lt_or_ge i 3 with hi3 | hi3
  · obtain ⟨v, bs, hv, hbs, hbl, hb2⟩ := hrow i hi3
    refine T.seq <| T.region <| SL.v (op_lssT rfl rfl (by omega)) ?_
    refine SL.nil <| T.seq <| T.condT rfl <| T.skip <| T.seq <| T.block <| T.seq <| T.region <| SL.v (op_indexN Tryz.underlying114 ty44 rfl rfl (by omega)) ?_
    refine SL.v (op_loadX ty44 rfl (hB.mono hX7) (cread1k' hv (by omega))) ?_
    obtain ⟨Av, cv, rfl⟩ := hbs.form
    refine SL.as rfl <| SL.nil <| T.seq <| T.region <| SL.mv rfl ?_
    have hwt := readM_wt bs
    refine SL.w (op_callF en45 (vs := [_]) rfl (readC_spec (hbs.mono hX7) hbl hb2)) ?_
    rintro _ _ X8 ⟨rfl, hX8, r8, rfl, hr8⟩
    have hr8' := hr8
    by_cases he : (readM bs).2 = 0
    · obtain ⟨hck, henc⟩ := read_ok hb2 he
      obtain ⟨k1, k2, _, _⟩ := chkC18_ok hck
      generalize (readM bs).1 = c at *
      obtain ⟨o8, n8, p8, q8, i8, j8, i9, j9, rfl⟩ := hr8.form
      have h70 := conchk_spec (enf := c.enf) (kind := c.kind) (name := c.name) (by omega) (by omega) hr8'.2.2.2
      have h74 := fun {X' : PMap} (hX : X8.le X') => cbytes_spec (enf := c.enf) (kind := c.kind) (name := c.name) hwt (by omega) (hr8'.2.2.2.mono hX)
      simp only [hck] at h70
      simp only [hck, henc, ↓reduceIte] at h74
      rw [he]
      refine SL.mv rfl <| SL.v (op_extract rfl rfl) <| SL.v (op_extract rfl rfl) <| SL.w (op_alloc z101) ?_
      rintro _ _ _ ⟨B11, rfl, rfl, rfl⟩
      refine SL.w (op_store ty101 rfl rfl (by repeat constructor) rfl rfl rfl) ?_
      rintro _ _ _ ⟨rfl, rfl⟩
      refine SL.as rfl <| SL.nil <| T.seq <| T.seq <| T.region <| SL.mv rfl <| SL.v (op_neqF rfl rfl (by omega)) ?_
      refine SL.nil <| T.condF rfl <| T.skip <| T.seq <| T.region <| SL.v (op_load ty101 rfl (by repeat constructor) rfl) ?_
      refine SL.w (op_callF en47 (vs := [_]) rfl (h70)) ?_
      rintro _ _ X9 ⟨rfl, hX9, rfl⟩
      refine SL.v (op_neqF rfl rfl (by omega)) ?_
      refine SL.mv rfl <| SL.v (op_load ty101 rfl (by repeat constructor) rfl) ?_
      refine SL.w (op_callF en50 (vs := [_]) rfl (h74 hX9)) ?_
      rintro v74 _ X10 ⟨rfl, hX10, hb10⟩
      have h76 := eqBytes_spec hb10 ((((hbs.mono hX7).mono hX8).mono hX9).mono hX10) (by omega)
      obtain ⟨A10, c10, hv10⟩ := hb10.form
      subst hv10
      simp only [decide_true] at h76
      refine SL.mv rfl <| SL.w (op_callF en49 (vs := [_, _]) rfl (h76)) ?_
      rintro _ _ X11 ⟨rfl, hX11, rfl⟩
      refine SL.v (op_not rfl) <| SL.v (op_pickF rfl rfl) <| SL.nil <| T.condF rfl <| T.skip <| T.blk <| T.region <| SL.v (op_addN (q := 1) rfl rfl (by omega)) ?_
      refine SL.mv rfl <| SL.nil <| T.drop B11 (by repeat constructor) ?_
      exact T.backW (3 - (i + 1)) (by omega) ⟨i + 1, rfl, by omega, (((hX7.trans' hX8).trans' hX9).trans' hX10).trans' hX11, rfl, rfl⟩ (by repeat (first | exact Sub.nil | refine Sub.cons rfl ?_))
    · have hre := readM_err he
      rw [hre] at hr8 hr8' ⊢
      obtain ⟨o8, n8, p8, q8, i8, j8, i9, j9, rfl⟩ := hr8.form
      have h66 := feqC_spec (c := zeC) (d := zeC) (r' := (false, 0, ⟨#[]⟩, zr4)) hr8' ⟨rfl, rfl, rfl, zeF_R⟩ (by decide)
      simp only [decide_true] at h66
      refine SL.mv rfl <| SL.v (op_extract rfl rfl) <| SL.v (op_extract rfl rfl) <| SL.w (op_alloc z101) ?_
      rintro _ _ _ ⟨B11, rfl, rfl, rfl⟩
      refine SL.w (op_store ty101 rfl rfl (by repeat constructor) rfl rfl rfl) ?_
      rintro _ _ _ ⟨rfl, rfl⟩
      refine SL.as rfl <| SL.nil <| T.seq <| T.seq <| T.region <| SL.mv rfl <| SL.v (op_neqT rfl rfl (by omega)) ?_
      refine SL.nil <| T.condT rfl <| T.seq <| T.seq <| T.region <| SL.mv rfl <| SL.v (op_neqF rfl rfl (by omega)) ?_
      refine SL.mv rfl <| SL.v (op_load ty101 rfl (by repeat constructor) rfl) ?_
      refine SL.v (op_build st101 (qs := []) rfl rfl) <| SL.w (op_callF en51 (vs := [_, _]) rfl (h66)) ?_
      rintro _ _ X9 ⟨rfl, hX9, rfl⟩
      refine SL.v (op_not rfl) <| SL.v (op_pickF rfl rfl) <| SL.nil <| T.condF rfl <| T.skip ?_
      refine T.exit (T.exitCode (T.exitBlk ?_))
      refine T.region <| SL.v (op_addN (q := 1) rfl rfl (by omega)) ?_
      refine SL.mv rfl <| SL.nil <| T.drop B11 (by repeat constructor) ?_
      exact T.backW (3 - (i + 1)) (by omega) ⟨i + 1, rfl, by omega, (hX7.trans' hX8).trans' hX9, rfl, rfl⟩ (by repeat (first | exact Sub.nil | refine Sub.cons rfl ?_))
  · refine T.seq <| T.region <| SL.v (op_lssF rfl rfl (by omega)) ?_
    refine SL.nil <| T.seq <| T.condF rfl ?_
    refine T.exit (T.exitCode (T.exitCut (T.exitBlk ?_)))
    refine T.seq <| T.region <| SL.as rfl <| SL.nil <| T.ret1 rfl (ResIs.tmp rfl) ?_
    rfl
end Go.Proofs.YtnpcilglilfajaaGreatDoor
