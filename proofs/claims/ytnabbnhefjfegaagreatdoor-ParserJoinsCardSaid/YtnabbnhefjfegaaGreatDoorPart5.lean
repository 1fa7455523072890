/- What the law's proof rests on: the engine, a small separation logic over the kit's walk, and contracts of the functions that the law reaches. Part 5. -/
import Derived.Test.YtnabbnhefjfegaaGreatDoorPart1
import Derived.Test.YtnabbnhefjfegaaGreatDoorPart2
import Derived.Test.YtnabbnhefjfegaaGreatDoorPart3
import Derived.Test.YtnabbnhefjfegaaGreatDoorPart4
namespace Go.Proofs.YtnabbnhefjfegaaGreatDoor
section
set_option maxRecDepth 100000
theorem en128 : Enters Tryz.prog 128 := enters_mk Tryz.func128 (by kernel_rfl) rfl
theorem en74 : Enters Tryz.prog 74 := enters_mk Tryz.func74 (by kernel_rfl) rfl
end
open Go.RowKit
theorem SpecO.pubR {α : Type} {rc : α → List Value} {P : Program} {f : FuncId} {args : List Value} {X : PMap} {ty : TypeId} {size : Nat} {rs : List α} (h : SpecO P f args X fun u own1 _ => GrowS ty size u rs.length (rs.map rc).flatten own1) : Spec P f args X fun u X' => RowR rc X' u rs := fun w hw =>
  (h w hw).mono fun e w' ⟨v, own, X', he, hs, hG⟩ => by
    have hs' : Sat ⟨w, []⟩ X ([] ++ own) X' w' := ⟨by simpa using hs, fun p hp => by cases hp⟩
    obtain ⟨X2, h1, h2, h3⟩ := hs'.pubG hG
    exact ⟨v, X2, he, h3.below, h3.stab.pers, h3.old, RowR.ofG hG h2⟩
theorem nclone_spec {X : PMap} {v : Value} {l : List ByteArray} (h : RowR strC X v l) (hl : l.length < 100000000) : Spec Tryz.prog 128 [v] X fun u X' => RowR strC X' u l := by
  refine SpecO.pubR (ty := 9) (size := 1) ?_
  obtain ⟨A, cp, rfl⟩ := h.form
  rcases A with _ | ad
  · have hn : l = [] := by
      rcases h with ⟨h1, _⟩ | ⟨_, b, c, pre, hv, _⟩
      · exact h1
      · cases hv
    subst hn
    refine SpecO.enter Tryz.func128 rfl Tryz.ntmps128 rfl ?_
    intro w0 hw0
    refine T.seq <| T.region <| SL.as rfl <| SL.nil <| T.seq <| T.seq <| T.region <| SL.mv rfl <| SL.v (op_eqlSNil Tryz.underlying37 rfl rfl) <| SL.nil <| T.condT rfl <| T.seq <| T.region <| SL.as rfl <| SL.nil ?_
    refine T.retO1 rfl (ResIs.tmp rfl) ?_
    exact .inl ⟨rfl, rfl, rfl, rfl⟩
  · refine SpecO.enter Tryz.func128 rfl Tryz.ntmps128 rfl ?_
    intro w0 hw0
    refine T.seq <| T.region <| SL.as rfl <| SL.nil <| T.seq <| T.seq <| T.region <| SL.mv rfl <| SL.v (op_eqlSNil Tryz.underlying37 rfl rfl) <| SL.nil <| T.condF rfl <| T.skip <| T.seq <| T.region <| SL.w (op_buildSlice Tryz.underlying37 bs9 (qs := []) rfl rfl rfl rfl rfl) ?_
    rintro _ _ _ ⟨B5, rfl, rfl, rfl⟩
    refine SL.mv rfl <| SL.w (op_append (m := l.length) (news := strsC l) sl37 rfl rfl (by repeat constructor) rfl rfl (Nat.le_refl _) (by decide) (by rw [← strsC_flat]; exact Src.ofRow strC_len h) (strsC_one l) (by (have : maxLen = 9223372036854775807 := rfl); omega) (by omega)) ?_
    rintro _ _ _ ⟨b7, cap7, rfl, rfl, rfl, hc7, hm7⟩
    refine SL.as rfl <| SL.nil <| T.retO1 rfl (ResIs.tmp rfl) ?_
    rw [strsC_flat]
    exact .inr ⟨b7, cap7, by rw [Nat.zero_add], rfl, by omega, hm7, by rw [Nat.mul_one]; exact strsC_len l⟩
theorem copied_spec (N : Nat) : ∀ {X : PMap} {e : Ex} {r : Row4}, wtE e ≤ N → N < 100000000 → ExR .u8 X e r → Spec Tryz.prog 74 [.agg #[r.1, r.2.1, r.2.2.1, r.2.2.2]] X fun u X' => ∃ r' : Row4, u = .agg #[r'.1, r'.2.1, r'.2.2.1, r'.2.2.2] ∧ ExR .u8 X' e r' := by
  induction N with
  | zero => intro X e r h; cases e; rw [wtE] at h; omega
  | succ N ih =>
    intro X e r hN hB h
    have hmx : maxLen = 9223372036854775807 := rfl
    cases h with
    | @mk op n ns al vn va rows hn ha hl hr =>
    obtain ⟨Aa, ca, rfl⟩ := ha.form
    obtain ⟨An, cn, rfl⟩ := hn.form
    have hlen := wtL_len al
    have hnl := wtS_len ns
    rw [wtE] at hN
    refine Spec.enter Tryz.func74 rfl Tryz.ntmps74 rfl ?_
    intro w0 hw0
    refine T.seq <| T.region <| SL.w (op_box rfl) ?_
    rintro _ _ _ ⟨B1, rfl, rfl, rfl⟩
    refine SL.w (op_alloc z40) ?_
    rintro _ _ _ ⟨B2, rfl, rfl, rfl⟩
    refine SL.nil <| T.seq <| T.meet (fun _ env own X' => ∃ (b3 l1 c1 : Nat) (A1 : Option Addr), X.le X' ∧ RowR strC X' (.slice A1 l1 c1) ns ∧ env = [(1, .pointer (some ⟨B1, 0, none⟩)), (2, .pointer (some ⟨B2, 0, none⟩)), (3, .pointer (some ⟨b3, 0, none⟩))] ∧ own = S3 b3 op n (.slice A1 l1 c1) (.slice none 0 0) :: S3 B2 0 0 (.slice none 0 0) (.slice none 0 0) :: [S3 B1 op n (.slice An ns.length cn) (.slice Aa rows.length ca)]) ?_ ?_
    · skip
      refine T.draw (by kernel_rfl) 9 [.t 0, .t 1, .t 2, .t 3, .t 4, .t 5, .b 6 8 [(0, 7), (2, 8)] [(2, 6), (0, 7)]] (by kernel_rfl) ?_
      refine SD.take rfl panicBody (op_fieldAddr fa40_0 rfl) rfl rfl ?_
      refine SD.take rfl panicBody (op_load ty36 rfl (by repeat constructor) rfl) rfl rfl ?_
      refine SD.take rfl panicBody (op_fieldAddr fa40_1 rfl) rfl rfl ?_
      refine SD.take rfl panicBody (op_load ty3 rfl (by repeat constructor) rfl) rfl rfl ?_
      refine SD.take rfl panicBody (op_fieldAddr fa40_2 rfl) rfl rfl ?_
      refine SD.take rfl panicBody (op_load ty37 rfl (by repeat constructor) rfl) rfl rfl ?_
      refine SD.branch rfl rfl (op_callF en128 (vs := [_]) rfl (nclone_spec hn (by omega))) (op_alloc z40) rfl rfl rfl rfl ?_ ?_
      · rintro _ _ X2 ⟨rfl, hX2, hv2⟩
        change SD _ _ _ _ _ _ _ _ _ _ _ [.t 7, .r 8] _ _ _
        refine SD.up (by intro p hp; first | exact hp | exact List.mem_cons_of_mem _ hp) (by first | exact PMap.le_refl _ | assumption) ?_
        obtain ⟨A1, c1, rfl⟩ := hv2.form
        refine SD.take rfl panicBody (op_build st40 (qs := [(0, _), (1, _), (2, _)]) rfl rfl) rfl rfl ?_
        refine SD.run rfl (op_alloc z40) rfl rfl ?_
        rintro _ _ _ ⟨B3, rfl, rfl, rfl⟩
        refine SD.nil ?_
        show SL _ _ _ _ _ _ _ [_] _ _ _
        refine SL.w (op_store ty40 rfl rfl (by repeat constructor) rfl rfl rfl) ?_
        rintro _ _ _ ⟨rfl, rfl⟩
        refine SL.nil ?_
        exact T.backW 0 (by omega) ⟨_, _, _, _, hX2, hv2, rfl, rfl⟩ (by repeat (first | exact Sub.nil | refine Sub.cons rfl ?_))
      · rintro _ _ _ ⟨b3, rfl, rfl, rfl⟩
        change SD _ _ _ _ _ _ _ _ _ _ _ [.r 6, .t 7] _ _ _
        refine SD.up (by intro p hp; first | exact hp | exact List.mem_cons_of_mem _ hp) (by first | exact PMap.le_refl _ | assumption) ?_
        refine SD.run rfl (op_callF en128 (vs := [_]) rfl (nclone_spec hn (by omega))) rfl rfl ?_
        rintro _ _ X2 ⟨rfl, hX2, hv2⟩
        obtain ⟨A1, c1, rfl⟩ := hv2.form
        refine SD.take rfl panicBody (op_build st40 (qs := [(0, _), (1, _), (2, _)]) rfl rfl) rfl rfl ?_
        refine SD.nil ?_
        show SL _ _ _ _ _ _ _ [_] _ _ _
        refine SL.w (op_store ty40 rfl rfl (by repeat constructor) rfl rfl rfl) ?_
        rintro _ _ _ ⟨rfl, rfl⟩
        refine SL.nil ?_
        exact T.backW 0 (by omega) ⟨_, _, _, _, hX2, hv2, rfl, rfl⟩ (by repeat (first | exact Sub.nil | refine Sub.cons rfl ?_))
    rintro _ _ _ Y1 ⟨b3, l1, c1, A1, hY1, hN1, rfl, rfl⟩
    refine T.seq <| T.seq <| T.region <| SL.v (op_fieldAddr fa40_3 rfl) <| SL.v (op_load ty38 rfl (by repeat constructor) rfl) ?_
    refine SL.v (op_lenS Tryz.underlying38 rfl) <| SL.v (op_move (v := .int .i64 ((0 : Nat) : Int)) rfl) <| SL.nil <| T.block <| T.drop B1 (by repeat constructor) ?_
    refine T.loopW (fun m env own X' => ∃ (i : Nat) (va : Value) (Ga : Own) (rs : List Row4), m = rows.length - i ∧ i ≤ rows.length ∧ Y1.le X' ∧ rs.length = i ∧ GrowS 40 4 va rs.length (rs.map rc4).flatten Ga ∧ (∀ (q : Nat) (a : Ex) (r : Row4), al[q]? = some a → rs[q]? = some r → ExR .u8 X' a r) ∧ env = [(2, .pointer (some ⟨B2, 0, none⟩)), (3, .pointer (some ⟨b3, 0, none⟩)), (15, .slice Aa rows.length ca), (16, .int .i64 (rows.length : Int)), (17, .int .i64 (i : Int))] ∧ own = S3 b3 op n (.slice A1 l1 c1) va :: S3 B2 0 0 (.slice none 0 0) (.slice none 0 0) :: Ga) rows.length ⟨0, _, [], [], by simp, by omega, PMap.le_refl _, rfl, GrowS.nil, fun q a r _ h => by simp at h, rfl, rfl⟩ (by repeat (first | exact Sub.nil | refine Sub.cons rfl ?_)) ?_
    rintro m _ _ X1 ⟨i, va, Ga, rs, rfl, hi, hX1, hrsl, hGa, hrs, rfl, rfl⟩
    rcases Nat.lt_or_ge i rows.length with hil | hil
    · obtain ⟨r2, hr2⟩ : ∃ r2, rows[i]? = some r2 := ⟨_, List.getElem?_eq_getElem hil⟩
      obtain ⟨a, ha2⟩ : ∃ a, al[i]? = some a := ⟨_, List.getElem?_eq_getElem (by omega)⟩
      have hra := hr i a r2 ha2 hr2
      obtain ⟨bA, pre, rfl, hbA⟩ := ha.blk (by omega)
      obtain ⟨_, _, _, _, _, _, _, _, rfl⟩ := hra.form
      have hma := List.mem_of_getElem? ha2
      have hwa := wtL_mem hma
      refine T.seq <| T.region <| SL.v (op_lssT rfl rfl (by omega)) ?_
      refine SL.nil <| T.seq <| T.condT rfl <| T.skip <| T.seq <| T.block <| T.seq <| T.region <| SL.v (op_indexN Tryz.underlying38 ty40 rfl rfl (by omega)) ?_
      refine SL.v (op_loadX ty40 rfl ((hbA.mono hY1).mono hX1) (row_read rc4_len hr2 (by omega))) ?_
      refine SL.w (op_alloc z40) ?_
      rintro _ _ _ ⟨B5, rfl, rfl, rfl⟩
      refine SL.w (op_store ty40 rfl rfl (by repeat constructor) rfl rfl rfl) ?_
      rintro _ _ _ ⟨rfl, rfl⟩
      refine SL.nil <| T.drawG (own0 := [_, _, _]) (by kernel_rfl) 5 [.t 0, .t 1, .t 2, .r 3, .r 4] (by kernel_rfl) ?_
      refine SD.take rfl panicBody (op_fieldAddr fa40_3 rfl) rfl rfl ?_
      refine SD.take rfl panicBody (op_load ty38 rfl (by repeat constructor) rfl) rfl rfl ?_
      refine SD.take rfl panicBody (op_load ty40 rfl (by repeat constructor) rfl) rfl rfl ?_
      refine SD.run rfl (op_callF en74 (vs := [_]) rfl (ih (by omega) (by omega) ((hra.mono hY1).mono hX1))) rfl rfl ?_
      rintro _ _ X2 ⟨rfl, hX2, r8, rfl, hr8⟩
      obtain ⟨o8, n8, a8, b8, l8, c8, l9, c9, rfl⟩ := hr8.form
      refine SD.run rfl (op_buildSlice Tryz.underlying38 bs40 (qs := [(0, _)]) rfl rfl rfl rfl rfl) rfl rfl ?_
      rintro _ _ _ ⟨B25, rfl, rfl, rfl⟩
      refine SD.nil ?_
      show SL _ _ _ _ _ _ _ [_, _, _] _ _ _
      refine SL.w (op_appendGA (own0 := [_, _, _, _]) (m := 1) sl38 rfl hGa rfl (Src.ofOwn0 AtO.here rfl) (by intro y hy; have hy : y ∈ [Value.int _ _, Value.int _ _, Value.slice _ _ _, Value.slice _ _ _] := hy; simp only [List.mem_cons, List.not_mem_nil, or_false] at hy; rcases hy with rfl | rfl | rfl | rfl <;> rfl) (by omega) (by omega)) ?_
      rintro va9 _ _ ⟨Ga9, rfl, rfl, hGa9⟩
      obtain ⟨Aa9, ca9, rfl⟩ := hGa9.form
      refine SL.v (op_fieldAddr fa40_3 rfl) <| SL.w (op_store ty38 rfl rfl (by repeat constructor) rfl rfl rfl) ?_
      rintro _ _ _ ⟨rfl, rfl⟩
      refine SL.nil <| T.blk <| T.region <| SL.v (op_addN (q := 1) rfl rfl (by omega)) ?_
      refine SL.mv rfl <| SL.nil <| T.less (List.sublist_cons_self _ _) ?_
      refine T.less (List.sublist_cons_self _ _) ?_
      have hGa10 : GrowS 40 4 (.slice Aa9 (rs.length + 1) ca9) (rs ++ [((.int .u8 (o8 : Int), .int .i64 n8, .slice a8 l8 c8, .slice b8 l9 c9) : Row4)]).length (((rs ++ [((.int .u8 (o8 : Int), .int .i64 n8, .slice a8 l8 c8, .slice b8 l9 c9) : Row4)]).map rc4).flatten) Ga9 := by
        rw [List.length_append, List.map_append, List.flatten_append]
        exact hGa9
      have hrows2 : ∀ (q : Nat) (a : Ex) (r : Row4), al[q]? = some a → (rs ++ [((.int .u8 (o8 : Int), .int .i64 n8, .slice a8 l8 c8, .slice b8 l9 c9) : Row4)])[q]? = some r → ExR .u8 X2 a r := by
        intro q a' r hq hr'
        rcases Nat.lt_or_ge q i with hik | hik
        · rw [List.getElem?_append_left (by omega)] at hr'
          exact (hrs q a' r hq hr').mono hX2
        · have hik2 : q = i := by
            have := (List.getElem?_eq_some_iff.1 hr').1
            rw [List.length_append] at this; simp at this; omega
          subst hik2
          rw [List.getElem?_append_right (by omega), hrsl, Nat.sub_self] at hr'
          simp only [List.getElem?_cons_zero, Option.some.injEq] at hr'
          rw [ha2] at hq
          cases hq
          subst hr'
          exact hr8
      exact T.backW (rows.length - (i + 1)) (by omega) ⟨i + 1, _, _, rs ++ [(.int .u8 (o8 : Int), .int .i64 n8, .slice a8 l8 c8, .slice b8 l9 c9)], rfl, by omega, hX1.trans' hX2, by rw [List.length_append, hrsl]; rfl, hGa10, hrows2, rfl, rfl⟩ (by repeat (first | exact Sub.nil | refine Sub.cons rfl ?_))
    · obtain rfl : i = rows.length := by omega
      obtain ⟨Aa8, ca8, rfl⟩ := hGa.form
      refine T.seq <| T.region <| SL.v (op_lssF rfl rfl (by omega)) ?_
      refine SL.nil <| T.seq <| T.condF rfl ?_
      refine T.exit (T.exitCode (T.exitCut (T.exitBlk ?_)))
      refine T.seq <| T.region <| SL.v (op_load ty40 rfl (by repeat constructor) rfl) ?_
      refine SL.w (op_store ty40 rfl rfl (by repeat constructor) rfl rfl rfl) ?_
      rintro _ _ _ ⟨rfl, rfl⟩
      refine SL.nil <| T.pubG (own0 := [_, _]) hGa ?_
      intro X9 hX9 hS9
      refine T.ret1 rfl (ResIs.cell rfl ty40 (by repeat constructor) rfl) ?_
      have hA : RowR rc4 X9 (.slice Aa8 rs.length ca8) rs := RowR.ofG hGa hS9
      exact ⟨(.int .u8 (op : Int), .int .i64 n, .slice A1 l1 c1, .slice Aa8 rs.length ca8), rfl, .mk ((hN1.mono hX1).mono hX9) hA (hrsl.trans hl) (fun q a r h1 h2 => (hrs q a r h1 h2).mono hX9)⟩
/-- Constraints that are copied: an own row, to which more may be appended. -/
theorem copy_spec {X : PMap} {v : Value} {cs : List Con} (h : ConsR X v cs) (hw : ∀ c ∈ cs, wtE c.ex < 900000) (hlc : cs.length < 1000) : SpecO Tryz.prog 33 [v] X fun u own1 X' => ∃ rs : List Row7, rs.length = cs.length ∧ GrowS 82 7 u rs.length (rs.map rc7).flatten own1 ∧ ∀ (q : Nat) (c : Con) (r : Row7), cs[q]? = some c → rs[q]? = some r → ConR X' c r := by
  obtain ⟨rows, hr, hrl, hrow⟩ := h
  obtain ⟨A, cp, rfl⟩ := hr.form
  have hmx : maxLen = 9223372036854775807 := rfl
  refine SpecO.enter Tryz.func33 rfl Tryz.ntmps33 rfl ?_
  intro w0 hw0
  refine T.seq <| T.region <| SL.as rfl <| SL.nil <| T.seq <| T.region <| SL.as rfl <| SL.nil <| T.seq <| T.seq <| T.region <| SL.mv rfl <| SL.v (op_lenS Tryz.underlying24 rfl) <| SL.v (op_move (v := .int .i64 ((0 : Nat) : Int)) rfl) <| SL.nil ?_
  refine T.block <| T.loopW (fun m env own X' => ∃ (i : Nat) (vo : Value) (rs : List Row7), m = rows.length - i ∧ i ≤ rows.length ∧ X.le X' ∧ rs.length = (cs.take i).length ∧ GrowS 82 7 vo rs.length ((rs.map rc7).flatten) own ∧ (∀ (q : Nat) (c : Con) (r : Row7), (cs.take i)[q]? = some c → rs[q]? = some r → ConR X' c r) ∧ env = [(3, vo), (6, .slice A rows.length cp), (7, .int .i64 (rows.length : Int)), (8, .int .i64 (i : Int))]) rows.length ⟨0, _, [], by simp, by omega, PMap.le_refl _, by simp, GrowS.nil, (fun q c r h => by simp at h), rfl⟩ (by repeat (first | exact Sub.nil | refine Sub.cons rfl ?_)) ?_
  rintro m _ G X1 ⟨i, vo, rs, rfl, hi, hX1, hrsl, hG, hrs, rfl⟩
  have hrl2 : rs.length = i := by rw [hrsl, List.length_take]; omega
  obtain ⟨Av, cv, rfl⟩ := hG.form
  rcases Nat.lt_or_ge i rows.length with hil | hil
  · obtain ⟨r2, hr2⟩ : ∃ r2, rows[i]? = some r2 := ⟨_, List.getElem?_eq_getElem hil⟩
    obtain ⟨c, hc2⟩ : ∃ c, cs[i]? = some c := ⟨_, List.getElem?_eq_getElem (by omega)⟩
    have hrc := (hrow i c r2 hc2 hr2).mono hX1
    have hwe := hw c (List.mem_of_getElem? hc2)
    have htk := take_snoc hc2
    obtain ⟨bA, pre, rfl, hbA⟩ := hr.blk (by omega)
    have hex := hrc.2.2.2
    obtain ⟨o8, n8, a8, b8, l8, c8, l9, c9, rfl⟩ := hrc.form
    simp only at hex
    have hcall := copied_spec 900000 (by omega) (by omega) hex
    try simp only at hcall
    refine T.seq <| T.region <| SL.v (op_lssT rfl rfl (by omega)) ?_
    refine SL.nil <| T.seq <| T.condT rfl <| T.skip <| T.seq <| T.block <| T.seq <| T.region <| SL.v (op_indexN Tryz.underlying24 ty82 rfl rfl (by omega)) ?_
    refine SL.v (op_loadX (v := .agg #[.bool c.enf, .int .u8 (c.kind : Int), .string c.name, .int .u8 (o8 : Int), .int .i64 n8, .slice a8 l8 c8, .slice b8 l9 c9]) ty82 rfl (hbA.mono hX1) (row_read rc7_len hr2 (by omega))) ?_
    refine SL.w (op_alloc z82) ?_
    rintro _ _ _ ⟨B5, rfl, rfl, rfl⟩
    refine SL.w (op_store ty82 rfl rfl (by repeat constructor) rfl rfl rfl) ?_
    rintro _ _ _ ⟨rfl, rfl⟩
    refine SL.nil <| T.seq <| T.region <| SL.v (op_fieldAddr fa82_3 rfl) <| SL.v (op_load ty40 rfl (by repeat constructor) rfl) ?_
    refine SL.w (op_callF en74 (vs := [_]) rfl (hcall)) ?_
    rintro _ _ X2 ⟨rfl, hX2, r9, rfl, hr9⟩
    obtain ⟨o10, n10, a10, b10, l10, c10, l11, c11, rfl⟩ := hr9.form
    refine SL.v (op_fieldAddr fa82_3 rfl) <| SL.w (op_store ty40 rfl rfl (by repeat constructor) rfl rfl rfl) ?_
    rintro _ _ _ ⟨rfl, rfl⟩
    refine SL.nil <| T.region <| SL.mv rfl <| SL.v (op_load ty82 rfl (by repeat constructor) rfl) ?_
    refine SL.w (op_buildSlice Tryz.underlying24 bs82 (qs := [(0, _)]) rfl rfl rfl rfl rfl) ?_
    rintro _ _ _ ⟨B18, rfl, rfl, rfl⟩
    refine SL.w (op_appendGA (own0 := [_, _]) (m := 1) sl24 rfl hG rfl (Src.ofOwn0 AtO.here rfl) (by intro y hy; have hy : y ∈ [Value.bool _, Value.int _ _, Value.string _, Value.int _ _, Value.int _ _, Value.slice _ _ _, Value.slice _ _ _] := hy; simp only [List.mem_cons, List.not_mem_nil, or_false] at hy; rcases hy with rfl | rfl | rfl | rfl | rfl | rfl | rfl <;> rfl) (by omega) (by omega)) ?_
    rintro va9 _ _ ⟨Ga9, rfl, rfl, hGa9⟩
    refine SL.as rfl <| SL.nil <| T.blk <| T.region <| SL.v (op_addN (q := 1) rfl rfl (by omega)) ?_
    refine SL.mv rfl <| SL.nil <| T.less (List.sublist_cons_self _ _) ?_
    refine T.less (List.sublist_cons_self _ _) ?_
    have hnew : ConR X2 c (c.enf, c.kind, c.name, .int .u8 (o10 : Int), .int .i64 n10, .slice a10 l10 c10, .slice b10 l11 c11) := ⟨rfl, rfl, rfl, hr9⟩
    have hG10 : GrowS 82 7 va9 (rs ++ [((c.enf, c.kind, c.name, .int .u8 (o10 : Int), .int .i64 n10, .slice a10 l10 c10, .slice b10 l11 c11) : Row7)]).length (((rs ++ [((c.enf, c.kind, c.name, .int .u8 (o10 : Int), .int .i64 n10, .slice a10 l10 c10, .slice b10 l11 c11) : Row7)]).map rc7).flatten) Ga9 := by
      rw [List.length_append, List.map_append, List.flatten_append]
      exact hGa9
    exact T.backW (rows.length - (i + 1)) (by omega) ⟨i + 1, _, _, rfl, by omega, hX1.trans' hX2, by rw [htk, List.length_append, List.length_append, hrsl]; rfl, hG10, by rw [htk]; exact rows_snoc hrsl (fun q c r h1 h2 => (hrs q c r h1 h2).mono hX2) hnew, rfl⟩ (by repeat (first | exact Sub.nil | refine Sub.cons rfl ?_))
  · obtain rfl : i = rows.length := by omega
    have hall : cs.take rows.length = cs := List.take_of_length_le (by omega)
    rw [hall] at hrsl hrs
    refine T.seq <| T.region <| SL.v (op_lssF rfl rfl (by omega)) ?_
    refine SL.nil <| T.seq <| T.condF rfl ?_
    refine T.exit (T.exitCode (T.exitCut (T.exitBlk ?_)))
    refine T.seq <| T.region <| SL.mv rfl <| SL.as rfl <| SL.nil <| T.retO1 rfl (ResIs.tmp rfl) ?_
    exact ⟨rs, hrsl, hG, hrs⟩
end Go.Proofs.YtnabbnhefjfegaaGreatDoor
namespace Go.Proofs.YtnabbnhefjfegaaGreatDoor
section
set_option maxRecDepth 100000
theorem en33 : Enters Tryz.prog 33 := enters_mk Tryz.func33 (by kernel_rfl) rfl
end
open Go.RowKit
theorem wtS_le : ∀ {ns : List ByteArray}, (∀ s ∈ ns, validS s) → wtS ns ≤ 13 * ns.length
  | [], _ => by simp [wtS]
  | s :: ns, h => by
    have h1 := wtS_le (ns := ns) fun t ht => h t (by simp [ht])
    have h2 := (h s (by simp)).2.1
    simp only [wtS, List.map_cons, List.sum_cons, List.length_cons] at h1 ⊢
    omega
mutual
theorem wt_siz : ∀ e : Ex, nodeE e = 0 → wtE e ≤ 105 * sizE e
  | .mk op n ns al, h => by
    obtain ⟨h1, h2⟩ := node_ok h
    obtain ⟨_, _, _, _, o5, o6, _⟩ := own_ok h1
    have h3 := wt_sizL al h2
    have h4 := wtS_le o6
    have h8 : ns.length ≤ 8 := by
      unfold namN at o5
      split at o5
      · omega
      · split at o5 <;> omega
    rw [wtE, sizE]
    omega
theorem wt_sizL : ∀ l : List Ex, nodeL l = 0 → wtL l ≤ 105 * sizL l
  | [], _ => by simp [wtL]
  | a :: l, h => by
    have h1 : nodeE a = 0 := nodeL_zero h a (by simp)
    rw [nodeL, if_neg (fun h => h h1)] at h
    have := wt_siz a h1
    have := wt_sizL l h
    rw [wtL, sizL]
    omega
end
theorem chk_wt {e : Ex} (h : chkE e = 0) : wtE e ≤ 21000 := by
  have h1 := wt_siz e (chkE_node h)
  have h2 : sizE e ≤ 200 := by
    rw [chkE] at h
    split at h
    · cases h
    · omega
  omega
theorem acc_wt {cs : List Con} (h : chkAll cs = 0) : wtC cs ≤ 672000 ∧ ∀ c ∈ cs, wtE c.ex ≤ 21000 := by
  obtain ⟨h1, _, h3, _⟩ := conOk_of h
  have hw : ∀ c ∈ cs, wtE c.ex ≤ 21000 := fun c hc => chk_wt (chkCs_mem h3 c hc).2.2.2
  have h2 := wtC_le (K := 21000) hw
  have h4 : cs.length * 21000 ≤ 32 * 21000 := Nat.mul_le_mul_right _ h1
  exact ⟨by omega, hw⟩
theorem wtC_app (a b : List Con) : wtC (a ++ b) = wtC a + wtC b := by simp [wtC]
theorem cons_one {X : PMap} {cs : List Con} {rows : List Row7} (hl : rows.length = cs.length) (h : ∀ (q : Nat) (c : Con) (r : Row7), cs[q]? = some c → rows[q]? = some r → ConR X c r) : ∀ y ∈ (rows.map rc7).flatten, y.oneCell' = true := by
  intro y hy
  obtain ⟨l, hl1, hy⟩ := List.mem_flatten.1 hy
  obtain ⟨r, hr, rfl⟩ := List.mem_map.1 hl1
  obtain ⟨q, hq⟩ := List.getElem?_of_mem hr
  have hq2 := (List.getElem?_eq_some_iff.1 hq).1
  obtain ⟨c, hc⟩ : ∃ c, cs[q]? = some c := ⟨_, List.getElem?_eq_getElem (by omega)⟩
  obtain ⟨_, _, _, _, _, _, _, _, rfl⟩ := (h q c r hc hq).form
  have hy : y ∈ [Value.bool _, Value.int _ _, Value.string _, Value.int _ _, Value.int _ _, Value.slice _ _ _, Value.slice _ _ _] := hy
  simp only [List.mem_cons, List.not_mem_nil, or_false] at hy
  rcases hy with rfl | rfl | rfl | rfl | rfl | rfl | rfl <;> rfl
theorem rel_app {X : PMap} {cs ds : List Con} {rs ss : List Row7} (h1 : rs.length = cs.length) (h2 : ss.length = ds.length) (r1 : ∀ (q : Nat) (c : Con) (r : Row7), cs[q]? = some c → rs[q]? = some r → ConR X c r) (r2 : ∀ (q : Nat) (c : Con) (r : Row7), ds[q]? = some c → ss[q]? = some r → ConR X c r) :
    ∀ (q : Nat) (c : Con) (r : Row7), (cs ++ ds)[q]? = some c → (rs ++ ss)[q]? = some r → ConR X c r := fun q c r hc hr => by
  rcases Nat.lt_or_ge q cs.length with h | h
  · rw [List.getElem?_append_left h] at hc
    rw [List.getElem?_append_left (by omega)] at hr
    exact r1 q c r hc hr
  · rw [List.getElem?_append_right h] at hc
    rw [List.getElem?_append_right (by omega), h1] at hr
    exact r2 _ c r hc hr
theorem pJoins_spec {X : PMap} (hP : Pow10 X) {v v' : Value} {l l' : List Itm} (h : ItsR X v l) (h' : ItsR X v' l') (hok : ∀ x ∈ l, itOk x) (hok' : ∀ x ∈ l', itOk x) : Spec Tryz.prog 10 [v, v'] X fun u _ => u = .bool true := by
  have hmx : maxLen = 9223372036854775807 := rfl
  have hl := cons_len l
  have hl' := cons_len l'
  have hw := cons_wt l
  have hw' := cons_wt l'
  have hwC := cons_wtC l
  have hwC' := cons_wtC l'
  have hck := cons_ok hok
  have hck' := cons_ok hok'
  have hww : ∀ c ∈ consOf l, wtE c.ex < 900000 := fun c hc => Nat.lt_trans (hw c hc) (by omega)
  have hww' : ∀ c ∈ consOf l', wtE c.ex < 900000 := fun c hc => Nat.lt_trans (hw' c hc) (by omega)
  refine Spec.enter Tryz.func10 rfl Tryz.ntmps10 rfl ?_
  intro w0 hw0
  refine T.seq <| T.region <| SL.as rfl <| SL.nil <| T.seq <| T.seq <| T.region <| SL.w (op_callF en12 (vs := []) rfl (awake17_spec hP)) ?_
  rintro _ _ X0 ⟨rfl, hX0, rfl⟩
  refine SL.v (op_not rfl) <| SL.nil <| T.condF rfl <| T.skip <| T.seq <| T.region <| SL.mv rfl <| SL.w (op_callF en14 (vs := [_]) rfl (ball_spec (h.mono hX0) hok)) ?_
  rintro v1 _ X1 ⟨rfl, hX1, h1⟩
  refine SL.w (op_callF en13 (vs := [_]) rfl (set16_spec h1 (by omega) hck)) ?_
  rintro v2 _ X2 ⟨rfl, hX2, h2⟩
  refine SL.mv rfl <| SL.w (op_callF en14 (vs := [_]) rfl (ball_spec (((h'.mono hX0).mono hX1).mono hX2) hok')) ?_
  rintro v3 _ X3 ⟨rfl, hX3, h3⟩
  refine SL.w (op_callF en13 (vs := [_]) rfl (set16_spec h3 (by omega) hck')) ?_
  rintro v4 _ X4 ⟨rfl, hX4, h4⟩
  generalize consOf l = cs at *
  generalize consOf l' = ds at *
  have hP4 := ((((hP.mono hX0).mono hX1).mono hX2).mono hX3).mono hX4
  have h2 := (h2.mono hX3).mono hX4
  refine SL.as rfl <| SL.as rfl <| SL.nil <| T.seq <| T.region <| SL.mv rfl <| SL.w (op_callF en15 (vs := [_]) rfl (cprintA_spec hP4 h2 (by omega) hwC hww)) ?_
  rintro _ _ X5 ⟨rfl, hX5, rfl⟩
  have hP5 := hP4.mono hX5
  have h2 := h2.mono hX5
  have h4 := h4.mono hX5
  refine SL.mv rfl <| SL.w (op_callF en15 (vs := [_]) rfl (cprintA_spec hP5 h4 (by omega) hwC' hww')) ?_
  rintro _ _ X6 ⟨rfl, hX6, rfl⟩
  have hP6 := hP5.mono hX6
  have h2 := h2.mono hX6
  have h4 := h4.mono hX6
  by_cases hz : chkAll cs = 0
  case neg =>
    rw [if_neg hz]
    by_cases hs' : 3000 < (if chkAll ds = 0 then (⟨(linesL ds).toArray⟩ : ByteArray) else ⟨#[]⟩).size
    · skip
      refine SL.as rfl <| SL.as rfl <| SL.nil <| T.seq <| T.seq <| T.region <| SL.mv rfl <| SL.v (op_lenStr Tryz.underlying9 rfl) <| SL.v (op_gtr rfl rfl) <| SL.mv rfl <| SL.mv rfl <| SL.v (op_lenStr Tryz.underlying9 rfl) <| SL.v (op_gtrT rfl rfl (by omega)) ?_
      refine SL.v (op_pickF rfl rfl) <| SL.mv rfl <| SL.skip rfl rfl ?_
      refine SL.skip rfl rfl ?_
      refine SL.skip rfl rfl ?_
      refine SL.v (op_pickT rfl rfl) <| SL.mv rfl <| SL.skip rfl rfl ?_
      refine SL.skip rfl rfl ?_
      refine SL.skip rfl rfl ?_
      refine SL.v (op_pickT rfl rfl) <| SL.nil <| T.condT rfl <| T.seq <| T.region <| SL.as rfl <| SL.nil <| T.ret1 rfl (ResIs.tmp rfl) ?_
      rfl
    · skip
      refine SL.as rfl <| SL.as rfl <| SL.nil <| T.seq <| T.seq <| T.region <| SL.mv rfl <| SL.v (op_lenStr Tryz.underlying9 rfl) <| SL.v (op_gtr rfl rfl) <| SL.mv rfl <| SL.mv rfl <| SL.v (op_lenStr Tryz.underlying9 rfl) <| SL.v (op_gtrF rfl rfl (by omega)) ?_
      refine SL.v (op_pickF rfl rfl) <| SL.mv rfl <| SL.mv rfl <| SL.w (op_callF en16 (vs := [_]) rfl (checkA_spec hP6 h2 (by omega) hwC hww)) ?_
      rintro _ _ X7 ⟨rfl, hX7, rfl⟩
      refine SL.v (op_neqT rfl rfl (by omega)) ?_
      refine SL.v (op_pickF rfl rfl) <| SL.mv rfl <| SL.skip rfl rfl ?_
      refine SL.skip rfl rfl ?_
      refine SL.skip rfl rfl ?_
      refine SL.v (op_pickT rfl rfl) <| SL.nil <| T.condT rfl <| T.seq <| T.region <| SL.as rfl <| SL.nil <| T.ret1 rfl (ResIs.tmp rfl) ?_
      rfl
  rw [if_pos hz]
  by_cases hs : 3000 < (⟨(linesL cs).toArray⟩ : ByteArray).size
  · skip
    refine SL.as rfl <| SL.as rfl <| SL.nil <| T.seq <| T.seq <| T.region <| SL.mv rfl <| SL.v (op_lenStr Tryz.underlying9 rfl) <| SL.v (op_gtrT rfl rfl (by omega)) ?_
    refine SL.mv rfl <| SL.skip rfl rfl ?_
    refine SL.skip rfl rfl ?_
    refine SL.skip rfl rfl ?_
    refine SL.v (op_pickT rfl rfl) <| SL.mv rfl <| SL.skip rfl rfl ?_
    refine SL.skip rfl rfl ?_
    refine SL.skip rfl rfl ?_
    refine SL.v (op_pickT rfl rfl) <| SL.mv rfl <| SL.skip rfl rfl ?_
    refine SL.skip rfl rfl ?_
    refine SL.skip rfl rfl ?_
    refine SL.v (op_pickT rfl rfl) <| SL.nil <| T.condT rfl <| T.seq <| T.region <| SL.as rfl <| SL.nil <| T.ret1 rfl (ResIs.tmp rfl) ?_
    rfl
  by_cases hz' : chkAll ds = 0
  case neg =>
    rw [if_neg hz']
    refine SL.as rfl <| SL.as rfl <| SL.nil <| T.seq <| T.seq <| T.region <| SL.mv rfl <| SL.v (op_lenStr Tryz.underlying9 rfl) <| SL.v (op_gtrF rfl rfl (by omega)) ?_
    refine SL.mv rfl <| SL.mv rfl <| SL.v (op_lenStr Tryz.underlying9 rfl) <| SL.v (op_gtr rfl rfl) <| SL.v (op_pickF rfl rfl) <| SL.mv rfl <| SL.mv rfl <| SL.w (op_callF en16 (vs := [_]) rfl (checkA_spec hP6 h2 (by omega) hwC hww)) ?_
    rintro _ _ X7 ⟨rfl, hX7, rfl⟩
    rw [hz]
    refine SL.v (op_neqF rfl rfl (by omega)) ?_
    refine SL.v (op_pickF rfl rfl) <| SL.mv rfl <| SL.mv rfl <| SL.w (op_callF en16 (vs := [_]) rfl (checkA_spec (hP6.mono hX7) (h4.mono hX7) (by omega) hwC' hww')) ?_
    rintro _ _ X8 ⟨rfl, hX8, rfl⟩
    refine SL.v (op_neqT rfl rfl (by omega)) ?_
    refine SL.v (op_pickF rfl rfl) <| SL.nil <| T.condT rfl <| T.seq <| T.region <| SL.as rfl <| SL.nil <| T.ret1 rfl (ResIs.tmp rfl) ?_
    rfl
  rw [if_pos hz']
  by_cases hs' : 3000 < (⟨(linesL ds).toArray⟩ : ByteArray).size
  · skip
    refine SL.as rfl <| SL.as rfl <| SL.nil <| T.seq <| T.seq <| T.region <| SL.mv rfl <| SL.v (op_lenStr Tryz.underlying9 rfl) <| SL.v (op_gtrF rfl rfl (by omega)) ?_
    refine SL.mv rfl <| SL.mv rfl <| SL.v (op_lenStr Tryz.underlying9 rfl) <| SL.v (op_gtrT rfl rfl (by omega)) ?_
    refine SL.v (op_pickF rfl rfl) <| SL.mv rfl <| SL.skip rfl rfl ?_
    refine SL.skip rfl rfl ?_
    refine SL.skip rfl rfl ?_
    refine SL.v (op_pickT rfl rfl) <| SL.mv rfl <| SL.skip rfl rfl ?_
    refine SL.skip rfl rfl ?_
    refine SL.skip rfl rfl ?_
    refine SL.v (op_pickT rfl rfl) <| SL.nil <| T.condT rfl <| T.seq <| T.region <| SL.as rfl <| SL.nil <| T.ret1 rfl (ResIs.tmp rfl) ?_
    rfl
  obtain ⟨e1, e2⟩ := acc_wt hz
  obtain ⟨e3, e4⟩ := acc_wt hz'
  obtain ⟨n1, _, _, k1⟩ := conOk_of hz
  obtain ⟨n2, _, _, k2⟩ := conOk_of hz'
  have hb1 : bl (⟨(linesL cs).toArray⟩ : ByteArray) = linesL cs := by simp [bl]
  have hb2 : bl (⟨(linesL ds).toArray⟩ : ByteArray) = linesL ds := by simp [bl]
  have hm : parseM ((⟨(linesL cs).toArray⟩ : ByteArray) ++ ⟨(linesL ds).toArray⟩) = if chkAll (cs ++ ds) = 0 then .ok (cs ++ ds) else .error (0, chkAll (cs ++ ds)) :=
    SrcP.parse (by rw [bl_app, hb1, hb2]; exact (SrcP.lines k1).app (SrcP.lines k2)) (by rw [ByteArray.size_append]; omega)
  have hsz : ((⟨(linesL cs).toArray⟩ : ByteArray) ++ ⟨(linesL ds).toArray⟩).size < 1000000000 := by rw [ByteArray.size_append]; omega
  generalize (⟨(linesL cs).toArray⟩ : ByteArray) = tx at *
  generalize (⟨(linesL ds).toArray⟩ : ByteArray) = ty at *
  refine SL.as rfl <| SL.as rfl <| SL.nil <| T.seq <| T.seq <| T.region <| SL.mv rfl <| SL.v (op_lenStr Tryz.underlying9 rfl) <| SL.v (op_gtrF rfl rfl (by omega)) ?_
  refine SL.mv rfl <| SL.mv rfl <| SL.v (op_lenStr Tryz.underlying9 rfl) <| SL.v (op_gtrF rfl rfl (by omega)) ?_
  refine SL.v (op_pickF rfl rfl) <| SL.mv rfl <| SL.mv rfl <| SL.w (op_callF en16 (vs := [_]) rfl (checkA_spec hP6 h2 (by omega) hwC hww)) ?_
  rintro _ _ X7 ⟨rfl, hX7, rfl⟩
  rw [hz]
  have hP7 := hP6.mono hX7
  have h2 := h2.mono hX7
  have h4 := h4.mono hX7
  refine SL.v (op_neqF rfl rfl (by omega)) ?_
  refine SL.v (op_pickF rfl rfl) <| SL.mv rfl <| SL.mv rfl <| SL.w (op_callF en16 (vs := [_]) rfl (checkA_spec hP7 h4 (by omega) hwC' hww')) ?_
  rintro _ _ X8 ⟨rfl, hX8, rfl⟩
  rw [hz']
  have hP8 := hP7.mono hX8
  have h2 := h2.mono hX8
  have h4 := h4.mono hX8
  refine SL.v (op_neqF rfl rfl (by omega)) ?_
  refine SL.v (op_pickF rfl rfl) <| SL.nil <| T.condF rfl <| T.skip <| T.seq <| T.region <| SL.mv rfl <| SL.w (op_callO en33 (vs := [_]) rfl (copy_spec h2 hww (by omega))) ?_
  rintro vc _ X9 ⟨G, rfl, hX9, rs, hrl, hG, hrs⟩
  have hP9 := hP8.mono hX9
  obtain ⟨ss, hS, hsl, hss⟩ := h4.mono hX9
  obtain ⟨A4, c4, rfl⟩ := hS.form
  refine SL.perm (own' := [] ++ G) (by simp) ?_
  refine SL.mv rfl <| SL.w (op_appendGA (own0 := []) (m := ss.length) sl24 rfl hG rfl (Src.ofRow rc7_len hS) (cons_one hsl hss) (by omega) (by omega)) ?_
  rintro vb G9 _ ⟨_, rfl, rfl, hG9⟩
  refine SL.as rfl <| SL.nil <| T.seq <| T.region <| SL.mv rfl <| SL.mv rfl <| SL.v (op_addStr rfl rfl (by first | omega | (simp only [ByteArray.size_append]; omega))) ?_
  have hG10 : GrowS 82 7 vb (rs ++ ss).length (((rs ++ ss).map rc7).flatten) G9 := by
    rw [List.length_append, List.map_append, List.flatten_append]
    exact hG9
  refine T.pubGAt (own0 := []) hG10 ?_
  intro Y0 hY0 hS0
  have hB : ConsR Y0 vb (cs ++ ds) := ⟨rs ++ ss, RowR.ofG hG10 hS0, by rw [List.length_append, List.length_append, hrl, hsl], rel_app hrl hsl (fun q c r a b => (hrs q c r a b).mono hY0) (fun q c r a b => (hss q c r a b).mono hY0)⟩
  have hPY := hP9.mono hY0
  have hwB : ∀ c ∈ cs ++ ds, wtE c.ex < 900000 := fun c hc => by
    rcases List.mem_append.1 hc with hc | hc
    · exact hww c hc
    · exact hww' c hc
  by_cases hzB : chkAll (cs ++ ds) = 0
  · rw [if_pos hzB] at hm
    refine SL.w (op_callF en18 (vs := [_]) rfl (parse_ok hPY hm hsz)) ?_
    rintro _ _ Y1 ⟨rfl, hY1, vp, rfl, hvp⟩
    have hB := hB.mono hY1
    refine SL.mv rfl <| SL.v (op_extract rfl rfl) <| SL.v (op_extract rfl rfl) <| SL.v (op_extract rfl rfl) <| SL.as rfl <| SL.as rfl <| SL.as rfl <| SL.nil <| T.seq <| T.region <| SL.mv rfl <| SL.w (op_callF en16 (vs := [_]) rfl (checkB_spec (hPY.mono hY1) hB (by rw [wtC_app]; omega) hwB)) ?_
    rintro _ _ Y2 ⟨rfl, hY2, rfl⟩
    rw [hzB]
    refine SL.as rfl <| SL.nil <| T.seq <| T.seq <| T.region <| SL.mv rfl <| SL.mv rfl <| SL.v (op_neqF rfl rfl (by omega)) ?_
    refine SL.mv rfl <| SL.mv rfl <| SL.v (op_neqF rfl rfl (by omega)) ?_
    refine SL.v (op_pickF rfl rfl) <| SL.nil <| T.condF rfl <| T.skip <| T.seq <| T.region <| SL.mv rfl <| SL.v (op_neqF rfl rfl (by omega)) ?_
    refine SL.mv rfl <| SL.skip rfl rfl ?_
    refine SL.skip rfl rfl ?_
    refine SL.skip rfl rfl ?_
    refine SL.v (op_pickF rfl rfl) <| SL.mv rfl <| SL.mv rfl <| SL.v (op_eqlT rfl rfl (by omega)) ?_
    refine SL.mv rfl <| SL.mv rfl <| SL.mv rfl <| SL.w (op_callF en31 (vs := [_, _]) rfl (conEq_spec (hvp.mono hY2) (hB.mono hY2) (by rw [List.length_append]; omega) hwB)) ?_
    rintro _ _ Y3 ⟨rfl, hY3, rfl⟩
    rw [decide_eq_true rfl]
    refine SL.v (op_pickT rfl rfl) <| SL.v (op_pickF rfl rfl) <| SL.as rfl <| SL.nil <| T.ret1 rfl (ResIs.tmp rfl) ?_
    rfl
  · rw [if_neg hzB] at hm
    refine SL.w (op_callF en18 (vs := [_]) rfl (parse_err hPY hm hsz)) ?_
    rintro _ _ Y1 ⟨rfl, hY1, rfl⟩
    have hB := hB.mono hY1
    refine SL.mv rfl <| SL.v (op_extract rfl rfl) <| SL.v (op_extract rfl rfl) <| SL.v (op_extract rfl rfl) <| SL.as rfl <| SL.as rfl <| SL.as rfl <| SL.nil <| T.seq <| T.region <| SL.mv rfl <| SL.w (op_callF en16 (vs := [_]) rfl (checkB_spec (hPY.mono hY1) hB (by rw [wtC_app]; omega) hwB)) ?_
    rintro _ _ Y2 ⟨rfl, hY2, rfl⟩
    refine SL.as rfl <| SL.nil <| T.seq <| T.seq <| T.region <| SL.mv rfl <| SL.mv rfl <| SL.v (op_neqF rfl rfl (by omega)) ?_
    refine SL.mv rfl <| SL.mv rfl <| SL.v (op_neqF rfl rfl (by omega)) ?_
    refine SL.v (op_pickF rfl rfl) <| SL.nil <| T.condF rfl <| T.skip <| T.seq <| T.region <| SL.mv rfl <| SL.v (op_neqT rfl rfl (by omega)) ?_
    refine SL.mv rfl <| SL.mv rfl <| SL.v (op_lenS Tryz.underlying24 rfl) <| SL.v (op_eqlT rfl rfl (by omega)) ?_
    refine SL.v (op_pickT rfl rfl) <| SL.mv rfl <| SL.skip rfl rfl ?_
    refine SL.skip rfl rfl ?_
    refine SL.skip rfl rfl ?_
    refine SL.skip rfl rfl ?_
    refine SL.skip rfl rfl ?_
    refine SL.skip rfl rfl ?_
    refine SL.skip rfl rfl ?_
    refine SL.v (op_pickT rfl rfl) <| SL.as rfl <| SL.nil <| T.ret1 rfl (ResIs.tmp rfl) ?_
    rfl
end Go.Proofs.YtnabbnhefjfegaaGreatDoor
namespace Go.Proofs.YtnabbnhefjfegaaGreatDoor
open Go.RowKit
theorem gPow : Tryz.prog.globalNamed "internal/strconv.uint64pow10" = some 1 := by kernel_rfl
theorem gPowT : (Tryz.prog.globals[1]?).map (·.type) = some 211 := by kernel_rfl
theorem cells20 : Tryz.prog.cellsOf 211 = 20 := by kernel_rfl
theorem cellsU64 : Tryz.prog.cellsOf 171 = 1 := by kernel_rfl
theorem pow_of {W : World} {x y : String × DataW Unit} (h : laidMet Tryz.prog [x, y, ("internal/strconv.uint64pow10", Rows.laid_internal_strconv_uint64pow10)] W) : Pow10 (heapX W) := by
  have ht : Lib.TabIs Tryz.prog W "internal/strconv.uint64pow10" .u64 Lib.pow10Tab := Lib.tabIs_of_head gPow gPowT Tryz.underlying211 Tryz.underlying171 cellsU64 cells20 h.tail.tail
  intro w hw
  unfold Lib.TabIs World.var? at ht ⊢
  rw [gPow] at ht ⊢
  simp only [Option.bind_some] at ht ⊢
  cases hg : W.heap[1]? with
  | none => rw [hg] at ht; cases ht
  | some o =>
    rw [hg] at ht
    rw [hw 1 o hg]
    exact ht
end Go.Proofs.YtnabbnhefjfegaaGreatDoor
