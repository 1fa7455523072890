/- Expressions as the program has them. -/
import Derived.Test.YtaooojjhlngcmaaDoorBuild
import Derived.Test.YtaooojjhlngcmaaDoorLend
namespace Go.Proofs.YtaooojjhlngcmaaDoor
section
set_option maxRecDepth 100000
theorem bs34 : ∃ i z, Tryd.prog.info? 34 = some i ∧ i.size = 4 ∧ i.zero = some z ∧ z.cells = ([.int .u8 0, .int .i64 0, .slice none 0 0, .slice none 0 0] : List Value).toArray := bs_of (by kernel_rfl)
theorem en14 : Enters Tryd.prog 14 := enters_mk Tryd.func14 (by kernel_rfl) rfl
theorem sl32 : SlT Tryd.prog 32 34 4 64 := ⟨Tryd.underlying32, sl_of (by kernel_rfl) (by decide)⟩
end
open Go.RowKit
mutual
def opsE : Ex → Prop
  | .mk op _ _ al => op < 256 ∧ opsL al
def opsL : List Ex → Prop
  | [] => True
  | a :: al => opsE a ∧ opsL al
end
theorem opsL_mem {a : Ex} : ∀ {l : List Ex}, opsL l → a ∈ l → opsE a
  | x :: l, h, hm => by
    rw [opsL] at h
    rcases List.mem_cons.1 hm with rfl | hm
    · exact h.1
    · exact opsL_mem h.2 hm
theorem opsL_app : ∀ {l m : List Ex}, opsL l → opsL m → opsL (l ++ m)
  | [], _, _, h => h
  | x :: l, m, h1, h2 => by rw [opsL] at h1; exact (show opsE x ∧ opsL (l ++ m) from ⟨h1.1, opsL_app h1.2 h2⟩)
theorem opN_lt {d op : Nat} (h : op < 256) : opN d op < 256 := by unfold opN; split <;> omega
theorem oddE_ops {x : Nd} {op : Nat} {al : List Ex} (h : op < 256) (ha : opsL al) : opsE (oddE x op al) := by
  simp only [oddE]
  split
  · exact ⟨h, opsL_app ha ⟨⟨by omega, trivial⟩, trivial⟩⟩
  · split
    · exact ⟨h, trivial⟩
    · split
      · exact ⟨h, ha⟩
      · split
        · exact ⟨h, ha⟩
        · split <;> exact ⟨h, ha⟩
theorem manyN_ops {f : List Nd → Ex × List Nd} (hf : ∀ l, (∀ x ∈ l, ndOk x) → opsE (f l).1 ∧ ∀ x ∈ (f l).2, ndOk x) {l : List Nd} (h : ∀ x ∈ l, ndOk x) : ∀ k, opsL (manyN f k l).1 ∧ ∀ x ∈ (manyN f k l).2, ndOk x
  | 0 => ⟨trivial, h⟩
  | k + 1 => by
    obtain ⟨h1, h2⟩ := manyN_ops hf h k
    obtain ⟨h3, h4⟩ := hf _ h2
    exact ⟨opsL_app h1 ⟨h3, trivial⟩, h4⟩
theorem build_ops : ∀ (d : Nat) (l : List Nd), (∀ x ∈ l, ndOk x) → opsE (buildE d l).1 ∧ ∀ x ∈ (buildE d l).2, ndOk x
  | 0, l, h => ⟨oddE_ops (opN_lt (takeN_ok h).1.1) trivial, (takeN_ok h).2⟩
  | d + 1, l, h => by
    obtain ⟨h1, h2⟩ := manyN_ops (build_ops d) (takeN_ok h).2 (argN (takeN l).1.op)
    exact ⟨oddE_ops (opN_lt (takeN_ok h).1.1) h1, h2⟩
theorem built_ops {l : List Nd} (h : ∀ x ∈ l, ndOk x) : opsE (builtE l) := (build_ops 11 _ fun x hx => h x (List.mem_of_mem_take hx)).1
abbrev S3 (b : Nat) (op : Nat) (n : Int) (vn va : Value) : Ow := ⟨b, [.int .u8 (op : Int), .int .i64 n, vn, va], 34, 4⟩
theorem expr_spec (N : Nat) : ∀ {X : PMap} {e : Ex} {r : Row4}, wtE e ≤ N → N < 100000000 → opsE e → ExR .i64 X e r → Spec Tryd.prog 14 [.agg #[r.1, r.2.1, r.2.2.1, r.2.2.2]] X fun u X' => ∃ r' : Row4, u = .agg #[r'.1, r'.2.1, r'.2.2.1, r'.2.2.2] ∧ ExR .u8 X' e r' := by
  induction N with
  | zero => intro X e r h; cases e; rw [wtE] at h; omega
  | succ N ih =>
    intro X e r hN hB hops h
    have hmx : maxLen = 9223372036854775807 := rfl
    cases h with
    | @mk op n ns al vn va rows hn ha hl hr =>
    obtain ⟨Aa, ca, rfl⟩ := ha.form
    obtain ⟨An, cn, rfl⟩ := hn.form
    have hlen := wtL_len al
    have hnl := wtS_len ns
    rw [wtE] at hN
    obtain ⟨hop, hops2⟩ : op < 256 ∧ opsL al := hops
    have hsrc := fun (own : Own) => Src.ofRow (own := own) strC_len hn
    simp only [strsC_flat] at hsrc
    refine Spec.enter Tryd.func14 rfl Tryd.ntmps14 rfl ?_
    intro w0 hw0
    refine T.seq ?_
    refine T.region ?_
    refine SL.x (op_box rfl) rfl rfl ?_
    rintro _ _ _ ⟨B1, rfl, rfl, rfl⟩
    refine SL.x (op_alloc z34) rfl rfl ?_
    rintro _ _ _ ⟨B2, rfl, rfl, rfl⟩
    refine SL.nil ?_
    refine T.seq ?_
    refine T.draw (by kernel_rfl) 11 [.t 0, .t 1, .t 2, .t 3, .t 4, .t 6, .t 7, .g 5 8 9 10] (by kernel_rfl) ?_
    refine SD.take rfl panicBody (op_fieldAddr fa27_0 rfl) rfl rfl ?_
    first | refine SD.take rfl panicBody (op_load ty3 rfl (by repeat (first | exact AtO.here | apply AtO.there)) rfl) rfl rfl ?_ | refine SD.take rfl panicBody (op_loadX ty3 rfl (by assumption) rfl) rfl rfl ?_
    first | refine SD.take rfl panicBody (op_convU8 Tryd.underlying3 Tryd.underlying31 rfl (by omega) (by omega)) rfl rfl ?_ | refine SD.take rfl panicBody (op_convert Tryd.underlying3 Tryd.underlying31 rfl) rfl rfl ?_
    refine SD.take rfl panicBody (op_fieldAddr fa27_1 rfl) rfl rfl ?_
    first | refine SD.take rfl panicBody (op_load ty3 rfl (by repeat (first | exact AtO.here | apply AtO.there)) rfl) rfl rfl ?_ | refine SD.take rfl panicBody (op_loadX ty3 rfl (by assumption) rfl) rfl rfl ?_
    refine SD.take rfl panicBody (op_fieldAddr fa27_2 rfl) rfl rfl ?_
    first | refine SD.take rfl panicBody (op_load ty24 rfl (by repeat (first | exact AtO.here | apply AtO.there)) rfl) rfl rfl ?_ | refine SD.take rfl panicBody (op_loadX ty24 rfl (by assumption) rfl) rfl rfl ?_
    -- fork3 5
    refine SD.fork3 rfl rfl rfl rfl rfl rfl (K := (fun _ vj vk own' X' => ∃ (b1 c1 b3 : Nat), vj = .slice (some ⟨b1, 0, none⟩) ns.length c1 ∧ vk = .pointer (some ⟨b3, 0, none⟩) ∧ own' = [⟨b3, [.int .u8 0, .int .i64 0, .slice none 0 0, .slice none 0 0], 34, 4⟩, ⟨b1, strsC ns, 9, c1 * 1⟩, ⟨B2, [.int .u8 0, .int .i64 0, .slice none 0 0, .slice none 0 0], 34, 4⟩, ⟨B1, [.int .i64 (op : Int), .int .i64 n, .slice An ns.length cn, .slice Aa rows.length ca], 27, 4⟩] ∧ X = X' ∧ ns.length ≤ c1 ∧ c1 ≤ maxLen)) (vp := (fun _ vj => .agg #[.int .u8 (op : Int), .int .i64 n, vj, .slice none 0 0])) ((op_build0 (size := 1) Tryd.underlying24 bs9 rfl).mono fun _ _ _ h => (by obtain ⟨b0, rfl, rfl, rfl⟩ := h; exact ⟨⟨fun p hp => List.mem_cons_of_mem _ hp, PMap.le_refl _⟩, (op_append0 (size := 1) sl24 rfl rfl AtO.here (hsrc _) (strsC_one ns) (by omega) (by omega)).mono fun _ _ _ h => (by obtain ⟨b1, c1, rfl, rfl, rfl, h1, h2⟩ := h; exact ⟨⟨fun p hp => List.mem_cons_of_mem _ hp, PMap.le_refl _⟩, op_build st34 (qs := [(0, _), (1, _), (2, _)]) rfl rfl, (op_alloc z34).mono fun _ _ _ h => (by obtain ⟨b3, rfl, rfl, rfl⟩ := h; exact ⟨⟨fun p hp => List.mem_cons_of_mem _ (List.mem_cons_of_mem _ hp), PMap.le_refl _⟩, _, .refl _, b1, c1, b3, rfl, rfl, rfl, rfl, h1, h2⟩), (op_alloc z34).mono fun _ _ _ h => (by obtain ⟨b3, rfl, rfl, rfl⟩ := h; exact ⟨⟨fun p hp => List.mem_cons_of_mem _ (List.mem_cons_of_mem _ hp), PMap.le_refl _⟩, _, .refl _, b1, c1, b3, rfl, rfl, rfl, rfl, h1, h2⟩)⟩), (op_alloc z34).mono fun _ _ _ h => (by obtain ⟨b3, rfl, rfl, rfl⟩ := h; exact ⟨⟨fun p hp => List.mem_cons_of_mem _ (List.mem_cons_of_mem _ hp), PMap.le_refl _⟩, (op_append0 (size := 1) sl24 rfl rfl (AtO.there AtO.here) (hsrc _) (strsC_one ns) (by omega) (by omega)).mono fun _ _ _ h => (by obtain ⟨b1, c1, rfl, rfl, rfl, h1, h2⟩ := h; exact ⟨⟨fun p hp => List.mem_cons_of_mem _ (List.mem_cons_of_mem _ hp), PMap.le_refl _⟩, _, .refl _, b1, c1, b3, rfl, rfl, rfl, rfl, h1, h2⟩)⟩)⟩)) ((op_alloc z34).mono fun _ _ _ h => (by obtain ⟨b3, rfl, rfl, rfl⟩ := h; exact ⟨⟨fun p hp => List.mem_cons_of_mem _ hp, PMap.le_refl _⟩, (op_build0 (size := 1) Tryd.underlying24 bs9 rfl).mono fun _ _ _ h => (by obtain ⟨b0, rfl, rfl, rfl⟩ := h; exact ⟨⟨fun p hp => List.mem_cons_of_mem _ (List.mem_cons_of_mem _ hp), PMap.le_refl _⟩, (op_append0 (size := 1) sl24 rfl rfl AtO.here (hsrc _) (strsC_one ns) (by omega) (by omega)).mono fun _ _ _ h => (by obtain ⟨b1, c1, rfl, rfl, rfl, h1, h2⟩ := h; exact ⟨⟨fun p hp => List.mem_cons_of_mem _ (List.mem_cons_of_mem _ hp), PMap.le_refl _⟩, _, .swap _ _ _, b1, c1, b3, rfl, rfl, rfl, rfl, h1, h2⟩)⟩)⟩)) (fun vi vj vk _ _ h => (by obtain ⟨b1, c1, b3, rfl, rfl, rfl, rfl, h1, h2⟩ := h; exact op_build st34 (qs := [(0, _), (1, _), (2, _)]) rfl rfl)) ?_
    rintro _ _ _ _ _ ⟨b1, c1, b3, rfl, rfl, rfl, rfl, hc1, hc2⟩
    refine SD.nil ?_
    show SL _ _ _ _ _ _ _ [_] _ _ _
    refine SL.x (op_store ty34 rfl rfl (by repeat (first | exact AtO.here | apply AtO.there)) rfl rfl rfl) rfl rfl ?_
    rintro _ _ _ ⟨rfl, rfl⟩
    refine SL.nil ?_
    refine T.seq ?_
    refine T.seq ?_
    refine T.region ?_
    refine SL.y (op_fieldAddr fa27_3 rfl) rfl rfl ?_
    first | refine SL.y (op_load ty25 rfl (by repeat (first | exact AtO.here | apply AtO.there)) rfl) rfl rfl ?_ | refine SL.y (op_loadX ty25 rfl (by assumption) rfl) rfl rfl ?_
    refine SL.y (op_lenS Tryd.underlying25 rfl) rfl rfl ?_
    refine SL.y (op_move (v := .int .i64 ((0 : Nat) : Int)) rfl) rfl rfl ?_
    refine SL.nil ?_
    refine T.block ?_
    -- loop live [2, 3, 17, 18, 19]
    refine T.pub b1 (by repeat (first | exact AtO.here | apply AtO.there)) ?_
    intro Y1 hY1 hB1 _
    have hN : RowR strC Y1 (.slice (some ⟨b1, 0, none⟩) ns.length c1) ns := by
      rcases Nat.eq_zero_or_pos ns.length with h0 | h0
      · exact .inl ⟨List.eq_nil_of_length_eq_zero h0, _, _, by rw [h0]⟩
      · exact .inr ⟨h0, b1, c1, [], rfl, by rw [strsC_flat]; exact hB1, hc1, hc2⟩
    generalize Value.slice (some ⟨b1, 0, none⟩) ns.length c1 = vn at *
    obtain ⟨An1, cn1, rfl⟩ := hN.form
    refine T.drop B1 (by repeat (first | exact AtO.here | apply AtO.there)) ?_
    refine T.loopW (fun m env own X' => ∃ (i : Nat) (va : Value) (Ga : Own) (rs : List Row4), m = rows.length - i ∧ i ≤ rows.length ∧ Y1.le X' ∧ rs.length = i ∧ GrowS 34 4 va rs.length (rs.map rc4).flatten Ga ∧ (∀ (q : Nat) (a : Ex) (r : Row4), al[q]? = some a → rs[q]? = some r → ExR .u8 X' a r) ∧ env = [(2, .pointer (some ⟨B2, 0, none⟩)), (3, .pointer (some ⟨b3, 0, none⟩)), (17, .slice Aa rows.length ca), (18, .int .i64 (rows.length : Int)), (19, .int .i64 (i : Int))] ∧ own = S3 b3 op n (.slice An1 ns.length cn1) va :: S3 B2 0 0 (.slice none 0 0) (.slice none 0 0) :: Ga) rows.length ⟨0, _, [], [], by simp, by omega, PMap.le_refl _, rfl, GrowS.nil, fun q a r _ h => by simp at h, rfl, rfl⟩ (by repeat (first | exact Sub.nil | refine Sub.cons rfl ?_)) ?_
    rintro m _ _ X1 ⟨i, va, Ga, rs, rfl, hi, hX1, hrsl, hGa, hrs, rfl, rfl⟩
    rcases Nat.lt_or_ge i rows.length with hil | hil
    · obtain ⟨r2, hr2⟩ : ∃ r2, rows[i]? = some r2 := ⟨_, List.getElem?_eq_getElem hil⟩
      obtain ⟨a, ha2⟩ : ∃ a, al[i]? = some a := ⟨_, List.getElem?_eq_getElem (by omega)⟩
      have hra := hr i a r2 ha2 hr2
      obtain ⟨bA, pre, rfl, hbA⟩ := ha.blk (by omega)
      obtain ⟨_, _, _, _, _, _, _, _, rfl⟩ := hra.form
      have hma := List.mem_of_getElem? ha2
      have hwa := wtL_mem hma
      refine T.seq ?_
      refine T.region ?_
      first | refine SL.y (op_lssT rfl rfl (by omega)) rfl rfl ?_ | refine SL.y (op_lssF rfl rfl (by omega)) rfl rfl ?_ | refine SL.y (op_lss rfl rfl) rfl rfl ?_
      refine SL.nil ?_
      refine T.seq ?_
      refine T.condT rfl ?_
      refine T.skip ?_
      refine T.seq ?_
      refine T.block ?_
      refine T.seq ?_
      refine T.region ?_
      first | refine SL.y (op_indexN Tryd.underlying25 ty27 rfl rfl (by omega)) rfl rfl ?_ | refine SL.y (op_index Tryd.underlying25 ty27 rfl rfl (by omega) (by omega)) rfl rfl ?_
      -- to 22: op
      refine SL.y (op_loadX ty27 rfl ((hbA.mono hY1).mono hX1) (row_read rc4_len hr2 (by omega))) rfl rfl ?_
      refine SL.x (op_alloc z27) rfl rfl ?_
      rintro _ _ _ ⟨B5, rfl, rfl, rfl⟩
      refine SL.x (op_store ty27 rfl rfl (by repeat (first | exact AtO.here | apply AtO.there)) rfl rfl rfl) rfl rfl ?_
      rintro _ _ _ ⟨rfl, rfl⟩
      refine SL.nil ?_
      refine T.drawG (own0 := [_, _, _]) (by kernel_rfl) 5 [.t 0, .t 1, .t 2, .r 3, .r 4] (by kernel_rfl) ?_
      refine SD.take rfl panicBody (op_fieldAddr fa34_3 rfl) rfl rfl ?_
      first | refine SD.take rfl panicBody (op_load ty32 rfl (by repeat (first | exact AtO.here | apply AtO.there)) rfl) rfl rfl ?_ | refine SD.take rfl panicBody (op_loadX ty32 rfl (by assumption) rfl) rfl rfl ?_
      first | refine SD.take rfl panicBody (op_load ty27 rfl (by repeat (first | exact AtO.here | apply AtO.there)) rfl) rfl rfl ?_ | refine SD.take rfl panicBody (op_loadX ty27 rfl (by assumption) rfl) rfl rfl ?_
      -- op
      refine SD.run rfl (op_callF en14 (vs := [_]) rfl (ih (by omega) (by omega) (opsL_mem hops2 hma) ((hra.mono hY1).mono hX1))) rfl rfl ?_
      rintro _ _ X2 ⟨rfl, hX2, r8, rfl, hr8⟩
      obtain ⟨o8, n8, a8, b8, l8, c8, l9, c9, rfl⟩ := hr8.form
      refine SD.run rfl (op_buildSlice Tryd.underlying32 bs34 (qs := [(0, _)]) rfl rfl rfl rfl rfl) rfl rfl ?_
      rintro _ _ _ ⟨B27, rfl, rfl, rfl⟩
      refine SD.nil ?_
      show SL _ _ _ _ _ _ _ [_, _, _] _ _ _
      -- op
      refine SL.x (op_appendGA (own0 := [_, _, _, _]) (m := 1) sl32 rfl hGa rfl (Src.ofOwn0 AtO.here rfl) (by intro y hy; have hy : y ∈ [Value.int _ _, Value.int _ _, Value.slice _ _ _, Value.slice _ _ _] := hy; simp only [List.mem_cons, List.not_mem_nil, or_false] at hy; rcases hy with rfl | rfl | rfl | rfl <;> rfl) (by omega) (by omega)) rfl rfl ?_
      rintro va9 _ _ ⟨Ga9, rfl, rfl, hGa9⟩
      obtain ⟨Aa9, ca9, rfl⟩ := hGa9.form
      refine SL.y (op_fieldAddr fa34_3 rfl) rfl rfl ?_
      refine SL.x (op_store ty32 rfl rfl (by repeat (first | exact AtO.here | apply AtO.there)) rfl rfl rfl) rfl rfl ?_
      rintro _ _ _ ⟨rfl, rfl⟩
      refine SL.nil ?_
      refine T.blk ?_
      refine T.region ?_
      first | refine SL.y (op_addN (q := 1) rfl rfl (by omega)) rfl rfl ?_ | refine SL.y (op_add rfl rfl (by omega) (by omega)) rfl rfl ?_ | refine SL.y (op_addW rfl rfl) rfl rfl ?_
      refine SL.y (op_move rfl) rfl rfl ?_
      refine SL.nil ?_
      -- cut
      refine T.less (List.sublist_cons_self _ _) ?_
      refine T.less (List.sublist_cons_self _ _) ?_
      have hGa10 : GrowS 34 4 (.slice Aa9 (rs.length + 1) ca9) (rs ++ [((.int .u8 (o8 : Int), .int .i64 n8, .slice a8 l8 c8, .slice b8 l9 c9) : Row4)]).length (((rs ++ [((.int .u8 (o8 : Int), .int .i64 n8, .slice a8 l8 c8, .slice b8 l9 c9) : Row4)]).map rc4).flatten) Ga9 := by
        rw [List.length_append, List.map_append, List.flatten_append]
        exact hGa9
      have hrows2 : ∀ (q : Nat) (a : Ex) (r : Row4), al[q]? = some a → (rs ++ [((.int .u8 (o8 : Int), .int .i64 n8, .slice a8 l8 c8, .slice b8 l9 c9) : Row4)])[q]? = some r → ExR .u8 X2 a r := by
        intro q a' r hq hr'
        rcases Nat.lt_or_ge q i with hik | hik
        · rw [List.getElem?_append_left (by omega)] at hr'
          exact (hrs q a' r hq hr').mono hX2
        · have hik2 : q = i := by
            have := (List.getElem?_eq_some_iff.1 hr').1
            rw [List.length_append] at this; simp at this; omega
          subst hik2
          rw [List.getElem?_append_right (by omega), hrsl, Nat.sub_self] at hr'
          simp only [List.getElem?_cons_zero, Option.some.injEq] at hr'
          rw [ha2] at hq
          cases hq
          subst hr'
          exact hr8
      exact T.backW (rows.length - (i + 1)) (by omega) ⟨i + 1, _, _, rs ++ [(.int .u8 (o8 : Int), .int .i64 n8, .slice a8 l8 c8, .slice b8 l9 c9)], rfl, by omega, hX1.trans' hX2, by rw [List.length_append, hrsl]; rfl, hGa10, hrows2, rfl, rfl⟩ (by repeat (first | exact Sub.nil | refine Sub.cons rfl ?_))
    · obtain rfl : i = rows.length := by omega
      obtain ⟨Aa8, ca8, rfl⟩ := hGa.form
      refine T.seq ?_
      refine T.region ?_
      first | refine SL.y (op_lssT rfl rfl (by omega)) rfl rfl ?_ | refine SL.y (op_lssF rfl rfl (by omega)) rfl rfl ?_ | refine SL.y (op_lss rfl rfl) rfl rfl ?_
      refine SL.nil ?_
      refine T.seq ?_
      refine T.condF rfl ?_
      refine T.exit (T.exitCode (T.exitCut (T.exitBlk ?_)))
      refine T.seq ?_
      refine T.region ?_
      first | refine SL.y (op_load ty34 rfl (by repeat (first | exact AtO.here | apply AtO.there)) rfl) rfl rfl ?_ | refine SL.y (op_loadX ty34 rfl (by assumption) rfl) rfl rfl ?_
      refine SL.x (op_store ty34 rfl rfl (by repeat (first | exact AtO.here | apply AtO.there)) rfl rfl rfl) rfl rfl ?_
      rintro _ _ _ ⟨rfl, rfl⟩
      refine SL.nil ?_
      -- ret
      refine T.pubG (own0 := [_, _]) hGa ?_
      intro X9 hX9 hS9
      refine T.ret1 rfl (ResIs.cell rfl ty34 (by repeat (first | exact AtO.here | apply AtO.there)) rfl) ?_
      have hA : RowR rc4 X9 (.slice Aa8 rs.length ca8) rs := RowR.ofG hGa hS9
      exact ⟨(.int .u8 (op : Int), .int .i64 n, .slice An1 ns.length cn1, .slice Aa8 rs.length ca8), rfl, .mk ((hN.mono hX1).mono hX9) hA (hrsl.trans hl) (fun q a r h1 h2 => (hrs q a r h1 h2).mono hX9)⟩
end Go.Proofs.YtaooojjhlngcmaaDoor
