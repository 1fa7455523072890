/- What the law's proof rests on: the engine, a small separation logic over the kit's walk, and contracts of the functions that the law reaches. Part 4. -/
import Derived.Laws.IdiomStrings
import Derived.Test.YtnpcilglilfajaaGreatDoorPart1
import Derived.Test.YtnpcilglilfajaaGreatDoorPart2
import Derived.Test.YtnpcilglilfajaaGreatDoorPart3
namespace Go.Proofs.YtnpcilglilfajaaGreatDoor
section
set_option maxRecDepth 100000
theorem en18 : Enters Tryz.prog 18 := enters_mk Tryz.func18 (by kernel_rfl) rfl
theorem en72 : Enters Tryz.prog 72 := enters_mk Tryz.func72 (by kernel_rfl) rfl
theorem en73 : Enters Tryz.prog 73 := enters_mk Tryz.func73 (by kernel_rfl) rfl
end
open Go.RowKit
/-- The formula of an expression, and the error. -/
noncomputable def resF (ns : List ByteArray) (adm kind : Nat) (e : Ex) : Fm × Int :=
  if kind < 1 ∨ 3 < kind then (zeF, 1) else if chkE e ≠ 0 then (zeF, chkE e) else match numbF ns adm e with
    | none => (zeF, 9)
    | some f => if chkF kind f ≠ 0 then (zeF, chkF kind f) else (f, 0)
theorem TabR.form {X : PMap} {v : Value} {ns : List ByteArray} (h : TabR X v ns) : ∃ b, v = .pointer (some ⟨b, 0, none⟩) := let ⟨b, _, _, h1, _⟩ := h; ⟨b, h1⟩
theorem resolve_spec {X : PMap} {e : Ex} {r : Row4} {vt vs : Value} {ns : List ByteArray} {adm kind : Nat} (hw : wtE e < 1000000) (hk : kind < 256) (h63 : ns.length ≤ 63) (hT : TabR X vt ns) (hS : SetR X vs adm) (h : ExR .u8 X e r) : Spec Tryz.prog 25 [.agg #[r.1, r.2.1, r.2.2.1, r.2.2.2], .int .u8 (kind : Int), vt, vs] X fun u X' => ∃ r' : Row4, u = .tuple #[.agg #[r'.1, r'.2.1, r'.2.2.1, r'.2.2.2], .int .i64 (resF ns adm kind e).2] ∧ FmR .u8 X' (resF ns adm kind e).1 r' := by
  have hc1 := fun {X' : PMap} (hX : X.le X') => chk_spec (by omega) (h.mono hX)
  have hc2 := fun {X' : PMap} (hX : X.le X') => numb_spec (wtE e) (Nat.le_refl _) (by omega) h63 (hT.mono hX) (hS.mono hX) (h.mono hX)
  obtain ⟨bt, rfl⟩ := hT.form
  obtain ⟨As, ls, cs, rfl⟩ := hS.form
  obtain ⟨o, n, A, B, l, c, l', c', rfl⟩ := h.form
  try simp only at hc1
  try simp only at hc2
  rw [resF]
  by_cases k1 : kind < 1
  · rw [if_pos (.inl k1)]
    refine Spec.enter Tryz.func25 rfl Tryz.ntmps25 rfl ?_
    intro w0 hw0
    refine T.seq <| T.region <| SL.w (op_box rfl) ?_
    rintro _ _ _ ⟨B4, rfl, rfl, rfl⟩
    refine SL.w (op_box rfl) ?_
    rintro _ _ _ ⟨B7, rfl, rfl, rfl⟩
    refine SL.w (op_alloc z36) ?_
    rintro _ _ _ ⟨B8, rfl, rfl, rfl⟩
    refine SL.v (op_assign (v := .int .i64 ((0 : Nat) : Int)) rfl) <| SL.nil <| T.seq <| T.seq <| T.region <| SL.mv rfl <| SL.v (op_eqlNil Tryz.underlying64 rfl rfl) <| SL.mv rfl <| SL.mv rfl <| SL.v (op_lssT rfl rfl (by omega)) ?_
    refine SL.v (op_pickF rfl rfl) <| SL.mv rfl <| SL.skip rfl rfl ?_
    refine SL.skip rfl rfl ?_
    refine SL.v (op_pickT rfl rfl) <| SL.nil <| T.condT rfl <| T.seq <| T.region <| SL.v (op_build st36 (qs := []) rfl rfl) <| SL.w (op_store ty36 rfl rfl (by repeat constructor) rfl rfl rfl) ?_
    rintro _ _ _ ⟨rfl, rfl⟩
    refine SL.v (op_assign (v := .int .i64 ((1 : Nat) : Int)) rfl) <| SL.nil <| T.ret2 rfl (ResIs.cell rfl ty36 (by repeat constructor) rfl) (ResIs.tmp rfl) ?_
    exact ⟨_, rfl, zeF_R⟩
  by_cases k2 : 3 < kind
  · rw [if_pos (.inr k2)]
    refine Spec.enter Tryz.func25 rfl Tryz.ntmps25 rfl ?_
    intro w0 hw0
    refine T.seq <| T.region <| SL.w (op_box rfl) ?_
    rintro _ _ _ ⟨B4, rfl, rfl, rfl⟩
    refine SL.w (op_box rfl) ?_
    rintro _ _ _ ⟨B7, rfl, rfl, rfl⟩
    refine SL.w (op_alloc z36) ?_
    rintro _ _ _ ⟨B8, rfl, rfl, rfl⟩
    refine SL.v (op_assign (v := .int .i64 ((0 : Nat) : Int)) rfl) <| SL.nil <| T.seq <| T.seq <| T.region <| SL.mv rfl <| SL.v (op_eqlNil Tryz.underlying64 rfl rfl) <| SL.mv rfl <| SL.mv rfl <| SL.v (op_lssF rfl rfl (by omega)) ?_
    refine SL.v (op_pickF rfl rfl) <| SL.mv rfl <| SL.mv rfl <| SL.v (op_gtrT rfl rfl (by omega)) ?_
    refine SL.v (op_pickF rfl rfl) <| SL.nil <| T.condT rfl <| T.seq <| T.region <| SL.v (op_build st36 (qs := []) rfl rfl) <| SL.w (op_store ty36 rfl rfl (by repeat constructor) rfl rfl rfl) ?_
    rintro _ _ _ ⟨rfl, rfl⟩
    refine SL.v (op_assign (v := .int .i64 ((1 : Nat) : Int)) rfl) <| SL.nil <| T.ret2 rfl (ResIs.cell rfl ty36 (by repeat constructor) rfl) (ResIs.tmp rfl) ?_
    exact ⟨_, rfl, zeF_R⟩
  rw [if_neg (fun h => h.elim k1 k2)]
  refine Spec.enter Tryz.func25 rfl Tryz.ntmps25 rfl ?_
  intro w0 hw0
  refine T.seq <| T.region <| SL.w (op_box rfl) ?_
  rintro _ _ _ ⟨B4, rfl, rfl, rfl⟩
  refine SL.w (op_box rfl) ?_
  rintro _ _ _ ⟨B7, rfl, rfl, rfl⟩
  refine SL.w (op_alloc z36) ?_
  rintro _ _ _ ⟨B8, rfl, rfl, rfl⟩
  refine SL.v (op_assign (v := .int .i64 ((0 : Nat) : Int)) rfl) <| SL.nil <| T.seq <| T.seq <| T.region <| SL.mv rfl <| SL.v (op_eqlNil Tryz.underlying64 rfl rfl) <| SL.mv rfl <| SL.mv rfl <| SL.v (op_lssF rfl rfl (by omega)) ?_
  refine SL.v (op_pickF rfl rfl) <| SL.mv rfl <| SL.mv rfl <| SL.v (op_gtrF rfl rfl (by omega)) ?_
  refine SL.v (op_pickF rfl rfl) <| SL.nil <| T.condF rfl <| T.skip <| T.seq <| T.seq <| T.region <| SL.v (op_load ty70 rfl (by repeat constructor) rfl) ?_
  refine SL.w (op_callF en73 (vs := [_]) rfl (hc1 (PMap.le_refl _))) ?_
  rintro _ _ X1 ⟨rfl, hX1, rfl⟩
  by_cases d : chkE e = 0
  case neg =>
    rw [if_pos d]
    refine SL.as rfl <| SL.nil <| T.seq <| T.region <| SL.mv rfl <| SL.v (op_neqT rfl rfl (by omega)) ?_
    refine SL.nil <| T.condT rfl <| T.seq <| T.region <| SL.v (op_build st36 (qs := []) rfl rfl) <| SL.mv rfl <| SL.w (op_store ty36 rfl rfl (by repeat constructor) rfl rfl rfl) ?_
    rintro _ _ _ ⟨rfl, rfl⟩
    refine SL.as rfl <| SL.nil <| T.ret2 rfl (ResIs.cell rfl ty36 (by repeat constructor) rfl) (ResIs.tmp rfl) ?_
    exact ⟨_, rfl, zeF_R⟩
  rw [if_neg (fun h => h d), d]
  refine SL.as rfl <| SL.nil <| T.seq <| T.region <| SL.mv rfl <| SL.v (op_neqF rfl rfl (by omega)) ?_
  refine SL.nil <| T.condF rfl <| T.skip <| T.seq <| T.region <| SL.v (op_load ty70 rfl (by repeat constructor) rfl) ?_
  refine SL.mv rfl <| SL.v (op_load ty53 rfl (by repeat constructor) rfl) ?_
  refine SL.w (op_callF en74 (vs := [_, _, _]) rfl (hc2 hX1)) ?_
  rintro _ _ X2 ⟨rfl, hX2, r8, rfl, hr8⟩
  cases hnf : numbF ns adm e with
  | none =>
    obtain ⟨o8, n8, a8, b8, l8, c8, l9, c9, rfl⟩ := hr8.form
    rw [Option.isSome_none]
    refine SL.mv rfl <| SL.v (op_extract rfl rfl) <| SL.v (op_extract rfl rfl) <| SL.w (op_alloc z36) ?_
    rintro _ _ _ ⟨B11, rfl, rfl, rfl⟩
    refine SL.w (op_store ty36 rfl rfl (by repeat constructor) rfl rfl rfl) ?_
    rintro _ _ _ ⟨rfl, rfl⟩
    refine SL.as rfl <| SL.nil <| T.seq <| T.seq <| T.region <| SL.mv rfl <| SL.v (op_not rfl) <| SL.nil <| T.condT rfl <| T.seq <| T.region <| SL.v (op_build st36 (qs := []) rfl rfl) <| SL.w (op_store ty36 rfl rfl (by repeat constructor) rfl rfl rfl) ?_
    rintro _ _ _ ⟨rfl, rfl⟩
    refine SL.v (op_assign (v := .int .i64 ((9 : Nat) : Int)) rfl) <| SL.nil <| T.ret2 rfl (ResIs.cell rfl ty36 (by repeat constructor) rfl) (ResIs.tmp rfl) ?_
    exact ⟨_, rfl, zeF_R⟩
  | some f =>
    rw [hnf, Option.getD_some] at hr8
    have hwf := numbF_wt e hnf
    have hc3 := fun {X' : PMap} (hX : X2.le X') => fchk_spec (kind := kind) (by omega) hk (hr8.mono hX)
    obtain ⟨o8, n8, a8, b8, l8, c8, l9, c9, rfl⟩ := hr8.form
    try simp only at hc3
    rw [Option.isSome_some]
    refine SL.mv rfl <| SL.v (op_extract rfl rfl) <| SL.v (op_extract rfl rfl) <| SL.w (op_alloc z36) ?_
    rintro _ _ _ ⟨B11, rfl, rfl, rfl⟩
    refine SL.w (op_store ty36 rfl rfl (by repeat constructor) rfl rfl rfl) ?_
    rintro _ _ _ ⟨rfl, rfl⟩
    refine SL.as rfl <| SL.nil <| T.seq <| T.seq <| T.region <| SL.mv rfl <| SL.v (op_not rfl) <| SL.nil <| T.condF rfl <| T.skip <| T.seq <| T.seq <| T.region <| SL.v (op_load ty36 rfl (by repeat constructor) rfl) ?_
    refine SL.mv rfl <| SL.w (op_callF en18 (vs := [_, _]) rfl (hc3 (PMap.le_refl _))) ?_
    rintro _ _ X3 ⟨rfl, hX3, rfl⟩
    simp only
    by_cases d2 : chkF kind f = 0
    case neg =>
      rw [if_pos d2]
      refine SL.as rfl <| SL.nil <| T.seq <| T.region <| SL.mv rfl <| SL.v (op_neqT rfl rfl (by omega)) ?_
      refine SL.nil <| T.condT rfl <| T.seq <| T.region <| SL.v (op_build st36 (qs := []) rfl rfl) <| SL.mv rfl <| SL.w (op_store ty36 rfl rfl (by repeat constructor) rfl rfl rfl) ?_
      rintro _ _ _ ⟨rfl, rfl⟩
      refine SL.as rfl <| SL.nil <| T.ret2 rfl (ResIs.cell rfl ty36 (by repeat constructor) rfl) (ResIs.tmp rfl) ?_
      exact ⟨_, rfl, zeF_R⟩
    rw [if_neg (fun h => h d2), d2]
    refine SL.as rfl <| SL.nil <| T.seq <| T.region <| SL.mv rfl <| SL.v (op_neqF rfl rfl (by omega)) ?_
    refine SL.nil <| T.condF rfl <| T.skip <| T.seq <| T.region <| SL.v (op_load ty36 rfl (by repeat constructor) rfl) ?_
    refine SL.w (op_store ty36 rfl rfl (by repeat constructor) rfl rfl rfl) ?_
    rintro _ _ _ ⟨rfl, rfl⟩
    refine SL.v (op_assign (v := .int .i64 ((0 : Nat) : Int)) rfl) <| SL.nil <| T.ret2 rfl (ResIs.cell rfl ty36 (by repeat constructor) rfl) (ResIs.tmp rfl) ?_
    exact ⟨_, rfl, hr8.mono hX3⟩
theorem tabl_spec {X : PMap} {v : Value} {l : List ByteArray} (h : RowR strC X v l) (hl : l.length < 1000000) : Spec Tryz.prog 24 [v] X fun u X' => if errOf 63 [] l = 0 then TabR X' u l else u = .pointer none := by
  obtain ⟨A, cp, rfl⟩ := h.form
  refine Spec.enter Tryz.func24 rfl Tryz.ntmps24 rfl ?_
  intro w0 hw0
  refine T.seq <| T.region <| SL.as rfl <| SL.nil <| T.seq <| T.region <| SL.mv rfl <| SL.w (op_callF en72 (vs := [_, _]) rfl (of_tab_spec (n := 63) h hl)) ?_
  rintro u2 _ X1 ⟨rfl, hX1, hu⟩
  by_cases he : errOf 63 [] l = 0
  · rw [if_pos he] at hu
    obtain ⟨v', rfl, hT⟩ := hu
    refine SL.mv rfl <| SL.v (op_extract rfl rfl) <| SL.v (op_extract rfl rfl) <| SL.as rfl <| SL.as rfl <| SL.nil <| T.seq <| T.seq <| T.region <| SL.mv rfl <| SL.v (op_neqF rfl rfl (by omega)) ?_
    refine SL.nil <| T.condF rfl <| T.skip <| T.seq <| T.region <| SL.mv rfl <| SL.as rfl <| SL.nil <| T.ret1 rfl (ResIs.tmp rfl) ?_
    rw [if_pos he]
    exact hT
  · rw [if_neg he] at hu
    subst hu
    refine SL.mv rfl <| SL.v (op_extract rfl rfl) <| SL.v (op_extract rfl rfl) <| SL.as rfl <| SL.as rfl <| SL.nil <| T.seq <| T.seq <| T.region <| SL.mv rfl <| SL.v (op_neqT rfl rfl (by omega)) ?_
    refine SL.nil <| T.condT rfl <| T.seq <| T.region <| SL.as rfl <| SL.nil <| T.ret1 rfl (ResIs.tmp rfl) ?_
    rw [if_neg he]
end Go.Proofs.YtnpcilglilfajaaGreatDoor
namespace Go.Proofs.YtnpcilglilfajaaGreatDoor
section
set_option maxRecDepth 100000
theorem en148 : Enters Tryz.prog 148 := enters_mk Tryz.func148 (by kernel_rfl) rfl
theorem en149 : Enters Tryz.prog 149 := enters_mk Tryz.func149 (by kernel_rfl) rfl
theorem en183 : Enters Tryz.prog 183 := enters_mk Tryz.func183 (by kernel_rfl) rfl
theorem fa231_0 : FAdr Tryz.prog 231 0 0 := fadr_mk Tryz.underlying231 rfl rfl (by kernel_rfl)
theorem z231 : Zero Tryz.prog 231 [.slice none 0 0] := ⟨zero_of (by kernel_rfl)⟩
theorem st231 : StT Tryz.prog 231 [(0, 1)] [.slice none 0 0] := ⟨⟨_, Tryz.underlying231, fun _ => by kernel_rfl, z231⟩⟩
end
open Go.RowKit
theorem groups_spec {X : PMap} {n : Nat} (hn : n < 18446744073709551616) : SpecO Tryz.prog 149 [.int .u64 (n : Int)] X fun u own1 _ => GrowS 5 1 u (numB n).length (bytesC (numB n)) own1 := by
  have hnl := numB_len hn
  have hs7 : ∀ v : Nat, v >>> 7 = v / 128 := fun v => Nat.shiftRight_eq_div_pow v 7
  refine SpecO.enter Tryz.func149 rfl Tryz.ntmps149 rfl ?_
  intro w0 hw0
  refine T.seq <| T.region <| SL.as rfl <| SL.nil <| T.seq <| T.region <| SL.mv rfl <| SL.v (op_and127L rfl rfl hn) <| SL.v (op_convU8 Tryz.underlying58 Tryz.underlying5 rfl (by omega) (by omega)) ?_
  refine SL.w (op_buildSlice Tryz.underlying44 bs5 (qs := [(0, _)]) rfl rfl rfl rfl rfl) ?_
  rintro _ _ _ ⟨B7, rfl, rfl, rfl⟩
  refine SL.as rfl <| SL.nil <| T.seq <| T.seq <| T.region <| SL.mv rfl <| SL.v (op_shrN (q := 7) rfl rfl (by omega)) ?_
  refine SL.as rfl <| SL.nil <| T.block <| T.loopW (fun m env own X' => ∃ (v : Nat) (out : List Nat) (sv : Value) (G : Own), v = m ∧ v < 18446744073709551616 ∧ X.le X' ∧ 0 < out.length ∧ numB n = numHi v ++ out.reverse ∧ GrowS 5 1 sv out.length (bytesC out) G ∧ env = [(0, .int .u64 (v : Int)), (3, sv)] ∧ G = own) (n >>> 7) ⟨n >>> 7, [n % 128], _, _, rfl, by rw [hs7]; omega, PMap.le_refl _, by simp, by rw [hs7]; rfl, .inr ⟨B7, 1, rfl, rfl, by simp, by decide, rfl⟩, rfl, rfl⟩ (by repeat (first | exact Sub.nil | refine Sub.cons rfl ?_)) ?_
  rintro m _ _ X1 ⟨v, out, sv, G, rfl, hv, hX1, ho0, hinv, hG, rfl, rfl⟩
  obtain ⟨As, cs, rfl⟩ := hG.form
  have hol : out.length ≤ 10 := by
    have := congrArg List.length hinv
    rw [List.length_append, List.length_reverse] at this; omega
  rcases Nat.eq_zero_or_pos v with h0 | h0
  · subst h0
    rw [numHi_zero, List.nil_append] at hinv
    rcases hG with ⟨h1, _⟩ | ⟨bo, cap, hv2, rfl, hc1, hc2, hc3⟩
    · omega
    obtain ⟨rfl, rfl⟩ : As = some ⟨bo, 0, none⟩ ∧ cs = cap := by injection hv2 with h1 h2 h3; exact ⟨h1, h3⟩
    refine T.seq <| T.seq <| T.region <| SL.mv rfl <| SL.v (op_gtrF rfl rfl (by omega)) ?_
    refine SL.nil <| T.condF rfl ?_
    refine T.exit (T.exitCode (T.exitCut (T.exitBlk ?_)))
    refine T.seq <| T.region <| SL.mv rfl <| SL.w (op_callM en183 (vs := [_]) rfl (reverse_spec ho0 (by omega) hc1) rfl) ?_
    rintro _ _ X2 ⟨_, rfl, hX2, rfl⟩
    refine SL.nil <| T.seq <| T.region <| SL.mv rfl <| SL.as rfl <| SL.nil <| T.retO1 rfl (ResIs.tmp rfl) ?_
    refine .inr ⟨bo, cs, by rw [hinv, List.length_reverse], by rw [hinv]; rfl, by rw [hinv, List.length_reverse]; exact hc1, hc2, by rw [bytesC_len]; omega⟩
  · refine T.seq <| T.seq <| T.region <| SL.mv rfl <| SL.v (op_gtrT rfl rfl (by omega)) ?_
    refine SL.nil <| T.condT rfl <| T.skip <| T.seq <| T.block <| T.region <| SL.mv rfl <| SL.mv rfl <| SL.v (op_and127L rfl rfl hv) <| SL.v (op_convU8 Tryz.underlying58 Tryz.underlying5 rfl (by omega) (by omega)) ?_
    refine SL.v (op_or128 rfl rfl (by omega)) ?_
    refine SL.w (op_buildSlice Tryz.underlying44 bs5 (qs := [(0, _)]) rfl rfl rfl rfl rfl) ?_
    rintro _ _ _ ⟨B19, rfl, rfl, rfl⟩
    refine SL.w (op_appendG (own0 := []) sl44 rfl hG rfl rfl rfl (by (have : maxLen = 9223372036854775807 := rfl); omega) (by omega)) ?_
    rintro s' G' _ ⟨_, rfl, rfl, hG'⟩
    obtain ⟨As', cps', rfl⟩ := hG'.form
    refine SL.as rfl <| SL.nil <| T.blk <| T.region <| SL.mv rfl <| SL.v (op_shrN (q := 7) rfl rfl (by omega)) ?_
    refine SL.as rfl <| SL.nil ?_
    exact T.backW (v >>> 7) (by rw [hs7]; omega) ⟨v >>> 7, out ++ [128 + v % 128], _, G', rfl, by rw [hs7]; omega, hX1, by simp, by rw [hinv, hs7, numHi_pos (by omega)]; simp, by rw [bytesC_append, List.length_append]; exact hG', rfl, rfl⟩ (by repeat (first | exact Sub.nil | refine Sub.cons rfl ?_))
theorem newW_spec {X : PMap} : SpecO Tryz.prog 95 [] X fun w own1 _ => ∃ b, w = .pointer (some ⟨b, 0, none⟩) ∧ own1 = [⟨b, [.slice none 0 0], 231, 1⟩] := by
  refine SpecO.enter Tryz.func95 rfl Tryz.ntmps95 rfl ?_
  intro w0 hw0
  refine T.seq <| T.region <| SL.as rfl <| SL.nil <| T.seq <| T.region <| SL.v (op_build st231 (qs := []) rfl rfl) <| SL.w (op_box rfl) ?_
  rintro _ _ _ ⟨B2, rfl, rfl, rfl⟩
  refine SL.as rfl <| SL.nil <| T.retO1 rfl (ResIs.tmp rfl) ?_
  exact ⟨B2, rfl, rfl⟩
theorem rawW_spec {X : PMap} {bw m len : Nat} {sv p : Value} {cs : List Value} {l : List Nat} {G : Own} (hG : GrowS 5 1 sv len cs G) (hp : BytesR X p l) (hm : m = l.length) (h0 : 0 < m) (hl : len + m < 1000000000) :
    SpecM Tryz.prog 148 [.pointer (some ⟨bw, 0, none⟩), p] X (⟨bw, [sv], 231, 1⟩ :: G) fun _ L' _ => ∃ sv' G', L' = ⟨bw, [sv'], 231, 1⟩ :: G' ∧ GrowS 5 1 sv' (len + m) (cs ++ bytesC l) G' := by
  subst hm
  have hmx : maxLen = 9223372036854775807 := rfl
  obtain ⟨A, cp, rfl⟩ := hp.form
  obtain ⟨As, css, rfl⟩ := hG.form
  refine SpecM.enter Tryz.func148 rfl Tryz.ntmps148 rfl ?_
  intro w0 X0 own0
  refine T.perm (own' := (⟨bw, [.slice As len css], 231, 1⟩ :: own0) ++ G) permD ?_
  refine T.seq <| T.region <| SL.mv rfl <| SL.v (op_neqNil Tryz.underlying179 rfl rfl) <| SL.nil <| T.condT rfl <| T.region <| SL.mv rfl <| SL.mv rfl <| SL.v (op_nil rfl) <| SL.v (op_fieldAddr fa231_0 rfl) <| SL.v (op_load ty44 rfl (by repeat constructor) rfl) ?_
  refine SL.mv rfl <| SL.w (op_appendGM (own0 := ⟨bw, [.slice As len css], 231, 1⟩ :: own0) sl44 rfl hG rfl (Src.ofBytes hp) h0 (bytesC_one l) (by omega) (by omega)) ?_
  rintro s' _ _ ⟨G', rfl, rfl, hG'⟩
  obtain ⟨As', cps', rfl⟩ := hG'.form
  refine SL.v (op_nil rfl) <| SL.v (op_fieldAddr fa231_0 rfl) <| SL.w (op_store ty44 rfl rfl (by repeat constructor) rfl rfl rfl) ?_
  rintro _ _ _ ⟨rfl, rfl⟩
  refine SL.nil <| T.doneM0 (⟨bw, [.slice As' (len + l.length) cps'], 231, 1⟩ :: G') rfl permD ?_
  exact ⟨PMap.le_refl _, _, G', rfl, hG'⟩
theorem uintW_spec {X : PMap} {bw len : Nat} {sv : Value} {l : List Nat} {G : Own} {n : Nat} (hn : n < 18446744073709551616) (hG : GrowS 5 1 sv len (bytesC l) G) (hl : len < 900000000) :
    SpecM Tryz.prog 97 [.pointer (some ⟨bw, 0, none⟩), .int .u64 (n : Int)] X (⟨bw, [sv], 231, 1⟩ :: G) fun _ L' _ => ∃ sv' G', L' = ⟨bw, [sv'], 231, 1⟩ :: G' ∧ GrowS 5 1 sv' (len + (numB n).length) (bytesC (l ++ numB n)) G' := by
  have hnl := numB_len hn
  refine SpecM.enter Tryz.func97 rfl Tryz.ntmps97 rfl ?_
  intro w0 X0 own0
  refine T.region <| SL.mv rfl <| SL.mv rfl <| SL.w (op_callF en149 (vs := [_]) rfl ((groups_spec hn).pubG)) ?_
  rintro u _ X1 ⟨rfl, hX1, hu⟩
  obtain ⟨A1, c1, rfl⟩ := SliceR.form hu
  refine SL.w (op_callM en148 (vs := [_, _]) rfl (rawW_spec hG (BytesR.ofS hu) rfl (numB_pos n) (by omega)) rfl) ?_
  rintro _ _ X2 ⟨L', rfl, hX2, sv', G', rfl, hG'⟩
  refine SL.nil <| T.doneM0 (⟨bw, [sv'], 231, 1⟩ :: G') rfl (List.Perm.refl _) ?_
  exact ⟨hX1.trans' hX2, sv', G', rfl, by rw [bytesC_append]; exact hG'⟩
theorem out_spec {X : PMap} {bw : Nat} {sv : Value} {l : List Nat} (hb : Blk X bw [sv]) (hs : BytesR X sv l) (hl : l.length < 1000000) : SpecO Tryz.prog 100 [.pointer (some ⟨bw, 0, none⟩)] X fun u own1 _ => GrowS 5 1 u l.length (bytesC l) own1 := by
  obtain ⟨A, cp, rfl⟩ := hs.form
  refine SpecO.enter Tryz.func100 rfl Tryz.ntmps100 rfl ?_
  intro w0 hw0
  refine T.seq <| T.region <| SL.as rfl <| SL.nil <| T.seq <| T.seq <| T.region <| SL.mv rfl <| SL.v (op_eqlNil Tryz.underlying179 rfl rfl) <| SL.nil <| T.condF rfl <| T.skip <| T.seq <| T.region <| SL.mv rfl ?_
  refine SL.v (op_nil rfl) <| SL.v (op_fieldAddr fa231_0 rfl) <| SL.v (op_loadX ty44 rfl (by assumption) rfl) ?_
  refine SL.w (op_callO en134 (vs := [_]) rfl (bclone_spec hs hl)) ?_
  rintro u own1 X1 ⟨_, rfl, hX1, hG⟩
  obtain ⟨A1, cp1, rfl⟩ := hG.form
  refine SL.as rfl <| SL.nil <| T.retO1 rfl (ResIs.tmp rfl) ?_
  simpa using hG
end Go.Proofs.YtnpcilglilfajaaGreatDoor
namespace Go.Proofs.YtnpcilglilfajaaGreatDoor
open Go.RowKit
section
variable {P : Program} {n : NM} {w0 : Base} {X0 X : PMap} {own : Own} {env : Env}
def byteC (s : ByteArray) : List Value := s.data.toList.map fun b => .int .u8 (b.toNat : Int)
/-- []byte(s): a row that nobody writes. -/
theorem op_bytesOf {src dst e : TypeId} {x : Operand} {s : ByteArray} (hs : P.underlying src = some .string) (hd : P.underlying dst = some (.slice e)) (he : P.underlying e = some (.int .u8)) (hx : eev env x = some (.string s)) :
    OpX P n w0 X0 env own X (.convert src dst x) true fun u own' X' => ∃ b cap, u = .slice (some ⟨b, 0, none⟩) s.size cap ∧ own = own' ∧ X.le X' ∧ Blk X' b (byteC s) := by
  intro a W oper K Q ro hop ha hsat hK
  have hr := run_bytes_of_string (P := P) W src dst e s hs hd he
  have hex : (execOp a.eval oper).run P W = .ok (.value (.slice (some ⟨W.heap.size, 0, none⟩) s.size (grownCap W s.size 0 e))) (W.drew.alloc (.cells (bytesRow s (grownCap W s.size 0 e)) e ((bytesRow s (grownCap W s.size 0 e)).size, (bytesRow s (grownCap W s.size 0 e)).size + 1))) := by
    simp [execOp, hop, ha.eval hx, hr]
  have h1 := hsat.draw (W.drawn + 1)
  have h2 := h1.lay (.cells (bytesRow s (grownCap W s.size 0 e)) e ((bytesRow s (grownCap W s.size 0 e)).size, (bytesRow s (grownCap W s.size 0 e)).size + 1))
  refine wp_value (noDefer_spec (by rw [hop]; rfl)) hex (hK _ _ _ _ ⟨_, _, rfl, rfl, PMap.le_add (PMap.le_refl _) hsat.stab.pers.fresh, ?_⟩ h2 fun _ => ?_)
  · have e1 : bytesRow s (grownCap W s.size 0 e) = (byteC s ++ List.replicate (grownCap W s.size 0 e - s.size) (Value.int .u8 0)).toArray := by
      apply Array.ext'
      simp [bytesRow, byteC]
    refine ⟨List.replicate (grownCap W s.size 0 e - s.size) (Value.int .u8 0), e, ((bytesRow s (grownCap W s.size 0 e)).size, (bytesRow s (grownCap W s.size 0 e)).size + 1), ?_⟩
    rw [← e1]
    exact PMap.add_at
  · have := Grow.alloc W.drew (.cells (bytesRow s (grownCap W s.size 0 e)) e ((bytesRow s (grownCap W s.size 0 e)).size, (bytesRow s (grownCap W s.size 0 e)).size + 1))
    exact ⟨this.size, this.same⟩
end
end Go.Proofs.YtnpcilglilfajaaGreatDoor
namespace Go.Proofs.YtnpcilglilfajaaGreatDoor
section
set_option maxRecDepth 100000
theorem en150 : Enters Tryz.prog 150 := enters_mk Tryz.func150 (by kernel_rfl) rfl
theorem en97 : Enters Tryz.prog 97 := enters_mk Tryz.func97 (by kernel_rfl) rfl
theorem en99 : Enters Tryz.prog 99 := enters_mk Tryz.func99 (by kernel_rfl) rfl
end
open Go.RowKit
def byN (s : ByteArray) : List Nat := s.data.toList.map (·.toNat)
theorem byN_C (s : ByteArray) : byteC s = bytesC (byN s) := by simp [byteC, bytesC, byN]
theorem byN_len (s : ByteArray) : (byN s).length = s.size := by simp [byN]
theorem SpecM.mono {P : Program} {f : FuncId} {vs : List Value} {X : PMap} {L : Own} {Φ Ψ : Value → Own → PMap → Prop} (h : SpecM P f vs X L Φ) (hk : ∀ v L' X', X.le X' → Φ v L' X' → Ψ v L' X') : SpecM P f vs X L Ψ :=
  fun w0 X0 own0 W hs => (h w0 X0 own0 W hs).mono fun _ _ ⟨v, L', X', he, hsat, hX, hΦ⟩ => ⟨v, L', X', he, hsat, hX, hk v L' X' hX hΦ⟩
abbrev WrO (b : Nat) (sv : Value) : Ow := ⟨b, [sv], 231, 1⟩
def WrS (sv : Value) (l : List Nat) (G : Own) : Prop := GrowS 5 1 sv l.length (bytesC l) G
theorem rawW2_spec {X : PMap} {bw : Nat} {sv p : Value} {a l : List Nat} {G : Own} (hG : WrS sv a G) (hp : BytesR X p l) (h0 : 0 < l.length) (hl : a.length + l.length < 1000000000) :
    SpecM Tryz.prog 148 [.pointer (some ⟨bw, 0, none⟩), p] X (WrO bw sv :: G) fun _ L' _ => ∃ sv' G', L' = WrO bw sv' :: G' ∧ WrS sv' (a ++ l) G' := by
  refine SpecM.mono (rawW_spec hG hp rfl h0 hl) ?_
  rintro _ _ _ _ ⟨sv', G', rfl, h⟩
  exact ⟨sv', G', rfl, by rw [WrS, List.length_append, bytesC_append]; exact h⟩
theorem uintW2_spec {X : PMap} {bw : Nat} {sv : Value} {l : List Nat} {G : Own} {n : Nat} (hn : n < 18446744073709551616) (hG : WrS sv l G) (hl : l.length < 900000000) :
    SpecM Tryz.prog 97 [.pointer (some ⟨bw, 0, none⟩), .int .u64 (n : Int)] X (WrO bw sv :: G) fun _ L' _ => ∃ sv' G', L' = WrO bw sv' :: G' ∧ WrS sv' (l ++ numB n) G' := by
  refine SpecM.mono (uintW_spec hn hG hl) ?_
  rintro _ _ _ _ ⟨sv', G', rfl, h⟩
  exact ⟨sv', G', rfl, by rw [WrS, List.length_append]; exact h⟩
theorem flagW_spec {X : PMap} {bw : Nat} {sv : Value} {l : List Nat} {G : Own} {b : Bool} (hG : WrS sv l G) (hl : l.length < 900000000) :
    SpecM Tryz.prog 96 [.pointer (some ⟨bw, 0, none⟩), .bool b] X (WrO bw sv :: G) fun _ L' _ => ∃ sv' G', L' = WrO bw sv' :: G' ∧ WrS sv' (l ++ [if b then 1 else 0]) G' := by
  cases b with
  | true =>
    refine SpecM.enter Tryz.func96 rfl Tryz.ntmps96 rfl ?_
    intro w0 X0 own0
    refine T.seq <| T.seq <| T.region <| SL.mv rfl <| SL.nil <| T.condT rfl <| T.seq <| T.region <| SL.mv rfl <| SL.w (op_buildSlice Tryz.underlying44 bs5 (qs := [(0, _)]) rfl rfl rfl rfl rfl) ?_
    rintro _ _ _ ⟨B6, rfl, rfl, rfl⟩
    refine T.pubAt B6 (by repeat constructor) ?_
    intro X1 hX1 hB6 _
    refine SL.w (op_callM en148 (vs := [_, _]) rfl (rawW2_spec (l := [1]) hG (.inr ⟨by decide, B6, 1, [], rfl, hB6⟩) (by decide) (by simp; omega)) rfl) ?_
    rintro _ _ X2 ⟨_, rfl, hX2, sv2, G2, rfl, hG2⟩
    refine SL.nil <| T.retM0 (WrO bw sv2 :: G2) rfl (List.Perm.refl _) ?_
    exact ⟨hX1.trans' hX2, sv2, G2, rfl, hG2⟩
  | false =>
    refine SpecM.enter Tryz.func96 rfl Tryz.ntmps96 rfl ?_
    intro w0 X0 own0
    refine T.seq <| T.seq <| T.region <| SL.mv rfl <| SL.nil <| T.condF rfl <| T.skip <| T.region <| SL.mv rfl <| SL.w (op_buildSlice Tryz.underlying44 bs5 (qs := [(0, _)]) rfl rfl rfl rfl rfl) ?_
    rintro _ _ _ ⟨B9, rfl, rfl, rfl⟩
    refine T.pubAt B9 (by repeat constructor) ?_
    intro X1 hX1 hB9 _
    refine SL.w (op_callM en148 (vs := [_, _]) rfl (rawW2_spec (l := [0]) hG (.inr ⟨by decide, B9, 1, [], rfl, hB9⟩) (by decide) (by simp; omega)) rfl) ?_
    rintro _ _ X2 ⟨_, rfl, hX2, sv2, G2, rfl, hG2⟩
    refine SL.nil <| T.doneM0 (WrO bw sv2 :: G2) rfl (List.Perm.refl _) ?_
    exact ⟨hX1.trans' hX2, sv2, G2, rfl, hG2⟩
theorem bytesW_spec {X : PMap} {bw : Nat} {sv p : Value} {a l : List Nat} {G : Own} (hG : WrS sv a G) (hp : BytesR X p l) (h0 : 0 < l.length) (hl : a.length + l.length < 800000000) :
    SpecM Tryz.prog 150 [.pointer (some ⟨bw, 0, none⟩), p] X (WrO bw sv :: G) fun _ L' _ => ∃ sv' G', L' = WrO bw sv' :: G' ∧ WrS sv' (a ++ numB l.length ++ l) G' := by
  obtain ⟨A, cp, rfl⟩ := hp.form
  have hnl := numB_len (n := l.length) (by omega)
  refine SpecM.enter Tryz.func150 rfl Tryz.ntmps150 rfl ?_
  intro w0 X0 own0
  refine T.seq <| T.region <| SL.mv rfl <| SL.mv rfl <| SL.v (op_lenS Tryz.underlying44 rfl) <| SL.v (op_convU64 Tryz.underlying3 Tryz.underlying58 rfl (by omega) (by omega)) ?_
  refine SL.w (op_callM en97 (vs := [_, _]) rfl (uintW2_spec (n := l.length) (by omega) hG (by omega)) rfl) ?_
  rintro _ _ X1 ⟨_, rfl, hX1, sv1, G1, rfl, hG1⟩
  refine SL.nil <| T.region <| SL.mv rfl <| SL.mv rfl <| SL.w (op_callM en148 (vs := [_, _]) rfl (rawW2_spec hG1 (hp.mono hX1) h0 (by rw [List.length_append]; omega)) rfl) ?_
  rintro _ _ X2 ⟨_, rfl, hX2, sv2, G2, rfl, hG2⟩
  refine SL.nil <| T.doneM0 (WrO bw sv2 :: G2) rfl (List.Perm.refl _) ?_
  exact ⟨hX1.trans' hX2, sv2, G2, rfl, hG2⟩
theorem strW_spec {X : PMap} {bw : Nat} {sv : Value} {a : List Nat} {s : ByteArray} {G : Own} (hG : WrS sv a G) (h0 : 0 < s.size) (hl : a.length + s.size < 800000000) :
    SpecM Tryz.prog 98 [.pointer (some ⟨bw, 0, none⟩), .string s] X (WrO bw sv :: G) fun _ L' _ => ∃ sv' G', L' = WrO bw sv' :: G' ∧ WrS sv' (a ++ numB s.size ++ byN s) G' := by
  refine SpecM.enter Tryz.func98 rfl Tryz.ntmps98 rfl ?_
  intro w0 X0 own0
  refine T.region <| SL.mv rfl <| SL.mv rfl <| SL.w (op_bytesOf Tryz.underlying9 Tryz.underlying44 Tryz.underlying5 rfl) ?_
  rintro _ _ X1 ⟨b6, c6, rfl, rfl, hX1, hB6⟩
  rw [byN_C] at hB6
  have hlen := byN_len s
  rw [← hlen] at h0 hl ⊢
  refine SL.w (op_callM en150 (vs := [_, _]) rfl (bytesW_spec (l := byN s) hG (.inr ⟨h0, b6, c6, [], rfl, hB6⟩) h0 (by omega)) rfl) ?_
  rintro _ _ X2 ⟨_, rfl, hX2, sv2, G2, rfl, hG2⟩
  refine SL.nil <| T.doneM0 (WrO bw sv2 :: G2) rfl (List.Perm.refl _) ?_
  exact ⟨hX1.trans' hX2, sv2, G2, rfl, hG2⟩
mutual
/-- The bytes of a formula. -/
def encF : Fm → List Nat
  | .mk op n rs al => numB op ++ (numB n.toNat ++ (numB rs.length ++ ((rs.map numB).flatten ++ (numB al.length ++ encFL al))))
def encFL : List Fm → List Nat
  | [] => []
  | a :: al => encF a ++ encFL al
end
theorem encFL_app (b : List Fm) : ∀ l : List Fm, encFL (l ++ b) = encFL l ++ encFL b
  | [] => by simp [encFL]
  | a :: l => by rw [List.cons_append, encFL, encFL, encFL_app b l, List.append_assoc]
mutual
def nokF : Fm → Prop
  | .mk op n rs al => op < 256 ∧ 0 ≤ n ∧ n < 1000000 ∧ (∀ r ∈ rs, r < 64) ∧ nokFL al
def nokFL : List Fm → Prop
  | [] => True
  | a :: al => nokF a ∧ nokFL al
end
theorem nokFL_mem {a : Fm} : ∀ {l : List Fm}, nokFL l → a ∈ l → nokF a
  | x :: l, h, hm => by
    rw [nokFL] at h
    rcases List.mem_cons.1 hm with rfl | hm
    · exact h.1
    · exact nokFL_mem h.2 hm
theorem nokFL_take : ∀ {l : List Fm} {i : Nat}, nokFL l → nokFL (l.take i)
  | [], _, h => by rw [List.take_nil]; exact h
  | a :: l, 0, _ => trivial
  | a :: l, i + 1, h => ⟨h.1, nokFL_take h.2⟩
mutual
theorem insF_nok {kind : Nat} : ∀ f : Fm, insF kind f = 0 → nokF f
  | .mk op n rs al, h => by
    obtain ⟨h1, _, h3⟩ := insF_ok h
    obtain ⟨a1, a2, _, _, _, _, a3, a4, a5, _⟩ := ownF_ok h1
    exact ⟨by omega, a3, by omega, fun r hr => by have := a5 r hr; omega, insFL_nok al h3⟩
theorem insFL_nok {kind : Nat} : ∀ l : List Fm, insFL kind l = 0 → nokFL l
  | [], _ => trivial
  | a :: l, h => by
    have h0 := insFL_zero h a (by simp)
    rw [insFL, if_neg (by simp [h0])] at h
    exact ⟨insF_nok a h0, insFL_nok l h⟩
end
theorem flatB_len {l : List Nat} (h : ∀ r ∈ l, r < 64) : ((l.map numB).flatten).length ≤ 10 * l.length := by
  induction l with
  | nil => simp
  | cons r l ih =>
    have := numB_len (n := r) (by have := h r (by simp); omega)
    have := ih fun q hq => h q (by simp [hq])
    simp only [List.map_cons, List.flatten_cons, List.length_append, List.length_cons]; omega
mutual
theorem encF_len : ∀ f : Fm, nokF f → wtF f < 1000000 → (encF f).length ≤ 40 * wtF f
  | .mk op n rs al, h, hw => by
    rw [nokF] at h
    obtain ⟨h1, h2, h3, h4, h5⟩ := h
    have q := wtFL_len al
    rw [wtF] at hw ⊢
    have a1 := numB_len (n := op) (by omega)
    have a2 := numB_len (n := n.toNat) (by omega)
    have a3 := numB_len (n := rs.length) (by omega)
    have a4 := numB_len (n := al.length) (by omega)
    have a5 := flatB_len h4
    have a6 := encFL_len al h5 (by omega)
    rw [encF]
    simp only [List.length_append]; omega
theorem encFL_len : ∀ l : List Fm, nokFL l → wtFL l < 1000000 → (encFL l).length ≤ 40 * wtFL l
  | [], _, _ => by simp [encFL]
  | a :: l, h, hw => by
    rw [nokFL] at h
    rw [wtFL] at hw ⊢
    have := encF_len a h.1 (by omega)
    have := encFL_len l h.2 (by omega)
    rw [encFL, List.length_append]; omega
end
theorem write_spec (N : Nat) : ∀ {X : PMap} {f : Fm} {r : Row4} {bw : Nat} {sv : Value} {l : List Nat} {G : Own}, wtF f ≤ N → N < 1000000 → nokF f → l.length + 40 * wtF f < 700000000 → WrS sv l G → FmR .u8 X f r → SpecM Tryz.prog 99 [.agg #[r.1, r.2.1, r.2.2.1, r.2.2.2], .pointer (some ⟨bw, 0, none⟩)] X (WrO bw sv :: G) fun _ L' _ => ∃ sv' G', L' = WrO bw sv' :: G' ∧ WrS sv' (l ++ encF f) G' := by
  induction N with
  | zero => intro X f r bw sv l G h; have := wtF_pos f; omega
  | succ N ih =>
    intro X f r bw sv l G hN hB hok hll hG h
    cases h with
    | @mk op n rs al vn va rows hn ha hl hr =>
    obtain ⟨Aa, ca, rfl⟩ := ha.form
    obtain ⟨An, cn, rfl⟩ := hn.form
    have hlen := wtFL_len al
    rw [nokF] at hok
    obtain ⟨h1, h2, h3, h4, h5⟩ := hok
    rw [wtF] at hN hll
    obtain ⟨m, rfl⟩ : ∃ m : Nat, n = (m : Int) := ⟨n.toNat, by omega⟩
    have a1 := numB_len (n := op) (by omega)
    have a2 := numB_len (n := m) (by omega)
    have a3 := numB_len (n := rs.length) (by omega)
    have a4 := numB_len (n := al.length) (by omega)
    have a5 := flatB_len h4
    rw [encF]
    refine SpecM.enter Tryz.func99 rfl Tryz.ntmps99 rfl ?_
    intro w0 X0 own0
    refine T.seq <| T.region <| SL.w (op_box rfl) ?_
    rintro _ _ _ ⟨B2, rfl, rfl, rfl⟩
    refine SL.nil <| T.seq <| T.region <| T.pubAt B2 (by repeat constructor) ?_
    intro X1 hX1 hB2 _
    refine SL.mv rfl <| SL.v (op_fieldAddr fa36_0 rfl) <| SL.v (op_loadX ty33 rfl (by assumption) rfl) ?_
    refine SL.v (op_convU64 Tryz.underlying33 Tryz.underlying58 rfl (by omega) (by omega)) ?_
    refine SL.w (op_callM en97 (vs := [_, _]) rfl (uintW2_spec (n := op) (by omega) hG (by omega)) rfl) ?_
    rintro _ _ X2 ⟨_, rfl, hX2, sv2, G2, rfl, hG2⟩
    have hB2 := hB2.mono hX2
    refine SL.nil <| T.seq <| T.region <| SL.mv rfl <| SL.v (op_fieldAddr fa36_1 rfl) <| SL.v (op_loadX ty3 rfl (by assumption) rfl) ?_
    refine SL.v (op_convU64 Tryz.underlying3 Tryz.underlying58 rfl (by omega) (by omega)) ?_
    refine SL.w (op_callM en97 (vs := [_, _]) rfl (uintW2_spec (n := m) (by omega) hG2 (by rw [List.length_append]; omega)) rfl) ?_
    rintro _ _ X3 ⟨_, rfl, hX3, sv3, G3, rfl, hG3⟩
    have hB2 := hB2.mono hX3
    refine SL.nil <| T.seq <| T.region <| SL.mv rfl <| SL.v (op_fieldAddr fa36_2 rfl) <| SL.v (op_loadX ty24 rfl (by assumption) rfl) ?_
    refine SL.v (op_lenS Tryz.underlying24 rfl) <| SL.v (op_convU64 Tryz.underlying3 Tryz.underlying58 rfl (by omega) (by omega)) ?_
    refine SL.w (op_callM en97 (vs := [_, _]) rfl (uintW2_spec (n := rs.length) (by omega) hG3 (by simp only [List.length_append]; omega)) rfl) ?_
    rintro _ _ X4 ⟨_, rfl, hX4, sv4, G4, rfl, hG4⟩
    have hB2 := hB2.mono hX4
    have hX04 := ((hX1.trans' hX2).trans' hX3).trans' hX4
    obtain ⟨L3, hL3⟩ : ∃ L3, L3 = l ++ numB op ++ numB m ++ numB rs.length := ⟨_, rfl⟩
    have hL3l : L3.length ≤ l.length + 30 := by rw [hL3]; simp only [List.length_append]; omega
    rw [← hL3] at hG4
    refine SL.nil <| T.seq <| T.seq <| T.region <| SL.v (op_fieldAddr fa36_2 rfl) <| SL.v (op_loadX ty24 rfl (by assumption) rfl) ?_
    refine SL.v (op_lenS Tryz.underlying24 rfl) <| SL.v (op_move (v := .int .i64 ((0 : Nat) : Int)) rfl) <| SL.nil <| T.block <| T.loopW (fun q env own X' => ∃ (i : Nat) (sv : Value) (G : Own), q = rs.length - i ∧ i ≤ rs.length ∧ X4.le X' ∧ WrS sv (L3 ++ ((rs.take i).map numB).flatten) G ∧ env = [(1, .pointer (some ⟨bw, 0, none⟩)), (2, .pointer (some ⟨B2, 0, none⟩)), (25, .slice An rs.length cn), (26, .int .i64 (rs.length : Int)), (27, .int .i64 (i : Int))] ∧ own = WrO bw sv :: G ++ own0) rs.length ⟨0, sv4, G4, by simp, by omega, PMap.le_refl _, by simpa using hG4, rfl, rfl⟩ (by repeat (first | exact Sub.nil | refine Sub.cons rfl ?_)) ?_
    rintro q _ _ X5 ⟨i, sv5, G5, rfl, hi, hX5, hG5, rfl, rfl⟩
    have hB2 := hB2.mono hX5
    have a6 := flatB_len (l := rs.take i) fun r hr => h4 r (List.mem_of_mem_take hr)
    have a7 : (rs.take i).length ≤ rs.length := by rw [List.length_take]; omega
    rcases Nat.lt_or_ge i rs.length with hil | hil
    · obtain ⟨b, rfl, hB⟩ := hn.blk (by omega)
      have htk : rs.take (i + 1) = rs.take i ++ [rs[i]] := List.take_succ_eq_append_getElem hil
      have hri := h4 _ (List.getElem_mem hil)
      refine T.seq <| T.region <| SL.v (op_lssT rfl rfl (by omega)) ?_
      refine SL.nil <| T.seq <| T.condT rfl <| T.skip <| T.seq <| T.block <| T.seq <| T.region <| SL.v (op_indexN Tryz.underlying24 ty3 rfl rfl (by omega)) ?_
      refine SL.v (op_loadX ty3 rfl ((hB.mono hX04).mono hX5) (cread1 (ints_get rs i hil))) <| SL.as rfl <| SL.nil <| T.region <| SL.mv rfl <| SL.mv rfl <| SL.v (op_convU64 Tryz.underlying3 Tryz.underlying58 rfl (by omega) (by omega)) ?_
      refine SL.w (op_callM en97 (vs := [_, _]) rfl (uintW2_spec (n := rs[i]) (by omega) hG5 (by simp only [List.length_append]; omega)) rfl) ?_
      rintro _ _ X6 ⟨_, rfl, hX6, sv6, G6, rfl, hG6⟩
      refine SL.nil <| T.blk <| T.region <| SL.v (op_addN (q := 1) rfl rfl (by omega)) ?_
      refine SL.mv rfl <| SL.nil ?_
      exact T.backW (rs.length - (i + 1)) (by omega) ⟨i + 1, sv6, G6, rfl, by omega, hX5.trans' hX6, by rw [htk, List.map_append, List.flatten_append, List.map_singleton, List.flatten_singleton, ← List.append_assoc]; exact hG6, rfl, rfl⟩ (by repeat (first | exact Sub.nil | refine Sub.cons rfl ?_))
    obtain rfl : i = rs.length := by omega
    rw [List.take_of_length_le (Nat.le_refl _)] at hG5 a6
    have hX05 := hX04.trans' hX5
    refine T.seq <| T.region <| SL.v (op_lssF rfl rfl (by omega)) ?_
    refine SL.nil <| T.seq <| T.condF rfl ?_
    refine T.exit (T.exitCode (T.exitCut (T.exitBlk ?_)))
    refine T.seq <| T.region <| SL.mv rfl <| SL.v (op_fieldAddr fa36_3 rfl) <| SL.v (op_loadX ty34 rfl (by assumption) rfl) ?_
    refine SL.v (op_lenS Tryz.underlying34 rfl) <| SL.v (op_convU64 Tryz.underlying3 Tryz.underlying58 rfl (by omega) (by omega)) ?_
    refine SL.w (op_callM en97 (vs := [_, _]) rfl (uintW2_spec (n := rows.length) (by omega) hG5 (by simp only [List.length_append]; omega)) rfl) ?_
    rintro _ _ X6 ⟨_, rfl, hX6, sv6, G6, rfl, hG6⟩
    have hB2 := hB2.mono hX6
    have hX06 := hX05.trans' hX6
    obtain ⟨L5, hL5⟩ : ∃ L5, L5 = L3 ++ (rs.map numB).flatten ++ numB rows.length := ⟨_, rfl⟩
    have hL5l : L5.length ≤ l.length + 40 + 10 * rs.length := by rw [hL5, hl]; simp only [List.length_append]; omega
    rw [← hL5] at hG6
    refine SL.nil <| T.seq <| T.region <| SL.v (op_fieldAddr fa36_3 rfl) <| SL.v (op_loadX ty34 rfl (by assumption) rfl) ?_
    refine SL.v (op_lenS Tryz.underlying34 rfl) <| SL.v (op_move (v := .int .i64 ((0 : Nat) : Int)) rfl) <| SL.nil <| T.block <| T.loopW (fun q env own X' => ∃ (i : Nat) (sv : Value) (G : Own), q = rows.length - i ∧ i ≤ rows.length ∧ X6.le X' ∧ WrS sv (L5 ++ encFL (al.take i)) G ∧ env = [(1, .pointer (some ⟨bw, 0, none⟩)), (43, .slice Aa rows.length ca), (44, .int .i64 (rows.length : Int)), (45, .int .i64 (i : Int))] ∧ own = WrO bw sv :: G ++ own0) rows.length ⟨0, sv6, G6, by simp, by omega, PMap.le_refl _, by simpa [encFL] using hG6, rfl, rfl⟩ (by repeat (first | exact Sub.nil | refine Sub.cons rfl ?_)) ?_
    rintro q _ _ X7 ⟨i, sv7, G7, rfl, hi, hX7, hG7, rfl, rfl⟩
    have hX07 := hX06.trans' hX7
    rcases Nat.lt_or_ge i rows.length with hil | hil
    · obtain ⟨r2, hr2⟩ : ∃ r2, rows[i]? = some r2 := ⟨_, List.getElem?_eq_getElem hil⟩
      obtain ⟨a, ha2⟩ : ∃ a, al[i]? = some a := ⟨_, List.getElem?_eq_getElem (by omega)⟩
      have hma := List.mem_of_getElem? ha2
      have hra := (hr i a r2 ha2 hr2).mono hX07
      obtain ⟨bA, pre, rfl, hbA⟩ := ha.blk (by omega)
      have hwa := wtFL_mem hma
      have hts := take_snoc ha2
      have hw1 : wtFL (al.take (i + 1)) ≤ wtFL al := by
        have := wtFL_app (al.drop (i + 1)) (al.take (i + 1))
        rw [List.take_append_drop] at this; omega
      have hw2 : wtFL (al.take (i + 1)) = wtFL (al.take i) + wtF a := by rw [hts, wtFL_snoc]
      have hnt : nokFL (al.take i) := nokFL_take h5
      have hel := encFL_len (al.take i) hnt (by omega)
      have hih := fun {X' : PMap} (hX : X7.le X') => ih (bw := bw) (by omega) (by omega) (nokFL_mem h5 hma) (by simp only [List.length_append]; omega) hG7 (hra.mono hX)
      obtain ⟨_, _, _, _, _, _, _, _, rfl⟩ := hra.form
      try simp only at hih
      refine T.seq <| T.region <| SL.v (op_lssT rfl rfl (by omega)) ?_
      refine SL.nil <| T.seq <| T.condT rfl <| T.skip <| T.seq <| T.block <| T.seq <| T.region <| SL.v (op_indexN Tryz.underlying34 ty36 rfl rfl (by omega)) ?_
      refine SL.v (op_loadX ty36 rfl (hbA.mono hX07) (row_read rc4_len hr2 (by omega))) ?_
      refine SL.w (op_alloc z36) ?_
      rintro _ _ _ ⟨B7, rfl, rfl, rfl⟩
      refine SL.w (op_store ty36 rfl rfl (by repeat constructor) rfl rfl rfl) ?_
      rintro _ _ _ ⟨rfl, rfl⟩
      refine SL.nil <| T.region <| T.pubAt B7 (by repeat constructor) ?_
      intro X8 hX8 hB7 _
      refine SL.v (op_loadX ty36 rfl (by assumption) rfl) ?_
      refine SL.mv rfl <| SL.w (op_callM en99 (vs := [_, _]) rfl (hih hX8) rfl) ?_
      rintro _ _ X9 ⟨_, rfl, hX9, sv9, G9, rfl, hG9⟩
      refine SL.nil <| T.blk <| T.region <| SL.v (op_addN (q := 1) rfl rfl (by omega)) ?_
      refine SL.mv rfl <| SL.nil ?_
      exact T.backW (rows.length - (i + 1)) (by omega) ⟨i + 1, sv9, G9, rfl, by omega, (hX7.trans' hX8).trans' hX9, by rw [hts, encFL_app, encFL, encFL, List.append_nil, ← List.append_assoc]; exact hG9, rfl, rfl⟩ (by repeat (first | exact Sub.nil | refine Sub.cons rfl ?_))
    · obtain rfl : i = rows.length := by omega
      rw [List.take_of_length_le (by omega)] at hG7
      refine T.seq <| T.region <| SL.v (op_lssF rfl rfl (by omega)) ?_
      refine SL.nil <| T.seq <| T.condF rfl ?_
      refine T.exit (T.exitCode (T.exitCut (T.exitBlk ?_)))
      refine T.doneM0 (WrO bw sv7 :: G7) rfl (List.Perm.refl _) ?_
      refine ⟨hX07, sv7, G7, rfl, ?_⟩
      rw [hL5, hL3, hl] at hG7
      simp only [List.append_assoc] at hG7 ⊢
      exact hG7
end Go.Proofs.YtnpcilglilfajaaGreatDoor
namespace Go.Proofs.YtnpcilglilfajaaGreatDoor
section
set_option maxRecDepth 100000
theorem en100 : Enters Tryz.prog 100 := enters_mk Tryz.func100 (by kernel_rfl) rfl
theorem en47 : Enters Tryz.prog 47 := enters_mk Tryz.func47 (by kernel_rfl) rfl
theorem en95 : Enters Tryz.prog 95 := enters_mk Tryz.func95 (by kernel_rfl) rfl
theorem en96 : Enters Tryz.prog 96 := enters_mk Tryz.func96 (by kernel_rfl) rfl
theorem en98 : Enters Tryz.prog 98 := enters_mk Tryz.func98 (by kernel_rfl) rfl
theorem fa101_0 : FAdr Tryz.prog 101 0 0 := fadr_mk Tryz.underlying101 rfl rfl (by kernel_rfl)
theorem fa101_1 : FAdr Tryz.prog 101 1 1 := fadr_mk Tryz.underlying101 rfl rfl (by kernel_rfl)
theorem fa101_2 : FAdr Tryz.prog 101 2 2 := fadr_mk Tryz.underlying101 rfl rfl (by kernel_rfl)
theorem fa101_3 : FAdr Tryz.prog 101 3 3 := fadr_mk Tryz.underlying101 rfl rfl (by kernel_rfl)
theorem ty101 : Ty Tryz.prog 101 true 7 := ⟨⟨_, Tryz.underlying101, rfl⟩, by kernel_rfl⟩
end
open Go.RowKit
/-- What is wrong with a constraint. -/
noncomputable def chkC18 (kind : Nat) (name : ByteArray) (f : Fm) : Int := if kind < 1 ∨ 3 < kind then 1 else if ¬validS name then 9 else chkF kind f
def enc18 (enf : Bool) (kind : Nat) (name : ByteArray) (f : Fm) : List Nat := [if enf then 1 else 0] ++ numB kind ++ numB name.size ++ byN name ++ encF f
theorem conchk_spec {X : PMap} {enf : Bool} {kind : Nat} {name : ByteArray} {f : Fm} {r : Row4} (hw : wtF f < 1000000) (hk : kind < 256) (h : FmR .u8 X f r) : Spec Tryz.prog 47 [.agg #[.bool enf, .int .u8 (kind : Int), .string name, r.1, r.2.1, r.2.2.1, r.2.2.2]] X fun u _ => u = .int .i64 (chkC18 kind name f) := by
  have hc1 := fun {X' : PMap} (hX : X.le X') => fchk_spec (kind := kind) hw hk (h.mono hX)
  obtain ⟨o, n, A, B, l, c, l', c', rfl⟩ := h.form
  try simp only at hc1
  rw [chkC18]
  by_cases k1 : kind < 1
  · rw [if_pos (.inl k1)]
    refine Spec.enter Tryz.func47 rfl Tryz.ntmps47 rfl ?_
    intro w0 hw0
    refine T.seq <| T.region <| SL.w (op_box rfl) ?_
    rintro _ _ _ ⟨B1, rfl, rfl, rfl⟩
    refine SL.v (op_assign (v := .int .i64 ((0 : Nat) : Int)) rfl) <| SL.nil <| T.seq <| T.block <| T.seq <| T.region <| SL.v (op_fieldAddr fa101_1 rfl) <| SL.v (op_load ty41 rfl (by repeat constructor) rfl) ?_
    refine SL.v (op_lssT rfl rfl (by omega)) ?_
    refine SL.mv rfl <| SL.skip rfl rfl ?_
    refine SL.skip rfl rfl ?_
    refine SL.skip rfl rfl ?_
    refine SL.v (op_pickT rfl rfl) <| SL.as rfl <| SL.nil <| T.condT rfl <| T.seq <| T.region <| SL.v (op_assign (v := .int .i64 ((1 : Nat) : Int)) rfl) <| SL.nil <| T.ret1 rfl (ResIs.tmp rfl) ?_
    rfl
  by_cases k2 : 3 < kind
  · rw [if_pos (.inr k2)]
    refine Spec.enter Tryz.func47 rfl Tryz.ntmps47 rfl ?_
    intro w0 hw0
    refine T.seq <| T.region <| SL.w (op_box rfl) ?_
    rintro _ _ _ ⟨B1, rfl, rfl, rfl⟩
    refine SL.v (op_assign (v := .int .i64 ((0 : Nat) : Int)) rfl) <| SL.nil <| T.seq <| T.block <| T.seq <| T.region <| SL.v (op_fieldAddr fa101_1 rfl) <| SL.v (op_load ty41 rfl (by repeat constructor) rfl) ?_
    refine SL.v (op_lssF rfl rfl (by omega)) ?_
    refine SL.mv rfl <| SL.v (op_fieldAddr fa101_1 rfl) <| SL.v (op_load ty41 rfl (by repeat constructor) rfl) ?_
    refine SL.v (op_gtrT rfl rfl (by omega)) ?_
    refine SL.v (op_pickF rfl rfl) <| SL.as rfl <| SL.nil <| T.condT rfl <| T.seq <| T.region <| SL.v (op_assign (v := .int .i64 ((1 : Nat) : Int)) rfl) <| SL.nil <| T.ret1 rfl (ResIs.tmp rfl) ?_
    rfl
  rw [if_neg (fun h => h.elim k1 k2)]
  refine Spec.enter Tryz.func47 rfl Tryz.ntmps47 rfl ?_
  intro w0 hw0
  refine T.seq <| T.region <| SL.w (op_box rfl) ?_
  rintro _ _ _ ⟨B1, rfl, rfl, rfl⟩
  refine SL.v (op_assign (v := .int .i64 ((0 : Nat) : Int)) rfl) <| SL.nil <| T.seq <| T.block <| T.seq <| T.region <| SL.v (op_fieldAddr fa101_1 rfl) <| SL.v (op_load ty41 rfl (by repeat constructor) rfl) ?_
  refine SL.v (op_lssF rfl rfl (by omega)) ?_
  refine SL.mv rfl <| SL.v (op_fieldAddr fa101_1 rfl) <| SL.v (op_load ty41 rfl (by repeat constructor) rfl) ?_
  refine SL.v (op_gtrF rfl rfl (by omega)) ?_
  refine SL.v (op_pickF rfl rfl) <| SL.as rfl <| SL.nil <| T.condF rfl <| T.seq <| T.region <| SL.v (op_fieldAddr fa101_2 rfl) <| SL.v (op_load ty9 rfl (by repeat constructor) rfl) ?_
  refine SL.w (op_callF en94 (vs := [_]) rfl (nvalid_spec)) ?_
  rintro _ _ X1 ⟨rfl, hX1, rfl⟩
  by_cases hv : validS name
  case neg =>
    rw [decide_eq_false hv, if_pos hv]
    refine SL.v (op_not rfl) <| SL.as rfl <| SL.nil <| T.condT rfl <| T.seq <| T.region <| SL.v (op_assign (v := .int .i64 ((9 : Nat) : Int)) rfl) <| SL.nil <| T.ret1 rfl (ResIs.tmp rfl) ?_
    rfl
  rw [decide_eq_true hv, if_neg (fun h => h hv)]
  refine SL.v (op_not rfl) <| SL.as rfl <| SL.nil <| T.condF rfl <| T.skip <| T.blk <| T.seq <| T.region <| SL.v (op_fieldAddr fa101_3 rfl) <| SL.v (op_load ty36 rfl (by repeat constructor) rfl) ?_
  refine SL.v (op_fieldAddr fa101_1 rfl) <| SL.v (op_load ty41 rfl (by repeat constructor) rfl) ?_
  refine SL.w (op_callF en18 (vs := [_, _]) rfl (hc1 hX1)) ?_
  rintro _ _ X2 ⟨rfl, hX2, rfl⟩
  refine SL.as rfl <| SL.nil <| T.ret1 rfl (ResIs.tmp rfl) ?_
  rfl
theorem chkC18_ok {kind : Nat} {name : ByteArray} {f : Fm} (h : chkC18 kind name f = 0) : 1 ≤ kind ∧ kind ≤ 3 ∧ validS name ∧ chkF kind f = 0 := by
  unfold chkC18 at h
  split at h
  · cases h
  · split at h
    · cases h
    · rename_i h1 h2
      exact ⟨by omega, by omega, Classical.not_not.1 h2, h⟩
theorem chkF_ins {kind : Nat} {f : Fm} (h : chkF kind f = 0) : insF kind f = 0 := by
  unfold chkF at h
  split at h
  · cases h
  · split at h
    · rename_i hl; exact absurd h hl
    · rename_i hl
      have hl := Classical.not_not.1 hl
      rw [lookF] at hl
      split at hl
      · cases hl
      · exact hl
theorem cbytes_spec {X : PMap} {enf : Bool} {kind : Nat} {name : ByteArray} {f : Fm} {r : Row4} (hw : wtF f < 20000) (hk : kind < 256) (h : FmR .u8 X f r) : Spec Tryz.prog 50 [.agg #[.bool enf, .int .u8 (kind : Int), .string name, r.1, r.2.1, r.2.2.1, r.2.2.2]] X fun u X' => if chkC18 kind name f = 0 then BytesR X' u (enc18 enf kind name f) else u = .slice none 0 0 := by
  have hc1 := fun {X' : PMap} (hX : X.le X') => conchk_spec (enf := enf) (name := name) (by omega) hk (h.mono hX)
  have hc2 := fun {X' : PMap} {bw : Nat} {sv : Value} {l : List Nat} {G : Own} (hn : nokF f) (hl : l.length + 40 * wtF f < 700000000) (hG : WrS sv l G) (hX : X.le X') => write_spec (bw := bw) (wtF f) (Nat.le_refl _) (by omega) hn hl hG (h.mono hX)
  obtain ⟨o, n, A, B, l, c, l', c', rfl⟩ := h.form
  try simp only at hc1
  try simp only at hc2
  by_cases hck : chkC18 kind name f = 0
  case neg =>
    refine Spec.enter Tryz.func50 rfl Tryz.ntmps50 rfl ?_
    intro w0 hw0
    refine T.seq <| T.region <| SL.w (op_box rfl) ?_
    rintro _ _ _ ⟨B1, rfl, rfl, rfl⟩
    refine SL.as rfl <| SL.nil <| T.seq <| T.seq <| T.region <| SL.v (op_load ty101 rfl (by repeat constructor) rfl) ?_
    refine SL.w (op_callF en47 (vs := [_]) rfl (hc1 (PMap.le_refl _))) ?_
    rintro _ _ X1 ⟨rfl, hX1, rfl⟩
    refine SL.v (op_neqT rfl rfl (by omega)) ?_
    refine SL.nil <| T.condT rfl <| T.seq <| T.region <| SL.as rfl <| SL.nil <| T.ret1 rfl (ResIs.tmp rfl) ?_
    rw [if_neg hck]
  obtain ⟨k1, k2, hv, hcf⟩ := chkC18_ok hck
  have hnok := insF_nok f (chkF_ins hcf)
  have hel := encF_len f hnok (by omega)
  have hsz : 0 < name.size ∧ name.size ≤ 12 := ⟨by have := hv.1; omega, hv.2.1⟩
  have a1 := numB_len (n := kind) (by omega)
  have a2 := numB_len (n := name.size) (by omega)
  have a3 := byN_len name
  refine Spec.enter Tryz.func50 rfl Tryz.ntmps50 rfl ?_
  intro w0 hw0
  refine T.seq <| T.region <| SL.w (op_box rfl) ?_
  rintro _ _ _ ⟨B1, rfl, rfl, rfl⟩
  refine SL.as rfl <| SL.nil <| T.seq <| T.seq <| T.region <| T.pubAt B1 (by repeat constructor) ?_
  intro Y1 hY1 hB1 _
  refine SL.v (op_loadX ty101 rfl (by assumption) rfl) ?_
  refine SL.w (op_callF en47 (vs := [_]) rfl (hc1 hY1)) ?_
  rintro _ _ X1 ⟨rfl, hX1, rfl⟩
  rw [hck]
  have hB1 := hB1.mono hX1
  refine SL.v (op_neqF rfl rfl (by omega)) ?_
  refine SL.nil <| T.condF rfl <| T.skip <| T.seq <| T.region <| SL.w (op_callO en95 (vs := []) rfl (newW_spec)) ?_
  rintro _ _ X2 ⟨_, rfl, hX2, bw, rfl, rfl⟩
  have hB1 := hB1.mono hX2
  refine SL.as rfl <| SL.nil <| T.seq <| T.region <| SL.mv rfl <| SL.v (op_fieldAddr fa101_0 rfl) <| SL.v (op_loadX ty4 rfl (by assumption) rfl) ?_
  refine SL.perm (own' := (WrO bw (.slice none 0 0) :: []) ++ []) (List.Perm.of_eq rfl) ?_
  refine SL.w (op_callM en96 (vs := [_, _]) rfl (flagW_spec (l := []) (GrowS.nil : WrS _ [] []) (by decide)) rfl) ?_
  rintro _ _ X3 ⟨_, rfl, hX3, sv3, G3, rfl, hG3⟩
  have hB1 := hB1.mono hX3
  refine SL.nil <| T.seq <| T.region <| SL.mv rfl <| SL.v (op_fieldAddr fa101_1 rfl) <| SL.v (op_loadX ty41 rfl (by assumption) rfl) ?_
  refine SL.v (op_convU64 Tryz.underlying41 Tryz.underlying58 rfl (by omega) (by omega)) ?_
  refine SL.w (op_callM en97 (vs := [_, _]) rfl (uintW2_spec (n := kind) (by omega) hG3 (by simp)) rfl) ?_
  rintro _ _ X4 ⟨_, rfl, hX4, sv4, G4, rfl, hG4⟩
  have hB1 := hB1.mono hX4
  refine SL.nil <| T.seq <| T.region <| SL.mv rfl <| SL.v (op_fieldAddr fa101_2 rfl) <| SL.v (op_loadX ty9 rfl (by assumption) rfl) ?_
  refine SL.w (op_callM en98 (vs := [_, _]) rfl (strW_spec (s := name) hG4 hsz.1 (by simp only [List.length_append, List.length_cons, List.length_nil]; omega)) rfl) ?_
  rintro _ _ X5 ⟨_, rfl, hX5, sv5, G5, rfl, hG5⟩
  have hB1 := hB1.mono hX5
  refine SL.nil <| T.seq <| T.region <| SL.v (op_fieldAddr fa101_3 rfl) <| SL.v (op_loadX ty36 rfl (by assumption) rfl) ?_
  refine SL.mv rfl <| SL.w (op_callM en99 (vs := [_, _]) rfl (hc2 hnok (by simp only [List.length_append, List.length_cons, List.length_nil]; omega) hG5 ((((hY1.trans' hX1).trans' hX2).trans' hX3).trans' (hX4.trans' hX5))) rfl) ?_
  rintro _ _ X6 ⟨_, rfl, hX6, sv6, G6, rfl, hG6⟩
  refine SL.nil <| T.seq <| T.region <| SL.mv rfl <| SL.perm (own' := [WrO bw sv6] ++ G6) (by simp) ?_
  refine T.pubGAt (own0 := [WrO bw sv6]) hG6 ?_
  intro X7 hX7 hS7
  refine T.pubAt bw (by repeat constructor) ?_
  intro X8 hX8 hB8 _
  refine SL.w (op_callF en100 (vs := [_]) rfl ((out_spec hB8 (BytesR.ofS (hS7.mono hX8)) (by simp only [List.length_append, List.length_cons, List.length_nil]; omega)).pubG)) ?_
  rintro u _ X9 ⟨rfl, hX9, hu⟩
  refine SL.as rfl <| SL.nil <| T.ret1 rfl (ResIs.tmp rfl) ?_
  rw [if_pos rfl]
  exact BytesR.ofS hu
end Go.Proofs.YtnpcilglilfajaaGreatDoor
namespace Go.Proofs.YtnpcilglilfajaaGreatDoor
section
set_option maxRecDepth 100000
theorem en15 : Enters Tryz.prog 15 := enters_mk Tryz.func15 (by kernel_rfl) rfl
theorem en24 : Enters Tryz.prog 24 := enters_mk Tryz.func24 (by kernel_rfl) rfl
theorem en25 : Enters Tryz.prog 25 := enters_mk Tryz.func25 (by kernel_rfl) rfl
theorem en50 : Enters Tryz.prog 50 := enters_mk Tryz.func50 (by kernel_rfl) rfl
theorem en57 : Enters Tryz.prog 57 := enters_mk Tryz.func57 (by kernel_rfl) rfl
theorem z101 : Zero Tryz.prog 101 [.bool false, .int .u8 0, .string ⟨#[]⟩, .int .u8 0, .int .i64 0, .slice none 0 0, .slice none 0 0] := ⟨zero_of (by kernel_rfl)⟩
theorem st101 : StT Tryz.prog 101 [(0, 1), (1, 1), (2, 1), (3, 4)] [.bool false, .int .u8 0, .string ⟨#[]⟩, .int .u8 0, .int .i64 0, .slice none 0 0, .slice none 0 0] := ⟨⟨_, Tryz.underlying101, fun _ => by kernel_rfl, z101⟩⟩
end
open Go.RowKit
section
variable {P : Program} {n : NM} {own : Own} {X : PMap} {env : Env}
/-- string(b) of published bytes. -/
theorem op_strBytesR {src dst e : TypeId} {x : Operand} {v : Value} {l : List UInt8} (hs : P.underlying src = some (.slice e)) (he : P.underlying e = some (.int .u8)) (hd : P.underlying dst = some .string)
    (hx : eev env x = some v) (hv : BytesR X v (l.map (·.toNat))) (h0 : 0 < l.length) : OpY P n env own X (.convert src dst x) (.string ⟨l.toArray⟩) := by
  rcases hv with ⟨h1, _⟩ | ⟨_, b, c, pre, rfl, hB⟩
  · rw [List.map_eq_nil_iff] at h1; rw [h1] at h0; exact absurd h0 (by simp)
  · refine op_strBytes (a := ⟨b, pre.length, none⟩) (cap := c) hs he hd (by rw [hx, List.length_map]) fun W hst j hj => ?_
    refine Eq.trans (congrArg W.cell? (show Addr.add ⟨b, pre.length, none⟩ j = ⟨b, pre.length + j, none⟩ by unfold Addr.add; split <;> simp_all)) (hB.cell hst.pers (i := pre.length + j) (v := .int .u8 (l[j].toNat : Int)) ?_)
    exact (by
      rw [List.getElem?_append_right (by omega), Nat.add_sub_cancel_left]
      exact bytesC_at (b := l[j].toNat) (by simp [hj]))
end
theorem exLeaf {k : IntKind} {X : PMap} {op : Nat} {n : Int} {vn : Value} {ns : List ByteArray} (hn : RowR strC X vn ns) : ExR k X (.mk op n ns []) (.int k (op : Int), .int .i64 n, vn, .slice none 0 0) := .mk (rows := []) hn (.inl ⟨rfl, _, _, rfl⟩) rfl (fun i a r h => by simp at h)
theorem exTwo {k : IntKind} {X : PMap} {op : Nat} {n : Int} {va : Value} {a b : Ex} {ra rb : Row4} (h : RowR rc4 X va [ra, rb]) (ha : ExR k X a ra) (hb : ExR k X b rb) : ExR k X (.mk op n [] [a, b]) (.int k (op : Int), .int .i64 n, .slice none 0 0, va) := .mk (rows := [ra, rb]) (.inl ⟨rfl, _, _, rfl⟩) h rfl (fun i x r h1 h2 => by
  match i with
  | 0 => simp at h1 h2; subst h1 h2; exact ha
  | 1 => simp at h1 h2; subst h1 h2; exact hb
  | i + 2 => simp at h1)
def sClerk : ByteArray := ⟨#[99, 108, 101, 114, 107]⟩
def sAud : ByteArray := ⟨#[97, 117, 100, 105, 116, 111, 114]⟩
def sTell : ByteArray := ⟨#[116, 101, 108, 108, 101, 114]⟩
def nsA : List ByteArray := [sClerk, sAud, sTell]
def e1A : Ex := .mk 11 0 [] [.mk 5 0 [sClerk, sAud] [], .mk 1 1 [] []]
def e2A : Ex := .mk 11 0 [] [.mk 16 0 [] [.mk 4 0 [sClerk] [], .mk 1 1 [] []], .mk 1 2 [] []]
def f1A : Fm := .mk 11 0 [] [.mk 5 0 [1, 2] [], .mk 1 1 [] []]
def f3A : Fm := .mk 4 0 [3] []
def sSod : ByteArray := ⟨#[115, 111, 100]⟩
theorem aw18n : errOf 63 [] nsA = 0 := errOf_ok (by intro s hs; simp only [nsA, List.mem_cons, List.not_mem_nil, or_false] at hs; rcases hs with rfl | rfl | rfl <;> exact of_decide_eq_true (by kernel_rfl)) (of_decide_eq_true (by kernel_rfl)) (by decide) (by decide)
theorem aw18a : resF nsA 0 1 e1A = (f1A, 0) := by kernel_rfl
theorem aw18b : (resF nsA 0 3 e1A).2 = 10 := by kernel_rfl
theorem aw18c : (resF nsA 0 1 e2A).2 = 10 := by kernel_rfl
theorem aw18t : typF f1A = (1, 0) := by kernel_rfl
theorem aw18m : menF f1A = 6 := by kernel_rfl
theorem aw18k : chkC18 1 sSod f3A = 0 := by kernel_rfl
theorem numB_small {n : Nat} (h : n < 128) : numB n = [n] := by rw [numB, Nat.div_eq_of_lt h, numHi_zero, Nat.mod_eq_of_lt h]; rfl
theorem aw18e : enc18 true 1 sSod f3A = [1, 1, 3, 115, 111, 100, 4, 0, 1, 3, 0] := by
  rw [enc18, show sSod.size = 3 from rfl, numB_small (by decide), numB_small (by decide)]
  simp [encF, encFL, f3A, numB_small, byN, sSod]
theorem awt18 {X : PMap} (hT : Tab X) {v : Value} {m : Nat} (h : SetR X v m) (hd : ∀ i ∈ mem64 m, i < 10) {s : List UInt8} (hs : txtOf (mem64 m) ++ [125] = s) : Spec Tryz.prog 57 [v] X fun u _ => u = .string ⟨s.toArray⟩ :=
  (text_spec hT h hd).mono fun _ _ _ hv => by rw [hv, hs]
theorem awake18_spec {X : PMap} (hT : Tab X) : Spec Tryz.prog 13 [] X fun u _ => u = .bool true := by
  refine Spec.enter Tryz.func13 rfl Tryz.ntmps13 rfl ?_
  intro w0 hw0
  refine T.seq <| T.region <| SL.as rfl <| SL.nil <| T.seq <| T.region <| SL.w (op_buildSlice Tryz.underlying59 bs9 (qs := [(0, _), (1, _), (2, _)]) rfl rfl rfl rfl rfl) ?_
  rintro _ _ _ ⟨B15, rfl, rfl, rfl⟩
  refine T.pubAt B15 (by repeat constructor) ?_
  intro X1 hX1 hB15 _
  refine SL.w (op_callF en24 (vs := [_]) rfl (tabl_spec (l := nsA) (.inr ⟨by decide, B15, 3, [], rfl, hB15, by decide, by decide⟩) (by decide))) ?_
  rintro vt _ X2 ⟨rfl, hX2, hTb⟩
  rw [if_pos aw18n] at hTb
  obtain ⟨bt, hbt⟩ := hTb.form
  subst hbt
  refine SL.as rfl <| SL.nil <| T.seq <| T.seq <| T.region <| SL.mv rfl <| SL.v (op_eqlNil Tryz.underlying64 rfl rfl) <| SL.nil <| T.condF rfl <| T.skip <| T.seq <| T.region <| SL.v (op_build st70 (qs := [(0, _), (1, _)]) rfl rfl) <| SL.w (op_alloc z70) ?_
  rintro _ _ _ ⟨B2, rfl, rfl, rfl⟩
  refine SL.w (op_store ty70 rfl rfl (by repeat constructor) rfl rfl rfl) ?_
  rintro _ _ _ ⟨rfl, rfl⟩
  refine SL.nil <| T.seq <| T.region <| SL.w (op_buildSlice Tryz.underlying59 bs9 (qs := [(0, _), (1, _)]) rfl rfl rfl rfl rfl) ?_
  rintro _ _ _ ⟨B20, rfl, rfl, rfl⟩
  refine SL.v (op_build st70 (qs := [(0, _), (2, _)]) rfl rfl) <| SL.w (op_alloc z70) ?_
  rintro _ _ _ ⟨B3, rfl, rfl, rfl⟩
  refine SL.w (op_store ty70 rfl rfl (by repeat constructor) rfl rfl rfl) ?_
  rintro _ _ _ ⟨rfl, rfl⟩
  refine SL.nil <| T.seq <| T.region <| T.pubAt B20 (by repeat constructor) ?_
  intro X3 hX3 hB20 _
  refine SL.v (op_load ty70 rfl (by repeat constructor) rfl) ?_
  refine SL.v (op_load ty70 rfl (by repeat constructor) rfl) ?_
  refine SL.w (op_buildSlice Tryz.underlying68 bs70 (qs := [(0, _), (1, _)]) rfl rfl rfl rfl rfl) ?_
  rintro _ _ _ ⟨B24, rfl, rfl, rfl⟩
  refine SL.v (op_build st70 (qs := [(0, _), (3, _)]) rfl rfl) <| SL.w (op_alloc z70) ?_
  rintro _ _ _ ⟨B4, rfl, rfl, rfl⟩
  refine SL.w (op_store ty70 rfl rfl (by repeat constructor) rfl rfl rfl) ?_
  rintro _ _ _ ⟨rfl, rfl⟩
  refine SL.nil <| T.seq <| T.region <| T.pubAt B24 (by repeat constructor) ?_
  intro X4 hX4 hB24 _
  have hR20 : RowR strC X4 (.slice (some ⟨B20, 0, none⟩) 2 2) [sClerk, sAud] := .inr ⟨by decide, B20, 2, [], rfl, hB20.mono hX4, by decide, by decide⟩
  have hE0 := exLeaf (k := .u8) (op := 5) (n := 0) hR20
  have hE1 := exLeaf (k := .u8) (X := X4) (op := 1) (n := 1) (vn := .slice none 0 0) (.inl ⟨rfl, _, _, rfl⟩)
  have hE : ExR .u8 X4 e1A (.int .u8 11, .int .i64 0, .slice none 0 0, .slice (some ⟨B24, 0, none⟩) 2 2) := exTwo (op := 11) (n := 0) (ra := (.int .u8 5, .int .i64 0, .slice (some ⟨B20, 0, none⟩) 2 2, .slice none 0 0)) (rb := (.int .u8 1, .int .i64 1, .slice none 0 0, .slice none 0 0)) (.inr ⟨Nat.zero_lt_succ _, B24, 2, [], rfl, hB24, Nat.le_refl _, by (have : maxLen = 9223372036854775807 := rfl); omega⟩) hE0 hE1
  have hT4 := (hTb.mono hX3).mono hX4
  have hr1 := resolve_spec (kind := 1) (by decide) (by decide) (by decide) hT4 (SetR.zero (A := none) (c := 0)) hE
  rw [aw18a] at hr1
  try simp only at hr1
  refine SL.v (op_load ty70 rfl (by repeat constructor) rfl) ?_
  refine SL.mv rfl <| SL.v (op_build st53 (qs := []) rfl rfl) <| SL.w (op_callF en25 (vs := [_, _, _, _]) rfl (hr1)) ?_
  rintro _ _ X5 ⟨rfl, hX5, r8, rfl, hr8⟩
  have hr2 := resolve_spec (kind := 3) (by decide) (by decide) (by decide) (hT4.mono hX5) (SetR.zero (A := none) (c := 0)) (hE.mono hX5)
  rw [aw18b] at hr2
  try simp only at hr2
  have hty := fun {X' : PMap} (hX : X5.le X') => ftyp_spec (by decide) (hr8.mono hX)
  simp only [aw18t] at hty
  have hmn := fun {X' : PMap} (hX : X5.le X') => fment_spec (wtF f1A) (Nat.le_refl _) (by decide) (insF_rol f1A (kind := 1) (by kernel_rfl)) (hr8.mono hX)
  simp only [aw18m] at hmn
  obtain ⟨o8, n8, a8, b8, l8, c8, l9, c9, rfl⟩ := hr8.form
  try simp only at hty
  try simp only at hmn
  refine SL.mv rfl <| SL.v (op_extract rfl rfl) <| SL.v (op_extract rfl rfl) <| SL.w (op_alloc z36) ?_
  rintro _ _ _ ⟨B5, rfl, rfl, rfl⟩
  refine SL.w (op_store ty36 rfl rfl (by repeat constructor) rfl rfl rfl) ?_
  rintro _ _ _ ⟨rfl, rfl⟩
  refine SL.as rfl <| SL.nil <| T.seq <| T.region <| SL.v (op_load ty70 rfl (by repeat constructor) rfl) ?_
  refine SL.mv rfl <| SL.v (op_build st53 (qs := []) rfl rfl) <| SL.w (op_callF en25 (vs := [_, _, _, _]) rfl (hr2)) ?_
  rintro _ _ X6 ⟨rfl, hX6, r9, rfl, hr9⟩
  obtain ⟨o9, n9, a9, b9, l10, c10, l11, c11, rfl⟩ := hr9.form
  refine SL.mv rfl <| SL.v (op_extract rfl rfl) <| SL.v (op_extract rfl rfl) <| SL.w (op_alloc z36) ?_
  rintro _ _ _ ⟨B7, rfl, rfl, rfl⟩
  refine SL.w (op_store ty36 rfl rfl (by repeat constructor) rfl rfl rfl) ?_
  rintro _ _ _ ⟨rfl, rfl⟩
  refine SL.as rfl <| SL.nil <| T.seq <| T.region <| SL.w (op_buildSlice Tryz.underlying59 bs9 (qs := [(0, _)]) rfl rfl rfl rfl rfl) ?_
  rintro _ _ _ ⟨B40, rfl, rfl, rfl⟩
  refine SL.v (op_build st70 (qs := [(0, _), (2, _)]) rfl rfl) <| SL.v (op_load ty70 rfl (by repeat constructor) rfl) ?_
  refine SL.w (op_buildSlice Tryz.underlying68 bs70 (qs := [(0, _), (1, _)]) rfl rfl rfl rfl rfl) ?_
  rintro _ _ _ ⟨B43, rfl, rfl, rfl⟩
  refine SL.v (op_build st70 (qs := [(0, _), (3, _)]) rfl rfl) <| SL.w (op_alloc z70) ?_
  rintro _ _ _ ⟨B9, rfl, rfl, rfl⟩
  refine SL.w (op_store ty70 rfl rfl (by repeat constructor) rfl rfl rfl) ?_
  rintro _ _ _ ⟨rfl, rfl⟩
  refine SL.nil <| T.seq <| T.region <| SL.v (op_load ty70 rfl (by repeat constructor) rfl) ?_
  refine SL.v (op_build st70 (qs := [(0, _), (1, _)]) rfl rfl) <| SL.w (op_buildSlice Tryz.underlying68 bs70 (qs := [(0, _), (1, _)]) rfl rfl rfl rfl rfl) ?_
  rintro _ _ _ ⟨B48, rfl, rfl, rfl⟩
  refine SL.v (op_build st70 (qs := [(0, _), (3, _)]) rfl rfl) <| T.pubAt B40 (by repeat constructor) ?_
  intro X7 hX7 hB40 _
  refine T.pubAt B43 (by repeat constructor) ?_
  intro X8 hX8 hB43 _
  refine T.pubAt B48 (by repeat constructor) ?_
  intro X9 hX9 hB48 _
  have hR40 : RowR strC X9 (.slice (some ⟨B40, 0, none⟩) 1 1) [sClerk] := .inr ⟨by decide, B40, 1, [], rfl, (hB40.mono hX8).mono hX9, by decide, by decide⟩
  have hF0 := exLeaf (k := .u8) (op := 4) (n := 0) hR40
  have hF1 := exLeaf (k := .u8) (X := X9) (op := 1) (n := 1) (vn := .slice none 0 0) (.inl ⟨rfl, _, _, rfl⟩)
  have hF2 := exLeaf (k := .u8) (X := X9) (op := 1) (n := 2) (vn := .slice none 0 0) (.inl ⟨rfl, _, _, rfl⟩)
  have hF3 := exTwo (op := 16) (n := 0) (va := .slice (some ⟨B43, 0, none⟩) 2 2) (ra := (.int .u8 4, .int .i64 0, .slice (some ⟨B40, 0, none⟩) 1 1, .slice none 0 0)) (rb := (.int .u8 1, .int .i64 1, .slice none 0 0, .slice none 0 0)) (.inr ⟨Nat.zero_lt_succ _, B43, 2, [], rfl, hB43.mono hX9, Nat.le_refl _, by (have : maxLen = 9223372036854775807 := rfl); omega⟩) hF0 hF1
  have hF : ExR .u8 X9 e2A (.int .u8 11, .int .i64 0, .slice none 0 0, .slice (some ⟨B48, 0, none⟩) 2 2) := exTwo (op := 11) (n := 0) (ra := (.int .u8 16, .int .i64 0, .slice none 0 0, .slice (some ⟨B43, 0, none⟩) 2 2)) (rb := (.int .u8 1, .int .i64 2, .slice none 0 0, .slice none 0 0)) (.inr ⟨Nat.zero_lt_succ _, B48, 2, [], rfl, hB48, Nat.le_refl _, by (have : maxLen = 9223372036854775807 := rfl); omega⟩) hF3 hF2
  have hX59 := ((hX6.trans' hX7).trans' hX8).trans' hX9
  have hr3 := resolve_spec (kind := 1) (by decide) (by decide) (by decide) ((hT4.mono hX5).mono hX59) (SetR.zero (A := none) (c := 0)) hF
  rw [aw18c] at hr3
  try simp only at hr3
  refine SL.mv rfl <| SL.v (op_build st53 (qs := []) rfl rfl) <| SL.w (op_callF en25 (vs := [_, _, _, _]) rfl (hr3)) ?_
  rintro _ _ X10 ⟨rfl, hX10, r12, rfl, hr12⟩
  obtain ⟨o13, n13, a13, b13, l13, c13, l14, c14, rfl⟩ := hr12.form
  have hX510 := hX59.trans' hX10
  refine SL.mv rfl <| SL.v (op_extract rfl rfl) <| SL.v (op_extract rfl rfl) <| SL.w (op_alloc z36) ?_
  rintro _ _ _ ⟨B10, rfl, rfl, rfl⟩
  refine SL.w (op_store ty36 rfl rfl (by repeat constructor) rfl rfl rfl) ?_
  rintro _ _ _ ⟨rfl, rfl⟩
  refine SL.as rfl <| SL.nil <| T.seq <| T.region <| SL.v (op_load ty36 rfl (by repeat constructor) rfl) ?_
  refine SL.w (op_callF en15 (vs := [_]) rfl (hty hX510)) ?_
  rintro _ _ X11 ⟨rfl, hX11, rfl⟩
  refine SL.mv rfl <| SL.v (op_extract rfl rfl) <| SL.v (op_extract rfl rfl) <| SL.as rfl <| SL.as rfl <| SL.nil <| T.seq <| T.region <| SL.w (op_buildSlice Tryz.underlying24 bs3 (qs := [(0, _)]) rfl rfl rfl rfl rfl) ?_
  rintro _ _ _ ⟨B60, rfl, rfl, rfl⟩
  refine SL.v (op_build st36 (qs := [(0, _), (2, _)]) rfl rfl) <| SL.v (op_build st101 (qs := [(0, _), (1, _), (2, _), (3, _)]) rfl rfl) <| SL.w (op_alloc z101) ?_
  rintro _ _ _ ⟨B14, rfl, rfl, rfl⟩
  refine SL.w (op_store ty101 rfl rfl (by repeat constructor) rfl rfl rfl) ?_
  rintro _ _ _ ⟨rfl, rfl⟩
  refine SL.nil <| T.seq <| T.region <| SL.mv rfl <| SL.v (op_eqlT rfl rfl (by omega)) ?_
  refine SL.mv rfl <| SL.mv rfl <| SL.v (op_eqlT rfl rfl (by omega)) ?_
  refine SL.v (op_pickT rfl rfl) <| SL.mv rfl <| SL.mv rfl <| SL.v (op_eqlT rfl rfl (by omega)) ?_
  refine SL.v (op_pickT rfl rfl) <| SL.mv rfl <| SL.mv rfl <| SL.v (op_eqlT rfl rfl (by omega)) ?_
  refine SL.v (op_pickT rfl rfl) <| SL.mv rfl <| SL.mv rfl <| SL.v (op_eqlT rfl rfl (by omega)) ?_
  refine SL.v (op_pickT rfl rfl) <| SL.mv rfl <| T.pubAt B60 (by repeat constructor) ?_
  intro X12 hX12 hB60 _
  have hX512 := (hX510.trans' hX11).trans' hX12
  refine SL.v (op_load ty36 rfl (by repeat constructor) rfl) ?_
  refine SL.w (op_callF en21 (vs := [_]) rfl (hmn hX512)) ?_
  rintro v83 _ X13 ⟨rfl, hX13, hS13⟩
  have hT13 := ((((hT.mono hX1).mono hX2).mono hX3).mono hX4).mono ((hX5.trans' hX512).trans' hX13)
  refine SL.w (op_callF en57 (vs := [_]) rfl (awt18 hT13 hS13 (by decide) (s := [123, 49, 32, 50, 125]) (by decide))) ?_
  rintro _ _ X14 ⟨rfl, hX14, rfl⟩
  refine SL.v (op_eqlStrT Tryz.underlying9 rfl rfl) ?_
  have hcb := cbytes_spec (enf := true) (kind := 1) (name := sSod) (f := f3A) (r := (.int .u8 4, .int .i64 0, .slice (some ⟨B60, 0, none⟩) 1 1, .slice none 0 0)) (by decide) (by decide) (.mk (rows := []) (op := 4) (rs := [3]) ⟨.inr ⟨by decide, B60, 1, rfl, (hB60.mono hX13).mono hX14⟩, _, _, rfl, by decide⟩ (.inl ⟨rfl, _, _, rfl⟩) rfl (fun i a r h => by simp at h))
  simp only [aw18k, aw18e, ↓reduceIte] at hcb
  refine SL.v (op_pickT rfl rfl) <| SL.mv rfl <| SL.v (op_load ty101 rfl (by repeat constructor) rfl) ?_
  refine SL.w (op_callF en50 (vs := [_]) rfl (hcb)) ?_
  rintro v89 _ X15 ⟨rfl, hX15, hb15⟩
  obtain ⟨A89, c89, rfl⟩ := hb15.form
  refine SL.v (op_strBytesR (l := [1, 1, 3, 115, 111, 100, 4, 0, 1, 3, 0]) Tryz.underlying44 Tryz.underlying5 Tryz.underlying9 rfl hb15 (by decide)) ?_
  refine SL.v (op_eqlStrT Tryz.underlying9 rfl rfl) <| SL.v (op_pickT rfl rfl) <| SL.as rfl <| SL.nil <| T.ret1 rfl (ResIs.tmp rfl) ?_
  rfl
end Go.Proofs.YtnpcilglilfajaaGreatDoor
namespace Go.Proofs.YtnpcilglilfajaaGreatDoor
section
set_option maxRecDepth 100000
theorem en13 : Enters Tryz.prog 13 := enters_mk Tryz.func13 (by kernel_rfl) rfl
end
open Go.RowKit
theorem fmLeaf {k : IntKind} {X : PMap} {op : Nat} {n : Int} {vn : Value} {rs : List Nat} (hn : IntsR X vn rs) : FmR k X (.mk op n rs []) (.int k (op : Int), .int .i64 n, vn, .slice none 0 0) := .mk (rows := []) hn (.inl ⟨rfl, _, _, rfl⟩) rfl (fun i a r h => by simp at h)
theorem fmTwo {k : IntKind} {X : PMap} {op : Nat} {n : Int} {va : Value} {a b : Fm} {ra rb : Row4} (h : RowR rc4 X va [ra, rb]) (ha : FmR k X a ra) (hb : FmR k X b rb) : FmR k X (.mk op n [] [a, b]) (.int k (op : Int), .int .i64 n, .slice none 0 0, va) := .mk (rows := [ra, rb]) IntsR.nil h rfl (fun i x r h1 h2 => by
  match i with
  | 0 => simp at h1 h2; subst h1 h2; exact ha
  | 1 => simp at h1 h2; subst h1 h2; exact hb
  | i + 2 => simp at h1)
theorem ints1 {X : PMap} {b : Nat} {r : Nat} (h : Blk X b [.int .i64 (r : Int)]) : IntsR X (.slice (some ⟨b, 0, none⟩) 1 1) [r] := ⟨.inr ⟨Nat.zero_lt_one, b, 1, rfl, h⟩, _, _, rfl, Nat.le_refl _⟩
theorem row2 {X : PMap} {b : Nat} {r s : Row4} (h : Blk X b [r.1, r.2.1, r.2.2.1, r.2.2.2, s.1, s.2.1, s.2.2.1, s.2.2.2]) : RowR rc4 X (.slice (some ⟨b, 0, none⟩) 2 2) [r, s] := .inr ⟨Nat.zero_lt_succ _, b, 2, [], rfl, h, Nat.le_refl _, by (have : maxLen = 9223372036854775807 := rfl); omega⟩
abbrev FmO (b : Nat) (r : Row4) : Ow := ⟨b, [r.1, r.2.1, r.2.2.1, r.2.2.2], 36, 4⟩
end Go.Proofs.YtnpcilglilfajaaGreatDoor
namespace Go.Proofs.YtnpcilglilfajaaGreatDoor
section
set_option maxRecDepth 100000
theorem en159 : Enters Tryz.prog 159 := enters_mk Tryz.func159 (by kernel_rfl) rfl
theorem en191 : Enters Tryz.prog 191 := enters_mk Tryz.func191 (by kernel_rfl) rfl
theorem fa203_0 : FAdr Tryz.prog 203 0 0 := fadr_mk Tryz.underlying203 rfl rfl (by kernel_rfl)
theorem fa203_1 : FAdr Tryz.prog 203 1 1 := fadr_mk Tryz.underlying203 rfl rfl (by kernel_rfl)
end
open Go.RowKit
abbrev SrcO (b : Nat) (A : Option Addr) (l c : Nat) (q : Nat) : Ow := ⟨b, [.slice A l c, .int .i64 (q : Int)], 203, 2⟩
theorem nx_at {p : List Nat} {q : Nat} (h : q < p.length) : p[q]? = some (nx p q) := by
  rw [nx, List.getElem?_eq_getElem h]; rfl
theorem next_spec18 {X : PMap} {b c q : Nat} {A : Option Addr} {p : List Nat} (h : BytesR X (.slice A p.length c) p) (hb : ∀ x ∈ p, x < 256) (hq : q < 1000000) (hl : p.length < 1000000) : SpecM Tryz.prog 159 [.pointer (some ⟨b, 0, none⟩)] X [SrcO b A p.length c q] fun u L' _ => ∃ x', L' = [x'] ∧ u = .int .i64 (nx p q : Int) ∧ x' = SrcO b A p.length c (q + 1) := by
  by_cases hc : p.length < q + 1
  · have e : nx p q = 0 := by rw [nx, List.getElem?_eq_none (by omega)]; rfl
    rw [e]
    refine SpecM.enter Tryz.func159 rfl Tryz.ntmps159 rfl ?_
    intro w0 X0 own0
    refine T.seq <| T.region <| SL.v (op_assign (v := .int .i64 ((0 : Nat) : Int)) rfl) <| SL.nil <| T.seq <| T.region <| SL.mv rfl <| SL.v (op_nil rfl) <| SL.v (op_fieldAddr fa203_1 rfl) <| SL.v (op_load ty3 rfl (by repeat constructor) rfl) ?_
    refine SL.v (op_addN (p := q) (q := 1) rfl rfl (by omega)) ?_
    refine SL.v (op_nil rfl) <| SL.v (op_fieldAddr fa203_1 rfl) <| SL.w (op_store ty3 rfl rfl (by repeat constructor) rfl rfl rfl) ?_
    rintro _ _ _ ⟨rfl, rfl⟩
    refine SL.nil <| T.seq <| T.seq <| T.draw (by kernel_rfl) 10 [.t 0, .t 1, .t 2, .t 3, .t 4, .t 5, .t 6, .t 7, .t 8, .t 9] (by kernel_rfl) ?_
    refine SD.take rfl panicBody (op_move rfl) rfl rfl ?_
    refine SD.take rfl panicBody (op_nil rfl) rfl rfl ?_
    refine SD.take rfl panicBody (op_fieldAddr fa203_1 rfl) rfl rfl ?_
    refine SD.take rfl panicBody (op_load ty3 rfl (by repeat constructor) rfl) rfl rfl ?_
    refine SD.take rfl panicBody (op_move rfl) rfl rfl ?_
    refine SD.take rfl panicBody (op_nil rfl) rfl rfl ?_
    refine SD.take rfl panicBody (op_fieldAddr fa203_0 rfl) rfl rfl ?_
    refine SD.take rfl panicBody (op_load ty44 rfl (by repeat constructor) rfl) rfl rfl ?_
    refine SD.take rfl panicBody (op_lenS Tryz.underlying44 rfl) rfl rfl ?_
    refine SD.take rfl panicBody (op_gtrT rfl rfl (by omega)) rfl rfl ?_
    refine SD.nil ?_
    show SL _ _ _ _ _ _ _ [] _ _ _
    refine SL.nil <| T.condT rfl <| T.seq <| T.region <| SL.v (op_assign (v := .int .i64 ((0 : Nat) : Int)) rfl) <| SL.nil <| T.retM1 [SrcO b A p.length c (q + 1)] rfl (ResIs.tmp rfl) (List.Perm.refl _) ?_
    exact ⟨PMap.le_refl _, _, rfl, rfl, rfl⟩
  · obtain ⟨bA, pre, rfl, hB⟩ := h.blk (by omega)
    have hx := nx_lt hb q
    have e2 : (pre ++ bytesC p)[pre.length + q]? = some (.int .u8 (nx p q : Int)) := by rw [List.getElem?_append_right (by omega), Nat.add_sub_cancel_left]; exact bytesC_at (nx_at (by omega))
    refine SpecM.enter Tryz.func159 rfl Tryz.ntmps159 rfl ?_
    intro w0 X0 own0
    refine T.seq <| T.region <| SL.v (op_assign (v := .int .i64 ((0 : Nat) : Int)) rfl) <| SL.nil <| T.seq <| T.region <| SL.mv rfl <| SL.v (op_nil rfl) <| SL.v (op_fieldAddr fa203_1 rfl) <| SL.v (op_load ty3 rfl (by repeat constructor) rfl) ?_
    refine SL.v (op_addN (p := q) (q := 1) rfl rfl (by omega)) ?_
    refine SL.v (op_nil rfl) <| SL.v (op_fieldAddr fa203_1 rfl) <| SL.w (op_store ty3 rfl rfl (by repeat constructor) rfl rfl rfl) ?_
    rintro _ _ _ ⟨rfl, rfl⟩
    refine SL.nil <| T.seq <| T.seq <| T.draw (by kernel_rfl) 10 [.t 0, .t 1, .t 2, .t 3, .t 4, .t 5, .t 6, .t 7, .t 8, .t 9] (by kernel_rfl) ?_
    refine SD.take rfl panicBody (op_move rfl) rfl rfl ?_
    refine SD.take rfl panicBody (op_nil rfl) rfl rfl ?_
    refine SD.take rfl panicBody (op_fieldAddr fa203_1 rfl) rfl rfl ?_
    refine SD.take rfl panicBody (op_load ty3 rfl (by repeat constructor) rfl) rfl rfl ?_
    refine SD.take rfl panicBody (op_move rfl) rfl rfl ?_
    refine SD.take rfl panicBody (op_nil rfl) rfl rfl ?_
    refine SD.take rfl panicBody (op_fieldAddr fa203_0 rfl) rfl rfl ?_
    refine SD.take rfl panicBody (op_load ty44 rfl (by repeat constructor) rfl) rfl rfl ?_
    refine SD.take rfl panicBody (op_lenS Tryz.underlying44 rfl) rfl rfl ?_
    refine SD.take rfl panicBody (op_gtrF rfl rfl (by omega)) rfl rfl ?_
    refine SD.nil ?_
    show SL _ _ _ _ _ _ _ [] _ _ _
    refine SL.nil <| T.condF rfl <| T.skip <| T.seq <| T.draw (by kernel_rfl) 13 [.t 0, .t 1, .t 2, .t 3, .t 4, .t 5, .t 6, .t 7, .t 8, .t 9, .t 10, .t 11, .t 12] (by kernel_rfl) ?_
    refine SD.take rfl panicBody (op_move rfl) rfl rfl ?_
    refine SD.take rfl panicBody (op_nil rfl) rfl rfl ?_
    refine SD.take rfl panicBody (op_fieldAddr fa203_0 rfl) rfl rfl ?_
    refine SD.take rfl panicBody (op_load ty44 rfl (by repeat constructor) rfl) rfl rfl ?_
    refine SD.take rfl panicBody (op_move rfl) rfl rfl ?_
    refine SD.take rfl panicBody (op_nil rfl) rfl rfl ?_
    refine SD.take rfl panicBody (op_fieldAddr fa203_1 rfl) rfl rfl ?_
    refine SD.take rfl panicBody (op_load ty3 rfl (by repeat constructor) rfl) rfl rfl ?_
    refine SD.take rfl panicBody (op_subN (p := q + 1) (q := 1) rfl rfl (by omega) (by omega)) rfl rfl ?_
    rw [Nat.add_sub_cancel]
    refine SD.take rfl panicBody (op_indexN Tryz.underlying44 ty5 rfl rfl (by omega)) rfl rfl ?_
    refine SD.take rfl panicBody (op_loadX ty5 rfl hB (cread1k' e2 (by omega))) rfl rfl ?_
    refine SD.take rfl panicBody (op_convI64 Tryz.underlying5 Tryz.underlying3 rfl (by omega) (by omega)) rfl rfl ?_
    refine SD.take rfl panicBody (op_assign rfl) rfl rfl ?_
    refine SD.nil ?_
    show SL _ _ _ _ _ _ _ [] _ _ _
    refine SL.nil <| T.retM1 [SrcO b (some ⟨bA, pre.length, none⟩) p.length c (q + 1)] rfl (ResIs.tmp rfl) (List.Perm.refl _) ?_
    exact ⟨PMap.le_refl _, _, rfl, rfl, rfl⟩
theorem perm3o {a b c : Ow} {G O : Own} : (a :: b :: c :: (G ++ O)).Perm ((a :: b :: c :: O) ++ G) := .cons _ (.cons _ (.cons _ (show (G ++ O).Perm (O ++ G) from List.perm_append_comm)))
theorem numS_leaf {p : List Nat} {kind d q : Nat} (h : ¬(1 < d ∧ nx p q % 3 = 2)) : numS p kind d q = (numLeaf kind (nx p q) (nx p (q + 1)), q + 1 + numUse kind (nx p q)) := by
  cases d with
  | zero => rfl
  | succ d => rw [numS, if_neg (fun hh => h ⟨by omega, hh.2⟩)]
theorem numS_node {p : List Nat} {kind d q : Nat} (h1 : 1 < d) (h : nx p q % 3 = 2) : numS p kind d q = (.mk 16 0 [] [(numS p kind (d - 1) (q + 1)).1, (numS p kind (d - 1) (numS p kind (d - 1) (q + 1)).2).1], (numS p kind (d - 1) (numS p kind (d - 1) (q + 1)).2).2) := by
  obtain ⟨e, rfl⟩ : ∃ e, d = e + 1 := ⟨d - 1, by omega⟩
  rw [numS, if_pos ⟨by omega, h⟩, Nat.add_sub_cancel]
theorem numS_spec {kind : Nat} (d : Nat) : ∀ {X : PMap} {b c q : Nat} {A : Option Addr} {p : List Nat}, BytesR X (.slice A p.length c) p → (∀ x ∈ p, x < 256) → p.length < 1000000 → q + 3 * 2 ^ d < 1000000 → SpecM Tryz.prog 191 [.pointer (some ⟨b, 0, none⟩), .int .i64 (d : Int), .int .i64 (kind : Int), .int .i64 6] X [SrcO b A p.length c q] fun u L' X' => ∃ x', L' = [x'] ∧ ∃ r : Row4, u = .agg #[r.1, r.2.1, r.2.2.1, r.2.2.2] ∧ FmR .i64 X' (numS p kind d q).1 r ∧ x' = SrcO b A p.length c (numS p kind d q).2 := by
  induction d using Nat.strongRecOn with
  | _ d ih =>
  intro X b c q A p h hb hl hq
  have hmx : maxLen = 9223372036854775807 := rfl
  have hp2 : 1 ≤ 2 ^ d := Nat.one_le_two_pow
  have hx := nx_lt hb q
  have hd : d < 2 ^ d := Nat.lt_two_pow_self
  by_cases hbr : 1 < d ∧ nx p q % 3 = 2
  · obtain ⟨hd1, h3⟩ := hbr
    have e2 : 2 ^ d = 2 * 2 ^ (d - 1) := by
      obtain ⟨e, rfl⟩ : ∃ e, d = e + 1 := ⟨d - 1, by omega⟩
      rw [Nat.add_sub_cancel, Nat.pow_succ, Nat.mul_comm]
    have hle := numS_le p kind (d - 1) (q + 1)
    rw [numS_node hd1 h3]
    refine SpecM.enter Tryz.func191 rfl Tryz.ntmps191 rfl ?_
    intro w0 X0 own0
    refine T.seq <| T.region <| SL.w (op_alloc z27) ?_
    rintro _ _ _ ⟨B8, rfl, rfl, rfl⟩
    refine SL.nil <| T.seq <| T.region <| SL.mv rfl <| SL.w (op_callJ en159 rfl (vs := [_]) rfl (next_spec18 (q := q) h hb (by omega) hl) (by repeat constructor)) ?_
    rintro _ _ X1 ⟨_, rfl, hX1, rfl, rfl⟩
    refine SL.as rfl <| SL.nil <| T.seq <| T.seq <| T.region <| SL.mv rfl <| SL.v (op_gtrT rfl rfl (by omega)) ?_
    refine SL.mv rfl <| SL.mv rfl <| SL.v (op_remN (p := nx p q) (q := 3) rfl rfl rfl (by omega)) ?_
    rw [h3]
    refine SL.v (op_eqlT rfl rfl (by omega)) ?_
    refine SL.v (op_pickT rfl rfl) <| SL.nil <| T.condT rfl <| T.seq <| T.region <| SL.mv rfl <| SL.mv rfl <| SL.v (op_subN (p := d) (q := 1) rfl rfl (by omega) (by omega)) ?_
    refine SL.mv rfl <| SL.mv rfl <| SL.w (op_callJ en191 rfl (vs := [_, _, _, _]) rfl (ih (d - 1) (by omega) (q := q + 1) (h.mono hX1) hb hl (by omega)) (by repeat constructor)) ?_
    rintro _ _ X2 ⟨_, rfl, hX2, r1, rfl, hr1, rfl⟩
    obtain ⟨o1, n1, a1, b1, l1, c1, l2, c2, rfl⟩ := hr1.form
    refine SL.w (op_alloc z27) ?_
    rintro _ _ _ ⟨B10, rfl, rfl, rfl⟩
    refine SL.w (op_store ty27 rfl rfl (by repeat constructor) rfl rfl rfl) ?_
    rintro _ _ _ ⟨rfl, rfl⟩
    refine SL.nil <| T.seq <| T.region <| SL.mv rfl <| SL.mv rfl <| SL.v (op_subN (p := d) (q := 1) rfl rfl (by omega) (by omega)) ?_
    refine SL.mv rfl <| SL.mv rfl <| SL.w (op_callJ en191 rfl (vs := [_, _, _, _]) rfl (ih (d - 1) (by omega) (q := (numS p kind (d - 1) (q + 1)).2) ((h.mono hX1).mono hX2) hb hl (by omega)) (by repeat constructor)) ?_
    rintro _ _ X3 ⟨_, rfl, hX3, r2, rfl, hr2, rfl⟩
    obtain ⟨o3, n3, a3, b3, l3, c3, l4, c4, rfl⟩ := hr2.form
    refine SL.w (op_alloc z27) ?_
    rintro _ _ _ ⟨B11, rfl, rfl, rfl⟩
    refine SL.w (op_store ty27 rfl rfl (by repeat constructor) rfl rfl rfl) ?_
    rintro _ _ _ ⟨rfl, rfl⟩
    refine SL.nil <| T.seq <| T.region <| SL.v (op_load ty27 rfl (by repeat constructor) rfl) ?_
    refine SL.v (op_load ty27 rfl (by repeat constructor) rfl) ?_
    refine SL.w (op_buildSlice Tryz.underlying25 bs27 (qs := [(0, _), (1, _)]) rfl rfl rfl rfl rfl) ?_
    rintro _ _ _ ⟨B38, rfl, rfl, rfl⟩
    refine SL.v (op_build st27 (qs := [(0, _), (3, _)]) rfl rfl) <| SL.w (op_store ty27 rfl rfl (by repeat constructor) rfl rfl rfl) ?_
    rintro _ _ _ ⟨rfl, rfl⟩
    refine SL.nil <| T.pub B38 (by repeat constructor) ?_
    intro X4 hX4 hB38 _
    refine T.retM1S [_] _ rfl (ResIs.cell rfl ty27 (by repeat constructor) rfl) (.cons _ (.cons _ (.cons _ (.refl _)))) (List.Perm.refl _) ?_
    exact ⟨((hX1.trans' hX2).trans' hX3).trans' hX4, _, rfl, (.int .i64 16, .int .i64 0, .slice none 0 0, .slice (some ⟨B38, 0, none⟩) 2 2), rfl, fmTwo (op := 16) (row2 hB38) ((hr1.mono hX3).mono hX4) (hr2.mono hX4), rfl⟩
  rw [numS_leaf hbr]
  refine SpecM.enter Tryz.func191 rfl Tryz.ntmps191 rfl ?_
  intro w0 X0 own0
  refine T.seq <| T.region <| SL.w (op_alloc z27) ?_
  rintro _ _ _ ⟨B8, rfl, rfl, rfl⟩
  refine SL.nil <| T.seq <| T.region <| SL.mv rfl <| SL.w (op_callJ en159 rfl (vs := [_]) rfl (next_spec18 (q := q) h hb (by omega) hl) (by repeat constructor)) ?_
  rintro _ _ X1 ⟨_, rfl, hX1, rfl, rfl⟩
  refine SL.as rfl <| SL.nil <| T.seq <| T.meet (fun _ env own X' => X1.le X' ∧ env = [(0, .pointer (some ⟨b, 0, none⟩)), (2, .int .i64 (kind : Int)), (3, .int .i64 6), (8, .pointer (some ⟨B8, 0, none⟩)), (9, .int .i64 (nx p q : Int))] ∧ own = F6 B8 0 0 (.slice none 0 0) (.slice none 0 0) :: SrcO b A p.length c (q + 1) :: own0) ?_ ?_
  · by_cases hd1 : 1 < d
    · skip
      refine T.seq <| T.region <| SL.mv rfl <| SL.v (op_gtrT rfl rfl (by omega)) ?_
      refine SL.mv rfl <| SL.mv rfl <| SL.v (op_remN (p := nx p q) (q := 3) rfl rfl rfl (by omega)) ?_
      refine SL.v (op_eqlF rfl rfl (by omega)) ?_
      refine SL.v (op_pickT rfl rfl) <| SL.nil <| T.condF rfl <| T.skip ?_
      exact T.backW 0 (by omega) ⟨PMap.le_refl _, rfl, rfl⟩ (by repeat (first | exact Sub.nil | refine Sub.cons rfl ?_))
    · refine T.seq <| T.region <| SL.mv rfl <| SL.v (op_gtrF rfl rfl (by omega)) ?_
      refine SL.mv rfl <| SL.skip rfl rfl ?_
      refine SL.skip rfl rfl ?_
      refine SL.skip rfl rfl ?_
      refine SL.v (op_pickF rfl rfl) <| SL.nil <| T.condF rfl <| T.skip ?_
      exact T.backW 0 (by omega) ⟨PMap.le_refl _, rfl, rfl⟩ (by repeat (first | exact Sub.nil | refine Sub.cons rfl ?_))
  rintro _ _ _ X2 ⟨hX2, rfl, rfl⟩
  have h6 : nx p q / 3 % 6 < 6 := Nat.mod_lt _ (by omega)
  refine T.seq <| T.seq <| T.region <| SL.mv rfl <| SL.v (op_remN (p := nx p q) (q := 3) rfl rfl rfl (by omega)) ?_
  by_cases h0 : nx p q % 3 = 0
  · rw [numLeaf, if_pos h0, numUse, if_pos (.inl h0)]
    refine SL.v (op_eqlT rfl rfl (by omega)) ?_
    refine SL.nil <| T.condT rfl <| T.seq <| T.region <| SL.mv rfl <| SL.v (op_quoN (p := nx p q) (q := 3) rfl rfl rfl (by omega) (by omega)) ?_
    refine SL.v (op_remN (p := nx p q / 3) (q := 4) rfl rfl rfl (by omega)) ?_
    refine SL.v (op_build st27 (qs := [(0, _), (1, _)]) rfl rfl) <| SL.w (op_store ty27 rfl rfl (by repeat constructor) rfl rfl rfl) ?_
    rintro _ _ _ ⟨rfl, rfl⟩
    refine SL.nil <| T.retM1S [_] _ rfl (ResIs.cell rfl ty27 (by repeat constructor) rfl) (.cons _ (.refl _)) (List.Perm.refl _) ?_
    exact ⟨hX1.trans' hX2, _, rfl, _, rfl, fmLeaf (op := 1) IntsR.nil, rfl⟩
  by_cases hk : kind = 3
  · rw [numLeaf, if_neg h0, if_pos hk, numUse, if_pos (.inr hk)]
    refine SL.v (op_eqlF rfl rfl (by omega)) ?_
    refine SL.nil <| T.condF rfl <| T.skip <| T.seq <| T.seq <| T.region <| SL.mv rfl <| SL.v (op_eqlT rfl rfl (by omega)) ?_
    refine SL.nil <| T.condT rfl <| T.seq <| T.region <| SL.mv rfl <| SL.v (op_quoN (p := nx p q) (q := 3) rfl rfl rfl (by omega) (by omega)) ?_
    refine SL.mv rfl <| SL.v (op_remN (p := nx p q / 3) (q := 6) rfl rfl rfl (by omega)) ?_
    refine SL.v (op_addN (p := 1) (q := nx p q / 3 % 6) rfl rfl (by omega)) ?_
    refine SL.w (op_buildSlice Tryz.underlying24 bs3 (qs := [(0, _)]) rfl rfl rfl rfl rfl) ?_
    rintro _ _ _ ⟨B54, rfl, rfl, rfl⟩
    refine SL.v (op_build st27 (qs := [(0, _), (2, _)]) rfl rfl) <| SL.w (op_store ty27 rfl rfl (by repeat constructor) rfl rfl rfl) ?_
    rintro _ _ _ ⟨rfl, rfl⟩
    refine SL.nil <| T.pub B54 (by repeat constructor) ?_
    intro X3 hX3 hB54 _
    refine T.retM1S [_] _ rfl (ResIs.cell rfl ty27 (by repeat constructor) rfl) (.cons _ (.refl _)) (List.Perm.refl _) ?_
    exact ⟨(hX1.trans' hX2).trans' hX3, _, rfl, _, rfl, fmLeaf (op := 6) (ints1 hB54), rfl⟩
  rw [numLeaf, if_neg h0, if_neg hk, numUse, if_neg (fun hh => hh.elim h0 hk)]
  refine SL.v (op_eqlF rfl rfl (by omega)) ?_
  refine SL.nil <| T.condF rfl <| T.skip <| T.seq <| T.seq <| T.region <| SL.mv rfl <| SL.v (op_eqlF rfl rfl (by omega)) ?_
  refine SL.nil <| T.condF rfl <| T.skip <| T.seq <| T.region <| SL.v (op_build st27 (qs := [(0, _)]) rfl rfl) <| SL.w (op_alloc z27) ?_
  rintro _ _ _ ⟨B12, rfl, rfl, rfl⟩
  refine SL.w (op_store ty27 rfl rfl (by repeat constructor) rfl rfl rfl) ?_
  rintro _ _ _ ⟨rfl, rfl⟩
  refine SL.nil <| T.seq <| T.region <| SL.mv rfl <| SL.w (op_callJ en159 rfl (vs := [_]) rfl (next_spec18 (q := q + 1) ((h.mono hX1).mono hX2) hb (by omega) hl) (by repeat constructor)) ?_
  rintro _ _ X3 ⟨_, rfl, hX3, rfl, rfl⟩
  obtain ⟨m, hm⟩ : ∃ m, m = nx p (q + 1) := ⟨_, rfl⟩
  have hm2 : m < 256 := by rw [hm]; exact nx_lt hb _
  rw [← hm]
  refine SL.as rfl <| SL.nil <| T.seq <| T.seq <| T.region <| SL.v (op_assign (v := .int .i64 ((1 : Nat) : Int)) rfl) <| SL.nil <| T.block <| T.loopW (fun w env own X' => ∃ (i : Nat) (vn : Value) (G : Own), w = 6 - i ∧ i ≤ 6 ∧ X3.le X' ∧ GrowS 3 1 vn (maskR m i).length (ints (maskR m i)) G ∧ env = [(3, .int .i64 6), (8, .pointer (some ⟨B8, 0, none⟩)), (9, .int .i64 (nx p q : Int)), (12, .pointer (some ⟨B12, 0, none⟩)), (13, .int .i64 (m : Int)), (14, .int .i64 ((1 + i : Nat) : Int))] ∧ own = F6 B12 5 0 vn (.slice none 0 0) :: F6 B8 0 0 (.slice none 0 0) (.slice none 0 0) :: SrcO b A p.length c (q + 1 + 1) :: (G ++ own0)) 6 ⟨0, _, [], by omega, by omega, PMap.le_refl _, GrowS.nil, rfl, rfl⟩ (by repeat (first | exact Sub.nil | refine Sub.cons rfl ?_)) ?_
  rintro w _ _ X4 ⟨i, vn, G, rfl, hi, hX4, hG, rfl, rfl⟩
  obtain ⟨An, cn, rfl⟩ := hG.form
  have hml := maskR_len m i
  rcases Nat.lt_or_ge i 6 with hil | hil
  case inl =>
    have hms := maskR_succ m i
    refine T.seq <| T.seq <| T.region <| SL.mv rfl <| SL.mv rfl <| SL.v (op_leqT rfl rfl (by omega)) ?_
    refine SL.nil <| T.condT rfl <| T.skip <| T.seq <| T.block <| T.seq <| T.region <| SL.mv rfl <| SL.mv rfl <| SL.v (op_subN (p := 1 + i) (q := 1) rfl rfl (by omega) (by omega)) ?_
    rw [Nat.add_sub_cancel_left]
    refine SL.v (op_shrK (p := m) (q := i) rfl rfl (by show i ≤ 64; omega)) ?_
    refine SL.v (op_remN (p := m >>> i) (q := 2) rfl rfl rfl (by omega)) ?_
    by_cases hb1 : (m >>> i) % 2 = 1
    · rw [if_pos hb1] at hms
      refine SL.v (op_eqlT rfl rfl (by omega)) ?_
      refine SL.nil <| T.condT rfl <| T.region <| SL.v (op_fieldAddr fa27_2 rfl) <| SL.v (op_load ty24 rfl (by repeat constructor) rfl) ?_
      refine SL.mv rfl <| SL.w (op_buildSlice Tryz.underlying24 bs3 (qs := [(0, _)]) rfl rfl rfl rfl rfl) ?_
      rintro _ _ _ ⟨B73, rfl, rfl, rfl⟩
      refine SL.perm perm4 ?_
      refine SL.w (op_appendGA (own0 := _ :: _ :: _ :: _ :: own0) (m := 1) sl24 rfl hG rfl (Src.ofOwn0 AtO.here rfl) (by intro y hy; have hy : y ∈ [Value.int _ _] := hy; simp only [List.mem_cons, List.not_mem_nil, or_false] at hy; rcases hy with rfl; rfl) (by omega) (by omega)) ?_
      rintro vn9 _ _ ⟨Gn9, rfl, rfl, hGn9⟩
      obtain ⟨An9, cn9, rfl⟩ := hGn9.form
      refine SL.v (op_fieldAddr fa27_2 rfl) <| SL.w (op_store ty24 rfl rfl (by repeat constructor) rfl rfl rfl) ?_
      rintro _ _ _ ⟨rfl, rfl⟩
      refine SL.nil <| T.blk <| T.region <| SL.mv rfl <| SL.v (op_addN (q := 1) rfl rfl (by omega)) ?_
      refine SL.as rfl <| SL.nil <| T.less (List.sublist_cons_self _ _) ?_
      refine T.perm perm3o.symm ?_
      have hGn10 : GrowS 3 1 (.slice An9 ((maskR m i).length + 1) cn9) (maskR m (i + 1)).length (ints (maskR m (i + 1))) Gn9 := by
        rw [hms, List.length_append, show ints (maskR m i ++ [i + 1]) = ints (maskR m i) ++ ints [i + 1] by simp [ints], Nat.add_comm i 1]
        exact hGn9
      exact T.backW (6 - (i + 1)) (by omega) ⟨i + 1, _, Gn9, rfl, by omega, hX4, hGn10, rfl, rfl⟩ (by repeat (first | exact Sub.nil | refine Sub.cons rfl ?_))
    · rw [if_neg hb1, List.append_nil] at hms
      refine SL.v (op_eqlF rfl rfl (by omega)) ?_
      refine SL.nil <| T.condF rfl <| T.skip <| T.blk <| T.region <| SL.mv rfl <| SL.v (op_addN (q := 1) rfl rfl (by omega)) ?_
      refine SL.as rfl <| SL.nil ?_
      exact T.backW (6 - (i + 1)) (by omega) ⟨i + 1, _, G, rfl, by omega, hX4, (by rw [hms]; exact hG), rfl, rfl⟩ (by repeat (first | exact Sub.nil | refine Sub.cons rfl ?_))
  obtain rfl : i = 6 := by omega
  have hXX := (((hX1.trans' hX2).trans' hX3).trans' hX4)
  by_cases he : maskR m 6 = []
  · have hcr : cntR (nx p q) m = [1 + nx p q / 3 % 6] := if_pos he
    rw [hcr]
    rw [he] at hG ⊢
    refine T.seq <| T.seq <| T.region <| SL.mv rfl <| SL.mv rfl <| SL.v (op_leqF rfl rfl (by omega)) ?_
    refine SL.nil <| T.condF rfl ?_
    refine T.exit (T.exitCode (T.exitCut (T.exitBlk ?_)))
    refine T.seq <| T.seq <| T.region <| SL.v (op_fieldAddr fa27_2 rfl) <| SL.v (op_load ty24 rfl (by repeat constructor) rfl) ?_
    refine SL.v (op_lenS Tryz.underlying24 rfl) <| SL.v (op_eql rfl rfl) <| SL.nil <| T.condT rfl <| T.region <| SL.mv rfl <| SL.v (op_quoN (p := nx p q) (q := 3) rfl rfl rfl (by omega) (by omega)) ?_
    refine SL.mv rfl <| SL.v (op_remN (p := nx p q / 3) (q := 6) rfl rfl rfl (by omega)) ?_
    refine SL.v (op_addN (p := 1) (q := nx p q / 3 % 6) rfl rfl (by omega)) ?_
    refine SL.w (op_buildSlice Tryz.underlying24 bs3 (qs := [(0, _)]) rfl rfl rfl rfl rfl) ?_
    rintro _ _ _ ⟨B85, rfl, rfl, rfl⟩
    refine SL.v (op_fieldAddr fa27_2 rfl) <| SL.w (op_store ty24 rfl rfl (by repeat constructor) rfl rfl rfl) ?_
    rintro _ _ _ ⟨rfl, rfl⟩
    refine SL.nil <| T.seq <| T.region <| SL.v (op_load ty27 rfl (by repeat constructor) rfl) ?_
    refine SL.w (op_store ty27 rfl rfl (by repeat constructor) rfl rfl rfl) ?_
    rintro _ _ _ ⟨rfl, rfl⟩
    refine SL.nil <| T.pub B85 (by repeat constructor) ?_
    intro X5 hX5 hB85 _
    refine T.retM1S [_] _ rfl (ResIs.cell rfl ty27 (by repeat constructor) rfl) (.cons _ (.cons _ (.cons_cons _ (List.sublist_append_right _ _)))) (List.Perm.refl _) ?_
    exact ⟨hXX.trans' hX5, _, rfl, _, rfl, fmLeaf (op := 5) (ints1 hB85), rfl⟩
  · have hcr : cntR (nx p q) m = maskR m 6 := if_neg he
    have hlp := List.length_pos_iff.2 he
    rw [hcr]
    refine T.seq <| T.seq <| T.region <| SL.mv rfl <| SL.mv rfl <| SL.v (op_leqF rfl rfl (by omega)) ?_
    refine SL.nil <| T.condF rfl ?_
    refine T.exit (T.exitCode (T.exitCut (T.exitBlk ?_)))
    refine T.seq <| T.seq <| T.region <| SL.v (op_fieldAddr fa27_2 rfl) <| SL.v (op_load ty24 rfl (by repeat constructor) rfl) ?_
    refine SL.v (op_lenS Tryz.underlying24 rfl) <| SL.v (op_eqlF rfl rfl (by omega)) ?_
    refine SL.nil <| T.condF rfl <| T.skip <| T.seq <| T.region <| SL.v (op_load ty27 rfl (by repeat constructor) rfl) ?_
    refine SL.w (op_store ty27 rfl rfl (by repeat constructor) rfl rfl rfl) ?_
    rintro _ _ _ ⟨rfl, rfl⟩
    refine SL.nil <| T.perm perm3o ?_
    refine T.pubG (own0 := _ :: _ :: _ :: own0) hG ?_
    intro X5 hX5 hS5
    refine T.retM1S [_] _ rfl (ResIs.cell rfl ty27 (by repeat constructor) rfl) (.cons _ (.cons _ (.refl _))) (List.Perm.refl _) ?_
    exact ⟨hXX.trans' hX5, _, rfl, _, rfl, fmLeaf (op := 5) (IntsR.ofG hG hS5), rfl⟩
end Go.Proofs.YtnpcilglilfajaaGreatDoor
namespace Go.Proofs.YtnpcilglilfajaaGreatDoor
section
set_option maxRecDepth 100000
theorem en115 : Enters Tryz.prog 115 := enters_mk Tryz.func115 (by kernel_rfl) rfl
theorem en160 : Enters Tryz.prog 160 := enters_mk Tryz.func160 (by kernel_rfl) rfl
theorem en68 : Enters Tryz.prog 68 := enters_mk Tryz.func68 (by kernel_rfl) rfl
theorem fa46_0 : FAdr Tryz.prog 46 0 0 := fadr_mk Tryz.underlying46 rfl rfl (by kernel_rfl)
theorem fa46_1 : FAdr Tryz.prog 46 1 1 := fadr_mk Tryz.underlying46 rfl rfl (by kernel_rfl)
theorem z203 : Zero Tryz.prog 203 [.slice none 0 0, .int .i64 0] := ⟨zero_of (by kernel_rfl)⟩
theorem st203 : StT Tryz.prog 203 [(0, 1), (1, 1)] [.slice none 0 0, .int .i64 0] := ⟨⟨_, Tryz.underlying203, fun _ => by kernel_rfl, z203⟩⟩
end
open Go.RowKit
theorem fmOne {k : IntKind} {X : PMap} {op : Nat} {n : Int} {b : Nat} {a : Fm} {ra : Row4} (h : Blk X b [ra.1, ra.2.1, ra.2.2.1, ra.2.2.2]) (ha : FmR k X a ra) : FmR k X (.mk op n [] [a]) (.int k (op : Int), .int .i64 n, .slice none 0 0, .slice (some ⟨b, 0, none⟩) 1 1) := .mk (rows := [ra]) IntsR.nil (.inr ⟨Nat.zero_lt_one, b, 1, [], rfl, h, Nat.le_refl _, by (have : maxLen = 9223372036854775807 := rfl); omega⟩) rfl (fun i x r h1 h2 => by
  match i with
  | 0 => simp at h1 h2; subst h1 h2; exact ha
  | i + 1 => simp at h1)
theorem pow_half {d : Nat} (h : 1 ≤ d) : 2 ^ d = 2 * 2 ^ (d - 1) := by
  obtain ⟨e, rfl⟩ : ∃ e, d = e + 1 := ⟨d - 1, by omega⟩
  rw [Nat.add_sub_cancel, Nat.pow_succ, Nat.mul_comm]
theorem cmpS_spec {kind x d : Nat} {X : PMap} {b c q : Nat} {A : Option Addr} {p : List Nat} (h : BytesR X (.slice A p.length c) p) (hb : ∀ x ∈ p, x < 256) (hl : p.length < 1000000) (hd : 1 ≤ d) (hq : q + 3 * 2 ^ d ≤ 1000000) : SpecM Tryz.prog 160 [.pointer (some ⟨b, 0, none⟩), .int .i64 (x : Int), .int .i64 (d : Int), .int .i64 (kind : Int), .int .i64 6] X [SrcO b A p.length c q] fun u L' X' => ∃ x', L' = [x'] ∧ ∃ r : Row4, u = .agg #[r.1, r.2.1, r.2.2.1, r.2.2.2] ∧ FmR .i64 X' (cmpS p kind x d q).1 r ∧ x' = SrcO b A p.length c (cmpS p kind x d q).2 := by
  have hmx : maxLen = 9223372036854775807 := rfl
  have e2 := pow_half hd
  have hp2 : 1 ≤ 2 ^ (d - 1) := Nat.one_le_two_pow
  have hd2 : d < 2 ^ d := Nat.lt_two_pow_self
  have hle := numS_le p kind (d - 1) q
  rw [cmpS]
  refine SpecM.enter Tryz.func160 rfl Tryz.ntmps160 rfl ?_
  intro w0 X0 own0
  refine T.seq <| T.region <| SL.w (op_alloc z27) ?_
  rintro _ _ _ ⟨B10, rfl, rfl, rfl⟩
  refine SL.nil <| T.seq <| T.region <| SL.mv rfl <| SL.mv rfl <| SL.v (op_subN (p := d) (q := 1) rfl rfl (by omega) (by omega)) ?_
  refine SL.mv rfl <| SL.mv rfl <| SL.w (op_callJ en191 rfl (vs := [_, _, _, _]) rfl (numS_spec (d - 1) (q := q) h hb hl (by omega)) (by repeat constructor)) ?_
  rintro _ _ X1 ⟨_, rfl, hX1, r1, rfl, hr1, rfl⟩
  obtain ⟨o1, n1, a1, b1, l1, c1, l2, c2, rfl⟩ := hr1.form
  refine SL.w (op_alloc z27) ?_
  rintro _ _ _ ⟨B11, rfl, rfl, rfl⟩
  refine SL.w (op_store ty27 rfl rfl (by repeat constructor) rfl rfl rfl) ?_
  rintro _ _ _ ⟨rfl, rfl⟩
  refine SL.nil <| T.seq <| T.region <| SL.mv rfl <| SL.mv rfl <| SL.v (op_subN (p := d) (q := 1) rfl rfl (by omega) (by omega)) ?_
  refine SL.mv rfl <| SL.mv rfl <| SL.w (op_callJ en191 rfl (vs := [_, _, _, _]) rfl (numS_spec (d - 1) (q := (numS p kind (d - 1) q).2) (h.mono hX1) hb hl (by omega)) (by repeat constructor)) ?_
  rintro _ _ X2 ⟨_, rfl, hX2, r2, rfl, hr2, rfl⟩
  obtain ⟨o3, n3, a3, b3, l3, c3, l4, c4, rfl⟩ := hr2.form
  refine SL.w (op_alloc z27) ?_
  rintro _ _ _ ⟨B12, rfl, rfl, rfl⟩
  refine SL.w (op_store ty27 rfl rfl (by repeat constructor) rfl rfl rfl) ?_
  rintro _ _ _ ⟨rfl, rfl⟩
  refine SL.nil <| T.seq <| T.region <| SL.mv rfl <| SL.v (op_remN (p := x) (q := 5) rfl rfl rfl (by omega)) ?_
  refine SL.v (op_addN (p := 11) (q := x % 5) rfl rfl (by have : x % 5 < 5 := Nat.mod_lt _ (by omega); omega)) ?_
  refine SL.v (op_load ty27 rfl (by repeat constructor) rfl) ?_
  refine SL.v (op_load ty27 rfl (by repeat constructor) rfl) ?_
  refine SL.w (op_buildSlice Tryz.underlying25 bs27 (qs := [(0, _), (1, _)]) rfl rfl rfl rfl rfl) ?_
  rintro _ _ _ ⟨B30, rfl, rfl, rfl⟩
  refine SL.v (op_build st27 (qs := [(0, _), (3, _)]) rfl rfl) <| SL.w (op_store ty27 rfl rfl (by repeat constructor) rfl rfl rfl) ?_
  rintro _ _ _ ⟨rfl, rfl⟩
  refine SL.nil <| T.pub B30 (by repeat constructor) ?_
  intro X3 hX3 hB30 _
  refine T.retM1S [_] _ rfl (ResIs.cell rfl ty27 (by repeat constructor) rfl) (.cons _ (.cons _ (.cons _ (.refl _)))) (List.Perm.refl _) ?_
  exact ⟨(hX1.trans' hX2).trans' hX3, _, rfl, _, rfl, fmTwo (op := 11 + x % 5) (row2 hB30) ((hr1.mono hX2).mono hX3) (hr2.mono hX3), rfl⟩
theorem truS_leaf {p : List Nat} {kind d q : Nat} (h : d ≤ 1 ∨ nx p q % 8 ≤ 1) : truS p kind d q = truLeaf p kind (nx p q) d (q + 1) := by
  cases d with
  | zero => rfl
  | succ d => rw [truS, if_pos (by omega)]
theorem truS_cmp {p : List Nat} {kind d q : Nat} (h : ¬(d ≤ 1 ∨ nx p q % 8 ≤ 1)) (h6 : 6 ≤ nx p q % 8) : truS p kind d q = cmpS p kind (nx p q / 8) d (q + 1) := by
  obtain ⟨e, rfl⟩ : ∃ e, d = e + 1 := ⟨d - 1, by omega⟩
  rw [truS, if_neg (by omega), if_pos h6]
theorem truS_not {p : List Nat} {kind d q : Nat} (h : ¬(d ≤ 1 ∨ nx p q % 8 ≤ 1)) (h6 : nx p q % 8 = 2) : truS p kind d q = (.mk 7 0 [] [(truS p kind (d - 1) (q + 1)).1], (truS p kind (d - 1) (q + 1)).2) := by
  obtain ⟨e, rfl⟩ : ∃ e, d = e + 1 := ⟨d - 1, by omega⟩
  rw [truS, if_neg (by omega), if_neg (by omega), if_pos h6, Nat.add_sub_cancel]
theorem truS_bin {p : List Nat} {kind d q : Nat} (h : ¬(d ≤ 1 ∨ nx p q % 8 ≤ 1)) (h6 : ¬6 ≤ nx p q % 8) (h2 : nx p q % 8 ≠ 2) : truS p kind d q = (.mk (8 + nx p q % 8 - 3) 0 [] [(truS p kind (d - 1) (q + 1)).1, (truS p kind (d - 1) (truS p kind (d - 1) (q + 1)).2).1], (truS p kind (d - 1) (truS p kind (d - 1) (q + 1)).2).2) := by
  obtain ⟨e, rfl⟩ : ∃ e, d = e + 1 := ⟨d - 1, by omega⟩
  rw [truS, if_neg (by omega), if_neg h6, if_neg h2, Nat.add_sub_cancel]
theorem truS_spec {kind : Nat} (d : Nat) : ∀ {X : PMap} {b c q : Nat} {A : Option Addr} {p : List Nat}, BytesR X (.slice A p.length c) p → (∀ x ∈ p, x < 256) → p.length < 1000000 → q + 3 * 2 ^ d < 1000000 → SpecM Tryz.prog 115 [.pointer (some ⟨b, 0, none⟩), .int .i64 (d : Int), .int .i64 (kind : Int), .int .i64 6] X [SrcO b A p.length c q] fun u L' X' => ∃ x', L' = [x'] ∧ ∃ r : Row4, u = .agg #[r.1, r.2.1, r.2.2.1, r.2.2.2] ∧ FmR .i64 X' (truS p kind d q).1 r ∧ x' = SrcO b A p.length c (truS p kind d q).2 := by
  induction d using Nat.strongRecOn with
  | _ d ih =>
  intro X b c q A p h hb hl hq
  have hmx : maxLen = 9223372036854775807 := rfl
  have hp2 : 1 ≤ 2 ^ d := Nat.one_le_two_pow
  have hx := nx_lt hb q
  have hd2 : d < 2 ^ d := Nat.lt_two_pow_self
  by_cases hlf : d ≤ 1 ∨ nx p q % 8 ≤ 1
  · rw [truS_leaf hlf, truLeaf]
    refine SpecM.enter Tryz.func115 rfl Tryz.ntmps115 rfl ?_
    intro w0 X0 own0
    refine T.seq <| T.region <| SL.w (op_alloc z27) ?_
    rintro _ _ _ ⟨B8, rfl, rfl, rfl⟩
    refine SL.nil <| T.seq <| T.region <| SL.mv rfl <| SL.w (op_callJ en159 rfl (vs := [_]) rfl (next_spec18 (q := q) h hb (by omega) hl) (by repeat constructor)) ?_
    rintro _ _ X1 ⟨_, rfl, hX1, rfl, rfl⟩
    by_cases hd1 : d ≤ 1
    · skip
      refine SL.as rfl <| SL.nil <| T.seq <| T.seq <| T.region <| SL.mv rfl <| SL.v (op_leqT rfl rfl (by omega)) ?_
      refine SL.mv rfl <| SL.skip rfl rfl ?_
      refine SL.skip rfl rfl ?_
      by_cases hk : kind = 3
      · rw [if_neg (by omega), if_pos (.inl hk)]
        refine SL.skip rfl rfl ?_
        refine SL.v (op_pickT rfl rfl) <| SL.nil <| T.condT rfl <| T.seq <| T.block <| T.seq <| T.region <| SL.mv rfl <| SL.v (op_eqlT rfl rfl (by omega)) ?_
        refine SL.mv rfl <| SL.mv rfl <| SL.v (op_gtrF rfl rfl (by omega)) ?_
        refine SL.v (op_pickT rfl rfl) <| SL.as rfl <| SL.nil <| T.condF rfl <| T.seq <| T.region <| SL.mv rfl <| SL.v (op_eqlT rfl rfl (by omega)) ?_
        refine SL.mv rfl <| SL.skip rfl rfl ?_
        refine SL.skip rfl rfl ?_
        refine SL.skip rfl rfl ?_
        refine SL.v (op_pickT rfl rfl) <| SL.as rfl <| SL.nil <| T.condT rfl <| T.seq <| T.region <| SL.mv rfl <| SL.v (op_quoN (p := nx p q) (q := 16) rfl rfl rfl (by omega) (by omega)) ?_
        refine SL.v (op_remN (p := nx p q / 16) (q := 2) rfl rfl rfl (by omega)) ?_
        refine SL.v (op_addN (p := 2) (q := nx p q / 16 % 2) rfl rfl (by omega)) ?_
        refine SL.v (op_build st27 (qs := [(0, _)]) rfl rfl) <| SL.w (op_store ty27 rfl rfl (by repeat constructor) rfl rfl rfl) ?_
        rintro _ _ _ ⟨rfl, rfl⟩
        refine SL.nil <| T.retM1S [_] _ rfl (ResIs.cell rfl ty27 (by repeat constructor) rfl) (.cons _ (.refl _)) (List.Perm.refl _) ?_
        exact ⟨hX1, _, rfl, _, rfl, fmLeaf (op := 2 + nx p q / 16 % 2) IntsR.nil, rfl⟩
      by_cases h16 : nx p q % 16 = 9
      · rw [if_neg (fun h => hk h.1), if_pos (.inr h16)]
        refine SL.skip rfl rfl ?_
        refine SL.v (op_pickT rfl rfl) <| SL.nil <| T.condT rfl <| T.seq <| T.block <| T.seq <| T.region <| SL.mv rfl <| SL.v (op_eqlF rfl rfl (by omega)) ?_
        refine SL.mv rfl <| SL.skip rfl rfl ?_
        refine SL.skip rfl rfl ?_
        refine SL.v (op_pickF rfl rfl) <| SL.as rfl <| SL.nil <| T.condF rfl <| T.seq <| T.region <| SL.mv rfl <| SL.v (op_eqlF rfl rfl (by omega)) ?_
        refine SL.mv rfl <| SL.mv rfl <| SL.v (op_remN (p := nx p q) (q := 16) rfl rfl rfl (by omega)) ?_
        refine SL.v (op_eqlT rfl rfl (by omega)) ?_
        refine SL.v (op_pickF rfl rfl) <| SL.as rfl <| SL.nil <| T.condT rfl <| T.seq <| T.region <| SL.mv rfl <| SL.v (op_quoN (p := nx p q) (q := 16) rfl rfl rfl (by omega) (by omega)) ?_
        refine SL.v (op_remN (p := nx p q / 16) (q := 2) rfl rfl rfl (by omega)) ?_
        refine SL.v (op_addN (p := 2) (q := nx p q / 16 % 2) rfl rfl (by omega)) ?_
        refine SL.v (op_build st27 (qs := [(0, _)]) rfl rfl) <| SL.w (op_store ty27 rfl rfl (by repeat constructor) rfl rfl rfl) ?_
        rintro _ _ _ ⟨rfl, rfl⟩
        refine SL.nil <| T.retM1S [_] _ rfl (ResIs.cell rfl ty27 (by repeat constructor) rfl) (.cons _ (.refl _)) (List.Perm.refl _) ?_
        exact ⟨hX1, _, rfl, _, rfl, fmLeaf (op := 2 + nx p q / 16 % 2) IntsR.nil, rfl⟩
      · rw [if_neg (fun h => hk h.1), if_neg (fun h => h.elim hk h16)]
        refine SL.skip rfl rfl ?_
        refine SL.v (op_pickT rfl rfl) <| SL.nil <| T.condT rfl <| T.seq <| T.block <| T.seq <| T.region <| SL.mv rfl <| SL.v (op_eqlF rfl rfl (by omega)) ?_
        refine SL.mv rfl <| SL.skip rfl rfl ?_
        refine SL.skip rfl rfl ?_
        refine SL.v (op_pickF rfl rfl) <| SL.as rfl <| SL.nil <| T.condF rfl <| T.seq <| T.region <| SL.mv rfl <| SL.v (op_eqlF rfl rfl (by omega)) ?_
        refine SL.mv rfl <| SL.mv rfl <| SL.v (op_remN (p := nx p q) (q := 16) rfl rfl rfl (by omega)) ?_
        refine SL.v (op_eqlF rfl rfl (by omega)) ?_
        refine SL.v (op_pickF rfl rfl) <| SL.as rfl <| SL.nil <| T.condF rfl <| T.skip <| T.blk <| T.seq <| T.region <| SL.mv rfl <| SL.v (op_quoN (p := nx p q) (q := 8) rfl rfl rfl (by omega) (by omega)) ?_
        refine SL.mv rfl <| SL.v (op_remN (p := nx p q / 8) (q := 6) rfl rfl rfl (by omega)) ?_
        refine SL.v (op_addN (p := 1) (q := nx p q / 8 % 6) rfl rfl (by omega)) ?_
        refine SL.w (op_buildSlice Tryz.underlying24 bs3 (qs := [(0, _)]) rfl rfl rfl rfl rfl) ?_
        rintro _ _ _ ⟨B53, rfl, rfl, rfl⟩
        refine SL.v (op_build st27 (qs := [(0, _), (2, _)]) rfl rfl) <| SL.w (op_store ty27 rfl rfl (by repeat constructor) rfl rfl rfl) ?_
        rintro _ _ _ ⟨rfl, rfl⟩
        refine SL.nil <| T.pub B53 (by repeat constructor) ?_
        intro X2 hX2 hB53 _
        refine T.retM1S [_] _ rfl (ResIs.cell rfl ty27 (by repeat constructor) rfl) (.cons _ (.refl _)) (List.Perm.refl _) ?_
        exact ⟨hX1.trans' hX2, _, rfl, _, rfl, fmLeaf (op := 4) (ints1 hB53), rfl⟩
    · refine SL.as rfl <| SL.nil <| T.seq <| T.seq <| T.region <| SL.mv rfl <| SL.v (op_leqF rfl rfl (by omega)) ?_
      refine SL.mv rfl <| SL.mv rfl <| SL.v (op_remN (p := nx p q) (q := 8) rfl rfl rfl (by omega)) ?_
      by_cases hk : kind = 3
      · rw [if_pos ⟨hk, by omega⟩]
        refine SL.v (op_leqT rfl rfl (by omega)) ?_
        refine SL.v (op_pickF rfl rfl) <| SL.nil <| T.condT rfl <| T.seq <| T.block <| T.seq <| T.region <| SL.mv rfl <| SL.v (op_eqlT rfl rfl (by omega)) ?_
        refine SL.mv rfl <| SL.mv rfl <| SL.v (op_gtrT rfl rfl (by omega)) ?_
        refine SL.v (op_pickT rfl rfl) <| SL.as rfl <| SL.nil <| T.condT rfl <| T.seq <| T.region <| SL.mv rfl <| SL.mv rfl <| SL.v (op_quoN (p := nx p q) (q := 8) rfl rfl rfl (by omega) (by omega)) ?_
        refine SL.mv rfl <| SL.mv rfl <| SL.mv rfl <| SL.w (op_callJ en160 rfl (vs := [_, _, _, _, _]) rfl (cmpS_spec (q := q + 1) (h.mono hX1) hb hl (by omega) (by omega)) (by repeat constructor)) ?_
        rintro _ _ X2 ⟨_, rfl, hX2, r2, rfl, hr2, rfl⟩
        obtain ⟨o3, n3, a3, b3, l3, c3, l4, c4, rfl⟩ := hr2.form
        refine SL.w (op_store ty27 rfl rfl (by repeat constructor) rfl rfl rfl) ?_
        rintro _ _ _ ⟨rfl, rfl⟩
        refine SL.nil <| T.retM1S [_] _ rfl (ResIs.cell rfl ty27 (by repeat constructor) rfl) (.cons _ (.refl _)) (List.Perm.refl _) ?_
        exact ⟨hX1.trans' hX2, _, rfl, _, rfl, hr2, rfl⟩
      by_cases h16 : nx p q % 16 = 9
      · rw [if_neg (fun h => hk h.1), if_pos (.inr h16)]
        refine SL.v (op_leqT rfl rfl (by omega)) ?_
        refine SL.v (op_pickF rfl rfl) <| SL.nil <| T.condT rfl <| T.seq <| T.block <| T.seq <| T.region <| SL.mv rfl <| SL.v (op_eqlF rfl rfl (by omega)) ?_
        refine SL.mv rfl <| SL.skip rfl rfl ?_
        refine SL.skip rfl rfl ?_
        refine SL.v (op_pickF rfl rfl) <| SL.as rfl <| SL.nil <| T.condF rfl <| T.seq <| T.region <| SL.mv rfl <| SL.v (op_eqlF rfl rfl (by omega)) ?_
        refine SL.mv rfl <| SL.mv rfl <| SL.v (op_remN (p := nx p q) (q := 16) rfl rfl rfl (by omega)) ?_
        refine SL.v (op_eqlT rfl rfl (by omega)) ?_
        refine SL.v (op_pickF rfl rfl) <| SL.as rfl <| SL.nil <| T.condT rfl <| T.seq <| T.region <| SL.mv rfl <| SL.v (op_quoN (p := nx p q) (q := 16) rfl rfl rfl (by omega) (by omega)) ?_
        refine SL.v (op_remN (p := nx p q / 16) (q := 2) rfl rfl rfl (by omega)) ?_
        refine SL.v (op_addN (p := 2) (q := nx p q / 16 % 2) rfl rfl (by omega)) ?_
        refine SL.v (op_build st27 (qs := [(0, _)]) rfl rfl) <| SL.w (op_store ty27 rfl rfl (by repeat constructor) rfl rfl rfl) ?_
        rintro _ _ _ ⟨rfl, rfl⟩
        refine SL.nil <| T.retM1S [_] _ rfl (ResIs.cell rfl ty27 (by repeat constructor) rfl) (.cons _ (.refl _)) (List.Perm.refl _) ?_
        exact ⟨hX1, _, rfl, _, rfl, fmLeaf (op := 2 + nx p q / 16 % 2) IntsR.nil, rfl⟩
      · rw [if_neg (fun h => hk h.1), if_neg (fun h => h.elim hk h16)]
        refine SL.v (op_leqT rfl rfl (by omega)) ?_
        refine SL.v (op_pickF rfl rfl) <| SL.nil <| T.condT rfl <| T.seq <| T.block <| T.seq <| T.region <| SL.mv rfl <| SL.v (op_eqlF rfl rfl (by omega)) ?_
        refine SL.mv rfl <| SL.skip rfl rfl ?_
        refine SL.skip rfl rfl ?_
        refine SL.v (op_pickF rfl rfl) <| SL.as rfl <| SL.nil <| T.condF rfl <| T.seq <| T.region <| SL.mv rfl <| SL.v (op_eqlF rfl rfl (by omega)) ?_
        refine SL.mv rfl <| SL.mv rfl <| SL.v (op_remN (p := nx p q) (q := 16) rfl rfl rfl (by omega)) ?_
        refine SL.v (op_eqlF rfl rfl (by omega)) ?_
        refine SL.v (op_pickF rfl rfl) <| SL.as rfl <| SL.nil <| T.condF rfl <| T.skip <| T.blk <| T.seq <| T.region <| SL.mv rfl <| SL.v (op_quoN (p := nx p q) (q := 8) rfl rfl rfl (by omega) (by omega)) ?_
        refine SL.mv rfl <| SL.v (op_remN (p := nx p q / 8) (q := 6) rfl rfl rfl (by omega)) ?_
        refine SL.v (op_addN (p := 1) (q := nx p q / 8 % 6) rfl rfl (by omega)) ?_
        refine SL.w (op_buildSlice Tryz.underlying24 bs3 (qs := [(0, _)]) rfl rfl rfl rfl rfl) ?_
        rintro _ _ _ ⟨B53, rfl, rfl, rfl⟩
        refine SL.v (op_build st27 (qs := [(0, _), (2, _)]) rfl rfl) <| SL.w (op_store ty27 rfl rfl (by repeat constructor) rfl rfl rfl) ?_
        rintro _ _ _ ⟨rfl, rfl⟩
        refine SL.nil <| T.pub B53 (by repeat constructor) ?_
        intro X2 hX2 hB53 _
        refine T.retM1S [_] _ rfl (ResIs.cell rfl ty27 (by repeat constructor) rfl) (.cons _ (.refl _)) (List.Perm.refl _) ?_
        exact ⟨hX1.trans' hX2, _, rfl, _, rfl, fmLeaf (op := 4) (ints1 hB53), rfl⟩
  · have hd1 : ¬d ≤ 1 := fun h => hlf (.inl h)
    have e2 := pow_half (show 1 ≤ d by omega)
    have hle := truS_le p kind (d - 1) (q + 1)
    have h8 : nx p q % 8 < 8 := Nat.mod_lt _ (by omega)
    refine SpecM.enter Tryz.func115 rfl Tryz.ntmps115 rfl ?_
    intro w0 X0 own0
    refine T.seq <| T.region <| SL.w (op_alloc z27) ?_
    rintro _ _ _ ⟨B8, rfl, rfl, rfl⟩
    refine SL.nil <| T.seq <| T.region <| SL.mv rfl <| SL.w (op_callJ en159 rfl (vs := [_]) rfl (next_spec18 (q := q) h hb (by omega) hl) (by repeat constructor)) ?_
    rintro _ _ X1 ⟨_, rfl, hX1, rfl, rfl⟩
    refine SL.as rfl <| SL.nil <| T.seq <| T.seq <| T.region <| SL.mv rfl <| SL.v (op_leqF rfl rfl (by omega)) ?_
    refine SL.mv rfl <| SL.mv rfl <| SL.v (op_remN (p := nx p q) (q := 8) rfl rfl rfl (by omega)) ?_
    refine SL.v (op_leqF rfl rfl (by omega)) ?_
    refine SL.v (op_pickF rfl rfl) <| SL.nil <| T.condF rfl <| T.skip <| T.seq <| T.seq <| T.region <| SL.mv rfl <| SL.v (op_remN (p := nx p q) (q := 8) rfl rfl rfl (by omega)) ?_
    by_cases h6 : 6 ≤ nx p q % 8
    · rw [truS_cmp hlf h6]
      refine SL.v (op_geqT rfl rfl (by omega)) ?_
      refine SL.nil <| T.condT rfl <| T.seq <| T.region <| SL.mv rfl <| SL.mv rfl <| SL.v (op_quoN (p := nx p q) (q := 8) rfl rfl rfl (by omega) (by omega)) ?_
      refine SL.mv rfl <| SL.mv rfl <| SL.mv rfl <| SL.w (op_callJ en160 rfl (vs := [_, _, _, _, _]) rfl (cmpS_spec (q := q + 1) (h.mono hX1) hb hl (by omega) (by omega)) (by repeat constructor)) ?_
      rintro _ _ X2 ⟨_, rfl, hX2, r2, rfl, hr2, rfl⟩
      obtain ⟨o3, n3, a3, b3, l3, c3, l4, c4, rfl⟩ := hr2.form
      refine SL.w (op_store ty27 rfl rfl (by repeat constructor) rfl rfl rfl) ?_
      rintro _ _ _ ⟨rfl, rfl⟩
      refine SL.nil <| T.retM1S [_] _ rfl (ResIs.cell rfl ty27 (by repeat constructor) rfl) (.cons _ (.refl _)) (List.Perm.refl _) ?_
      exact ⟨hX1.trans' hX2, _, rfl, _, rfl, hr2, rfl⟩
    refine SL.v (op_geqF rfl rfl (by omega)) ?_
    refine SL.nil <| T.condF rfl <| T.skip <| T.seq <| T.region <| SL.mv rfl <| SL.mv rfl <| SL.v (op_subN (p := d) (q := 1) rfl rfl (by omega) (by omega)) ?_
    refine SL.mv rfl <| SL.mv rfl <| SL.w (op_callJ en115 rfl (vs := [_, _, _, _]) rfl (ih (d - 1) (by omega) (q := q + 1) (h.mono hX1) hb hl (by omega)) (by repeat constructor)) ?_
    rintro _ _ X2 ⟨_, rfl, hX2, r1, rfl, hr1, rfl⟩
    obtain ⟨o1, n1, a1, b1, l1, c1, l2, c2, rfl⟩ := hr1.form
    refine SL.w (op_alloc z27) ?_
    rintro _ _ _ ⟨B10, rfl, rfl, rfl⟩
    refine SL.w (op_store ty27 rfl rfl (by repeat constructor) rfl rfl rfl) ?_
    rintro _ _ _ ⟨rfl, rfl⟩
    refine SL.nil <| T.seq <| T.seq <| T.region <| SL.mv rfl <| SL.v (op_remN (p := nx p q) (q := 8) rfl rfl rfl (by omega)) ?_
    by_cases h2 : nx p q % 8 = 2
    · rw [truS_not hlf h2]
      refine SL.v (op_eqlT rfl rfl (by omega)) ?_
      refine SL.nil <| T.condT rfl <| T.seq <| T.region <| SL.v (op_load ty27 rfl (by repeat constructor) rfl) ?_
      refine SL.w (op_buildSlice Tryz.underlying25 bs27 (qs := [(0, _)]) rfl rfl rfl rfl rfl) ?_
      rintro _ _ _ ⟨B75, rfl, rfl, rfl⟩
      refine SL.v (op_build st27 (qs := [(0, _), (3, _)]) rfl rfl) <| SL.w (op_store ty27 rfl rfl (by repeat constructor) rfl rfl rfl) ?_
      rintro _ _ _ ⟨rfl, rfl⟩
      refine SL.nil <| T.pub B75 (by repeat constructor) ?_
      intro X3 hX3 hB75 _
      refine T.retM1S [_] _ rfl (ResIs.cell rfl ty27 (by repeat constructor) rfl) (.cons _ (.cons _ (.refl _))) (List.Perm.refl _) ?_
      exact ⟨(hX1.trans' hX2).trans' hX3, _, rfl, _, rfl, fmOne (op := 7) hB75 (hr1.mono hX3), rfl⟩
    rw [truS_bin hlf h6 h2]
    refine SL.v (op_eqlF rfl rfl (by omega)) ?_
    refine SL.nil <| T.condF rfl <| T.skip <| T.seq <| T.region <| SL.mv rfl <| SL.mv rfl <| SL.v (op_subN (p := d) (q := 1) rfl rfl (by omega) (by omega)) ?_
    refine SL.mv rfl <| SL.mv rfl <| SL.w (op_callJ en115 rfl (vs := [_, _, _, _]) rfl (ih (d - 1) (by omega) (q := (truS p kind (d - 1) (q + 1)).2) ((h.mono hX1).mono hX2) hb hl (by omega)) (by repeat constructor)) ?_
    rintro _ _ X3 ⟨_, rfl, hX3, r2, rfl, hr2, rfl⟩
    obtain ⟨o3, n3, a3, b3, l3, c3, l4, c4, rfl⟩ := hr2.form
    refine SL.w (op_alloc z27) ?_
    rintro _ _ _ ⟨B11, rfl, rfl, rfl⟩
    refine SL.w (op_store ty27 rfl rfl (by repeat constructor) rfl rfl rfl) ?_
    rintro _ _ _ ⟨rfl, rfl⟩
    refine SL.nil <| T.seq <| T.region <| SL.mv rfl <| SL.v (op_remN (p := nx p q) (q := 8) rfl rfl rfl (by omega)) ?_
    refine SL.v (op_addN (p := 8) (q := nx p q % 8) rfl rfl (by omega)) ?_
    refine SL.v (op_subN (p := 8 + nx p q % 8) (q := 3) rfl rfl (by omega) (by omega)) ?_
    refine SL.v (op_load ty27 rfl (by repeat constructor) rfl) ?_
    refine SL.v (op_load ty27 rfl (by repeat constructor) rfl) ?_
    refine SL.w (op_buildSlice Tryz.underlying25 bs27 (qs := [(0, _), (1, _)]) rfl rfl rfl rfl rfl) ?_
    rintro _ _ _ ⟨B89, rfl, rfl, rfl⟩
    refine SL.v (op_build st27 (qs := [(0, _), (3, _)]) rfl rfl) <| SL.w (op_store ty27 rfl rfl (by repeat constructor) rfl rfl rfl) ?_
    rintro _ _ _ ⟨rfl, rfl⟩
    refine SL.nil <| T.pub B89 (by repeat constructor) ?_
    intro X4 hX4 hB89 _
    refine T.retM1S [_] _ rfl (ResIs.cell rfl ty27 (by repeat constructor) rfl) (.cons _ (.cons _ (.cons _ (.refl _)))) (List.Perm.refl _) ?_
    exact ⟨((hX1.trans' hX2).trans' hX3).trans' hX4, _, rfl, _, rfl, fmTwo (op := 8 + nx p q % 8 - 3) (row2 hB89) ((hr1.mono hX3).mono hX4) (hr2.mono hX4), rfl⟩
theorem mkS_spec {kind : Nat} {X : PMap} {v : Value} {p : List Nat} (h : BytesR X v p) (hb : ∀ x ∈ p, x < 256) (hl : p.length < 1000000) : Spec Tryz.prog 68 [v, .int .i64 (kind : Int), .int .i64 6] X fun u X' => ∃ r : Row4, u = .agg #[r.1, r.2.1, r.2.2.1, r.2.2.2] ∧ FmR .i64 X' (mkS p kind) r := by
  obtain ⟨A, c, rfl⟩ := h.form
  refine Spec.enter Tryz.func68 rfl Tryz.ntmps68 rfl ?_
  intro w0 hw0
  refine T.seq <| T.region <| SL.w (op_alloc z27) ?_
  rintro _ _ _ ⟨B6, rfl, rfl, rfl⟩
  refine SL.nil <| T.seq <| T.region <| SL.mv rfl <| SL.v (op_build st203 (qs := [(0, _)]) rfl rfl) <| SL.w (op_box rfl) ?_
  rintro _ _ _ ⟨B10, rfl, rfl, rfl⟩
  refine SL.as rfl <| SL.nil <| T.seq <| T.region <| SL.mv rfl <| SL.mv rfl <| SL.mv rfl <| SL.w (op_callJ en115 rfl (vs := [_, _, _, _]) rfl (truS_spec (kind := kind) 4 (q := 0) h hb hl (by decide)) (by repeat constructor)) ?_
  rintro _ _ X1 ⟨_, rfl, hX1, r, rfl, hr, rfl⟩
  obtain ⟨o3, n3, a3, b3, l3, c3, l4, c4, rfl⟩ := hr.form
  refine SL.w (op_store ty27 rfl rfl (by repeat constructor) rfl rfl rfl) ?_
  rintro _ _ _ ⟨rfl, rfl⟩
  refine SL.nil <| T.ret1 rfl (ResIs.cell rfl ty27 (by repeat constructor) rfl) ?_
  exact ⟨_, rfl, hr⟩
/-- The kind that a Raw stands for, and its formula. -/
def kdR (k : Nat) : Nat := 1 + k % 3
def fitR (bs : List Nat) (k : Nat) : Fm := mkS (bs.take 40) (kdR k)
theorem fit_spec {X : PMap} {w : Value} {bs : List Nat} {k : Nat} (h : CutR X w bs) : Spec Tryz.prog 20 [.agg #[w, .int .u8 (k : Int)]] X fun u X' => ∃ r : Row4, u = .tuple #[.agg #[r.1, r.2.1, r.2.2.1, r.2.2.2], .int .i64 (kdR k : Int)] ∧ FmR .i64 X' (fitR bs k) r := by
  obtain ⟨h1, ⟨A, cp, rfl, hcp⟩, hb⟩ := h
  have h40 : (bs.take 40).length = min bs.length 40 := by rw [List.length_take, Nat.min_comm]
  have ht := h1.take hcp (k := min bs.length 40) (by omega)
  have hk : k % 3 < 3 := Nat.mod_lt _ (by omega)
  have et : bs.take (min bs.length 40) = bs.take 40 := by
    rcases Nat.le_total bs.length 40 with h | h
    · rw [Nat.min_eq_left h, List.take_length, List.take_of_length_le h]
    · rw [Nat.min_eq_right h]
  rw [et] at ht
  refine Spec.enter Tryz.func20 rfl Tryz.ntmps20 rfl ?_
  intro w0 hw0
  refine T.seq <| T.region <| SL.w (op_box rfl) ?_
  rintro _ _ _ ⟨B1, rfl, rfl, rfl⟩
  refine SL.w (op_alloc z27) ?_
  rintro _ _ _ ⟨B2, rfl, rfl, rfl⟩
  refine SL.v (op_assign (v := .int .i64 ((0 : Nat) : Int)) rfl) <| SL.nil <| T.seq <| T.region <| SL.v (op_fieldAddr fa46_1 rfl) <| SL.v (op_load ty5 rfl (by repeat constructor) rfl) ?_
  refine SL.v (op_remN (p := k) (q := 3) rfl rfl rfl (by omega)) ?_
  refine SL.v (op_convI64 Tryz.underlying5 Tryz.underlying3 rfl (by omega) (by omega)) ?_
  refine SL.v (op_addN (p := 1) (q := k % 3) rfl rfl (by omega)) ?_
  refine SL.as rfl <| SL.nil <| T.seq <| T.region <| SL.v (op_fieldAddr fa46_0 rfl) <| SL.v (op_load ty44 rfl (by repeat constructor) rfl) ?_
  refine SL.v (op_fieldAddr fa46_0 rfl) <| SL.v (op_load ty44 rfl (by repeat constructor) rfl) ?_
  refine SL.v (op_lenS Tryz.underlying44 rfl) <| SL.v (op_minN (p := bs.length) (q := 40) rfl rfl) <| SL.v (op_sliceHi (l := min bs.length 40) Tryz.underlying44 ty5 rfl rfl (by omega)) ?_
  refine SL.mv rfl <| SL.w (op_callF en68 (vs := [_, _, _]) rfl (mkS_spec (kind := kdR k) ht (fun x hx => hb x (List.mem_of_mem_take hx)) (by omega))) ?_
  rintro _ _ X1 ⟨rfl, hX1, r, rfl, hr⟩
  obtain ⟨o3, n3, a3, b3, l3, c3, l4, c4, rfl⟩ := hr.form
  refine SL.mv rfl <| SL.w (op_store ty27 rfl rfl (by repeat constructor) rfl rfl rfl) ?_
  rintro _ _ _ ⟨rfl, rfl⟩
  refine SL.as rfl <| SL.nil <| T.ret2 rfl (ResIs.cell rfl ty27 (by repeat constructor) rfl) (ResIs.tmp rfl) ?_
  exact ⟨_, rfl, hr⟩
end Go.Proofs.YtnpcilglilfajaaGreatDoor
namespace Go.Proofs.YtnpcilglilfajaaGreatDoor
section
set_option maxRecDepth 100000
theorem en14 : Enters Tryz.prog 14 := enters_mk Tryz.func14 (by kernel_rfl) rfl
end
open Go.RowKit
end Go.Proofs.YtnpcilglilfajaaGreatDoor
namespace Go.Proofs.YtnpcilglilfajaaGreatDoor
section
set_option maxRecDepth 100000
theorem en20 : Enters Tryz.prog 20 := enters_mk Tryz.func20 (by kernel_rfl) rfl
theorem ty46 : Ty Tryz.prog 46 true 2 := ⟨⟨_, Tryz.underlying46, rfl⟩, by kernel_rfl⟩
end
open Go.RowKit
mutual
theorem ins_any {kind : Nat} : ∀ f : Fm, insF kind f = 0 → insF 0 f = 0
  | .mk op n rs al, h => by
    obtain ⟨h1, _, h3⟩ := insF_ok h
    rw [insF, h1, if_neg (by simp), if_neg (by unfold kinF; omega), insL_any al h3]
theorem insL_any {kind : Nat} : ∀ l : List Fm, insFL kind l = 0 → insFL 0 l = 0
  | [], _ => rfl
  | a :: l, h => by
    have h0 := insFL_zero h a (by simp)
    rw [insFL, h0, if_neg (by simp)] at h
    rw [insFL, ins_any a h0, if_neg (by simp), insL_any l h]
end
theorem fitFL_mem {w : Nat} {a : Fm} : ∀ {l : List Fm}, fitFL w l = true → a ∈ l → fitF a = true
  | b :: l, h, hm => by
    rw [fitFL, Bool.and_eq_true, Bool.and_eq_true] at h
    rcases List.mem_cons.1 hm with rfl | hm
    · exact h.1.2
    · exact fitFL_mem h.2 hm
theorem depFL_mem {a : Fm} : ∀ {l : List Fm}, a ∈ l → depF a ≤ depFL l
  | b :: l, h => by
    rw [depFL]
    rcases List.mem_cons.1 h with rfl | h
    · omega
    · have := depFL_mem h; omega
theorem sizFL_mem {a : Fm} : ∀ {l : List Fm}, a ∈ l → sizF a ≤ sizFL l
  | b :: l, h => by
    rw [sizFL]
    rcases List.mem_cons.1 h with rfl | h
    · omega
    · have := sizFL_mem h; omega
theorem chkF_all {kind : Nat} {f : Fm} (h : chkF kind f = 0) : depF f ≤ 10 ∧ sizF f ≤ 200 ∧ insF kind f = 0 ∧ fitF f = true ∧ resT f.op = 1 := by
  have hi := chkF_ins h
  unfold chkF at h
  split at h
  · cases h
  · split at h
    · rename_i hl; exact absurd h hl
    · rename_i hl
      have hl := Classical.not_not.1 hl
      rw [lookF] at hl
      split at hl
      · cases hl
      · rename_i hd
        split at h
        · cases h
        · rename_i hf
          have h1 : fitF f = true := by
            cases hq : fitF f with
            | true => rfl
            | false => exact absurd (.inl hq) hf
          have h2 : resT f.op = 1 := by
            rcases Classical.em (resT f.op = 1) with hr | hr
            · exact hr
            · exact absurd (.inr hr) hf
          exact ⟨by omega, by omega, hi, h1, h2⟩
theorem typ_ok {f : Fm} (h1 : depF f ≤ 10) (h2 : sizF f ≤ 200) (h3 : insF 0 f = 0) (h4 : fitF f = true) : typF f = (resT f.op, 0) := by
  have hl : lookF 0 f = 0 := by rw [lookF, if_neg (by omega), h3]
  rw [typF, hl, if_neg (by simp), if_neg (by rw [h4]; simp)]
theorem chk_typ {kind : Nat} {f : Fm} (h : chkF kind f = 0) : typF f = (1, 0) := by
  obtain ⟨h1, h2, h3, h4, h5⟩ := chkF_all h
  rw [typ_ok h1 h2 (ins_any f h3) h4, h5]
theorem chk_args {kind op : Nat} {n : Int} {rs : List Nat} {al : List Fm} (h : chkF kind (.mk op n rs al) = 0) : ∀ a ∈ al, (typF a).2 = 0 := by
  intro a ha
  obtain ⟨h1, h2, h3, h4, h5⟩ := chkF_all h
  obtain ⟨_, _, h6⟩ := insF_ok h3
  rw [depF] at h1
  rw [sizF] at h2
  rw [fitF] at h4
  have := depFL_mem ha
  have := sizFL_mem ha
  rw [typ_ok (by omega) (by omega) (ins_any a (insFL_zero h6 a ha)) (fitFL_mem h4 ha)]
theorem fitR_wt {bs : List Nat} {k : Nat} : wtF (fitR bs k) ≤ 961 := by
  have h := mkS_ok (kind := kdR k) (by unfold kdR; omega) (bs.take 40)
  have h1 := h.wt
  have h2 := h.siz
  rw [fitR]
  omega
mutual
theorem nok_ops : ∀ f : Fm, nokF f → opsF f
  | .mk op n rs al, h => by
    rw [nokF] at h
    exact ⟨h.1, nokL_ops al h.2.2.2.2⟩
theorem nokL_ops : ∀ l : List Fm, nokFL l → opsFL l
  | [], _ => trivial
  | a :: l, h => ⟨nok_ops a h.1, nokL_ops l h.2⟩
end
theorem fitR_nok (bs : List Nat) (k : Nat) : nokF (fitR bs k) := insF_nok _ (mkS_ok (kind := kdR k) (by unfold kdR; omega) (bs.take 40)).ins
theorem fitR_ops (bs : List Nat) (k : Nat) : opsF (fitR bs k) := nok_ops _ (fitR_nok bs k)
theorem fitR_chk (bs : List Nat) (k : Nat) : chkF (kdR k) (fitR bs k) = 0 := mkS_chk (by unfold kdR; omega) _
theorem fTypes_spec {X : PMap} (hT : Tab X) {v w : Value} {l : List Nf} {bs : List Nat} {k : Nat} {b : Bool} (h : RowR nfC X v l) (hok : ∀ x ∈ l, nfOk x) (hc : CutR X w bs) : Spec Tryz.prog 4 [v, .agg #[w, .int .u8 (k : Int)], .bool b] X fun u _ => u = .bool true := by
  obtain ⟨A, cp, rfl⟩ := h.form
  have hfit := fun {X' : PMap} (hX : X.le X') => fit_spec (k := k) (hc.mono hX)
  obtain ⟨_, ⟨Aw, cw, rfl, _⟩, _⟩ := hc
  have hwt := blt18_wt hok
  have hops := blt18_ops l
  have hk3 : kdR k ≤ 3 := by unfold kdR; omega
  refine Spec.enter Tryz.func4 rfl Tryz.ntmps4 rfl ?_
  intro w0 hw0
  refine T.seq <| T.region <| SL.w (op_box rfl) ?_
  rintro _ _ _ ⟨B4, rfl, rfl, rfl⟩
  refine SL.as rfl <| SL.nil <| T.seq <| T.seq <| T.region <| SL.w (op_callF en13 (vs := []) rfl (awake18_spec hT)) ?_
  rintro _ _ X1 ⟨rfl, hX1, rfl⟩
  refine SL.v (op_not rfl) <| SL.nil <| T.condF rfl <| T.skip <| T.seq <| T.region <| SL.v (op_load ty46 rfl (by repeat constructor) rfl) ?_
  refine SL.w (op_callF en20 (vs := [_]) rfl (hfit hX1)) ?_
  rintro _ _ X2 ⟨rfl, hX2, r2, rfl, hr2⟩
  have hm1 := make18_spec (wtF (fitR bs k)) (Nat.le_refl _) (by have := fitR_wt (bs := bs) (k := k); omega) (fitR_ops bs k) hr2
  obtain ⟨o2, n2, a2, b2, l2, c2, l3, c3, rfl⟩ := hr2.form
  try simp only at hm1
  refine SL.mv rfl <| SL.v (op_extract rfl rfl) <| SL.v (op_extract rfl rfl) <| SL.w (op_alloc z27) ?_
  rintro _ _ _ ⟨B7, rfl, rfl, rfl⟩
  refine SL.w (op_store ty27 rfl rfl (by repeat constructor) rfl rfl rfl) ?_
  rintro _ _ _ ⟨rfl, rfl⟩
  refine SL.as rfl <| SL.nil <| T.seq <| T.region <| SL.v (op_load ty27 rfl (by repeat constructor) rfl) ?_
  refine SL.w (op_callF en16 (vs := [_]) rfl (hm1)) ?_
  rintro _ _ X3 ⟨rfl, hX3, r3, rfl, hr3⟩
  obtain ⟨o4, n4, a4, b4, l4, c4, l5, c5, rfl⟩ := hr3.form
  refine SL.w (op_alloc z36) ?_
  rintro _ _ _ ⟨B9, rfl, rfl, rfl⟩
  refine SL.w (op_store ty36 rfl rfl (by repeat constructor) rfl rfl rfl) ?_
  rintro _ _ _ ⟨rfl, rfl⟩
  refine SL.nil <| T.seq <| T.meet (fun _ env own X' => ∃ (f : Fm) (row : Row4), X3.le X' ∧ (b = true → f = fitR bs k) ∧ wtF f ≤ 961 ∧ FmR .u8 X' f row ∧ env = [(2, .bool b), (8, .int .i64 (kdR k : Int)), (9, .pointer (some ⟨B9, 0, none⟩))] ∧ own = [FmO B9 row]) ?_ ?_
  · cases b with
    | true =>
      refine T.seq <| T.region <| SL.mv rfl <| SL.v (op_not rfl) <| SL.nil <| T.condF rfl <| T.skip <| T.drop B7 (by repeat constructor) ?_
      refine T.drop B4 (by repeat constructor) ?_
      exact T.backW 0 (by omega) ⟨_, _, PMap.le_refl _, fun _ => rfl, fitR_wt, hr3, rfl, rfl⟩ (by repeat (first | exact Sub.nil | refine Sub.cons rfl ?_))
    | false =>
      refine T.seq <| T.region <| SL.mv rfl <| SL.v (op_not rfl) <| SL.nil <| T.condT rfl <| T.region <| SL.mv rfl <| SL.w (op_callF en14 (vs := [_]) rfl (built18_spec (((h.mono hX1).mono hX2).mono hX3) hok)) ?_
      rintro _ _ X4 ⟨rfl, hX4, r5, rfl, hr5⟩
      have hm2 := make18_spec (wtF (blt18 l)) (Nat.le_refl _) (by omega) hops hr5
      obtain ⟨o6, n6, a6, b6, l6, c6, l7, c7, rfl⟩ := hr5.form
      try simp only at hm2
      refine SL.w (op_callF en16 (vs := [_]) rfl (hm2)) ?_
      rintro _ _ X5 ⟨rfl, hX5, r8, rfl, hr8⟩
      obtain ⟨o8, n8, a8, b8, l8, c8, l9, c9, rfl⟩ := hr8.form
      refine SL.w (op_store ty36 rfl rfl (by repeat constructor) rfl rfl rfl) ?_
      rintro _ _ _ ⟨rfl, rfl⟩
      refine SL.nil <| T.drop B7 (by repeat constructor) ?_
      refine T.drop B4 (by repeat constructor) ?_
      exact T.backW 0 (by omega) ⟨_, _, hX4.trans' hX5, (fun h => by cases h), hwt, hr8, rfl, rfl⟩ (by repeat (first | exact Sub.nil | refine Sub.cons rfl ?_))
  rintro _ _ _ X4 ⟨f, row, hX4, hbf, hwf, hrow, rfl, rfl⟩
  have ht := fun {X' : PMap} (hX : X4.le X') => ftyp_spec (by omega) (hrow.mono hX)
  have hch := fun {X' : PMap} (hX : X4.le X') => fchk_spec (kind := kdR k) (by omega) (by omega) (hrow.mono hX)
  obtain ⟨op, n, rs, al⟩ := f
  cases hrow with
  | @mk _ _ _ _ vn va rows hn ha hl hr =>
  obtain ⟨Aa, ca, rfl⟩ := ha.form
  obtain ⟨An, cn, rfl⟩ := hn.form
  try simp only at ht
  try simp only at hch
  refine T.seq <| T.region <| SL.v (op_load ty36 rfl (by repeat constructor) rfl) ?_
  refine SL.w (op_callF en15 (vs := [_]) rfl (ht (PMap.le_refl _))) ?_
  rintro _ _ X5 ⟨rfl, hX5, rfl⟩
  refine SL.mv rfl <| SL.v (op_extract rfl rfl) <| SL.v (op_extract rfl rfl) <| SL.as rfl <| SL.as rfl <| SL.nil <| T.seq <| T.seq <| T.region <| SL.v (op_load ty36 rfl (by repeat constructor) rfl) ?_
  refine SL.mv rfl <| SL.v (op_convU8 Tryz.underlying3 Tryz.underlying41 rfl (by omega) (by omega)) ?_
  refine SL.w (op_callF en18 (vs := [_, _]) rfl (hch hX5)) ?_
  rintro _ _ X6 ⟨rfl, hX6, rfl⟩
  by_cases hc0 : chkF (kdR k) (.mk op n rs al) = 0
  case neg =>
    have hb : b = false := by
      cases b with
      | false => rfl
      | true => rw [hbf rfl] at hc0; exact absurd (fitR_chk bs k) hc0
    subst hb
    refine SL.v (op_neqT rfl rfl (by omega)) ?_
    refine SL.nil <| T.condT rfl <| T.seq <| T.region <| SL.mv rfl <| SL.v (op_not rfl) <| SL.as rfl <| SL.nil <| T.ret1 rfl (ResIs.tmp rfl) ?_
    rfl
  rw [hc0, chk_typ hc0]
  have hargs := chk_args hc0
  have hlen := wtFL_len al
  rw [wtF] at hwf
  refine SL.v (op_neqF rfl rfl (by omega)) ?_
  refine SL.nil <| T.condF rfl <| T.skip <| T.seq <| T.seq <| T.region <| SL.mv rfl <| SL.v (op_neqF rfl rfl (by omega)) ?_
  refine SL.mv rfl <| SL.mv rfl <| SL.v (op_neqF rfl rfl (by omega)) ?_
  refine SL.v (op_pickF rfl rfl) <| SL.nil <| T.condF rfl <| T.skip <| T.seq <| T.seq <| T.region <| SL.v (op_fieldAddr fa36_3 rfl) <| SL.v (op_load ty34 rfl (by repeat constructor) rfl) ?_
  refine SL.v (op_lenS Tryz.underlying34 rfl) <| SL.v (op_move (v := .int .i64 ((0 : Nat) : Int)) rfl) <| SL.nil <| T.block <| T.drop B9 (by repeat constructor) ?_
  refine T.loopW (fun m env own X' => ∃ i : Nat, m = rows.length - i ∧ i ≤ rows.length ∧ X4.le X' ∧ env = [(49, .slice Aa rows.length ca), (50, .int .i64 (rows.length : Int)), (51, .int .i64 (i : Int))] ∧ own = []) rows.length ⟨0, by simp, by omega, hX5.trans' hX6, rfl, rfl⟩ (by repeat (first | exact Sub.nil | refine Sub.cons rfl ?_)) ?_
  rintro m _ _ X7 ⟨i, rfl, hi, hX7, rfl, rfl⟩
  rcases Nat.lt_or_ge i rows.length with hil | hil
  · obtain ⟨r2, hr2⟩ : ∃ r2, rows[i]? = some r2 := ⟨_, List.getElem?_eq_getElem hil⟩
    obtain ⟨a, ha2⟩ : ∃ a, al[i]? = some a := ⟨_, List.getElem?_eq_getElem (by omega)⟩
    have hma := List.mem_of_getElem? ha2
    have hra := (hr i a r2 ha2 hr2).mono hX7
    obtain ⟨bA, pre, rfl, hbA⟩ := ha.blk (by omega)
    have hwa := wtFL_mem hma
    have hta := ftyp_spec (by omega) hra
    rw [hargs a hma] at hta
    obtain ⟨_, _, _, _, _, _, _, _, rfl⟩ := hra.form
    try simp only at hta
    refine T.seq <| T.region <| SL.v (op_lssT rfl rfl (by omega)) ?_
    refine SL.nil <| T.seq <| T.condT rfl <| T.skip <| T.seq <| T.block <| T.seq <| T.region <| SL.v (op_indexN Tryz.underlying34 ty36 rfl rfl (by omega)) ?_
    refine SL.v (op_loadX ty36 rfl (hbA.mono hX7) (row_read rc4_len hr2 (by omega))) ?_
    refine SL.w (op_alloc z36) ?_
    rintro _ _ _ ⟨B13, rfl, rfl, rfl⟩
    refine SL.w (op_store ty36 rfl rfl (by repeat constructor) rfl rfl rfl) ?_
    rintro _ _ _ ⟨rfl, rfl⟩
    refine SL.nil <| T.seq <| T.region <| SL.v (op_load ty36 rfl (by repeat constructor) rfl) ?_
    refine SL.w (op_callF en15 (vs := [_]) rfl (hta)) ?_
    rintro _ _ X8 ⟨rfl, hX8, rfl⟩
    refine SL.mv rfl <| SL.v (op_extract rfl rfl) <| SL.v (op_extract rfl rfl) <| SL.as rfl <| SL.as rfl <| SL.nil <| T.seq <| T.region <| SL.mv rfl <| SL.v (op_neqF rfl rfl (by omega)) ?_
    refine SL.nil <| T.condF rfl <| T.skip <| T.blk <| T.region <| SL.v (op_addN (q := 1) rfl rfl (by omega)) ?_
    refine SL.mv rfl <| SL.nil <| T.drop B13 (by repeat constructor) ?_
    exact T.backW (rows.length - (i + 1)) (by omega) ⟨i + 1, rfl, by omega, hX7.trans' hX8, rfl, rfl⟩ (by repeat (first | exact Sub.nil | refine Sub.cons rfl ?_))
  · obtain rfl : i = rows.length := by omega
    refine T.seq <| T.region <| SL.v (op_lssF rfl rfl (by omega)) ?_
    refine SL.nil <| T.seq <| T.condF rfl ?_
    refine T.exit (T.exitCode (T.exitCut (T.exitBlk ?_)))
    refine T.seq <| T.region <| SL.as rfl <| SL.nil <| T.ret1 rfl (ResIs.tmp rfl) ?_
    rfl
end Go.Proofs.YtnpcilglilfajaaGreatDoor
