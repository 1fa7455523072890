/- What the law's proof rests on: the engine, a small separation logic over the kit's walk, and contracts of the functions that the law reaches. Part 4. -/
import Derived.Lib.Repeat
import Derived.Test.YtnabbnhefjfegaaGreatDoorPart1
import Derived.Test.YtnabbnhefjfegaaGreatDoorPart2
import Derived.Test.YtnabbnhefjfegaaGreatDoorPart3
namespace Go.Proofs.YtnabbnhefjfegaaGreatDoor
section
set_option maxRecDepth 100000
theorem en16 : Enters Tryz.prog 16 := enters_mk Tryz.func16 (by kernel_rfl) rfl
theorem en37 : Enters Tryz.prog 37 := enters_mk Tryz.func37 (by kernel_rfl) rfl
theorem en39 : Enters Tryz.prog 39 := enters_mk Tryz.func39 (by kernel_rfl) rfl
theorem en40 : Enters Tryz.prog 40 := enters_mk Tryz.func40 (by kernel_rfl) rfl
theorem en85 : Enters Tryz.prog 85 := enters_mk Tryz.func85 (by kernel_rfl) rfl
end
open Go.RowKit
theorem sameName_spec {X : PMap} {B : Nat} {c : Con} {w1 w2 w3 w4 : Value} {d : Row7} (hB : Blk X B (rc7 (c.enf, c.kind, c.name, w1, w2, w3, w4))) (hd : ∃ (o : Nat) (n : Int) (A B : Option Addr) (l c1 l' c' : Nat), d.2.2.2 = (.int .u8 (o : Int), .int .i64 n, .slice A l c1, .slice B l' c')) : Spec Tryz.prog 40 [.agg (rc7 d).toArray, .pointer (some ⟨B, 0, none⟩)] X fun u _ => u = .bool (decide (d.2.2.1 = c.name)) := by
  obtain ⟨e, k, s, r⟩ := d
  obtain ⟨o, n, A, Bb, l, c1, l', c', hr⟩ := hd
  simp only at hr
  subst hr
  refine Spec.enter Tryz.func40 rfl Tryz.ntmps40 rfl ?_
  intro w0 hw0
  refine T.seq <| T.region <| SL.w (op_box rfl) ?_
  rintro _ _ _ ⟨B2, rfl, rfl, rfl⟩
  refine SL.as rfl <| SL.nil <| T.seq <| T.region <| SL.v (op_fieldAddr fa82_2 rfl) <| SL.v (op_load ty9 rfl (by repeat constructor) rfl) ?_
  refine SL.v (op_fieldAddr fa82_2 rfl) <| SL.v (op_loadX ty9 rfl (by assumption) rfl) ?_
  refine SL.v (op_eqlStrD rfl rfl) <| SL.as rfl <| SL.nil <| T.ret1 rfl (ResIs.tmp rfl) ?_
  rfl
theorem idxC_spec {X : PMap} {v : Value} {B : Nat} {c : Con} {w1 w2 w3 w4 : Value} {cs : List Con} (h : ConsR X v cs) (hB : Blk X B (rc7 (c.enf, c.kind, c.name, w1, w2, w3, w4))) (hl : cs.length < 1000) : Spec Tryz.prog 85 [v, .func (.func 40) #[] #[.pointer (some ⟨B, 0, none⟩)]] X fun u _ => ∃ k : Int, u = .int .i64 k ∧ (0 ≤ k ↔ c.name ∈ cs.map (·.name)) := by
  obtain ⟨rows, hr, hrl, hrow⟩ := h
  obtain ⟨A, cp, rfl⟩ := hr.form
  refine Spec.enter Tryz.func85 rfl Tryz.ntmps85 rfl ?_
  intro w0 hw0
  refine T.seq <| T.region <| SL.v (op_assign (v := .int .i64 ((0 : Nat) : Int)) rfl) <| SL.nil <| T.seq <| T.seq <| T.region <| SL.mv rfl <| SL.v (op_lenS Tryz.underlying24 rfl) <| SL.v (op_move (v := .int .i64 ((0 : Nat) : Int)) rfl) <| SL.nil <| T.block <| T.loopW (fun m env own X' => ∃ i : Nat, m = rows.length - i ∧ i ≤ rows.length ∧ X.le X' ∧ (∀ q d, q < i → cs[q]? = some d → d.name ≠ c.name) ∧ env = [(0, .slice A rows.length cp), (1, .func (.func 40) #[] #[.pointer (some ⟨B, 0, none⟩)]), (7, .int .i64 (rows.length : Int)), (8, .int .i64 (i : Int))] ∧ own = []) rows.length ⟨0, by simp, by omega, PMap.le_refl _, fun q x hq => absurd hq (by omega), rfl, rfl⟩ (by repeat (first | exact Sub.nil | refine Sub.cons rfl ?_)) ?_
  rintro m _ _ X1 ⟨i, rfl, hi, hX1, hne, rfl, rfl⟩
  rcases Nat.lt_or_ge i rows.length with hil | hil
  · obtain ⟨r2, hr2⟩ : ∃ r2, rows[i]? = some r2 := ⟨_, List.getElem?_eq_getElem hil⟩
    obtain ⟨d, hd2⟩ : ∃ d, cs[i]? = some d := ⟨_, List.getElem?_eq_getElem (by omega)⟩
    have hrc := hrow i d r2 hd2 hr2
    obtain ⟨b, pre, rfl, hbA⟩ := hr.blk (by omega)
    have hf := hrc.2.2.2.form
    have hnm := hrc.2.2.1
    refine T.seq <| T.region <| SL.v (op_lssT rfl rfl (by omega)) ?_
    refine SL.nil <| T.seq <| T.condT rfl <| T.skip <| T.seq <| T.block <| T.seq <| T.region <| SL.mv rfl <| SL.as rfl <| SL.nil <| T.seq <| T.region <| SL.mv rfl <| SL.mv rfl ?_
    refine SL.mv rfl <| SL.v (op_indexN Tryz.underlying24 ty82 rfl rfl (by omega)) ?_
    refine SL.v (op_loadX ty82 rfl (hbA.mono hX1) (row_read rc7_len hr2 (by omega))) ?_
    refine SL.w (op_call en40 rfl (vs := [_]) rfl (sameName_spec (hB.mono hX1) hf)) ?_
    rintro _ _ X2 ⟨rfl, hX2, rfl⟩
    rw [hnm]
    by_cases hc : d.name = c.name
    · rw [decide_eq_true hc]
      refine SL.nil <| T.condT rfl <| T.seq <| T.region <| SL.mv rfl <| SL.as rfl <| SL.nil <| T.ret1 rfl (ResIs.tmp rfl) ?_
      exact ⟨_, rfl, fun _ => List.mem_map.2 ⟨d, List.mem_of_getElem? hd2, hc⟩, fun _ => by omega⟩
    · rw [decide_eq_false hc]
      refine SL.nil <| T.condF rfl <| T.skip <| T.blk <| T.region <| SL.v (op_addN (q := 1) rfl rfl (by omega)) ?_
      refine SL.mv rfl <| SL.nil ?_
      have hne2 : ∀ (q : Nat) (y : Con), q < i + 1 → cs[q]? = some y → y.name ≠ c.name := fun q y hq hy => by
        rcases Nat.lt_or_ge q i with h1 | h1
        · exact hne q y h1 hy
        · obtain rfl : q = i := by omega
          rw [hd2] at hy; cases hy; exact hc
      exact T.backW (rows.length - (i + 1)) (by omega) ⟨i + 1, rfl, by omega, hX1.trans' hX2, hne2, rfl, rfl⟩ (by repeat (first | exact Sub.nil | refine Sub.cons rfl ?_))
  · refine T.seq <| T.region <| SL.v (op_lssF rfl rfl (by omega)) ?_
    refine SL.nil <| T.seq <| T.condF rfl ?_
    refine T.exit (T.exitCode (T.exitCut (T.exitBlk ?_)))
    refine T.seq <| T.region <| SL.as rfl <| SL.nil <| T.ret1 rfl (ResIs.tmp rfl) ?_
    refine ⟨_, rfl, fun h => absurd h (by omega), fun hm => ?_⟩
    obtain ⟨d, hd, hdn⟩ := List.mem_map.1 hm
    obtain ⟨q, hq⟩ := List.mem_iff_getElem?.1 hd
    have h1 := (List.getElem?_eq_some_iff.1 hq).1
    exact absurd hdn (hne q d (by omega) hq)
theorem conC_spec {X : PMap} {v : Value} {B : Nat} {c : Con} {w1 w2 w3 w4 : Value} {cs : List Con} (h : ConsR X v cs) (hB : Blk X B (rc7 (c.enf, c.kind, c.name, w1, w2, w3, w4))) (hl : cs.length < 1000) : Spec Tryz.prog 39 [v, .func (.func 40) #[] #[.pointer (some ⟨B, 0, none⟩)]] X fun u _ => u = .bool (decide (c.name ∈ cs.map (·.name))) := by
  obtain ⟨A, cp, rfl⟩ : ∃ A cp, v = .slice A cs.length cp := by
    obtain ⟨rows, hr, hrl, _⟩ := h
    obtain ⟨A, cp, rfl⟩ := hr.form
    exact ⟨A, cp, by rw [hrl]⟩
  refine Spec.enter Tryz.func39 rfl Tryz.ntmps39 rfl ?_
  intro w0 hw0
  refine T.seq <| T.region <| SL.as rfl <| SL.nil <| T.seq <| T.region <| SL.mv rfl <| SL.mv rfl <| SL.w (op_callF en85 (vs := [_, _]) rfl (idxC_spec h hB hl)) ?_
  rintro _ _ X1 ⟨rfl, hX1, k, rfl, hk⟩
  refine SL.v (op_geq rfl rfl) <| SL.as rfl <| SL.nil <| T.ret1 rfl (ResIs.tmp rfl) ?_
  simp only [hk]
theorem chkCs_at {cs : List Con} {i : Nat} {c : Con} (h0 : chkCs [] (cs.take i) = 0) (hc : cs[i]? = some c) (hz : errC ((cs.take i).map (·.name)) c ≠ 0) : chkCs [] cs = errC ((cs.take i).map (·.name)) c := by
  obtain ⟨h1, h2⟩ := List.getElem?_eq_some_iff.1 hc
  have e : cs = cs.take i ++ c :: cs.drop (i + 1) := by rw [← h2, ← List.drop_eq_getElem_cons h1, List.take_append_drop]
  have : chkCs [] (cs.take i ++ c :: cs.drop (i + 1)) = errC ((cs.take i).map (·.name)) c := by
    rw [chkCs_app, if_neg (by simp [h0]), List.nil_append, chkCs, if_pos hz]
  rwa [← e] at this
theorem chkCs_snoc {cs : List Con} {i : Nat} {c : Con} (h0 : chkCs [] (cs.take i) = 0) (hc : cs[i]? = some c) (hz : errC ((cs.take i).map (·.name)) c = 0) : chkCs [] (cs.take (i + 1)) = 0 := by
  rw [take_snoc hc, chkCs_app, if_neg (by simp [h0]), List.nil_append, chkCs, if_neg (fun h => h hz), chkCs]
theorem check_spec {M : Nat} {X : PMap} (hI : ItoaOk M X) {v : Value} {cs : List Con} (h : ConsR X v cs) (hl : cs.length ≤ 40) (h0 : 0 < cs.length) (hw : wtC cs < 15000000) (hww : ∀ c ∈ cs, wtE c.ex < 900000) (hn : ∀ c ∈ cs, chkE c.ex = 0 → numE M c.ex)
    : Spec Tryz.prog 16 [v] X fun u _ => u = .int .i64 (chkAll cs) := by
  have hcs := h
  obtain ⟨rows, hr, hrl, hrow⟩ := h
  obtain ⟨A, cp, rfl⟩ := hr.form
  have hcap := hr.cap (by omega)
  by_cases h32 : 32 < cs.length
  · refine Spec.enter Tryz.func16 rfl Tryz.ntmps16 rfl ?_
    intro w0 hw0
    refine T.seq <| T.region <| SL.v (op_assign (v := .int .i64 ((0 : Nat) : Int)) rfl) <| SL.nil <| T.seq <| T.seq <| T.region <| SL.mv rfl <| SL.v (op_lenS Tryz.underlying24 rfl) <| SL.v (op_gtrT rfl rfl (by omega)) ?_
    refine SL.nil <| T.condT rfl <| T.seq <| T.region <| SL.v (op_assign (v := .int .i64 ((3 : Nat) : Int)) rfl) <| SL.nil <| T.ret1 rfl (ResIs.tmp rfl) ?_
    rw [chkAll, if_pos h32]; rfl
  refine Spec.enter Tryz.func16 rfl Tryz.ntmps16 rfl ?_
  intro w0 hw0
  refine T.seq <| T.region <| SL.v (op_assign (v := .int .i64 ((0 : Nat) : Int)) rfl) <| SL.nil <| T.seq <| T.seq <| T.region <| SL.mv rfl <| SL.v (op_lenS Tryz.underlying24 rfl) <| SL.v (op_gtrF rfl rfl (by omega)) ?_
  refine SL.nil <| T.condF rfl <| T.skip <| T.seq <| T.seq <| T.region <| SL.mv rfl <| SL.v (op_lenS Tryz.underlying24 rfl) <| SL.v (op_move (v := .int .i64 ((0 : Nat) : Int)) rfl) <| SL.nil <| T.block <| T.loopW (fun m env own X' => ∃ i : Nat, m = rows.length - i ∧ i ≤ rows.length ∧ X.le X' ∧ chkCs [] (cs.take i) = 0 ∧ env = [(0, .slice A rows.length cp), (9, .slice A rows.length cp), (10, .int .i64 (rows.length : Int)), (11, .int .i64 (i : Int))] ∧ own = []) rows.length ⟨0, by simp, by omega, PMap.le_refl _, by simp [chkCs], rfl, rfl⟩ (by repeat (first | exact Sub.nil | refine Sub.cons rfl ?_)) ?_
  rintro m _ _ X1 ⟨i, rfl, hi, hX1, hz0, rfl, rfl⟩
  rcases Nat.lt_or_ge i rows.length with hil | hil
  · obtain ⟨r2, hr2⟩ : ∃ r2, rows[i]? = some r2 := ⟨_, List.getElem?_eq_getElem hil⟩
    obtain ⟨c, hc2⟩ : ∃ c, cs[i]? = some c := ⟨_, List.getElem?_eq_getElem (by omega)⟩
    have hmc := List.mem_of_getElem? hc2
    have hrc := hrow i c r2 hc2 hr2
    have htk : ConsR X (.slice (slA A cp 0 7) i cp) (cs.take i) := ⟨rows.take i, hr.take (sz := 7) (by omega), by rw [List.length_take, List.length_take]; omega, fun q d r a b => by
      rw [List.getElem?_take] at a b
      split at a
      · rename_i hq
        rw [if_pos hq] at b
        exact hrow q d r a b
      · cases a⟩
    obtain ⟨bA, pre, rfl, hbA⟩ := hr.blk (by omega)
    obtain ⟨o8, n8, a8, b8, l8, c8, l9, c9, rfl⟩ := hrc.form
    have hex := hrc.2.2.2
    simp only at hex
    have hwe := hww c hmc
    have hlt : (cs.take i).length < 1000 := by rw [List.length_take]; omega
    refine T.seq <| T.region <| SL.v (op_lssT rfl rfl (by omega)) ?_
    refine SL.nil <| T.seq <| T.condT rfl <| T.skip <| T.seq <| T.block <| T.seq <| T.region <| SL.mv rfl <| SL.v (op_indexN Tryz.underlying24 ty82 rfl rfl (by omega)) ?_
    refine SL.v (op_loadX (v := .agg #[.bool c.enf, .int .u8 (c.kind : Int), .string c.name, .int .u8 (o8 : Int), .int .i64 n8, .slice a8 l8 c8, .slice b8 l9 c9]) ty82 rfl (hbA.mono hX1) (row_read rc7_len hr2 (by omega))) ?_
    by_cases hk1 : c.kind < 1
    · have he : errC ((cs.take i).map (·.name)) c = 1 := by rw [errC, if_pos (.inl hk1)]
      refine SL.w (op_alloc z82) ?_
      rintro _ _ _ ⟨B4, rfl, rfl, rfl⟩
      refine SL.as rfl <| SL.w (op_store ty82 rfl rfl (by repeat constructor) rfl rfl rfl) ?_
      rintro _ _ _ ⟨rfl, rfl⟩
      refine SL.nil <| T.seq <| T.block <| T.seq <| T.region <| SL.v (op_fieldAddr fa82_1 rfl) <| SL.v (op_load ty80 rfl (by repeat constructor) rfl) ?_
      refine SL.v (op_lssT rfl rfl (by omega)) ?_
      refine SL.mv rfl <| SL.skip rfl rfl ?_
      refine SL.skip rfl rfl ?_
      refine SL.skip rfl rfl ?_
      refine SL.v (op_pickT rfl rfl) <| SL.as rfl <| SL.nil <| T.condT rfl <| T.seq <| T.region <| SL.v (op_assign (v := .int .i64 ((1 : Nat) : Int)) rfl) <| SL.nil <| T.ret1 rfl (ResIs.tmp rfl) ?_
      rw [chkAll, if_neg h32, chkCs_at hz0 hc2 (by rw [he]; decide), he]; rfl
    by_cases hk3 : 3 < c.kind
    · have he : errC ((cs.take i).map (·.name)) c = 1 := by rw [errC, if_pos (.inr hk3)]
      refine SL.w (op_alloc z82) ?_
      rintro _ _ _ ⟨B4, rfl, rfl, rfl⟩
      refine SL.as rfl <| SL.w (op_store ty82 rfl rfl (by repeat constructor) rfl rfl rfl) ?_
      rintro _ _ _ ⟨rfl, rfl⟩
      refine SL.nil <| T.seq <| T.block <| T.seq <| T.region <| SL.v (op_fieldAddr fa82_1 rfl) <| SL.v (op_load ty80 rfl (by repeat constructor) rfl) ?_
      refine SL.v (op_lssF rfl rfl (by omega)) ?_
      refine SL.mv rfl <| SL.v (op_fieldAddr fa82_1 rfl) <| SL.v (op_load ty80 rfl (by repeat constructor) rfl) ?_
      refine SL.v (op_gtrT rfl rfl (by omega)) ?_
      refine SL.v (op_pickF rfl rfl) <| SL.as rfl <| SL.nil <| T.condT rfl <| T.seq <| T.region <| SL.v (op_assign (v := .int .i64 ((1 : Nat) : Int)) rfl) <| SL.nil <| T.ret1 rfl (ResIs.tmp rfl) ?_
      rw [chkAll, if_neg h32, chkCs_at hz0 hc2 (by rw [he]; decide), he]; rfl
    have hk : ¬(c.kind < 1 ∨ 3 < c.kind) := fun h => by omega
    refine SL.w (op_alloc z82) ?_
    rintro _ _ _ ⟨B4, rfl, rfl, rfl⟩
    refine SL.as rfl <| SL.w (op_store ty82 rfl rfl (by repeat constructor) rfl rfl rfl) ?_
    rintro _ _ _ ⟨rfl, rfl⟩
    refine SL.nil <| T.seq <| T.block <| T.seq <| T.region <| SL.v (op_fieldAddr fa82_1 rfl) <| SL.v (op_load ty80 rfl (by repeat constructor) rfl) ?_
    refine SL.v (op_lssF rfl rfl (by omega)) ?_
    refine SL.mv rfl <| SL.v (op_fieldAddr fa82_1 rfl) <| SL.v (op_load ty80 rfl (by repeat constructor) rfl) ?_
    refine SL.v (op_gtrF rfl rfl (by omega)) ?_
    refine SL.v (op_pickF rfl rfl) <| SL.as rfl <| SL.nil <| T.pub B4 (by repeat constructor) ?_
    intro X2 hX2 hB4 _
    have hB4 : Blk X2 B4 (rc7 (c.enf, c.kind, c.name, .int .u8 (o8 : Int), .int .i64 n8, .slice a8 l8 c8, .slice b8 l9 c9)) := hB4
    refine T.condF rfl <| T.seq <| T.region <| SL.v (op_fieldAddr fa82_2 rfl) <| SL.v (op_loadX ty9 rfl (by assumption) rfl) ?_
    refine SL.w (op_callF en38 (vs := [_]) rfl (nvalid_spec)) ?_
    rintro _ _ X3 ⟨rfl, hX3, rfl⟩
    by_cases hv : validS c.name
    case neg =>
      have he : errC ((cs.take i).map (·.name)) c = 9 := by rw [errC, if_neg hk, if_pos hv]
      rw [decide_eq_false hv]
      refine SL.v (op_not rfl) <| SL.as rfl <| SL.nil <| T.condT rfl <| T.seq <| T.region <| SL.v (op_assign (v := .int .i64 ((9 : Nat) : Int)) rfl) <| SL.nil <| T.ret1 rfl (ResIs.tmp rfl) ?_
      rw [chkAll, if_neg h32, chkCs_at hz0 hc2 (by rw [he]; decide), he]; rfl
    rw [decide_eq_true hv]
    refine SL.v (op_not rfl) <| SL.as rfl <| SL.nil <| T.condF rfl <| T.seq <| T.region <| SL.mv rfl <| SL.mv rfl <| SL.v (op_sliceHi (l := i) Tryz.underlying24 ty82 rfl rfl (by omega)) ?_
    refine SL.v (op_makeFunc (vs := []) (us := [_]) rfl rfl) ?_
    have hcall := conC_spec (((htk.mono hX1).mono hX2).mono hX3) (hB4.mono hX3) hlt
    rw [List.length_take, Nat.min_eq_left (by omega)] at hlt
    refine SL.w (op_callF en39 (vs := [_, _]) rfl (hcall)) ?_
    rintro _ _ X4 ⟨rfl, hX4, rfl⟩
    by_cases hm : c.name ∈ (cs.take i).map (·.name)
    · have he : errC ((cs.take i).map (·.name)) c = 5 := by rw [errC, if_neg hk, if_neg (fun h => h hv), if_pos hm]
      rw [decide_eq_true hm]
      refine SL.as rfl <| SL.nil <| T.condT rfl <| T.seq <| T.region <| SL.v (op_assign (v := .int .i64 ((5 : Nat) : Int)) rfl) <| SL.nil <| T.ret1 rfl (ResIs.tmp rfl) ?_
      rw [chkAll, if_neg h32, chkCs_at hz0 hc2 (by rw [he]; decide), he]; rfl
    rw [decide_eq_false hm]
    have he : errC ((cs.take i).map (·.name)) c = chkE c.ex := by rw [errC, if_neg hk, if_neg (fun h => h hv), if_neg hm]
    have hX14 := ((hX1.trans' hX2).trans' hX3).trans' hX4
    refine SL.as rfl <| SL.nil <| T.condF rfl <| T.skip <| T.blk <| T.seq <| T.region <| SL.v (op_fieldAddr fa82_3 rfl) <| SL.v (op_loadX ty40 rfl ((hB4.mono hX3).mono hX4) rfl) <| SL.w (op_callF en25 (vs := [_]) rfl (chk_spec (by omega) (hex.mono hX14))) ?_
    rintro _ _ X5 ⟨rfl, hX5, rfl⟩
    by_cases hz : chkE c.ex = 0
    · skip
      refine SL.as rfl <| SL.nil <| T.seq <| T.region <| SL.mv rfl <| SL.v (op_neqF rfl rfl (by omega)) ?_
      refine SL.nil <| T.condF rfl <| T.skip <| T.blk <| T.region <| SL.v (op_addN (q := 1) rfl rfl (by omega)) ?_
      refine SL.mv rfl <| SL.nil ?_
      exact T.backW (rows.length - (i + 1)) (by omega) ⟨i + 1, rfl, by omega, hX14.trans' hX5, chkCs_snoc hz0 hc2 (he.trans hz), rfl, rfl⟩ (by repeat (first | exact Sub.nil | refine Sub.cons rfl ?_))
    · refine SL.as rfl <| SL.nil <| T.seq <| T.region <| SL.mv rfl <| SL.v (op_neqT rfl rfl (by omega)) ?_
      refine SL.nil <| T.condT rfl <| T.seq <| T.region <| SL.mv rfl <| SL.as rfl <| SL.nil <| T.ret1 rfl (ResIs.tmp rfl) ?_
      rw [chkAll, if_neg h32, chkCs_at hz0 hc2 (by rw [he]; exact hz), he, if_pos hz]
  · obtain rfl : i = rows.length := by omega
    have e : cs.take rows.length = cs := List.take_of_length_le (by omega)
    rw [e] at hz0
    have hll := linesL_len (cs := cs) fun c hc => (chkCs_mem hz0 c hc).2.2.1.2.1
    have hsz : (⟨(linesL cs).toArray⟩ : ByteArray).size = (linesL cs).length := by show (linesL cs).toArray.size = _; simp
    refine T.seq <| T.region <| SL.v (op_lssF rfl rfl (by omega)) ?_
    refine SL.nil <| T.seq <| T.condF rfl ?_
    refine T.exit (T.exitCode (T.exitCut (T.exitBlk ?_)))
    refine T.seq <| T.seq <| T.region <| SL.mv rfl <| SL.w (op_callF en37 (vs := [_]) rfl (lines_spec (hI.mono hX1) (hcs.mono hX1) hl h0 hw hww (fun c hc => hn c hc (chkCs_mem hz0 c hc).2.2.2) (chkCs_mem hz0))) ?_
    rintro _ _ X5 ⟨rfl, hX5, rfl⟩
    by_cases h8 : 8000 < (linesL cs).length
    · skip
      refine SL.v (op_lenStr Tryz.underlying9 rfl) <| SL.v (op_gtrT rfl rfl (by omega)) ?_
      refine SL.nil <| T.condT rfl <| T.seq <| T.region <| SL.v (op_assign (v := .int .i64 ((3 : Nat) : Int)) rfl) <| SL.nil <| T.ret1 rfl (ResIs.tmp rfl) ?_
      rw [chkAll, if_neg h32, if_neg (by simp [hz0]), if_pos h8]; rfl
    · refine SL.v (op_lenStr Tryz.underlying9 rfl) <| SL.v (op_gtrF rfl rfl (by omega)) ?_
      refine SL.nil <| T.condF rfl <| T.skip <| T.seq <| T.region <| SL.v (op_assign (v := .int .i64 ((0 : Nat) : Int)) rfl) <| SL.nil <| T.ret1 rfl (ResIs.tmp rfl) ?_
      rw [chkAll, if_neg h32, if_neg (by simp [hz0]), if_neg h8]; rfl
end Go.Proofs.YtnabbnhefjfegaaGreatDoor
namespace Go.Proofs.YtnabbnhefjfegaaGreatDoor
open Go.RowKit
theorem itoa_ok {X : PMap} (hP : Pow10 X) : ItoaOk 1000000 X := fun _ hX v hv => itoaL_spec (hP.mono hX) v (by omega)
mutual
theorem num_of : ∀ e : Ex, nodeE e = 0 → numE 1000000 e
  | .mk op n ns al, h => by
    obtain ⟨h1, h2⟩ := node_ok h
    obtain ⟨_, _, _, _, _, _, _, _, o9⟩ := own_ok h1
    exact (show (op = 1 → n < ((1000000 : Nat) : Int)) ∧ numL 1000000 al from ⟨fun _ => by omega, num_ofL al h2⟩)
theorem num_ofL : ∀ l : List Ex, nodeL l = 0 → numL 1000000 l
  | [], _ => trivial
  | a :: l, h => by
    have h1 : nodeE a = 0 := nodeL_zero h a (by simp)
    rw [nodeL, if_neg (fun h => h h1)] at h
    exact (show numE 1000000 a ∧ numL 1000000 l from ⟨num_of a h1, num_ofL l h⟩)
end
theorem printA_spec {X : PMap} (hP : Pow10 X) {e : Ex} {r : Row4} (hw : wtE e < 900000) (h : ExR .u8 X e r) : Spec Tryz.prog 27 [.agg #[r.1, r.2.1, r.2.2.1, r.2.2.2]] X fun u _ => u = .string (if chkE e = 0 then textE e else ⟨#[]⟩) :=
  eprint_spec (itoa_ok hP) hw (fun hc => num_of e (chkE_node hc)) h
end Go.Proofs.YtnabbnhefjfegaaGreatDoor
namespace Go.Proofs.YtnabbnhefjfegaaGreatDoor
open Go.RowKit
section
variable {P : Program} {n : NM} {own : Own} {X : PMap} {env : Env}
theorem op_sliceData0 {x : Operand} {ts : Array TypeId} {l c : Nat} (hx : eev env x = some (.slice none l c)) : OpY P n env own X (.call { callee := .builtin .unsafeSliceData, args := #[x], argTypes := ts }) (.pointer none) := by
  intro a W oper hop ha _
  have hr : (Builtin.unsafeSliceData_ ts oper.type #[.slice none l c]).run P W = .ok (.pointer none) W := rfl
  simp only [execOp, hop, resolve, invoke, builtin, Sem.run_bind, Sem.run_pure, Result.andThen_ok, List.map_toArray, List.map_cons, List.map_nil, ha.eval hx, hr]
theorem op_unsafeStr0 {x y : Operand} {pt it : TypeId} (hx : eev env x = some (.pointer none)) (hy : eev env y = some (.int .i64 0)) : OpY P n env own X (.call { callee := .builtin .unsafeString, args := #[x, y], argTypes := #[pt, it] }) (.string ⟨#[]⟩) := by
  intro a W oper hop ha _
  have hr : (Builtin.unsafeString_ #[pt, it] oper.type #[.pointer none, .int .i64 0]).run P W = .ok (.string ⟨#[]⟩) W := rfl
  simp only [execOp, hop, resolve, invoke, builtin, Sem.run_bind, Sem.run_pure, Result.andThen_ok, List.map_toArray, List.map_cons, List.map_nil, ha.eval hx, ha.eval hy, hr]
end
theorem bstring0_spec {X : PMap} {b : Nat} {p : Value} : SpecM Tryz.prog 80 [.pointer (some ⟨b, 0, none⟩)] X [BldO b p (.slice none 0 0)] fun u L' _ => u = .string ⟨#[]⟩ ∧ L' = [BldO b p (.slice none 0 0)] := by
  refine SpecM.enter Tryz.func80 rfl Tryz.ntmps80 rfl ?_
  intro w0 X0 own0
  refine T.perm (own' := BldO b p (.slice none 0 0) :: own0) (List.Perm.refl _) ?_
  refine T.seq <| T.region <| SL.as rfl <| SL.nil <| T.seq <| T.draw (by kernel_rfl) 12 [.t 0, .t 1, .t 2, .t 3, .t 4, .t 5, .t 6, .t 7, .t 8, .t 9, .r 10, .t 11] (by kernel_rfl) ?_
  refine SD.take rfl panicBody (op_move rfl) rfl rfl ?_
  refine SD.take rfl panicBody (op_nil rfl) rfl rfl ?_
  refine SD.take rfl panicBody (op_fieldAddr fa137_1 rfl) rfl rfl ?_
  refine SD.take rfl panicBody (op_load ty64 rfl (by repeat constructor) rfl) rfl rfl ?_
  refine SD.take rfl panicBody (op_sliceData0 rfl) rfl rfl ?_
  refine SD.take rfl panicBody (op_move rfl) rfl rfl ?_
  refine SD.take rfl panicBody (op_nil rfl) rfl rfl ?_
  refine SD.take rfl panicBody (op_fieldAddr fa137_1 rfl) rfl rfl ?_
  refine SD.take rfl panicBody (op_load ty64 rfl (by repeat constructor) rfl) rfl rfl ?_
  refine SD.take rfl panicBody (op_lenS Tryz.underlying64 rfl) rfl rfl ?_
  refine SD.run rfl (opx_of (fun u => u = .string ⟨#[]⟩) (op_unsafeStr0 rfl rfl) rfl rfl) rfl rfl ?_
  rintro _ _ _ ⟨rfl, rfl, rfl⟩
  refine SD.take rfl panicBody (op_assign rfl) rfl rfl ?_
  refine SD.nil ?_
  show SL _ _ _ _ _ _ _ [] _ _ _
  refine SL.nil <| T.retM1 [BldO b p (.slice none 0 0)] rfl (ResIs.tmp rfl) (List.Perm.refl _) ?_
  exact ⟨PMap.le_refl _, rfl, rfl⟩
theorem lines0_spec {X : PMap} {A : Option Addr} {c : Nat} : Spec Tryz.prog 37 [.slice A 0 c] X fun u _ => u = .string ⟨#[]⟩ := by
  refine Spec.enter Tryz.func37 rfl Tryz.ntmps37 rfl ?_
  intro w0 hw0
  refine T.seq <| T.region <| SL.as rfl <| SL.nil <| T.seq <| T.region <| SL.w (op_alloc z137) ?_
  rintro _ _ _ ⟨B3, rfl, rfl, rfl⟩
  refine SL.nil <| T.seq <| T.seq <| T.region <| SL.mv rfl <| SL.v (op_lenS Tryz.underlying24 rfl) <| SL.v (op_move (v := .int .i64 ((0 : Nat) : Int)) rfl) <| SL.nil <| T.block <| T.unrollStart 1 ?_
  refine T.unroll ?_
  refine T.seq <| T.region <| SL.v (op_lssF rfl rfl (by omega)) ?_
  refine SL.nil <| T.seq <| T.condF rfl ?_
  refine T.exit (T.exitCode (T.exitMore (T.exitBlk ?_)))
  refine T.seq <| T.region <| SL.w (op_callM en80 (vs := [_]) rfl (bstring0_spec) rfl) ?_
  rintro _ _ X5 ⟨_, rfl, hX5, rfl, rfl⟩
  refine SL.as rfl <| SL.nil <| T.ret1 rfl (ResIs.tmp rfl) ?_
  rfl
theorem check0_spec {X : PMap} {A : Option Addr} {c : Nat} : Spec Tryz.prog 16 [.slice A 0 c] X fun u _ => u = .int .i64 0 := by
  refine Spec.enter Tryz.func16 rfl Tryz.ntmps16 rfl ?_
  intro w0 hw0
  refine T.seq <| T.region <| SL.v (op_assign (v := .int .i64 ((0 : Nat) : Int)) rfl) <| SL.nil <| T.seq <| T.seq <| T.region <| SL.mv rfl <| SL.v (op_lenS Tryz.underlying24 rfl) <| SL.v (op_gtrF rfl rfl (by omega)) ?_
  refine SL.nil <| T.condF rfl <| T.skip <| T.seq <| T.seq <| T.region <| SL.mv rfl <| SL.v (op_lenS Tryz.underlying24 rfl) <| SL.v (op_move (v := .int .i64 ((0 : Nat) : Int)) rfl) <| SL.nil <| T.block <| T.unrollStart 1 ?_
  refine T.unroll ?_
  refine T.seq <| T.region <| SL.v (op_lssF rfl rfl (by omega)) ?_
  refine SL.nil <| T.seq <| T.condF rfl ?_
  refine T.exit (T.exitCode (T.exitMore (T.exitBlk ?_)))
  refine T.seq <| T.seq <| T.region <| SL.mv rfl <| SL.w (op_callF en37 (vs := [_]) rfl (lines0_spec)) ?_
  rintro _ _ X5 ⟨rfl, hX5, rfl⟩
  have k0 : (⟨#[]⟩ : ByteArray).size = 0 := rfl
  refine SL.v (op_lenStr Tryz.underlying9 rfl) <| SL.v (op_gtrF rfl rfl (by omega)) ?_
  refine SL.nil <| T.condF rfl <| T.skip <| T.seq <| T.region <| SL.v (op_assign (v := .int .i64 ((0 : Nat) : Int)) rfl) <| SL.nil <| T.ret1 rfl (ResIs.tmp rfl) ?_
  rfl
theorem ConsR.form {X : PMap} {v : Value} {cs : List Con} (h : ConsR X v cs) : ∃ A cp, v = .slice A cs.length cp := by
  obtain ⟨rows, hr, hrl, _⟩ := h
  obtain ⟨A, cp, rfl⟩ := hr.form
  exact ⟨A, cp, by rw [hrl]⟩
theorem checkA_spec {X : PMap} (hP : Pow10 X) {v : Value} {cs : List Con} (h : ConsR X v cs) (hl : cs.length ≤ 40) (hw : wtC cs < 15000000) (hww : ∀ c ∈ cs, wtE c.ex < 900000) : Spec Tryz.prog 16 [v] X fun u _ => u = .int .i64 (chkAll cs) := by
  rcases Nat.eq_zero_or_pos cs.length with h0 | h0
  · obtain rfl := List.eq_nil_of_length_eq_zero h0
    obtain ⟨A, cp, rfl⟩ := h.form
    refine check0_spec.mono fun u _ _ hu => ?_
    rw [hu]; simp [chkAll, chkCs, linesL]
  · exact check_spec (itoa_ok hP) h hl h0 hw hww fun c _ hc => num_of c.ex (chkE_node hc)
end Go.Proofs.YtnabbnhefjfegaaGreatDoor
namespace Go.Proofs.YtnabbnhefjfegaaGreatDoor
section
set_option maxRecDepth 100000
theorem bs82 : ∃ i z, Tryz.prog.info? 82 = some i ∧ i.size = 7 ∧ i.zero = some z ∧ z.cells = ([.bool false, .int .u8 0, .string ⟨#[]⟩, .int .u8 0, .int .i64 0, .slice none 0 0, .slice none 0 0] : List Value).toArray := bs_of (by kernel_rfl)
theorem en44 : Enters Tryz.prog 44 := enters_mk Tryz.func44 (by kernel_rfl) rfl
theorem sl24 : SlT Tryz.prog 24 82 7 88 := ⟨Tryz.underlying24, sl_of (by kernel_rfl) (by decide)⟩
end
open Go.RowKit
/-- Constraints of tokens, up to the end. -/
noncomputable def consP (ex : ParP) : Nat → List Con → List Tk → Except (Nat × Int) (List Con)
  | 0, cs, _ => .ok cs
  | k + 1, cs, l => if hdK l = 0 then .ok cs else match conP ex l with
    | .error x => .error x
    | .ok y => consP ex k (cs ++ [y.1]) y.2
def runC {α : Type} (p : List Tk → Except (Nat × Int) α) : RSt → Except (Nat × Int) α
  | .ok l => p l
  | .error x => .error x
/-- The constraints of a source, or the error with its offset. -/
noncomputable def parseM (s : ByteArray) : Except (Nat × Int) (List Con) := match begM s with
  | .error x => .error x
  | .ok ts => match consP (exprP (ts.length + 1)) (ts.length + 1) [] ts with
    | .error x => .error x
    | .ok cs => if chkAll cs = 0 then .ok cs else .error (0, chkAll cs)
theorem conP_wt {ex : ParP} (hx : Wt ex) {l l' : List Tk} {c : Con} (h : conP ex l = .ok (c, l')) : wtE c.ex + 14 * l'.length ≤ 14 * l.length := by
  have hK2 : ∀ {en : Bool} {k : Nat} {l l' : List Tk} {c : Con}, conK2 ex en k l = .ok (c, l') → wtE c.ex + 14 * l'.length ≤ 14 * l.length := fun h => by
    obtain ⟨s, l1, h1, h⟩ := bind_ok h
    obtain ⟨_, l2, h2, h⟩ := bind_ok h
    obtain ⟨x, l3, h3, h⟩ := bind_ok h
    obtain ⟨_, l4, h4, h⟩ := bind_ok h
    simp only [Except.ok.injEq, Prod.mk.injEq] at h
    obtain ⟨rfl, rfl⟩ := h
    have a1 := nameT_wt h1
    have a2 := expT_wt h2
    have a3 := hx _ _ _ h3
    have a4 := expT_wt h4
    show wtE x + _ ≤ _
    omega
  have hK1 : ∀ {en : Bool} {l l' : List Tk} {c : Con}, conK1 ex en l = .ok (c, l') → wtE c.ex + 14 * l'.length ≤ 14 * l.length := fun h => by
    rw [conK1] at h
    split at h
    · rename_i hk
      have := hK2 h
      have := isT_len hk
      omega
    · split at h
      · rename_i hk
        have := hK2 h
        have := isT_len hk
        omega
      · obtain ⟨_, l1, h1, h⟩ := bind_ok h
        have := hK2 h
        have := expT_wt h1
        omega
  rw [conP] at h
  split at h
  · rename_i hk
    have := hK1 h
    have := isT_len hk
    omega
  · obtain ⟨_, l1, h1, h⟩ := bind_ok h
    have := hK1 h
    have := expT_wt h1
    omega
theorem checkB_spec {X : PMap} (hP : Pow10 X) {v : Value} {cs : List Con} (h : ConsR X v cs) (hw : wtC cs < 15000000) (hww : ∀ c ∈ cs, wtE c.ex < 900000) : Spec Tryz.prog 16 [v] X fun u _ => u = .int .i64 (chkAll cs) := by
  by_cases h32 : 32 < cs.length
  · obtain ⟨A, cp, rfl⟩ := h.form
    refine Spec.enter Tryz.func16 rfl Tryz.ntmps16 rfl ?_
    intro w0 hw0
    refine T.seq <| T.region <| SL.v (op_assign (v := .int .i64 ((0 : Nat) : Int)) rfl) <| SL.nil <| T.seq <| T.seq <| T.region <| SL.mv rfl <| SL.v (op_lenS Tryz.underlying24 rfl) <| SL.v (op_gtrT rfl rfl (by omega)) ?_
    refine SL.nil <| T.condT rfl <| T.seq <| T.region <| SL.v (op_assign (v := .int .i64 ((3 : Nat) : Int)) rfl) <| SL.nil <| T.ret1 rfl (ResIs.tmp rfl) ?_
    rw [chkAll, if_pos h32]
    rfl
  · exact checkA_spec hP h (by omega) hw hww
theorem consP_stop {ex : ParP} {k : Nat} {cs : List Con} {l : List Tk} (h : hdK l = 0) : consP ex (k + 1) cs l = .ok cs := by rw [consP, if_pos h]
theorem consP_step {ex : ParP} {k : Nat} {cs : List Con} {l : List Tk} {sb : RSt} {c : Con} (h : hdK l ≠ 0) (hO : Out (runM (conP ex) (.ok l)) sb c) : runC (consP ex (k + 1) cs) (.ok l) = runC (consP ex k (cs ++ [c])) sb := by
  show consP ex (k + 1) cs l = _
  rw [consP, if_neg h]
  simp only [runM] at hO
  cases he : conP ex l with
  | error x => rw [he] at hO; simp only [Out] at hO; subst hO; rfl
  | ok y => rw [he] at hO; obtain ⟨rfl, rfl⟩ := hO; rfl
theorem parseM_run {s : ByteArray} {ts : List Tk} (hb : begM s = .ok ts) : parseM s = match runC (consP (exprP (ts.length + 1)) (ts.length + 1) []) (.ok ts) with
    | .error x => .error x
    | .ok cs => if chkAll cs = 0 then .ok cs else .error (0, chkAll cs) := by
  rw [parseM, hb]; rfl
theorem parse_spec {X : PMap} (hP10 : Pow10 X) {s : ByteArray} (hs : s.size < 1000000000) : Spec Tryz.prog 18 [.string s] X fun u X' => match parseM s with
    | .error x => u = .tuple #[.slice none 0 0, .int .i64 (x.1 : Int), .int .i64 x.2]
    | .ok cs => ∃ v, u = .tuple #[v, .int .i64 0, .int .i64 0] ∧ ConsR X' v cs := by
  have hmx : maxLen = 9223372036854775807 := rfl
  cases hb : begM s with
  | error x =>
    have hm : parseM s = .error x := by rw [parseM, hb]
    have hx2 := begM_err hb
    obtain ⟨o, c⟩ := x
    simp only at hx2
    refine Spec.enter Tryz.func18 rfl Tryz.ntmps18 rfl ?_
    intro w0 hw0
    refine T.seq <| T.region <| SL.as rfl <| SL.v (op_assign (v := .int .i64 ((0 : Nat) : Int)) rfl) <| SL.v (op_assign (v := .int .i64 ((0 : Nat) : Int)) rfl) <| SL.nil <| T.seq <| T.region <| SL.mv rfl <| SL.w (op_callO en42 (vs := [_]) rfl (begin_spec hs)) ?_
    rintro u1 _ X1 ⟨own1, rfl, hX1, hu1⟩
    rw [hb] at hu1
    obtain ⟨rfl, rfl⟩ := hu1
    refine SL.mv rfl <| SL.v (op_extract rfl rfl) <| SL.v (op_extract rfl rfl) <| SL.v (op_extract rfl rfl) <| SL.as rfl <| SL.as rfl <| SL.as rfl <| SL.nil <| T.seq <| T.seq <| T.region <| SL.mv rfl <| SL.v (op_neqT rfl rfl (by omega)) ?_
    refine SL.nil <| T.condT rfl <| T.seq <| T.region <| SL.mv rfl <| SL.mv rfl <| SL.as rfl <| SL.as rfl <| SL.as rfl <| SL.nil <| T.ret3 rfl rfl rfl rfl ?_
    rw [hm]
    rfl
  | ok ts =>
    have hrun := parseM_run hb
    refine Spec.enter Tryz.func18 rfl Tryz.ntmps18 rfl ?_
    intro w0 hw0
    refine T.seq <| T.region <| SL.as rfl <| SL.v (op_assign (v := .int .i64 ((0 : Nat) : Int)) rfl) <| SL.v (op_assign (v := .int .i64 ((0 : Nat) : Int)) rfl) <| SL.nil <| T.seq <| T.region <| SL.mv rfl <| SL.w (op_callO en42 (vs := [_]) rfl (begin_spec hs)) ?_
    rintro u1 _ X1 ⟨own1, rfl, hX1, hu1⟩
    rw [hb] at hu1
    obtain ⟨pb, rb, v, rfl, rfl, hP, hT, h0, hl8⟩ := hu1
    refine SL.mv rfl <| SL.v (op_extract rfl rfl) <| SL.v (op_extract rfl rfl) <| SL.v (op_extract rfl rfl) <| SL.as rfl <| SL.as rfl <| SL.as rfl <| SL.nil <| T.seq <| T.seq <| T.region <| SL.mv rfl <| SL.v (op_neqF rfl rfl (by omega)) ?_
    refine SL.nil <| T.condF rfl <| T.skip <| T.seq <| T.region <| SL.as rfl <| SL.nil <| T.seq <| T.block <| T.loopW (fun m env own X' => ∃ (cs : List Con) (rows : List Row7) (vs : Value) (G : Own) (i off : Nat) (e : Int) (sa : RSt) (k : Nat), m = lenS sa ∧ X1.le X' ∧ RdS ts sa i off e ∧ (∀ l, sa = .ok l → l.length < ts.length + 1) ∧ lenS sa < k ∧ cs.length + lenS sa ≤ ts.length ∧ runC (consP (exprP (ts.length + 1)) (ts.length + 1) []) (.ok ts) = runC (consP (exprP (ts.length + 1)) k cs) sa ∧ (∀ l, sa = .ok l → wtC cs + 14 * l.length ≤ 14 * ts.length) ∧ rows.length = cs.length ∧ (∀ (i : Nat) (c : Con) (r : Row7), cs[i]? = some c → rows[i]? = some r → ConR X' c r) ∧ GrowS 82 7 vs rows.length (rows.map rc7).flatten G ∧ env = [(5, .pointer (some ⟨pb, 0, none⟩)), (8, vs)] ∧ own = RdO rb v i off e :: G) (lenS (.ok ts)) ⟨[], [], _, [], 0, 0, 0, .ok ts, ts.length + 1, rfl, PMap.le_refl _, RdS.zero h0, fun l h => (by cases h; exact Nat.lt_succ_self _), Nat.lt_succ_self _, by simp [lenS], rfl, fun l h => (by cases h; simp [wtC]), rfl, fun i c r h => (by cases h), GrowS.nil, rfl, rfl⟩ (by repeat (first | exact Sub.nil | refine Sub.cons rfl ?_)) ?_
    rintro m _ _ X2 ⟨cs, rows, vs, G, i2, off2, e2, sa, k, rfl, hX2, hS2, hf2, hk2, hn2, heq, hwt, hrl, hrows, hG, rfl, rfl⟩
    have hP := hP.mono hX2
    have hT := hT.mono hX2
    obtain ⟨t, ht⟩ := hS2.tok
    obtain ⟨Av, cv, rfl⟩ := hG.form
    refine T.seq <| T.seq <| T.region <| SL.mv rfl <| SL.w (op_callLend en43 (vs := [_]) rfl ((fun X1 h1 h2 => (done_spec (hP.mono h1) (hT.row.mono h1) hT.len (h2 (RdO rb v i2 off2 e2) (by simp)) ht : Spec _ _ _ _ fun u _ => u = .bool (decide (e2 ≠ 0 ∨ t.kind = 0)))))) ?_
    rintro _ _ _ ⟨rfl, rfl, rfl⟩
    by_cases hd : e2 ≠ 0 ∨ t.kind = 0
    case neg =>
      obtain ⟨l, rfl⟩ : ∃ l, sa = .ok l := by
        obtain ⟨_, h2⟩ := hS2
        cases sa with
        | error y => obtain ⟨_, h3, h4⟩ := h2; exact absurd (.inl (by rw [h3]; exact h4)) hd
        | ok l => exact ⟨l, rfl⟩
      have hll : l = t :: ts.drop (i2 + 1) := by rw [hS2.2.2.2]; exact drop_tok ht
      have hhd : hdK l ≠ 0 := by rw [hll]; exact fun h => hd (.inr h)
      have hpos : 0 < lenS (.ok l) := by rw [hll]; exact Nat.succ_pos _
      obtain ⟨k, rfl⟩ : ∃ q, k = q + 1 := ⟨k - 1, by omega⟩
      rw [decide_eq_false hd]
      refine SL.v (op_not rfl) <| SL.nil <| T.condT rfl <| T.skip <| T.block <| T.region <| SL.mv rfl <| SL.mv rfl <| SL.w (op_callJ en44 rfl (vs := [_]) rfl (con_spec (f := ts.length) hT hP hS2 hf2) (by repeat constructor)) ?_
      rintro _ _ X3 ⟨_, rfl, hX3, i3, off3, e3, sb, rfl, hS3, c, r, rfl, hc, hO, hdec⟩
      obtain ⟨o9, n9, a9, b9, l9, c9, m9, d9, rfl⟩ := hc.form
      have hdec := hdec hpos
      have hstep := consP_step (k := k) (cs := cs) hhd hO
      have hwt2 : ∀ l', sb = .ok l' → wtC (cs ++ [c]) + 14 * l'.length ≤ 14 * ts.length := fun l' h => by
        subst h
        simp only [runM] at hO
        cases he : conP (exprP (ts.length + 1)) l with
        | error y => rw [he] at hO; cases hO
        | ok y =>
          rw [he] at hO
          obtain ⟨rfl, h2⟩ := hO
          have h3 := Except.ok.inj h2
          subst h3
          have a1 := conP_wt (exprP_wt _) he
          have a2 := hwt l rfl
          simp only [wtC, List.map_append, List.map_cons, List.map_nil, List.sum_append, List.sum_cons, List.sum_nil] at a2 ⊢
          omega
      refine SL.w (op_buildSlice Tryz.underlying24 bs82 (qs := [(0, _)]) rfl rfl rfl rfl rfl) ?_
      rintro _ _ _ ⟨B28, rfl, rfl, rfl⟩
      refine SL.w (op_appendG (own0 := [_]) sl24 rfl hG rfl rfl rfl (by omega) (by omega)) ?_
      rintro vn _ _ ⟨G2, rfl, rfl, hG2⟩
      have hG2 : GrowS 82 7 vn (rows ++ [(c.enf, c.kind, c.name, Value.int .u8 (o9 : Int), Value.int .i64 n9, Value.slice a9 l9 c9, Value.slice b9 m9 d9)]).length ((rows ++ [(c.enf, c.kind, c.name, Value.int .u8 (o9 : Int), Value.int .i64 n9, Value.slice a9 l9 c9, Value.slice b9 m9 d9)]).map rc7).flatten G2 := by rw [List.length_append, List.map_append, List.flatten_append]; exact hG2
      refine SL.as rfl <| SL.nil <| T.blk ?_
      exact T.backW (lenS sb) (by omega) ⟨cs ++ [c], _, vn, G2, i3, off3, e3, sb, k, rfl, hX2.trans' hX3, hS3, fun l' h => (by subst h; have : l'.length < l.length := hdec; have := hf2 l rfl; omega), by omega, by rw [List.length_append]; simp; omega, by rw [heq, hstep], hwt2, by rw [List.length_append, List.length_append, hrl]; rfl, rows_snoc hrl (fun i c r a b => (hrows i c r a b).mono hX3) hc, hG2, rfl, rfl⟩ (by repeat (first | exact Sub.nil | refine Sub.cons rfl ?_))
    rw [decide_eq_true hd]
    refine SL.v (op_not rfl) <| SL.nil <| T.condF rfl ?_
    refine T.exit (T.exitCode (T.exitCut (T.exitBlk ?_)))
    refine T.seq <| T.seq <| T.region <| SL.mv rfl <| SL.v (op_nil rfl) <| SL.v (op_fieldAddr fa98_0 rfl) <| SL.v (op_loadX ty96 rfl (by assumption) rfl) ?_
    refine SL.w (op_callLend en45 (vs := [_]) rfl ((fun X1 h1 h2 => (err_spec (h2 (RdO rb v i2 off2 e2) (by simp)) : Spec _ _ _ _ fun u _ => u = .tuple #[.int .i64 (off2 : Int), .int .i64 e2])))) ?_
    rintro _ _ _ ⟨rfl, rfl, rfl⟩
    rw [heq] at hrun
    cases sa with
    | error y =>
      obtain ⟨_, rfl, rfl, hy⟩ := hS2
      obtain ⟨o, c⟩ := y
      simp only at hy
      refine SL.mv rfl <| SL.v (op_extract rfl rfl) <| SL.v (op_extract rfl rfl) <| SL.as rfl <| SL.as rfl <| SL.nil <| T.seq <| T.region <| SL.mv rfl <| SL.v (op_neqT rfl rfl (by omega)) ?_
      refine SL.nil <| T.condT rfl <| T.seq <| T.region <| SL.mv rfl <| SL.mv rfl <| SL.as rfl <| SL.as rfl <| SL.as rfl <| SL.nil <| T.ret3 rfl rfl rfl rfl ?_
      rw [hrun]
      rfl
    | ok l =>
      obtain ⟨_, rfl, rfl, hl⟩ := hS2
      have hhd : hdK l = 0 := by
        rw [hl, drop_tok ht]
        rcases hd with hd | hd
        · exact absurd rfl hd
        · exact hd
      obtain ⟨k, rfl⟩ : ∃ q, k = q + 1 := ⟨k - 1, by omega⟩
      have hrun : parseM s = if chkAll cs = 0 then .ok cs else .error (0, chkAll cs) := by
        rw [hrun]
        simp only [runC, consP_stop hhd]
      have hw0 := hwt l rfl
      refine SL.mv rfl <| SL.v (op_extract rfl rfl) <| SL.v (op_extract rfl rfl) <| SL.as rfl <| SL.as rfl <| SL.nil <| T.seq <| T.region <| SL.mv rfl <| SL.v (op_neqF rfl rfl (by omega)) ?_
      refine SL.nil <| T.condF rfl <| T.skip <| T.seq <| T.pubG (own0 := [_]) hG ?_
      intro X9 hX9 hS9
      have hC : ConsR X9 (.slice Av rows.length cv) cs := ⟨rows, RowR.ofG hG hS9, hrl, fun i c r a b => (hrows i c r a b).mono hX9⟩
      refine T.seq <| T.region <| SL.mv rfl <| SL.w (op_callF en16 (vs := [_]) rfl (checkB_spec (((hP10.mono hX1).mono hX2).mono hX9) hC (by omega) (fun c hc => by have := wtC_mem hc; omega))) ?_
      rintro _ _ Y1 ⟨rfl, hY1, rfl⟩
      by_cases hz : chkAll cs = 0
      · skip
        refine SL.as rfl <| SL.nil <| T.seq <| T.region <| SL.mv rfl <| SL.v (op_neqF rfl rfl (by omega)) ?_
        refine SL.nil <| T.condF rfl <| T.skip <| T.seq <| T.region <| SL.mv rfl <| SL.as rfl <| SL.v (op_assign (v := .int .i64 ((0 : Nat) : Int)) rfl) <| SL.v (op_assign (v := .int .i64 ((0 : Nat) : Int)) rfl) <| SL.nil <| T.ret3 rfl rfl rfl rfl ?_
        rw [hrun, if_pos hz]
        exact ⟨_, rfl, hC.mono hY1⟩
      · refine SL.as rfl <| SL.nil <| T.seq <| T.region <| SL.mv rfl <| SL.v (op_neqT rfl rfl (by omega)) ?_
        refine SL.nil <| T.condT rfl <| T.seq <| T.region <| SL.mv rfl <| SL.as rfl <| SL.v (op_assign (v := .int .i64 ((0 : Nat) : Int)) rfl) <| SL.as rfl <| SL.nil <| T.ret3 rfl rfl rfl rfl ?_
        rw [hrun, if_neg hz]
end Go.Proofs.YtnabbnhefjfegaaGreatDoor
namespace Go.Proofs.YtnabbnhefjfegaaGreatDoor
open Go.RowKit
theorem name_key {s : ByteArray} (h : validS s) {w : ByteArray} (hw : w ∈ keyws) : s ≠ w := fun e => h.2.2.1 (e ▸ hw)
theorem kNot : wNot ∈ keyws := by simp [keyws]
theorem kTrue : wTrue ∈ keyws := by simp [keyws]
theorem kFalse : wFalse ∈ keyws := by simp [keyws]
theorem kCount : wCount ∈ keyws := by simp [keyws]
theorem kMembers : wMembers ∈ keyws := by simp [keyws]
theorem nameT_ok {s : ByteArray} {o : Nat} {l : List Tk} (h : validS s) : nameT (wT s o :: l) = .ok (s, l) := by
  show (if (1 : Nat) ≠ 1 ∨ s ∈ keyws then _ else if ¬validS s then _ else _) = _
  rw [if_neg (fun hh => hh.elim (fun h1 => h1 rfl) h.2.2.1), if_neg (fun hh => hh h)]; rfl
theorem expT_ok {w : ByteArray} {o : Nat} {l : List Tk} : expT w (sT w o :: l) = .ok ((), l) := by rw [expT, isT_s, if_pos rfl]; rfl
theorem namesG_ok {rest : List Tk} (hr : isT wComma rest = false) : ∀ (l ns : List ByteArray) (o k : Nat), (∀ s ∈ l, validS s) → (commasK l o ++ rest).length ≤ k → namesG k ns (commasK l o ++ rest) = .ok (ns ++ l, rest)
  | [], ns, o, k, _, _ => by
    rw [commasK, List.nil_append, List.append_nil]
    cases k with
    | zero => rfl
    | succ k => rw [namesG, hr]; rfl
  | s :: l, ns, o, k, hv, hk => by
    rw [commasK] at hk ⊢
    simp only [List.cons_append, List.length_cons] at hk
    obtain ⟨k, rfl⟩ : ∃ q, k = q + 1 := ⟨k - 1, by omega⟩
    simp only [List.cons_append]
    rw [namesG, isT_s, if_pos rfl, List.tail_cons, nameT_ok (hv s (by simp)), bindR_ok, namesG_ok hr l (ns ++ [s]) _ k (fun x hx => hv x (by simp [hx])) (by omega)]
    simp
theorem namesP_ok {ns : List ByteArray} {o o' o'' : Nat} {rest : List Tk} (h1 : 0 < ns.length) (hv : ∀ s ∈ ns, validS s) {several : Bool} (hs : several = true ∨ ns.length = 1) : namesP several (sT wLp o :: (namesK ns o' ++ sT wRp o'' :: rest)) = .ok (ns, rest) := by
  match ns, h1, hs with
  | s :: l, _, hs =>
    rw [namesK, namesP, expT_ok, bindR_ok, List.cons_append, nameT_ok (hv s (by simp)), bindR_ok]
    have hr : isT wComma (sT wRp o'' :: rest) = false := isT_sne (by decide)
    rcases hs with rfl | hs
    · rw [if_pos rfl, namesG_ok hr l [s] _ _ (fun x hx => hv x (by simp [hx])) (Nat.le_refl _), bindR_ok, expT_ok, bindR_ok]; rfl
    · have hl : l = [] := List.eq_nil_of_length_eq_zero (by simpa using hs)
      subst hl
      have : ∀ k, namesG k [s] (commasK [] (o' + s.size) ++ sT wRp o'' :: rest) = .ok ([s], sT wRp o'' :: rest) := fun k => by
        rw [commasK, List.nil_append]
        cases k with
        | zero => rfl
        | succ k => rw [namesG, hr]; rfl
      rw [this, bindR_ok, expT_ok, bindR_ok]
/-- What a tree's tokens do at every level, with and without parentheses. -/
def Good (e : Ex) : Prop := ∀ f, depE e + 1 ≤ f → ∀ k o, 1 ≤ k → k ≤ 7 → Ck (primP (exprP f)) k (oprK e k o) e ∧ (5 ≤ k → hdN (oprK e k o))
theorem strN_pos (op : Nat) : 1 ≤ strN op ∧ strN op ≤ 7 := by
  unfold strN
  split
  · omega
  · split
    · omega
    · split
      · omega
      · split
        · omega
        · split
          · omega
          · split <;> omega
/-- Without parentheses: from the level of the operator down. -/
theorem good_bare {e : Ex} (h : ∀ f, depE e ≤ f → ∀ o, Ck (primP (exprP f)) (strN e.op) (toksE e o) e ∧ (5 ≤ strN e.op → hdN (toksE e o))) : Good e := by
  obtain ⟨hp1, hp7⟩ := strN_pos e.op
  have bare : ∀ f, depE e ≤ f → ∀ k o, 1 ≤ k → k ≤ strN e.op → Ck (primP (exprP f)) k (toksE e o) e := fun f hf k o h1 h2 => Ck.down (h f hf o).1 hp7 (h f hf o).2 k h1 h2
  intro f hf k o h1 h7
  unfold oprK parK
  split
  · have hn : hdN (sT wLp o :: (toksE e (o + 1) ++ [sT wRp (o + 1 + (textE e).size)])) := fun rest => isT_sne (by decide)
    obtain ⟨f, rfl⟩ : ∃ q, f = q + 1 := ⟨f - 1, by omega⟩
    have h7' : Ck (primP (exprP (f + 1))) 7 (sT wLp o :: (toksE e (o + 1) ++ [sT wRp (o + 1 + (textE e).size)])) e := by
      intro rest
      have hb : C1 (primP (exprP f)) (toksE e (o + 1)) e := bare f (by omega) 1 (o + 1) (by omega) hp1
      have hb := hb (sT wRp (o + 1 + (textE e).size) :: rest) _ ⟨fun _ => isT_sne (by decide), fun _ => isT_sne (by decide), fun _ => isT_sne (by decide), fun _ c hc => isT_sne (by revert c; decide), fun _ => isT_sne (by decide)⟩ (Nat.lt_succ_self _)
      rw [List.cons_append, List.append_assoc, List.singleton_append, primP, if_neg (by show ¬(3 : Nat) = 2; omega), isT_sne (by decide), isT_sne (by decide), isT_sne (by decide), isT_sne (by decide), isT_s]
      simp only [Bool.false_eq_true, if_false, if_true]
      rw [exprP_succ, hb, bindR_ok, expT_ok, bindR_ok]
    exact ⟨Ck.down h7' (by omega) (fun _ => hn) k h1 h7, fun _ => hn⟩
  · rename_i hlt
    exact ⟨bare f (by omega) k o h1 (by omega), fun h5 => (h f (by omega) o).2 (by omega)⟩
theorem hdN_append {t u : List Tk} (h : hdN t) : hdN (t ++ u) := fun rest => by rw [List.append_assoc]; exact h _
/-- EVERY ACCEPTED TREE. -/
theorem good_all : ∀ (n : Nat) (e : Ex), sizE e ≤ n → nodeE e = 0 → Good e := by
  intro n
  induction n with
  | zero => intro e h; cases e; rw [sizE] at h; omega
  | succ n ih =>
    intro e hsz hnode
    cases e with
    | mk op v ns al =>
    obtain ⟨hown, hargs⟩ := node_ok hnode
    obtain ⟨o1, o2, o3, o4, o5, o6, o7, o8, o9⟩ := own_ok hown
    rw [sizE] at hsz
    refine good_bare fun f hf o => ?_
    simp only [Ex.op]
    rw [depE] at hf
    by_cases c7 : op < 7
    · have hs7 : strN op = 7 := by unfold strN; rw [if_neg (by omega), if_neg (by omega), if_neg (by omega), if_neg (by omega), if_neg (by omega), if_neg (by omega)]
      have hal : al = [] := List.eq_nil_of_length_eq_zero (by rw [o3, argN, if_pos c7])
      subst hal
      rw [hs7]
      show C7 _ _ _ ∧ _
      by_cases c1 : op = 1
      · subst c1
        obtain ⟨q, rfl⟩ := Int.eq_ofNat_of_zero_le o8
        have hns : ns = [] := List.eq_nil_of_length_eq_zero (by simpa [namN] using o5)
        subst hns
        have e1 : toksE (.mk 1 (q : Int) [] []) o = [⟨2, decB q, q, o⟩] := by rw [toksE, if_pos rfl]; rfl
        rw [e1]
        exact ⟨fun rest => by rw [List.singleton_append, primP, if_pos rfl], fun _ rest => isT_kind2 rfl⟩
      have hv0 := o4 c1
      subst hv0
      by_cases c2 : op = 2
      · subst c2
        have hns : ns = [] := List.eq_nil_of_length_eq_zero (by simpa [namN] using o5)
        subst hns
        have e1 : toksE (.mk 2 0 [] []) o = [wT wTrue o] := by rw [toksE, if_neg (by omega), if_pos rfl]
        rw [e1]
        exact ⟨fun rest => by rw [List.singleton_append, primP, if_neg (by show ¬(1 : Nat) = 2; omega), isT_w, if_pos rfl], fun _ rest => isT_wne (by decide)⟩
      by_cases c3 : op = 3
      · subst c3
        have hns : ns = [] := List.eq_nil_of_length_eq_zero (by simpa [namN] using o5)
        subst hns
        have e1 : toksE (.mk 3 0 [] []) o = [wT wFalse o] := by rw [toksE, if_neg (by omega), if_neg (by omega), if_pos rfl]
        rw [e1]
        exact ⟨fun rest => by rw [List.singleton_append, primP, if_neg (by show ¬(1 : Nat) = 2; omega), isT_wne (by decide), isT_w, if_neg (by simp), if_pos rfl], fun _ rest => isT_wne (by decide)⟩
      by_cases c4 : op = 4
      · subst c4
        obtain ⟨s, rfl⟩ : ∃ s, ns = [s] := by
          have hl1 : ns.length = 1 := by simpa [namN] using o5
          match ns, hl1 with
          | [s], _ => exact ⟨s, rfl⟩
        have hv := o6 s (by simp)
        have e1 : toksE (.mk 4 0 [s] []) o = [wT s o] := by rw [toksE, if_neg (by omega), if_neg (by omega), if_neg (by omega), if_pos rfl]; rfl
        rw [e1]
        refine ⟨fun rest => ?_, fun _ rest => isT_ne (name_key hv kNot)⟩
        have n1 : isT wTrue (wT s o :: rest) = false := isT_ne (name_key hv kTrue)
        have n2 : isT wFalse (wT s o :: rest) = false := isT_ne (name_key hv kFalse)
        have n3 : isT wCount (wT s o :: rest) = false := isT_ne (name_key hv kCount)
        have n4 : isT wMembers (wT s o :: rest) = false := isT_ne (name_key hv kMembers)
        have n5 : isT wLp (wT s o :: rest) = false := isT_ne (fun h => by
          have h6 := hv.2.2.2 0 40 (Nat.le_refl _) (by rw [show s = wLp from h]; rfl)
          exact absurd h6.1 (by decide))
        rw [List.singleton_append, primP, if_neg (by show ¬(1 : Nat) = 2; omega), n1, n2, n3, n4, n5]
        simp only [Bool.false_eq_true, if_false]
        rw [nameT_ok hv, bindR_ok]
      by_cases c5 : op = 5
      · subst c5
        have hl1 : 1 ≤ ns.length ∧ ns.length ≤ 8 := by simpa [namN] using o5
        have e1 : toksE (.mk 5 0 ns []) o = wT wCount o :: sT wLp (o + 5) :: (namesK ns (o + 6) ++ [sT wRp (o + 6 + (joinB ns).size)]) := by rw [toksE, if_neg (by omega), if_neg (by omega), if_neg (by omega), if_neg (by omega), if_pos rfl]
        rw [e1]
        refine ⟨fun rest => ?_, fun _ rest => isT_wne (by decide)⟩
        simp only [List.cons_append, List.append_assoc, List.nil_append]
        rw [primP, if_neg (by show ¬(1 : Nat) = 2; omega), isT_wne (by decide), isT_wne (by decide), isT_w]
        simp only [Bool.false_eq_true, if_false, if_true]
        rw [namesP_ok hl1.1 o6 (.inl rfl), bindR_ok]
      · have c6 : op = 6 := by omega
        subst c6
        obtain ⟨s, rfl⟩ : ∃ s, ns = [s] := by
          have hl1 : ns.length = 1 := by simpa [namN] using o5
          match ns, hl1 with
          | [s], _ => exact ⟨s, rfl⟩
        have e1 : toksE (.mk 6 0 [s] []) o = wT wMembers o :: sT wLp (o + 7) :: (namesK [s] (o + 8) ++ [sT wRp (o + 8 + s.size)]) := by rw [toksE, if_neg (by omega), if_neg (by omega), if_neg (by omega), if_neg (by omega), if_neg (by omega), if_pos rfl]; rfl
        rw [e1]
        refine ⟨fun rest => ?_, fun _ rest => isT_wne (by decide)⟩
        simp only [List.cons_append, List.append_assoc, List.nil_append]
        rw [primP, if_neg (by show ¬(1 : Nat) = 2; omega), isT_wne (by decide), isT_wne (by decide), isT_wne (by decide), isT_w]
        simp only [Bool.false_eq_true, if_false, if_true]
        rw [namesP_ok (by simp) o6 (.inr rfl), bindR_ok]
    have hv0 := o4 (by omega)
    subst hv0
    have hns : ns = [] := List.eq_nil_of_length_eq_zero (by
      unfold namN at o5
      rw [if_neg (by omega), if_neg (by omega)] at o5; exact o5)
    subst hns
    by_cases d7 : op = 7
    · subst d7
      obtain ⟨a, rfl⟩ : ∃ a, al = [a] := by
        have hl1 : al.length = 1 := by rw [o3]; rfl
        match al, hl1 with
        | [a], _ => exact ⟨a, rfl⟩
      have ga := ih a (by rw [sizL, sizL] at hsz; omega) (nodeL_zero hargs a (by simp))
      have hd : depE a + 1 ≤ f := by rw [depL, depL] at hf; omega
      have e1 : toksE (.mk 7 0 [] [a]) o = wT wNot o :: oprK a 4 (o + 4) := by
        rw [toksE, if_neg (by omega), if_neg (by omega), if_neg (by omega), if_neg (by omega), if_neg (by omega), if_neg (by omega), toksL, toksL]; rfl
      rw [e1]
      have h4 : C4 (primP (exprP f)) (oprK a 4 (o + 4)) a := (ga f hd 4 (o + 4) (by omega) (by omega)).1
      exact ⟨b_not h4, fun h => absurd h (by decide)⟩
    obtain ⟨a, b, rfl⟩ : ∃ a b, al = [a, b] := by
      have hl1 : al.length = 2 := by rw [o3, argN, if_neg c7, if_neg d7]
      match al, hl1 with
      | [a, b], _ => exact ⟨a, b, rfl⟩
    have ga := ih a (by rw [sizL, sizL, sizL] at hsz; omega) (nodeL_zero hargs a (by simp))
    have gb := ih b (by rw [sizL, sizL, sizL] at hsz; omega) (nodeL_zero hargs b (by simp))
    have hda : depE a + 1 ≤ f := by rw [depL, depL, depL] at hf; omega
    have hdb : depE b + 1 ≤ f := by rw [depL, depL, depL] at hf; omega
    have e1 : toksE (.mk op 0 [] [a, b]) o = oprK a (lefN op) o ++ opK op (o + (parB (strN a.op) (textE a) (lefN op)).size + 1) :: oprK b (rigN op) (o + (parB (strN a.op) (textE a) (lefN op)).size + (wordB op).size) := by
      rw [toksE, if_neg (by omega), if_neg (by omega), if_neg (by omega), if_neg (by omega), if_neg (by omega), if_neg (by omega), toksL, toksL, toksL]; rfl
    rw [e1]
    generalize o + (parB (strN a.op) (textE a) (lefN op)).size + 1 = p1
    generalize o + (parB (strN a.op) (textE a) (lefN op)).size + (wordB op).size = p2
    have ha := fun k h1 h7 => (ga f hda k o h1 h7).1
    have hb := fun k h1 h7 => (gb f hdb k p2 h1 h7).1
    by_cases e8 : op = 8
    · subst e8
      exact ⟨b_and (ha 3 (by omega) (by omega)) (hb 4 (by omega) (by omega)), fun h => absurd h (by decide)⟩
    by_cases e9 : op = 9
    · subst e9
      exact ⟨b_or (ha 2 (by omega) (by omega)) (hb 3 (by omega) (by omega)), fun h => absurd h (by decide)⟩
    by_cases e10 : op = 10
    · subst e10
      exact ⟨b_arr (ha 2 (by omega) (by omega)) (hb 1 (by omega) (by omega)), fun h => absurd h (by decide)⟩
    by_cases e16 : op = 16
    · subst e16
      exact ⟨b_add (ha 6 (by omega) (by omega)) (hb 7 (by omega) (by omega)), fun _ => hdN_append ((ga f hda 6 o (by omega) (by omega)).2 (by omega))⟩
    have h5 : strN op = 5 := by unfold strN; rw [if_neg (by omega), if_neg (by omega), if_neg (by omega), if_neg (by omega), if_pos (by omega)]
    have hl6 : lefN op = 6 := by rw [lefN, if_neg e10, if_pos h5, h5]
    have hr6 : rigN op = 6 := by rw [rigN, if_neg e10, h5]
    rw [h5, hl6, hr6]
    exact ⟨b_cmp (by omega) (by omega) (ha 6 (by omega) (by omega)) (hb 6 (by omega) (by omega)), fun _ => hdN_append ((ga f hda 6 o (by omega) (by omega)).2 (by omega))⟩
/-- The tokens of a whole text. -/
theorem parse_back {e : Ex} (h : nodeE e = 0) {f o : Nat} (hf : depE e + 1 < f) {rest : List Tk} (hs : Stop 1 rest) : exprP f (toksE e o ++ rest) = .ok (e, rest) := by
  obtain ⟨f, rfl⟩ : ∃ q, f = q + 1 := ⟨f - 1, by omega⟩
  have hg : C1 (primP (exprP f)) (oprK e 1 o) e := (good_all _ e (Nat.le_refl _) h f (by omega) 1 o (by omega) (by omega)).1
  have e1 : oprK e 1 o = toksE e o := by rw [oprK, parK, if_neg (by have := (strN_pos e.op).1; omega)]
  rw [e1] at hg
  rw [exprP_succ]
  exact hg rest _ hs (Nat.lt_succ_self _)
end Go.Proofs.YtnabbnhefjfegaaGreatDoor
namespace Go.Proofs.YtnabbnhefjfegaaGreatDoor
open Go.RowKit
/-- A text whose tokens are those of an expression at level k. -/
def RenP (k : Nat) (t : List UInt8) (e : Ex) : Prop := ∃ ts : Nat → List Tk, LxW t ts ∧ ∀ o f, (ts o).length + 1 ≤ f → Ck (primP (exprP f)) k (ts o) e ∧ (5 ≤ k → hdN (ts o))
theorem oprK_len (a : Ex) (k o : Nat) (h : ∀ o, depE a ≤ (toksE a o).length) : depE a ≤ (oprK a k o).length := by
  unfold oprK parK
  split
  · rw [List.length_cons, List.length_append]; have := h (o + 1); omega
  · exact h o
theorem toks_len : ∀ (n : Nat) (e : Ex), sizE e ≤ n → nodeE e = 0 → ∀ o, depE e ≤ (toksE e o).length := by
  intro n
  induction n with
  | zero => intro e h; cases e; rw [sizE] at h; omega
  | succ n ih =>
    intro e hsz hnode o
    cases e with
    | mk op v ns al =>
    obtain ⟨hown, hargs⟩ := node_ok hnode
    obtain ⟨o1, o2, o3, o4, o5, o6, o7, o8, o9⟩ := own_ok hown
    rw [sizE] at hsz
    by_cases c7 : op < 7
    · have hal : al = [] := List.eq_nil_of_length_eq_zero (by rw [o3, argN, if_pos c7])
      subst hal
      have hd : depE (.mk op v ns []) = 1 := by rw [depE, depL]
      rw [hd, toksE]
      by_cases c1 : op = 1
      · rw [if_pos c1]; exact Nat.le_refl _
      rw [if_neg c1]
      by_cases c2 : op = 2
      · rw [if_pos c2]; exact Nat.le_refl _
      rw [if_neg c2]
      by_cases c3 : op = 3
      · rw [if_pos c3]; exact Nat.le_refl _
      rw [if_neg c3]
      by_cases c4 : op = 4
      · rw [if_pos c4]; exact Nat.le_refl _
      rw [if_neg c4]
      by_cases c5 : op = 5
      · rw [if_pos c5]; exact Nat.succ_le_succ (Nat.zero_le _)
      rw [if_neg c5, if_pos (by omega)]; exact Nat.succ_le_succ (Nat.zero_le _)
    by_cases d7 : op = 7
    · subst d7
      obtain ⟨a, rfl⟩ : ∃ a, al = [a] := by
        have hl1 : al.length = 1 := by rw [o3]; rfl
        match al, hl1 with
        | [a], _ => exact ⟨a, rfl⟩
      have ga := oprK_len a 4 (o + 4) (ih a (by rw [sizL, sizL] at hsz; omega) (nodeL_zero hargs a (by simp)))
      have e1 : toksE (.mk 7 v ns [a]) o = wT wNot o :: oprK a 4 (o + 4) := by
        rw [toksE, if_neg (by omega), if_neg (by omega), if_neg (by omega), if_neg (by omega), if_neg (by omega), if_neg (by omega), toksL, toksL]; rfl
      rw [depE, depL, depL, e1, List.length_cons]
      omega
    obtain ⟨a, b, rfl⟩ : ∃ a b, al = [a, b] := by
      have hl1 : al.length = 2 := by rw [o3, argN, if_neg c7, if_neg d7]
      match al, hl1 with
      | [a, b], _ => exact ⟨a, b, rfl⟩
    have ga := oprK_len a (lefN op) o (ih a (by rw [sizL, sizL, sizL] at hsz; omega) (nodeL_zero hargs a (by simp)))
    have gb := oprK_len b (rigN op) (o + (parB (strN a.op) (textE a) (lefN op)).size + (wordB op).size) (ih b (by rw [sizL, sizL, sizL] at hsz; omega) (nodeL_zero hargs b (by simp)))
    have e1 : toksE (.mk op v ns [a, b]) o = oprK a (lefN op) o ++ opK op (o + (parB (strN a.op) (textE a) (lefN op)).size + 1) :: oprK b (rigN op) (o + (parB (strN a.op) (textE a) (lefN op)).size + (wordB op).size) := by
      rw [toksE, if_neg (by omega), if_neg (by omega), if_neg (by omega), if_neg (by omega), if_neg (by omega), if_neg (by omega), toksL, toksL, toksL]; rfl
    rw [depE, depL, depL, depL, e1, List.length_append, List.length_cons]
    omega
/-- The canonical text, at the level of its operator. -/
theorem ren_text {e : Ex} (h : nodeE e = 0) (k : Nat) (h1 : 1 ≤ k) (hk : k ≤ strN e.op) : RenP k (bl (textE e)) e := by
  have hg := good_all _ e (Nat.le_refl _) h
  have e1 : ∀ o, oprK e k o = toksE e o := fun o => by rw [oprK, parK, if_neg (by omega)]
  refine ⟨toksE e, lx_text _ e (Nat.le_refl _) h, fun o f hf => ?_⟩
  have := toks_len _ e (Nat.le_refl _) h o
  have := hg f (by omega) k o h1 (by have := (strN_pos e.op).2; omega)
  rwa [e1] at this
/-- In parentheses: at any level. -/
theorem RenP.par {t : List UInt8} {e : Ex} (h : RenP 1 t e) : RenP 7 ([40] ++ t ++ [41]) e := by
  obtain ⟨ts, hl, hc⟩ := h
  have hlx : LxW ([40] ++ t ++ [41]) (fun o => sT wLp o :: (ts (o + 1) ++ [sT wRp (o + (t.length + 1))])) := by
    refine LxW.of ((LxS.appW lx_lp hl).app (lx_rp.w) (fun r _ => by simp [ndel]; decide)) rfl fun o => ?_
    simp
  refine ⟨_, hlx, fun o f hf => ?_⟩
  rw [List.length_cons, List.length_append, List.length_cons, List.length_nil] at hf
  have hn : hdN (sT wLp o :: (ts (o + 1) ++ [sT wRp (o + (t.length + 1))])) := fun rest => isT_sne (by decide)
  refine ⟨?_, fun _ => hn⟩
  obtain ⟨f, rfl⟩ : ∃ q, f = q + 1 := ⟨f - 1, by omega⟩
  intro rest
  have hb : C1 (primP (exprP f)) (ts (o + 1)) e := (hc (o + 1) f (by omega)).1
  have hb := hb (sT wRp (o + (t.length + 1)) :: rest) _ ⟨fun _ => isT_sne (by decide), fun _ => isT_sne (by decide), fun _ => isT_sne (by decide), fun _ c hc => isT_sne (by revert c; decide), fun _ => isT_sne (by decide)⟩ (Nat.lt_succ_self _)
  rw [List.cons_append, List.append_assoc, List.singleton_append, primP, if_neg (by show ¬(3 : Nat) = 2; omega), isT_sne (by decide), isT_sne (by decide), isT_sne (by decide), isT_sne (by decide), isT_s]
  simp only [Bool.false_eq_true, if_false, if_true]
  rw [exprP_succ, hb, bindR_ok, expT_ok, bindR_ok]
theorem RenP.down {k : Nat} {t : List UInt8} {e : Ex} (h : RenP k t e) (hk : k ≤ 7) (j : Nat) (h1 : 1 ≤ j) (h2 : j ≤ k) : RenP j t e := by
  obtain ⟨ts, hl, hc⟩ := h
  exact ⟨ts, hl, fun o f hf => ⟨Ck.down (hc o f hf).1 hk (hc o f hf).2 j h1 h2, fun h5 => (hc o f hf).2 (by omega)⟩⟩
/-- Two operands in parentheses, or of one token, with an operator between them. -/
theorem RenP.two {op : Nat} {t t' : List UInt8} {e e' : Ex} (h1 : 8 ≤ op) (h2 : op ≤ 16) (h : RenP 7 t e) (h' : RenP 7 t' e') : RenP (strN op) (t ++ bl (wordB op) ++ t') (two op e e') := by
  have g : ∀ k, 1 ≤ k → k ≤ 7 → RenP k t e := fun k h1 h2 => h.down (Nat.le_refl _) k h1 h2
  obtain ⟨ts, hl, hc⟩ := h
  obtain ⟨ts', hl', hc'⟩ := h'
  have hlx : LxW (t ++ bl (wordB op) ++ t') (fun o => ts o ++ opK op (o + t.length + 1) :: ts' (o + (t ++ bl (wordB op)).length)) := by
    refine LxW.of (LxS.appW (hl.appS (lx_op h1 h2) (op_ndel h1 h2)) hl') rfl fun o => ?_
    simp
  refine ⟨_, hlx, fun o f hf => ?_⟩
  rw [List.length_append, List.length_cons] at hf
  have ca := hc o f (by omega)
  have cb := hc' (o + (t ++ bl (wordB op)).length) f (by omega)
  generalize ts o = u at ca ⊢
  generalize ts' (o + (t ++ bl (wordB op)).length) = u' at cb ⊢
  generalize o + t.length + 1 = p1
  have ha : ∀ k, 1 ≤ k → k ≤ 7 → Ck (primP (exprP f)) k u e := fun k h1 h2 => Ck.down ca.1 (Nat.le_refl _) ca.2 k h1 h2
  have hb : ∀ k, 1 ≤ k → k ≤ 7 → Ck (primP (exprP f)) k u' e' := fun k h1 h2 => Ck.down cb.1 (Nat.le_refl _) cb.2 k h1 h2
  have hn : hdN u := ca.2 (by omega)
  by_cases e8 : op = 8
  · subst e8
    exact ⟨b_and (ha 3 (by omega) (by omega)) (hb 4 (by omega) (by omega)), fun h => absurd h (by decide)⟩
  by_cases e9 : op = 9
  · subst e9
    exact ⟨b_or (ha 2 (by omega) (by omega)) (hb 3 (by omega) (by omega)), fun h => absurd h (by decide)⟩
  by_cases e10 : op = 10
  · subst e10
    exact ⟨b_arr (ha 2 (by omega) (by omega)) (hb 1 (by omega) (by omega)), fun h => absurd h (by decide)⟩
  by_cases e16 : op = 16
  · subst e16
    exact ⟨b_add (ha 6 (by omega) (by omega)) (hb 7 (by omega) (by omega)), fun _ => hdN_append hn⟩
  have h5 : strN op = 5 := by unfold strN; rw [if_neg (by omega), if_neg (by omega), if_neg (by omega), if_neg (by omega), if_pos (by omega)]
  rw [h5]
  exact ⟨b_cmp (by omega) (by omega) (ha 6 (by omega) (by omega)) (hb 6 (by omega) (by omega)), fun _ => hdN_append hn⟩
/-- A whole text. -/
theorem RenP.parse {s : ByteArray} {e : Ex} (h : RenP 1 (bl s) e) : ∃ ts : List Tk, scanL s.size (bl s) = .ok ts ∧ ∃ x : Tk, x.kind = 0 ∧ exprP (ts.length + 1) ts = .ok (e, [x]) := by
  obtain ⟨ts, hl, hc⟩ := h
  have h1 := hl s.size [] trivial (by rw [List.append_nil, bl_size]; exact Nat.le_refl _)
  rw [List.append_nil, scan_end, bl_size, Nat.sub_self] at h1
  refine ⟨_, h1, ⟨0, ⟨#[]⟩, 0, s.size⟩, rfl, ?_⟩
  have hb : C1 (primP (exprP ((ts 0).length + 1))) (ts 0) e := (hc 0 _ (Nat.le_refl _)).1
  rw [List.length_append]
  rw [show (ts 0).length + [(⟨0, ⟨#[]⟩, 0, s.size⟩ : Tk)].length + 1 = ((ts 0).length + 1) + 1 from rfl, exprP_succ]
  exact hb _ _ ⟨fun _ => rfl, fun _ => rfl, fun _ => rfl, fun _ c hc => rfl, fun _ => rfl⟩ (Nat.lt_succ_self _)
end Go.Proofs.YtnabbnhefjfegaaGreatDoor
namespace Go.Proofs.YtnabbnhefjfegaaGreatDoor
open Go.RowKit
end Go.Proofs.YtnabbnhefjfegaaGreatDoor
namespace Go.Proofs.YtnabbnhefjfegaaGreatDoor
open Go.RowKit
end Go.Proofs.YtnabbnhefjfegaaGreatDoor
namespace Go.Proofs.YtnabbnhefjfegaaGreatDoor
open Go.RowKit
/-- A text that is one expression. -/
theorem RenP.expr {s : ByteArray} {e : Ex} (h : RenP 1 (bl s) e) (hs : s.size ≤ 8000) : exprM s = if chkE e = 0 then .ok e else .error (0, chkE e) := by
  obtain ⟨ts, h1, x, hx, h2⟩ := h.parse
  have hb : begM s = .ok ts := by rw [begM, if_neg (by omega), h1]
  rw [exprM, hb]
  simp only [h2]
  have he : endM (.ok [x]) = .ok [x] := if_pos hx
  rw [he]
theorem exprM_text {e : Ex} (h : nodeE e = 0) (hs : (textE e).size ≤ 8000) : exprM (textE e) = if chkE e = 0 then .ok e else .error (0, chkE e) :=
  (ren_text h 1 (Nat.le_refl _) (strN_pos _).1).expr hs
def modeW (c : Con) : ByteArray := if c.enf then wEnforce else wDeclare
def kindW (k : Nat) : ByteArray := if k = 1 then wStatic else if k = 2 then wDynamic else wUsers
/-- A line without its semicolon. -/
def line0 (c : Con) : List UInt8 := bl (modeB c) ++ bl (kindB c.kind) ++ bl c.name ++ [58] ++ [32] ++ bl (textE c.ex)
def tok0 (c : Con) (o : Nat) : List Tk := [wT (modeW c) o] ++ [wT (kindW c.kind) (o + (bl (modeB c)).length)] ++ [wT c.name (o + (bl (modeB c) ++ bl (kindB c.kind)).length)] ++ [sT wColon (o + (bl (modeB c) ++ bl (kindB c.kind) ++ bl c.name).length)] ++ toksE c.ex (o + (bl (modeB c) ++ bl (kindB c.kind) ++ bl c.name ++ [58] ++ [32]).length)
/-- A constraint whose line is read back. -/
def conOk (c : Con) : Prop := 1 ≤ c.kind ∧ c.kind ≤ 3 ∧ validS c.name ∧ nodeE c.ex = 0
theorem lx_mode (c : Con) : LxS (bl (modeB c)) (fun o => [wT (modeW c) o]) := by
  have h1 : LxW (bl wEnforce) (fun o => [wT wEnforce o]) := lx_word rfl (by decide) (by decide)
  have h2 : LxW (bl wDeclare) (fun o => [wT wDeclare o]) := lx_word rfl (by decide) (by decide)
  unfold modeB modeW
  split
  · exact (h1.appS lx_blank fun r => by simp [ndel]; decide).of rfl fun o => by simp
  · exact (h2.appS lx_blank fun r => by simp [ndel]; decide).of rfl fun o => by simp
theorem lx_kind {k : Nat} (h1 : 1 ≤ k) (h3 : k ≤ 3) : LxS (bl (kindB k)) (fun o => [wT (kindW k) o]) := by
  have g1 : LxW (bl wStatic) (fun o => [wT wStatic o]) := lx_word rfl (by decide) (by decide)
  have g2 : LxW (bl wDynamic) (fun o => [wT wDynamic o]) := lx_word rfl (by decide) (by decide)
  have g3 : LxW (bl wUsers) (fun o => [wT wUsers o]) := lx_word rfl (by decide) (by decide)
  match k, h1, h3 with
  | 1, _, _ => exact (g1.appS lx_blank fun r => by simp [ndel]; decide).of rfl fun o => by simp [kindW]
  | 2, _, _ => exact (g2.appS lx_blank fun r => by simp [ndel]; decide).of rfl fun o => by simp [kindW]
  | 3, _, _ => exact (g3.appS lx_blank fun r => by simp [ndel]; decide).of rfl fun o => by simp [kindW]
theorem lx_colon : LxS [58] (fun o => [sT wColon o]) := lx_sym rfl (by decide) (by decide) fun _ => rfl
theorem lx_semi : LxS [59] (fun o => [sT wSemi o]) := lx_sym rfl (by decide) (by decide) fun _ => rfl
theorem lx_line0 {c : Con} (h : conOk c) : LxW (line0 c) (tok0 c) := by
  obtain ⟨h1, h3, hn, he⟩ := h
  refine (LxS.appW (((LxW.appS (LxS.appW ((lx_mode c).app (lx_kind h1 h3)) (lx_name hn)) lx_colon (fun r => by simp [ndel]; decide)).app lx_blank)) (lx_text _ c.ex (Nat.le_refl _) he)).of rfl fun o => ?_
  simp [tok0]
theorem stop_kind {k : Nat} {t : Tk} {l : List Tk} (h : t.kind = 0) : Stop k (t :: l) := by
  have : ∀ w, isT w (t :: l) = false := fun w => by simp [isT, h]
  exact ⟨fun _ => this _, fun _ => this _, fun _ => this _, fun _ _ _ => this _, fun _ => this _⟩
theorem stop_semi {k o : Nat} {l : List Tk} : Stop k (sT wSemi o :: l) := ⟨fun _ => isT_sne (by decide), fun _ => isT_sne (by decide), fun _ => isT_sne (by decide), fun _ c hc => isT_sne (by revert c; decide), fun _ => isT_sne (by decide)⟩
theorem con_mid {c : Con} (h : conOk c) {F o : Nat} (hF : depE c.ex + 1 < F) {rest : List Tk} (hs : Stop 1 rest) : conP (exprP F) (tok0 c o ++ rest) = bindR (expT wSemi rest) fun _ l => .ok (c, l) := by
  obtain ⟨h1, h3, hn, he⟩ := h
  have hk2 : ∀ en k o1 o2 o3, conK2 (exprP F) en k (wT c.name o1 :: sT wColon o2 :: (toksE c.ex o3 ++ rest)) = bindR (expT wSemi rest) fun _ l => .ok (⟨en, k, c.name, c.ex⟩, l) := fun en k o1 o2 o3 => by
    rw [conK2, nameT_ok hn, bindR_ok, expT_ok, bindR_ok, parse_back he hF hs, bindR_ok]
  have hk1 : ∀ en o0 o1 o2 o3, conK1 (exprP F) en (wT (kindW c.kind) o0 :: wT c.name o1 :: sT wColon o2 :: (toksE c.ex o3 ++ rest)) = bindR (expT wSemi rest) fun _ l => .ok (⟨en, c.kind, c.name, c.ex⟩, l) := fun en o0 o1 o2 o3 => by
    generalize hq : c.kind = q at h1 h3 ⊢
    match q, h1, h3 with
    | 1, _, _ => rw [show kindW 1 = wStatic from rfl, conK1, isT_w, if_pos rfl, List.tail_cons, hk2]
    | 2, _, _ => rw [show kindW 2 = wDynamic from rfl, conK1, isT_wne (by decide), if_neg (by simp), isT_w, if_pos rfl, List.tail_cons, hk2]
    | 3, _, _ =>
      have hx : ∀ l, expT wUsers (wT wUsers o0 :: l) = .ok ((), l) := fun l => by rw [expT, isT_w, if_pos rfl]; rfl
      rw [show kindW 3 = wUsers from rfl, conK1, isT_wne (by decide), if_neg (by simp), isT_wne (by decide), if_neg (by simp), hx, bindR_ok, hk2]
  obtain ⟨en, k, nm, ex⟩ := c
  simp only [tok0, List.append_assoc, List.cons_append, List.nil_append]
  cases en with
  | true =>
    rw [show modeW ⟨true, k, nm, ex⟩ = wEnforce from rfl, conP, isT_w, if_pos rfl, List.tail_cons]
    exact hk1 _ _ _ _ _
  | false =>
    have hx : ∀ o l, expT wDeclare (wT wDeclare o :: l) = .ok ((), l) := fun o l => by rw [expT, isT_w, if_pos rfl]; rfl
    rw [show modeW ⟨false, k, nm, ex⟩ = wDeclare from rfl, conP, isT_wne (by decide), if_neg (by simp), hx, bindR_ok]
    exact hk1 _ _ _ _ _
/-- A text whose tokens are those of constraints. -/
def SrcP (t : List UInt8) (cs : List Con) : Prop := ∃ ts : Nat → List Tk, LxS t ts ∧ ∀ o, cs.length ≤ (ts o).length ∧ (∀ c ∈ cs, depE c.ex < (ts o).length) ∧ ∀ F, (∀ c ∈ cs, depE c.ex + 1 < F) → ∀ k pre rest, consP (exprP F) (k + cs.length) pre (ts o ++ rest) = consP (exprP F) k (pre ++ cs) rest
theorem SrcP.nil : SrcP [] [] := ⟨fun _ => [], fun N r _ => by rw [List.nil_append, appR_nil], fun o => ⟨Nat.le_refl _, fun c h => (by cases h), fun F _ k pre rest => by rw [List.append_nil]; rfl⟩⟩
theorem SrcP.app {t t' : List UInt8} {cs cs' : List Con} (h : SrcP t cs) (h' : SrcP t' cs') : SrcP (t ++ t') (cs ++ cs') := by
  obtain ⟨ts, hl, hc⟩ := h
  obtain ⟨ts', hl', hc'⟩ := h'
  refine ⟨_, hl.app hl', fun o => ?_⟩
  obtain ⟨a1, a2, a3⟩ := hc o
  obtain ⟨b1, b2, b3⟩ := hc' (o + t.length)
  refine ⟨by simp only [List.length_append]; omega, fun c hm => ?_, fun F hF k pre rest => ?_⟩
  · rw [List.length_append]
    rcases List.mem_append.1 hm with hm | hm
    · have := a2 c hm; omega
    · have := b2 c hm; omega
  · rw [List.length_append, List.append_assoc, show k + (cs.length + cs'.length) = (k + cs'.length) + cs.length by omega, a3 F (fun c hm => hF c (List.mem_append_left _ hm)), b3 F (fun c hm => hF c (List.mem_append_right _ hm)), List.append_assoc]
theorem tok0_hd {c : Con} {o : Nat} {l : List Tk} : hdK (tok0 c o ++ l) = 1 := by simp [tok0, hdK, wT]
theorem tok0_len {c : Con} (h : conOk c) (o : Nat) : depE c.ex + 4 ≤ (tok0 c o).length := by
  have := toks_len _ c.ex (Nat.le_refl _) h.2.2.2 (o + (bl (modeB c) ++ bl (kindB c.kind) ++ bl c.name ++ [58] ++ [32]).length)
  simp only [tok0, List.length_append, List.length_cons, List.length_nil] at this ⊢
  omega
theorem SrcP.line {c : Con} (h : conOk c) : SrcP (line0 c ++ [59]) [c] := by
  refine ⟨_, (lx_line0 h).appS lx_semi (fun r => by simp [ndel]; decide), fun o => ⟨?_, fun d hd => ?_, fun F hF k pre rest => ?_⟩⟩
  · simp
  · rw [List.mem_singleton.1 hd, List.length_append]
    have := tok0_len h o
    omega
  · rw [List.append_assoc, List.singleton_append, List.length_singleton, consP, if_neg (by rw [tok0_hd]; decide), con_mid h (hF c (by simp)) stop_semi, expT_ok, bindR_ok]
/-- A whole source. -/
theorem SrcP.parse {s : ByteArray} {cs : List Con} (h : SrcP (bl s) cs) (hs : s.size ≤ 8000) : parseM s = if chkAll cs = 0 then .ok cs else .error (0, chkAll cs) := by
  obtain ⟨ts, hl, hc⟩ := h
  have h1 := hl s.size [] (by rw [List.append_nil, bl_size]; exact Nat.le_refl _)
  rw [List.append_nil, scan_end, bl_size, Nat.sub_self] at h1
  have hb : begM s = .ok (ts 0 ++ [⟨0, ⟨#[]⟩, 0, s.size⟩]) := by rw [begM, if_neg (by omega), h1]; rfl
  obtain ⟨a1, a2, a3⟩ := hc 0
  have h2 : consP (exprP ((ts 0 ++ [(⟨0, ⟨#[]⟩, 0, s.size⟩ : Tk)]).length + 1)) ((ts 0 ++ [(⟨0, ⟨#[]⟩, 0, s.size⟩ : Tk)]).length + 1) [] (ts 0 ++ [⟨0, ⟨#[]⟩, 0, s.size⟩]) = .ok cs := by
    obtain ⟨k, hk⟩ : ∃ k, (ts 0 ++ [(⟨0, ⟨#[]⟩, 0, s.size⟩ : Tk)]).length + 1 = (k + 1) + cs.length := ⟨(ts 0).length + 1 - cs.length, by simp only [List.length_append, List.length_cons, List.length_nil]; omega⟩
    rw [hk, a3 _ (fun c hm => by have := a2 c hm; simp only [List.length_append, List.length_cons, List.length_nil] at hk; omega), List.nil_append, consP_stop rfl]
  rw [parseM, hb]
  simp only [h2]
/-- The last semicolon lacks. -/
theorem SrcP.open {s : ByteArray} {t : List UInt8} {cs : List Con} {c : Con} (h : SrcP t cs) (hc : conOk c) (e : bl s = t ++ line0 c) (hs : s.size ≤ 8000) : parseM s = .error (s.size, 8) := by
  obtain ⟨ts, hl, hd⟩ := h
  have hx := LxS.appW hl (lx_line0 hc)
  rw [← e] at hx
  have h1 := hx s.size [] trivial (by rw [List.append_nil, bl_size]; exact Nat.le_refl _)
  rw [List.append_nil, scan_end, bl_size, Nat.sub_self] at h1
  simp only [Nat.zero_add] at h1
  have hb : begM s = .ok ((ts 0 ++ tok0 c t.length) ++ [⟨0, ⟨#[]⟩, 0, s.size⟩]) := by rw [begM, if_neg (by omega), h1]; rfl
  obtain ⟨a1, a2, a3⟩ := hd 0
  have hln := tok0_len hc t.length
  have h2 : consP (exprP (((ts 0 ++ tok0 c t.length) ++ [(⟨0, ⟨#[]⟩, 0, s.size⟩ : Tk)]).length + 1)) (((ts 0 ++ tok0 c t.length) ++ [(⟨0, ⟨#[]⟩, 0, s.size⟩ : Tk)]).length + 1) [] ((ts 0 ++ tok0 c t.length) ++ [⟨0, ⟨#[]⟩, 0, s.size⟩]) = .error (s.size, 8) := by
    obtain ⟨k, hk⟩ : ∃ k, ((ts 0 ++ tok0 c t.length) ++ [(⟨0, ⟨#[]⟩, 0, s.size⟩ : Tk)]).length + 1 = (k + 1) + cs.length := ⟨(ts 0).length + (tok0 c t.length).length + 1 - cs.length, by simp only [List.length_append, List.length_cons, List.length_nil]; omega⟩
    rw [hk, List.append_assoc, a3 _ (fun d hm => by have := a2 d hm; simp only [List.length_append, List.length_cons, List.length_nil] at hk; omega), consP, if_neg (by rw [tok0_hd]; decide), con_mid hc (by simp only [List.length_append, List.length_cons, List.length_nil] at hk; omega) (stop_kind rfl)]
    rfl
  rw [parseM, hb]
  simp only [h2]
/-- A semicolon too many. -/
theorem SrcP.more {s : ByteArray} {t : List UInt8} {cs : List Con} (h : SrcP t cs) (e : bl s = t ++ [59]) (hs : s.size ≤ 8000) : parseM s = .error (t.length, 8) := by
  obtain ⟨ts, hl, hd⟩ := h
  have hx := LxS.app hl lx_semi
  rw [← e] at hx
  have h1 := hx s.size [] (by rw [List.append_nil, bl_size]; exact Nat.le_refl _)
  rw [List.append_nil, scan_end, bl_size, Nat.sub_self] at h1
  simp only [Nat.zero_add] at h1
  have hb : begM s = .ok ((ts 0 ++ [sT wSemi t.length]) ++ [⟨0, ⟨#[]⟩, 0, s.size⟩]) := by rw [begM, if_neg (by omega), h1]; rfl
  obtain ⟨a1, a2, a3⟩ := hd 0
  have h2 : consP (exprP (((ts 0 ++ [sT wSemi t.length]) ++ [(⟨0, ⟨#[]⟩, 0, s.size⟩ : Tk)]).length + 1)) (((ts 0 ++ [sT wSemi t.length]) ++ [(⟨0, ⟨#[]⟩, 0, s.size⟩ : Tk)]).length + 1) [] ((ts 0 ++ [sT wSemi t.length]) ++ [⟨0, ⟨#[]⟩, 0, s.size⟩]) = .error (t.length, 8) := by
    obtain ⟨k, hk⟩ : ∃ k, ((ts 0 ++ [sT wSemi t.length]) ++ [(⟨0, ⟨#[]⟩, 0, s.size⟩ : Tk)]).length + 1 = (k + 1) + cs.length := ⟨(ts 0).length + 1 + 1 - cs.length, by simp only [List.length_append, List.length_cons, List.length_nil]; omega⟩
    rw [hk, List.append_assoc, a3 _ (fun d hm => by have := a2 d hm; simp only [List.length_append, List.length_cons, List.length_nil] at hk; omega), consP, if_neg (by simp [hdK, sT])]
    rfl
  rw [parseM, hb]
  simp only [h2]
end Go.Proofs.YtnabbnhefjfegaaGreatDoor
namespace Go.Proofs.YtnabbnhefjfegaaGreatDoor
open Go.RowKit
def leafE (s : ByteArray) : Ex := .mk 4 0 [s] []
theorem valid_of {s : ByteArray} (h1 : s.size ≠ 0) (h2 : s.size ≤ 12) (h3 : s ∉ keyws) (h4 : (List.range s.size).all (fun k => match s[k]? with | some b => innB b && (k != 0 || letB b) | none => true) = true) : validS s := by
  refine ⟨h1, h2, h3, fun k b _ hb => ?_⟩
  have hk : k < s.size := by
    rcases Nat.lt_or_ge k s.size with h | h
    · exact h
    · rw [ByteArray.getElem?_ge' s k (by omega)] at hb; cases hb
  have := List.all_eq_true.1 h4 k (List.mem_range.2 hk)
  rw [hb] at this
  simp only [Bool.and_eq_true, Bool.or_eq_true, bne_iff_ne, ne_eq] at this
  exact ⟨this.1, fun h0 => this.2.resolve_left fun h => h h0⟩
theorem valA : validS ⟨#[97]⟩ := valid_of (by decide) (by decide) (by simp [keyws]) (by decide)
theorem node_of {op : Nat} {n : Int} {ns : List ByteArray} {al : List Ex} (h1 : ¬(op < 1 ∨ 16 < op ∨ al.length ≠ argN op)) (h2 : ¬((n ≠ 0 ∧ op ≠ 1) ∨ ¬namN op ns.length)) (h3 : ∀ s ∈ ns, validS s) (h4 : ns.Nodup) (h5 : ¬(n < 0 ∨ 999999 < n)) (h6 : nodeL al = 0) : nodeE (.mk op n ns al) = 0 := by
  rw [node_args (own0' h1 h2 h3 h4 h5), h6]
theorem nodeL_of {al : List Ex} (h : ∀ a ∈ al, nodeE a = 0) : nodeL al = 0 := by
  induction al with
  | nil => rfl
  | cons a al ih => rw [nodeL, if_neg (fun hh => hh (h a (by simp))), ih fun x hx => h x (by simp [hx])]
theorem leaf_node {s : ByteArray} (h : validS s) : nodeE (leafE s) = 0 := node_of (by decide) (fun h => h.elim (fun h => h.1 rfl) (fun h => h (show namN 4 1 by decide))) (fun t ht => by rw [List.mem_singleton.1 ht]; exact h) (by simp) (by decide) rfl
theorem two_node {op : Nat} {a b : Ex} (h1 : 8 ≤ op) (h2 : op ≤ 16) (ha : nodeE a = 0) (hb : nodeE b = 0) : nodeE (.mk op 0 [] [a, b]) = 0 := by
  refine node_of ?_ ?_ (fun t ht => by cases ht) (by simp) (by decide) (nodeL_of fun x hx => ?_)
  · have : argN op = 2 := by unfold argN; rw [if_neg (by omega), if_neg (by omega)]
    simp only [List.length_cons, List.length_nil]; omega
  · rintro (⟨h, _⟩ | h)
    · exact h rfl
    · refine h ?_
      unfold namN
      rw [if_neg (by omega), if_neg (by omega)]; rfl
  · rcases List.mem_cons.1 hx with rfl | hx
    · exact ha
    · rw [List.mem_singleton.1 hx]; exact hb
def lA : Ex := leafE ⟨#[97]⟩
end Go.Proofs.YtnabbnhefjfegaaGreatDoor
namespace Go.Proofs.YtnabbnhefjfegaaGreatDoor
open Go.RowKit
theorem rep_snoc (l : List UInt8) : ∀ n, Lib.repeatL l (n + 1) = Lib.repeatL l n ++ l
  | 0 => by simp [Lib.repeatL]
  | n + 1 => by
    show l ++ Lib.repeatL l (n + 1) = (l ++ Lib.repeatL l n) ++ l
    rw [rep_snoc l n, List.append_assoc]
theorem bl_lA : bl (textE lA) = [97] := by kernel_rfl
def notN : Nat → Ex
  | 0 => lA
  | n + 1 => .mk 7 0 [] [notN n]
theorem notN_str : ∀ n, 4 ≤ strN (notN n).op
  | 0 => by decide
  | _ + 1 => by show 4 ≤ strN 7; decide
theorem notN_text : ∀ n, bl (textE (notN n)) = Lib.repeatL [110, 111, 116, 32] n ++ [97]
  | 0 => bl_lA
  | n + 1 => by
    have e : textE (notN (n + 1)) = ⟨#[110, 111, 116, 32]⟩ ++ parB (strN (notN n).op) (textE (notN n)) 4 := by
      rw [notN, textE, textL, textL]; rfl
    rw [e, parB, if_neg (by have := notN_str n; omega), bl_app, notN_text n, Lib.repeatL, List.append_assoc]
theorem notN_dep : ∀ n, depE (notN n) = n + 1 ∧ sizE (notN n) = n + 1
  | 0 => ⟨by kernel_rfl, by kernel_rfl⟩
  | n + 1 => by
    obtain ⟨h1, h2⟩ := notN_dep n
    rw [notN, depE, depL, depL, sizE, sizL, sizL, h1, h2]
    omega
theorem notN_node : ∀ n, nodeE (notN n) = 0
  | 0 => leaf_node valA
  | n + 1 => node_of (by simp [argN]) (by simp [namN]) (fun t ht => by cases ht) (by simp) (by decide) (nodeL_of fun x hx => by rw [List.mem_singleton.1 hx]; exact notN_node n)
theorem notN_chk {n : Nat} (h : n < 30) : chkE (notN n) = if n + 1 ≤ 10 then 0 else 3 := by
  obtain ⟨h1, h2⟩ := notN_dep n
  rw [chkE, h1, h2, notN_node]
  by_cases hc : n + 1 ≤ 10
  · rw [if_neg (by omega), if_pos hc]
  · rw [if_pos (by omega), if_neg hc]
def andN : Nat → Ex
  | 0 => lA
  | n + 1 => .mk 8 0 [] [andN n, lA]
theorem andN_str : ∀ n, 3 ≤ strN (andN n).op
  | 0 => by decide
  | _ + 1 => by show 3 ≤ strN 8; decide
theorem andN_text : ∀ n, bl (textE (andN n)) = [97] ++ Lib.repeatL [32, 97, 110, 100, 32, 97] n
  | 0 => bl_lA
  | n + 1 => by
    have e : textE (andN (n + 1)) = parB (strN (andN n).op) (textE (andN n)) (lefN 8) ++ wordB 8 ++ parB (strN lA.op) (textE lA) (rigN 8) := by
      rw [andN, textE, textL, textL, textL]; rfl
    rw [e, parB, if_neg (by have := andN_str n; show ¬_ < 3; omega), parB, if_neg (by decide), bl_app, bl_app, andN_text n, bl_lA, rep_snoc]
    simp only [List.append_assoc]
    rfl
theorem andN_dep : ∀ n, depE (andN n) = n + 1 ∧ sizE (andN n) = 2 * n + 1
  | 0 => ⟨by kernel_rfl, by kernel_rfl⟩
  | n + 1 => by
    obtain ⟨h1, h2⟩ := andN_dep n
    have e1 : depE lA = 1 := by kernel_rfl
    have e2 : sizE lA = 1 := by kernel_rfl
    rw [andN, depE, depL, depL, depL, sizE, sizL, sizL, sizL, h1, h2, e1, e2]
    omega
theorem andN_node : ∀ n, nodeE (andN n) = 0
  | 0 => leaf_node valA
  | n + 1 => two_node (by omega) (by omega) (andN_node n) (leaf_node valA)
theorem andN_chk (n : Nat) : chkE (andN n) = if n + 1 ≤ 10 then 0 else 3 := by
  obtain ⟨h1, h2⟩ := andN_dep n
  rw [chkE, h1, h2, andN_node]
  by_cases hc : n + 1 ≤ 10
  · rw [if_neg (by omega), if_pos hc]
  · rw [if_pos (by omega), if_neg hc]
theorem parN_ren : ∀ m, RenP 7 (Lib.repeatL [40] m ++ [97] ++ Lib.repeatL [41] m) lA
  | 0 => by
    have := ren_text (e := lA) (leaf_node valA) 7 (by omega) (by decide)
    rwa [bl_lA] at this
  | m + 1 => by
    have h := (parN_ren m).down (Nat.le_refl _) 1 (Nat.le_refl _) (by omega)
    have := h.par
    rw [rep_snoc [41] m, Lib.repeatL]
    simpa only [List.append_assoc] using this
def nmN (i : Nat) : ByteArray := ⟨#[99, UInt8.ofNat (97 + i / 26), UInt8.ofNat (97 + i % 26)]⟩
def conN (i : Nat) : Con := ⟨false, 1, nmN i, .mk 2 0 [] []⟩
def consN (k : Nat) : List Con := (List.range k).map conN
theorem nmN_valid {i : Nat} (h : i < 40) : validS (nmN i) := by
  have h1 : (List.range 40).all (fun i => validB (nmN i)) = true := by kernel_rfl
  exact validB_iff.1 (List.all_eq_true.1 h1 i (List.mem_range.2 h))
theorem consN_chk {k : Nat} (h : k < 40) : chkAll (consN k) = if k ≤ 32 then 0 else 3 := by
  by_cases h32 : k ≤ 32
  · rw [if_pos h32]
    have h1 : (List.range 33).all (fun k => decide (chkAll (consN k) = 0)) = true := by kernel_rfl
    exact of_decide_eq_true (List.all_eq_true.1 h1 k (List.mem_range.2 (by omega)))
  · rw [if_neg h32, chkAll, if_pos (by rw [consN, List.length_map, List.length_range]; omega)]
def lineN (i : Nat) : ByteArray := ⟨#[100, 101, 99, 108, 97, 114, 101, 32, 115, 116, 97, 116, 105, 99, 32]⟩ ++ nmN i ++ ⟨#[58, 32, 116, 114, 117, 101, 59]⟩
theorem lineN_eq (i : Nat) : bl (lineN i) = line0 (conN i) ++ [59] := by
  have e : bl (textE (conN i).ex) = [116, 114, 117, 101] := by rw [show (conN i).ex = .mk 2 0 [] [] from rfl]; kernel_rfl
  rw [lineN, line0, e, bl_app, bl_app]
  rfl
def srcN : Nat → ByteArray
  | 0 => ⟨#[]⟩
  | k + 1 => srcN k ++ lineN k
theorem lineN_size (i : Nat) : (lineN i).size = 25 := by
  rw [lineN, ByteArray.size_append, ByteArray.size_append]; rfl
theorem srcN_size : ∀ k, (srcN k).size = 25 * k
  | 0 => rfl
  | k + 1 => by rw [srcN, ByteArray.size_append, srcN_size k, lineN_size]; omega
theorem srcN_src : ∀ k, k ≤ 40 → SrcP (bl (srcN k)) (consN k)
  | 0, _ => SrcP.nil
  | k + 1, h => by
    have h1 := srcN_src k (by omega)
    have h2 : SrcP (bl (lineN k)) [conN k] := by
      rw [lineN_eq]
      exact SrcP.line ⟨by show 1 ≤ 1; omega, by show 1 ≤ 3; omega, nmN_valid (by omega), by show nodeE (.mk 2 0 [] []) = 0; kernel_rfl⟩
    rw [srcN, bl_app, consN, List.range_succ, List.map_append]
    exact h1.app h2
theorem srcN_parse {k : Nat} (h : k < 40) : parseM (srcN k) = if k ≤ 32 then .ok (consN k) else .error (0, 3) := by
  rw [SrcP.parse (srcN_src k (by omega)) (by rw [srcN_size]; omega), consN_chk h]
  by_cases h32 : k ≤ 32
  · rw [if_pos h32, if_pos rfl, if_pos h32]
  · rw [if_neg h32, if_neg (by omega), if_neg h32]
end Go.Proofs.YtnabbnhefjfegaaGreatDoor
namespace Go.Proofs.YtnabbnhefjfegaaGreatDoor
open Go.RowKit
def repB (s : ByteArray) (c : Nat) : ByteArray := ⟨(Lib.repeatL (bl s) c).toArray⟩
theorem repB_bl (s : ByteArray) (c : Nat) : bl (repB s c) = Lib.repeatL (bl s) c := by simp [repB, bl]
theorem repB_size (s : ByteArray) (c : Nat) : (repB s c).size = c * s.size := by rw [← bl_size, repB_bl, Lib.repeatL_length, bl_size]
theorem repeat_spec {X : PMap} {s : ByteArray} {c : Nat} (hc : c ≤ 1000000) (hs : s.size ≤ 1000) : Spec Tryz.prog 34 [.string s, .int .i64 (c : Int)] X fun u _ => u = .string (repB s c) := fun w hw => by
  have hm : s.size * c ≤ 1000 * 1000000 := Nat.mul_le_mul hs hc
  have h := Any.strings_Repeat lays105 extra105 s c w (by omega) (by omega)
  refine h.mono ?_
  rintro e w' ⟨rfl, hB⟩
  refine ⟨_, X, rfl, ⟨hB.os, hB.tape, hB.output, hB.size, fun k hk => hB.block k hk⟩, fun k o hk => ?_, fun _ _ => rfl, rfl⟩
  rw [hB.block k (hw.lt hk)]; exact hw k o hk
end Go.Proofs.YtnabbnhefjfegaaGreatDoor
namespace Go.Proofs.YtnabbnhefjfegaaGreatDoor
open Go.RowKit
end Go.Proofs.YtnabbnhefjfegaaGreatDoor
namespace Go.Proofs.YtnabbnhefjfegaaGreatDoor
open Go.RowKit
end Go.Proofs.YtnabbnhefjfegaaGreatDoor
namespace Go.Proofs.YtnabbnhefjfegaaGreatDoor
open Go.RowKit
def rcTi (t : Tk) : List Value := [.int .i64 (t.kind : Int), .string t.text, .int .i64 (t.num : Int), .int .i64 (t.off : Int)]
end Go.Proofs.YtnabbnhefjfegaaGreatDoor
namespace Go.Proofs.YtnabbnhefjfegaaGreatDoor
open Go.RowKit
structure TksI (X : PMap) (v : Value) (ts : List Tk) : Prop where
  row : RowR rcTi X v ts
  len : ts.length < 1000000
  fin : ∀ t, ts[ts.length - 1]? = some t → t.kind = 0
  num : ∀ t ∈ ts, t.kind = 2 → t.num ≤ 999999
theorem TksI.mono {X X' : PMap} {v : Value} {ts : List Tk} (h : TksI X v ts) (hX : X.le X') : TksI X' v ts := ⟨h.row.mono hX, h.len, h.fin, h.num⟩
end Go.Proofs.YtnabbnhefjfegaaGreatDoor
namespace Go.Proofs.YtnabbnhefjfegaaGreatDoor
open Go.RowKit
end Go.Proofs.YtnabbnhefjfegaaGreatDoor
namespace Go.Proofs.YtnabbnhefjfegaaGreatDoor
open Go.RowKit
end Go.Proofs.YtnabbnhefjfegaaGreatDoor
namespace Go.Proofs.YtnabbnhefjfegaaGreatDoor
open Go.RowKit
end Go.Proofs.YtnabbnhefjfegaaGreatDoor
namespace Go.Proofs.YtnabbnhefjfegaaGreatDoor
open Go.RowKit
end Go.Proofs.YtnabbnhefjfegaaGreatDoor
namespace Go.Proofs.YtnabbnhefjfegaaGreatDoor
open Go.RowKit
end Go.Proofs.YtnabbnhefjfegaaGreatDoor
namespace Go.Proofs.YtnabbnhefjfegaaGreatDoor
open Go.RowKit
end Go.Proofs.YtnabbnhefjfegaaGreatDoor
namespace Go.Proofs.YtnabbnhefjfegaaGreatDoor
open Go.RowKit
end Go.Proofs.YtnabbnhefjfegaaGreatDoor
namespace Go.Proofs.YtnabbnhefjfegaaGreatDoor
open Go.RowKit
end Go.Proofs.YtnabbnhefjfegaaGreatDoor
namespace Go.Proofs.YtnabbnhefjfegaaGreatDoor
open Go.RowKit
end Go.Proofs.YtnabbnhefjfegaaGreatDoor
namespace Go.Proofs.YtnabbnhefjfegaaGreatDoor
open Go.RowKit
abbrev r1 : Row4 := (.int .i64 0, .int .i64 0, .slice none 0 0, .slice none 0 0)
end Go.Proofs.YtnabbnhefjfegaaGreatDoor
namespace Go.Proofs.YtnabbnhefjfegaaGreatDoor
open Go.RowKit
end Go.Proofs.YtnabbnhefjfegaaGreatDoor
namespace Go.Proofs.YtnabbnhefjfegaaGreatDoor
open Go.RowKit
end Go.Proofs.YtnabbnhefjfegaaGreatDoor
namespace Go.Proofs.YtnabbnhefjfegaaGreatDoor
open Go.RowKit
end Go.Proofs.YtnabbnhefjfegaaGreatDoor
namespace Go.Proofs.YtnabbnhefjfegaaGreatDoor
open Go.RowKit
theorem expr17_ok {X : PMap} {s : ByteArray} {e : Ex} (h : exprM s = .ok e) (hs : s.size < 1000000000) : Spec Tryz.prog 20 [.string s] X fun u X' => ∃ r : Row4, u = .tuple #[.agg #[r.1, r.2.1, r.2.2.1, r.2.2.2], .int .i64 0, .int .i64 0] ∧ ExR .u8 X' e r := by
  have := expr17_spec (X := X) hs
  simp only [h] at this
  exact this
theorem expr17_err {X : PMap} {s : ByteArray} {x : Nat × Int} (h : exprM s = .error x) (hs : s.size < 1000000000) : Spec Tryz.prog 20 [.string s] X fun u _ => u = .tuple #[.agg #[.int .u8 0, .int .i64 0, .slice none 0 0, .slice none 0 0], .int .i64 (x.1 : Int), .int .i64 x.2] := by
  have := expr17_spec (X := X) hs
  simp only [h] at this
  exact this
def aw1 : List (ByteArray × ByteArray) := [(⟨#[97, 32, 111, 114, 32, 98, 32, 97, 110, 100, 32, 110, 111, 116, 32, 99, 32, 45, 62, 32, 100]⟩, ⟨#[97, 32, 111, 114, 32, 98, 32, 97, 110, 100, 32, 110, 111, 116, 32, 99, 32, 45, 62, 32, 100]⟩), (⟨#[110, 111, 116, 40, 99, 111, 117, 110, 116, 40, 97, 44, 98, 41, 60, 61, 49, 41]⟩, ⟨#[110, 111, 116, 32, 99, 111, 117, 110, 116, 40, 97, 44, 32, 98, 41, 32, 60, 61, 32, 49]⟩), (⟨#[40, 40, 49, 41, 43, 50, 41, 43, 40, 51, 41, 60, 55]⟩, ⟨#[49, 32, 43, 32, 50, 32, 43, 32, 51, 32, 60, 32, 55]⟩)]
def aw2 : List (ByteArray × Nat × Int) := [(⟨#[97, 32, 60, 32, 98, 32, 60, 32, 99]⟩, 6, 8), (⟨#[97, 32, 97, 110, 100]⟩, 5, 8), (⟨#[97, 32, 97, 110, 100, 32, 111, 114]⟩, 6, 8), (⟨#[99, 111, 117, 110, 116, 40, 41]⟩, 6, 8), (⟨#[97, 32, 97, 110, 100, 32, 116, 104, 105, 114, 116, 101, 101, 110, 95, 108, 111, 110, 103]⟩, 6, 9), (⟨#[99, 111, 117, 110, 116, 40, 97, 44, 32, 97, 41, 32, 61, 61, 32, 49]⟩, 0, 5)]
def rcA (x : ByteArray × ByteArray) : List Value := [.string x.1, .string x.2]
theorem rcA_len (x : ByteArray × ByteArray) : (rcA x).length = 2 := rfl
def rcB (x : ByteArray × Nat × Int) : List Value := [.string x.1, .int .i64 (x.2.1 : Int), .int .i64 x.2.2]
theorem rcB_len (x : ByteArray × Nat × Int) : (rcB x).length = 3 := rfl
theorem mem3 {α : Type} {a b c : α} {P : α → Prop} (h1 : P a) (h2 : P b) (h3 : P c) : ∀ x ∈ [a, b, c], P x := fun x hx => by
  simp only [List.mem_cons, List.not_mem_nil, or_false] at hx
  rcases hx with rfl | rfl | rfl
  · exact h1
  · exact h2
  · exact h3
def ex1 : Ex := .mk 10 0 [] [.mk 9 0 [] [.mk 4 0 [⟨#[97]⟩] [], .mk 8 0 [] [.mk 4 0 [⟨#[98]⟩] [], .mk 7 0 [] [.mk 4 0 [⟨#[99]⟩] []]]], .mk 4 0 [⟨#[100]⟩] []]
def ex2 : Ex := .mk 7 0 [] [.mk 11 0 [] [.mk 5 0 [⟨#[97]⟩, ⟨#[98]⟩] [], .mk 1 1 [] []]]
def ex3 : Ex := .mk 12 0 [] [.mk 16 0 [] [.mk 16 0 [] [.mk 1 1 [] [], .mk 1 2 [] []], .mk 1 3 [] []], .mk 1 7 [] []]
theorem aw1_1 : exprM ⟨#[97, 32, 111, 114, 32, 98, 32, 97, 110, 100, 32, 110, 111, 116, 32, 99, 32, 45, 62, 32, 100]⟩ = .ok ex1 := by kernel_rfl
theorem aw1c_1 : chkE ex1 = 0 := by kernel_rfl
theorem aw1t_1 : textE ex1 = ⟨#[97, 32, 111, 114, 32, 98, 32, 97, 110, 100, 32, 110, 111, 116, 32, 99, 32, 45, 62, 32, 100]⟩ := by kernel_rfl
theorem aw1w_1 : wtE ex1 < 900000 := of_decide_eq_true (by kernel_rfl)
theorem aw1_2 : exprM ⟨#[110, 111, 116, 40, 99, 111, 117, 110, 116, 40, 97, 44, 98, 41, 60, 61, 49, 41]⟩ = .ok ex2 := by kernel_rfl
theorem aw1c_2 : chkE ex2 = 0 := by kernel_rfl
theorem aw1t_2 : textE ex2 = ⟨#[110, 111, 116, 32, 99, 111, 117, 110, 116, 40, 97, 44, 32, 98, 41, 32, 60, 61, 32, 49]⟩ := by kernel_rfl
theorem aw1w_2 : wtE ex2 < 900000 := of_decide_eq_true (by kernel_rfl)
theorem aw1_3 : exprM ⟨#[40, 40, 49, 41, 43, 50, 41, 43, 40, 51, 41, 60, 55]⟩ = .ok ex3 := by kernel_rfl
theorem aw1c_3 : chkE ex3 = 0 := by kernel_rfl
theorem aw1t_3 : textE ex3 = ⟨#[49, 32, 43, 32, 50, 32, 43, 32, 51, 32, 60, 32, 55]⟩ := by kernel_rfl
theorem aw1w_3 : wtE ex3 < 900000 := of_decide_eq_true (by kernel_rfl)
theorem aw2_1 : exprM ⟨#[97, 32, 60, 32, 98, 32, 60, 32, 99]⟩ = .error (6, 8) := by kernel_rfl
theorem aw2_2 : exprM ⟨#[97, 32, 97, 110, 100]⟩ = .error (5, 8) := by kernel_rfl
theorem aw2_3 : exprM ⟨#[97, 32, 97, 110, 100, 32, 111, 114]⟩ = .error (6, 8) := by kernel_rfl
theorem aw2_4 : exprM ⟨#[99, 111, 117, 110, 116, 40, 41]⟩ = .error (6, 8) := by kernel_rfl
theorem aw2_5 : exprM ⟨#[97, 32, 97, 110, 100, 32, 116, 104, 105, 114, 116, 101, 101, 110, 95, 108, 111, 110, 103]⟩ = .error (6, 9) := by kernel_rfl
theorem aw2_6 : exprM ⟨#[99, 111, 117, 110, 116, 40, 97, 44, 32, 97, 41, 32, 61, 61, 32, 49]⟩ = .error (0, 5) := by kernel_rfl
theorem aw1_ok : ∀ x ∈ aw1, x.1.size < 1000000000 ∧ ∃ e, exprM x.1 = .ok e ∧ chkE e = 0 ∧ textE e = x.2 ∧ wtE e < 900000 :=
  mem3 ⟨of_decide_eq_true (by kernel_rfl), _, aw1_1, aw1c_1, aw1t_1, aw1w_1⟩ ⟨of_decide_eq_true (by kernel_rfl), _, aw1_2, aw1c_2, aw1t_2, aw1w_2⟩ ⟨of_decide_eq_true (by kernel_rfl), _, aw1_3, aw1c_3, aw1t_3, aw1w_3⟩
theorem aw2_ok : ∀ x ∈ aw2, x.1.size < 1000000000 ∧ exprM x.1 = .error (x.2.1, x.2.2) := fun x hx => by
  simp only [aw2, List.mem_cons, List.not_mem_nil, or_false] at hx
  rcases hx with rfl | rfl | rfl | rfl | rfl | rfl
  · exact ⟨of_decide_eq_true (by kernel_rfl), aw2_1⟩
  · exact ⟨of_decide_eq_true (by kernel_rfl), aw2_2⟩
  · exact ⟨of_decide_eq_true (by kernel_rfl), aw2_3⟩
  · exact ⟨of_decide_eq_true (by kernel_rfl), aw2_4⟩
  · exact ⟨of_decide_eq_true (by kernel_rfl), aw2_5⟩
  · exact ⟨of_decide_eq_true (by kernel_rfl), aw2_6⟩
def awS : ByteArray := ⟨#[101, 110, 102, 111, 114, 99, 101, 32, 115, 116, 97, 116, 105, 99, 32, 115, 111, 100, 58, 32, 99, 111, 117, 110, 116, 40, 97, 44, 32, 98, 41, 32, 60, 61, 32, 49, 59, 32, 35, 32, 116, 119, 111, 10, 100, 101, 99, 108, 97, 114, 101, 32, 117, 115, 101, 114, 115, 32, 117, 58, 109, 101, 109, 98, 101, 114, 115, 40, 97, 41, 62, 48, 59]⟩
def awC : List Con := [⟨true, 1, ⟨#[115, 111, 100]⟩, .mk 11 0 [] [.mk 5 0 [⟨#[97]⟩, ⟨#[98]⟩] [], .mk 1 1 [] []]⟩, ⟨false, 3, ⟨#[117]⟩, .mk 14 0 [] [.mk 6 0 [⟨#[97]⟩] [], .mk 1 0 [] []]⟩]
theorem aw3 : parseM awS = .ok awC := by kernel_rfl
end Go.Proofs.YtnabbnhefjfegaaGreatDoor
namespace Go.Proofs.YtnabbnhefjfegaaGreatDoor
section
set_option maxRecDepth 100000
theorem bs76 : ∃ i z, Tryz.prog.info? 76 = some i ∧ i.size = 2 ∧ i.zero = some z ∧ z.cells = ([.string ⟨#[]⟩, .string ⟨#[]⟩] : List Value).toArray := bs_of (by kernel_rfl)
theorem bs78 : ∃ i z, Tryz.prog.info? 78 = some i ∧ i.size = 3 ∧ i.zero = some z ∧ z.cells = ([.string ⟨#[]⟩, .int .i64 0, .int .i64 0] : List Value).toArray := bs_of (by kernel_rfl)
theorem en18 : Enters Tryz.prog 18 := enters_mk Tryz.func18 (by kernel_rfl) rfl
theorem en20 : Enters Tryz.prog 20 := enters_mk Tryz.func20 (by kernel_rfl) rfl
theorem en27 : Enters Tryz.prog 27 := enters_mk Tryz.func27 (by kernel_rfl) rfl
theorem fa76_0 : FAdr Tryz.prog 76 0 0 := fadr_mk Tryz.underlying76 rfl rfl (by kernel_rfl)
theorem fa76_1 : FAdr Tryz.prog 76 1 1 := fadr_mk Tryz.underlying76 rfl rfl (by kernel_rfl)
theorem fa78_0 : FAdr Tryz.prog 78 0 0 := fadr_mk Tryz.underlying78 rfl rfl (by kernel_rfl)
theorem fa78_1 : FAdr Tryz.prog 78 1 1 := fadr_mk Tryz.underlying78 rfl rfl (by kernel_rfl)
theorem fa78_2 : FAdr Tryz.prog 78 2 2 := fadr_mk Tryz.underlying78 rfl rfl (by kernel_rfl)
theorem z76 : Zero Tryz.prog 76 [.string ⟨#[]⟩, .string ⟨#[]⟩] := ⟨zero_of (by kernel_rfl)⟩
theorem st76 : StT Tryz.prog 76 [(0, 1), (1, 1)] [.string ⟨#[]⟩, .string ⟨#[]⟩] := ⟨⟨_, Tryz.underlying76, fun _ => by kernel_rfl, z76⟩⟩
theorem z78 : Zero Tryz.prog 78 [.string ⟨#[]⟩, .int .i64 0, .int .i64 0] := ⟨zero_of (by kernel_rfl)⟩
theorem st78 : StT Tryz.prog 78 [(0, 1), (1, 1), (2, 1)] [.string ⟨#[]⟩, .int .i64 0, .int .i64 0] := ⟨⟨_, Tryz.underlying78, fun _ => by kernel_rfl, z78⟩⟩
theorem ty76 : Ty Tryz.prog 76 true 2 := ⟨⟨_, Tryz.underlying76, rfl⟩, by kernel_rfl⟩
theorem ty78 : Ty Tryz.prog 78 true 3 := ⟨⟨_, Tryz.underlying78, rfl⟩, by kernel_rfl⟩
end
open Go.RowKit
theorem parse_ok {X : PMap} (hP : Pow10 X) {s : ByteArray} {cs : List Con} (h : parseM s = .ok cs) (hs : s.size < 1000000000) : Spec Tryz.prog 18 [.string s] X fun u X' => ∃ v, u = .tuple #[v, .int .i64 0, .int .i64 0] ∧ ConsR X' v cs := by
  have := parse_spec (X := X) hP hs
  simp only [h] at this
  exact this
theorem parse_err {X : PMap} (hP : Pow10 X) {s : ByteArray} {x : Nat × Int} (h : parseM s = .error x) (hs : s.size < 1000000000) : Spec Tryz.prog 18 [.string s] X fun u _ => u = .tuple #[.slice none 0 0, .int .i64 (x.1 : Int), .int .i64 x.2] := by
  have := parse_spec (X := X) hP hs
  simp only [h] at this
  exact this
theorem awake17_spec {X : PMap} (hP : Pow10 X) : Spec Tryz.prog 12 [] X fun u _ => u = .bool true := by
  refine Spec.enter Tryz.func12 rfl Tryz.ntmps12 rfl ?_
  intro w0 hw0
  refine T.seq <| T.region <| SL.as rfl <| SL.nil <| T.seq <| T.seq <| T.region <| SL.v (op_build st76 (qs := [(0, _), (1, _)]) rfl rfl) <| SL.v (op_build st76 (qs := [(0, _), (1, _)]) rfl rfl) <| SL.v (op_build st76 (qs := [(0, _), (1, _)]) rfl rfl) <| SL.w (op_buildSlice Tryz.underlying77 bs76 (qs := [(0, _), (1, _), (2, _)]) rfl rfl rfl rfl rfl) ?_
  rintro _ _ _ ⟨B17, rfl, rfl, rfl⟩
  refine SL.v (op_lenS Tryz.underlying77 rfl) <| SL.v (op_move (v := .int .i64 ((0 : Nat) : Int)) rfl) <| SL.nil <| T.block <| T.pub B17 (by repeat constructor) ?_
  intro X1 hX1 hB17 _
  refine T.loopW (fun m env own X' => ∃ i : Nat, m = 3 - i ∧ i ≤ 3 ∧ X1.le X' ∧ env = [(17, .slice (some ⟨B17, 0, none⟩) 3 3), (18, .int .i64 ((3 : Nat) : Int)), (19, .int .i64 (i : Int))] ∧ own = []) 3 ⟨0, by omega, by omega, PMap.le_refl _, rfl, rfl⟩ (by repeat (first | exact Sub.nil | refine Sub.cons rfl ?_)) ?_
  rintro m _ _ X2 ⟨i, rfl, hi, hX2, rfl, rfl⟩
  have hP2 := (hP.mono hX1).mono hX2
  rcases Nat.lt_or_ge i 3 with hil | hil
  · obtain ⟨x, hx⟩ : ∃ x, aw1[i]? = some x := ⟨_, List.getElem?_eq_getElem hil⟩
    obtain ⟨hsz, e, he, hc, ht, hw⟩ := aw1_ok x (List.mem_of_getElem? hx)
    refine T.seq <| T.region <| SL.v (op_lssT rfl rfl (by omega)) ?_
    refine SL.nil <| T.seq <| T.condT rfl <| T.skip <| T.seq <| T.block <| T.seq <| T.region <| SL.v (op_indexN Tryz.underlying77 ty76 rfl rfl (by omega)) ?_
    refine SL.v (op_loadX ty76 rfl (hB17.mono hX2) (row_read (pre := []) rcA_len (rs := aw1) hx (by show _ = 0 + _; omega))) ?_
    refine SL.w (op_alloc z76) ?_
    rintro _ _ _ ⟨B2, rfl, rfl, rfl⟩
    refine SL.w (op_store ty76 rfl rfl (by repeat constructor) rfl rfl rfl) ?_
    rintro _ _ _ ⟨rfl, rfl⟩
    refine SL.nil <| T.seq <| T.region <| SL.v (op_fieldAddr fa76_0 rfl) <| SL.v (op_load ty9 rfl (by repeat constructor) rfl) ?_
    refine SL.w (op_callF en20 (vs := [_]) rfl (expr17_ok he hsz)) ?_
    rintro _ _ X3 ⟨rfl, hX3, r, rfl, hr⟩
    obtain ⟨o, n, A, B, l, c1, l', c', rfl⟩ := hr.form
    refine SL.mv rfl <| SL.v (op_extract rfl rfl) <| SL.v (op_extract rfl rfl) <| SL.v (op_extract rfl rfl) <| SL.w (op_alloc z40) ?_
    rintro _ _ _ ⟨B3, rfl, rfl, rfl⟩
    refine SL.w (op_store ty40 rfl rfl (by repeat constructor) rfl rfl rfl) ?_
    rintro _ _ _ ⟨rfl, rfl⟩
    refine SL.as rfl <| SL.as rfl <| SL.nil <| T.seq <| T.draw (by kernel_rfl) 13 [.t 0, .t 1, .t 2, .t 3, .t 4, .t 5, .t 6, .t 7, .t 9, .t 10, .r 8, .t 11, .t 12] (by kernel_rfl) ?_
    refine SD.take rfl panicBody (op_move rfl) rfl rfl ?_
    refine SD.take rfl panicBody (op_neqF rfl rfl (by omega)) rfl rfl ?_
    refine SD.take rfl panicBody (op_move rfl) rfl rfl ?_
    refine SD.take rfl panicBody (op_move rfl) rfl rfl ?_
    refine SD.take rfl panicBody (op_neqF rfl rfl (by omega)) rfl rfl ?_
    refine SD.take rfl panicBody (op_pickF rfl rfl) rfl rfl ?_
    refine SD.take rfl panicBody (op_move rfl) rfl rfl ?_
    refine SD.take rfl panicBody (op_load ty40 rfl (by repeat constructor) rfl) rfl rfl ?_
    refine SD.take rfl panicBody (op_fieldAddr fa76_1 rfl) rfl rfl ?_
    refine SD.take rfl panicBody (op_load ty9 rfl (by repeat constructor) rfl) rfl rfl ?_
    have hcall := printA_spec (hP2.mono hX3) hw hr
    try simp only at hcall
    refine SD.run rfl (op_callF en27 (vs := [_]) rfl (hcall)) rfl rfl ?_
    rintro _ _ X4 ⟨rfl, hX4, rfl⟩
    rw [if_pos hc, ht]
    refine SD.take rfl panicBody (op_neqStrD (s := x.2) (s' := x.2) rfl rfl) rfl rfl ?_
    rw [decide_eq_true rfl, Bool.not_true]
    refine SD.take rfl panicBody (op_pickF rfl rfl) rfl rfl ?_
    refine SD.nil ?_
    show SL _ _ _ _ _ _ _ [] _ _ _
    refine SL.nil <| T.condF rfl <| T.skip <| T.blk <| T.region <| SL.v (op_addN (q := 1) rfl rfl (by omega)) ?_
    refine SL.mv rfl <| SL.nil <| T.drop B2 (by repeat constructor) ?_
    refine T.drop B3 (by repeat constructor) ?_
    exact T.backW (3 - (i + 1)) (by omega) ⟨i + 1, rfl, by omega, (hX2.trans' hX3).trans' hX4, rfl, rfl⟩ (by repeat (first | exact Sub.nil | refine Sub.cons rfl ?_))
  · obtain rfl : i = 3 := by omega
    refine T.seq <| T.region <| SL.v (op_lssF rfl rfl (by omega)) ?_
    refine SL.nil <| T.seq <| T.condF rfl ?_
    refine T.exit (T.exitCode (T.exitCut (T.exitBlk ?_)))
    refine T.seq <| T.seq <| T.region <| SL.v (op_build st78 (qs := [(0, _), (1, _), (2, _)]) rfl rfl) <| SL.v (op_build st78 (qs := [(0, _), (1, _), (2, _)]) rfl rfl) <| SL.v (op_build st78 (qs := [(0, _), (1, _), (2, _)]) rfl rfl) <| SL.v (op_build st78 (qs := [(0, _), (1, _), (2, _)]) rfl rfl) <| SL.v (op_build st78 (qs := [(0, _), (1, _), (2, _)]) rfl rfl) <| SL.v (op_build st78 (qs := [(0, _), (1, _), (2, _)]) rfl rfl) <| SL.w (op_buildSlice Tryz.underlying79 bs78 (qs := [(0, _), (1, _), (2, _), (3, _), (4, _), (5, _)]) rfl rfl rfl rfl rfl) ?_
    rintro _ _ _ ⟨B50, rfl, rfl, rfl⟩
    refine SL.v (op_lenS Tryz.underlying79 rfl) <| SL.v (op_move (v := .int .i64 ((0 : Nat) : Int)) rfl) <| SL.nil <| T.block <| T.pub B50 (by repeat constructor) ?_
    intro X3 hX3 hB50 _
    refine T.loopW (fun m env own X' => ∃ i : Nat, m = 6 - i ∧ i ≤ 6 ∧ X3.le X' ∧ env = [(50, .slice (some ⟨B50, 0, none⟩) 6 6), (51, .int .i64 ((6 : Nat) : Int)), (52, .int .i64 (i : Int))] ∧ own = []) 6 ⟨0, by omega, by omega, PMap.le_refl _, rfl, rfl⟩ (by repeat (first | exact Sub.nil | refine Sub.cons rfl ?_)) ?_
    rintro m _ _ X4 ⟨i, rfl, hi, hX4, rfl, rfl⟩
    have hP4 := (hP2.mono hX3).mono hX4
    rcases Nat.lt_or_ge i 6 with hil | hil
    · obtain ⟨x, hx⟩ : ∃ x, aw2[i]? = some x := ⟨_, List.getElem?_eq_getElem hil⟩
      obtain ⟨hsz, he⟩ := aw2_ok x (List.mem_of_getElem? hx)
      refine T.seq <| T.region <| SL.v (op_lssT rfl rfl (by omega)) ?_
      refine SL.nil <| T.seq <| T.condT rfl <| T.skip <| T.seq <| T.block <| T.seq <| T.region <| SL.v (op_indexN Tryz.underlying79 ty78 rfl rfl (by omega)) ?_
      refine SL.v (op_loadX ty78 rfl (hB50.mono hX4) (row_read (pre := []) rcB_len (rs := aw2) hx (by show _ = 0 + _; omega))) ?_
      refine SL.w (op_alloc z78) ?_
      rintro _ _ _ ⟨B7, rfl, rfl, rfl⟩
      refine SL.w (op_store ty78 rfl rfl (by repeat constructor) rfl rfl rfl) ?_
      rintro _ _ _ ⟨rfl, rfl⟩
      refine SL.nil <| T.seq <| T.region <| SL.v (op_fieldAddr fa78_0 rfl) <| SL.v (op_load ty9 rfl (by repeat constructor) rfl) ?_
      refine SL.w (op_callF en20 (vs := [_]) rfl (expr17_err he hsz)) ?_
      rintro _ _ X5 ⟨rfl, hX5, rfl⟩
      refine SL.mv rfl <| SL.v (op_extract rfl rfl) <| SL.v (op_extract rfl rfl) <| SL.v (op_extract rfl rfl) <| SL.w (op_alloc z40) ?_
      rintro _ _ _ ⟨B8, rfl, rfl, rfl⟩
      refine SL.w (op_store ty40 rfl rfl (by repeat constructor) rfl rfl rfl) ?_
      rintro _ _ _ ⟨rfl, rfl⟩
      refine SL.as rfl <| SL.as rfl <| SL.nil <| T.seq <| T.region <| SL.mv rfl <| SL.v (op_fieldAddr fa78_1 rfl) <| SL.v (op_load ty3 rfl (by repeat constructor) rfl) ?_
      refine SL.v (op_neqF rfl rfl (by omega)) ?_
      refine SL.mv rfl <| SL.mv rfl <| SL.v (op_fieldAddr fa78_2 rfl) <| SL.v (op_load ty29 rfl (by repeat constructor) rfl) ?_
      refine SL.v (op_neqF rfl rfl (by omega)) ?_
      refine SL.v (op_pickF rfl rfl) <| SL.nil <| T.condF rfl <| T.skip <| T.blk <| T.region <| SL.v (op_addN (q := 1) rfl rfl (by omega)) ?_
      refine SL.mv rfl <| SL.nil <| T.drop B7 (by repeat constructor) ?_
      refine T.drop B8 (by repeat constructor) ?_
      exact T.backW (6 - (i + 1)) (by omega) ⟨i + 1, rfl, by omega, hX4.trans' hX5, rfl, rfl⟩ (by repeat (first | exact Sub.nil | refine Sub.cons rfl ?_))
    · obtain rfl : i = 6 := by omega
      refine T.seq <| T.region <| SL.v (op_lssF rfl rfl (by omega)) ?_
      refine SL.nil <| T.seq <| T.condF rfl ?_
      refine T.exit (T.exitCode (T.exitCut (T.exitBlk ?_)))
      refine T.seq <| T.region <| SL.w (op_callF en18 (vs := [_]) rfl (parse_ok hP4 aw3 (of_decide_eq_true (by kernel_rfl)))) ?_
      rintro _ _ X5 ⟨rfl, hX5, v, rfl, hv⟩
      obtain ⟨rows, hR, hl, hrow⟩ := hv
      obtain ⟨r0, hr0⟩ : ∃ r, rows[0]? = some r := ⟨_, List.getElem?_eq_getElem (by rw [hl]; decide)⟩
      obtain ⟨r1, hr1⟩ : ∃ r, rows[1]? = some r := ⟨_, List.getElem?_eq_getElem (by rw [hl]; decide)⟩
      have h0 := hrow 0 _ _ rfl hr0
      have h1 := hrow 1 _ _ rfl hr1
      have hl2 : rows.length = 2 := hl
      obtain ⟨A9, c9, rfl⟩ := hR.form
      obtain ⟨b, pre, rfl, hB⟩ := hR.blk (by rw [hl2]; decide)
      obtain ⟨e0, k0, s0, a0⟩ := r0
      obtain ⟨e1, k1, s1, a1⟩ := r1
      obtain ⟨rfl, rfl, rfl, _⟩ := h0
      obtain ⟨rfl, rfl, rfl, _⟩ := h1
      simp only [hl2]
      refine SL.mv rfl <| SL.v (op_extract rfl rfl) <| SL.v (op_extract rfl rfl) <| SL.v (op_extract rfl rfl) <| SL.as rfl <| SL.as rfl <| SL.as rfl <| SL.nil <| T.seq <| T.region <| SL.mv rfl <| SL.v (op_eqlT rfl rfl (by omega)) ?_
      refine SL.mv rfl <| SL.mv rfl <| SL.v (op_lenS Tryz.underlying24 rfl) <| SL.v (op_eqlT rfl rfl (by omega)) ?_
      refine SL.v (op_pickT rfl rfl) <| SL.mv rfl <| SL.mv rfl <| SL.v (op_index Tryz.underlying24 ty82 rfl rfl (by omega) (by omega)) ?_
      refine SL.v (op_fieldAddr fa82_0 rfl) <| SL.v (op_loadX (v := .bool true) ty4 rfl hB (row_cell (sz := 7) (j := 0) rc7_len hr0 rfl (by omega))) ?_
      refine SL.v (op_pickT rfl rfl) <| SL.mv rfl <| SL.mv rfl <| SL.v (op_index Tryz.underlying24 ty82 rfl rfl (by omega) (by omega)) ?_
      refine SL.v (op_fieldAddr fa82_2 rfl) <| SL.v (op_loadX (v := .string ⟨#[115, 111, 100]⟩) ty9 rfl hB (row_cell (sz := 7) (j := 2) rc7_len hr0 rfl (by omega))) ?_
      refine SL.v (op_eqlStrD (s := ⟨#[115, 111, 100]⟩) (s' := ⟨#[115, 111, 100]⟩) rfl rfl) ?_
      rw [decide_eq_true rfl]
      refine SL.v (op_pickT rfl rfl) <| SL.mv rfl <| SL.mv rfl <| SL.v (op_index Tryz.underlying24 ty82 rfl rfl (by omega) (by omega)) ?_
      refine SL.v (op_fieldAddr fa82_1 rfl) <| SL.v (op_loadX (v := .int .u8 3) ty80 rfl hB (row_cell (sz := 7) (j := 1) rc7_len hr1 rfl (by omega))) ?_
      refine SL.v (op_eqlT rfl rfl (by omega)) ?_
      refine SL.v (op_pickT rfl rfl) <| SL.mv rfl <| SL.mv rfl <| SL.v (op_index Tryz.underlying24 ty82 rfl rfl (by omega) (by omega)) ?_
      refine SL.v (op_fieldAddr fa82_0 rfl) <| SL.v (op_loadX (v := .bool false) ty4 rfl hB (row_cell (sz := 7) (j := 0) rc7_len hr1 rfl (by omega))) ?_
      refine SL.v (op_not rfl) <| SL.v (op_pickT rfl rfl) <| SL.as rfl <| SL.nil <| T.ret1 rfl (ResIs.tmp rfl) ?_
      rfl
end Go.Proofs.YtnabbnhefjfegaaGreatDoor
namespace Go.Proofs.YtnabbnhefjfegaaGreatDoor
open Go.RowKit
end Go.Proofs.YtnabbnhefjfegaaGreatDoor
namespace Go.Proofs.YtnabbnhefjfegaaGreatDoor
open Go.RowKit
noncomputable instance decEx : DecidableEq Ex := fun _ _ => Classical.propDecidable _
noncomputable instance decCon : DecidableEq Con := fun _ _ => Classical.propDecidable _
end Go.Proofs.YtnabbnhefjfegaaGreatDoor
namespace Go.Proofs.YtnabbnhefjfegaaGreatDoor
open Go.RowKit
end Go.Proofs.YtnabbnhefjfegaaGreatDoor
namespace Go.Proofs.YtnabbnhefjfegaaGreatDoor
open Go.RowKit
/-- Ascending, each one once. -/
def StrS (l : List ByteArray) : Prop := l.Pairwise fun a b => ltS a b = true
theorem StrS.nodup {l : List ByteArray} (h : StrS l) : l.Nodup := h.imp fun {a b} hab e => by subst e; rw [lt_irr] at hab; cases hab
theorem StrS.same : ∀ {l m : List ByteArray}, StrS l → StrS m → (∀ x, x ∈ l ↔ x ∈ m) → l = m
  | [], [], _, _, _ => rfl
  | [], b :: m, _, _, h => by have := (h b).2 (by simp); cases this
  | a :: l, [], _, _, h => by have := (h a).1 (by simp); cases this
  | a :: l, b :: m, h1, h2, h => by
    obtain ⟨g1, g2⟩ := List.pairwise_cons.1 h1
    obtain ⟨k1, k2⟩ := List.pairwise_cons.1 h2
    have hab : a = b := by
      rcases List.mem_cons.1 ((h a).1 (by simp)) with e | hm
      · exact e
      · rcases List.mem_cons.1 ((h b).2 (by simp)) with e | hl
        · exact e.symm
        · have := lt_asym (k1 a hm)
          rw [g1 b hl] at this; cases this
    subst hab
    rw [StrS.same g2 k2 fun x => ?_]
    have hx := h x
    constructor
    · intro hxl
      rcases List.mem_cons.1 (hx.1 (by simp [hxl])) with e | hm
      · subst e; have := g1 x hxl; rw [lt_irr] at this; cases this
      · exact hm
    · intro hxm
      rcases List.mem_cons.1 (hx.2 (by simp [hxm])) with e | hm
      · subst e; have := k1 x hxm; rw [lt_irr] at this; cases this
      · exact hm
end Go.Proofs.YtnabbnhefjfegaaGreatDoor
namespace Go.Proofs.YtnabbnhefjfegaaGreatDoor
open Go.RowKit
theorem RowR.lent {α : Type} {rc : α → List Value} {X1 : PMap} {e : TypeId} {size : Nat} {v : Value} {rs : List α} {G : Own} (hg : GrowS e size v rs.length (rs.map rc).flatten G) (h2 : ∀ p ∈ G, Blk X1 p.b p.cs) : RowR rc X1 v rs := by
  rcases hg with ⟨h0, _, rfl, _⟩ | ⟨b, cap, rfl, rfl, h3, h4, _⟩
  · exact .inl ⟨List.eq_nil_of_length_eq_zero h0, _, _, rfl⟩
  · rcases Nat.eq_zero_or_pos rs.length with h0 | h0
    · exact .inl ⟨List.eq_nil_of_length_eq_zero h0, _, _, by rw [h0]⟩
    · exact .inr ⟨h0, b, cap, [], rfl, h2 ⟨b, _, e, cap * size⟩ (by simp), h3, h4⟩
end Go.Proofs.YtnabbnhefjfegaaGreatDoor
namespace Go.Proofs.YtnabbnhefjfegaaGreatDoor
open Go.RowKit
end Go.Proofs.YtnabbnhefjfegaaGreatDoor
namespace Go.Proofs.YtnabbnhefjfegaaGreatDoor
open Go.RowKit
theorem ConsRi.form {X : PMap} {v : Value} {cs : List Con} (h : ConsRi X v cs) : ∃ A cp, v = .slice A cs.length cp := by
  obtain ⟨rows, h, hl, _⟩ := h
  obtain ⟨A, c, rfl⟩ := h.form
  exact ⟨A, c, by rw [hl]⟩
end Go.Proofs.YtnabbnhefjfegaaGreatDoor
namespace Go.Proofs.YtnabbnhefjfegaaGreatDoor
section
set_option maxRecDepth 100000
theorem en12 : Enters Tryz.prog 12 := enters_mk Tryz.func12 (by kernel_rfl) rfl
end
open Go.RowKit
end Go.Proofs.YtnabbnhefjfegaaGreatDoor
namespace Go.Proofs.YtnabbnhefjfegaaGreatDoor
section
set_option maxRecDepth 100000
theorem en34 : Enters Tryz.prog 34 := enters_mk Tryz.func34 (by kernel_rfl) rfl
theorem z3 : Zero Tryz.prog 3 [.int .i64 0] := ⟨zero_of (by kernel_rfl)⟩
theorem z4 : Zero Tryz.prog 4 [.bool false] := ⟨zero_of (by kernel_rfl)⟩
theorem z5 : Zero Tryz.prog 5 [.int .u8 0] := ⟨zero_of (by kernel_rfl)⟩
end
open Go.RowKit
theorem op_str3 {P : Program} {n : NM} {env : Env} {own : Own} {X : PMap} {src dst e ty : TypeId} {x : Operand} {b cap sz j : Nat} {c0 c1 c2 : UInt8} (hs : P.underlying src = some (.slice e)) (he : P.underlying e = some (.int .u8)) (hd : P.underlying dst = some .string)
    (hx : eev env x = some (.slice (some ⟨b, 0, none⟩) 3 cap)) (ho : AtO own b [.int .u8 (c0.toNat : Int), .int .u8 (c1.toNat : Int), .int .u8 (c2.toNat : Int)] ty sz j) : OpY P n env own X (.convert src dst x) (.string ⟨#[c0, c1, c2]⟩) :=
  op_strBytes (l := [c0, c1, c2]) hs he hd hx fun W hst j hj => by
    have hj : j < 3 := hj
    match j, hj with
    | 0, _ => exact (hst.own _ ho.mem).cell rfl
    | 1, _ => exact (hst.own _ ho.mem).cell rfl
    | 2, _ => exact (hst.own _ ho.mem).cell rfl
/-- Either way: the offset 0, and the error. -/
theorem expr17_c {X : PMap} {s : ByteArray} {e : Ex} {c : Int} (h : exprM s = if c = 0 then .ok e else .error (0, c)) (hs : s.size < 1000000000) : Spec Tryz.prog 20 [.string s] X fun u _ => ∃ (o : Nat) (n : Int) (A B : Option Addr) (l c1 l' c' : Nat), u = .tuple #[.agg #[.int .u8 (o : Int), .int .i64 n, .slice A l c1, .slice B l' c'], .int .i64 0, .int .i64 c] := by
  by_cases hc : c = 0
  · rw [if_pos hc] at h
    refine (expr17_ok h hs).mono fun u X' _ ⟨r, hu, hr⟩ => ?_
    obtain ⟨o, n, A, B, l, c1, l', c', rfl⟩ := hr.form
    exact ⟨o, n, A, B, l, c1, l', c', by rw [hu, hc]⟩
  · rw [if_neg hc] at h
    refine (expr17_err h hs).mono fun u X' _ hu => ?_
    exact ⟨0, 0, none, none, 0, 0, 0, 0, hu⟩
theorem u8_nat {v : Nat} (h : v < 256) : ((UInt8.ofNat v).toNat : Int) = (v : Int) := by
  rw [UInt8.toNat_ofNat']; omega
theorem pLimits_spec {X : PMap} (hP : Pow10 X) {a b c : Nat} (ha : a < 65536) (hb : b < 65536) (hc : c < 65536) : Spec Tryz.prog 11 [.int .u16 (a : Int), .int .u16 (b : Int), .int .u16 (c : Int)] X fun u _ => u = .bool true := by
  have hn : a % 30 < 30 := Nat.mod_lt _ (by omega)
  have hm : b % 300 < 300 := Nat.mod_lt _ (by omega)
  have hk : c % 40 < 40 := Nat.mod_lt _ (by omega)
  have k1 : (⟨#[97]⟩ : ByteArray).size = 1 := rfl
  have k4 : (⟨#[110, 111, 116, 32]⟩ : ByteArray).size = 4 := rfl
  have kl : (⟨#[40]⟩ : ByteArray).size = 1 := rfl
  have kr : (⟨#[41]⟩ : ByteArray).size = 1 := rfl
  have k6 : (⟨#[32, 97, 110, 100, 32, 97]⟩ : ByteArray).size = 6 := rfl
  have kb : (⟨#[32]⟩ : ByteArray).size = 1 := rfl
  have z1 := repB_size ⟨#[110, 111, 116, 32]⟩ (a % 30)
  have z2 := repB_size ⟨#[40]⟩ (b % 300)
  have z3 := repB_size ⟨#[41]⟩ (b % 300)
  have z4 := repB_size ⟨#[32, 97, 110, 100, 32, 97]⟩ (b % 300)
  rw [k4] at z1
  rw [kl] at z2
  rw [kr] at z3
  rw [k6] at z4
  have e1 : repB ⟨#[110, 111, 116, 32]⟩ (a % 30) ++ ⟨#[97]⟩ = textE (notN (a % 30)) := bl_inj (by rw [bl_app, repB_bl, notN_text])
  have e4 : ⟨#[97]⟩ ++ repB ⟨#[32, 97, 110, 100, 32, 97]⟩ (b % 300) = textE (andN (b % 300)) := bl_inj (by rw [bl_app, repB_bl, andN_text])
  have s1 : (repB ⟨#[110, 111, 116, 32]⟩ (a % 30) ++ ⟨#[97]⟩ : ByteArray).size ≤ 8000 := by rw [ByteArray.size_append]; omega
  have s2 : (repB ⟨#[40]⟩ (b % 300) ++ ⟨#[97]⟩ ++ repB ⟨#[41]⟩ (b % 300) : ByteArray).size ≤ 8000 := by rw [ByteArray.size_append, ByteArray.size_append]; omega
  have s4 : (⟨#[97]⟩ ++ repB ⟨#[32, 97, 110, 100, 32, 97]⟩ (b % 300) : ByteArray).size ≤ 8000 := by rw [ByteArray.size_append]; omega
  have m1 : exprM (repB ⟨#[110, 111, 116, 32]⟩ (a % 30) ++ ⟨#[97]⟩) = if (if a % 30 + 1 ≤ 10 then (0 : Int) else 3) = 0 then .ok (notN (a % 30)) else .error (0, if a % 30 + 1 ≤ 10 then (0 : Int) else 3) := by
    have := exprM_text (notN_node (a % 30)) (by rw [← e1]; exact s1)
    rw [notN_chk hn] at this
    rw [e1, this]
  have m4 : exprM (⟨#[97]⟩ ++ repB ⟨#[32, 97, 110, 100, 32, 97]⟩ (b % 300)) = if (if b % 300 + 1 ≤ 10 then (0 : Int) else 3) = 0 then .ok (andN (b % 300)) else .error (0, if b % 300 + 1 ≤ 10 then (0 : Int) else 3) := by
    have := exprM_text (andN_node (b % 300)) (by rw [← e4]; exact s4)
    rw [andN_chk] at this
    rw [e4, this]
  have m2 : exprM (repB ⟨#[40]⟩ (b % 300) ++ ⟨#[97]⟩ ++ repB ⟨#[41]⟩ (b % 300)) = .ok lA := by
    have hr := (parN_ren (b % 300)).down (Nat.le_refl _) 1 (Nat.le_refl _) (by omega)
    have hbl : bl (repB ⟨#[40]⟩ (b % 300) ++ ⟨#[97]⟩ ++ repB ⟨#[41]⟩ (b % 300)) = Lib.repeatL [40] (b % 300) ++ [97] ++ Lib.repeatL [41] (b % 300) := by rw [bl_app, bl_app, repB_bl, repB_bl]
    rw [← hbl] at hr
    rw [hr.expr s2, if_pos (by kernel_rfl)]
  have hpk := srcN_parse hk
  have hsk := srcN_size (c % 40)
  refine Spec.enter Tryz.func11 rfl Tryz.ntmps11 rfl ?_
  intro w0 hw0
  refine T.seq <| T.region <| SL.as rfl <| SL.nil <| T.seq <| T.seq <| T.region <| SL.w (op_callF en12 (vs := []) rfl (awake17_spec hP)) ?_
  rintro _ _ X0 ⟨rfl, hX0, rfl⟩
  refine SL.v (op_not rfl) <| SL.nil <| T.condF rfl <| T.skip <| T.seq <| T.region <| SL.mv rfl <| SL.v (op_remN (p := a) (q := 30) rfl rfl rfl (by omega)) ?_
  refine SL.v (op_convI64 Tryz.underlying57 Tryz.underlying3 rfl (by omega) (by omega)) ?_
  refine SL.mv rfl <| SL.v (op_remN (p := b) (q := 300) rfl rfl rfl (by omega)) ?_
  refine SL.v (op_convI64 Tryz.underlying57 Tryz.underlying3 rfl (by omega) (by omega)) ?_
  refine SL.mv rfl <| SL.v (op_remN (p := c) (q := 40) rfl rfl rfl (by omega)) ?_
  refine SL.v (op_convI64 Tryz.underlying57 Tryz.underlying3 rfl (by omega) (by omega)) ?_
  refine SL.as rfl <| SL.as rfl <| SL.as rfl <| SL.nil <| T.seq <| T.region <| SL.mv rfl <| SL.w (op_callF en34 (vs := [_, _]) rfl (repeat_spec (by omega) (by omega))) ?_
  rintro _ _ X1 ⟨rfl, hX1, rfl⟩
  refine SL.v (op_addStr rfl rfl (by first | omega | (simp only [ByteArray.size_append]; omega))) ?_
  refine SL.w (op_callF en20 (vs := [_]) rfl (expr17_c m1 (by omega))) ?_
  rintro _ _ X2 ⟨rfl, hX2, o1, n1, a1, b1, l1, c1, l2, c2, rfl⟩
  refine SL.mv rfl <| SL.v (op_extract rfl rfl) <| SL.v (op_extract rfl rfl) <| SL.v (op_extract rfl rfl) <| SL.w (op_alloc z40) ?_
  rintro _ _ _ ⟨B10, rfl, rfl, rfl⟩
  refine SL.w (op_store ty40 rfl rfl (by repeat constructor) rfl rfl rfl) ?_
  rintro _ _ _ ⟨rfl, rfl⟩
  refine SL.as rfl <| SL.as rfl <| SL.nil <| T.seq <| T.meet (fun _ env own X' => X2.le X' ∧ env = [(8, .int .i64 ((b % 300 : Nat) : Int)), (9, .int .i64 ((c % 40 : Nat) : Int))] ∧ own = []) ?_ ?_
  · by_cases h10 : a % 30 + 1 ≤ 10
    · rw [if_pos h10]
      refine T.seq <| T.region <| SL.mv rfl <| SL.v (op_neqF rfl rfl (by omega)) ?_
      refine SL.mv rfl <| SL.mv rfl <| SL.v (op_eqlT rfl rfl (by omega)) ?_
      refine SL.mv rfl <| SL.v (op_addN (q := 1) rfl rfl (by omega)) ?_
      refine SL.v (op_leqT rfl rfl (by omega)) ?_
      refine SL.v (op_neqB (b := true) (c := true) Tryz.underlying4 rfl rfl) <| SL.v (op_pickF rfl rfl) <| SL.mv rfl <| SL.mv rfl <| SL.v (op_neqF rfl rfl (by omega)) ?_
      refine SL.mv rfl <| SL.skip rfl rfl ?_
      refine SL.skip rfl rfl ?_
      refine SL.v (op_pickF rfl rfl) <| SL.v (op_pickF rfl rfl) <| SL.nil <| T.condF rfl <| T.skip <| T.drop B10 (by repeat constructor) ?_
      exact T.backW 0 (by omega) ⟨PMap.le_refl _, rfl, rfl⟩ (by repeat (first | exact Sub.nil | refine Sub.cons rfl ?_))
    · rw [if_neg h10]
      refine T.seq <| T.region <| SL.mv rfl <| SL.v (op_neqF rfl rfl (by omega)) ?_
      refine SL.mv rfl <| SL.mv rfl <| SL.v (op_eqlF rfl rfl (by omega)) ?_
      refine SL.mv rfl <| SL.v (op_addN (q := 1) rfl rfl (by omega)) ?_
      refine SL.v (op_leqF rfl rfl (by omega)) ?_
      refine SL.v (op_neqB (b := false) (c := false) Tryz.underlying4 rfl rfl) <| SL.v (op_pickF rfl rfl) <| SL.mv rfl <| SL.mv rfl <| SL.v (op_neqT rfl rfl (by omega)) ?_
      refine SL.mv rfl <| SL.mv rfl <| SL.v (op_neqF rfl rfl (by omega)) ?_
      refine SL.v (op_pickT rfl rfl) <| SL.v (op_pickF rfl rfl) <| SL.nil <| T.condF rfl <| T.skip <| T.drop B10 (by repeat constructor) ?_
      exact T.backW 0 (by omega) ⟨PMap.le_refl _, rfl, rfl⟩ (by repeat (first | exact Sub.nil | refine Sub.cons rfl ?_))
  rintro _ _ _ X3 ⟨hX3, rfl, rfl⟩
  refine T.seq <| T.region <| SL.mv rfl <| SL.w (op_callF en34 (vs := [_, _]) rfl (repeat_spec (by omega) (by omega))) ?_
  rintro _ _ X4 ⟨rfl, hX4, rfl⟩
  refine SL.v (op_addStr rfl rfl (by first | omega | (simp only [ByteArray.size_append]; omega))) ?_
  refine SL.mv rfl <| SL.w (op_callF en34 (vs := [_, _]) rfl (repeat_spec (by omega) (by omega))) ?_
  rintro _ _ X5 ⟨rfl, hX5, rfl⟩
  refine SL.v (op_addStr rfl rfl (by first | omega | (simp only [ByteArray.size_append]; omega))) ?_
  refine SL.w (op_callF en20 (vs := [_]) rfl (expr17_ok m2 (by omega))) ?_
  rintro _ _ X6 ⟨rfl, hX6, r6, rfl, hr6⟩
  have hr6 : ExR .u8 X6 (.mk 4 0 [⟨#[97]⟩] []) r6 := hr6
  cases hr6 with
  | @mk op n ns al vn va rows hnn haa hl hr =>
  obtain ⟨Aa, ca, rfl⟩ := haa.form
  obtain ⟨An, cn, rfl⟩ := hnn.form
  refine SL.mv rfl <| SL.v (op_extract rfl rfl) <| SL.v (op_extract rfl rfl) <| SL.v (op_extract rfl rfl) <| SL.w (op_alloc z40) ?_
  rintro _ _ _ ⟨B13, rfl, rfl, rfl⟩
  refine SL.w (op_store ty40 rfl rfl (by repeat constructor) rfl rfl rfl) ?_
  rintro _ _ _ ⟨rfl, rfl⟩
  refine SL.as rfl <| SL.as rfl <| SL.nil <| T.seq <| T.seq <| T.region <| SL.mv rfl <| SL.v (op_neqF rfl rfl (by omega)) ?_
  refine SL.mv rfl <| SL.mv rfl <| SL.v (op_neqF rfl rfl (by omega)) ?_
  refine SL.v (op_pickF rfl rfl) <| SL.mv rfl <| SL.v (op_fieldAddr fa40_0 rfl) <| SL.v (op_load ty36 rfl (by repeat constructor) rfl) ?_
  refine SL.v (op_neqF rfl rfl (by omega)) ?_
  refine SL.v (op_pickF rfl rfl) <| SL.nil <| T.condF rfl <| T.skip <| T.seq <| T.region <| SL.mv rfl <| SL.w (op_callF en34 (vs := [_, _]) rfl (repeat_spec (by omega) (by omega))) ?_
  rintro _ _ X7 ⟨rfl, hX7, rfl⟩
  refine SL.v (op_addStr rfl rfl (by first | omega | (simp only [ByteArray.size_append]; omega))) ?_
  refine SL.w (op_callF en20 (vs := [_]) rfl (expr17_c m4 (by omega))) ?_
  rintro _ _ X8 ⟨rfl, hX8, o3, n3, a3, b3, l3, c3, l4, c4, rfl⟩
  refine SL.mv rfl <| SL.v (op_extract rfl rfl) <| SL.v (op_extract rfl rfl) <| SL.v (op_extract rfl rfl) <| SL.as rfl <| SL.as rfl <| SL.nil <| T.seq <| T.meet (fun _ env own X' => X8.le X' ∧ env = [(9, .int .i64 ((c % 40 : Nat) : Int))] ∧ own = []) ?_ ?_
  · by_cases h10 : b % 300 + 1 ≤ 10
    · rw [if_pos h10]
      refine T.seq <| T.region <| SL.mv rfl <| SL.v (op_neqF rfl rfl (by omega)) ?_
      refine SL.mv rfl <| SL.mv rfl <| SL.v (op_eqlT rfl rfl (by omega)) ?_
      refine SL.mv rfl <| SL.v (op_addN (q := 1) rfl rfl (by omega)) ?_
      refine SL.v (op_leqT rfl rfl (by omega)) ?_
      refine SL.v (op_neqB (b := true) (c := true) Tryz.underlying4 rfl rfl) <| SL.v (op_pickF rfl rfl) <| SL.mv rfl <| SL.mv rfl <| SL.v (op_neqF rfl rfl (by omega)) ?_
      refine SL.mv rfl <| SL.skip rfl rfl ?_
      refine SL.skip rfl rfl ?_
      refine SL.v (op_pickF rfl rfl) <| SL.v (op_pickF rfl rfl) <| SL.nil <| T.condF rfl <| T.skip <| T.drop B13 (by repeat constructor) ?_
      exact T.backW 0 (by omega) ⟨PMap.le_refl _, rfl, rfl⟩ (by repeat (first | exact Sub.nil | refine Sub.cons rfl ?_))
    · rw [if_neg h10]
      refine T.seq <| T.region <| SL.mv rfl <| SL.v (op_neqF rfl rfl (by omega)) ?_
      refine SL.mv rfl <| SL.mv rfl <| SL.v (op_eqlF rfl rfl (by omega)) ?_
      refine SL.mv rfl <| SL.v (op_addN (q := 1) rfl rfl (by omega)) ?_
      refine SL.v (op_leqF rfl rfl (by omega)) ?_
      refine SL.v (op_neqB (b := false) (c := false) Tryz.underlying4 rfl rfl) <| SL.v (op_pickF rfl rfl) <| SL.mv rfl <| SL.mv rfl <| SL.v (op_neqT rfl rfl (by omega)) ?_
      refine SL.mv rfl <| SL.mv rfl <| SL.v (op_neqF rfl rfl (by omega)) ?_
      refine SL.v (op_pickT rfl rfl) <| SL.v (op_pickF rfl rfl) <| SL.nil <| T.condF rfl <| T.skip <| T.drop B13 (by repeat constructor) ?_
      exact T.backW 0 (by omega) ⟨PMap.le_refl _, rfl, rfl⟩ (by repeat (first | exact Sub.nil | refine Sub.cons rfl ?_))
  rintro _ _ _ X9 ⟨hX9, rfl, rfl⟩
  refine T.seq <| T.region <| SL.as rfl <| SL.nil <| T.seq <| T.seq <| T.region <| SL.mv rfl <| SL.v (op_move (v := .int .i64 ((0 : Nat) : Int)) rfl) <| SL.nil <| T.block <| T.loopW (fun m env own X' => ∃ i : Nat, m = c % 40 - i ∧ i ≤ c % 40 ∧ X9.le X' ∧ env = [(9, .int .i64 ((c % 40 : Nat) : Int)), (14, .string (srcN i)), (105, .int .i64 ((c % 40 : Nat) : Int)), (106, .int .i64 (i : Int))] ∧ own = []) (c % 40) ⟨0, by omega, by omega, PMap.le_refl _, rfl, rfl⟩ (by repeat (first | exact Sub.nil | refine Sub.cons rfl ?_)) ?_
  rintro m _ _ Y1 ⟨i, rfl, hi, hY1, rfl, rfl⟩
  have hsi := srcN_size i
  rcases Nat.lt_or_ge i (c % 40) with hil | hil
  · have hi26 : i / 26 < 2 := by omega
    have hr26 : i % 26 < 26 := Nat.mod_lt _ (by omega)
    have q1 := u8_nat (v := 97 + i / 26) (by omega)
    have q2 := u8_nat (v := 97 + i % 26) (by omega)
    have kd : (⟨#[100, 101, 99, 108, 97, 114, 101, 32, 115, 116, 97, 116, 105, 99, 32]⟩ : ByteArray).size = 15 := rfl
    have kt : (⟨#[58, 32, 116, 114, 117, 101, 59]⟩ : ByteArray).size = 7 := rfl
    have kn : (⟨#[99, UInt8.ofNat (97 + i / 26), UInt8.ofNat (97 + i % 26)]⟩ : ByteArray).size = 3 := rfl
    refine T.seq <| T.region <| SL.v (op_lssT rfl rfl (by omega)) ?_
    refine SL.nil <| T.seq <| T.condT rfl <| T.skip <| T.seq <| T.block <| T.seq <| T.region <| SL.mv rfl <| SL.as rfl <| SL.nil <| T.region <| SL.mv rfl <| SL.mv rfl <| SL.v (op_quoN (q := 26) rfl rfl rfl (by omega) (by decide)) ?_
    refine SL.v (op_addN (p := 97) rfl rfl (by omega)) ?_
    refine SL.v (op_convU8 Tryz.underlying3 Tryz.underlying5 rfl (by omega) (by omega)) ?_
    refine SL.mv rfl <| SL.v (op_remN (q := 26) rfl rfl rfl (by decide)) ?_
    refine SL.v (op_addN (p := 97) rfl rfl (by omega)) ?_
    refine SL.v (op_convU8 Tryz.underlying3 Tryz.underlying5 rfl (by omega) (by omega)) ?_
    refine SL.w (op_buildSlice Tryz.underlying64 bs5 (qs := [(0, _), (1, _), (2, _)]) rfl rfl rfl rfl rfl) ?_
    rintro _ _ _ ⟨B118, rfl, rfl, rfl⟩
    refine SL.v (op_str3 (c0 := 99) (c1 := UInt8.ofNat (97 + i / 26)) (c2 := UInt8.ofNat (97 + i % 26)) Tryz.underlying64 Tryz.underlying5 Tryz.underlying9 rfl (by rw [q1, q2]; exact AtO.here)) ?_
    refine SL.v (op_addStr rfl rfl (by first | omega | (simp only [ByteArray.size_append]; omega))) ?_
    refine SL.v (op_addStr rfl rfl (by first | omega | (simp only [ByteArray.size_append]; omega))) ?_
    refine SL.v (op_addStr rfl rfl (by first | omega | (simp only [ByteArray.size_append]; omega))) ?_
    refine SL.as rfl <| SL.nil <| T.blk <| T.region <| SL.v (op_addN (q := 1) rfl rfl (by omega)) ?_
    refine SL.mv rfl <| SL.nil <| T.drop B118 (by repeat constructor) ?_
    exact T.backW (c % 40 - (i + 1)) (by omega) ⟨i + 1, rfl, by omega, hY1, rfl, rfl⟩ (by repeat (first | exact Sub.nil | refine Sub.cons rfl ?_))
  · obtain rfl : i = c % 40 := by omega
    have z5 := repB_size ⟨#[32]⟩ (8001 - (srcN (c % 40)).size)
    rw [kb] at z5
    have hbig : (srcN (c % 40) ++ repB ⟨#[32]⟩ (8001 - (srcN (c % 40)).size) : ByteArray).size = 8001 := by rw [ByteArray.size_append]; omega
    have hpb : parseM (srcN (c % 40) ++ repB ⟨#[32]⟩ (8001 - (srcN (c % 40)).size)) = .error (0, 3) := by rw [parseM, begM, if_pos (by omega)]
    have hP1 := (((((((((hP.mono hX0).mono hX1).mono hX2).mono hX3).mono hX4).mono hX5).mono hX6).mono hX7).mono hX8)
    have hP2 := (hP1.mono hX9).mono hY1
    by_cases h32 : c % 40 ≤ 32
    · rw [if_pos h32] at hpk
      have hcl : (consN (c % 40)).length = c % 40 := by rw [consN, List.length_map, List.length_range]
      refine T.seq <| T.region <| SL.v (op_lssF rfl rfl (by omega)) ?_
      refine SL.nil <| T.seq <| T.condF rfl ?_
      refine T.exit (T.exitCode (T.exitCut (T.exitBlk ?_)))
      refine T.seq <| T.region <| SL.mv rfl <| SL.w (op_callF en18 (vs := [_]) rfl (parse_ok hP2 hpk (by omega))) ?_
      rintro _ _ Y2 ⟨rfl, hY2, v2, rfl, hv2⟩
      obtain ⟨rows2, hR2, hrl2, _⟩ := hv2
      obtain ⟨A2, cp2, rfl⟩ := hR2.form
      refine SL.mv rfl <| SL.v (op_extract rfl rfl) <| SL.v (op_extract rfl rfl) <| SL.v (op_extract rfl rfl) <| SL.as rfl <| SL.as rfl <| SL.as rfl <| SL.nil <| T.seq <| T.region <| SL.mv rfl <| SL.mv rfl <| SL.v (op_lenStr Tryz.underlying9 rfl) <| SL.v (op_subN (p := 8001) (q := (srcN (c % 40)).size) rfl rfl (by omega) (by omega)) ?_
      refine SL.w (op_callF en34 (vs := [_, _]) rfl (repeat_spec (by omega) (by omega))) ?_
      rintro _ _ Y3 ⟨rfl, hY3, rfl⟩
      refine SL.v (op_addStr rfl rfl (by first | omega | (simp only [ByteArray.size_append]; omega))) ?_
      refine SL.w (op_callF en18 (vs := [_]) rfl (parse_err ((hP2.mono hY2).mono hY3) hpb (by omega))) ?_
      rintro _ _ Y4 ⟨rfl, hY4, rfl⟩
      refine SL.mv rfl <| SL.v (op_extract rfl rfl) <| SL.v (op_extract rfl rfl) <| SL.v (op_extract rfl rfl) <| SL.as rfl <| SL.as rfl <| SL.as rfl <| SL.nil <| T.seq <| T.region <| SL.mv rfl <| SL.v (op_eqlT rfl rfl (by omega)) ?_
      refine SL.mv rfl <| SL.mv rfl <| SL.v (op_eqlT rfl rfl (by omega)) ?_
      refine SL.mv rfl <| SL.v (op_leqT rfl rfl (by omega)) ?_
      refine SL.v (op_eqlBS (b := true) Tryz.underlying4 rfl rfl) <| SL.v (op_pickT rfl rfl) <| SL.mv rfl <| SL.mv rfl <| SL.v (op_eqlT rfl rfl (by omega)) ?_
      refine SL.mv rfl <| SL.mv rfl <| SL.v (op_lenS Tryz.underlying24 rfl) <| SL.mv rfl <| SL.v (op_eqlT rfl rfl (by omega)) ?_
      refine SL.v (op_pickT rfl rfl) <| SL.mv rfl <| SL.skip rfl rfl ?_
      refine SL.skip rfl rfl ?_
      refine SL.skip rfl rfl ?_
      refine SL.skip rfl rfl ?_
      refine SL.skip rfl rfl ?_
      refine SL.skip rfl rfl ?_
      refine SL.skip rfl rfl ?_
      refine SL.v (op_pickT rfl rfl) <| SL.v (op_pickT rfl rfl) <| SL.mv rfl <| SL.mv rfl <| SL.v (op_eqlT rfl rfl (by omega)) ?_
      refine SL.v (op_pickT rfl rfl) <| SL.mv rfl <| SL.mv rfl <| SL.v (op_eqlT rfl rfl (by omega)) ?_
      refine SL.v (op_pickT rfl rfl) <| SL.as rfl <| SL.nil <| T.ret1 rfl (ResIs.tmp rfl) ?_
      rfl
    · rw [if_neg h32] at hpk
      refine T.seq <| T.region <| SL.v (op_lssF rfl rfl (by omega)) ?_
      refine SL.nil <| T.seq <| T.condF rfl ?_
      refine T.exit (T.exitCode (T.exitCut (T.exitBlk ?_)))
      refine T.seq <| T.region <| SL.mv rfl <| SL.w (op_callF en18 (vs := [_]) rfl (parse_err hP2 hpk (by omega))) ?_
      rintro _ _ Y2 ⟨rfl, hY2, rfl⟩
      refine SL.mv rfl <| SL.v (op_extract rfl rfl) <| SL.v (op_extract rfl rfl) <| SL.v (op_extract rfl rfl) <| SL.as rfl <| SL.as rfl <| SL.as rfl <| SL.nil <| T.seq <| T.region <| SL.mv rfl <| SL.mv rfl <| SL.v (op_lenStr Tryz.underlying9 rfl) <| SL.v (op_subN (p := 8001) (q := (srcN (c % 40)).size) rfl rfl (by omega) (by omega)) ?_
      refine SL.w (op_callF en34 (vs := [_, _]) rfl (repeat_spec (by omega) (by omega))) ?_
      rintro _ _ Y3 ⟨rfl, hY3, rfl⟩
      refine SL.v (op_addStr rfl rfl (by first | omega | (simp only [ByteArray.size_append]; omega))) ?_
      refine SL.w (op_callF en18 (vs := [_]) rfl (parse_err ((hP2.mono hY2).mono hY3) hpb (by omega))) ?_
      rintro _ _ Y4 ⟨rfl, hY4, rfl⟩
      refine SL.mv rfl <| SL.v (op_extract rfl rfl) <| SL.v (op_extract rfl rfl) <| SL.v (op_extract rfl rfl) <| SL.as rfl <| SL.as rfl <| SL.as rfl <| SL.nil <| T.seq <| T.region <| SL.mv rfl <| SL.v (op_eqlT rfl rfl (by omega)) ?_
      refine SL.mv rfl <| SL.mv rfl <| SL.v (op_eqlF rfl rfl (by omega)) ?_
      refine SL.mv rfl <| SL.v (op_leqF rfl rfl (by omega)) ?_
      refine SL.v (op_eqlBS (b := false) Tryz.underlying4 rfl rfl) <| SL.v (op_pickT rfl rfl) <| SL.mv rfl <| SL.mv rfl <| SL.v (op_eqlF rfl rfl (by omega)) ?_
      refine SL.mv rfl <| SL.skip rfl rfl ?_
      refine SL.skip rfl rfl ?_
      refine SL.skip rfl rfl ?_
      refine SL.skip rfl rfl ?_
      refine SL.v (op_pickF rfl rfl) <| SL.mv rfl <| SL.mv rfl <| SL.v (op_eqlT rfl rfl (by omega)) ?_
      refine SL.mv rfl <| SL.mv rfl <| SL.v (op_lenS Tryz.underlying24 rfl) <| SL.v (op_eqlT rfl rfl (by omega)) ?_
      refine SL.v (op_pickT rfl rfl) <| SL.v (op_pickF rfl rfl) <| SL.v (op_pickT rfl rfl) <| SL.mv rfl <| SL.mv rfl <| SL.v (op_eqlT rfl rfl (by omega)) ?_
      refine SL.v (op_pickT rfl rfl) <| SL.mv rfl <| SL.mv rfl <| SL.v (op_eqlT rfl rfl (by omega)) ?_
      refine SL.v (op_pickT rfl rfl) <| SL.as rfl <| SL.nil <| T.ret1 rfl (ResIs.tmp rfl) ?_
      rfl
end Go.Proofs.YtnabbnhefjfegaaGreatDoor
namespace Go.Proofs.YtnabbnhefjfegaaGreatDoor
open Go.RowKit
theorem gPow : Tryz.prog.globalNamed "internal/strconv.uint64pow10" = some 1 := by kernel_rfl
theorem gPowT : (Tryz.prog.globals[1]?).map (·.type) = some 211 := by kernel_rfl
theorem cells20 : Tryz.prog.cellsOf 211 = 20 := by kernel_rfl
theorem cellsU64 : Tryz.prog.cellsOf 171 = 1 := by kernel_rfl
theorem pow_of {W : World} {x y : String × DataW Unit} (h : laidMet Tryz.prog [x, y, ("internal/strconv.uint64pow10", Rows.laid_internal_strconv_uint64pow10)] W) : Pow10 (heapX W) := by
  have ht : Lib.TabIs Tryz.prog W "internal/strconv.uint64pow10" .u64 Lib.pow10Tab := Lib.tabIs_of_head gPow gPowT Tryz.underlying211 Tryz.underlying171 cellsU64 cells20 h.tail.tail
  intro w hw
  unfold Lib.TabIs World.var? at ht ⊢
  rw [gPow] at ht ⊢
  simp only [Option.bind_some] at ht ⊢
  cases hg : W.heap[1]? with
  | none => rw [hg] at ht; cases ht
  | some o =>
    rw [hg] at ht
    rw [hw 1 o hg]
    exact ht
end Go.Proofs.YtnabbnhefjfegaaGreatDoor
