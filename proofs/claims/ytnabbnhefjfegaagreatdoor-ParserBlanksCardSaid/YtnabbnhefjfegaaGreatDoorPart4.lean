/- What the law's proof rests on: the engine, a small separation logic over the kit's walk, and contracts of the functions that the law reaches. Part 4. -/
import Derived.Test.YtnabbnhefjfegaaGreatDoorChecked
import Derived.Shelf.Sort.AssemblysIn
import Derived.Shelf.Strconv.Itoa3
import Derived.Sort.EveryDepth
import Derived.Test.YtnabbnhefjfegaaGreatDoorPart1
import Derived.Test.YtnabbnhefjfegaaGreatDoorPart2
import Derived.Test.YtnabbnhefjfegaaGreatDoorPart3
namespace Go.Proofs.YtnabbnhefjfegaaGreatDoor
section
set_option maxRecDepth 100000
theorem en16 : Enters Tryz.prog 16 := enters_mk Tryz.func16 (by kernel_rfl) rfl
theorem en37 : Enters Tryz.prog 37 := enters_mk Tryz.func37 (by kernel_rfl) rfl
theorem en39 : Enters Tryz.prog 39 := enters_mk Tryz.func39 (by kernel_rfl) rfl
theorem en40 : Enters Tryz.prog 40 := enters_mk Tryz.func40 (by kernel_rfl) rfl
theorem en85 : Enters Tryz.prog 85 := enters_mk Tryz.func85 (by kernel_rfl) rfl
end
open Go.RowKit
theorem sameName_spec {X : PMap} {B : Nat} {c : Con} {w1 w2 w3 w4 : Value} {d : Row7} (hB : Blk X B (rc7 (c.enf, c.kind, c.name, w1, w2, w3, w4))) (hd : ∃ (o : Nat) (n : Int) (A B : Option Addr) (l c1 l' c' : Nat), d.2.2.2 = (.int .u8 (o : Int), .int .i64 n, .slice A l c1, .slice B l' c')) : Spec Tryz.prog 40 [.agg (rc7 d).toArray, .pointer (some ⟨B, 0, none⟩)] X fun u _ => u = .bool (decide (d.2.2.1 = c.name)) := by
  obtain ⟨e, k, s, r⟩ := d
  obtain ⟨o, n, A, Bb, l, c1, l', c', hr⟩ := hd
  simp only at hr
  subst hr
  refine Spec.enter Tryz.func40 rfl Tryz.ntmps40 rfl ?_
  intro w0 hw0
  refine T.seq <| T.region <| SL.w (op_box rfl) ?_
  rintro _ _ _ ⟨B2, rfl, rfl, rfl⟩
  refine SL.as rfl <| SL.nil <| T.seq <| T.region <| SL.v (op_fieldAddr fa82_2 rfl) <| SL.v (op_load ty9 rfl (by repeat constructor) rfl) ?_
  refine SL.v (op_fieldAddr fa82_2 rfl) <| SL.v (op_loadX ty9 rfl (by assumption) rfl) ?_
  refine SL.v (op_eqlStrD rfl rfl) <| SL.as rfl <| SL.nil <| T.ret1 rfl (ResIs.tmp rfl) ?_
  rfl
theorem idxC_spec {X : PMap} {v : Value} {B : Nat} {c : Con} {w1 w2 w3 w4 : Value} {cs : List Con} (h : ConsR X v cs) (hB : Blk X B (rc7 (c.enf, c.kind, c.name, w1, w2, w3, w4))) (hl : cs.length < 1000) : Spec Tryz.prog 85 [v, .func (.func 40) #[] #[.pointer (some ⟨B, 0, none⟩)]] X fun u _ => ∃ k : Int, u = .int .i64 k ∧ (0 ≤ k ↔ c.name ∈ cs.map (·.name)) := by
  obtain ⟨rows, hr, hrl, hrow⟩ := h
  obtain ⟨A, cp, rfl⟩ := hr.form
  refine Spec.enter Tryz.func85 rfl Tryz.ntmps85 rfl ?_
  intro w0 hw0
  refine T.seq <| T.region <| SL.v (op_assign (v := .int .i64 ((0 : Nat) : Int)) rfl) <| SL.nil <| T.seq <| T.seq <| T.region <| SL.mv rfl <| SL.v (op_lenS Tryz.underlying24 rfl) <| SL.v (op_move (v := .int .i64 ((0 : Nat) : Int)) rfl) <| SL.nil <| T.block <| T.loopW (fun m env own X' => ∃ i : Nat, m = rows.length - i ∧ i ≤ rows.length ∧ X.le X' ∧ (∀ q d, q < i → cs[q]? = some d → d.name ≠ c.name) ∧ env = [(0, .slice A rows.length cp), (1, .func (.func 40) #[] #[.pointer (some ⟨B, 0, none⟩)]), (7, .int .i64 (rows.length : Int)), (8, .int .i64 (i : Int))] ∧ own = []) rows.length ⟨0, by simp, by omega, PMap.le_refl _, fun q x hq => absurd hq (by omega), rfl, rfl⟩ (by repeat (first | exact Sub.nil | refine Sub.cons rfl ?_)) ?_
  rintro m _ _ X1 ⟨i, rfl, hi, hX1, hne, rfl, rfl⟩
  rcases Nat.lt_or_ge i rows.length with hil | hil
  · obtain ⟨r2, hr2⟩ : ∃ r2, rows[i]? = some r2 := ⟨_, List.getElem?_eq_getElem hil⟩
    obtain ⟨d, hd2⟩ : ∃ d, cs[i]? = some d := ⟨_, List.getElem?_eq_getElem (by omega)⟩
    have hrc := hrow i d r2 hd2 hr2
    obtain ⟨b, pre, rfl, hbA⟩ := hr.blk (by omega)
    have hf := hrc.2.2.2.form
    have hnm := hrc.2.2.1
    refine T.seq <| T.region <| SL.v (op_lssT rfl rfl (by omega)) ?_
    refine SL.nil <| T.seq <| T.condT rfl <| T.skip <| T.seq <| T.block <| T.seq <| T.region <| SL.mv rfl <| SL.as rfl <| SL.nil <| T.seq <| T.region <| SL.mv rfl <| SL.mv rfl ?_
    refine SL.mv rfl <| SL.v (op_indexN Tryz.underlying24 ty82 rfl rfl (by omega)) ?_
    refine SL.v (op_loadX ty82 rfl (hbA.mono hX1) (row_read rc7_len hr2 (by omega))) ?_
    refine SL.w (op_call en40 rfl (vs := [_]) rfl (sameName_spec (hB.mono hX1) hf)) ?_
    rintro _ _ X2 ⟨rfl, hX2, rfl⟩
    rw [hnm]
    by_cases hc : d.name = c.name
    · rw [decide_eq_true hc]
      refine SL.nil <| T.condT rfl <| T.seq <| T.region <| SL.mv rfl <| SL.as rfl <| SL.nil <| T.ret1 rfl (ResIs.tmp rfl) ?_
      exact ⟨_, rfl, fun _ => List.mem_map.2 ⟨d, List.mem_of_getElem? hd2, hc⟩, fun _ => by omega⟩
    · rw [decide_eq_false hc]
      refine SL.nil <| T.condF rfl <| T.skip <| T.blk <| T.region <| SL.v (op_addN (q := 1) rfl rfl (by omega)) ?_
      refine SL.mv rfl <| SL.nil ?_
      have hne2 : ∀ (q : Nat) (y : Con), q < i + 1 → cs[q]? = some y → y.name ≠ c.name := fun q y hq hy => by
        rcases Nat.lt_or_ge q i with h1 | h1
        · exact hne q y h1 hy
        · obtain rfl : q = i := by omega
          rw [hd2] at hy; cases hy; exact hc
      exact T.backW (rows.length - (i + 1)) (by omega) ⟨i + 1, rfl, by omega, hX1.trans' hX2, hne2, rfl, rfl⟩ (by repeat (first | exact Sub.nil | refine Sub.cons rfl ?_))
  · refine T.seq <| T.region <| SL.v (op_lssF rfl rfl (by omega)) ?_
    refine SL.nil <| T.seq <| T.condF rfl ?_
    refine T.exit (T.exitCode (T.exitCut (T.exitBlk ?_)))
    refine T.seq <| T.region <| SL.as rfl <| SL.nil <| T.ret1 rfl (ResIs.tmp rfl) ?_
    refine ⟨_, rfl, fun h => absurd h (by omega), fun hm => ?_⟩
    obtain ⟨d, hd, hdn⟩ := List.mem_map.1 hm
    obtain ⟨q, hq⟩ := List.mem_iff_getElem?.1 hd
    have h1 := (List.getElem?_eq_some_iff.1 hq).1
    exact absurd hdn (hne q d (by omega) hq)
theorem conC_spec {X : PMap} {v : Value} {B : Nat} {c : Con} {w1 w2 w3 w4 : Value} {cs : List Con} (h : ConsR X v cs) (hB : Blk X B (rc7 (c.enf, c.kind, c.name, w1, w2, w3, w4))) (hl : cs.length < 1000) : Spec Tryz.prog 39 [v, .func (.func 40) #[] #[.pointer (some ⟨B, 0, none⟩)]] X fun u _ => u = .bool (decide (c.name ∈ cs.map (·.name))) := by
  obtain ⟨A, cp, rfl⟩ : ∃ A cp, v = .slice A cs.length cp := by
    obtain ⟨rows, hr, hrl, _⟩ := h
    obtain ⟨A, cp, rfl⟩ := hr.form
    exact ⟨A, cp, by rw [hrl]⟩
  refine Spec.enter Tryz.func39 rfl Tryz.ntmps39 rfl ?_
  intro w0 hw0
  refine T.seq <| T.region <| SL.as rfl <| SL.nil <| T.seq <| T.region <| SL.mv rfl <| SL.mv rfl <| SL.w (op_callF en85 (vs := [_, _]) rfl (idxC_spec h hB hl)) ?_
  rintro _ _ X1 ⟨rfl, hX1, k, rfl, hk⟩
  refine SL.v (op_geq rfl rfl) <| SL.as rfl <| SL.nil <| T.ret1 rfl (ResIs.tmp rfl) ?_
  simp only [hk]
theorem chkCs_at {cs : List Con} {i : Nat} {c : Con} (h0 : chkCs [] (cs.take i) = 0) (hc : cs[i]? = some c) (hz : errC ((cs.take i).map (·.name)) c ≠ 0) : chkCs [] cs = errC ((cs.take i).map (·.name)) c := by
  obtain ⟨h1, h2⟩ := List.getElem?_eq_some_iff.1 hc
  have e : cs = cs.take i ++ c :: cs.drop (i + 1) := by rw [← h2, ← List.drop_eq_getElem_cons h1, List.take_append_drop]
  have : chkCs [] (cs.take i ++ c :: cs.drop (i + 1)) = errC ((cs.take i).map (·.name)) c := by
    rw [chkCs_app, if_neg (by simp [h0]), List.nil_append, chkCs, if_pos hz]
  rwa [← e] at this
theorem chkCs_snoc {cs : List Con} {i : Nat} {c : Con} (h0 : chkCs [] (cs.take i) = 0) (hc : cs[i]? = some c) (hz : errC ((cs.take i).map (·.name)) c = 0) : chkCs [] (cs.take (i + 1)) = 0 := by
  rw [take_snoc hc, chkCs_app, if_neg (by simp [h0]), List.nil_append, chkCs, if_neg (fun h => h hz), chkCs]
theorem check_spec {M : Nat} {X : PMap} (hI : ItoaOk M X) {v : Value} {cs : List Con} (h : ConsR X v cs) (hl : cs.length ≤ 40) (h0 : 0 < cs.length) (hw : wtC cs < 15000000) (hww : ∀ c ∈ cs, wtE c.ex < 900000) (hn : ∀ c ∈ cs, chkE c.ex = 0 → numE M c.ex)
    : Spec Tryz.prog 16 [v] X fun u _ => u = .int .i64 (chkAll cs) := by
  have hcs := h
  obtain ⟨rows, hr, hrl, hrow⟩ := h
  obtain ⟨A, cp, rfl⟩ := hr.form
  have hcap := hr.cap (by omega)
  by_cases h32 : 32 < cs.length
  · refine Spec.enter Tryz.func16 rfl Tryz.ntmps16 rfl ?_
    intro w0 hw0
    refine T.seq <| T.region <| SL.v (op_assign (v := .int .i64 ((0 : Nat) : Int)) rfl) <| SL.nil <| T.seq <| T.seq <| T.region <| SL.mv rfl <| SL.v (op_lenS Tryz.underlying24 rfl) <| SL.v (op_gtrT rfl rfl (by omega)) ?_
    refine SL.nil <| T.condT rfl <| T.seq <| T.region <| SL.v (op_assign (v := .int .i64 ((3 : Nat) : Int)) rfl) <| SL.nil <| T.ret1 rfl (ResIs.tmp rfl) ?_
    rw [chkAll, if_pos h32]; rfl
  refine Spec.enter Tryz.func16 rfl Tryz.ntmps16 rfl ?_
  intro w0 hw0
  refine T.seq <| T.region <| SL.v (op_assign (v := .int .i64 ((0 : Nat) : Int)) rfl) <| SL.nil <| T.seq <| T.seq <| T.region <| SL.mv rfl <| SL.v (op_lenS Tryz.underlying24 rfl) <| SL.v (op_gtrF rfl rfl (by omega)) ?_
  refine SL.nil <| T.condF rfl <| T.skip <| T.seq <| T.seq <| T.region <| SL.mv rfl <| SL.v (op_lenS Tryz.underlying24 rfl) <| SL.v (op_move (v := .int .i64 ((0 : Nat) : Int)) rfl) <| SL.nil <| T.block <| T.loopW (fun m env own X' => ∃ i : Nat, m = rows.length - i ∧ i ≤ rows.length ∧ X.le X' ∧ chkCs [] (cs.take i) = 0 ∧ env = [(0, .slice A rows.length cp), (9, .slice A rows.length cp), (10, .int .i64 (rows.length : Int)), (11, .int .i64 (i : Int))] ∧ own = []) rows.length ⟨0, by simp, by omega, PMap.le_refl _, by simp [chkCs], rfl, rfl⟩ (by repeat (first | exact Sub.nil | refine Sub.cons rfl ?_)) ?_
  rintro m _ _ X1 ⟨i, rfl, hi, hX1, hz0, rfl, rfl⟩
  rcases Nat.lt_or_ge i rows.length with hil | hil
  · obtain ⟨r2, hr2⟩ : ∃ r2, rows[i]? = some r2 := ⟨_, List.getElem?_eq_getElem hil⟩
    obtain ⟨c, hc2⟩ : ∃ c, cs[i]? = some c := ⟨_, List.getElem?_eq_getElem (by omega)⟩
    have hmc := List.mem_of_getElem? hc2
    have hrc := hrow i c r2 hc2 hr2
    have htk : ConsR X (.slice (slA A cp 0 7) i cp) (cs.take i) := ⟨rows.take i, hr.take (sz := 7) (by omega), by rw [List.length_take, List.length_take]; omega, fun q d r a b => by
      rw [List.getElem?_take] at a b
      split at a
      · rename_i hq
        rw [if_pos hq] at b
        exact hrow q d r a b
      · cases a⟩
    obtain ⟨bA, pre, rfl, hbA⟩ := hr.blk (by omega)
    obtain ⟨o8, n8, a8, b8, l8, c8, l9, c9, rfl⟩ := hrc.form
    have hex := hrc.2.2.2
    simp only at hex
    have hwe := hww c hmc
    have hlt : (cs.take i).length < 1000 := by rw [List.length_take]; omega
    refine T.seq <| T.region <| SL.v (op_lssT rfl rfl (by omega)) ?_
    refine SL.nil <| T.seq <| T.condT rfl <| T.skip <| T.seq <| T.block <| T.seq <| T.region <| SL.mv rfl <| SL.v (op_indexN Tryz.underlying24 ty82 rfl rfl (by omega)) ?_
    refine SL.v (op_loadX (v := .agg #[.bool c.enf, .int .u8 (c.kind : Int), .string c.name, .int .u8 (o8 : Int), .int .i64 n8, .slice a8 l8 c8, .slice b8 l9 c9]) ty82 rfl (hbA.mono hX1) (row_read rc7_len hr2 (by omega))) ?_
    by_cases hk1 : c.kind < 1
    · have he : errC ((cs.take i).map (·.name)) c = 1 := by rw [errC, if_pos (.inl hk1)]
      refine SL.w (op_alloc z82) ?_
      rintro _ _ _ ⟨B4, rfl, rfl, rfl⟩
      refine SL.as rfl <| SL.w (op_store ty82 rfl rfl (by repeat constructor) rfl rfl rfl) ?_
      rintro _ _ _ ⟨rfl, rfl⟩
      refine SL.nil <| T.seq <| T.block <| T.seq <| T.region <| SL.v (op_fieldAddr fa82_1 rfl) <| SL.v (op_load ty80 rfl (by repeat constructor) rfl) ?_
      refine SL.v (op_lssT rfl rfl (by omega)) ?_
      refine SL.mv rfl <| SL.skip rfl rfl ?_
      refine SL.skip rfl rfl ?_
      refine SL.skip rfl rfl ?_
      refine SL.v (op_pickT rfl rfl) <| SL.as rfl <| SL.nil <| T.condT rfl <| T.seq <| T.region <| SL.v (op_assign (v := .int .i64 ((1 : Nat) : Int)) rfl) <| SL.nil <| T.ret1 rfl (ResIs.tmp rfl) ?_
      rw [chkAll, if_neg h32, chkCs_at hz0 hc2 (by rw [he]; decide), he]; rfl
    by_cases hk3 : 3 < c.kind
    · have he : errC ((cs.take i).map (·.name)) c = 1 := by rw [errC, if_pos (.inr hk3)]
      refine SL.w (op_alloc z82) ?_
      rintro _ _ _ ⟨B4, rfl, rfl, rfl⟩
      refine SL.as rfl <| SL.w (op_store ty82 rfl rfl (by repeat constructor) rfl rfl rfl) ?_
      rintro _ _ _ ⟨rfl, rfl⟩
      refine SL.nil <| T.seq <| T.block <| T.seq <| T.region <| SL.v (op_fieldAddr fa82_1 rfl) <| SL.v (op_load ty80 rfl (by repeat constructor) rfl) ?_
      refine SL.v (op_lssF rfl rfl (by omega)) ?_
      refine SL.mv rfl <| SL.v (op_fieldAddr fa82_1 rfl) <| SL.v (op_load ty80 rfl (by repeat constructor) rfl) ?_
      refine SL.v (op_gtrT rfl rfl (by omega)) ?_
      refine SL.v (op_pickF rfl rfl) <| SL.as rfl <| SL.nil <| T.condT rfl <| T.seq <| T.region <| SL.v (op_assign (v := .int .i64 ((1 : Nat) : Int)) rfl) <| SL.nil <| T.ret1 rfl (ResIs.tmp rfl) ?_
      rw [chkAll, if_neg h32, chkCs_at hz0 hc2 (by rw [he]; decide), he]; rfl
    have hk : ¬(c.kind < 1 ∨ 3 < c.kind) := fun h => by omega
    refine SL.w (op_alloc z82) ?_
    rintro _ _ _ ⟨B4, rfl, rfl, rfl⟩
    refine SL.as rfl <| SL.w (op_store ty82 rfl rfl (by repeat constructor) rfl rfl rfl) ?_
    rintro _ _ _ ⟨rfl, rfl⟩
    refine SL.nil <| T.seq <| T.block <| T.seq <| T.region <| SL.v (op_fieldAddr fa82_1 rfl) <| SL.v (op_load ty80 rfl (by repeat constructor) rfl) ?_
    refine SL.v (op_lssF rfl rfl (by omega)) ?_
    refine SL.mv rfl <| SL.v (op_fieldAddr fa82_1 rfl) <| SL.v (op_load ty80 rfl (by repeat constructor) rfl) ?_
    refine SL.v (op_gtrF rfl rfl (by omega)) ?_
    refine SL.v (op_pickF rfl rfl) <| SL.as rfl <| SL.nil <| T.pub B4 (by repeat constructor) ?_
    intro X2 hX2 hB4 _
    have hB4 : Blk X2 B4 (rc7 (c.enf, c.kind, c.name, .int .u8 (o8 : Int), .int .i64 n8, .slice a8 l8 c8, .slice b8 l9 c9)) := hB4
    refine T.condF rfl <| T.seq <| T.region <| SL.v (op_fieldAddr fa82_2 rfl) <| SL.v (op_loadX ty9 rfl (by assumption) rfl) ?_
    refine SL.w (op_callF en38 (vs := [_]) rfl (nvalid_spec)) ?_
    rintro _ _ X3 ⟨rfl, hX3, rfl⟩
    by_cases hv : validS c.name
    case neg =>
      have he : errC ((cs.take i).map (·.name)) c = 9 := by rw [errC, if_neg hk, if_pos hv]
      rw [decide_eq_false hv]
      refine SL.v (op_not rfl) <| SL.as rfl <| SL.nil <| T.condT rfl <| T.seq <| T.region <| SL.v (op_assign (v := .int .i64 ((9 : Nat) : Int)) rfl) <| SL.nil <| T.ret1 rfl (ResIs.tmp rfl) ?_
      rw [chkAll, if_neg h32, chkCs_at hz0 hc2 (by rw [he]; decide), he]; rfl
    rw [decide_eq_true hv]
    refine SL.v (op_not rfl) <| SL.as rfl <| SL.nil <| T.condF rfl <| T.seq <| T.region <| SL.mv rfl <| SL.mv rfl <| SL.v (op_sliceHi (l := i) Tryz.underlying24 ty82 rfl rfl (by omega)) ?_
    refine SL.v (op_makeFunc (vs := []) (us := [_]) rfl rfl) ?_
    have hcall := conC_spec (((htk.mono hX1).mono hX2).mono hX3) (hB4.mono hX3) hlt
    rw [List.length_take, Nat.min_eq_left (by omega)] at hlt
    refine SL.w (op_callF en39 (vs := [_, _]) rfl (hcall)) ?_
    rintro _ _ X4 ⟨rfl, hX4, rfl⟩
    by_cases hm : c.name ∈ (cs.take i).map (·.name)
    · have he : errC ((cs.take i).map (·.name)) c = 5 := by rw [errC, if_neg hk, if_neg (fun h => h hv), if_pos hm]
      rw [decide_eq_true hm]
      refine SL.as rfl <| SL.nil <| T.condT rfl <| T.seq <| T.region <| SL.v (op_assign (v := .int .i64 ((5 : Nat) : Int)) rfl) <| SL.nil <| T.ret1 rfl (ResIs.tmp rfl) ?_
      rw [chkAll, if_neg h32, chkCs_at hz0 hc2 (by rw [he]; decide), he]; rfl
    rw [decide_eq_false hm]
    have he : errC ((cs.take i).map (·.name)) c = chkE c.ex := by rw [errC, if_neg hk, if_neg (fun h => h hv), if_neg hm]
    have hX14 := ((hX1.trans' hX2).trans' hX3).trans' hX4
    refine SL.as rfl <| SL.nil <| T.condF rfl <| T.skip <| T.blk <| T.seq <| T.region <| SL.v (op_fieldAddr fa82_3 rfl) <| SL.v (op_loadX ty40 rfl ((hB4.mono hX3).mono hX4) rfl) <| SL.w (op_callF en25 (vs := [_]) rfl (chk_spec (by omega) (hex.mono hX14))) ?_
    rintro _ _ X5 ⟨rfl, hX5, rfl⟩
    by_cases hz : chkE c.ex = 0
    · skip
      refine SL.as rfl <| SL.nil <| T.seq <| T.region <| SL.mv rfl <| SL.v (op_neqF rfl rfl (by omega)) ?_
      refine SL.nil <| T.condF rfl <| T.skip <| T.blk <| T.region <| SL.v (op_addN (q := 1) rfl rfl (by omega)) ?_
      refine SL.mv rfl <| SL.nil ?_
      exact T.backW (rows.length - (i + 1)) (by omega) ⟨i + 1, rfl, by omega, hX14.trans' hX5, chkCs_snoc hz0 hc2 (he.trans hz), rfl, rfl⟩ (by repeat (first | exact Sub.nil | refine Sub.cons rfl ?_))
    · refine SL.as rfl <| SL.nil <| T.seq <| T.region <| SL.mv rfl <| SL.v (op_neqT rfl rfl (by omega)) ?_
      refine SL.nil <| T.condT rfl <| T.seq <| T.region <| SL.mv rfl <| SL.as rfl <| SL.nil <| T.ret1 rfl (ResIs.tmp rfl) ?_
      rw [chkAll, if_neg h32, chkCs_at hz0 hc2 (by rw [he]; exact hz), he, if_pos hz]
  · obtain rfl : i = rows.length := by omega
    have e : cs.take rows.length = cs := List.take_of_length_le (by omega)
    rw [e] at hz0
    have hll := linesL_len (cs := cs) fun c hc => (chkCs_mem hz0 c hc).2.2.1.2.1
    have hsz : (⟨(linesL cs).toArray⟩ : ByteArray).size = (linesL cs).length := by show (linesL cs).toArray.size = _; simp
    refine T.seq <| T.region <| SL.v (op_lssF rfl rfl (by omega)) ?_
    refine SL.nil <| T.seq <| T.condF rfl ?_
    refine T.exit (T.exitCode (T.exitCut (T.exitBlk ?_)))
    refine T.seq <| T.seq <| T.region <| SL.mv rfl <| SL.w (op_callF en37 (vs := [_]) rfl (lines_spec (hI.mono hX1) (hcs.mono hX1) hl h0 hw hww (fun c hc => hn c hc (chkCs_mem hz0 c hc).2.2.2) (chkCs_mem hz0))) ?_
    rintro _ _ X5 ⟨rfl, hX5, rfl⟩
    by_cases h8 : 8000 < (linesL cs).length
    · skip
      refine SL.v (op_lenStr Tryz.underlying9 rfl) <| SL.v (op_gtrT rfl rfl (by omega)) ?_
      refine SL.nil <| T.condT rfl <| T.seq <| T.region <| SL.v (op_assign (v := .int .i64 ((3 : Nat) : Int)) rfl) <| SL.nil <| T.ret1 rfl (ResIs.tmp rfl) ?_
      rw [chkAll, if_neg h32, if_neg (by simp [hz0]), if_pos h8]; rfl
    · refine SL.v (op_lenStr Tryz.underlying9 rfl) <| SL.v (op_gtrF rfl rfl (by omega)) ?_
      refine SL.nil <| T.condF rfl <| T.skip <| T.seq <| T.region <| SL.v (op_assign (v := .int .i64 ((0 : Nat) : Int)) rfl) <| SL.nil <| T.ret1 rfl (ResIs.tmp rfl) ?_
      rw [chkAll, if_neg h32, if_neg (by simp [hz0]), if_neg h8]; rfl
end Go.Proofs.YtnabbnhefjfegaaGreatDoor
namespace Go.Proofs.YtnabbnhefjfegaaGreatDoor
open Go.Shelf
def lays171_ren : Go.Shelf.Ren := ⟨fun | 171 => 115 | 243 => 148 | 246 => 158 | 283 => 175 | 284 => 176 | 285 => 177 | 286 => 178 | 129 => 174 | 317 => 188 | 318 => 189 | 319 => 190 | 320 => 191 | 337 => 195 | 338 => 196 | n => n, fun | 3 => 3 | 9 => 9 | 2 => 2 | 4 => 4 | 171 => 198 | 0 => 0 | 53 => 171 | 37 => 64 | 5 => 5 | 173 => 200 | 212 => 211 | 51 => 168 | 20 => 20 | 213 => 212 | 46 => 131 | 232 => 219 | 233 => 220 | n => n, fun | 17 => 1 | 18 => 2 | 19 => 3 | n => n⟩
theorem lays171 : Go.Proofs.LaysM.n171 Tryz.prog lays171_ren := {
  mixed := by kernel_rfl
  f129 := Tryz.func174.trans (congrArg some (by kernel_rfl))
  f171 := Tryz.func115.trans (congrArg some (by kernel_rfl))
  f243 := Tryz.func148.trans (congrArg some (by kernel_rfl))
  f246 := Tryz.func158.trans (congrArg some (by kernel_rfl))
  f283 := Tryz.func175.trans (congrArg some (by kernel_rfl))
  f284 := Tryz.func176.trans (congrArg some (by kernel_rfl))
  f285 := Tryz.func177.trans (congrArg some (by kernel_rfl))
  f286 := Tryz.func178.trans (congrArg some (by kernel_rfl))
  f317 := Tryz.func188.trans (congrArg some (by kernel_rfl))
  f318 := Tryz.func189.trans (congrArg some (by kernel_rfl))
  f319 := Tryz.func190.trans (congrArg some (by kernel_rfl))
  f320 := Tryz.func191.trans (congrArg some (by kernel_rfl))
  f337 := Tryz.func195.trans (congrArg some (by kernel_rfl))
  f338 := Tryz.func196.trans (congrArg some (by kernel_rfl))
  t0 := Tryz.underlying0
  a0 := Tryz.isAgg0
  z0 := Tryz.sizeOf0
  v0 := Tryz.zeroValue0
  t2 := Tryz.underlying2
  a2 := Tryz.isAgg2
  z2 := Tryz.sizeOf2
  v2 := Tryz.zeroValue2
  t3 := Tryz.underlying3
  a3 := Tryz.isAgg3
  z3 := Tryz.sizeOf3
  v3 := Tryz.zeroValue3
  t4 := Tryz.underlying4
  a4 := Tryz.isAgg4
  z4 := Tryz.sizeOf4
  v4 := Tryz.zeroValue4
  t5 := Tryz.underlying5
  a5 := Tryz.isAgg5
  z5 := Tryz.sizeOf5
  v5 := Tryz.zeroValue5
  t9 := Tryz.underlying9
  a9 := Tryz.isAgg9
  z9 := Tryz.sizeOf9
  v9 := Tryz.zeroValue9
  t20 := Tryz.underlying20
  a20 := Tryz.isAgg20
  z20 := Tryz.sizeOf20
  v20 := Tryz.zeroValue20
  t37 := Tryz.underlying64
  a37 := Tryz.isAgg64
  z37 := Tryz.sizeOf64
  v37 := Tryz.zeroValue64
  t46 := Tryz.underlying131
  a46 := Tryz.isAgg131
  z46 := Tryz.sizeOf131
  v46 := Tryz.zeroValue131
  t51 := Tryz.underlying168
  a51 := Tryz.isAgg168
  z51 := Tryz.sizeOf168
  v51 := Tryz.zeroValue168
  t53 := Tryz.underlying171
  a53 := Tryz.isAgg171
  z53 := Tryz.sizeOf171
  v53 := Tryz.zeroValue171
  t171 := Tryz.underlying198
  a171 := Tryz.isAgg198
  z171 := Tryz.sizeOf198
  v171 := Tryz.zeroValue198
  t173 := Tryz.underlying200
  a173 := Tryz.isAgg200
  z173 := Tryz.sizeOf200
  v173 := Tryz.zeroValue200
  t212 := Tryz.underlying211
  a212 := Tryz.isAgg211
  z212 := Tryz.sizeOf211
  v212 := Tryz.zeroValue211
  t213 := Tryz.underlying212
  a213 := Tryz.isAgg212
  z213 := Tryz.sizeOf212
  t232 := Tryz.underlying219
  a232 := Tryz.isAgg219
  z232 := Tryz.sizeOf219
  v232 := Tryz.zeroValue219
  t233 := Tryz.underlying220
  a233 := Tryz.isAgg220
  z233 := Tryz.sizeOf220
  v233 := Tryz.zeroValue220
  g17 := by kernel_rfl
  g18 := by kernel_rfl
  g19 := by kernel_rfl
  i0 := by kernel_rfl
  i2 := by kernel_rfl
  i3 := by kernel_rfl
  i4 := by kernel_rfl
  i5 := by kernel_rfl
  i9 := by kernel_rfl
  i20 := by kernel_rfl
  i37 := by kernel_rfl
  i46 := by kernel_rfl
  i51 := by kernel_rfl
  i53 := by kernel_rfl
  i171 := by kernel_rfl
  i173 := by kernel_rfl
  i212 := by kernel_rfl
  i232 := by kernel_rfl
  i233 := by kernel_rfl
  m17 := by kernel_rfl
  m18 := by kernel_rfl
  m19 := by kernel_rfl }
end Go.Proofs.YtnabbnhefjfegaaGreatDoor
namespace Go.Proofs.YtnabbnhefjfegaaGreatDoor
open Go.RowKit
/-- The table of powers of ten lies as its initialiser lays it. -/
def Pow10 (X : PMap) : Prop := ∀ w, PIn X w → Lib.TabIs Tryz.prog w "internal/strconv.uint64pow10" .u64 Lib.pow10Tab
theorem Pow10.mono {X X' : PMap} (h : Pow10 X) (hX : X.le X') : Pow10 X' := fun w hw => h w fun k o hk => hw k o (hX k o hk)
theorem decG_lib : ∀ (f v : Nat), v < 10 ^ f → 0 < f → decG f v = Lib.decDigits v
  | 0, _, _, h => by omega
  | f + 1, v, h, _ => by
    rw [decG, Lib.decDigits]
    by_cases hv : v < 10
    · rw [if_pos hv, dif_pos hv]
    · rw [if_neg hv, dif_neg hv]
      have h1 : v / 10 < 10 ^ f := by rw [Nat.pow_succ] at h; omega
      rw [decG_lib f (v / 10) h1 (Nat.pos_of_ne_zero fun e => by subst e; simp at h1; omega)]
theorem itoaL_spec {X : PMap} (hP : Pow10 X) (v : Nat) (hv : v ≤ 9223372036854775807) : Spec Tryz.prog 115 [.int .i64 (v : Int)] X fun u _ => u = .string (decB v) := fun w hw => by
  have h := Any.strconv_Itoa lays171 (v : Int) (by omega) (by omega) w (hP w hw)
  refine h.mono ?_
  rintro e w' ⟨rfl, k, os, rfl⟩
  have e1 : (⟨(Lib.itoa (v : Int)).toArray⟩ : ByteArray) = decB v := by
    rw [Lib.itoa, if_neg (by omega), Int.toNat_natCast, decB, decG_lib 20 v (by omega) (by omega)]
  have hlt : ∀ k' : Nat, k' < w.heap.size → (Sort.grow (w.drewN k) os).heap[k']? = w.heap[k']? := fun k' hk => by
    show (w.heap ++ os)[k']? = _
    rw [Array.getElem?_append_left hk]
  refine ⟨_, X, rfl, ⟨rfl, rfl, rfl, ?_, hlt⟩, fun k' o hk => ?_, fun _ _ => rfl, by rw [e1]⟩
  · show w.heap.size ≤ (w.heap ++ os).size
    simp
  · rw [hlt k' (hw.lt hk)]; exact hw k' o hk
end Go.Proofs.YtnabbnhefjfegaaGreatDoor
namespace Go.Proofs.YtnabbnhefjfegaaGreatDoor
open Go.RowKit
theorem itoa_ok {X : PMap} (hP : Pow10 X) : ItoaOk 1000000 X := fun _ hX v hv => itoaL_spec (hP.mono hX) v (by omega)
mutual
theorem num_of : ∀ e : Ex, nodeE e = 0 → numE 1000000 e
  | .mk op n ns al, h => by
    obtain ⟨h1, h2⟩ := node_ok h
    obtain ⟨_, _, _, _, _, _, _, _, o9⟩ := own_ok h1
    exact (show (op = 1 → n < ((1000000 : Nat) : Int)) ∧ numL 1000000 al from ⟨fun _ => by omega, num_ofL al h2⟩)
theorem num_ofL : ∀ l : List Ex, nodeL l = 0 → numL 1000000 l
  | [], _ => trivial
  | a :: l, h => by
    have h1 : nodeE a = 0 := nodeL_zero h a (by simp)
    rw [nodeL, if_neg (fun h => h h1)] at h
    exact (show numE 1000000 a ∧ numL 1000000 l from ⟨num_of a h1, num_ofL l h⟩)
end
theorem printA_spec {X : PMap} (hP : Pow10 X) {e : Ex} {r : Row4} (hw : wtE e < 900000) (h : ExR .u8 X e r) : Spec Tryz.prog 27 [.agg #[r.1, r.2.1, r.2.2.1, r.2.2.2]] X fun u _ => u = .string (if chkE e = 0 then textE e else ⟨#[]⟩) :=
  eprint_spec (itoa_ok hP) hw (fun hc => num_of e (chkE_node hc)) h
end Go.Proofs.YtnabbnhefjfegaaGreatDoor
namespace Go.Proofs.YtnabbnhefjfegaaGreatDoor
open Go.RowKit
section
variable {P : Program} {n : NM} {own : Own} {X : PMap} {env : Env}
theorem op_sliceData0 {x : Operand} {ts : Array TypeId} {l c : Nat} (hx : eev env x = some (.slice none l c)) : OpY P n env own X (.call { callee := .builtin .unsafeSliceData, args := #[x], argTypes := ts }) (.pointer none) := by
  intro a W oper hop ha _
  have hr : (Builtin.unsafeSliceData_ ts oper.type #[.slice none l c]).run P W = .ok (.pointer none) W := rfl
  simp only [execOp, hop, resolve, invoke, builtin, Sem.run_bind, Sem.run_pure, Result.andThen_ok, List.map_toArray, List.map_cons, List.map_nil, ha.eval hx, hr]
theorem op_unsafeStr0 {x y : Operand} {pt it : TypeId} (hx : eev env x = some (.pointer none)) (hy : eev env y = some (.int .i64 0)) : OpY P n env own X (.call { callee := .builtin .unsafeString, args := #[x, y], argTypes := #[pt, it] }) (.string ⟨#[]⟩) := by
  intro a W oper hop ha _
  have hr : (Builtin.unsafeString_ #[pt, it] oper.type #[.pointer none, .int .i64 0]).run P W = .ok (.string ⟨#[]⟩) W := rfl
  simp only [execOp, hop, resolve, invoke, builtin, Sem.run_bind, Sem.run_pure, Result.andThen_ok, List.map_toArray, List.map_cons, List.map_nil, ha.eval hx, ha.eval hy, hr]
end
theorem bstring0_spec {X : PMap} {b : Nat} {p : Value} : SpecM Tryz.prog 80 [.pointer (some ⟨b, 0, none⟩)] X [BldO b p (.slice none 0 0)] fun u L' _ => u = .string ⟨#[]⟩ ∧ L' = [BldO b p (.slice none 0 0)] := by
  refine SpecM.enter Tryz.func80 rfl Tryz.ntmps80 rfl ?_
  intro w0 X0 own0
  refine T.perm (own' := BldO b p (.slice none 0 0) :: own0) (List.Perm.refl _) ?_
  refine T.seq <| T.region <| SL.as rfl <| SL.nil <| T.seq <| T.draw (by kernel_rfl) 12 [.t 0, .t 1, .t 2, .t 3, .t 4, .t 5, .t 6, .t 7, .t 8, .t 9, .r 10, .t 11] (by kernel_rfl) ?_
  refine SD.take rfl panicBody (op_move rfl) rfl rfl ?_
  refine SD.take rfl panicBody (op_nil rfl) rfl rfl ?_
  refine SD.take rfl panicBody (op_fieldAddr fa137_1 rfl) rfl rfl ?_
  refine SD.take rfl panicBody (op_load ty64 rfl (by repeat constructor) rfl) rfl rfl ?_
  refine SD.take rfl panicBody (op_sliceData0 rfl) rfl rfl ?_
  refine SD.take rfl panicBody (op_move rfl) rfl rfl ?_
  refine SD.take rfl panicBody (op_nil rfl) rfl rfl ?_
  refine SD.take rfl panicBody (op_fieldAddr fa137_1 rfl) rfl rfl ?_
  refine SD.take rfl panicBody (op_load ty64 rfl (by repeat constructor) rfl) rfl rfl ?_
  refine SD.take rfl panicBody (op_lenS Tryz.underlying64 rfl) rfl rfl ?_
  refine SD.run rfl (opx_of (fun u => u = .string ⟨#[]⟩) (op_unsafeStr0 rfl rfl) rfl rfl) rfl rfl ?_
  rintro _ _ _ ⟨rfl, rfl, rfl⟩
  refine SD.take rfl panicBody (op_assign rfl) rfl rfl ?_
  refine SD.nil ?_
  show SL _ _ _ _ _ _ _ [] _ _ _
  refine SL.nil <| T.retM1 [BldO b p (.slice none 0 0)] rfl (ResIs.tmp rfl) (List.Perm.refl _) ?_
  exact ⟨PMap.le_refl _, rfl, rfl⟩
theorem lines0_spec {X : PMap} {A : Option Addr} {c : Nat} : Spec Tryz.prog 37 [.slice A 0 c] X fun u _ => u = .string ⟨#[]⟩ := by
  refine Spec.enter Tryz.func37 rfl Tryz.ntmps37 rfl ?_
  intro w0 hw0
  refine T.seq <| T.region <| SL.as rfl <| SL.nil <| T.seq <| T.region <| SL.w (op_alloc z137) ?_
  rintro _ _ _ ⟨B3, rfl, rfl, rfl⟩
  refine SL.nil <| T.seq <| T.seq <| T.region <| SL.mv rfl <| SL.v (op_lenS Tryz.underlying24 rfl) <| SL.v (op_move (v := .int .i64 ((0 : Nat) : Int)) rfl) <| SL.nil <| T.block <| T.unrollStart 1 ?_
  refine T.unroll ?_
  refine T.seq <| T.region <| SL.v (op_lssF rfl rfl (by omega)) ?_
  refine SL.nil <| T.seq <| T.condF rfl ?_
  refine T.exit (T.exitCode (T.exitMore (T.exitBlk ?_)))
  refine T.seq <| T.region <| SL.w (op_callM en80 (vs := [_]) rfl (bstring0_spec) rfl) ?_
  rintro _ _ X5 ⟨_, rfl, hX5, rfl, rfl⟩
  refine SL.as rfl <| SL.nil <| T.ret1 rfl (ResIs.tmp rfl) ?_
  rfl
theorem check0_spec {X : PMap} {A : Option Addr} {c : Nat} : Spec Tryz.prog 16 [.slice A 0 c] X fun u _ => u = .int .i64 0 := by
  refine Spec.enter Tryz.func16 rfl Tryz.ntmps16 rfl ?_
  intro w0 hw0
  refine T.seq <| T.region <| SL.v (op_assign (v := .int .i64 ((0 : Nat) : Int)) rfl) <| SL.nil <| T.seq <| T.seq <| T.region <| SL.mv rfl <| SL.v (op_lenS Tryz.underlying24 rfl) <| SL.v (op_gtrF rfl rfl (by omega)) ?_
  refine SL.nil <| T.condF rfl <| T.skip <| T.seq <| T.seq <| T.region <| SL.mv rfl <| SL.v (op_lenS Tryz.underlying24 rfl) <| SL.v (op_move (v := .int .i64 ((0 : Nat) : Int)) rfl) <| SL.nil <| T.block <| T.unrollStart 1 ?_
  refine T.unroll ?_
  refine T.seq <| T.region <| SL.v (op_lssF rfl rfl (by omega)) ?_
  refine SL.nil <| T.seq <| T.condF rfl ?_
  refine T.exit (T.exitCode (T.exitMore (T.exitBlk ?_)))
  refine T.seq <| T.seq <| T.region <| SL.mv rfl <| SL.w (op_callF en37 (vs := [_]) rfl (lines0_spec)) ?_
  rintro _ _ X5 ⟨rfl, hX5, rfl⟩
  have k0 : (⟨#[]⟩ : ByteArray).size = 0 := rfl
  refine SL.v (op_lenStr Tryz.underlying9 rfl) <| SL.v (op_gtrF rfl rfl (by omega)) ?_
  refine SL.nil <| T.condF rfl <| T.skip <| T.seq <| T.region <| SL.v (op_assign (v := .int .i64 ((0 : Nat) : Int)) rfl) <| SL.nil <| T.ret1 rfl (ResIs.tmp rfl) ?_
  rfl
theorem ConsR.form {X : PMap} {v : Value} {cs : List Con} (h : ConsR X v cs) : ∃ A cp, v = .slice A cs.length cp := by
  obtain ⟨rows, hr, hrl, _⟩ := h
  obtain ⟨A, cp, rfl⟩ := hr.form
  exact ⟨A, cp, by rw [hrl]⟩
theorem checkA_spec {X : PMap} (hP : Pow10 X) {v : Value} {cs : List Con} (h : ConsR X v cs) (hl : cs.length ≤ 40) (hw : wtC cs < 15000000) (hww : ∀ c ∈ cs, wtE c.ex < 900000) : Spec Tryz.prog 16 [v] X fun u _ => u = .int .i64 (chkAll cs) := by
  rcases Nat.eq_zero_or_pos cs.length with h0 | h0
  · obtain rfl := List.eq_nil_of_length_eq_zero h0
    obtain ⟨A, cp, rfl⟩ := h.form
    refine check0_spec.mono fun u _ _ hu => ?_
    rw [hu]; simp [chkAll, chkCs, linesL]
  · exact check_spec (itoa_ok hP) h hl h0 hw hww fun c _ hc => num_of c.ex (chkE_node hc)
end Go.Proofs.YtnabbnhefjfegaaGreatDoor
namespace Go.Proofs.YtnabbnhefjfegaaGreatDoor
section
set_option maxRecDepth 100000
theorem bs82 : ∃ i z, Tryz.prog.info? 82 = some i ∧ i.size = 7 ∧ i.zero = some z ∧ z.cells = ([.bool false, .int .u8 0, .string ⟨#[]⟩, .int .u8 0, .int .i64 0, .slice none 0 0, .slice none 0 0] : List Value).toArray := bs_of (by kernel_rfl)
theorem en44 : Enters Tryz.prog 44 := enters_mk Tryz.func44 (by kernel_rfl) rfl
theorem sl24 : SlT Tryz.prog 24 82 7 88 := ⟨Tryz.underlying24, sl_of (by kernel_rfl) (by decide)⟩
end
open Go.RowKit
/-- Constraints of tokens, up to the end. -/
noncomputable def consP (ex : ParP) : Nat → List Con → List Tk → Except (Nat × Int) (List Con)
  | 0, cs, _ => .ok cs
  | k + 1, cs, l => if hdK l = 0 then .ok cs else match conP ex l with
    | .error x => .error x
    | .ok y => consP ex k (cs ++ [y.1]) y.2
def runC {α : Type} (p : List Tk → Except (Nat × Int) α) : RSt → Except (Nat × Int) α
  | .ok l => p l
  | .error x => .error x
/-- The constraints of a source, or the error with its offset. -/
noncomputable def parseM (s : ByteArray) : Except (Nat × Int) (List Con) := match begM s with
  | .error x => .error x
  | .ok ts => match consP (exprP (ts.length + 1)) (ts.length + 1) [] ts with
    | .error x => .error x
    | .ok cs => if chkAll cs = 0 then .ok cs else .error (0, chkAll cs)
theorem conP_wt {ex : ParP} (hx : Wt ex) {l l' : List Tk} {c : Con} (h : conP ex l = .ok (c, l')) : wtE c.ex + 14 * l'.length ≤ 14 * l.length := by
  have hK2 : ∀ {en : Bool} {k : Nat} {l l' : List Tk} {c : Con}, conK2 ex en k l = .ok (c, l') → wtE c.ex + 14 * l'.length ≤ 14 * l.length := fun h => by
    obtain ⟨s, l1, h1, h⟩ := bind_ok h
    obtain ⟨_, l2, h2, h⟩ := bind_ok h
    obtain ⟨x, l3, h3, h⟩ := bind_ok h
    obtain ⟨_, l4, h4, h⟩ := bind_ok h
    simp only [Except.ok.injEq, Prod.mk.injEq] at h
    obtain ⟨rfl, rfl⟩ := h
    have a1 := nameT_wt h1
    have a2 := expT_wt h2
    have a3 := hx _ _ _ h3
    have a4 := expT_wt h4
    show wtE x + _ ≤ _
    omega
  have hK1 : ∀ {en : Bool} {l l' : List Tk} {c : Con}, conK1 ex en l = .ok (c, l') → wtE c.ex + 14 * l'.length ≤ 14 * l.length := fun h => by
    rw [conK1] at h
    split at h
    · rename_i hk
      have := hK2 h
      have := isT_len hk
      omega
    · split at h
      · rename_i hk
        have := hK2 h
        have := isT_len hk
        omega
      · obtain ⟨_, l1, h1, h⟩ := bind_ok h
        have := hK2 h
        have := expT_wt h1
        omega
  rw [conP] at h
  split at h
  · rename_i hk
    have := hK1 h
    have := isT_len hk
    omega
  · obtain ⟨_, l1, h1, h⟩ := bind_ok h
    have := hK1 h
    have := expT_wt h1
    omega
theorem checkB_spec {X : PMap} (hP : Pow10 X) {v : Value} {cs : List Con} (h : ConsR X v cs) (hw : wtC cs < 15000000) (hww : ∀ c ∈ cs, wtE c.ex < 900000) : Spec Tryz.prog 16 [v] X fun u _ => u = .int .i64 (chkAll cs) := by
  by_cases h32 : 32 < cs.length
  · obtain ⟨A, cp, rfl⟩ := h.form
    refine Spec.enter Tryz.func16 rfl Tryz.ntmps16 rfl ?_
    intro w0 hw0
    refine T.seq <| T.region <| SL.v (op_assign (v := .int .i64 ((0 : Nat) : Int)) rfl) <| SL.nil <| T.seq <| T.seq <| T.region <| SL.mv rfl <| SL.v (op_lenS Tryz.underlying24 rfl) <| SL.v (op_gtrT rfl rfl (by omega)) ?_
    refine SL.nil <| T.condT rfl <| T.seq <| T.region <| SL.v (op_assign (v := .int .i64 ((3 : Nat) : Int)) rfl) <| SL.nil <| T.ret1 rfl (ResIs.tmp rfl) ?_
    rw [chkAll, if_pos h32]
    rfl
  · exact checkA_spec hP h (by omega) hw hww
theorem consP_stop {ex : ParP} {k : Nat} {cs : List Con} {l : List Tk} (h : hdK l = 0) : consP ex (k + 1) cs l = .ok cs := by rw [consP, if_pos h]
theorem consP_step {ex : ParP} {k : Nat} {cs : List Con} {l : List Tk} {sb : RSt} {c : Con} (h : hdK l ≠ 0) (hO : Out (runM (conP ex) (.ok l)) sb c) : runC (consP ex (k + 1) cs) (.ok l) = runC (consP ex k (cs ++ [c])) sb := by
  show consP ex (k + 1) cs l = _
  rw [consP, if_neg h]
  simp only [runM] at hO
  cases he : conP ex l with
  | error x => rw [he] at hO; simp only [Out] at hO; subst hO; rfl
  | ok y => rw [he] at hO; obtain ⟨rfl, rfl⟩ := hO; rfl
theorem parseM_run {s : ByteArray} {ts : List Tk} (hb : begM s = .ok ts) : parseM s = match runC (consP (exprP (ts.length + 1)) (ts.length + 1) []) (.ok ts) with
    | .error x => .error x
    | .ok cs => if chkAll cs = 0 then .ok cs else .error (0, chkAll cs) := by
  rw [parseM, hb]; rfl
theorem parse_spec {X : PMap} (hP10 : Pow10 X) {s : ByteArray} (hs : s.size < 1000000000) : Spec Tryz.prog 18 [.string s] X fun u X' => match parseM s with
    | .error x => u = .tuple #[.slice none 0 0, .int .i64 (x.1 : Int), .int .i64 x.2]
    | .ok cs => ∃ v, u = .tuple #[v, .int .i64 0, .int .i64 0] ∧ ConsR X' v cs := by
  have hmx : maxLen = 9223372036854775807 := rfl
  cases hb : begM s with
  | error x =>
    have hm : parseM s = .error x := by rw [parseM, hb]
    have hx2 := begM_err hb
    obtain ⟨o, c⟩ := x
    simp only at hx2
    refine Spec.enter Tryz.func18 rfl Tryz.ntmps18 rfl ?_
    intro w0 hw0
    refine T.seq <| T.region <| SL.as rfl <| SL.v (op_assign (v := .int .i64 ((0 : Nat) : Int)) rfl) <| SL.v (op_assign (v := .int .i64 ((0 : Nat) : Int)) rfl) <| SL.nil <| T.seq <| T.region <| SL.mv rfl <| SL.w (op_callO en42 (vs := [_]) rfl (begin_spec hs)) ?_
    rintro u1 _ X1 ⟨own1, rfl, hX1, hu1⟩
    rw [hb] at hu1
    obtain ⟨rfl, rfl⟩ := hu1
    refine SL.mv rfl <| SL.v (op_extract rfl rfl) <| SL.v (op_extract rfl rfl) <| SL.v (op_extract rfl rfl) <| SL.as rfl <| SL.as rfl <| SL.as rfl <| SL.nil <| T.seq <| T.seq <| T.region <| SL.mv rfl <| SL.v (op_neqT rfl rfl (by omega)) ?_
    refine SL.nil <| T.condT rfl <| T.seq <| T.region <| SL.mv rfl <| SL.mv rfl <| SL.as rfl <| SL.as rfl <| SL.as rfl <| SL.nil <| T.ret3 rfl rfl rfl rfl ?_
    rw [hm]
    rfl
  | ok ts =>
    have hrun := parseM_run hb
    refine Spec.enter Tryz.func18 rfl Tryz.ntmps18 rfl ?_
    intro w0 hw0
    refine T.seq <| T.region <| SL.as rfl <| SL.v (op_assign (v := .int .i64 ((0 : Nat) : Int)) rfl) <| SL.v (op_assign (v := .int .i64 ((0 : Nat) : Int)) rfl) <| SL.nil <| T.seq <| T.region <| SL.mv rfl <| SL.w (op_callO en42 (vs := [_]) rfl (begin_spec hs)) ?_
    rintro u1 _ X1 ⟨own1, rfl, hX1, hu1⟩
    rw [hb] at hu1
    obtain ⟨pb, rb, v, rfl, rfl, hP, hT, h0, hl8⟩ := hu1
    refine SL.mv rfl <| SL.v (op_extract rfl rfl) <| SL.v (op_extract rfl rfl) <| SL.v (op_extract rfl rfl) <| SL.as rfl <| SL.as rfl <| SL.as rfl <| SL.nil <| T.seq <| T.seq <| T.region <| SL.mv rfl <| SL.v (op_neqF rfl rfl (by omega)) ?_
    refine SL.nil <| T.condF rfl <| T.skip <| T.seq <| T.region <| SL.as rfl <| SL.nil <| T.seq <| T.block <| T.loopW (fun m env own X' => ∃ (cs : List Con) (rows : List Row7) (vs : Value) (G : Own) (i off : Nat) (e : Int) (sa : RSt) (k : Nat), m = lenS sa ∧ X1.le X' ∧ RdS ts sa i off e ∧ (∀ l, sa = .ok l → l.length < ts.length + 1) ∧ lenS sa < k ∧ cs.length + lenS sa ≤ ts.length ∧ runC (consP (exprP (ts.length + 1)) (ts.length + 1) []) (.ok ts) = runC (consP (exprP (ts.length + 1)) k cs) sa ∧ (∀ l, sa = .ok l → wtC cs + 14 * l.length ≤ 14 * ts.length) ∧ rows.length = cs.length ∧ (∀ (i : Nat) (c : Con) (r : Row7), cs[i]? = some c → rows[i]? = some r → ConR X' c r) ∧ GrowS 82 7 vs rows.length (rows.map rc7).flatten G ∧ env = [(5, .pointer (some ⟨pb, 0, none⟩)), (8, vs)] ∧ own = RdO rb v i off e :: G) (lenS (.ok ts)) ⟨[], [], _, [], 0, 0, 0, .ok ts, ts.length + 1, rfl, PMap.le_refl _, RdS.zero h0, fun l h => (by cases h; exact Nat.lt_succ_self _), Nat.lt_succ_self _, by simp [lenS], rfl, fun l h => (by cases h; simp [wtC]), rfl, fun i c r h => (by cases h), GrowS.nil, rfl, rfl⟩ (by repeat (first | exact Sub.nil | refine Sub.cons rfl ?_)) ?_
    rintro m _ _ X2 ⟨cs, rows, vs, G, i2, off2, e2, sa, k, rfl, hX2, hS2, hf2, hk2, hn2, heq, hwt, hrl, hrows, hG, rfl, rfl⟩
    have hP := hP.mono hX2
    have hT := hT.mono hX2
    obtain ⟨t, ht⟩ := hS2.tok
    obtain ⟨Av, cv, rfl⟩ := hG.form
    refine T.seq <| T.seq <| T.region <| SL.mv rfl <| SL.w (op_callLend en43 (vs := [_]) rfl ((fun X1 h1 h2 => (done_spec (hP.mono h1) (hT.row.mono h1) hT.len (h2 (RdO rb v i2 off2 e2) (by simp)) ht : Spec _ _ _ _ fun u _ => u = .bool (decide (e2 ≠ 0 ∨ t.kind = 0)))))) ?_
    rintro _ _ _ ⟨rfl, rfl, rfl⟩
    by_cases hd : e2 ≠ 0 ∨ t.kind = 0
    case neg =>
      obtain ⟨l, rfl⟩ : ∃ l, sa = .ok l := by
        obtain ⟨_, h2⟩ := hS2
        cases sa with
        | error y => obtain ⟨_, h3, h4⟩ := h2; exact absurd (.inl (by rw [h3]; exact h4)) hd
        | ok l => exact ⟨l, rfl⟩
      have hll : l = t :: ts.drop (i2 + 1) := by rw [hS2.2.2.2]; exact drop_tok ht
      have hhd : hdK l ≠ 0 := by rw [hll]; exact fun h => hd (.inr h)
      have hpos : 0 < lenS (.ok l) := by rw [hll]; exact Nat.succ_pos _
      obtain ⟨k, rfl⟩ : ∃ q, k = q + 1 := ⟨k - 1, by omega⟩
      rw [decide_eq_false hd]
      refine SL.v (op_not rfl) <| SL.nil <| T.condT rfl <| T.skip <| T.block <| T.region <| SL.mv rfl <| SL.mv rfl <| SL.w (op_callJ en44 rfl (vs := [_]) rfl (con_spec (f := ts.length) hT hP hS2 hf2) (by repeat constructor)) ?_
      rintro _ _ X3 ⟨_, rfl, hX3, i3, off3, e3, sb, rfl, hS3, c, r, rfl, hc, hO, hdec⟩
      obtain ⟨o9, n9, a9, b9, l9, c9, m9, d9, rfl⟩ := hc.form
      have hdec := hdec hpos
      have hstep := consP_step (k := k) (cs := cs) hhd hO
      have hwt2 : ∀ l', sb = .ok l' → wtC (cs ++ [c]) + 14 * l'.length ≤ 14 * ts.length := fun l' h => by
        subst h
        simp only [runM] at hO
        cases he : conP (exprP (ts.length + 1)) l with
        | error y => rw [he] at hO; cases hO
        | ok y =>
          rw [he] at hO
          obtain ⟨rfl, h2⟩ := hO
          have h3 := Except.ok.inj h2
          subst h3
          have a1 := conP_wt (exprP_wt _) he
          have a2 := hwt l rfl
          simp only [wtC, List.map_append, List.map_cons, List.map_nil, List.sum_append, List.sum_cons, List.sum_nil] at a2 ⊢
          omega
      refine SL.w (op_buildSlice Tryz.underlying24 bs82 (qs := [(0, _)]) rfl rfl rfl rfl rfl) ?_
      rintro _ _ _ ⟨B28, rfl, rfl, rfl⟩
      refine SL.w (op_appendG (own0 := [_]) sl24 rfl hG rfl rfl rfl (by omega) (by omega)) ?_
      rintro vn _ _ ⟨G2, rfl, rfl, hG2⟩
      have hG2 : GrowS 82 7 vn (rows ++ [(c.enf, c.kind, c.name, Value.int .u8 (o9 : Int), Value.int .i64 n9, Value.slice a9 l9 c9, Value.slice b9 m9 d9)]).length ((rows ++ [(c.enf, c.kind, c.name, Value.int .u8 (o9 : Int), Value.int .i64 n9, Value.slice a9 l9 c9, Value.slice b9 m9 d9)]).map rc7).flatten G2 := by rw [List.length_append, List.map_append, List.flatten_append]; exact hG2
      refine SL.as rfl <| SL.nil <| T.blk ?_
      exact T.backW (lenS sb) (by omega) ⟨cs ++ [c], _, vn, G2, i3, off3, e3, sb, k, rfl, hX2.trans' hX3, hS3, fun l' h => (by subst h; have : l'.length < l.length := hdec; have := hf2 l rfl; omega), by omega, by rw [List.length_append]; simp; omega, by rw [heq, hstep], hwt2, by rw [List.length_append, List.length_append, hrl]; rfl, rows_snoc hrl (fun i c r a b => (hrows i c r a b).mono hX3) hc, hG2, rfl, rfl⟩ (by repeat (first | exact Sub.nil | refine Sub.cons rfl ?_))
    rw [decide_eq_true hd]
    refine SL.v (op_not rfl) <| SL.nil <| T.condF rfl ?_
    refine T.exit (T.exitCode (T.exitCut (T.exitBlk ?_)))
    refine T.seq <| T.seq <| T.region <| SL.mv rfl <| SL.v (op_nil rfl) <| SL.v (op_fieldAddr fa98_0 rfl) <| SL.v (op_loadX ty96 rfl (by assumption) rfl) ?_
    refine SL.w (op_callLend en45 (vs := [_]) rfl ((fun X1 h1 h2 => (err_spec (h2 (RdO rb v i2 off2 e2) (by simp)) : Spec _ _ _ _ fun u _ => u = .tuple #[.int .i64 (off2 : Int), .int .i64 e2])))) ?_
    rintro _ _ _ ⟨rfl, rfl, rfl⟩
    rw [heq] at hrun
    cases sa with
    | error y =>
      obtain ⟨_, rfl, rfl, hy⟩ := hS2
      obtain ⟨o, c⟩ := y
      simp only at hy
      refine SL.mv rfl <| SL.v (op_extract rfl rfl) <| SL.v (op_extract rfl rfl) <| SL.as rfl <| SL.as rfl <| SL.nil <| T.seq <| T.region <| SL.mv rfl <| SL.v (op_neqT rfl rfl (by omega)) ?_
      refine SL.nil <| T.condT rfl <| T.seq <| T.region <| SL.mv rfl <| SL.mv rfl <| SL.as rfl <| SL.as rfl <| SL.as rfl <| SL.nil <| T.ret3 rfl rfl rfl rfl ?_
      rw [hrun]
      rfl
    | ok l =>
      obtain ⟨_, rfl, rfl, hl⟩ := hS2
      have hhd : hdK l = 0 := by
        rw [hl, drop_tok ht]
        rcases hd with hd | hd
        · exact absurd rfl hd
        · exact hd
      obtain ⟨k, rfl⟩ : ∃ q, k = q + 1 := ⟨k - 1, by omega⟩
      have hrun : parseM s = if chkAll cs = 0 then .ok cs else .error (0, chkAll cs) := by
        rw [hrun]
        simp only [runC, consP_stop hhd]
      have hw0 := hwt l rfl
      refine SL.mv rfl <| SL.v (op_extract rfl rfl) <| SL.v (op_extract rfl rfl) <| SL.as rfl <| SL.as rfl <| SL.nil <| T.seq <| T.region <| SL.mv rfl <| SL.v (op_neqF rfl rfl (by omega)) ?_
      refine SL.nil <| T.condF rfl <| T.skip <| T.seq <| T.pubG (own0 := [_]) hG ?_
      intro X9 hX9 hS9
      have hC : ConsR X9 (.slice Av rows.length cv) cs := ⟨rows, RowR.ofG hG hS9, hrl, fun i c r a b => (hrows i c r a b).mono hX9⟩
      refine T.seq <| T.region <| SL.mv rfl <| SL.w (op_callF en16 (vs := [_]) rfl (checkB_spec (((hP10.mono hX1).mono hX2).mono hX9) hC (by omega) (fun c hc => by have := wtC_mem hc; omega))) ?_
      rintro _ _ Y1 ⟨rfl, hY1, rfl⟩
      by_cases hz : chkAll cs = 0
      · skip
        refine SL.as rfl <| SL.nil <| T.seq <| T.region <| SL.mv rfl <| SL.v (op_neqF rfl rfl (by omega)) ?_
        refine SL.nil <| T.condF rfl <| T.skip <| T.seq <| T.region <| SL.mv rfl <| SL.as rfl <| SL.v (op_assign (v := .int .i64 ((0 : Nat) : Int)) rfl) <| SL.v (op_assign (v := .int .i64 ((0 : Nat) : Int)) rfl) <| SL.nil <| T.ret3 rfl rfl rfl rfl ?_
        rw [hrun, if_pos hz]
        exact ⟨_, rfl, hC.mono hY1⟩
      · refine SL.as rfl <| SL.nil <| T.seq <| T.region <| SL.mv rfl <| SL.v (op_neqT rfl rfl (by omega)) ?_
        refine SL.nil <| T.condT rfl <| T.seq <| T.region <| SL.mv rfl <| SL.as rfl <| SL.v (op_assign (v := .int .i64 ((0 : Nat) : Int)) rfl) <| SL.as rfl <| SL.nil <| T.ret3 rfl rfl rfl rfl ?_
        rw [hrun, if_neg hz]
end Go.Proofs.YtnabbnhefjfegaaGreatDoor
namespace Go.Proofs.YtnabbnhefjfegaaGreatDoor
open Go.RowKit
theorem name_key {s : ByteArray} (h : validS s) {w : ByteArray} (hw : w ∈ keyws) : s ≠ w := fun e => h.2.2.1 (e ▸ hw)
theorem kNot : wNot ∈ keyws := by simp [keyws]
theorem kTrue : wTrue ∈ keyws := by simp [keyws]
theorem kFalse : wFalse ∈ keyws := by simp [keyws]
theorem kCount : wCount ∈ keyws := by simp [keyws]
theorem kMembers : wMembers ∈ keyws := by simp [keyws]
theorem nameT_ok {s : ByteArray} {o : Nat} {l : List Tk} (h : validS s) : nameT (wT s o :: l) = .ok (s, l) := by
  show (if (1 : Nat) ≠ 1 ∨ s ∈ keyws then _ else if ¬validS s then _ else _) = _
  rw [if_neg (fun hh => hh.elim (fun h1 => h1 rfl) h.2.2.1), if_neg (fun hh => hh h)]; rfl
theorem expT_ok {w : ByteArray} {o : Nat} {l : List Tk} : expT w (sT w o :: l) = .ok ((), l) := by rw [expT, isT_s, if_pos rfl]; rfl
theorem namesG_ok {rest : List Tk} (hr : isT wComma rest = false) : ∀ (l ns : List ByteArray) (o k : Nat), (∀ s ∈ l, validS s) → (commasK l o ++ rest).length ≤ k → namesG k ns (commasK l o ++ rest) = .ok (ns ++ l, rest)
  | [], ns, o, k, _, _ => by
    rw [commasK, List.nil_append, List.append_nil]
    cases k with
    | zero => rfl
    | succ k => rw [namesG, hr]; rfl
  | s :: l, ns, o, k, hv, hk => by
    rw [commasK] at hk ⊢
    simp only [List.cons_append, List.length_cons] at hk
    obtain ⟨k, rfl⟩ : ∃ q, k = q + 1 := ⟨k - 1, by omega⟩
    simp only [List.cons_append]
    rw [namesG, isT_s, if_pos rfl, List.tail_cons, nameT_ok (hv s (by simp)), bindR_ok, namesG_ok hr l (ns ++ [s]) _ k (fun x hx => hv x (by simp [hx])) (by omega)]
    simp
theorem namesP_ok {ns : List ByteArray} {o o' o'' : Nat} {rest : List Tk} (h1 : 0 < ns.length) (hv : ∀ s ∈ ns, validS s) {several : Bool} (hs : several = true ∨ ns.length = 1) : namesP several (sT wLp o :: (namesK ns o' ++ sT wRp o'' :: rest)) = .ok (ns, rest) := by
  match ns, h1, hs with
  | s :: l, _, hs =>
    rw [namesK, namesP, expT_ok, bindR_ok, List.cons_append, nameT_ok (hv s (by simp)), bindR_ok]
    have hr : isT wComma (sT wRp o'' :: rest) = false := isT_sne (by decide)
    rcases hs with rfl | hs
    · rw [if_pos rfl, namesG_ok hr l [s] _ _ (fun x hx => hv x (by simp [hx])) (Nat.le_refl _), bindR_ok, expT_ok, bindR_ok]; rfl
    · have hl : l = [] := List.eq_nil_of_length_eq_zero (by simpa using hs)
      subst hl
      have : ∀ k, namesG k [s] (commasK [] (o' + s.size) ++ sT wRp o'' :: rest) = .ok ([s], sT wRp o'' :: rest) := fun k => by
        rw [commasK, List.nil_append]
        cases k with
        | zero => rfl
        | succ k => rw [namesG, hr]; rfl
      rw [this, bindR_ok, expT_ok, bindR_ok]
/-- What a tree's tokens do at every level, with and without parentheses. -/
def Good (e : Ex) : Prop := ∀ f, depE e + 1 ≤ f → ∀ k o, 1 ≤ k → k ≤ 7 → Ck (primP (exprP f)) k (oprK e k o) e ∧ (5 ≤ k → hdN (oprK e k o))
theorem strN_pos (op : Nat) : 1 ≤ strN op ∧ strN op ≤ 7 := by
  unfold strN
  split
  · omega
  · split
    · omega
    · split
      · omega
      · split
        · omega
        · split
          · omega
          · split <;> omega
/-- Without parentheses: from the level of the operator down. -/
theorem good_bare {e : Ex} (h : ∀ f, depE e ≤ f → ∀ o, Ck (primP (exprP f)) (strN e.op) (toksE e o) e ∧ (5 ≤ strN e.op → hdN (toksE e o))) : Good e := by
  obtain ⟨hp1, hp7⟩ := strN_pos e.op
  have bare : ∀ f, depE e ≤ f → ∀ k o, 1 ≤ k → k ≤ strN e.op → Ck (primP (exprP f)) k (toksE e o) e := fun f hf k o h1 h2 => Ck.down (h f hf o).1 hp7 (h f hf o).2 k h1 h2
  intro f hf k o h1 h7
  unfold oprK parK
  split
  · have hn : hdN (sT wLp o :: (toksE e (o + 1) ++ [sT wRp (o + 1 + (textE e).size)])) := fun rest => isT_sne (by decide)
    obtain ⟨f, rfl⟩ : ∃ q, f = q + 1 := ⟨f - 1, by omega⟩
    have h7' : Ck (primP (exprP (f + 1))) 7 (sT wLp o :: (toksE e (o + 1) ++ [sT wRp (o + 1 + (textE e).size)])) e := by
      intro rest
      have hb : C1 (primP (exprP f)) (toksE e (o + 1)) e := bare f (by omega) 1 (o + 1) (by omega) hp1
      have hb := hb (sT wRp (o + 1 + (textE e).size) :: rest) _ ⟨fun _ => isT_sne (by decide), fun _ => isT_sne (by decide), fun _ => isT_sne (by decide), fun _ c hc => isT_sne (by revert c; decide), fun _ => isT_sne (by decide)⟩ (Nat.lt_succ_self _)
      rw [List.cons_append, List.append_assoc, List.singleton_append, primP, if_neg (by show ¬(3 : Nat) = 2; omega), isT_sne (by decide), isT_sne (by decide), isT_sne (by decide), isT_sne (by decide), isT_s]
      simp only [Bool.false_eq_true, if_false, if_true]
      rw [exprP_succ, hb, bindR_ok, expT_ok, bindR_ok]
    exact ⟨Ck.down h7' (by omega) (fun _ => hn) k h1 h7, fun _ => hn⟩
  · rename_i hlt
    exact ⟨bare f (by omega) k o h1 (by omega), fun h5 => (h f (by omega) o).2 (by omega)⟩
theorem hdN_append {t u : List Tk} (h : hdN t) : hdN (t ++ u) := fun rest => by rw [List.append_assoc]; exact h _
/-- EVERY ACCEPTED TREE. -/
theorem good_all : ∀ (n : Nat) (e : Ex), sizE e ≤ n → nodeE e = 0 → Good e := by
  intro n
  induction n with
  | zero => intro e h; cases e; rw [sizE] at h; omega
  | succ n ih =>
    intro e hsz hnode
    cases e with
    | mk op v ns al =>
    obtain ⟨hown, hargs⟩ := node_ok hnode
    obtain ⟨o1, o2, o3, o4, o5, o6, o7, o8, o9⟩ := own_ok hown
    rw [sizE] at hsz
    refine good_bare fun f hf o => ?_
    simp only [Ex.op]
    rw [depE] at hf
    by_cases c7 : op < 7
    · have hs7 : strN op = 7 := by unfold strN; rw [if_neg (by omega), if_neg (by omega), if_neg (by omega), if_neg (by omega), if_neg (by omega), if_neg (by omega)]
      have hal : al = [] := List.eq_nil_of_length_eq_zero (by rw [o3, argN, if_pos c7])
      subst hal
      rw [hs7]
      show C7 _ _ _ ∧ _
      by_cases c1 : op = 1
      · subst c1
        obtain ⟨q, rfl⟩ := Int.eq_ofNat_of_zero_le o8
        have hns : ns = [] := List.eq_nil_of_length_eq_zero (by simpa [namN] using o5)
        subst hns
        have e1 : toksE (.mk 1 (q : Int) [] []) o = [⟨2, decB q, q, o⟩] := by rw [toksE, if_pos rfl]; rfl
        rw [e1]
        exact ⟨fun rest => by rw [List.singleton_append, primP, if_pos rfl], fun _ rest => isT_kind2 rfl⟩
      have hv0 := o4 c1
      subst hv0
      by_cases c2 : op = 2
      · subst c2
        have hns : ns = [] := List.eq_nil_of_length_eq_zero (by simpa [namN] using o5)
        subst hns
        have e1 : toksE (.mk 2 0 [] []) o = [wT wTrue o] := by rw [toksE, if_neg (by omega), if_pos rfl]
        rw [e1]
        exact ⟨fun rest => by rw [List.singleton_append, primP, if_neg (by show ¬(1 : Nat) = 2; omega), isT_w, if_pos rfl], fun _ rest => isT_wne (by decide)⟩
      by_cases c3 : op = 3
      · subst c3
        have hns : ns = [] := List.eq_nil_of_length_eq_zero (by simpa [namN] using o5)
        subst hns
        have e1 : toksE (.mk 3 0 [] []) o = [wT wFalse o] := by rw [toksE, if_neg (by omega), if_neg (by omega), if_pos rfl]
        rw [e1]
        exact ⟨fun rest => by rw [List.singleton_append, primP, if_neg (by show ¬(1 : Nat) = 2; omega), isT_wne (by decide), isT_w, if_neg (by simp), if_pos rfl], fun _ rest => isT_wne (by decide)⟩
      by_cases c4 : op = 4
      · subst c4
        obtain ⟨s, rfl⟩ : ∃ s, ns = [s] := by
          have hl1 : ns.length = 1 := by simpa [namN] using o5
          match ns, hl1 with
          | [s], _ => exact ⟨s, rfl⟩
        have hv := o6 s (by simp)
        have e1 : toksE (.mk 4 0 [s] []) o = [wT s o] := by rw [toksE, if_neg (by omega), if_neg (by omega), if_neg (by omega), if_pos rfl]; rfl
        rw [e1]
        refine ⟨fun rest => ?_, fun _ rest => isT_ne (name_key hv kNot)⟩
        have n1 : isT wTrue (wT s o :: rest) = false := isT_ne (name_key hv kTrue)
        have n2 : isT wFalse (wT s o :: rest) = false := isT_ne (name_key hv kFalse)
        have n3 : isT wCount (wT s o :: rest) = false := isT_ne (name_key hv kCount)
        have n4 : isT wMembers (wT s o :: rest) = false := isT_ne (name_key hv kMembers)
        have n5 : isT wLp (wT s o :: rest) = false := isT_ne (fun h => by
          have h6 := hv.2.2.2 0 40 (Nat.le_refl _) (by rw [show s = wLp from h]; rfl)
          exact absurd h6.1 (by decide))
        rw [List.singleton_append, primP, if_neg (by show ¬(1 : Nat) = 2; omega), n1, n2, n3, n4, n5]
        simp only [Bool.false_eq_true, if_false]
        rw [nameT_ok hv, bindR_ok]
      by_cases c5 : op = 5
      · subst c5
        have hl1 : 1 ≤ ns.length ∧ ns.length ≤ 8 := by simpa [namN] using o5
        have e1 : toksE (.mk 5 0 ns []) o = wT wCount o :: sT wLp (o + 5) :: (namesK ns (o + 6) ++ [sT wRp (o + 6 + (joinB ns).size)]) := by rw [toksE, if_neg (by omega), if_neg (by omega), if_neg (by omega), if_neg (by omega), if_pos rfl]
        rw [e1]
        refine ⟨fun rest => ?_, fun _ rest => isT_wne (by decide)⟩
        simp only [List.cons_append, List.append_assoc, List.nil_append]
        rw [primP, if_neg (by show ¬(1 : Nat) = 2; omega), isT_wne (by decide), isT_wne (by decide), isT_w]
        simp only [Bool.false_eq_true, if_false, if_true]
        rw [namesP_ok hl1.1 o6 (.inl rfl), bindR_ok]
      · have c6 : op = 6 := by omega
        subst c6
        obtain ⟨s, rfl⟩ : ∃ s, ns = [s] := by
          have hl1 : ns.length = 1 := by simpa [namN] using o5
          match ns, hl1 with
          | [s], _ => exact ⟨s, rfl⟩
        have e1 : toksE (.mk 6 0 [s] []) o = wT wMembers o :: sT wLp (o + 7) :: (namesK [s] (o + 8) ++ [sT wRp (o + 8 + s.size)]) := by rw [toksE, if_neg (by omega), if_neg (by omega), if_neg (by omega), if_neg (by omega), if_neg (by omega), if_pos rfl]; rfl
        rw [e1]
        refine ⟨fun rest => ?_, fun _ rest => isT_wne (by decide)⟩
        simp only [List.cons_append, List.append_assoc, List.nil_append]
        rw [primP, if_neg (by show ¬(1 : Nat) = 2; omega), isT_wne (by decide), isT_wne (by decide), isT_wne (by decide), isT_w]
        simp only [Bool.false_eq_true, if_false, if_true]
        rw [namesP_ok (by simp) o6 (.inr rfl), bindR_ok]
    have hv0 := o4 (by omega)
    subst hv0
    have hns : ns = [] := List.eq_nil_of_length_eq_zero (by
      unfold namN at o5
      rw [if_neg (by omega), if_neg (by omega)] at o5; exact o5)
    subst hns
    by_cases d7 : op = 7
    · subst d7
      obtain ⟨a, rfl⟩ : ∃ a, al = [a] := by
        have hl1 : al.length = 1 := by rw [o3]; rfl
        match al, hl1 with
        | [a], _ => exact ⟨a, rfl⟩
      have ga := ih a (by rw [sizL, sizL] at hsz; omega) (nodeL_zero hargs a (by simp))
      have hd : depE a + 1 ≤ f := by rw [depL, depL] at hf; omega
      have e1 : toksE (.mk 7 0 [] [a]) o = wT wNot o :: oprK a 4 (o + 4) := by
        rw [toksE, if_neg (by omega), if_neg (by omega), if_neg (by omega), if_neg (by omega), if_neg (by omega), if_neg (by omega), toksL, toksL]; rfl
      rw [e1]
      have h4 : C4 (primP (exprP f)) (oprK a 4 (o + 4)) a := (ga f hd 4 (o + 4) (by omega) (by omega)).1
      exact ⟨b_not h4, fun h => absurd h (by decide)⟩
    obtain ⟨a, b, rfl⟩ : ∃ a b, al = [a, b] := by
      have hl1 : al.length = 2 := by rw [o3, argN, if_neg c7, if_neg d7]
      match al, hl1 with
      | [a, b], _ => exact ⟨a, b, rfl⟩
    have ga := ih a (by rw [sizL, sizL, sizL] at hsz; omega) (nodeL_zero hargs a (by simp))
    have gb := ih b (by rw [sizL, sizL, sizL] at hsz; omega) (nodeL_zero hargs b (by simp))
    have hda : depE a + 1 ≤ f := by rw [depL, depL, depL] at hf; omega
    have hdb : depE b + 1 ≤ f := by rw [depL, depL, depL] at hf; omega
    have e1 : toksE (.mk op 0 [] [a, b]) o = oprK a (lefN op) o ++ opK op (o + (parB (strN a.op) (textE a) (lefN op)).size + 1) :: oprK b (rigN op) (o + (parB (strN a.op) (textE a) (lefN op)).size + (wordB op).size) := by
      rw [toksE, if_neg (by omega), if_neg (by omega), if_neg (by omega), if_neg (by omega), if_neg (by omega), if_neg (by omega), toksL, toksL, toksL]; rfl
    rw [e1]
    generalize o + (parB (strN a.op) (textE a) (lefN op)).size + 1 = p1
    generalize o + (parB (strN a.op) (textE a) (lefN op)).size + (wordB op).size = p2
    have ha := fun k h1 h7 => (ga f hda k o h1 h7).1
    have hb := fun k h1 h7 => (gb f hdb k p2 h1 h7).1
    by_cases e8 : op = 8
    · subst e8
      exact ⟨b_and (ha 3 (by omega) (by omega)) (hb 4 (by omega) (by omega)), fun h => absurd h (by decide)⟩
    by_cases e9 : op = 9
    · subst e9
      exact ⟨b_or (ha 2 (by omega) (by omega)) (hb 3 (by omega) (by omega)), fun h => absurd h (by decide)⟩
    by_cases e10 : op = 10
    · subst e10
      exact ⟨b_arr (ha 2 (by omega) (by omega)) (hb 1 (by omega) (by omega)), fun h => absurd h (by decide)⟩
    by_cases e16 : op = 16
    · subst e16
      exact ⟨b_add (ha 6 (by omega) (by omega)) (hb 7 (by omega) (by omega)), fun _ => hdN_append ((ga f hda 6 o (by omega) (by omega)).2 (by omega))⟩
    have h5 : strN op = 5 := by unfold strN; rw [if_neg (by omega), if_neg (by omega), if_neg (by omega), if_neg (by omega), if_pos (by omega)]
    have hl6 : lefN op = 6 := by rw [lefN, if_neg e10, if_pos h5, h5]
    have hr6 : rigN op = 6 := by rw [rigN, if_neg e10, h5]
    rw [h5, hl6, hr6]
    exact ⟨b_cmp (by omega) (by omega) (ha 6 (by omega) (by omega)) (hb 6 (by omega) (by omega)), fun _ => hdN_append ((ga f hda 6 o (by omega) (by omega)).2 (by omega))⟩
/-- The tokens of a whole text. -/
theorem parse_back {e : Ex} (h : nodeE e = 0) {f o : Nat} (hf : depE e + 1 < f) {rest : List Tk} (hs : Stop 1 rest) : exprP f (toksE e o ++ rest) = .ok (e, rest) := by
  obtain ⟨f, rfl⟩ : ∃ q, f = q + 1 := ⟨f - 1, by omega⟩
  have hg : C1 (primP (exprP f)) (oprK e 1 o) e := (good_all _ e (Nat.le_refl _) h f (by omega) 1 o (by omega) (by omega)).1
  have e1 : oprK e 1 o = toksE e o := by rw [oprK, parK, if_neg (by have := (strN_pos e.op).1; omega)]
  rw [e1] at hg
  rw [exprP_succ]
  exact hg rest _ hs (Nat.lt_succ_self _)
end Go.Proofs.YtnabbnhefjfegaaGreatDoor
namespace Go.Proofs.YtnabbnhefjfegaaGreatDoor
open Go.RowKit
/-- A text whose tokens are those of an expression at level k. -/
def RenP (k : Nat) (t : List UInt8) (e : Ex) : Prop := ∃ ts : Nat → List Tk, LxW t ts ∧ ∀ o f, (ts o).length + 1 ≤ f → Ck (primP (exprP f)) k (ts o) e ∧ (5 ≤ k → hdN (ts o))
theorem oprK_len (a : Ex) (k o : Nat) (h : ∀ o, depE a ≤ (toksE a o).length) : depE a ≤ (oprK a k o).length := by
  unfold oprK parK
  split
  · rw [List.length_cons, List.length_append]; have := h (o + 1); omega
  · exact h o
theorem toks_len : ∀ (n : Nat) (e : Ex), sizE e ≤ n → nodeE e = 0 → ∀ o, depE e ≤ (toksE e o).length := by
  intro n
  induction n with
  | zero => intro e h; cases e; rw [sizE] at h; omega
  | succ n ih =>
    intro e hsz hnode o
    cases e with
    | mk op v ns al =>
    obtain ⟨hown, hargs⟩ := node_ok hnode
    obtain ⟨o1, o2, o3, o4, o5, o6, o7, o8, o9⟩ := own_ok hown
    rw [sizE] at hsz
    by_cases c7 : op < 7
    · have hal : al = [] := List.eq_nil_of_length_eq_zero (by rw [o3, argN, if_pos c7])
      subst hal
      have hd : depE (.mk op v ns []) = 1 := by rw [depE, depL]
      rw [hd, toksE]
      by_cases c1 : op = 1
      · rw [if_pos c1]; exact Nat.le_refl _
      rw [if_neg c1]
      by_cases c2 : op = 2
      · rw [if_pos c2]; exact Nat.le_refl _
      rw [if_neg c2]
      by_cases c3 : op = 3
      · rw [if_pos c3]; exact Nat.le_refl _
      rw [if_neg c3]
      by_cases c4 : op = 4
      · rw [if_pos c4]; exact Nat.le_refl _
      rw [if_neg c4]
      by_cases c5 : op = 5
      · rw [if_pos c5]; exact Nat.succ_le_succ (Nat.zero_le _)
      rw [if_neg c5, if_pos (by omega)]; exact Nat.succ_le_succ (Nat.zero_le _)
    by_cases d7 : op = 7
    · subst d7
      obtain ⟨a, rfl⟩ : ∃ a, al = [a] := by
        have hl1 : al.length = 1 := by rw [o3]; rfl
        match al, hl1 with
        | [a], _ => exact ⟨a, rfl⟩
      have ga := oprK_len a 4 (o + 4) (ih a (by rw [sizL, sizL] at hsz; omega) (nodeL_zero hargs a (by simp)))
      have e1 : toksE (.mk 7 v ns [a]) o = wT wNot o :: oprK a 4 (o + 4) := by
        rw [toksE, if_neg (by omega), if_neg (by omega), if_neg (by omega), if_neg (by omega), if_neg (by omega), if_neg (by omega), toksL, toksL]; rfl
      rw [depE, depL, depL, e1, List.length_cons]
      omega
    obtain ⟨a, b, rfl⟩ : ∃ a b, al = [a, b] := by
      have hl1 : al.length = 2 := by rw [o3, argN, if_neg c7, if_neg d7]
      match al, hl1 with
      | [a, b], _ => exact ⟨a, b, rfl⟩
    have ga := oprK_len a (lefN op) o (ih a (by rw [sizL, sizL, sizL] at hsz; omega) (nodeL_zero hargs a (by simp)))
    have gb := oprK_len b (rigN op) (o + (parB (strN a.op) (textE a) (lefN op)).size + (wordB op).size) (ih b (by rw [sizL, sizL, sizL] at hsz; omega) (nodeL_zero hargs b (by simp)))
    have e1 : toksE (.mk op v ns [a, b]) o = oprK a (lefN op) o ++ opK op (o + (parB (strN a.op) (textE a) (lefN op)).size + 1) :: oprK b (rigN op) (o + (parB (strN a.op) (textE a) (lefN op)).size + (wordB op).size) := by
      rw [toksE, if_neg (by omega), if_neg (by omega), if_neg (by omega), if_neg (by omega), if_neg (by omega), if_neg (by omega), toksL, toksL, toksL]; rfl
    rw [depE, depL, depL, depL, e1, List.length_append, List.length_cons]
    omega
theorem RenP.down {k : Nat} {t : List UInt8} {e : Ex} (h : RenP k t e) (hk : k ≤ 7) (j : Nat) (h1 : 1 ≤ j) (h2 : j ≤ k) : RenP j t e := by
  obtain ⟨ts, hl, hc⟩ := h
  exact ⟨ts, hl, fun o f hf => ⟨Ck.down (hc o f hf).1 hk (hc o f hf).2 j h1 h2, fun h5 => (hc o f hf).2 (by omega)⟩⟩
/-- Two operands in parentheses, or of one token, with an operator between them. -/
theorem RenP.two {op : Nat} {t t' : List UInt8} {e e' : Ex} (h1 : 8 ≤ op) (h2 : op ≤ 16) (h : RenP 7 t e) (h' : RenP 7 t' e') : RenP (strN op) (t ++ bl (wordB op) ++ t') (two op e e') := by
  have g : ∀ k, 1 ≤ k → k ≤ 7 → RenP k t e := fun k h1 h2 => h.down (Nat.le_refl _) k h1 h2
  obtain ⟨ts, hl, hc⟩ := h
  obtain ⟨ts', hl', hc'⟩ := h'
  have hlx : LxW (t ++ bl (wordB op) ++ t') (fun o => ts o ++ opK op (o + t.length + 1) :: ts' (o + (t ++ bl (wordB op)).length)) := by
    refine LxW.of (LxS.appW (hl.appS (lx_op h1 h2) (op_ndel h1 h2)) hl') rfl fun o => ?_
    simp
  refine ⟨_, hlx, fun o f hf => ?_⟩
  rw [List.length_append, List.length_cons] at hf
  have ca := hc o f (by omega)
  have cb := hc' (o + (t ++ bl (wordB op)).length) f (by omega)
  generalize ts o = u at ca ⊢
  generalize ts' (o + (t ++ bl (wordB op)).length) = u' at cb ⊢
  generalize o + t.length + 1 = p1
  have ha : ∀ k, 1 ≤ k → k ≤ 7 → Ck (primP (exprP f)) k u e := fun k h1 h2 => Ck.down ca.1 (Nat.le_refl _) ca.2 k h1 h2
  have hb : ∀ k, 1 ≤ k → k ≤ 7 → Ck (primP (exprP f)) k u' e' := fun k h1 h2 => Ck.down cb.1 (Nat.le_refl _) cb.2 k h1 h2
  have hn : hdN u := ca.2 (by omega)
  by_cases e8 : op = 8
  · subst e8
    exact ⟨b_and (ha 3 (by omega) (by omega)) (hb 4 (by omega) (by omega)), fun h => absurd h (by decide)⟩
  by_cases e9 : op = 9
  · subst e9
    exact ⟨b_or (ha 2 (by omega) (by omega)) (hb 3 (by omega) (by omega)), fun h => absurd h (by decide)⟩
  by_cases e10 : op = 10
  · subst e10
    exact ⟨b_arr (ha 2 (by omega) (by omega)) (hb 1 (by omega) (by omega)), fun h => absurd h (by decide)⟩
  by_cases e16 : op = 16
  · subst e16
    exact ⟨b_add (ha 6 (by omega) (by omega)) (hb 7 (by omega) (by omega)), fun _ => hdN_append hn⟩
  have h5 : strN op = 5 := by unfold strN; rw [if_neg (by omega), if_neg (by omega), if_neg (by omega), if_neg (by omega), if_pos (by omega)]
  rw [h5]
  exact ⟨b_cmp (by omega) (by omega) (ha 6 (by omega) (by omega)) (hb 6 (by omega) (by omega)), fun _ => hdN_append hn⟩
end Go.Proofs.YtnabbnhefjfegaaGreatDoor
namespace Go.Proofs.YtnabbnhefjfegaaGreatDoor
open Go.RowKit
def tkS (t u : Tk) : Prop := t.kind = u.kind ∧ t.text = u.text ∧ t.num = u.num
def tksS : List Tk → List Tk → Prop
  | [], [] => True
  | t :: l, u :: m => tkS t u ∧ tksS l m
  | [], _ :: _ => False
  | _ :: _, [] => False
def resS {α : Type} : Res α → Res α → Prop
  | .ok x, .ok y => x.1 = y.1 ∧ tksS x.2 y.2
  | .error e, .error f => e.2 = f.2
  | .ok _, .error _ => False
  | .error _, .ok _ => False
def parS {α : Type} (p : List Tk → Res α) : Prop := ∀ l m, tksS l m → resS (p l) (p m)
theorem tksS_len : ∀ {l m : List Tk}, tksS l m → l.length = m.length
  | [], [], _ => rfl
  | _ :: _, _ :: _, h => by rw [List.length_cons, List.length_cons, tksS_len h.2]
  | [], _ :: _, h => h.elim
  | _ :: _, [], h => h.elim
theorem tksS_tail : ∀ {l m : List Tk}, tksS l m → tksS l.tail m.tail
  | [], [], _ => trivial
  | _ :: _, _ :: _, h => h.2
  | [], _ :: _, h => h.elim
  | _ :: _, [], h => h.elim
theorem isT_S {w : ByteArray} : ∀ {l m : List Tk}, tksS l m → isT w l = isT w m
  | [], [], _ => rfl
  | _ :: _, _ :: _, h => by rw [isT, isT, h.1.1, h.1.2.1]
  | [], _ :: _, h => h.elim
  | _ :: _, [], h => h.elim
theorem bindR_S {α β : Type} {x y : Res α} {f g : α → List Tk → Res β} (h : resS x y) (hf : ∀ a l m, tksS l m → resS (f a l) (g a m)) : resS (bindR x f) (bindR y g) := by
  match x, y, h with
  | .ok (a, l), .ok (b, m), h =>
    obtain ⟨h1, h2⟩ := h
    obtain rfl : a = b := h1
    exact hf a l m h2
  | .error e, .error f, h => exact h
  | .ok _, .error _, h => exact h.elim
  | .error _, .ok _, h => exact h.elim
theorem resS_if {α : Type} {c : Prop} [Decidable c] {x y x' y' : Res α} (h1 : resS x y) (h2 : resS x' y') : resS (if c then x else x') (if c then y else y') := by
  split
  · exact h1
  · exact h2
theorem resS_ok {α : Type} {a : α} {l m : List Tk} (h : tksS l m) : resS (.ok (a, l)) (.ok (a, m)) := ⟨rfl, h⟩
theorem nameT_S : parS nameT := fun l m h => by
  match l, m, h with
  | [], [], _ => exact rfl
  | t :: l, u :: m, h =>
    rw [nameT, nameT, h.1.1, h.1.2.1]
    exact resS_if rfl (resS_if rfl (resS_ok h.2))
theorem expT_S {w : ByteArray} : parS (expT w) := fun l m h => by
  rw [expT, expT, isT_S h]
  exact resS_if (resS_ok (tksS_tail h)) rfl
theorem leftG_S {w : ByteArray} {op : Nat} {p : ParP} (hp : parS p) : ∀ (k : Nat) (x : Ex), parS (leftG w op p k x)
  | 0, x => fun _ _ h => resS_ok h
  | k + 1, x => fun l m h => by
    rw [leftG, leftG, isT_S h]
    exact resS_if (bindR_S (hp _ _ (tksS_tail h)) fun y l' m' h' => leftG_S hp k _ l' m' h') (resS_ok h)
theorem leftP_S {w : ByteArray} {op : Nat} {p : ParP} (hp : parS p) : parS (leftP w op p) := fun l m h => by
  rw [leftP, leftP]
  exact bindR_S (hp l m h) fun x l' m' h' => by rw [tksS_len h']; exact leftG_S hp _ _ l' m' h'
theorem cmpP_S {p : ParP} (hp : parS p) : parS (cmpP p) := fun l m h => by
  rw [cmpP_eq, cmpP_eq]
  refine bindR_S (leftP_S hp l m h) fun x l' m' h' => ?_
  rw [show (fun c : ByteArray × Nat => isT c.1 l') = fun c => isT c.1 m' from funext fun c => isT_S h']
  cases cmps.find? fun c => isT c.1 m' with
  | none => exact resS_ok h'
  | some c => exact bindR_S (leftP_S hp _ _ (tksS_tail h')) fun y l'' m'' h'' => resS_ok h''
theorem negP_S {p : ParP} (hp : parS p) : ∀ k, parS (negP p k)
  | 0 => fun _ _ _ => rfl
  | k + 1 => fun l m h => by
    rw [negP_succ, negP_succ, isT_S h]
    exact resS_if (bindR_S (negP_S hp k _ _ (tksS_tail h)) fun x l' m' h' => resS_ok h') (cmpP_S hp l m h)
theorem disjP_S {p : ParP} (hp : parS p) : parS (disjP p) := leftP_S (leftP_S fun l m h => by
  show resS (negP p (l.length + 1) l) (negP p (m.length + 1) m)
  rw [tksS_len h]
  exact negP_S hp _ l m h)
theorem implP_S {p : ParP} (hp : parS p) : ∀ k, parS (implP p k)
  | 0 => fun _ _ _ => rfl
  | k + 1 => fun l m h => by
    rw [implP_succ, implP_succ]
    refine bindR_S (disjP_S hp l m h) fun x l' m' h' => ?_
    rw [isT_S h']
    exact resS_if (bindR_S (implP_S hp k _ _ (tksS_tail h')) fun y l'' m'' h'' => resS_ok h'') (resS_ok h')
theorem namesG_S : ∀ (k : Nat) (ns : List ByteArray), parS (namesG k ns)
  | 0, ns => fun _ _ h => resS_ok h
  | k + 1, ns => fun l m h => by
    rw [namesG, namesG, isT_S h]
    exact resS_if (bindR_S (nameT_S _ _ (tksS_tail h)) fun s l' m' h' => namesG_S k _ l' m' h') (resS_ok h)
theorem namesP_S {several : Bool} : parS (namesP several) := fun l m h => by
  rw [namesP, namesP]
  refine bindR_S (expT_S l m h) fun _ l1 m1 h1 => bindR_S (nameT_S l1 m1 h1) fun s l2 m2 h2 => ?_
  rw [tksS_len h2]
  exact bindR_S (namesG_S _ _ l2 m2 h2) fun ns l3 m3 h3 => bindR_S (expT_S l3 m3 h3) fun _ l4 m4 h4 => resS_ok h4
theorem primP_S {ex : ParP} (hx : parS ex) : parS (primP ex) := fun l m h => by
  match l, m, h with
  | [], [], _ => exact rfl
  | t :: l, u :: m, h =>
    have i : ∀ w, isT w (t :: l) = isT w (u :: m) := fun w => isT_S h
    rw [primP, primP, i, i, i, i, i, h.1.1, h.1.2.2]
    refine resS_if (resS_ok h.2) (resS_if (resS_ok h.2) (resS_if (resS_ok h.2) (resS_if ?_ (resS_if ?_ (resS_if ?_ ?_)))))
    · exact bindR_S (namesP_S l m h.2) fun ns l' m' h' => resS_ok h'
    · exact bindR_S (namesP_S l m h.2) fun ns l' m' h' => resS_ok h'
    · exact bindR_S (hx l m h.2) fun x l' m' h' => bindR_S (expT_S l' m' h') fun _ l'' m'' h'' => resS_ok h''
    · exact bindR_S (nameT_S (t :: l) (u :: m) h) fun s l' m' h' => resS_ok h'
theorem exprP_S : ∀ f, parS (exprP f)
  | 0 => fun _ _ _ => rfl
  | f + 1 => fun l m h => by
    rw [exprP_succ, exprP_succ, tksS_len h]
    exact implP_S (primP_S (exprP_S f)) _ l m h
end Go.Proofs.YtnabbnhefjfegaaGreatDoor
namespace Go.Proofs.YtnabbnhefjfegaaGreatDoor
open Go.RowKit
/-- Empty, or a blank at the front. -/
def sepR : List UInt8 → Prop
  | [] => True
  | c :: _ => blkB c = true
theorem blk_four {c : UInt8} (h : blkB c = true) : c = 32 ∨ c = 9 ∨ c = 10 ∨ c = 13 := by
  simp only [blkB, decide_eq_true_eq] at h
  rcases h with h | h | h | h
  · exact .inl (UInt8.toNat_inj.1 h)
  · exact .inr (.inl (UInt8.toNat_inj.1 h))
  · exact .inr (.inr (.inl (UInt8.toNat_inj.1 h)))
  · exact .inr (.inr (.inr (UInt8.toNat_inj.1 h)))
theorem sep_tw {f : UInt8 → Bool} (hf : ∀ c, blkB c = true → f c = false) {r : List UInt8} (h : sepR r) : ∀ b l, r = b :: l → f b = false := fun b l e => by subst e; exact hf b h
theorem blk_inn : ∀ c, blkB c = true → innB c = false := fun c h => by rcases blk_four h with rfl | rfl | rfl | rfl <;> decide
theorem blk_dig : ∀ c, blkB c = true → digB c = false := fun c h => by rcases blk_four h with rfl | rfl | rfl | rfl <;> decide
theorem sep_glued {r : List UInt8} (h : sepR r) : glued r = false := by
  cases r with
  | nil => rfl
  | cons c r =>
    rcases blk_four (show blkB c = true from h) with rfl | rfl | rfl | rfl <;> rfl
theorem syms_sep {s : List UInt8} (hs : s ∈ symsL) {r : List UInt8} (h : sepR r) : tok1 (s ++ r) = some (3, s, 0) := by
  simp only [symsL, List.mem_cons, List.not_mem_nil, or_false] at hs
  cases r with
  | nil => rcases hs with rfl | rfl | rfl | rfl | rfl | rfl | rfl | rfl | rfl | rfl | rfl | rfl | rfl <;> rfl
  | cons c r =>
    rcases blk_four (show blkB c = true from h) with rfl | rfl | rfl | rfl <;> rcases hs with rfl | rfl | rfl | rfl | rfl | rfl | rfl | rfl | rfl | rfl | rfl | rfl | rfl <;> rfl
theorem tw_self {f : UInt8 → Bool} : ∀ {l : List UInt8}, ∀ c ∈ l.takeWhile f, f c = true
  | [], _, h => by cases h
  | b :: l, c, h => by
    rw [List.takeWhile_cons] at h
    split at h
    · rcases List.mem_cons.1 h with rfl | h
      · assumption
      · exact tw_self c h
    · cases h
theorem tok_sep {l : List UInt8} {k n : Nat} {t : List UInt8} (h : tok1 l = some (k, t, n)) {r : List UInt8} (hr : sepR r) : tok1 (t ++ r) = some (k, t, n) ∧ ∃ b t', t = b :: t' ∧ blkB b = false ∧ b.toNat ≠ 35 := by
  cases l with
  | nil => cases h
  | cons b l =>
    rw [tok1] at h
    by_cases hl : letB b = true
    · rw [if_pos hl] at h
      simp only [Option.some.injEq, Prod.mk.injEq] at h
      obtain ⟨rfl, ht, rfl⟩ := h
      have hall : ∀ c ∈ t, innB c = true := fun c hc => tw_self c (by rw [ht]; exact hc)
      have htw := takeWhile_all hall (sep_tw blk_inn hr)
      have hb := let_blk hl
      rw [List.takeWhile_cons, if_pos (let_inn hl)] at ht
      refine ⟨?_, b, _, ht.symm, hb⟩
      subst ht
      rw [List.cons_append, tok1, if_pos hl, ← List.cons_append, htw]
    · rw [if_neg hl] at h
      by_cases hd : digB b = true
      · rw [if_pos hd] at h
        cases hn : numT (b :: l) with
        | none => rw [hn] at h; cases h
        | some d =>
          rw [hn] at h
          simp only [Option.map_some, Option.some.injEq, Prod.mk.injEq] at h
          obtain ⟨rfl, rfl, rfl⟩ := h
          rw [numT] at hn
          split at hn
          · cases hn
          · rename_i hc
            simp only [Option.some.injEq] at hn
            have hall : ∀ c ∈ d, digB c = true := fun c hc => tw_self c (by rw [hn]; exact hc)
            have htw := takeWhile_all hall (sep_tw blk_dig hr)
            have hb := dig_blk hd
            rw [hn] at hc
            rw [List.takeWhile_cons, if_pos hd] at hn
            refine ⟨?_, b, _, hn.symm, hb.1, hb.2.1⟩
            subst hn
            rw [List.cons_append, tok1, if_neg hl, if_pos hd, ← List.cons_append, numT, htw, List.drop_left, sep_glued hr, if_neg (fun h => hc (by
              rcases h with h | h | h
              · exact .inl h
              · exact .inr (.inl ⟨h.1, by simp only [List.cons_append, List.head?_cons] at h ⊢; exact h.2⟩)
              · cases h))]
            rfl
      · rw [if_neg hd] at h
        cases hf : symsL.find? fun s => s.isPrefixOf (b :: l) with
        | none => rw [hf] at h; cases h
        | some s =>
          rw [hf] at h
          simp only [Option.map_some, Option.some.injEq, Prod.mk.injEq] at h
          obtain ⟨rfl, rfl, rfl⟩ := h
          have hm := List.mem_of_find?_eq_some hf
          refine ⟨syms_sep hm hr, ?_⟩
          simp only [symsL, List.mem_cons, List.not_mem_nil, or_false] at hm
          rcases hm with rfl | rfl | rfl | rfl | rfl | rfl | rfl | rfl | rfl | rfl | rfl | rfl | rfl <;> exact ⟨_, _, rfl, by decide, by decide⟩
/-- A token that stands before any blank. -/
def TokOk (t : Tk) : Prop := ∀ r, sepR r → tok1 (bl t.text ++ r) = some (t.kind, bl t.text, t.num) ∧ ∃ b t', bl t.text = b :: t' ∧ blkB b = false ∧ b.toNat ≠ 35
theorem scanG_ok (N : Nat) : ∀ (f : Nat) (l : List UInt8) (ts : List Tk), scanG N f l = .ok ts → ∃ ts0 : List Tk, ts = ts0 ++ [⟨0, ⟨#[]⟩, 0, N⟩] ∧ ∀ t ∈ ts0, TokOk t
  | 0, l, ts, h => by cases h
  | f + 1, l, ts, h => by
    rw [scanG] at h
    cases hk : skipL false l with
    | nil =>
      rw [hk] at h
      simp only [Except.ok.injEq] at h
      exact ⟨[], by rw [← h]; rfl, fun t ht => by cases ht⟩
    | cons b r =>
      rw [hk] at h
      simp only at h
      cases ht : tok1 (b :: r) with
      | none => rw [ht] at h; cases h
      | some x =>
        obtain ⟨k, t, n⟩ := x
        rw [ht] at h
        simp only at h
        cases hs : scanG N f ((b :: r).drop t.length) with
        | error o => rw [hs] at h; cases h
        | ok us =>
          rw [hs] at h
          simp only [consR, Except.ok.injEq] at h
          obtain ⟨us0, rfl, hu⟩ := scanG_ok N f _ _ hs
          refine ⟨_ :: us0, by rw [← h]; rfl, fun u hm => ?_⟩
          rcases List.mem_cons.1 hm with rfl | hm
          · intro r' hr
            have := tok_sep ht hr
            simpa [bl] using this
          · exact hu u hm
def gapB (g : Nat) : List UInt8 := match g % 5 with
  | 0 => [32]
  | 1 => [10]
  | 2 => [9, 32]
  | 3 => [32, 35, 32, 97, 32, 99, 111, 109, 109, 101, 110, 116, 58, 32, 111, 114, 10]
  | _ => [13, 10]
theorem gap_sep (g : Nat) (r : List UInt8) : sepR (gapB g ++ r) := by
  unfold gapB
  split <;> exact rfl
theorem gap_skip (g : Nat) (r : List UInt8) : skipL false (gapB g ++ r) = skipL false r := by
  unfold gapB
  split <;> rfl
/-- The gap ahead of token number i. -/
def gapN (gs : List Nat) (i : Nat) : Nat := if gs.length = 0 then 0 else (gs[i % gs.length]?).getD 0
def reT (gs : List Nat) : Nat → List Tk → List UInt8
  | _, [] => []
  | i, t :: l => gapB (gapN gs i) ++ (bl t.text ++ reT gs (i + 1) l)
theorem reT_snoc (gs : List Nat) (t : Tk) : ∀ (l : List Tk) (i : Nat), reT gs i (l ++ [t]) = reT gs i l ++ (gapB (gapN gs (i + l.length)) ++ bl t.text)
  | [], i => by simp [reT]
  | u :: l, i => by
    rw [List.cons_append, reT, reT_snoc gs t l (i + 1), reT, List.length_cons]
    simp only [List.append_assoc]
    rw [show i + 1 + l.length = i + (l.length + 1) by omega]
theorem re_scan (gs : List Nat) (N m : Nat) : ∀ (l : List Tk) (i : Nat), (∀ t ∈ l, TokOk t) → ∃ us, scanL N (reT gs i (l ++ [⟨0, ⟨#[]⟩, 0, m⟩])) = .ok us ∧ tksS (l ++ [⟨0, ⟨#[]⟩, 0, m⟩]) us
  | [], i, _ => by
    refine ⟨[⟨0, ⟨#[]⟩, 0, N⟩], ?_, ⟨rfl, rfl, rfl⟩, trivial⟩
    rw [List.nil_append, reT, reT, show bl (⟨#[]⟩ : ByteArray) = [] from rfl, List.nil_append, scan_skip (gap_skip _ _), scan_end]
  | t :: l, i, h => by
    obtain ⟨us, h1, h2⟩ := re_scan gs N m l (i + 1) fun u hu => h u (by simp [hu])
    have hsep : sepR (reT gs (i + 1) (l ++ [⟨0, ⟨#[]⟩, 0, m⟩])) := by
      cases l with
      | nil => exact gap_sep _ _
      | cons u l => exact gap_sep _ _
    obtain ⟨ht, b, t', hb, hb1, hb2⟩ := h t (by simp) _ hsep
    rw [List.cons_append, reT, scan_skip (gap_skip _ _)]
    have hone := scan_one (N := N) (l := bl t.text ++ reT gs (i + 1) (l ++ [⟨0, ⟨#[]⟩, 0, m⟩])) (by rw [hb]; rfl) hb1 hb2 ht
    rw [hone, List.drop_left, h1]
    exact ⟨_, rfl, ⟨rfl, (bl_mk _).symm, rfl⟩, h2⟩
theorem rescan {s : ByteArray} {ts : List Tk} (h : scanL s.size (bl s) = .ok ts) (gs : List Nat) (N : Nat) : ∃ us, scanL N (reT gs 0 ts) = .ok us ∧ tksS ts us := by
  obtain ⟨ts0, rfl, hk⟩ := scanG_ok _ _ _ _ h
  exact re_scan gs N _ ts0 0 hk
end Go.Proofs.YtnabbnhefjfegaaGreatDoor
namespace Go.Proofs.YtnabbnhefjfegaaGreatDoor
open Go.RowKit
def modeW (c : Con) : ByteArray := if c.enf then wEnforce else wDeclare
def kindW (k : Nat) : ByteArray := if k = 1 then wStatic else if k = 2 then wDynamic else wUsers
/-- A line without its semicolon. -/
def line0 (c : Con) : List UInt8 := bl (modeB c) ++ bl (kindB c.kind) ++ bl c.name ++ [58] ++ [32] ++ bl (textE c.ex)
def tok0 (c : Con) (o : Nat) : List Tk := [wT (modeW c) o] ++ [wT (kindW c.kind) (o + (bl (modeB c)).length)] ++ [wT c.name (o + (bl (modeB c) ++ bl (kindB c.kind)).length)] ++ [sT wColon (o + (bl (modeB c) ++ bl (kindB c.kind) ++ bl c.name).length)] ++ toksE c.ex (o + (bl (modeB c) ++ bl (kindB c.kind) ++ bl c.name ++ [58] ++ [32]).length)
/-- A constraint whose line is read back. -/
def conOk (c : Con) : Prop := 1 ≤ c.kind ∧ c.kind ≤ 3 ∧ validS c.name ∧ nodeE c.ex = 0
theorem lx_mode (c : Con) : LxS (bl (modeB c)) (fun o => [wT (modeW c) o]) := by
  have h1 : LxW (bl wEnforce) (fun o => [wT wEnforce o]) := lx_word rfl (by decide) (by decide)
  have h2 : LxW (bl wDeclare) (fun o => [wT wDeclare o]) := lx_word rfl (by decide) (by decide)
  unfold modeB modeW
  split
  · exact (h1.appS lx_blank fun r => by simp [ndel]; decide).of rfl fun o => by simp
  · exact (h2.appS lx_blank fun r => by simp [ndel]; decide).of rfl fun o => by simp
theorem lx_kind {k : Nat} (h1 : 1 ≤ k) (h3 : k ≤ 3) : LxS (bl (kindB k)) (fun o => [wT (kindW k) o]) := by
  have g1 : LxW (bl wStatic) (fun o => [wT wStatic o]) := lx_word rfl (by decide) (by decide)
  have g2 : LxW (bl wDynamic) (fun o => [wT wDynamic o]) := lx_word rfl (by decide) (by decide)
  have g3 : LxW (bl wUsers) (fun o => [wT wUsers o]) := lx_word rfl (by decide) (by decide)
  match k, h1, h3 with
  | 1, _, _ => exact (g1.appS lx_blank fun r => by simp [ndel]; decide).of rfl fun o => by simp [kindW]
  | 2, _, _ => exact (g2.appS lx_blank fun r => by simp [ndel]; decide).of rfl fun o => by simp [kindW]
  | 3, _, _ => exact (g3.appS lx_blank fun r => by simp [ndel]; decide).of rfl fun o => by simp [kindW]
theorem lx_colon : LxS [58] (fun o => [sT wColon o]) := lx_sym rfl (by decide) (by decide) fun _ => rfl
theorem lx_semi : LxS [59] (fun o => [sT wSemi o]) := lx_sym rfl (by decide) (by decide) fun _ => rfl
theorem lx_line0 {c : Con} (h : conOk c) : LxW (line0 c) (tok0 c) := by
  obtain ⟨h1, h3, hn, he⟩ := h
  refine (LxS.appW (((LxW.appS (LxS.appW ((lx_mode c).app (lx_kind h1 h3)) (lx_name hn)) lx_colon (fun r => by simp [ndel]; decide)).app lx_blank)) (lx_text _ c.ex (Nat.le_refl _) he)).of rfl fun o => ?_
  simp [tok0]
theorem stop_kind {k : Nat} {t : Tk} {l : List Tk} (h : t.kind = 0) : Stop k (t :: l) := by
  have : ∀ w, isT w (t :: l) = false := fun w => by simp [isT, h]
  exact ⟨fun _ => this _, fun _ => this _, fun _ => this _, fun _ _ _ => this _, fun _ => this _⟩
theorem stop_semi {k o : Nat} {l : List Tk} : Stop k (sT wSemi o :: l) := ⟨fun _ => isT_sne (by decide), fun _ => isT_sne (by decide), fun _ => isT_sne (by decide), fun _ c hc => isT_sne (by revert c; decide), fun _ => isT_sne (by decide)⟩
theorem con_mid {c : Con} (h : conOk c) {F o : Nat} (hF : depE c.ex + 1 < F) {rest : List Tk} (hs : Stop 1 rest) : conP (exprP F) (tok0 c o ++ rest) = bindR (expT wSemi rest) fun _ l => .ok (c, l) := by
  obtain ⟨h1, h3, hn, he⟩ := h
  have hk2 : ∀ en k o1 o2 o3, conK2 (exprP F) en k (wT c.name o1 :: sT wColon o2 :: (toksE c.ex o3 ++ rest)) = bindR (expT wSemi rest) fun _ l => .ok (⟨en, k, c.name, c.ex⟩, l) := fun en k o1 o2 o3 => by
    rw [conK2, nameT_ok hn, bindR_ok, expT_ok, bindR_ok, parse_back he hF hs, bindR_ok]
  have hk1 : ∀ en o0 o1 o2 o3, conK1 (exprP F) en (wT (kindW c.kind) o0 :: wT c.name o1 :: sT wColon o2 :: (toksE c.ex o3 ++ rest)) = bindR (expT wSemi rest) fun _ l => .ok (⟨en, c.kind, c.name, c.ex⟩, l) := fun en o0 o1 o2 o3 => by
    generalize hq : c.kind = q at h1 h3 ⊢
    match q, h1, h3 with
    | 1, _, _ => rw [show kindW 1 = wStatic from rfl, conK1, isT_w, if_pos rfl, List.tail_cons, hk2]
    | 2, _, _ => rw [show kindW 2 = wDynamic from rfl, conK1, isT_wne (by decide), if_neg (by simp), isT_w, if_pos rfl, List.tail_cons, hk2]
    | 3, _, _ =>
      have hx : ∀ l, expT wUsers (wT wUsers o0 :: l) = .ok ((), l) := fun l => by rw [expT, isT_w, if_pos rfl]; rfl
      rw [show kindW 3 = wUsers from rfl, conK1, isT_wne (by decide), if_neg (by simp), isT_wne (by decide), if_neg (by simp), hx, bindR_ok, hk2]
  obtain ⟨en, k, nm, ex⟩ := c
  simp only [tok0, List.append_assoc, List.cons_append, List.nil_append]
  cases en with
  | true =>
    rw [show modeW ⟨true, k, nm, ex⟩ = wEnforce from rfl, conP, isT_w, if_pos rfl, List.tail_cons]
    exact hk1 _ _ _ _ _
  | false =>
    have hx : ∀ o l, expT wDeclare (wT wDeclare o :: l) = .ok ((), l) := fun o l => by rw [expT, isT_w, if_pos rfl]; rfl
    rw [show modeW ⟨false, k, nm, ex⟩ = wDeclare from rfl, conP, isT_wne (by decide), if_neg (by simp), hx, bindR_ok]
    exact hk1 _ _ _ _ _
/-- A text whose tokens are those of constraints. -/
def SrcP (t : List UInt8) (cs : List Con) : Prop := ∃ ts : Nat → List Tk, LxS t ts ∧ ∀ o, cs.length ≤ (ts o).length ∧ (∀ c ∈ cs, depE c.ex < (ts o).length) ∧ ∀ F, (∀ c ∈ cs, depE c.ex + 1 < F) → ∀ k pre rest, consP (exprP F) (k + cs.length) pre (ts o ++ rest) = consP (exprP F) k (pre ++ cs) rest
theorem SrcP.nil : SrcP [] [] := ⟨fun _ => [], fun N r _ => by rw [List.nil_append, appR_nil], fun o => ⟨Nat.le_refl _, fun c h => (by cases h), fun F _ k pre rest => by rw [List.append_nil]; rfl⟩⟩
theorem SrcP.app {t t' : List UInt8} {cs cs' : List Con} (h : SrcP t cs) (h' : SrcP t' cs') : SrcP (t ++ t') (cs ++ cs') := by
  obtain ⟨ts, hl, hc⟩ := h
  obtain ⟨ts', hl', hc'⟩ := h'
  refine ⟨_, hl.app hl', fun o => ?_⟩
  obtain ⟨a1, a2, a3⟩ := hc o
  obtain ⟨b1, b2, b3⟩ := hc' (o + t.length)
  refine ⟨by simp only [List.length_append]; omega, fun c hm => ?_, fun F hF k pre rest => ?_⟩
  · rw [List.length_append]
    rcases List.mem_append.1 hm with hm | hm
    · have := a2 c hm; omega
    · have := b2 c hm; omega
  · rw [List.length_append, List.append_assoc, show k + (cs.length + cs'.length) = (k + cs'.length) + cs.length by omega, a3 F (fun c hm => hF c (List.mem_append_left _ hm)), b3 F (fun c hm => hF c (List.mem_append_right _ hm)), List.append_assoc]
theorem tok0_hd {c : Con} {o : Nat} {l : List Tk} : hdK (tok0 c o ++ l) = 1 := by simp [tok0, hdK, wT]
theorem tok0_len {c : Con} (h : conOk c) (o : Nat) : depE c.ex + 4 ≤ (tok0 c o).length := by
  have := toks_len _ c.ex (Nat.le_refl _) h.2.2.2 (o + (bl (modeB c) ++ bl (kindB c.kind) ++ bl c.name ++ [58] ++ [32]).length)
  simp only [tok0, List.length_append, List.length_cons, List.length_nil] at this ⊢
  omega
theorem SrcP.line {c : Con} (h : conOk c) : SrcP (line0 c ++ [59]) [c] := by
  refine ⟨_, (lx_line0 h).appS lx_semi (fun r => by simp [ndel]; decide), fun o => ⟨?_, fun d hd => ?_, fun F hF k pre rest => ?_⟩⟩
  · simp
  · rw [List.mem_singleton.1 hd, List.length_append]
    have := tok0_len h o
    omega
  · rw [List.append_assoc, List.singleton_append, List.length_singleton, consP, if_neg (by rw [tok0_hd]; decide), con_mid h (hF c (by simp)) stop_semi, expT_ok, bindR_ok]
/-- The last semicolon lacks. -/
theorem SrcP.open {s : ByteArray} {t : List UInt8} {cs : List Con} {c : Con} (h : SrcP t cs) (hc : conOk c) (e : bl s = t ++ line0 c) (hs : s.size ≤ 8000) : parseM s = .error (s.size, 8) := by
  obtain ⟨ts, hl, hd⟩ := h
  have hx := LxS.appW hl (lx_line0 hc)
  rw [← e] at hx
  have h1 := hx s.size [] trivial (by rw [List.append_nil, bl_size]; exact Nat.le_refl _)
  rw [List.append_nil, scan_end, bl_size, Nat.sub_self] at h1
  simp only [Nat.zero_add] at h1
  have hb : begM s = .ok ((ts 0 ++ tok0 c t.length) ++ [⟨0, ⟨#[]⟩, 0, s.size⟩]) := by rw [begM, if_neg (by omega), h1]; rfl
  obtain ⟨a1, a2, a3⟩ := hd 0
  have hln := tok0_len hc t.length
  have h2 : consP (exprP (((ts 0 ++ tok0 c t.length) ++ [(⟨0, ⟨#[]⟩, 0, s.size⟩ : Tk)]).length + 1)) (((ts 0 ++ tok0 c t.length) ++ [(⟨0, ⟨#[]⟩, 0, s.size⟩ : Tk)]).length + 1) [] ((ts 0 ++ tok0 c t.length) ++ [⟨0, ⟨#[]⟩, 0, s.size⟩]) = .error (s.size, 8) := by
    obtain ⟨k, hk⟩ : ∃ k, ((ts 0 ++ tok0 c t.length) ++ [(⟨0, ⟨#[]⟩, 0, s.size⟩ : Tk)]).length + 1 = (k + 1) + cs.length := ⟨(ts 0).length + (tok0 c t.length).length + 1 - cs.length, by simp only [List.length_append, List.length_cons, List.length_nil]; omega⟩
    rw [hk, List.append_assoc, a3 _ (fun d hm => by have := a2 d hm; simp only [List.length_append, List.length_cons, List.length_nil] at hk; omega), consP, if_neg (by rw [tok0_hd]; decide), con_mid hc (by simp only [List.length_append, List.length_cons, List.length_nil] at hk; omega) (stop_kind rfl)]
    rfl
  rw [parseM, hb]
  simp only [h2]
/-- A semicolon too many. -/
theorem SrcP.more {s : ByteArray} {t : List UInt8} {cs : List Con} (h : SrcP t cs) (e : bl s = t ++ [59]) (hs : s.size ≤ 8000) : parseM s = .error (t.length, 8) := by
  obtain ⟨ts, hl, hd⟩ := h
  have hx := LxS.app hl lx_semi
  rw [← e] at hx
  have h1 := hx s.size [] (by rw [List.append_nil, bl_size]; exact Nat.le_refl _)
  rw [List.append_nil, scan_end, bl_size, Nat.sub_self] at h1
  simp only [Nat.zero_add] at h1
  have hb : begM s = .ok ((ts 0 ++ [sT wSemi t.length]) ++ [⟨0, ⟨#[]⟩, 0, s.size⟩]) := by rw [begM, if_neg (by omega), h1]; rfl
  obtain ⟨a1, a2, a3⟩ := hd 0
  have h2 : consP (exprP (((ts 0 ++ [sT wSemi t.length]) ++ [(⟨0, ⟨#[]⟩, 0, s.size⟩ : Tk)]).length + 1)) (((ts 0 ++ [sT wSemi t.length]) ++ [(⟨0, ⟨#[]⟩, 0, s.size⟩ : Tk)]).length + 1) [] ((ts 0 ++ [sT wSemi t.length]) ++ [⟨0, ⟨#[]⟩, 0, s.size⟩]) = .error (t.length, 8) := by
    obtain ⟨k, hk⟩ : ∃ k, ((ts 0 ++ [sT wSemi t.length]) ++ [(⟨0, ⟨#[]⟩, 0, s.size⟩ : Tk)]).length + 1 = (k + 1) + cs.length := ⟨(ts 0).length + 1 + 1 - cs.length, by simp only [List.length_append, List.length_cons, List.length_nil]; omega⟩
    rw [hk, List.append_assoc, a3 _ (fun d hm => by have := a2 d hm; simp only [List.length_append, List.length_cons, List.length_nil] at hk; omega), consP, if_neg (by simp [hdK, sT])]
    rfl
  rw [parseM, hb]
  simp only [h2]
theorem conOk_of {cs : List Con} (h : chkAll cs = 0) : cs.length ≤ 32 ∧ (linesL cs).length ≤ 8000 ∧ chkCs [] cs = 0 ∧ ∀ c ∈ cs, conOk c := by
  rw [chkAll] at h
  split at h
  · cases h
  · split at h
    · rename_i h1; exact absurd h h1
    · rename_i h1
      split at h
      · cases h
      · refine ⟨by omega, by omega, by simpa using h1, fun c hc => ?_⟩
        obtain ⟨g1, g2, g3, g4⟩ := chkCs_mem (by simpa using h1) c hc
        exact ⟨g1, g2, g3, chkE_node g4⟩
theorem conP_S {ex : ParP} (hx : parS ex) : parS (conP ex) := by
  have k2 : ∀ en k, parS (conK2 ex en k) := fun en k l m h => by
    rw [conK2, conK2]
    exact bindR_S (nameT_S l m h) fun s l1 m1 h1 => bindR_S (expT_S l1 m1 h1) fun _ l2 m2 h2 => bindR_S (hx l2 m2 h2) fun x l3 m3 h3 => bindR_S (expT_S l3 m3 h3) fun _ l4 m4 h4 => resS_ok h4
  have k1 : ∀ en, parS (conK1 ex en) := fun en l m h => by
    rw [conK1, conK1, isT_S h, isT_S h]
    exact resS_if (k2 _ _ _ _ (tksS_tail h)) (resS_if (k2 _ _ _ _ (tksS_tail h)) (bindR_S (expT_S l m h) fun _ l1 m1 h1 => k2 _ _ _ _ h1))
  intro l m h
  rw [conP, conP, isT_S h]
  exact resS_if (k1 _ _ _ (tksS_tail h)) (bindR_S (expT_S l m h) fun _ l1 m1 h1 => k1 _ _ _ h1)
theorem hdK_S : ∀ {l m : List Tk}, tksS l m → hdK l = hdK m
  | [], [], _ => rfl
  | _ :: _, _ :: _, h => h.1.1
  | [], _ :: _, h => h.elim
  | _ :: _, [], h => h.elim
/-- The same constraints, or the same error. -/
def sameE {α : Type} : Except (Nat × Int) α → Except (Nat × Int) α → Prop
  | .ok a, .ok b => a = b
  | .error x, .error y => x.2 = y.2
  | .ok _, .error _ => False
  | .error _, .ok _ => False
theorem consP_S {ex : ParP} (hx : parS ex) : ∀ (k : Nat) (cs : List Con) (l m : List Tk), tksS l m → sameE (consP ex k cs l) (consP ex k cs m)
  | 0, cs, _, _, _ => rfl
  | k + 1, cs, l, m, h => by
    rw [consP, consP, hdK_S h]
    by_cases h0 : hdK m = 0
    · rw [if_pos h0, if_pos h0]; exact rfl
    · rw [if_neg h0, if_neg h0]
      have := conP_S hx l m h
      cases h1 : conP ex l with
      | error x =>
        rw [h1] at this
        cases h2 : conP ex m with
        | error y => rw [h2] at this; exact this
        | ok y => rw [h2] at this; exact this.elim
      | ok x =>
        rw [h1] at this
        cases h2 : conP ex m with
        | error y => rw [h2] at this; exact this.elim
        | ok y =>
          rw [h2] at this
          obtain ⟨e1, e2⟩ := this
          simp only [e1]
          exact consP_S hx k _ _ _ e2
theorem parseM_S {s t : ByteArray} {ts us : List Tk} (h1 : begM s = .ok ts) (h2 : begM t = .ok us) (h : tksS ts us) : sameE (parseM s) (parseM t) ∧ ((∃ cs, parseM s = .ok cs) ∨ ∃ x, parseM s = .error x) := by
  refine ⟨?_, by cases parseM s <;> simp⟩
  have hc := consP_S (exprP_S (us.length + 1)) (us.length + 1) [] ts us h
  rw [parseM, parseM, h1, h2]
  simp only [tksS_len h]
  cases g1 : consP (exprP (us.length + 1)) (us.length + 1) [] ts with
  | error x =>
    rw [g1] at hc
    cases g2 : consP (exprP (us.length + 1)) (us.length + 1) [] us with
    | error y => rw [g2] at hc; exact hc
    | ok y => rw [g2] at hc; exact hc.elim
  | ok x =>
    rw [g1] at hc
    cases g2 : consP (exprP (us.length + 1)) (us.length + 1) [] us with
    | error y => rw [g2] at hc; exact hc.elim
    | ok y =>
      rw [g2] at hc
      obtain rfl : x = y := hc
      simp only
      split <;> exact rfl
end Go.Proofs.YtnabbnhefjfegaaGreatDoor
namespace Go.Proofs.YtnabbnhefjfegaaGreatDoor
open Go.RowKit
end Go.Proofs.YtnabbnhefjfegaaGreatDoor
namespace Go.Proofs.YtnabbnhefjfegaaGreatDoor
open Go.RowKit
end Go.Proofs.YtnabbnhefjfegaaGreatDoor
namespace Go.Proofs.YtnabbnhefjfegaaGreatDoor
open Go.RowKit
def rcTi (t : Tk) : List Value := [.int .i64 (t.kind : Int), .string t.text, .int .i64 (t.num : Int), .int .i64 (t.off : Int)]
end Go.Proofs.YtnabbnhefjfegaaGreatDoor
namespace Go.Proofs.YtnabbnhefjfegaaGreatDoor
open Go.RowKit
structure TksI (X : PMap) (v : Value) (ts : List Tk) : Prop where
  row : RowR rcTi X v ts
  len : ts.length < 1000000
  fin : ∀ t, ts[ts.length - 1]? = some t → t.kind = 0
  num : ∀ t ∈ ts, t.kind = 2 → t.num ≤ 999999
theorem TksI.mono {X X' : PMap} {v : Value} {ts : List Tk} (h : TksI X v ts) (hX : X.le X') : TksI X' v ts := ⟨h.row.mono hX, h.len, h.fin, h.num⟩
end Go.Proofs.YtnabbnhefjfegaaGreatDoor
namespace Go.Proofs.YtnabbnhefjfegaaGreatDoor
open Go.RowKit
end Go.Proofs.YtnabbnhefjfegaaGreatDoor
namespace Go.Proofs.YtnabbnhefjfegaaGreatDoor
open Go.RowKit
end Go.Proofs.YtnabbnhefjfegaaGreatDoor
namespace Go.Proofs.YtnabbnhefjfegaaGreatDoor
open Go.RowKit
end Go.Proofs.YtnabbnhefjfegaaGreatDoor
namespace Go.Proofs.YtnabbnhefjfegaaGreatDoor
open Go.RowKit
end Go.Proofs.YtnabbnhefjfegaaGreatDoor
namespace Go.Proofs.YtnabbnhefjfegaaGreatDoor
open Go.RowKit
end Go.Proofs.YtnabbnhefjfegaaGreatDoor
namespace Go.Proofs.YtnabbnhefjfegaaGreatDoor
open Go.RowKit
end Go.Proofs.YtnabbnhefjfegaaGreatDoor
namespace Go.Proofs.YtnabbnhefjfegaaGreatDoor
open Go.RowKit
end Go.Proofs.YtnabbnhefjfegaaGreatDoor
namespace Go.Proofs.YtnabbnhefjfegaaGreatDoor
open Go.RowKit
end Go.Proofs.YtnabbnhefjfegaaGreatDoor
namespace Go.Proofs.YtnabbnhefjfegaaGreatDoor
open Go.RowKit
end Go.Proofs.YtnabbnhefjfegaaGreatDoor
namespace Go.Proofs.YtnabbnhefjfegaaGreatDoor
open Go.RowKit
abbrev r1 : Row4 := (.int .i64 0, .int .i64 0, .slice none 0 0, .slice none 0 0)
end Go.Proofs.YtnabbnhefjfegaaGreatDoor
namespace Go.Proofs.YtnabbnhefjfegaaGreatDoor
open Go.RowKit
theorem begM_ok {s : ByteArray} {ts : List Tk} (h : begM s = .ok ts) : s.size ≤ 8000 ∧ scanL s.size (bl s) = .ok ts := by
  rw [begM] at h
  split at h
  · cases h
  · rename_i h8
    split at h
    · rename_i us hsc
      simp only [Except.ok.injEq] at h
      exact ⟨by omega, by rw [hsc, h]⟩
    · cases h
end Go.Proofs.YtnabbnhefjfegaaGreatDoor
namespace Go.Proofs.YtnabbnhefjfegaaGreatDoor
open Go.RowKit
def errN {α : Type} (r : Res α) : Prop := ∀ x, r = .error x → x.2 ≠ 0
theorem bindR_N {α β : Type} {x : Res α} {f : α → List Tk → Res β} (h : errN x) (hf : ∀ a l, errN (f a l)) : errN (bindR x f) := by
  cases x with
  | error e => intro y hy; cases hy; exact h e rfl
  | ok y => exact hf y.1 y.2
theorem if_N {α : Type} {c : Prop} [Decidable c] {x y : Res α} (h1 : errN x) (h2 : errN y) : errN (if c then x else y) := by
  split
  · exact h1
  · exact h2
theorem ok_N {α : Type} {a : α × List Tk} : errN (.ok a) := fun x h => by cases h
theorem err_N {α : Type} {o : Nat} {c : Int} (h : c ≠ 0) : errN (.error (o, c) : Res α) := fun x hx => by cases hx; exact h
theorem nameT_N : ∀ l, errN (nameT l)
  | [] => err_N (by decide)
  | t :: l => if_N (err_N (by decide)) (if_N (err_N (by decide)) ok_N)
theorem expT_N {w : ByteArray} (l : List Tk) : errN (expT w l) := if_N ok_N (err_N (by decide))
theorem leftG_N {w : ByteArray} {op : Nat} {p : ParP} (hp : ∀ l, errN (p l)) : ∀ (k : Nat) (x : Ex) (l : List Tk), errN (leftG w op p k x l)
  | 0, x, l => ok_N
  | k + 1, x, l => if_N (bindR_N (hp _) fun y l' => leftG_N hp k _ l') ok_N
theorem leftP_N {w : ByteArray} {op : Nat} {p : ParP} (hp : ∀ l, errN (p l)) (l : List Tk) : errN (leftP w op p l) := bindR_N (hp l) fun x l' => leftG_N hp _ _ _
theorem cmpP_N {p : ParP} (hp : ∀ l, errN (p l)) (l : List Tk) : errN (cmpP p l) := by
  rw [cmpP_eq]
  refine bindR_N (leftP_N hp l) fun x l' => ?_
  cases cmps.find? fun c => isT c.1 l' with
  | none => exact ok_N
  | some c => exact bindR_N (leftP_N hp _) fun y l'' => ok_N
theorem negP_N {p : ParP} (hp : ∀ l, errN (p l)) : ∀ k l, errN (negP p k l)
  | 0, _ => err_N (by decide)
  | k + 1, l => if_N (bindR_N (negP_N hp k _) fun x l' => ok_N) (cmpP_N hp l)
theorem implP_N {p : ParP} (hp : ∀ l, errN (p l)) : ∀ k l, errN (implP p k l)
  | 0, _ => err_N (by decide)
  | k + 1, l => bindR_N (leftP_N (leftP_N fun l => negP_N hp _ l) l) fun x l' => if_N (bindR_N (implP_N hp k _) fun y l'' => ok_N) ok_N
theorem namesG_N : ∀ (k : Nat) (ns : List ByteArray) (l : List Tk), errN (namesG k ns l)
  | 0, ns, _ => ok_N
  | k + 1, ns, l => if_N (bindR_N (nameT_N _) fun s l' => namesG_N k _ l') ok_N
theorem namesP_N {several : Bool} (l : List Tk) : errN (namesP several l) :=
  bindR_N (expT_N l) fun _ l1 => bindR_N (nameT_N l1) fun s l2 => bindR_N (namesG_N _ _ l2) fun ns l3 => bindR_N (expT_N l3) fun _ l4 => ok_N
theorem primP_N {ex : ParP} (hx : ∀ l, errN (ex l)) : ∀ l, errN (primP ex l)
  | [] => err_N (by decide)
  | t :: l => if_N ok_N (if_N ok_N (if_N ok_N (if_N (bindR_N (namesP_N l) fun _ _ => ok_N) (if_N (bindR_N (namesP_N l) fun _ _ => ok_N) (if_N (bindR_N (hx l) fun x l' => bindR_N (expT_N l') fun _ _ => ok_N) (bindR_N (nameT_N _) fun _ _ => ok_N))))))
theorem exprP_N : ∀ f l, errN (exprP f l)
  | 0, _ => err_N (by decide)
  | f + 1, l => implP_N (primP_N (exprP_N f)) _ l
end Go.Proofs.YtnabbnhefjfegaaGreatDoor
namespace Go.Proofs.YtnabbnhefjfegaaGreatDoor
open Go.RowKit
theorem begM_len {s : ByteArray} {ts : List Tk} (h : begM s = .ok ts) : ts.length ≤ 8001 := by
  obtain ⟨h8, hsc⟩ := begM_ok h
  obtain ⟨ts0, rfl, hl0, _⟩ := scanL_fin hsc
  rw [bl_size] at hl0
  rw [List.length_append, List.length_singleton]; omega
theorem consP_wt {F : Nat} : ∀ (k : Nat) (cs : List Con) (l : List Tk) (ds : List Con), consP (exprP F) k cs l = .ok ds → wtC ds ≤ wtC cs + 14 * l.length
  | 0, cs, l, ds, h => by rw [consP] at h; simp only [Except.ok.injEq] at h; rw [h]; omega
  | k + 1, cs, l, ds, h => by
    rw [consP] at h
    split at h
    · simp only [Except.ok.injEq] at h; rw [h]; omega
    · cases hc : conP (exprP F) l with
      | error x => rw [hc] at h; cases h
      | ok y =>
        rw [hc] at h
        have h1 := consP_wt k _ _ _ h
        have h2 := conP_wt (exprP_wt F) hc
        simp only [wtC, List.map_append, List.map_cons, List.map_nil, List.sum_append, List.sum_cons, List.sum_nil] at h1 ⊢
        omega
theorem parseM_ok {s : ByteArray} {cs : List Con} (h : parseM s = .ok cs) : chkAll cs = 0 ∧ wtC cs < 200000 := by
  rw [parseM] at h
  cases hb : begM s with
  | error x => rw [hb] at h; cases h
  | ok ts =>
    rw [hb] at h
    simp only at h
    cases he : consP (exprP (ts.length + 1)) (ts.length + 1) [] ts with
    | error x => rw [he] at h; cases h
    | ok ds =>
      rw [he] at h
      simp only at h
      split at h
      · rename_i hc
        simp only [Except.ok.injEq] at h
        subst h
        have h1 := consP_wt _ _ _ _ he
        have h2 := begM_len hb
        simp only [wtC, List.map_nil, List.sum_nil] at h1
        exact ⟨hc, by simp only [wtC]; omega⟩
      · cases h
theorem conP_N {ex : ParP} (hx : ∀ l, errN (ex l)) (l : List Tk) : errN (conP ex l) := by
  have k2 : ∀ en k l, errN (conK2 ex en k l) := fun en k l => bindR_N (nameT_N l) fun s l1 => bindR_N (expT_N l1) fun _ l2 => bindR_N (hx l2) fun x l3 => bindR_N (expT_N l3) fun _ l4 => ok_N
  have k1 : ∀ en l, errN (conK1 ex en l) := fun en l => if_N (k2 _ _ _) (if_N (k2 _ _ _) (bindR_N (expT_N l) fun _ l1 => k2 _ _ _))
  exact if_N (k1 _ _) (bindR_N (expT_N l) fun _ l1 => k1 _ _)
theorem consP_N {ex : ParP} (hx : ∀ l, errN (ex l)) : ∀ (k : Nat) (cs : List Con) (l : List Tk) (x : Nat × Int), consP ex k cs l = .error x → x.2 ≠ 0
  | 0, cs, l, x, h => by rw [consP] at h; cases h
  | k + 1, cs, l, x, h => by
    rw [consP] at h
    split at h
    · cases h
    · cases hc : conP ex l with
      | error y => rw [hc] at h; simp only [Except.error.injEq] at h; subst h; exact conP_N hx l _ hc
      | ok y => rw [hc] at h; exact consP_N hx k _ _ _ h
theorem parseM_err {s : ByteArray} {x : Nat × Int} (h : parseM s = .error x) : x.2 ≠ 0 := by
  rw [parseM] at h
  cases hb : begM s with
  | error y => rw [hb] at h; simp only [Except.error.injEq] at h; subst h; exact begM_err hb
  | ok ts =>
    rw [hb] at h
    simp only at h
    cases he : consP (exprP (ts.length + 1)) (ts.length + 1) [] ts with
    | error y => rw [he] at h; simp only [Except.error.injEq] at h; subst h; exact consP_N (exprP_N _) _ _ _ _ he
    | ok ds =>
      rw [he] at h
      simp only at h
      split at h
      · cases h
      · rename_i hc
        simp only [Except.error.injEq] at h
        subst h
        exact hc
end Go.Proofs.YtnabbnhefjfegaaGreatDoor
namespace Go.Proofs.YtnabbnhefjfegaaGreatDoor
open Go.RowKit
theorem expr17_ok {X : PMap} {s : ByteArray} {e : Ex} (h : exprM s = .ok e) (hs : s.size < 1000000000) : Spec Tryz.prog 20 [.string s] X fun u X' => ∃ r : Row4, u = .tuple #[.agg #[r.1, r.2.1, r.2.2.1, r.2.2.2], .int .i64 0, .int .i64 0] ∧ ExR .u8 X' e r := by
  have := expr17_spec (X := X) hs
  simp only [h] at this
  exact this
theorem expr17_err {X : PMap} {s : ByteArray} {x : Nat × Int} (h : exprM s = .error x) (hs : s.size < 1000000000) : Spec Tryz.prog 20 [.string s] X fun u _ => u = .tuple #[.agg #[.int .u8 0, .int .i64 0, .slice none 0 0, .slice none 0 0], .int .i64 (x.1 : Int), .int .i64 x.2] := by
  have := expr17_spec (X := X) hs
  simp only [h] at this
  exact this
def aw1 : List (ByteArray × ByteArray) := [(⟨#[97, 32, 111, 114, 32, 98, 32, 97, 110, 100, 32, 110, 111, 116, 32, 99, 32, 45, 62, 32, 100]⟩, ⟨#[97, 32, 111, 114, 32, 98, 32, 97, 110, 100, 32, 110, 111, 116, 32, 99, 32, 45, 62, 32, 100]⟩), (⟨#[110, 111, 116, 40, 99, 111, 117, 110, 116, 40, 97, 44, 98, 41, 60, 61, 49, 41]⟩, ⟨#[110, 111, 116, 32, 99, 111, 117, 110, 116, 40, 97, 44, 32, 98, 41, 32, 60, 61, 32, 49]⟩), (⟨#[40, 40, 49, 41, 43, 50, 41, 43, 40, 51, 41, 60, 55]⟩, ⟨#[49, 32, 43, 32, 50, 32, 43, 32, 51, 32, 60, 32, 55]⟩)]
def aw2 : List (ByteArray × Nat × Int) := [(⟨#[97, 32, 60, 32, 98, 32, 60, 32, 99]⟩, 6, 8), (⟨#[97, 32, 97, 110, 100]⟩, 5, 8), (⟨#[97, 32, 97, 110, 100, 32, 111, 114]⟩, 6, 8), (⟨#[99, 111, 117, 110, 116, 40, 41]⟩, 6, 8), (⟨#[97, 32, 97, 110, 100, 32, 116, 104, 105, 114, 116, 101, 101, 110, 95, 108, 111, 110, 103]⟩, 6, 9), (⟨#[99, 111, 117, 110, 116, 40, 97, 44, 32, 97, 41, 32, 61, 61, 32, 49]⟩, 0, 5)]
def rcA (x : ByteArray × ByteArray) : List Value := [.string x.1, .string x.2]
theorem rcA_len (x : ByteArray × ByteArray) : (rcA x).length = 2 := rfl
def rcB (x : ByteArray × Nat × Int) : List Value := [.string x.1, .int .i64 (x.2.1 : Int), .int .i64 x.2.2]
theorem rcB_len (x : ByteArray × Nat × Int) : (rcB x).length = 3 := rfl
theorem mem3 {α : Type} {a b c : α} {P : α → Prop} (h1 : P a) (h2 : P b) (h3 : P c) : ∀ x ∈ [a, b, c], P x := fun x hx => by
  simp only [List.mem_cons, List.not_mem_nil, or_false] at hx
  rcases hx with rfl | rfl | rfl
  · exact h1
  · exact h2
  · exact h3
def ex1 : Ex := .mk 10 0 [] [.mk 9 0 [] [.mk 4 0 [⟨#[97]⟩] [], .mk 8 0 [] [.mk 4 0 [⟨#[98]⟩] [], .mk 7 0 [] [.mk 4 0 [⟨#[99]⟩] []]]], .mk 4 0 [⟨#[100]⟩] []]
def ex2 : Ex := .mk 7 0 [] [.mk 11 0 [] [.mk 5 0 [⟨#[97]⟩, ⟨#[98]⟩] [], .mk 1 1 [] []]]
def ex3 : Ex := .mk 12 0 [] [.mk 16 0 [] [.mk 16 0 [] [.mk 1 1 [] [], .mk 1 2 [] []], .mk 1 3 [] []], .mk 1 7 [] []]
theorem aw1_1 : exprM ⟨#[97, 32, 111, 114, 32, 98, 32, 97, 110, 100, 32, 110, 111, 116, 32, 99, 32, 45, 62, 32, 100]⟩ = .ok ex1 := by kernel_rfl
theorem aw1c_1 : chkE ex1 = 0 := by kernel_rfl
theorem aw1t_1 : textE ex1 = ⟨#[97, 32, 111, 114, 32, 98, 32, 97, 110, 100, 32, 110, 111, 116, 32, 99, 32, 45, 62, 32, 100]⟩ := by kernel_rfl
theorem aw1w_1 : wtE ex1 < 900000 := of_decide_eq_true (by kernel_rfl)
theorem aw1_2 : exprM ⟨#[110, 111, 116, 40, 99, 111, 117, 110, 116, 40, 97, 44, 98, 41, 60, 61, 49, 41]⟩ = .ok ex2 := by kernel_rfl
theorem aw1c_2 : chkE ex2 = 0 := by kernel_rfl
theorem aw1t_2 : textE ex2 = ⟨#[110, 111, 116, 32, 99, 111, 117, 110, 116, 40, 97, 44, 32, 98, 41, 32, 60, 61, 32, 49]⟩ := by kernel_rfl
theorem aw1w_2 : wtE ex2 < 900000 := of_decide_eq_true (by kernel_rfl)
theorem aw1_3 : exprM ⟨#[40, 40, 49, 41, 43, 50, 41, 43, 40, 51, 41, 60, 55]⟩ = .ok ex3 := by kernel_rfl
theorem aw1c_3 : chkE ex3 = 0 := by kernel_rfl
theorem aw1t_3 : textE ex3 = ⟨#[49, 32, 43, 32, 50, 32, 43, 32, 51, 32, 60, 32, 55]⟩ := by kernel_rfl
theorem aw1w_3 : wtE ex3 < 900000 := of_decide_eq_true (by kernel_rfl)
theorem aw2_1 : exprM ⟨#[97, 32, 60, 32, 98, 32, 60, 32, 99]⟩ = .error (6, 8) := by kernel_rfl
theorem aw2_2 : exprM ⟨#[97, 32, 97, 110, 100]⟩ = .error (5, 8) := by kernel_rfl
theorem aw2_3 : exprM ⟨#[97, 32, 97, 110, 100, 32, 111, 114]⟩ = .error (6, 8) := by kernel_rfl
theorem aw2_4 : exprM ⟨#[99, 111, 117, 110, 116, 40, 41]⟩ = .error (6, 8) := by kernel_rfl
theorem aw2_5 : exprM ⟨#[97, 32, 97, 110, 100, 32, 116, 104, 105, 114, 116, 101, 101, 110, 95, 108, 111, 110, 103]⟩ = .error (6, 9) := by kernel_rfl
theorem aw2_6 : exprM ⟨#[99, 111, 117, 110, 116, 40, 97, 44, 32, 97, 41, 32, 61, 61, 32, 49]⟩ = .error (0, 5) := by kernel_rfl
theorem aw1_ok : ∀ x ∈ aw1, x.1.size < 1000000000 ∧ ∃ e, exprM x.1 = .ok e ∧ chkE e = 0 ∧ textE e = x.2 ∧ wtE e < 900000 :=
  mem3 ⟨of_decide_eq_true (by kernel_rfl), _, aw1_1, aw1c_1, aw1t_1, aw1w_1⟩ ⟨of_decide_eq_true (by kernel_rfl), _, aw1_2, aw1c_2, aw1t_2, aw1w_2⟩ ⟨of_decide_eq_true (by kernel_rfl), _, aw1_3, aw1c_3, aw1t_3, aw1w_3⟩
theorem aw2_ok : ∀ x ∈ aw2, x.1.size < 1000000000 ∧ exprM x.1 = .error (x.2.1, x.2.2) := fun x hx => by
  simp only [aw2, List.mem_cons, List.not_mem_nil, or_false] at hx
  rcases hx with rfl | rfl | rfl | rfl | rfl | rfl
  · exact ⟨of_decide_eq_true (by kernel_rfl), aw2_1⟩
  · exact ⟨of_decide_eq_true (by kernel_rfl), aw2_2⟩
  · exact ⟨of_decide_eq_true (by kernel_rfl), aw2_3⟩
  · exact ⟨of_decide_eq_true (by kernel_rfl), aw2_4⟩
  · exact ⟨of_decide_eq_true (by kernel_rfl), aw2_5⟩
  · exact ⟨of_decide_eq_true (by kernel_rfl), aw2_6⟩
def awS : ByteArray := ⟨#[101, 110, 102, 111, 114, 99, 101, 32, 115, 116, 97, 116, 105, 99, 32, 115, 111, 100, 58, 32, 99, 111, 117, 110, 116, 40, 97, 44, 32, 98, 41, 32, 60, 61, 32, 49, 59, 32, 35, 32, 116, 119, 111, 10, 100, 101, 99, 108, 97, 114, 101, 32, 117, 115, 101, 114, 115, 32, 117, 58, 109, 101, 109, 98, 101, 114, 115, 40, 97, 41, 62, 48, 59]⟩
def awC : List Con := [⟨true, 1, ⟨#[115, 111, 100]⟩, .mk 11 0 [] [.mk 5 0 [⟨#[97]⟩, ⟨#[98]⟩] [], .mk 1 1 [] []]⟩, ⟨false, 3, ⟨#[117]⟩, .mk 14 0 [] [.mk 6 0 [⟨#[97]⟩] [], .mk 1 0 [] []]⟩]
theorem aw3 : parseM awS = .ok awC := by kernel_rfl
end Go.Proofs.YtnabbnhefjfegaaGreatDoor
namespace Go.Proofs.YtnabbnhefjfegaaGreatDoor
section
set_option maxRecDepth 100000
theorem bs76 : ∃ i z, Tryz.prog.info? 76 = some i ∧ i.size = 2 ∧ i.zero = some z ∧ z.cells = ([.string ⟨#[]⟩, .string ⟨#[]⟩] : List Value).toArray := bs_of (by kernel_rfl)
theorem bs78 : ∃ i z, Tryz.prog.info? 78 = some i ∧ i.size = 3 ∧ i.zero = some z ∧ z.cells = ([.string ⟨#[]⟩, .int .i64 0, .int .i64 0] : List Value).toArray := bs_of (by kernel_rfl)
theorem en18 : Enters Tryz.prog 18 := enters_mk Tryz.func18 (by kernel_rfl) rfl
theorem en20 : Enters Tryz.prog 20 := enters_mk Tryz.func20 (by kernel_rfl) rfl
theorem en27 : Enters Tryz.prog 27 := enters_mk Tryz.func27 (by kernel_rfl) rfl
theorem fa76_0 : FAdr Tryz.prog 76 0 0 := fadr_mk Tryz.underlying76 rfl rfl (by kernel_rfl)
theorem fa76_1 : FAdr Tryz.prog 76 1 1 := fadr_mk Tryz.underlying76 rfl rfl (by kernel_rfl)
theorem fa78_0 : FAdr Tryz.prog 78 0 0 := fadr_mk Tryz.underlying78 rfl rfl (by kernel_rfl)
theorem fa78_1 : FAdr Tryz.prog 78 1 1 := fadr_mk Tryz.underlying78 rfl rfl (by kernel_rfl)
theorem fa78_2 : FAdr Tryz.prog 78 2 2 := fadr_mk Tryz.underlying78 rfl rfl (by kernel_rfl)
theorem z76 : Zero Tryz.prog 76 [.string ⟨#[]⟩, .string ⟨#[]⟩] := ⟨zero_of (by kernel_rfl)⟩
theorem st76 : StT Tryz.prog 76 [(0, 1), (1, 1)] [.string ⟨#[]⟩, .string ⟨#[]⟩] := ⟨⟨_, Tryz.underlying76, fun _ => by kernel_rfl, z76⟩⟩
theorem z78 : Zero Tryz.prog 78 [.string ⟨#[]⟩, .int .i64 0, .int .i64 0] := ⟨zero_of (by kernel_rfl)⟩
theorem st78 : StT Tryz.prog 78 [(0, 1), (1, 1), (2, 1)] [.string ⟨#[]⟩, .int .i64 0, .int .i64 0] := ⟨⟨_, Tryz.underlying78, fun _ => by kernel_rfl, z78⟩⟩
theorem ty76 : Ty Tryz.prog 76 true 2 := ⟨⟨_, Tryz.underlying76, rfl⟩, by kernel_rfl⟩
theorem ty78 : Ty Tryz.prog 78 true 3 := ⟨⟨_, Tryz.underlying78, rfl⟩, by kernel_rfl⟩
end
open Go.RowKit
theorem short_spec {X : PMap} {s : ByteArray} : Spec Tryz.prog 19 [.string s] X fun u _ => u = .string (s.extract 0 (min s.size 2000)) := by
  refine Spec.enter Tryz.func19 rfl Tryz.ntmps19 rfl ?_
  intro w0 hw0
  refine T.seq <| T.region <| SL.as rfl <| SL.nil <| T.seq <| T.region <| SL.mv rfl <| SL.mv rfl <| SL.v (op_lenStr Tryz.underlying9 rfl) <| SL.v (op_minN (p := s.size) (q := 2000) rfl rfl) <| SL.v (op_sliceStrHi Tryz.underlying9 rfl rfl (by omega)) ?_
  refine SL.as rfl <| SL.nil <| T.ret1 rfl (ResIs.tmp rfl) ?_
  rfl
theorem short_size (s : ByteArray) : (s.extract 0 (min s.size 2000)).size ≤ 2000 := by
  rw [ByteArray.size_extract]; omega
theorem parse_ok {X : PMap} (hP : Pow10 X) {s : ByteArray} {cs : List Con} (h : parseM s = .ok cs) (hs : s.size < 1000000000) : Spec Tryz.prog 18 [.string s] X fun u X' => ∃ v, u = .tuple #[v, .int .i64 0, .int .i64 0] ∧ ConsR X' v cs := by
  have := parse_spec (X := X) hP hs
  simp only [h] at this
  exact this
theorem parse_err {X : PMap} (hP : Pow10 X) {s : ByteArray} {x : Nat × Int} (h : parseM s = .error x) (hs : s.size < 1000000000) : Spec Tryz.prog 18 [.string s] X fun u _ => u = .tuple #[.slice none 0 0, .int .i64 (x.1 : Int), .int .i64 x.2] := by
  have := parse_spec (X := X) hP hs
  simp only [h] at this
  exact this
theorem awake17_spec {X : PMap} (hP : Pow10 X) : Spec Tryz.prog 12 [] X fun u _ => u = .bool true := by
  refine Spec.enter Tryz.func12 rfl Tryz.ntmps12 rfl ?_
  intro w0 hw0
  refine T.seq <| T.region <| SL.as rfl <| SL.nil <| T.seq <| T.seq <| T.region <| SL.v (op_build st76 (qs := [(0, _), (1, _)]) rfl rfl) <| SL.v (op_build st76 (qs := [(0, _), (1, _)]) rfl rfl) <| SL.v (op_build st76 (qs := [(0, _), (1, _)]) rfl rfl) <| SL.w (op_buildSlice Tryz.underlying77 bs76 (qs := [(0, _), (1, _), (2, _)]) rfl rfl rfl rfl rfl) ?_
  rintro _ _ _ ⟨B17, rfl, rfl, rfl⟩
  refine SL.v (op_lenS Tryz.underlying77 rfl) <| SL.v (op_move (v := .int .i64 ((0 : Nat) : Int)) rfl) <| SL.nil <| T.block <| T.pub B17 (by repeat constructor) ?_
  intro X1 hX1 hB17 _
  refine T.loopW (fun m env own X' => ∃ i : Nat, m = 3 - i ∧ i ≤ 3 ∧ X1.le X' ∧ env = [(17, .slice (some ⟨B17, 0, none⟩) 3 3), (18, .int .i64 ((3 : Nat) : Int)), (19, .int .i64 (i : Int))] ∧ own = []) 3 ⟨0, by omega, by omega, PMap.le_refl _, rfl, rfl⟩ (by repeat (first | exact Sub.nil | refine Sub.cons rfl ?_)) ?_
  rintro m _ _ X2 ⟨i, rfl, hi, hX2, rfl, rfl⟩
  have hP2 := (hP.mono hX1).mono hX2
  rcases Nat.lt_or_ge i 3 with hil | hil
  · obtain ⟨x, hx⟩ : ∃ x, aw1[i]? = some x := ⟨_, List.getElem?_eq_getElem hil⟩
    obtain ⟨hsz, e, he, hc, ht, hw⟩ := aw1_ok x (List.mem_of_getElem? hx)
    refine T.seq <| T.region <| SL.v (op_lssT rfl rfl (by omega)) ?_
    refine SL.nil <| T.seq <| T.condT rfl <| T.skip <| T.seq <| T.block <| T.seq <| T.region <| SL.v (op_indexN Tryz.underlying77 ty76 rfl rfl (by omega)) ?_
    refine SL.v (op_loadX ty76 rfl (hB17.mono hX2) (row_read (pre := []) rcA_len (rs := aw1) hx (by show _ = 0 + _; omega))) ?_
    refine SL.w (op_alloc z76) ?_
    rintro _ _ _ ⟨B2, rfl, rfl, rfl⟩
    refine SL.w (op_store ty76 rfl rfl (by repeat constructor) rfl rfl rfl) ?_
    rintro _ _ _ ⟨rfl, rfl⟩
    refine SL.nil <| T.seq <| T.region <| SL.v (op_fieldAddr fa76_0 rfl) <| SL.v (op_load ty9 rfl (by repeat constructor) rfl) ?_
    refine SL.w (op_callF en20 (vs := [_]) rfl (expr17_ok he hsz)) ?_
    rintro _ _ X3 ⟨rfl, hX3, r, rfl, hr⟩
    obtain ⟨o, n, A, B, l, c1, l', c', rfl⟩ := hr.form
    refine SL.mv rfl <| SL.v (op_extract rfl rfl) <| SL.v (op_extract rfl rfl) <| SL.v (op_extract rfl rfl) <| SL.w (op_alloc z40) ?_
    rintro _ _ _ ⟨B3, rfl, rfl, rfl⟩
    refine SL.w (op_store ty40 rfl rfl (by repeat constructor) rfl rfl rfl) ?_
    rintro _ _ _ ⟨rfl, rfl⟩
    refine SL.as rfl <| SL.as rfl <| SL.nil <| T.seq <| T.draw (by kernel_rfl) 13 [.t 0, .t 1, .t 2, .t 3, .t 4, .t 5, .t 6, .t 7, .t 9, .t 10, .r 8, .t 11, .t 12] (by kernel_rfl) ?_
    refine SD.take rfl panicBody (op_move rfl) rfl rfl ?_
    refine SD.take rfl panicBody (op_neqF rfl rfl (by omega)) rfl rfl ?_
    refine SD.take rfl panicBody (op_move rfl) rfl rfl ?_
    refine SD.take rfl panicBody (op_move rfl) rfl rfl ?_
    refine SD.take rfl panicBody (op_neqF rfl rfl (by omega)) rfl rfl ?_
    refine SD.take rfl panicBody (op_pickF rfl rfl) rfl rfl ?_
    refine SD.take rfl panicBody (op_move rfl) rfl rfl ?_
    refine SD.take rfl panicBody (op_load ty40 rfl (by repeat constructor) rfl) rfl rfl ?_
    refine SD.take rfl panicBody (op_fieldAddr fa76_1 rfl) rfl rfl ?_
    refine SD.take rfl panicBody (op_load ty9 rfl (by repeat constructor) rfl) rfl rfl ?_
    have hcall := printA_spec (hP2.mono hX3) hw hr
    try simp only at hcall
    refine SD.run rfl (op_callF en27 (vs := [_]) rfl (hcall)) rfl rfl ?_
    rintro _ _ X4 ⟨rfl, hX4, rfl⟩
    rw [if_pos hc, ht]
    refine SD.take rfl panicBody (op_neqStrD (s := x.2) (s' := x.2) rfl rfl) rfl rfl ?_
    rw [decide_eq_true rfl, Bool.not_true]
    refine SD.take rfl panicBody (op_pickF rfl rfl) rfl rfl ?_
    refine SD.nil ?_
    show SL _ _ _ _ _ _ _ [] _ _ _
    refine SL.nil <| T.condF rfl <| T.skip <| T.blk <| T.region <| SL.v (op_addN (q := 1) rfl rfl (by omega)) ?_
    refine SL.mv rfl <| SL.nil <| T.drop B2 (by repeat constructor) ?_
    refine T.drop B3 (by repeat constructor) ?_
    exact T.backW (3 - (i + 1)) (by omega) ⟨i + 1, rfl, by omega, (hX2.trans' hX3).trans' hX4, rfl, rfl⟩ (by repeat (first | exact Sub.nil | refine Sub.cons rfl ?_))
  · obtain rfl : i = 3 := by omega
    refine T.seq <| T.region <| SL.v (op_lssF rfl rfl (by omega)) ?_
    refine SL.nil <| T.seq <| T.condF rfl ?_
    refine T.exit (T.exitCode (T.exitCut (T.exitBlk ?_)))
    refine T.seq <| T.seq <| T.region <| SL.v (op_build st78 (qs := [(0, _), (1, _), (2, _)]) rfl rfl) <| SL.v (op_build st78 (qs := [(0, _), (1, _), (2, _)]) rfl rfl) <| SL.v (op_build st78 (qs := [(0, _), (1, _), (2, _)]) rfl rfl) <| SL.v (op_build st78 (qs := [(0, _), (1, _), (2, _)]) rfl rfl) <| SL.v (op_build st78 (qs := [(0, _), (1, _), (2, _)]) rfl rfl) <| SL.v (op_build st78 (qs := [(0, _), (1, _), (2, _)]) rfl rfl) <| SL.w (op_buildSlice Tryz.underlying79 bs78 (qs := [(0, _), (1, _), (2, _), (3, _), (4, _), (5, _)]) rfl rfl rfl rfl rfl) ?_
    rintro _ _ _ ⟨B50, rfl, rfl, rfl⟩
    refine SL.v (op_lenS Tryz.underlying79 rfl) <| SL.v (op_move (v := .int .i64 ((0 : Nat) : Int)) rfl) <| SL.nil <| T.block <| T.pub B50 (by repeat constructor) ?_
    intro X3 hX3 hB50 _
    refine T.loopW (fun m env own X' => ∃ i : Nat, m = 6 - i ∧ i ≤ 6 ∧ X3.le X' ∧ env = [(50, .slice (some ⟨B50, 0, none⟩) 6 6), (51, .int .i64 ((6 : Nat) : Int)), (52, .int .i64 (i : Int))] ∧ own = []) 6 ⟨0, by omega, by omega, PMap.le_refl _, rfl, rfl⟩ (by repeat (first | exact Sub.nil | refine Sub.cons rfl ?_)) ?_
    rintro m _ _ X4 ⟨i, rfl, hi, hX4, rfl, rfl⟩
    have hP4 := (hP2.mono hX3).mono hX4
    rcases Nat.lt_or_ge i 6 with hil | hil
    · obtain ⟨x, hx⟩ : ∃ x, aw2[i]? = some x := ⟨_, List.getElem?_eq_getElem hil⟩
      obtain ⟨hsz, he⟩ := aw2_ok x (List.mem_of_getElem? hx)
      refine T.seq <| T.region <| SL.v (op_lssT rfl rfl (by omega)) ?_
      refine SL.nil <| T.seq <| T.condT rfl <| T.skip <| T.seq <| T.block <| T.seq <| T.region <| SL.v (op_indexN Tryz.underlying79 ty78 rfl rfl (by omega)) ?_
      refine SL.v (op_loadX ty78 rfl (hB50.mono hX4) (row_read (pre := []) rcB_len (rs := aw2) hx (by show _ = 0 + _; omega))) ?_
      refine SL.w (op_alloc z78) ?_
      rintro _ _ _ ⟨B7, rfl, rfl, rfl⟩
      refine SL.w (op_store ty78 rfl rfl (by repeat constructor) rfl rfl rfl) ?_
      rintro _ _ _ ⟨rfl, rfl⟩
      refine SL.nil <| T.seq <| T.region <| SL.v (op_fieldAddr fa78_0 rfl) <| SL.v (op_load ty9 rfl (by repeat constructor) rfl) ?_
      refine SL.w (op_callF en20 (vs := [_]) rfl (expr17_err he hsz)) ?_
      rintro _ _ X5 ⟨rfl, hX5, rfl⟩
      refine SL.mv rfl <| SL.v (op_extract rfl rfl) <| SL.v (op_extract rfl rfl) <| SL.v (op_extract rfl rfl) <| SL.w (op_alloc z40) ?_
      rintro _ _ _ ⟨B8, rfl, rfl, rfl⟩
      refine SL.w (op_store ty40 rfl rfl (by repeat constructor) rfl rfl rfl) ?_
      rintro _ _ _ ⟨rfl, rfl⟩
      refine SL.as rfl <| SL.as rfl <| SL.nil <| T.seq <| T.region <| SL.mv rfl <| SL.v (op_fieldAddr fa78_1 rfl) <| SL.v (op_load ty3 rfl (by repeat constructor) rfl) ?_
      refine SL.v (op_neqF rfl rfl (by omega)) ?_
      refine SL.mv rfl <| SL.mv rfl <| SL.v (op_fieldAddr fa78_2 rfl) <| SL.v (op_load ty29 rfl (by repeat constructor) rfl) ?_
      refine SL.v (op_neqF rfl rfl (by omega)) ?_
      refine SL.v (op_pickF rfl rfl) <| SL.nil <| T.condF rfl <| T.skip <| T.blk <| T.region <| SL.v (op_addN (q := 1) rfl rfl (by omega)) ?_
      refine SL.mv rfl <| SL.nil <| T.drop B7 (by repeat constructor) ?_
      refine T.drop B8 (by repeat constructor) ?_
      exact T.backW (6 - (i + 1)) (by omega) ⟨i + 1, rfl, by omega, hX4.trans' hX5, rfl, rfl⟩ (by repeat (first | exact Sub.nil | refine Sub.cons rfl ?_))
    · obtain rfl : i = 6 := by omega
      refine T.seq <| T.region <| SL.v (op_lssF rfl rfl (by omega)) ?_
      refine SL.nil <| T.seq <| T.condF rfl ?_
      refine T.exit (T.exitCode (T.exitCut (T.exitBlk ?_)))
      refine T.seq <| T.region <| SL.w (op_callF en18 (vs := [_]) rfl (parse_ok hP4 aw3 (of_decide_eq_true (by kernel_rfl)))) ?_
      rintro _ _ X5 ⟨rfl, hX5, v, rfl, hv⟩
      obtain ⟨rows, hR, hl, hrow⟩ := hv
      obtain ⟨r0, hr0⟩ : ∃ r, rows[0]? = some r := ⟨_, List.getElem?_eq_getElem (by rw [hl]; decide)⟩
      obtain ⟨r1, hr1⟩ : ∃ r, rows[1]? = some r := ⟨_, List.getElem?_eq_getElem (by rw [hl]; decide)⟩
      have h0 := hrow 0 _ _ rfl hr0
      have h1 := hrow 1 _ _ rfl hr1
      have hl2 : rows.length = 2 := hl
      obtain ⟨A9, c9, rfl⟩ := hR.form
      obtain ⟨b, pre, rfl, hB⟩ := hR.blk (by rw [hl2]; decide)
      obtain ⟨e0, k0, s0, a0⟩ := r0
      obtain ⟨e1, k1, s1, a1⟩ := r1
      obtain ⟨rfl, rfl, rfl, _⟩ := h0
      obtain ⟨rfl, rfl, rfl, _⟩ := h1
      simp only [hl2]
      refine SL.mv rfl <| SL.v (op_extract rfl rfl) <| SL.v (op_extract rfl rfl) <| SL.v (op_extract rfl rfl) <| SL.as rfl <| SL.as rfl <| SL.as rfl <| SL.nil <| T.seq <| T.region <| SL.mv rfl <| SL.v (op_eqlT rfl rfl (by omega)) ?_
      refine SL.mv rfl <| SL.mv rfl <| SL.v (op_lenS Tryz.underlying24 rfl) <| SL.v (op_eqlT rfl rfl (by omega)) ?_
      refine SL.v (op_pickT rfl rfl) <| SL.mv rfl <| SL.mv rfl <| SL.v (op_index Tryz.underlying24 ty82 rfl rfl (by omega) (by omega)) ?_
      refine SL.v (op_fieldAddr fa82_0 rfl) <| SL.v (op_loadX (v := .bool true) ty4 rfl hB (row_cell (sz := 7) (j := 0) rc7_len hr0 rfl (by omega))) ?_
      refine SL.v (op_pickT rfl rfl) <| SL.mv rfl <| SL.mv rfl <| SL.v (op_index Tryz.underlying24 ty82 rfl rfl (by omega) (by omega)) ?_
      refine SL.v (op_fieldAddr fa82_2 rfl) <| SL.v (op_loadX (v := .string ⟨#[115, 111, 100]⟩) ty9 rfl hB (row_cell (sz := 7) (j := 2) rc7_len hr0 rfl (by omega))) ?_
      refine SL.v (op_eqlStrD (s := ⟨#[115, 111, 100]⟩) (s' := ⟨#[115, 111, 100]⟩) rfl rfl) ?_
      rw [decide_eq_true rfl]
      refine SL.v (op_pickT rfl rfl) <| SL.mv rfl <| SL.mv rfl <| SL.v (op_index Tryz.underlying24 ty82 rfl rfl (by omega) (by omega)) ?_
      refine SL.v (op_fieldAddr fa82_1 rfl) <| SL.v (op_loadX (v := .int .u8 3) ty80 rfl hB (row_cell (sz := 7) (j := 1) rc7_len hr1 rfl (by omega))) ?_
      refine SL.v (op_eqlT rfl rfl (by omega)) ?_
      refine SL.v (op_pickT rfl rfl) <| SL.mv rfl <| SL.mv rfl <| SL.v (op_index Tryz.underlying24 ty82 rfl rfl (by omega) (by omega)) ?_
      refine SL.v (op_fieldAddr fa82_0 rfl) <| SL.v (op_loadX (v := .bool false) ty4 rfl hB (row_cell (sz := 7) (j := 0) rc7_len hr1 rfl (by omega))) ?_
      refine SL.v (op_not rfl) <| SL.v (op_pickT rfl rfl) <| SL.as rfl <| SL.nil <| T.ret1 rfl (ResIs.tmp rfl) ?_
      rfl
end Go.Proofs.YtnabbnhefjfegaaGreatDoor
namespace Go.Proofs.YtnabbnhefjfegaaGreatDoor
open Go.RowKit
end Go.Proofs.YtnabbnhefjfegaaGreatDoor
namespace Go.Proofs.YtnabbnhefjfegaaGreatDoor
section
set_option maxRecDepth 100000
theorem en23 : Enters Tryz.prog 23 := enters_mk Tryz.func23 (by kernel_rfl) rfl
theorem en52 : Enters Tryz.prog 52 := enters_mk Tryz.func52 (by kernel_rfl) rfl
theorem en53 : Enters Tryz.prog 53 := enters_mk Tryz.func53 (by kernel_rfl) rfl
end
open Go.RowKit
noncomputable instance decEx : DecidableEq Ex := fun _ _ => Classical.propDecidable _
noncomputable instance decCon : DecidableEq Con := fun _ _ => Classical.propDecidable _
theorem ex_eq {op op' : Nat} {n n' : Int} {ns ns' : List ByteArray} {al al' : List Ex} : Ex.mk op n ns al = Ex.mk op' n' ns' al' ↔ op = op' ∧ n = n' ∧ ns = ns' ∧ al = al' := by simp
theorem take_eq {α : Type} {l l' : List α} {i : Nat} {a b : α} (ha : l[i]? = some a) (hb : l'[i]? = some b) (h : l.take i = l'.take i) : (l.take (i + 1) = l'.take (i + 1)) ↔ a = b := by
  rw [take_snoc ha, take_snoc hb, h]
  simp
theorem ne_at {α : Type} {l l' : List α} {i : Nat} {a b : α} (ha : l[i]? = some a) (hb : l'[i]? = some b) (h : a ≠ b) : l ≠ l' := fun e => by
  subst e; rw [ha] at hb; cases hb; exact h rfl
theorem eqStrs_spec {X : PMap} {v v' : Value} {l l' : List ByteArray} (h : RowR strC X v l) (h' : RowR strC X v' l') (hl : l.length < 1000000000) : Spec Tryz.prog 52 [v, v'] X fun u _ => u = .bool (decide (l = l')) := by
  obtain ⟨A, cp, rfl⟩ := h.form
  obtain ⟨A', cp', rfl⟩ := h'.form
  by_cases hlen : l.length = l'.length
  case neg =>
    refine Spec.enter Tryz.func52 rfl Tryz.ntmps52 rfl ?_
    intro w0 hw0
    refine T.seq <| T.region <| SL.as rfl <| SL.nil <| T.seq <| T.seq <| T.region <| SL.mv rfl <| SL.v (op_lenS Tryz.underlying37 rfl) <| SL.mv rfl <| SL.v (op_lenS Tryz.underlying37 rfl) <| SL.v (op_neqT rfl rfl (by omega)) ?_
    refine SL.nil <| T.condT rfl <| T.seq <| T.region <| SL.as rfl <| SL.nil <| T.ret1 rfl (ResIs.tmp rfl) ?_
    rw [decide_eq_false fun e => hlen (by rw [e])]
  refine Spec.enter Tryz.func52 rfl Tryz.ntmps52 rfl ?_
  intro w0 hw0
  refine T.seq <| T.region <| SL.as rfl <| SL.nil <| T.seq <| T.seq <| T.region <| SL.mv rfl <| SL.v (op_lenS Tryz.underlying37 rfl) <| SL.mv rfl <| SL.v (op_lenS Tryz.underlying37 rfl) <| SL.v (op_neqF rfl rfl (by omega)) ?_
  refine SL.nil <| T.condF rfl <| T.skip <| T.seq <| T.seq <| T.region <| SL.mv rfl <| SL.v (op_lenS Tryz.underlying37 rfl) <| SL.v (op_move (v := .int .i64 ((0 : Nat) : Int)) rfl) <| SL.nil <| T.block <| T.loopW (fun m env own X' => ∃ i : Nat, m = l.length - i ∧ i ≤ l.length ∧ X.le X' ∧ l.take i = l'.take i ∧ env = [(0, .slice A l.length cp), (1, .slice A' l'.length cp'), (12, .int .i64 (l.length : Int)), (13, .int .i64 (i : Int))] ∧ own = []) l.length ⟨0, by simp, by omega, PMap.le_refl _, by simp, rfl, rfl⟩ (by repeat (first | exact Sub.nil | refine Sub.cons rfl ?_)) ?_
  rintro m _ _ X1 ⟨i, rfl, hi, hX1, heq, rfl, rfl⟩
  rcases Nat.lt_or_ge i l.length with hil | hil
  · obtain ⟨x, hx⟩ : ∃ x, l[i]? = some x := ⟨_, List.getElem?_eq_getElem hil⟩
    obtain ⟨y, hy⟩ : ∃ y, l'[i]? = some y := ⟨_, List.getElem?_eq_getElem (by omega)⟩
    obtain ⟨b, pre, rfl, hB⟩ := h.blk (by omega)
    obtain ⟨b', pre', rfl, hB'⟩ := h'.blk (by omega)
    refine T.seq <| T.region <| SL.v (op_lssT rfl rfl (by omega)) ?_
    refine SL.nil <| T.seq <| T.condT rfl <| T.skip <| T.seq <| T.block <| T.seq <| T.region <| SL.mv rfl <| SL.as rfl <| SL.nil <| T.seq <| T.draw (by kernel_rfl) 9 [.t 0, .t 1, .t 2, .t 3, .t 4, .t 5, .t 6, .t 7, .t 8] (by kernel_rfl) ?_
    refine SD.take rfl panicBody (op_move rfl) rfl rfl ?_
    refine SD.take rfl panicBody (op_move rfl) rfl rfl ?_
    refine SD.take rfl panicBody (op_indexN Tryz.underlying37 ty9 rfl rfl (by omega)) rfl rfl ?_
    refine SD.take rfl panicBody (op_loadX ty9 rfl (hB.mono hX1) (str_read hx (by omega))) rfl rfl ?_
    refine SD.take rfl panicBody (op_move rfl) rfl rfl ?_
    refine SD.take rfl panicBody (op_move rfl) rfl rfl ?_
    refine SD.take rfl panicBody (op_indexN Tryz.underlying37 ty9 rfl rfl (by omega)) rfl rfl ?_
    refine SD.take rfl panicBody (op_loadX ty9 rfl (hB'.mono hX1) (str_read hy (by omega))) rfl rfl ?_
    refine SD.take rfl panicBody (op_neqStrD rfl rfl) rfl rfl ?_
    refine SD.nil ?_
    show SL _ _ _ _ _ _ _ [] _ _ _
    refine SL.nil ?_
    by_cases hxy : x = y
    · rw [decide_eq_true hxy]
      refine T.condF rfl <| T.skip <| T.blk <| T.region <| SL.v (op_addN (q := 1) rfl rfl (by omega)) ?_
      refine SL.mv rfl <| SL.nil ?_
      exact T.backW (l.length - (i + 1)) (by omega) ⟨i + 1, rfl, by omega, hX1, (take_eq hx hy heq).2 hxy, rfl, rfl⟩ (by repeat (first | exact Sub.nil | refine Sub.cons rfl ?_))
    · rw [decide_eq_false hxy]
      refine T.condT rfl <| T.seq <| T.region <| SL.as rfl <| SL.nil <| T.ret1 rfl (ResIs.tmp rfl) ?_
      rw [decide_eq_false (ne_at hx hy hxy)]
  · obtain rfl : i = l.length := by omega
    rw [List.take_length, hlen, List.take_length] at heq
    refine T.seq <| T.region <| SL.v (op_lssF rfl rfl (by omega)) ?_
    refine SL.nil <| T.seq <| T.condF rfl ?_
    refine T.exit (T.exitCode (T.exitCut (T.exitBlk ?_)))
    refine T.seq <| T.region <| SL.as rfl <| SL.nil <| T.ret1 rfl (ResIs.tmp rfl) ?_
    rw [decide_eq_true heq]
theorem eqFn_spec {X : PMap} {va vb : Value} {al bl : List Ex} {rows rows' : List Row4} (ha : RowR rc4 X va rows) (hb : RowR rc4 X vb rows') (hla : rows.length = al.length) (hlb : rows'.length = bl.length) (hl : al.length < 1000000000)
    (hra : ∀ (i : Nat) (a : Ex) (r : Row4), al[i]? = some a → rows[i]? = some r → ExR .u8 X a r) (hrb : ∀ (i : Nat) (a : Ex) (r : Row4), bl[i]? = some a → rows'[i]? = some r → ExR .u8 X a r)
    (hf : ∀ {X' : PMap} {a b : Ex} {r r' : Row4}, a ∈ al → ExR .u8 X' a r → ExR .u8 X' b r' → Spec Tryz.prog 23 [.agg #[r.1, r.2.1, r.2.2.1, r.2.2.2], .agg #[r'.1, r'.2.1, r'.2.2.1, r'.2.2.2]] X' fun u _ => u = .bool (decide (a = b))) :
    Spec Tryz.prog 53 [va, vb, .func (.func 23) #[] #[]] X fun u _ => u = .bool (decide (al = bl)) := by
  obtain ⟨A, cp, rfl⟩ := ha.form
  obtain ⟨A', cp', rfl⟩ := hb.form
  by_cases hlen : al.length = bl.length
  case neg =>
    refine Spec.enter Tryz.func53 rfl Tryz.ntmps53 rfl ?_
    intro w0 hw0
    refine T.seq <| T.region <| SL.as rfl <| SL.nil <| T.seq <| T.seq <| T.region <| SL.mv rfl <| SL.v (op_lenS Tryz.underlying38 rfl) <| SL.mv rfl <| SL.v (op_lenS Tryz.underlying38 rfl) <| SL.v (op_neqT rfl rfl (by omega)) ?_
    refine SL.nil <| T.condT rfl <| T.seq <| T.region <| SL.as rfl <| SL.nil <| T.ret1 rfl (ResIs.tmp rfl) ?_
    rw [decide_eq_false fun e => hlen (by rw [e])]
  refine Spec.enter Tryz.func53 rfl Tryz.ntmps53 rfl ?_
  intro w0 hw0
  refine T.seq <| T.region <| SL.as rfl <| SL.nil <| T.seq <| T.seq <| T.region <| SL.mv rfl <| SL.v (op_lenS Tryz.underlying38 rfl) <| SL.mv rfl <| SL.v (op_lenS Tryz.underlying38 rfl) <| SL.v (op_neqF rfl rfl (by omega)) ?_
  refine SL.nil <| T.condF rfl <| T.skip <| T.seq <| T.seq <| T.region <| SL.mv rfl <| SL.v (op_lenS Tryz.underlying38 rfl) <| SL.v (op_move (v := .int .i64 ((0 : Nat) : Int)) rfl) <| SL.nil <| T.block <| T.loopW (fun m env own X' => ∃ i : Nat, m = rows.length - i ∧ i ≤ rows.length ∧ X.le X' ∧ al.take i = bl.take i ∧ env = [(1, .slice A' rows'.length cp'), (2, .func (.func 23) #[] #[]), (15, .slice A rows.length cp), (16, .int .i64 (rows.length : Int)), (17, .int .i64 (i : Int))] ∧ own = []) rows.length ⟨0, by simp, by omega, PMap.le_refl _, by simp, rfl, rfl⟩ (by repeat (first | exact Sub.nil | refine Sub.cons rfl ?_)) ?_
  rintro m _ _ X1 ⟨i, rfl, hi, hX1, heq, rfl, rfl⟩
  rcases Nat.lt_or_ge i rows.length with hil | hil
  · obtain ⟨r, hr⟩ : ∃ r, rows[i]? = some r := ⟨_, List.getElem?_eq_getElem hil⟩
    obtain ⟨r', hr'⟩ : ∃ r, rows'[i]? = some r := ⟨_, List.getElem?_eq_getElem (by omega)⟩
    obtain ⟨x, hx⟩ : ∃ x, al[i]? = some x := ⟨_, List.getElem?_eq_getElem (by omega)⟩
    obtain ⟨y, hy⟩ : ∃ y, bl[i]? = some y := ⟨_, List.getElem?_eq_getElem (by omega)⟩
    have h1 := (hra i x r hx hr).mono hX1
    have h2 := (hrb i y r' hy hr').mono hX1
    obtain ⟨b, pre, rfl, hB⟩ := ha.blk (by omega)
    obtain ⟨b', pre', rfl, hB'⟩ := hb.blk (by omega)
    have hcall := hf (List.mem_of_getElem? hx) h1 h2
    obtain ⟨_, _, _, _, _, _, _, _, rfl⟩ := h1.form
    obtain ⟨_, _, _, _, _, _, _, _, rfl⟩ := h2.form
    try simp only at hcall
    refine T.seq <| T.region <| SL.v (op_lssT rfl rfl (by omega)) ?_
    refine SL.nil <| T.seq <| T.condT rfl <| T.skip <| T.seq <| T.block <| T.seq <| T.region <| SL.mv rfl <| SL.v (op_indexN Tryz.underlying38 ty40 rfl rfl (by omega)) ?_
    refine SL.v (op_loadX ty40 rfl (hB.mono hX1) (row_read rc4_len hr (by omega))) ?_
    refine SL.w (op_alloc z40) ?_
    rintro _ _ _ ⟨B8, rfl, rfl, rfl⟩
    refine SL.as rfl <| SL.w (op_store ty40 rfl rfl (by repeat constructor) rfl rfl rfl) ?_
    rintro _ _ _ ⟨rfl, rfl⟩
    refine SL.nil <| T.seq <| T.region <| SL.mv rfl <| SL.mv rfl <| SL.v (op_indexN Tryz.underlying38 ty40 rfl rfl (by omega)) ?_
    refine SL.v (op_loadX ty40 rfl (hB'.mono hX1) (row_read rc4_len hr' (by omega))) ?_
    refine SL.w (op_alloc z40) ?_
    rintro _ _ _ ⟨B9, rfl, rfl, rfl⟩
    refine SL.w (op_store ty40 rfl rfl (by repeat constructor) rfl rfl rfl) ?_
    rintro _ _ _ ⟨rfl, rfl⟩
    refine SL.nil <| T.seq <| T.region <| SL.mv rfl <| SL.v (op_load ty40 rfl (by repeat constructor) rfl) ?_
    refine SL.v (op_load ty40 rfl (by repeat constructor) rfl) ?_
    refine SL.w (op_call en23 rfl (vs := [_, _]) rfl hcall) ?_
    rintro _ _ X2 ⟨rfl, hX2, rfl⟩
    refine SL.v (op_not rfl) <| SL.nil ?_
    by_cases hxy : x = y
    · rw [decide_eq_true hxy]
      refine T.condF rfl <| T.skip <| T.blk <| T.region <| SL.v (op_addN (q := 1) rfl rfl (by omega)) ?_
      refine SL.mv rfl <| SL.nil <| T.drop B8 (by repeat constructor) ?_
      refine T.drop B9 (by repeat constructor) ?_
      exact T.backW (rows.length - (i + 1)) (by omega) ⟨i + 1, rfl, by omega, hX1.trans' hX2, (take_eq hx hy heq).2 hxy, rfl, rfl⟩ (by repeat (first | exact Sub.nil | refine Sub.cons rfl ?_))
    · rw [decide_eq_false hxy]
      refine T.condT rfl <| T.seq <| T.region <| SL.as rfl <| SL.nil <| T.ret1 rfl (ResIs.tmp rfl) ?_
      rw [decide_eq_false (ne_at hx hy hxy)]
  · obtain rfl : i = rows.length := by omega
    rw [List.take_of_length_le (by omega), List.take_of_length_le (by omega)] at heq
    refine T.seq <| T.region <| SL.v (op_lssF rfl rfl (by omega)) ?_
    refine SL.nil <| T.seq <| T.condF rfl ?_
    refine T.exit (T.exitCode (T.exitCut (T.exitBlk ?_)))
    refine T.seq <| T.region <| SL.as rfl <| SL.nil <| T.ret1 rfl (ResIs.tmp rfl) ?_
    rw [decide_eq_true heq]
theorem eqE_spec (N : Nat) : ∀ {X : PMap} {a b : Ex} {r r' : Row4}, wtE a ≤ N → N < 100000000 → ExR .u8 X a r → ExR .u8 X b r' → Spec Tryz.prog 23 [.agg #[r.1, r.2.1, r.2.2.1, r.2.2.2], .agg #[r'.1, r'.2.1, r'.2.2.1, r'.2.2.2]] X fun u _ => u = .bool (decide (a = b)) := by
  induction N with
  | zero => intro X a b r r' h; cases a; rw [wtE] at h; omega
  | succ N ih =>
    intro X a b r r' hN hB h h'
    cases h with
    | @mk op n ns al vn va rows hn ha hl hr =>
    cases h' with
    | @mk op' n' ns' al' vn' va' rows' hn' ha' hl' hr' =>
    obtain ⟨Aa, ca, rfl⟩ := ha.form
    obtain ⟨An, cn, rfl⟩ := hn.form
    obtain ⟨Aa', ca', rfl⟩ := ha'.form
    obtain ⟨An', cn', rfl⟩ := hn'.form
    have hlen := wtL_len al
    have hnl := wtS_len ns
    rw [wtE] at hN
    by_cases h1 : op = op'
    case neg =>
      refine Spec.enter Tryz.func23 rfl Tryz.ntmps23 rfl ?_
      intro w0 hw0
      refine T.seq <| T.region <| SL.w (op_box rfl) ?_
      rintro _ _ _ ⟨B2, rfl, rfl, rfl⟩
      refine SL.w (op_box rfl) ?_
      rintro _ _ _ ⟨B3, rfl, rfl, rfl⟩
      refine SL.as rfl <| SL.nil <| T.seq <| T.region <| SL.v (op_fieldAddr fa40_0 rfl) <| SL.v (op_load ty36 rfl (by repeat constructor) rfl) ?_
      refine SL.v (op_fieldAddr fa40_0 rfl) <| SL.v (op_load ty36 rfl (by repeat constructor) rfl) ?_
      refine SL.v (op_eqlF rfl rfl (by omega)) ?_
      refine SL.mv rfl <| SL.skip rfl rfl ?_
      refine SL.skip rfl rfl ?_
      refine SL.skip rfl rfl ?_
      refine SL.skip rfl rfl ?_
      refine SL.skip rfl rfl ?_
      refine SL.v (op_pickF rfl rfl) <| SL.mv rfl <| SL.skip rfl rfl ?_
      refine SL.skip rfl rfl ?_
      refine SL.skip rfl rfl ?_
      refine SL.skip rfl rfl ?_
      refine SL.skip rfl rfl ?_
      refine SL.v (op_pickF rfl rfl) <| SL.mv rfl <| SL.skip rfl rfl ?_
      refine SL.skip rfl rfl ?_
      refine SL.skip rfl rfl ?_
      refine SL.skip rfl rfl ?_
      refine SL.skip rfl rfl ?_
      refine SL.v (op_pickF rfl rfl) <| SL.as rfl <| SL.nil <| T.ret1 rfl (ResIs.tmp rfl) ?_
      rw [decide_eq_false fun e => h1 (ex_eq.1 e).1]
    by_cases h2 : n = n'
    case neg =>
      refine Spec.enter Tryz.func23 rfl Tryz.ntmps23 rfl ?_
      intro w0 hw0
      refine T.seq <| T.region <| SL.w (op_box rfl) ?_
      rintro _ _ _ ⟨B2, rfl, rfl, rfl⟩
      refine SL.w (op_box rfl) ?_
      rintro _ _ _ ⟨B3, rfl, rfl, rfl⟩
      refine SL.as rfl <| SL.nil <| T.seq <| T.region <| SL.v (op_fieldAddr fa40_0 rfl) <| SL.v (op_load ty36 rfl (by repeat constructor) rfl) ?_
      refine SL.v (op_fieldAddr fa40_0 rfl) <| SL.v (op_load ty36 rfl (by repeat constructor) rfl) ?_
      refine SL.v (op_eqlT rfl rfl (by omega)) ?_
      refine SL.mv rfl <| SL.v (op_fieldAddr fa40_1 rfl) <| SL.v (op_load ty3 rfl (by repeat constructor) rfl) ?_
      refine SL.v (op_fieldAddr fa40_1 rfl) <| SL.v (op_load ty3 rfl (by repeat constructor) rfl) ?_
      refine SL.v (op_eqlF rfl rfl (by omega)) ?_
      refine SL.v (op_pickT rfl rfl) <| SL.mv rfl <| SL.skip rfl rfl ?_
      refine SL.skip rfl rfl ?_
      refine SL.skip rfl rfl ?_
      refine SL.skip rfl rfl ?_
      refine SL.skip rfl rfl ?_
      refine SL.v (op_pickF rfl rfl) <| SL.mv rfl <| SL.skip rfl rfl ?_
      refine SL.skip rfl rfl ?_
      refine SL.skip rfl rfl ?_
      refine SL.skip rfl rfl ?_
      refine SL.skip rfl rfl ?_
      refine SL.v (op_pickF rfl rfl) <| SL.as rfl <| SL.nil <| T.ret1 rfl (ResIs.tmp rfl) ?_
      rw [decide_eq_false fun e => h2 (ex_eq.1 e).2.1]
    by_cases h3 : ns = ns'
    case neg =>
      refine Spec.enter Tryz.func23 rfl Tryz.ntmps23 rfl ?_
      intro w0 hw0
      refine T.seq <| T.region <| SL.w (op_box rfl) ?_
      rintro _ _ _ ⟨B2, rfl, rfl, rfl⟩
      refine SL.w (op_box rfl) ?_
      rintro _ _ _ ⟨B3, rfl, rfl, rfl⟩
      refine SL.as rfl <| SL.nil <| T.seq <| T.region <| SL.v (op_fieldAddr fa40_0 rfl) <| SL.v (op_load ty36 rfl (by repeat constructor) rfl) ?_
      refine SL.v (op_fieldAddr fa40_0 rfl) <| SL.v (op_load ty36 rfl (by repeat constructor) rfl) ?_
      refine SL.v (op_eqlT rfl rfl (by omega)) ?_
      refine SL.mv rfl <| SL.v (op_fieldAddr fa40_1 rfl) <| SL.v (op_load ty3 rfl (by repeat constructor) rfl) ?_
      refine SL.v (op_fieldAddr fa40_1 rfl) <| SL.v (op_load ty3 rfl (by repeat constructor) rfl) ?_
      refine SL.v (op_eqlT rfl rfl (by omega)) ?_
      refine SL.v (op_pickT rfl rfl) <| SL.mv rfl <| SL.v (op_fieldAddr fa40_2 rfl) <| SL.v (op_load ty37 rfl (by repeat constructor) rfl) ?_
      refine SL.v (op_fieldAddr fa40_2 rfl) <| SL.v (op_load ty37 rfl (by repeat constructor) rfl) ?_
      refine SL.w (op_callF en52 (vs := [_, _]) rfl (eqStrs_spec hn hn' (by omega))) ?_
      rintro _ _ X1 ⟨rfl, hX1, rfl⟩
      rw [decide_eq_false h3]
      refine SL.v (op_pickT rfl rfl) <| SL.mv rfl <| SL.skip rfl rfl ?_
      refine SL.skip rfl rfl ?_
      refine SL.skip rfl rfl ?_
      refine SL.skip rfl rfl ?_
      refine SL.skip rfl rfl ?_
      refine SL.v (op_pickF rfl rfl) <| SL.as rfl <| SL.nil <| T.ret1 rfl (ResIs.tmp rfl) ?_
      rw [decide_eq_false fun e => h3 (ex_eq.1 e).2.2.1]
    refine Spec.enter Tryz.func23 rfl Tryz.ntmps23 rfl ?_
    intro w0 hw0
    refine T.seq <| T.region <| SL.w (op_box rfl) ?_
    rintro _ _ _ ⟨B2, rfl, rfl, rfl⟩
    refine SL.w (op_box rfl) ?_
    rintro _ _ _ ⟨B3, rfl, rfl, rfl⟩
    refine SL.as rfl <| SL.nil <| T.seq <| T.region <| SL.v (op_fieldAddr fa40_0 rfl) <| SL.v (op_load ty36 rfl (by repeat constructor) rfl) ?_
    refine SL.v (op_fieldAddr fa40_0 rfl) <| SL.v (op_load ty36 rfl (by repeat constructor) rfl) ?_
    refine SL.v (op_eqlT rfl rfl (by omega)) ?_
    refine SL.mv rfl <| SL.v (op_fieldAddr fa40_1 rfl) <| SL.v (op_load ty3 rfl (by repeat constructor) rfl) ?_
    refine SL.v (op_fieldAddr fa40_1 rfl) <| SL.v (op_load ty3 rfl (by repeat constructor) rfl) ?_
    refine SL.v (op_eqlT rfl rfl (by omega)) ?_
    refine SL.v (op_pickT rfl rfl) <| SL.mv rfl <| SL.v (op_fieldAddr fa40_2 rfl) <| SL.v (op_load ty37 rfl (by repeat constructor) rfl) ?_
    refine SL.v (op_fieldAddr fa40_2 rfl) <| SL.v (op_load ty37 rfl (by repeat constructor) rfl) ?_
    refine SL.w (op_callF en52 (vs := [_, _]) rfl (eqStrs_spec hn hn' (by omega))) ?_
    rintro _ _ X1 ⟨rfl, hX1, rfl⟩
    rw [decide_eq_true h3]
    refine SL.v (op_pickT rfl rfl) <| SL.mv rfl <| SL.v (op_fieldAddr fa40_3 rfl) <| SL.v (op_load ty38 rfl (by repeat constructor) rfl) ?_
    refine SL.v (op_fieldAddr fa40_3 rfl) <| SL.v (op_load ty38 rfl (by repeat constructor) rfl) ?_
    refine SL.w (op_callF en53 (vs := [_, _, _]) rfl (eqFn_spec (ha.mono hX1) (ha'.mono hX1) hl hl' (by omega) (fun i a r x y => (hr i a r x y).mono hX1) (fun i a r x y => (hr' i a r x y).mono hX1) (fun hm h1 h2 => ih (by have := wtL_mem hm; omega) (by omega) h1 h2))) ?_
    rintro _ _ X2 ⟨rfl, hX2, rfl⟩
    refine SL.v (op_pickT rfl rfl) <| SL.as rfl <| SL.nil <| T.ret1 rfl (ResIs.tmp rfl) ?_
    congr 1
    exact decide_eq_decide.2 (by rw [ex_eq]; simp [h1, h2, h3])
theorem con_eq {e e' : Bool} {k k' : Nat} {s s' : ByteArray} {x x' : Ex} : Con.mk e k s x = Con.mk e' k' s' x' ↔ e = e' ∧ k = k' ∧ s = s' ∧ x = x' := by simp
theorem op_eqlBb {P : Program} {n : NM} {own : Own} {X : PMap} {env : Env} {t t' : TypeId} {x y : Operand} {b c : Bool} (ht : P.underlying t = some .bool) (hx : eev env x = some (.bool b)) (hy : eev env y = some (.bool c)) : OpY P n env own X (.binOp .eql t x y t') (.bool (b == c)) := op_eqlB ht hx hy
theorem eqC1_spec {X : PMap} {c d : Con} {r r' : Row7} (h : ConR X c r) (h' : ConR X d r') (hw : wtE c.ex < 900000) : Spec Tryz.prog 66 [.agg (rc7 r).toArray, .agg (rc7 r').toArray] X fun u _ => u = .bool (decide (c = d)) := by
  obtain ⟨e, k, s, x⟩ := c
  obtain ⟨e', k', s', x'⟩ := d
  have hex := h.2.2.2
  have hex' := h'.2.2.2
  obtain ⟨o0, n0, a0, b0, l0, c0, m0, d0, rfl⟩ := h.form
  obtain ⟨o1, n1, a1, b1, l1, c1, m1, d1, rfl⟩ := h'.form
  simp only at hex hex' hw
  have hcall := eqE_spec _ (Nat.le_refl _) (by omega) hex hex'
  try simp only at hcall
  have e0 : (rc7 (e, k, s, .int .u8 (o0 : Int), .int .i64 n0, .slice a0 l0 c0, .slice b0 m0 d0)).toArray = #[.bool e, .int .u8 (k : Int), .string s, .int .u8 (o0 : Int), .int .i64 n0, .slice a0 l0 c0, .slice b0 m0 d0] := rfl
  have e1 : (rc7 (e', k', s', .int .u8 (o1 : Int), .int .i64 n1, .slice a1 l1 c1, .slice b1 m1 d1)).toArray = #[.bool e', .int .u8 (k' : Int), .string s', .int .u8 (o1 : Int), .int .i64 n1, .slice a1 l1 c1, .slice b1 m1 d1] := rfl
  rw [e0, e1]
  by_cases h1 : e = e'
  case neg =>
    have hb : (e == e') = false := by simpa using h1
    refine Spec.enter Tryz.func66 rfl Tryz.ntmps66 rfl ?_
    intro w0 hw0
    refine T.seq <| T.region <| SL.w (op_box rfl) ?_
    rintro _ _ _ ⟨B2, rfl, rfl, rfl⟩
    refine SL.w (op_box rfl) ?_
    rintro _ _ _ ⟨B3, rfl, rfl, rfl⟩
    refine SL.as rfl <| SL.nil <| T.seq <| T.region <| SL.v (op_fieldAddr fa82_0 rfl) <| SL.v (op_load ty4 rfl (by repeat constructor) rfl) ?_
    refine SL.v (op_fieldAddr fa82_0 rfl) <| SL.v (op_load ty4 rfl (by repeat constructor) rfl) ?_
    refine SL.v (op_eqlBb Tryz.underlying4 rfl rfl) ?_
    rw [hb]
    refine SL.mv rfl <| SL.skip rfl rfl ?_
    refine SL.skip rfl rfl ?_
    refine SL.skip rfl rfl ?_
    refine SL.skip rfl rfl ?_
    refine SL.skip rfl rfl ?_
    refine SL.v (op_pickF rfl rfl) <| SL.mv rfl <| SL.skip rfl rfl ?_
    refine SL.skip rfl rfl ?_
    refine SL.skip rfl rfl ?_
    refine SL.skip rfl rfl ?_
    refine SL.skip rfl rfl ?_
    refine SL.v (op_pickF rfl rfl) <| SL.mv rfl <| SL.skip rfl rfl ?_
    refine SL.skip rfl rfl ?_
    refine SL.skip rfl rfl ?_
    refine SL.skip rfl rfl ?_
    refine SL.skip rfl rfl ?_
    refine SL.v (op_pickF rfl rfl) <| SL.as rfl <| SL.nil <| T.ret1 rfl (ResIs.tmp rfl) ?_
    rw [decide_eq_false fun e => h1 (con_eq.1 e).1]
  subst h1
  by_cases h2 : k = k'
  case neg =>
    refine Spec.enter Tryz.func66 rfl Tryz.ntmps66 rfl ?_
    intro w0 hw0
    refine T.seq <| T.region <| SL.w (op_box rfl) ?_
    rintro _ _ _ ⟨B2, rfl, rfl, rfl⟩
    refine SL.w (op_box rfl) ?_
    rintro _ _ _ ⟨B3, rfl, rfl, rfl⟩
    refine SL.as rfl <| SL.nil <| T.seq <| T.region <| SL.v (op_fieldAddr fa82_0 rfl) <| SL.v (op_load ty4 rfl (by repeat constructor) rfl) ?_
    refine SL.v (op_fieldAddr fa82_0 rfl) <| SL.v (op_load ty4 rfl (by repeat constructor) rfl) ?_
    refine SL.v (op_eqlBb Tryz.underlying4 rfl rfl) ?_
    rw [show (e == e) = true by simp]
    refine SL.mv rfl <| SL.v (op_fieldAddr fa82_1 rfl) <| SL.v (op_load ty80 rfl (by repeat constructor) rfl) ?_
    refine SL.v (op_fieldAddr fa82_1 rfl) <| SL.v (op_load ty80 rfl (by repeat constructor) rfl) ?_
    refine SL.v (op_eqlF rfl rfl (by omega)) ?_
    refine SL.v (op_pickT rfl rfl) <| SL.mv rfl <| SL.skip rfl rfl ?_
    refine SL.skip rfl rfl ?_
    refine SL.skip rfl rfl ?_
    refine SL.skip rfl rfl ?_
    refine SL.skip rfl rfl ?_
    refine SL.v (op_pickF rfl rfl) <| SL.mv rfl <| SL.skip rfl rfl ?_
    refine SL.skip rfl rfl ?_
    refine SL.skip rfl rfl ?_
    refine SL.skip rfl rfl ?_
    refine SL.skip rfl rfl ?_
    refine SL.v (op_pickF rfl rfl) <| SL.as rfl <| SL.nil <| T.ret1 rfl (ResIs.tmp rfl) ?_
    rw [decide_eq_false fun e => h2 (con_eq.1 e).2.1]
  by_cases h3 : s = s'
  case neg =>
    refine Spec.enter Tryz.func66 rfl Tryz.ntmps66 rfl ?_
    intro w0 hw0
    refine T.seq <| T.region <| SL.w (op_box rfl) ?_
    rintro _ _ _ ⟨B2, rfl, rfl, rfl⟩
    refine SL.w (op_box rfl) ?_
    rintro _ _ _ ⟨B3, rfl, rfl, rfl⟩
    refine SL.as rfl <| SL.nil <| T.seq <| T.region <| SL.v (op_fieldAddr fa82_0 rfl) <| SL.v (op_load ty4 rfl (by repeat constructor) rfl) ?_
    refine SL.v (op_fieldAddr fa82_0 rfl) <| SL.v (op_load ty4 rfl (by repeat constructor) rfl) ?_
    refine SL.v (op_eqlBb Tryz.underlying4 rfl rfl) ?_
    rw [show (e == e) = true by simp]
    refine SL.mv rfl <| SL.v (op_fieldAddr fa82_1 rfl) <| SL.v (op_load ty80 rfl (by repeat constructor) rfl) ?_
    refine SL.v (op_fieldAddr fa82_1 rfl) <| SL.v (op_load ty80 rfl (by repeat constructor) rfl) ?_
    refine SL.v (op_eqlT rfl rfl (by omega)) ?_
    refine SL.v (op_pickT rfl rfl) <| SL.mv rfl <| SL.v (op_fieldAddr fa82_2 rfl) <| SL.v (op_load ty9 rfl (by repeat constructor) rfl) ?_
    refine SL.v (op_fieldAddr fa82_2 rfl) <| SL.v (op_load ty9 rfl (by repeat constructor) rfl) ?_
    refine SL.v (op_eqlStrD rfl rfl) ?_
    rw [decide_eq_false h3]
    refine SL.v (op_pickT rfl rfl) <| SL.mv rfl <| SL.skip rfl rfl ?_
    refine SL.skip rfl rfl ?_
    refine SL.skip rfl rfl ?_
    refine SL.skip rfl rfl ?_
    refine SL.skip rfl rfl ?_
    refine SL.v (op_pickF rfl rfl) <| SL.as rfl <| SL.nil <| T.ret1 rfl (ResIs.tmp rfl) ?_
    rw [decide_eq_false fun e => h3 (con_eq.1 e).2.2.1]
  refine Spec.enter Tryz.func66 rfl Tryz.ntmps66 rfl ?_
  intro w0 hw0
  refine T.seq <| T.region <| SL.w (op_box rfl) ?_
  rintro _ _ _ ⟨B2, rfl, rfl, rfl⟩
  refine SL.w (op_box rfl) ?_
  rintro _ _ _ ⟨B3, rfl, rfl, rfl⟩
  refine SL.as rfl <| SL.nil <| T.seq <| T.region <| SL.v (op_fieldAddr fa82_0 rfl) <| SL.v (op_load ty4 rfl (by repeat constructor) rfl) ?_
  refine SL.v (op_fieldAddr fa82_0 rfl) <| SL.v (op_load ty4 rfl (by repeat constructor) rfl) ?_
  refine SL.v (op_eqlBb Tryz.underlying4 rfl rfl) ?_
  rw [show (e == e) = true by simp]
  refine SL.mv rfl <| SL.v (op_fieldAddr fa82_1 rfl) <| SL.v (op_load ty80 rfl (by repeat constructor) rfl) ?_
  refine SL.v (op_fieldAddr fa82_1 rfl) <| SL.v (op_load ty80 rfl (by repeat constructor) rfl) ?_
  refine SL.v (op_eqlT rfl rfl (by omega)) ?_
  refine SL.v (op_pickT rfl rfl) <| SL.mv rfl <| SL.v (op_fieldAddr fa82_2 rfl) <| SL.v (op_load ty9 rfl (by repeat constructor) rfl) ?_
  refine SL.v (op_fieldAddr fa82_2 rfl) <| SL.v (op_load ty9 rfl (by repeat constructor) rfl) ?_
  refine SL.v (op_eqlStrD rfl rfl) ?_
  rw [decide_eq_true h3]
  refine SL.v (op_pickT rfl rfl) <| SL.mv rfl <| SL.v (op_fieldAddr fa82_3 rfl) <| SL.v (op_load ty40 rfl (by repeat constructor) rfl) ?_
  refine SL.v (op_fieldAddr fa82_3 rfl) <| SL.v (op_load ty40 rfl (by repeat constructor) rfl) ?_
  refine SL.w (op_callF en23 (vs := [_, _]) rfl (hcall)) ?_
  rintro _ _ X2 ⟨rfl, hX2, rfl⟩
  refine SL.v (op_pickT rfl rfl) <| SL.as rfl <| SL.nil <| T.ret1 rfl (ResIs.tmp rfl) ?_
  congr 1
  exact decide_eq_decide.2 (by rw [con_eq]; simp [h2, h3])
end Go.Proofs.YtnabbnhefjfegaaGreatDoor
namespace Go.Proofs.YtnabbnhefjfegaaGreatDoor
open Go.RowKit
end Go.Proofs.YtnabbnhefjfegaaGreatDoor
namespace Go.Proofs.YtnabbnhefjfegaaGreatDoor
open Go.RowKit
end Go.Proofs.YtnabbnhefjfegaaGreatDoor
namespace Go.Proofs.YtnabbnhefjfegaaGreatDoor
open Go.RowKit
/-- Ascending, each one once. -/
def StrS (l : List ByteArray) : Prop := l.Pairwise fun a b => ltS a b = true
theorem StrS.nodup {l : List ByteArray} (h : StrS l) : l.Nodup := h.imp fun {a b} hab e => by subst e; rw [lt_irr] at hab; cases hab
theorem StrS.same : ∀ {l m : List ByteArray}, StrS l → StrS m → (∀ x, x ∈ l ↔ x ∈ m) → l = m
  | [], [], _, _, _ => rfl
  | [], b :: m, _, _, h => by have := (h b).2 (by simp); cases this
  | a :: l, [], _, _, h => by have := (h a).1 (by simp); cases this
  | a :: l, b :: m, h1, h2, h => by
    obtain ⟨g1, g2⟩ := List.pairwise_cons.1 h1
    obtain ⟨k1, k2⟩ := List.pairwise_cons.1 h2
    have hab : a = b := by
      rcases List.mem_cons.1 ((h a).1 (by simp)) with e | hm
      · exact e
      · rcases List.mem_cons.1 ((h b).2 (by simp)) with e | hl
        · exact e.symm
        · have := lt_asym (k1 a hm)
          rw [g1 b hl] at this; cases this
    subst hab
    rw [StrS.same g2 k2 fun x => ?_]
    have hx := h x
    constructor
    · intro hxl
      rcases List.mem_cons.1 (hx.1 (by simp [hxl])) with e | hm
      · subst e; have := g1 x hxl; rw [lt_irr] at this; cases this
      · exact hm
    · intro hxm
      rcases List.mem_cons.1 (hx.2 (by simp [hxm])) with e | hm
      · subst e; have := k1 x hxm; rw [lt_irr] at this; cases this
      · exact hm
end Go.Proofs.YtnabbnhefjfegaaGreatDoor
namespace Go.Proofs.YtnabbnhefjfegaaGreatDoor
open Go.RowKit
theorem RowR.lent {α : Type} {rc : α → List Value} {X1 : PMap} {e : TypeId} {size : Nat} {v : Value} {rs : List α} {G : Own} (hg : GrowS e size v rs.length (rs.map rc).flatten G) (h2 : ∀ p ∈ G, Blk X1 p.b p.cs) : RowR rc X1 v rs := by
  rcases hg with ⟨h0, _, rfl, _⟩ | ⟨b, cap, rfl, rfl, h3, h4, _⟩
  · exact .inl ⟨List.eq_nil_of_length_eq_zero h0, _, _, rfl⟩
  · rcases Nat.eq_zero_or_pos rs.length with h0 | h0
    · exact .inl ⟨List.eq_nil_of_length_eq_zero h0, _, _, by rw [h0]⟩
    · exact .inr ⟨h0, b, cap, [], rfl, h2 ⟨b, _, e, cap * size⟩ (by simp), h3, h4⟩
end Go.Proofs.YtnabbnhefjfegaaGreatDoor
namespace Go.Proofs.YtnabbnhefjfegaaGreatDoor
open Go.RowKit
end Go.Proofs.YtnabbnhefjfegaaGreatDoor
namespace Go.Proofs.YtnabbnhefjfegaaGreatDoor
section
set_option maxRecDepth 100000
theorem en65 : Enters Tryz.prog 65 := enters_mk Tryz.func65 (by kernel_rfl) rfl
theorem en66 : Enters Tryz.prog 66 := enters_mk Tryz.func66 (by kernel_rfl) rfl
end
open Go.RowKit
theorem eqFnC_spec {X : PMap} {va vb : Value} {cs ds : List Con} (ha : ConsR X va cs) (hb : ConsR X vb ds) (hl : cs.length < 1000000000) (hw : ∀ c ∈ cs, wtE c.ex < 900000) :
    Spec Tryz.prog 65 [va, vb, .func (.func 66) #[] #[]] X fun u _ => u = .bool (decide (cs = ds)) := by
  obtain ⟨rows, ha, hla, hra⟩ := ha
  obtain ⟨rows', hb, hlb, hrb⟩ := hb
  obtain ⟨A, cp, rfl⟩ := ha.form
  obtain ⟨A', cp', rfl⟩ := hb.form
  by_cases hlen : cs.length = ds.length
  case neg =>
    refine Spec.enter Tryz.func65 rfl Tryz.ntmps65 rfl ?_
    intro w0 hw0
    refine T.seq <| T.region <| SL.as rfl <| SL.nil <| T.seq <| T.seq <| T.region <| SL.mv rfl <| SL.v (op_lenS Tryz.underlying24 rfl) <| SL.mv rfl <| SL.v (op_lenS Tryz.underlying24 rfl) <| SL.v (op_neqT rfl rfl (by omega)) ?_
    refine SL.nil <| T.condT rfl <| T.seq <| T.region <| SL.as rfl <| SL.nil <| T.ret1 rfl (ResIs.tmp rfl) ?_
    rw [decide_eq_false fun e => hlen (by rw [e])]
  refine Spec.enter Tryz.func65 rfl Tryz.ntmps65 rfl ?_
  intro w0 hw0
  refine T.seq <| T.region <| SL.as rfl <| SL.nil <| T.seq <| T.seq <| T.region <| SL.mv rfl <| SL.v (op_lenS Tryz.underlying24 rfl) <| SL.mv rfl <| SL.v (op_lenS Tryz.underlying24 rfl) <| SL.v (op_neqF rfl rfl (by omega)) ?_
  refine SL.nil <| T.condF rfl <| T.skip <| T.seq <| T.seq <| T.region <| SL.mv rfl <| SL.v (op_lenS Tryz.underlying24 rfl) <| SL.v (op_move (v := .int .i64 ((0 : Nat) : Int)) rfl) <| SL.nil <| T.block <| T.loopW (fun m env own X' => ∃ i : Nat, m = rows.length - i ∧ i ≤ rows.length ∧ X.le X' ∧ cs.take i = ds.take i ∧ env = [(1, .slice A' rows'.length cp'), (2, .func (.func 66) #[] #[]), (15, .slice A rows.length cp), (16, .int .i64 (rows.length : Int)), (17, .int .i64 (i : Int))] ∧ own = []) rows.length ⟨0, by simp, by omega, PMap.le_refl _, by simp, rfl, rfl⟩ (by repeat (first | exact Sub.nil | refine Sub.cons rfl ?_)) ?_
  rintro m _ _ X1 ⟨i, rfl, hi, hX1, heq, rfl, rfl⟩
  rcases Nat.lt_or_ge i rows.length with hil | hil
  · obtain ⟨r, hr⟩ : ∃ r, rows[i]? = some r := ⟨_, List.getElem?_eq_getElem hil⟩
    obtain ⟨r', hr'⟩ : ∃ r, rows'[i]? = some r := ⟨_, List.getElem?_eq_getElem (by omega)⟩
    obtain ⟨x, hx⟩ : ∃ x, cs[i]? = some x := ⟨_, List.getElem?_eq_getElem (by omega)⟩
    obtain ⟨y, hy⟩ : ∃ y, ds[i]? = some y := ⟨_, List.getElem?_eq_getElem (by omega)⟩
    have h1 := (hra i x r hx hr).mono hX1
    have h2 := (hrb i y r' hy hr').mono hX1
    obtain ⟨b, pre, rfl, hB⟩ := ha.blk (by omega)
    obtain ⟨b', pre', rfl, hB'⟩ := hb.blk (by omega)
    have hcall := eqC1_spec h1 h2 (hw x (List.mem_of_getElem? hx))
    obtain ⟨_, _, _, _, _, _, _, _, rfl⟩ := h1.form
    obtain ⟨_, _, _, _, _, _, _, _, rfl⟩ := h2.form
    try simp only [rc7] at hcall
    refine T.seq <| T.region <| SL.v (op_lssT rfl rfl (by omega)) ?_
    refine SL.nil <| T.seq <| T.condT rfl <| T.skip <| T.seq <| T.block <| T.seq <| T.region <| SL.mv rfl <| SL.v (op_indexN Tryz.underlying24 ty82 rfl rfl (by omega)) ?_
    refine SL.v (op_loadX ty82 rfl (hB.mono hX1) (row_read rc7_len hr (by omega))) ?_
    refine SL.w (op_alloc z82) ?_
    rintro _ _ _ ⟨B8, rfl, rfl, rfl⟩
    refine SL.as rfl <| SL.w (op_store ty82 rfl rfl (by repeat constructor) rfl rfl rfl) ?_
    rintro _ _ _ ⟨rfl, rfl⟩
    refine SL.nil <| T.seq <| T.region <| SL.mv rfl <| SL.mv rfl <| SL.v (op_indexN Tryz.underlying24 ty82 rfl rfl (by omega)) ?_
    refine SL.v (op_loadX ty82 rfl (hB'.mono hX1) (row_read rc7_len hr' (by omega))) ?_
    refine SL.w (op_alloc z82) ?_
    rintro _ _ _ ⟨B9, rfl, rfl, rfl⟩
    refine SL.w (op_store ty82 rfl rfl (by repeat constructor) rfl rfl rfl) ?_
    rintro _ _ _ ⟨rfl, rfl⟩
    refine SL.nil <| T.seq <| T.region <| SL.mv rfl <| SL.v (op_load ty82 rfl (by repeat constructor) rfl) ?_
    refine SL.v (op_load ty82 rfl (by repeat constructor) rfl) ?_
    refine SL.w (op_call en66 rfl (vs := [_, _]) rfl hcall) ?_
    rintro _ _ X2 ⟨rfl, hX2, rfl⟩
    refine SL.v (op_not rfl) <| SL.nil ?_
    by_cases hxy : x = y
    · rw [decide_eq_true hxy]
      refine T.condF rfl <| T.skip <| T.blk <| T.region <| SL.v (op_addN (q := 1) rfl rfl (by omega)) ?_
      refine SL.mv rfl <| SL.nil <| T.drop B8 (by repeat constructor) ?_
      refine T.drop B9 (by repeat constructor) ?_
      exact T.backW (rows.length - (i + 1)) (by omega) ⟨i + 1, rfl, by omega, hX1.trans' hX2, (take_eq hx hy heq).2 hxy, rfl, rfl⟩ (by repeat (first | exact Sub.nil | refine Sub.cons rfl ?_))
    · rw [decide_eq_false hxy]
      refine T.condT rfl <| T.seq <| T.region <| SL.as rfl <| SL.nil <| T.ret1 rfl (ResIs.tmp rfl) ?_
      rw [decide_eq_false (ne_at hx hy hxy)]
  · obtain rfl : i = rows.length := by omega
    rw [List.take_of_length_le (by omega), List.take_of_length_le (by omega)] at heq
    refine T.seq <| T.region <| SL.v (op_lssF rfl rfl (by omega)) ?_
    refine SL.nil <| T.seq <| T.condF rfl ?_
    refine T.exit (T.exitCode (T.exitCut (T.exitBlk ?_)))
    refine T.seq <| T.region <| SL.as rfl <| SL.nil <| T.ret1 rfl (ResIs.tmp rfl) ?_
    rw [decide_eq_true heq]
theorem conEq_spec {X : PMap} {va vb : Value} {cs ds : List Con} (ha : ConsR X va cs) (hb : ConsR X vb ds) (hl : cs.length < 1000000000) (hw : ∀ c ∈ cs, wtE c.ex < 900000) :
    Spec Tryz.prog 31 [va, vb] X fun u _ => u = .bool (decide (cs = ds)) := by
  obtain ⟨A, cp, rfl⟩ := ha.form
  obtain ⟨A', cp', rfl⟩ := hb.form
  refine Spec.enter Tryz.func31 rfl Tryz.ntmps31 rfl ?_
  intro w0 hw0
  refine T.seq <| T.region <| SL.as rfl <| SL.nil <| T.seq <| T.region <| SL.mv rfl <| SL.mv rfl <| SL.w (op_callF en65 (vs := [_, _, _]) rfl (eqFnC_spec ha hb hl hw)) ?_
  rintro _ _ X2 ⟨rfl, hX2, rfl⟩
  refine SL.as rfl <| SL.nil <| T.ret1 rfl (ResIs.tmp rfl) ?_
  rfl
theorem ConsRi.form {X : PMap} {v : Value} {cs : List Con} (h : ConsRi X v cs) : ∃ A cp, v = .slice A cs.length cp := by
  obtain ⟨rows, h, hl, _⟩ := h
  obtain ⟨A, c, rfl⟩ := h.form
  exact ⟨A, c, by rw [hl]⟩
end Go.Proofs.YtnabbnhefjfegaaGreatDoor
namespace Go.Proofs.YtnabbnhefjfegaaGreatDoor
section
set_option maxRecDepth 100000
theorem en12 : Enters Tryz.prog 12 := enters_mk Tryz.func12 (by kernel_rfl) rfl
theorem en31 : Enters Tryz.prog 31 := enters_mk Tryz.func31 (by kernel_rfl) rfl
end
open Go.RowKit
end Go.Proofs.YtnabbnhefjfegaaGreatDoor
namespace Go.Proofs.YtnabbnhefjfegaaGreatDoor
section
set_option maxRecDepth 100000
theorem en19 : Enters Tryz.prog 19 := enters_mk Tryz.func19 (by kernel_rfl) rfl
end
open Go.RowKit
def gaps5 : List ByteArray := [⟨#[32]⟩, ⟨#[10]⟩, ⟨#[9, 32]⟩, ⟨#[32, 35, 32, 97, 32, 99, 111, 109, 109, 101, 110, 116, 58, 32, 111, 114, 10]⟩, ⟨#[13, 10]⟩]
theorem gaps_at (g : Nat) : gaps5[g % 5]? = some ⟨(gapB g).toArray⟩ := by
  have h : g % 5 < 5 := Nat.mod_lt _ (by omega)
  unfold gapB
  match g % 5, h with
  | 0, _ => rfl
  | 1, _ => rfl
  | 2, _ => rfl
  | 3, _ => rfl
  | 4, _ => rfl
theorem gap_len (g : Nat) : (gapB g).length ≤ 17 := by
  unfold gapB
  split <;> decide
theorem scanG_txt (N : Nat) : ∀ (f : Nat) (l : List UInt8) (ts : List Tk), scanG N f l = .ok ts → ∀ t ∈ ts, t.text.size ≤ l.length
  | 0, l, ts, h => by cases h
  | f + 1, l, ts, h => by
    rw [scanG] at h
    have hs := skip_len false l
    cases hk : skipL false l with
    | nil =>
      rw [hk] at h
      simp only [Except.ok.injEq] at h
      intro t ht
      rw [← h] at ht
      rw [List.mem_singleton.1 ht]
      exact Nat.zero_le _
    | cons b r =>
      rw [hk] at h hs
      simp only at h
      cases ht : tok1 (b :: r) with
      | none => rw [ht] at h; cases h
      | some x =>
        obtain ⟨k, t, n⟩ := x
        rw [ht] at h
        simp only at h
        have hl := tok1_len ht
        cases hr : scanG N f ((b :: r).drop t.length) with
        | error o => rw [hr] at h; cases h
        | ok us =>
          rw [hr] at h
          simp only [consR, Except.ok.injEq] at h
          intro u hu
          rw [← h] at hu
          rcases List.mem_cons.1 hu with rfl | hu
          · show t.toArray.size ≤ _
            rw [List.size_toArray]; omega
          · have := scanG_txt N f _ us hr u hu
            rw [List.length_drop] at this
            omega
theorem reT_len (gs : List Nat) (M : Nat) : ∀ (l : List Tk) (i : Nat), (∀ t ∈ l, t.text.size ≤ M) → (reT gs i l).length ≤ l.length * (M + 17)
  | [], i, _ => by simp [reT]
  | t :: l, i, h => by
    have h1 := reT_len gs M l (i + 1) fun u hu => h u (by simp [hu])
    have h2 := h t (by simp)
    have h3 := gap_len (gapN gs i)
    rw [reT, List.length_append, List.length_append, bl_size, List.length_cons, Nat.succ_mul]
    omega
theorem nil_cons {X : PMap} : ConsR X (.slice none 0 0) [] := ⟨[], RowR.nil, rfl, fun _ _ _ h => by cases h⟩
theorem str_app (a b : List UInt8) : (⟨a.toArray⟩ : ByteArray) ++ ⟨b.toArray⟩ = ⟨(a ++ b).toArray⟩ := by
  apply bl_inj
  rw [bl_app]
theorem pBlanks_spec {X : PMap} (hP : Pow10 X) {s : ByteArray} {vg : Value} {gs : List Nat} (hg : RowR u8C X vg gs) (hok : ∀ b ∈ gs, b < 256) : Spec Tryz.prog 8 [.string s, vg] X fun u _ => u = .bool true := by
  have hs := short_size s
  obtain ⟨Ag, cg, rfl⟩ := hg.form
  refine Spec.enter Tryz.func8 rfl Tryz.ntmps8 rfl ?_
  intro w0 hw0
  refine T.seq <| T.region <| SL.as rfl <| SL.nil <| T.seq <| T.seq <| T.region <| SL.w (op_callF en12 (vs := []) rfl (awake17_spec hP)) ?_
  rintro _ _ X0 ⟨rfl, hX0, rfl⟩
  refine SL.v (op_not rfl) <| SL.nil <| T.condF rfl <| T.skip <| T.seq <| T.region <| SL.mv rfl <| SL.w (op_callF en19 (vs := [_]) rfl (short_spec)) ?_
  rintro _ _ X1 ⟨rfl, hX1, rfl⟩
  generalize s.extract 0 (min s.size 2000) = t at hs ⊢
  have hP1 := (hP.mono hX0).mono hX1
  refine SL.as rfl <| SL.nil <| T.seq <| T.region <| SL.mv rfl <| SL.w (op_callF en32 (vs := [_]) rfl (scan_spec (by omega))) ?_
  rintro u2 _ X2 ⟨rfl, hX2, hu2⟩
  rw [if_neg (by omega)] at hu2
  have hP2 := hP1.mono hX2
  cases hsc : scanL t.size (bl t) with
  | error o =>
    rw [hsc] at hu2
    simp only at hu2
    subst hu2
    have hm : parseM t = .error (o, 8) := by rw [parseM, begM, if_neg (by omega), hsc]
    refine SL.mv rfl <| SL.v (op_extract rfl rfl) <| SL.v (op_extract rfl rfl) <| SL.v (op_extract rfl rfl) <| SL.as rfl <| SL.as rfl <| SL.as rfl <| SL.nil <| T.seq <| T.seq <| T.region <| SL.mv rfl <| SL.v (op_neqT rfl rfl (by omega)) ?_
    refine SL.nil <| T.condT rfl <| T.seq <| T.region <| SL.mv rfl <| SL.w (op_callF en18 (vs := [_]) rfl (parse_err hP2 hm (by omega))) ?_
    rintro _ _ X3 ⟨rfl, hX3, rfl⟩
    refine SL.mv rfl <| SL.v (op_extract rfl rfl) <| SL.v (op_extract rfl rfl) <| SL.v (op_extract rfl rfl) <| SL.as rfl <| SL.as rfl <| SL.as rfl <| SL.nil <| T.seq <| T.region <| SL.mv rfl <| SL.w (op_callF en32 (vs := [_]) rfl (scan_spec (by omega))) ?_
    rintro u4 _ X4 ⟨rfl, hX4, hu4⟩
    rw [if_neg (by omega), hsc] at hu4
    simp only at hu4
    subst hu4
    refine SL.mv rfl <| SL.v (op_extract rfl rfl) <| SL.v (op_extract rfl rfl) <| SL.v (op_extract rfl rfl) <| SL.as rfl <| SL.as rfl <| SL.as rfl <| SL.nil <| T.seq <| T.region <| SL.mv rfl <| SL.mv rfl <| SL.v (op_eqlT rfl rfl (by omega)) ?_
    refine SL.mv rfl <| SL.mv rfl <| SL.mv rfl <| SL.v (op_eqlT rfl rfl (by omega)) ?_
    refine SL.v (op_pickT rfl rfl) <| SL.mv rfl <| SL.mv rfl <| SL.v (op_lenS Tryz.underlying24 rfl) <| SL.v (op_eqlT rfl rfl (by omega)) ?_
    refine SL.v (op_pickT rfl rfl) <| SL.as rfl <| SL.nil <| T.ret1 rfl (ResIs.tmp rfl) ?_
    rfl
  | ok ts =>
    rw [hsc] at hu2
    simp only at hu2
    obtain ⟨v, rfl, hR⟩ := hu2
    have hlen : ts.length ≤ 2001 := by
      obtain ⟨ts0, rfl, hl0, _⟩ := scanL_fin hsc
      rw [bl_size] at hl0
      rw [List.length_append, List.length_singleton]; omega
    have htx : ∀ x ∈ ts, x.text.size ≤ 2000 := fun x hx => by
      have := scanG_txt _ _ _ _ hsc x hx
      rw [bl_size] at this; omega
    obtain ⟨A, cp, rfl⟩ := hR.form
    refine SL.mv rfl <| SL.v (op_extract rfl rfl) <| SL.v (op_extract rfl rfl) <| SL.v (op_extract rfl rfl) <| SL.as rfl <| SL.as rfl <| SL.as rfl <| SL.nil <| T.seq <| T.seq <| T.region <| SL.mv rfl <| SL.v (op_neqF rfl rfl (by omega)) ?_
    refine SL.nil <| T.condF rfl <| T.skip <| T.seq <| T.region <| SL.as rfl <| SL.nil <| T.seq <| T.seq <| T.region <| SL.mv rfl <| SL.v (op_lenS Tryz.underlying65 rfl) <| SL.v (op_move (v := .int .i64 ((0 : Nat) : Int)) rfl) <| SL.nil <| T.block ?_
    refine T.loopW (fun m env own X' => ∃ i : Nat, m = ts.length - i ∧ i ≤ ts.length ∧ X2.le X' ∧ env = [(0, .string t), (1, .slice Ag gs.length cg), (14, .string ⟨(reT gs 0 (ts.take i)).toArray⟩), (61, .slice A ts.length cp), (62, .int .i64 (ts.length : Int)), (63, .int .i64 (i : Int))] ∧ own = []) ts.length ⟨0, by omega, by omega, PMap.le_refl _, rfl, rfl⟩ (by repeat (first | exact Sub.nil | refine Sub.cons rfl ?_)) ?_
    rintro m _ _ X3 ⟨i, rfl, hi, hX3, rfl, rfl⟩
    have hbl : bl (⟨(reT gs 0 (ts.take i)).toArray⟩ : ByteArray) = reT gs 0 (ts.take i) := by simp [bl]
    have hrl := reT_len gs 2000 (ts.take i) 0 fun x hx => htx x (List.mem_of_mem_take hx)
    have hrs : (⟨(reT gs 0 (ts.take i)).toArray⟩ : ByteArray).size ≤ 4100000 := by
      rw [← bl_size, hbl]
      rw [List.length_take] at hrl
      have : min i ts.length * (2000 + 17) ≤ 2001 * 2017 := Nat.mul_le_mul_right _ (by omega)
      omega
    rcases Nat.lt_or_ge i ts.length with hil | hil
    · obtain ⟨x, hx⟩ : ∃ x, ts[i]? = some x := ⟨_, List.getElem?_eq_getElem hil⟩
      have hxs := htx x (List.mem_of_getElem? hx)
      obtain ⟨b, pre, rfl, hB⟩ := hR.blk (by omega)
      have htk := take_snoc hx
      have hsn : reT gs 0 (ts.take (i + 1)) = reT gs 0 (ts.take i) ++ (gapB (gapN gs i) ++ bl x.text) := by
        rw [htk, reT_snoc, List.length_take, Nat.min_eq_left hi, Nat.zero_add]
      refine T.seq <| T.region <| SL.v (op_lssT rfl rfl (by omega)) ?_
      refine SL.nil <| T.seq <| T.condT rfl <| T.skip <| T.seq <| T.block <| T.seq <| T.region <| SL.mv rfl <| SL.v (op_indexN Tryz.underlying65 ty70 rfl rfl (by omega)) ?_
      refine SL.v (op_loadX ty70 rfl (hB.mono hX3) (row_read rcT_len hx (by omega))) ?_
      refine SL.w (op_alloc z70) ?_
      rintro _ _ _ ⟨B16, rfl, rfl, rfl⟩
      refine SL.as rfl <| SL.w (op_store ty70 rfl rfl (by repeat constructor) rfl rfl rfl) ?_
      rintro _ _ _ ⟨rfl, rfl⟩
      refine SL.nil <| T.seq <| T.region <| SL.v (op_assign (v := .int .i64 ((0 : Nat) : Int)) rfl) <| SL.nil <| T.seq <| T.meet (fun _ env own X' => X3.le X' ∧ env = [(0, .string t), (1, .slice Ag gs.length cg), (14, .string ⟨(reT gs 0 (ts.take i)).toArray⟩), (16, .pointer (some ⟨B16, 0, none⟩)), (17, .int .i64 (gapN gs i : Int)), (61, .slice (some ⟨b, pre.length, none⟩) ts.length cp), (62, .int .i64 (ts.length : Int)), (63, .int .i64 (i : Int))] ∧ own = [⟨B16, rcT x, 70, 4⟩]) ?_ ?_
      · by_cases h0 : gs.length = 0
        · have e : gapN gs i = 0 := if_pos h0
          rw [e]
          refine T.seq <| T.region <| SL.mv rfl <| SL.v (op_lenS Tryz.underlying64 rfl) <| SL.v (op_gtrF rfl rfl (by omega)) ?_
          refine SL.nil <| T.condF rfl <| T.skip ?_
          exact T.backW 0 (by omega) ⟨PMap.le_refl _, rfl, rfl⟩ (by repeat (first | exact Sub.nil | refine Sub.cons rfl ?_))
        · obtain ⟨g, hgi⟩ : ∃ g, gs[i % gs.length]? = some g := ⟨_, List.getElem?_eq_getElem (Nat.mod_lt _ (by omega))⟩
          have e : gapN gs i = g := by rw [gapN, if_neg h0, hgi]; rfl
          have hg256 := hok g (List.mem_of_getElem? hgi)
          have hml : i % gs.length < gs.length := Nat.mod_lt _ (by omega)
          obtain ⟨bg, pg, rfl, hBg⟩ := (((hg.mono hX0).mono hX1).mono hX2).blk (by omega)
          rw [e]
          refine T.seq <| T.region <| SL.mv rfl <| SL.v (op_lenS Tryz.underlying64 rfl) <| SL.v (op_gtrT rfl rfl (by omega)) ?_
          refine SL.nil <| T.condT rfl <| T.region <| SL.mv rfl <| SL.mv rfl <| SL.mv rfl <| SL.v (op_lenS Tryz.underlying64 rfl) <| SL.v (op_remN (p := i) (q := gs.length) rfl rfl rfl (by omega)) ?_
          refine SL.v (op_indexN Tryz.underlying64 ty5 rfl rfl (by omega)) ?_
          refine SL.v (op_loadX (v := .int .u8 (g : Int)) ty5 rfl (hBg.mono hX3) (row_cell (sz := 1) (j := 0) u8C_len hgi rfl (by omega))) ?_
          refine SL.v (op_convI64 Tryz.underlying5 Tryz.underlying3 rfl (by omega) (by omega)) ?_
          refine SL.as rfl <| SL.nil ?_
          exact T.backW 0 (by omega) ⟨PMap.le_refl _, rfl, rfl⟩ (by repeat (first | exact Sub.nil | refine Sub.cons rfl ?_))
      rintro _ _ _ X4 ⟨hX4, rfl, rfl⟩
      have hg5 : gapN gs i % 5 < 5 := Nat.mod_lt _ (by omega)
      have hgl := gap_len (gapN gs i)
      have hgs : (⟨(gapB (gapN gs i)).toArray⟩ : ByteArray).size ≤ 17 := by
        rw [← bl_size]; simpa [bl] using hgl
      have hga := strsC_at (gaps_at (gapN gs i))
      refine T.draw (by kernel_rfl) 11 [.t 0, .t 2, .t 3, .t 6, .t 7, .r 1, .t 4, .t 5, .t 8, .t 9, .t 10] (by kernel_rfl) ?_
      refine SD.take rfl panicBody (op_move rfl) rfl rfl ?_
      refine SD.take rfl panicBody (op_move rfl) rfl rfl ?_
      refine SD.take rfl panicBody (op_remN (p := gapN gs i) (q := 5) rfl rfl rfl (by omega)) rfl rfl ?_
      refine SD.take rfl panicBody (op_fieldAddr fa70_1 rfl) rfl rfl ?_
      refine SD.take rfl panicBody (op_load ty9 rfl (by repeat constructor) rfl) rfl rfl ?_
      refine SD.run rfl (op_buildSlice Tryz.underlying37 bs9 (qs := [(0, _), (1, _), (2, _), (3, _), (4, _)]) rfl rfl rfl rfl rfl) rfl rfl ?_
      rintro _ _ _ ⟨B80, rfl, rfl, rfl⟩
      refine SD.take rfl panicBody (op_indexN Tryz.underlying37 ty9 rfl rfl (by omega)) rfl rfl ?_
      refine SD.up (by intro p hp; first | exact hp | exact List.mem_cons_of_mem _ hp | exact List.mem_append_right _ hp) (by first | exact PMap.le_refl _ | assumption) ?_
      refine SD.take rfl panicBody (op_load ty9 rfl (by repeat constructor) (cread1k' hga (by omega))) rfl rfl ?_
      refine SD.take rfl panicBody (op_addStr rfl rfl (by first | omega | (simp only [ByteArray.size_append]; omega))) rfl rfl ?_
      refine SD.take rfl panicBody (op_addStr rfl rfl (by first | omega | (simp only [ByteArray.size_append]; omega))) rfl rfl ?_
      refine SD.take rfl panicBody (op_assign rfl) rfl rfl ?_
      refine SD.nil ?_
      show SL _ _ _ _ _ _ _ [] _ _ _
      refine SL.nil <| T.blk <| T.region <| SL.v (op_addN (q := 1) rfl rfl (by omega)) ?_
      refine SL.mv rfl <| SL.nil <| T.drop B80 (by repeat constructor) ?_
      refine T.drop B16 (by repeat constructor) ?_
      have hstr : (⟨(reT gs 0 (ts.take i)).toArray⟩ : ByteArray) ++ (⟨(gapB (gapN gs i)).toArray⟩ ++ x.text) = ⟨(reT gs 0 (ts.take (i + 1))).toArray⟩ := by rw [hsn, ← str_app, ← str_app, bl_mk]
      exact T.backW (ts.length - (i + 1)) (by omega) ⟨i + 1, rfl, by omega, hX3.trans' hX4, by rw [← hstr], rfl⟩ (by repeat (first | exact Sub.nil | refine Sub.cons rfl ?_))
    · obtain rfl : i = ts.length := by omega
      rw [List.take_of_length_le (Nat.le_refl _)] at hbl hrs ⊢
      obtain ⟨us, h1, h2⟩ := rescan hsc gs (⟨(reT gs 0 ts).toArray⟩ : ByteArray).size
      have hP3 := hP2.mono hX3
      rw [← hbl] at h1
      generalize (⟨(reT gs 0 ts).toArray⟩ : ByteArray) = q at *
      by_cases hbig : 8000 < q.size
      · skip
        refine T.seq <| T.region <| SL.v (op_lssF rfl rfl (by omega)) ?_
        refine SL.nil <| T.seq <| T.condF rfl ?_
        refine T.exit (T.exitCode (T.exitCut (T.exitBlk ?_)))
        refine T.seq <| T.seq <| T.region <| SL.mv rfl <| SL.v (op_lenStr Tryz.underlying9 rfl) <| SL.v (op_gtrT rfl rfl (by omega)) ?_
        refine SL.nil <| T.condT rfl <| T.seq <| T.region <| SL.as rfl <| SL.nil <| T.ret1 rfl (ResIs.tmp rfl) ?_
        rfl
      have hb1 : begM t = .ok ts := by rw [begM, if_neg (by omega), hsc]
      have hb2 : begM q = .ok us := by rw [begM, if_neg hbig, h1]
      have hsame := (parseM_S hb1 hb2 h2).1
      cases hm1 : parseM t with
      | ok cs =>
        cases hm2 : parseM q with
        | error y => rw [hm1, hm2] at hsame; exact hsame.elim
        | ok ds =>
          rw [hm1, hm2] at hsame
          obtain rfl : cs = ds := hsame
          obtain ⟨hc, hw⟩ := parseM_ok hm1
          obtain ⟨hl, hcw⟩ := conOk_of hc
          have hww : ∀ c ∈ cs, wtE c.ex < 900000 := fun c hcm => by have := wtC_mem hcm; omega
          refine T.seq <| T.region <| SL.v (op_lssF rfl rfl (by omega)) ?_
          refine SL.nil <| T.seq <| T.condF rfl ?_
          refine T.exit (T.exitCode (T.exitCut (T.exitBlk ?_)))
          refine T.seq <| T.seq <| T.region <| SL.mv rfl <| SL.v (op_lenStr Tryz.underlying9 rfl) <| SL.v (op_gtrF rfl rfl (by omega)) ?_
          refine SL.nil <| T.condF rfl <| T.skip <| T.seq <| T.region <| SL.mv rfl <| SL.w (op_callF en18 (vs := [_]) rfl (parse_ok hP3 hm1 (by omega))) ?_
          rintro _ _ X4 ⟨rfl, hX4, v4, rfl, hv4⟩
          refine SL.mv rfl <| SL.v (op_extract rfl rfl) <| SL.v (op_extract rfl rfl) <| SL.v (op_extract rfl rfl) <| SL.as rfl <| SL.as rfl <| SL.as rfl <| SL.nil <| T.seq <| T.region <| SL.mv rfl <| SL.w (op_callF en18 (vs := [_]) rfl (parse_ok (hP3.mono hX4) hm2 (by omega))) ?_
          rintro _ _ X5 ⟨rfl, hX5, v5, rfl, hv5⟩
          refine SL.mv rfl <| SL.v (op_extract rfl rfl) <| SL.v (op_extract rfl rfl) <| SL.v (op_extract rfl rfl) <| SL.as rfl <| SL.as rfl <| SL.as rfl <| SL.nil <| T.seq <| T.seq <| T.region <| SL.mv rfl <| SL.mv rfl <| SL.v (op_neqF rfl rfl (by omega)) ?_
          refine SL.mv rfl <| SL.mv rfl <| SL.v (op_eqlT rfl rfl (by omega)) ?_
          refine SL.mv rfl <| SL.v (op_eqlT rfl rfl (by omega)) ?_
          refine SL.v (op_neqB (b := true) (c := true) Tryz.underlying4 rfl rfl) <| SL.mv rfl <| SL.skip rfl rfl ?_
          refine SL.skip rfl rfl ?_
          refine SL.v (op_pickF rfl rfl) <| SL.v (op_pickF rfl rfl) <| SL.nil <| T.condF rfl <| T.skip <| T.seq <| T.region <| SL.mv rfl <| SL.mv rfl <| SL.w (op_callF en31 (vs := [_, _]) rfl (conEq_spec (hv4.mono hX5) hv5 (by omega) hww)) ?_
          rintro _ _ X6 ⟨rfl, hX6, rfl⟩
          rw [decide_eq_true rfl]
          refine SL.as rfl <| SL.nil <| T.ret1 rfl (ResIs.tmp rfl) ?_
          rfl
      | error x =>
        cases hm2 : parseM q with
        | ok ds => rw [hm1, hm2] at hsame; exact hsame.elim
        | error y =>
          rw [hm1, hm2] at hsame
          have hx := parseM_err hm1
          obtain ⟨o, c⟩ := x
          obtain ⟨o2, c2⟩ := y
          obtain rfl : c = c2 := hsame
          simp only at hx
          by_cases ho : o = 0 <;> by_cases ho2 : o2 = 0
          · skip
            refine T.seq <| T.region <| SL.v (op_lssF rfl rfl (by omega)) ?_
            refine SL.nil <| T.seq <| T.condF rfl ?_
            refine T.exit (T.exitCode (T.exitCut (T.exitBlk ?_)))
            refine T.seq <| T.seq <| T.region <| SL.mv rfl <| SL.v (op_lenStr Tryz.underlying9 rfl) <| SL.v (op_gtrF rfl rfl (by omega)) ?_
            refine SL.nil <| T.condF rfl <| T.skip <| T.seq <| T.region <| SL.mv rfl <| SL.w (op_callF en18 (vs := [_]) rfl (parse_err hP3 hm1 (by omega))) ?_
            rintro _ _ X4 ⟨rfl, hX4, rfl⟩
            refine SL.mv rfl <| SL.v (op_extract rfl rfl) <| SL.v (op_extract rfl rfl) <| SL.v (op_extract rfl rfl) <| SL.as rfl <| SL.as rfl <| SL.as rfl <| SL.nil <| T.seq <| T.region <| SL.mv rfl <| SL.w (op_callF en18 (vs := [_]) rfl (parse_err (hP3.mono hX4) hm2 (by omega))) ?_
            rintro _ _ X5 ⟨rfl, hX5, rfl⟩
            refine SL.mv rfl <| SL.v (op_extract rfl rfl) <| SL.v (op_extract rfl rfl) <| SL.v (op_extract rfl rfl) <| SL.as rfl <| SL.as rfl <| SL.as rfl <| SL.nil <| T.seq <| T.seq <| T.region <| SL.mv rfl <| SL.mv rfl <| SL.v (op_neqF rfl rfl (by omega)) ?_
            refine SL.mv rfl <| SL.mv rfl <| SL.v (op_eqlT rfl rfl (by omega)) ?_
            refine SL.mv rfl <| SL.v (op_eqlT rfl rfl (by omega)) ?_
            refine SL.v (op_neqB (b := true) (c := true) Tryz.underlying4 rfl rfl) <| SL.mv rfl <| SL.skip rfl rfl ?_
            refine SL.skip rfl rfl ?_
            refine SL.v (op_pickF rfl rfl) <| SL.v (op_pickF rfl rfl) <| SL.nil <| T.condF rfl <| T.skip <| T.seq <| T.region <| SL.mv rfl <| SL.mv rfl <| SL.w (op_callF en31 (vs := [_, _]) rfl (conEq_spec nil_cons nil_cons (Nat.zero_lt_of_lt (by omega : 0 < 1000000000)) (fun c hc => by cases hc))) ?_
            rintro _ _ X6 ⟨rfl, hX6, rfl⟩
            rw [decide_eq_true rfl]
            refine SL.as rfl <| SL.nil <| T.ret1 rfl (ResIs.tmp rfl) ?_
            rfl
          · skip
            refine T.seq <| T.region <| SL.v (op_lssF rfl rfl (by omega)) ?_
            refine SL.nil <| T.seq <| T.condF rfl ?_
            refine T.exit (T.exitCode (T.exitCut (T.exitBlk ?_)))
            refine T.seq <| T.seq <| T.region <| SL.mv rfl <| SL.v (op_lenStr Tryz.underlying9 rfl) <| SL.v (op_gtrF rfl rfl (by omega)) ?_
            refine SL.nil <| T.condF rfl <| T.skip <| T.seq <| T.region <| SL.mv rfl <| SL.w (op_callF en18 (vs := [_]) rfl (parse_err hP3 hm1 (by omega))) ?_
            rintro _ _ X4 ⟨rfl, hX4, rfl⟩
            refine SL.mv rfl <| SL.v (op_extract rfl rfl) <| SL.v (op_extract rfl rfl) <| SL.v (op_extract rfl rfl) <| SL.as rfl <| SL.as rfl <| SL.as rfl <| SL.nil <| T.seq <| T.region <| SL.mv rfl <| SL.w (op_callF en18 (vs := [_]) rfl (parse_err (hP3.mono hX4) hm2 (by omega))) ?_
            rintro _ _ X5 ⟨rfl, hX5, rfl⟩
            refine SL.mv rfl <| SL.v (op_extract rfl rfl) <| SL.v (op_extract rfl rfl) <| SL.v (op_extract rfl rfl) <| SL.as rfl <| SL.as rfl <| SL.as rfl <| SL.nil <| T.seq <| T.seq <| T.region <| SL.mv rfl <| SL.mv rfl <| SL.v (op_neqF rfl rfl (by omega)) ?_
            refine SL.mv rfl <| SL.mv rfl <| SL.v (op_eqlT rfl rfl (by omega)) ?_
            refine SL.mv rfl <| SL.v (op_eqlF rfl rfl (by omega)) ?_
            refine SL.v (op_neqB (b := true) (c := false) Tryz.underlying4 rfl rfl) <| SL.mv rfl <| SL.mv rfl <| SL.v (op_eqlF rfl rfl (by omega)) ?_
            refine SL.v (op_pickT rfl rfl) <| SL.v (op_pickF rfl rfl) <| SL.nil <| T.condF rfl <| T.skip <| T.seq <| T.region <| SL.mv rfl <| SL.mv rfl <| SL.w (op_callF en31 (vs := [_, _]) rfl (conEq_spec nil_cons nil_cons (Nat.zero_lt_of_lt (by omega : 0 < 1000000000)) (fun c hc => by cases hc))) ?_
            rintro _ _ X6 ⟨rfl, hX6, rfl⟩
            rw [decide_eq_true rfl]
            refine SL.as rfl <| SL.nil <| T.ret1 rfl (ResIs.tmp rfl) ?_
            rfl
          · skip
            refine T.seq <| T.region <| SL.v (op_lssF rfl rfl (by omega)) ?_
            refine SL.nil <| T.seq <| T.condF rfl ?_
            refine T.exit (T.exitCode (T.exitCut (T.exitBlk ?_)))
            refine T.seq <| T.seq <| T.region <| SL.mv rfl <| SL.v (op_lenStr Tryz.underlying9 rfl) <| SL.v (op_gtrF rfl rfl (by omega)) ?_
            refine SL.nil <| T.condF rfl <| T.skip <| T.seq <| T.region <| SL.mv rfl <| SL.w (op_callF en18 (vs := [_]) rfl (parse_err hP3 hm1 (by omega))) ?_
            rintro _ _ X4 ⟨rfl, hX4, rfl⟩
            refine SL.mv rfl <| SL.v (op_extract rfl rfl) <| SL.v (op_extract rfl rfl) <| SL.v (op_extract rfl rfl) <| SL.as rfl <| SL.as rfl <| SL.as rfl <| SL.nil <| T.seq <| T.region <| SL.mv rfl <| SL.w (op_callF en18 (vs := [_]) rfl (parse_err (hP3.mono hX4) hm2 (by omega))) ?_
            rintro _ _ X5 ⟨rfl, hX5, rfl⟩
            refine SL.mv rfl <| SL.v (op_extract rfl rfl) <| SL.v (op_extract rfl rfl) <| SL.v (op_extract rfl rfl) <| SL.as rfl <| SL.as rfl <| SL.as rfl <| SL.nil <| T.seq <| T.seq <| T.region <| SL.mv rfl <| SL.mv rfl <| SL.v (op_neqF rfl rfl (by omega)) ?_
            refine SL.mv rfl <| SL.mv rfl <| SL.v (op_eqlF rfl rfl (by omega)) ?_
            refine SL.mv rfl <| SL.v (op_eqlT rfl rfl (by omega)) ?_
            refine SL.v (op_neqB (b := false) (c := true) Tryz.underlying4 rfl rfl) <| SL.mv rfl <| SL.mv rfl <| SL.v (op_eqlF rfl rfl (by omega)) ?_
            refine SL.v (op_pickT rfl rfl) <| SL.v (op_pickF rfl rfl) <| SL.nil <| T.condF rfl <| T.skip <| T.seq <| T.region <| SL.mv rfl <| SL.mv rfl <| SL.w (op_callF en31 (vs := [_, _]) rfl (conEq_spec nil_cons nil_cons (Nat.zero_lt_of_lt (by omega : 0 < 1000000000)) (fun c hc => by cases hc))) ?_
            rintro _ _ X6 ⟨rfl, hX6, rfl⟩
            rw [decide_eq_true rfl]
            refine SL.as rfl <| SL.nil <| T.ret1 rfl (ResIs.tmp rfl) ?_
            rfl
          · skip
            refine T.seq <| T.region <| SL.v (op_lssF rfl rfl (by omega)) ?_
            refine SL.nil <| T.seq <| T.condF rfl ?_
            refine T.exit (T.exitCode (T.exitCut (T.exitBlk ?_)))
            refine T.seq <| T.seq <| T.region <| SL.mv rfl <| SL.v (op_lenStr Tryz.underlying9 rfl) <| SL.v (op_gtrF rfl rfl (by omega)) ?_
            refine SL.nil <| T.condF rfl <| T.skip <| T.seq <| T.region <| SL.mv rfl <| SL.w (op_callF en18 (vs := [_]) rfl (parse_err hP3 hm1 (by omega))) ?_
            rintro _ _ X4 ⟨rfl, hX4, rfl⟩
            refine SL.mv rfl <| SL.v (op_extract rfl rfl) <| SL.v (op_extract rfl rfl) <| SL.v (op_extract rfl rfl) <| SL.as rfl <| SL.as rfl <| SL.as rfl <| SL.nil <| T.seq <| T.region <| SL.mv rfl <| SL.w (op_callF en18 (vs := [_]) rfl (parse_err (hP3.mono hX4) hm2 (by omega))) ?_
            rintro _ _ X5 ⟨rfl, hX5, rfl⟩
            refine SL.mv rfl <| SL.v (op_extract rfl rfl) <| SL.v (op_extract rfl rfl) <| SL.v (op_extract rfl rfl) <| SL.as rfl <| SL.as rfl <| SL.as rfl <| SL.nil <| T.seq <| T.seq <| T.region <| SL.mv rfl <| SL.mv rfl <| SL.v (op_neqF rfl rfl (by omega)) ?_
            refine SL.mv rfl <| SL.mv rfl <| SL.v (op_eqlF rfl rfl (by omega)) ?_
            refine SL.mv rfl <| SL.v (op_eqlF rfl rfl (by omega)) ?_
            refine SL.v (op_neqB (b := false) (c := false) Tryz.underlying4 rfl rfl) <| SL.mv rfl <| SL.skip rfl rfl ?_
            refine SL.skip rfl rfl ?_
            refine SL.v (op_pickF rfl rfl) <| SL.v (op_pickF rfl rfl) <| SL.nil <| T.condF rfl <| T.skip <| T.seq <| T.region <| SL.mv rfl <| SL.mv rfl <| SL.w (op_callF en31 (vs := [_, _]) rfl (conEq_spec nil_cons nil_cons (Nat.zero_lt_of_lt (by omega : 0 < 1000000000)) (fun c hc => by cases hc))) ?_
            rintro _ _ X6 ⟨rfl, hX6, rfl⟩
            rw [decide_eq_true rfl]
            refine SL.as rfl <| SL.nil <| T.ret1 rfl (ResIs.tmp rfl) ?_
            rfl
end Go.Proofs.YtnabbnhefjfegaaGreatDoor
namespace Go.Proofs.YtnabbnhefjfegaaGreatDoor
open Go.RowKit
theorem gPow : Tryz.prog.globalNamed "internal/strconv.uint64pow10" = some 1 := by kernel_rfl
theorem gPowT : (Tryz.prog.globals[1]?).map (·.type) = some 211 := by kernel_rfl
theorem cells20 : Tryz.prog.cellsOf 211 = 20 := by kernel_rfl
theorem cellsU64 : Tryz.prog.cellsOf 171 = 1 := by kernel_rfl
theorem pow_of {W : World} {x y : String × DataW Unit} (h : laidMet Tryz.prog [x, y, ("internal/strconv.uint64pow10", Rows.laid_internal_strconv_uint64pow10)] W) : Pow10 (heapX W) := by
  have ht : Lib.TabIs Tryz.prog W "internal/strconv.uint64pow10" .u64 Lib.pow10Tab := Lib.tabIs_of_head gPow gPowT Tryz.underlying211 Tryz.underlying171 cellsU64 cells20 h.tail.tail
  intro w hw
  unfold Lib.TabIs World.var? at ht ⊢
  rw [gPow] at ht ⊢
  simp only [Option.bind_some] at ht ⊢
  cases hg : W.heap[1]? with
  | none => rw [hg] at ht; cases ht
  | some o =>
    rw [hg] at ht
    rw [hw 1 o hg]
    exact ht
end Go.Proofs.YtnabbnhefjfegaaGreatDoor
