/- What the law's proof rests on: the engine, a small separation logic over the kit's walk, and contracts of the functions that the law reaches. Part 6. -/
import Derived.Test.YtnpcilglilfajaaGreatDoorChecked
import Derived.Shelf.Sort.AssemblysIn
import Derived.Shelf.Strconv.Itoa3
import Derived.Sort.EveryDepth
import Derived.Laws.IdiomStrings
import Derived.Test.YtnpcilglilfajaaGreatDoorPart1
import Derived.Test.YtnpcilglilfajaaGreatDoorPart2
import Derived.Test.YtnpcilglilfajaaGreatDoorPart3
import Derived.Test.YtnpcilglilfajaaGreatDoorPart4
import Derived.Test.YtnpcilglilfajaaGreatDoorPart5
namespace Go.Proofs.YtnpcilglilfajaaGreatDoor
open Go.RowKit
structure Cf where
  enf : Bool
  kind : Nat
  name : ByteArray
  fm : Fm
noncomputable def mkC (ns : List ByteArray) (adm : Nat) (c : Con) : Cf := ⟨c.enf, c.kind, c.name, (resF ns adm c.kind c.ex).1⟩
noncomputable def badC (ns : List ByteArray) (adm : Nat) : Nat → List Con → Option (Nat × Int)
  | _, [] => none
  | k, c :: cs => if (resF ns adm c.kind c.ex).2 ≠ 0 then some (k, (resF ns adm c.kind c.ex).2) else badC ns adm (k + 1) cs
theorem badC_at {ns : List ByteArray} {adm : Nat} {c : Con} : ∀ {cs : List Con} {i k : Nat}, (∀ x ∈ cs.take i, (resF ns adm x.kind x.ex).2 = 0) → cs[i]? = some c → (resF ns adm c.kind c.ex).2 ≠ 0 → badC ns adm k cs = some (k + i, (resF ns adm c.kind c.ex).2)
  | [], i, k, _, h, _ => by simp at h
  | a :: cs, 0, k, _, h, hb => by
    simp only [List.getElem?_cons_zero, Option.some.injEq] at h
    subst h
    rw [badC, if_pos hb]; rfl
  | a :: cs, i + 1, k, h0, h, hb => by
    have h1 := h0 a (by simp)
    rw [badC, if_neg (by rw [h1]; simp), badC_at (i := i) (fun x hx => h0 x (by rw [List.take_succ_cons]; exact List.mem_cons_of_mem _ hx)) (by simpa using h) hb]
    rw [show k + 1 + i = k + (i + 1) by omega]
theorem badC_none {ns : List ByteArray} {adm : Nat} : ∀ {cs : List Con} {k : Nat}, (∀ x ∈ cs, (resF ns adm x.kind x.ex).2 = 0) → badC ns adm k cs = none
  | [], _, _ => rfl
  | a :: cs, k, h => by
    rw [badC, if_neg (by rw [h a (by simp)]; simp), badC_none fun x hx => h x (by simp [hx])]
noncomputable def resA (ns : List ByteArray) (adm : Nat) (cs : List Con) : List Cf × Nat × Int :=
  if chkAll cs ≠ 0 then ([], 0, chkAll cs) else match badC ns adm 0 cs with
    | some (i, e) => ([], i, e)
    | none => (cs.map (mkC ns adm), 0, 0)
theorem resA_chk {ns : List ByteArray} {adm : Nat} {cs : List Con} (h : chkAll cs ≠ 0) : resA ns adm cs = ([], 0, chkAll cs) := by rw [resA, if_pos h]
theorem resA_bad {ns : List ByteArray} {adm i : Nat} {c : Con} {cs : List Con} (h : chkAll cs = 0) (h0 : ∀ x ∈ cs.take i, (resF ns adm x.kind x.ex).2 = 0) (hc : cs[i]? = some c) (hb : (resF ns adm c.kind c.ex).2 ≠ 0) : resA ns adm cs = ([], i, (resF ns adm c.kind c.ex).2) := by
  rw [resA, if_neg (by rw [h]; simp), badC_at h0 hc hb]
  simp
theorem resA_ok {ns : List ByteArray} {adm : Nat} {cs : List Con} (h : chkAll cs = 0) (h0 : ∀ x ∈ cs, (resF ns adm x.kind x.ex).2 = 0) : resA ns adm cs = (cs.map (mkC ns adm), 0, 0) := by
  rw [resA, if_neg (by rw [h]; simp), badC_none h0]
/-- Constraints over role numbers in memory. -/
def CfR (X : PMap) (c : Cf) (r : Row7) : Prop := r.1 = c.enf ∧ r.2.1 = c.kind ∧ r.2.2.1 = c.name ∧ FmR .u8 X c.fm r.2.2.2
theorem CfR.mono {X X' : PMap} {c : Cf} {r : Row7} (h : CfR X c r) (hX : X.le X') : CfR X' c r := ⟨h.1, h.2.1, h.2.2.1, h.2.2.2.mono hX⟩
theorem CfR.form {X : PMap} {c : Cf} {r : Row7} (h : CfR X c r) : ∃ (o : Nat) (n : Int) (A B : Option Addr) (l c1 l' c' : Nat), r = (c.enf, c.kind, c.name, .int .u8 (o : Int), .int .i64 n, .slice A l c1, .slice B l' c') := by
  obtain ⟨e, k, s, r4⟩ := r
  obtain ⟨h1, h2, h3, h4⟩ := h
  simp only at h1 h2 h3 h4
  subst h1 h2 h3
  obtain ⟨o, n, A, B, l, c1, l', c', rfl⟩ := h4.form
  exact ⟨_, _, _, _, _, _, _, _, rfl⟩
def CfsR (X : PMap) (v : Value) (cs : List Cf) : Prop := ∃ rows : List Row7, RowR rc7 X v rows ∧ rows.length = cs.length ∧ ∀ (i : Nat) (c : Cf) (r : Row7), cs[i]? = some c → rows[i]? = some r → CfR X c r
theorem CfsR.mono {X X' : PMap} {v : Value} {cs : List Cf} (h : CfsR X v cs) (hX : X.le X') : CfsR X' v cs :=
  let ⟨rows, h1, h2, h3⟩ := h
  ⟨rows, h1.mono hX, h2, fun i c r a b => (h3 i c r a b).mono hX⟩
theorem CfsR.nil {X : PMap} {A : Option Addr} {c : Nat} : CfsR X (.slice A 0 c) [] := ⟨[], .inl ⟨rfl, _, _, rfl⟩, rfl, fun i c r h => by simp at h⟩
def CfRi (X : PMap) (c : Cf) (r : Row7) : Prop := r.1 = c.enf ∧ r.2.1 = c.kind ∧ r.2.2.1 = c.name ∧ FmR .i64 X c.fm r.2.2.2
theorem CfRi.mono {X X' : PMap} {c : Cf} {r : Row7} (h : CfRi X c r) (hX : X.le X') : CfRi X' c r := ⟨h.1, h.2.1, h.2.2.1, h.2.2.2.mono hX⟩
theorem CfRi.form {X : PMap} {c : Cf} {r : Row7} (h : CfRi X c r) : ∃ (o : Nat) (n : Int) (A B : Option Addr) (l c1 l' c' : Nat), r = (c.enf, c.kind, c.name, .int .i64 (o : Int), .int .i64 n, .slice A l c1, .slice B l' c') := by
  obtain ⟨e, k, s, r4⟩ := r
  obtain ⟨h1, h2, h3, h4⟩ := h
  simp only at h1 h2 h3 h4
  subst h1 h2 h3
  obtain ⟨o, n, A, B, l, c1, l', c', rfl⟩ := h4.form
  exact ⟨_, _, _, _, _, _, _, _, rfl⟩
def CfsRi (X : PMap) (v : Value) (cs : List Cf) : Prop := ∃ rows : List Row7, RowR rc7i X v rows ∧ rows.length = cs.length ∧ ∀ (i : Nat) (c : Cf) (r : Row7), cs[i]? = some c → rows[i]? = some r → CfRi X c r
theorem CfsRi.mono {X X' : PMap} {v : Value} {cs : List Cf} (h : CfsRi X v cs) (hX : X.le X') : CfsRi X' v cs :=
  let ⟨rows, h1, h2, h3⟩ := h
  ⟨rows, h1.mono hX, h2, fun i c r a b => (h3 i c r a b).mono hX⟩
theorem CfsRi.nil {X : PMap} {A : Option Addr} {c : Nat} : CfsRi X (.slice A 0 c) [] := ⟨[], .inl ⟨rfl, _, _, rfl⟩, rfl, fun i c r h => by simp at h⟩
end Go.Proofs.YtnpcilglilfajaaGreatDoor
namespace Go.Proofs.YtnpcilglilfajaaGreatDoor
section
set_option maxRecDepth 100000
theorem en151 : Enters Tryz.prog 151 := enters_mk Tryz.func151 (by kernel_rfl) rfl
theorem en152 : Enters Tryz.prog 152 := enters_mk Tryz.func152 (by kernel_rfl) rfl
theorem en153 : Enters Tryz.prog 153 := enters_mk Tryz.func153 (by kernel_rfl) rfl
theorem en184 : Enters Tryz.prog 184 := enters_mk Tryz.func184 (by kernel_rfl) rfl
end
open Go.RowKit
theorem sameName_spec {X : PMap} {B : Nat} {c : Con} {w1 w2 w3 w4 : Value} {d : Row7} (hB : Blk X B (rc7 (c.enf, c.kind, c.name, w1, w2, w3, w4))) (hd : ∃ (o : Nat) (n : Int) (A B : Option Addr) (l c1 l' c' : Nat), d.2.2.2 = (.int .u8 (o : Int), .int .i64 n, .slice A l c1, .slice B l' c')) : Spec Tryz.prog 152 [.agg (rc7 d).toArray, .pointer (some ⟨B, 0, none⟩)] X fun u _ => u = .bool (decide (d.2.2.1 = c.name)) := by
  obtain ⟨e, k, s, r⟩ := d
  obtain ⟨o, n, A, Bb, l, c1, l', c', hr⟩ := hd
  simp only at hr
  subst hr
  refine Spec.enter Tryz.func152 rfl Tryz.ntmps152 rfl ?_
  intro w0 hw0
  refine T.seq <| T.region <| SL.w (op_box rfl) ?_
  rintro _ _ _ ⟨B2, rfl, rfl, rfl⟩
  refine SL.as rfl <| SL.nil <| T.seq <| T.region <| SL.v (op_fieldAddr fa123_2 rfl) <| SL.v (op_load ty9 rfl (by repeat constructor) rfl) ?_
  refine SL.v (op_fieldAddr fa123_2 rfl) <| SL.v (op_loadX ty9 rfl (by assumption) rfl) ?_
  refine SL.v (op_eqlStrD rfl rfl) <| SL.as rfl <| SL.nil <| T.ret1 rfl (ResIs.tmp rfl) ?_
  rfl
theorem idxC_spec {X : PMap} {v : Value} {B : Nat} {c : Con} {w1 w2 w3 w4 : Value} {cs : List Con} (h : ConsR X v cs) (hB : Blk X B (rc7 (c.enf, c.kind, c.name, w1, w2, w3, w4))) (hl : cs.length < 1000) : Spec Tryz.prog 184 [v, .func (.func 152) #[] #[.pointer (some ⟨B, 0, none⟩)]] X fun u _ => ∃ k : Int, u = .int .i64 k ∧ (0 ≤ k ↔ c.name ∈ cs.map (·.name)) := by
  obtain ⟨rows, hr, hrl, hrow⟩ := h
  obtain ⟨A, cp, rfl⟩ := hr.form
  refine Spec.enter Tryz.func184 rfl Tryz.ntmps184 rfl ?_
  intro w0 hw0
  refine T.seq <| T.region <| SL.v (op_assign (v := .int .i64 ((0 : Nat) : Int)) rfl) <| SL.nil <| T.seq <| T.seq <| T.region <| SL.mv rfl <| SL.v (op_lenS Tryz.underlying119 rfl) <| SL.v (op_move (v := .int .i64 ((0 : Nat) : Int)) rfl) <| SL.nil <| T.block <| T.loopW (fun m env own X' => ∃ i : Nat, m = rows.length - i ∧ i ≤ rows.length ∧ X.le X' ∧ (∀ q d, q < i → cs[q]? = some d → d.name ≠ c.name) ∧ env = [(0, .slice A rows.length cp), (1, .func (.func 152) #[] #[.pointer (some ⟨B, 0, none⟩)]), (7, .int .i64 (rows.length : Int)), (8, .int .i64 (i : Int))] ∧ own = []) rows.length ⟨0, by simp, by omega, PMap.le_refl _, fun q x hq => absurd hq (by omega), rfl, rfl⟩ (by repeat (first | exact Sub.nil | refine Sub.cons rfl ?_)) ?_
  rintro m _ _ X1 ⟨i, rfl, hi, hX1, hne, rfl, rfl⟩
  rcases Nat.lt_or_ge i rows.length with hil | hil
  · obtain ⟨r2, hr2⟩ : ∃ r2, rows[i]? = some r2 := ⟨_, List.getElem?_eq_getElem hil⟩
    obtain ⟨d, hd2⟩ : ∃ d, cs[i]? = some d := ⟨_, List.getElem?_eq_getElem (by omega)⟩
    have hrc := hrow i d r2 hd2 hr2
    obtain ⟨b, pre, rfl, hbA⟩ := hr.blk (by omega)
    have hf := hrc.2.2.2.form
    have hnm := hrc.2.2.1
    refine T.seq <| T.region <| SL.v (op_lssT rfl rfl (by omega)) ?_
    refine SL.nil <| T.seq <| T.condT rfl <| T.skip <| T.seq <| T.block <| T.seq <| T.region <| SL.mv rfl <| SL.as rfl <| SL.nil <| T.seq <| T.region <| SL.mv rfl <| SL.mv rfl ?_
    refine SL.mv rfl <| SL.v (op_indexN Tryz.underlying119 ty123 rfl rfl (by omega)) ?_
    refine SL.v (op_loadX ty123 rfl (hbA.mono hX1) (row_read rc7_len hr2 (by omega))) ?_
    refine SL.w (op_call en152 rfl (vs := [_]) rfl (sameName_spec (hB.mono hX1) hf)) ?_
    rintro _ _ X2 ⟨rfl, hX2, rfl⟩
    rw [hnm]
    by_cases hc : d.name = c.name
    · rw [decide_eq_true hc]
      refine SL.nil <| T.condT rfl <| T.seq <| T.region <| SL.mv rfl <| SL.as rfl <| SL.nil <| T.ret1 rfl (ResIs.tmp rfl) ?_
      exact ⟨_, rfl, fun _ => List.mem_map.2 ⟨d, List.mem_of_getElem? hd2, hc⟩, fun _ => by omega⟩
    · rw [decide_eq_false hc]
      refine SL.nil <| T.condF rfl <| T.skip <| T.blk <| T.region <| SL.v (op_addN (q := 1) rfl rfl (by omega)) ?_
      refine SL.mv rfl <| SL.nil ?_
      have hne2 : ∀ (q : Nat) (y : Con), q < i + 1 → cs[q]? = some y → y.name ≠ c.name := fun q y hq hy => by
        rcases Nat.lt_or_ge q i with h1 | h1
        · exact hne q y h1 hy
        · obtain rfl : q = i := by omega
          rw [hd2] at hy; cases hy; exact hc
      exact T.backW (rows.length - (i + 1)) (by omega) ⟨i + 1, rfl, by omega, hX1.trans' hX2, hne2, rfl, rfl⟩ (by repeat (first | exact Sub.nil | refine Sub.cons rfl ?_))
  · refine T.seq <| T.region <| SL.v (op_lssF rfl rfl (by omega)) ?_
    refine SL.nil <| T.seq <| T.condF rfl ?_
    refine T.exit (T.exitCode (T.exitCut (T.exitBlk ?_)))
    refine T.seq <| T.region <| SL.as rfl <| SL.nil <| T.ret1 rfl (ResIs.tmp rfl) ?_
    refine ⟨_, rfl, fun h => absurd h (by omega), fun hm => ?_⟩
    obtain ⟨d, hd, hdn⟩ := List.mem_map.1 hm
    obtain ⟨q, hq⟩ := List.mem_iff_getElem?.1 hd
    have h1 := (List.getElem?_eq_some_iff.1 hq).1
    exact absurd hdn (hne q d (by omega) hq)
theorem conC_spec {X : PMap} {v : Value} {B : Nat} {c : Con} {w1 w2 w3 w4 : Value} {cs : List Con} (h : ConsR X v cs) (hB : Blk X B (rc7 (c.enf, c.kind, c.name, w1, w2, w3, w4))) (hl : cs.length < 1000) : Spec Tryz.prog 151 [v, .func (.func 152) #[] #[.pointer (some ⟨B, 0, none⟩)]] X fun u _ => u = .bool (decide (c.name ∈ cs.map (·.name))) := by
  obtain ⟨A, cp, rfl⟩ : ∃ A cp, v = .slice A cs.length cp := by
    obtain ⟨rows, hr, hrl, _⟩ := h
    obtain ⟨A, cp, rfl⟩ := hr.form
    exact ⟨A, cp, by rw [hrl]⟩
  refine Spec.enter Tryz.func151 rfl Tryz.ntmps151 rfl ?_
  intro w0 hw0
  refine T.seq <| T.region <| SL.as rfl <| SL.nil <| T.seq <| T.region <| SL.mv rfl <| SL.mv rfl <| SL.w (op_callF en184 (vs := [_, _]) rfl (idxC_spec h hB hl)) ?_
  rintro _ _ X1 ⟨rfl, hX1, k, rfl, hk⟩
  refine SL.v (op_geq rfl rfl) <| SL.as rfl <| SL.nil <| T.ret1 rfl (ResIs.tmp rfl) ?_
  simp only [hk]
theorem chkCs_at {cs : List Con} {i : Nat} {c : Con} (h0 : chkCs [] (cs.take i) = 0) (hc : cs[i]? = some c) (hz : errC ((cs.take i).map (·.name)) c ≠ 0) : chkCs [] cs = errC ((cs.take i).map (·.name)) c := by
  obtain ⟨h1, h2⟩ := List.getElem?_eq_some_iff.1 hc
  have e : cs = cs.take i ++ c :: cs.drop (i + 1) := by rw [← h2, ← List.drop_eq_getElem_cons h1, List.take_append_drop]
  have : chkCs [] (cs.take i ++ c :: cs.drop (i + 1)) = errC ((cs.take i).map (·.name)) c := by
    rw [chkCs_app, if_neg (by simp [h0]), List.nil_append, chkCs, if_pos hz]
  rwa [← e] at this
theorem chkCs_snoc {cs : List Con} {i : Nat} {c : Con} (h0 : chkCs [] (cs.take i) = 0) (hc : cs[i]? = some c) (hz : errC ((cs.take i).map (·.name)) c = 0) : chkCs [] (cs.take (i + 1)) = 0 := by
  rw [take_snoc hc, chkCs_app, if_neg (by simp [h0]), List.nil_append, chkCs, if_neg (fun h => h hz), chkCs]
theorem check_spec {M : Nat} {X : PMap} (hI : ItoaOk M X) {v : Value} {cs : List Con} (h : ConsR X v cs) (hl : cs.length ≤ 40) (h0 : 0 < cs.length) (hw : wtC cs < 15000000) (hww : ∀ c ∈ cs, wtE c.ex < 900000) (hn : ∀ c ∈ cs, chkE c.ex = 0 → numE M c.ex)
    : Spec Tryz.prog 104 [v] X fun u _ => u = .int .i64 (chkAll cs) := by
  have hcs := h
  obtain ⟨rows, hr, hrl, hrow⟩ := h
  obtain ⟨A, cp, rfl⟩ := hr.form
  have hcap := hr.cap (by omega)
  by_cases h32 : 32 < cs.length
  · refine Spec.enter Tryz.func104 rfl Tryz.ntmps104 rfl ?_
    intro w0 hw0
    refine T.seq <| T.region <| SL.v (op_assign (v := .int .i64 ((0 : Nat) : Int)) rfl) <| SL.nil <| T.seq <| T.seq <| T.region <| SL.mv rfl <| SL.v (op_lenS Tryz.underlying119 rfl) <| SL.v (op_gtrT rfl rfl (by omega)) ?_
    refine SL.nil <| T.condT rfl <| T.seq <| T.region <| SL.v (op_assign (v := .int .i64 ((3 : Nat) : Int)) rfl) <| SL.nil <| T.ret1 rfl (ResIs.tmp rfl) ?_
    rw [chkAll, if_pos h32]; rfl
  refine Spec.enter Tryz.func104 rfl Tryz.ntmps104 rfl ?_
  intro w0 hw0
  refine T.seq <| T.region <| SL.v (op_assign (v := .int .i64 ((0 : Nat) : Int)) rfl) <| SL.nil <| T.seq <| T.seq <| T.region <| SL.mv rfl <| SL.v (op_lenS Tryz.underlying119 rfl) <| SL.v (op_gtrF rfl rfl (by omega)) ?_
  refine SL.nil <| T.condF rfl <| T.skip <| T.seq <| T.seq <| T.region <| SL.mv rfl <| SL.v (op_lenS Tryz.underlying119 rfl) <| SL.v (op_move (v := .int .i64 ((0 : Nat) : Int)) rfl) <| SL.nil <| T.block <| T.loopW (fun m env own X' => ∃ i : Nat, m = rows.length - i ∧ i ≤ rows.length ∧ X.le X' ∧ chkCs [] (cs.take i) = 0 ∧ env = [(0, .slice A rows.length cp), (9, .slice A rows.length cp), (10, .int .i64 (rows.length : Int)), (11, .int .i64 (i : Int))] ∧ own = []) rows.length ⟨0, by simp, by omega, PMap.le_refl _, by simp [chkCs], rfl, rfl⟩ (by repeat (first | exact Sub.nil | refine Sub.cons rfl ?_)) ?_
  rintro m _ _ X1 ⟨i, rfl, hi, hX1, hz0, rfl, rfl⟩
  rcases Nat.lt_or_ge i rows.length with hil | hil
  · obtain ⟨r2, hr2⟩ : ∃ r2, rows[i]? = some r2 := ⟨_, List.getElem?_eq_getElem hil⟩
    obtain ⟨c, hc2⟩ : ∃ c, cs[i]? = some c := ⟨_, List.getElem?_eq_getElem (by omega)⟩
    have hmc := List.mem_of_getElem? hc2
    have hrc := hrow i c r2 hc2 hr2
    have htk : ConsR X (.slice (slA A cp 0 7) i cp) (cs.take i) := ⟨rows.take i, hr.take (sz := 7) (by omega), by rw [List.length_take, List.length_take]; omega, fun q d r a b => by
      rw [List.getElem?_take] at a b
      split at a
      · rename_i hq
        rw [if_pos hq] at b
        exact hrow q d r a b
      · cases a⟩
    obtain ⟨bA, pre, rfl, hbA⟩ := hr.blk (by omega)
    obtain ⟨o8, n8, a8, b8, l8, c8, l9, c9, rfl⟩ := hrc.form
    have hex := hrc.2.2.2
    simp only at hex
    have hwe := hww c hmc
    have hlt : (cs.take i).length < 1000 := by rw [List.length_take]; omega
    refine T.seq <| T.region <| SL.v (op_lssT rfl rfl (by omega)) ?_
    refine SL.nil <| T.seq <| T.condT rfl <| T.skip <| T.seq <| T.block <| T.seq <| T.region <| SL.mv rfl <| SL.v (op_indexN Tryz.underlying119 ty123 rfl rfl (by omega)) ?_
    refine SL.v (op_loadX (v := .agg #[.bool c.enf, .int .u8 (c.kind : Int), .string c.name, .int .u8 (o8 : Int), .int .i64 n8, .slice a8 l8 c8, .slice b8 l9 c9]) ty123 rfl (hbA.mono hX1) (row_read rc7_len hr2 (by omega))) ?_
    by_cases hk1 : c.kind < 1
    · have he : errC ((cs.take i).map (·.name)) c = 1 := by rw [errC, if_pos (.inl hk1)]
      refine SL.w (op_alloc z123) ?_
      rintro _ _ _ ⟨B4, rfl, rfl, rfl⟩
      refine SL.as rfl <| SL.w (op_store ty123 rfl rfl (by repeat constructor) rfl rfl rfl) ?_
      rintro _ _ _ ⟨rfl, rfl⟩
      refine SL.nil <| T.seq <| T.block <| T.seq <| T.region <| SL.v (op_fieldAddr fa123_1 rfl) <| SL.v (op_load ty41 rfl (by repeat constructor) rfl) ?_
      refine SL.v (op_lssT rfl rfl (by omega)) ?_
      refine SL.mv rfl <| SL.skip rfl rfl ?_
      refine SL.skip rfl rfl ?_
      refine SL.skip rfl rfl ?_
      refine SL.v (op_pickT rfl rfl) <| SL.as rfl <| SL.nil <| T.condT rfl <| T.seq <| T.region <| SL.v (op_assign (v := .int .i64 ((1 : Nat) : Int)) rfl) <| SL.nil <| T.ret1 rfl (ResIs.tmp rfl) ?_
      rw [chkAll, if_neg h32, chkCs_at hz0 hc2 (by rw [he]; decide), he]; rfl
    by_cases hk3 : 3 < c.kind
    · have he : errC ((cs.take i).map (·.name)) c = 1 := by rw [errC, if_pos (.inr hk3)]
      refine SL.w (op_alloc z123) ?_
      rintro _ _ _ ⟨B4, rfl, rfl, rfl⟩
      refine SL.as rfl <| SL.w (op_store ty123 rfl rfl (by repeat constructor) rfl rfl rfl) ?_
      rintro _ _ _ ⟨rfl, rfl⟩
      refine SL.nil <| T.seq <| T.block <| T.seq <| T.region <| SL.v (op_fieldAddr fa123_1 rfl) <| SL.v (op_load ty41 rfl (by repeat constructor) rfl) ?_
      refine SL.v (op_lssF rfl rfl (by omega)) ?_
      refine SL.mv rfl <| SL.v (op_fieldAddr fa123_1 rfl) <| SL.v (op_load ty41 rfl (by repeat constructor) rfl) ?_
      refine SL.v (op_gtrT rfl rfl (by omega)) ?_
      refine SL.v (op_pickF rfl rfl) <| SL.as rfl <| SL.nil <| T.condT rfl <| T.seq <| T.region <| SL.v (op_assign (v := .int .i64 ((1 : Nat) : Int)) rfl) <| SL.nil <| T.ret1 rfl (ResIs.tmp rfl) ?_
      rw [chkAll, if_neg h32, chkCs_at hz0 hc2 (by rw [he]; decide), he]; rfl
    have hk : ¬(c.kind < 1 ∨ 3 < c.kind) := fun h => by omega
    refine SL.w (op_alloc z123) ?_
    rintro _ _ _ ⟨B4, rfl, rfl, rfl⟩
    refine SL.as rfl <| SL.w (op_store ty123 rfl rfl (by repeat constructor) rfl rfl rfl) ?_
    rintro _ _ _ ⟨rfl, rfl⟩
    refine SL.nil <| T.seq <| T.block <| T.seq <| T.region <| SL.v (op_fieldAddr fa123_1 rfl) <| SL.v (op_load ty41 rfl (by repeat constructor) rfl) ?_
    refine SL.v (op_lssF rfl rfl (by omega)) ?_
    refine SL.mv rfl <| SL.v (op_fieldAddr fa123_1 rfl) <| SL.v (op_load ty41 rfl (by repeat constructor) rfl) ?_
    refine SL.v (op_gtrF rfl rfl (by omega)) ?_
    refine SL.v (op_pickF rfl rfl) <| SL.as rfl <| SL.nil <| T.pub B4 (by repeat constructor) ?_
    intro X2 hX2 hB4 _
    have hB4 : Blk X2 B4 (rc7 (c.enf, c.kind, c.name, .int .u8 (o8 : Int), .int .i64 n8, .slice a8 l8 c8, .slice b8 l9 c9)) := hB4
    refine T.condF rfl <| T.seq <| T.region <| SL.v (op_fieldAddr fa123_2 rfl) <| SL.v (op_loadX ty9 rfl (by assumption) rfl) ?_
    refine SL.w (op_callF en94 (vs := [_]) rfl (nvalid_spec)) ?_
    rintro _ _ X3 ⟨rfl, hX3, rfl⟩
    by_cases hv : validS c.name
    case neg =>
      have he : errC ((cs.take i).map (·.name)) c = 9 := by rw [errC, if_neg hk, if_pos hv]
      rw [decide_eq_false hv]
      refine SL.v (op_not rfl) <| SL.as rfl <| SL.nil <| T.condT rfl <| T.seq <| T.region <| SL.v (op_assign (v := .int .i64 ((9 : Nat) : Int)) rfl) <| SL.nil <| T.ret1 rfl (ResIs.tmp rfl) ?_
      rw [chkAll, if_neg h32, chkCs_at hz0 hc2 (by rw [he]; decide), he]; rfl
    rw [decide_eq_true hv]
    refine SL.v (op_not rfl) <| SL.as rfl <| SL.nil <| T.condF rfl <| T.seq <| T.region <| SL.mv rfl <| SL.mv rfl <| SL.v (op_sliceHi (l := i) Tryz.underlying119 ty123 rfl rfl (by omega)) ?_
    refine SL.v (op_makeFunc (vs := []) (us := [_]) rfl rfl) ?_
    have hcall := conC_spec (((htk.mono hX1).mono hX2).mono hX3) (hB4.mono hX3) hlt
    rw [List.length_take, Nat.min_eq_left (by omega)] at hlt
    refine SL.w (op_callF en151 (vs := [_, _]) rfl (hcall)) ?_
    rintro _ _ X4 ⟨rfl, hX4, rfl⟩
    by_cases hm : c.name ∈ (cs.take i).map (·.name)
    · have he : errC ((cs.take i).map (·.name)) c = 5 := by rw [errC, if_neg hk, if_neg (fun h => h hv), if_pos hm]
      rw [decide_eq_true hm]
      refine SL.as rfl <| SL.nil <| T.condT rfl <| T.seq <| T.region <| SL.v (op_assign (v := .int .i64 ((5 : Nat) : Int)) rfl) <| SL.nil <| T.ret1 rfl (ResIs.tmp rfl) ?_
      rw [chkAll, if_neg h32, chkCs_at hz0 hc2 (by rw [he]; decide), he]; rfl
    rw [decide_eq_false hm]
    have he : errC ((cs.take i).map (·.name)) c = chkE c.ex := by rw [errC, if_neg hk, if_neg (fun h => h hv), if_neg hm]
    have hX14 := ((hX1.trans' hX2).trans' hX3).trans' hX4
    refine SL.as rfl <| SL.nil <| T.condF rfl <| T.skip <| T.blk <| T.seq <| T.region <| SL.v (op_fieldAddr fa123_3 rfl) <| SL.v (op_loadX ty70 rfl ((hB4.mono hX3).mono hX4) rfl) <| SL.w (op_callF en73 (vs := [_]) rfl (chk_spec (by omega) (hex.mono hX14))) ?_
    rintro _ _ X5 ⟨rfl, hX5, rfl⟩
    by_cases hz : chkE c.ex = 0
    · skip
      refine SL.as rfl <| SL.nil <| T.seq <| T.region <| SL.mv rfl <| SL.v (op_neqF rfl rfl (by omega)) ?_
      refine SL.nil <| T.condF rfl <| T.skip <| T.blk <| T.region <| SL.v (op_addN (q := 1) rfl rfl (by omega)) ?_
      refine SL.mv rfl <| SL.nil ?_
      exact T.backW (rows.length - (i + 1)) (by omega) ⟨i + 1, rfl, by omega, hX14.trans' hX5, chkCs_snoc hz0 hc2 (he.trans hz), rfl, rfl⟩ (by repeat (first | exact Sub.nil | refine Sub.cons rfl ?_))
    · refine SL.as rfl <| SL.nil <| T.seq <| T.region <| SL.mv rfl <| SL.v (op_neqT rfl rfl (by omega)) ?_
      refine SL.nil <| T.condT rfl <| T.seq <| T.region <| SL.mv rfl <| SL.as rfl <| SL.nil <| T.ret1 rfl (ResIs.tmp rfl) ?_
      rw [chkAll, if_neg h32, chkCs_at hz0 hc2 (by rw [he]; exact hz), he, if_pos hz]
  · obtain rfl : i = rows.length := by omega
    have e : cs.take rows.length = cs := List.take_of_length_le (by omega)
    rw [e] at hz0
    have hll := linesL_len (cs := cs) fun c hc => (chkCs_mem hz0 c hc).2.2.1.2.1
    have hsz : (⟨(linesL cs).toArray⟩ : ByteArray).size = (linesL cs).length := by show (linesL cs).toArray.size = _; simp
    refine T.seq <| T.region <| SL.v (op_lssF rfl rfl (by omega)) ?_
    refine SL.nil <| T.seq <| T.condF rfl ?_
    refine T.exit (T.exitCode (T.exitCut (T.exitBlk ?_)))
    refine T.seq <| T.seq <| T.region <| SL.mv rfl <| SL.w (op_callF en153 (vs := [_]) rfl (lines_spec (hI.mono hX1) (hcs.mono hX1) hl h0 hw hww (fun c hc => hn c hc (chkCs_mem hz0 c hc).2.2.2) (chkCs_mem hz0))) ?_
    rintro _ _ X5 ⟨rfl, hX5, rfl⟩
    by_cases h8 : 8000 < (linesL cs).length
    · skip
      refine SL.v (op_lenStr Tryz.underlying9 rfl) <| SL.v (op_gtrT rfl rfl (by omega)) ?_
      refine SL.nil <| T.condT rfl <| T.seq <| T.region <| SL.v (op_assign (v := .int .i64 ((3 : Nat) : Int)) rfl) <| SL.nil <| T.ret1 rfl (ResIs.tmp rfl) ?_
      rw [chkAll, if_neg h32, if_neg (by simp [hz0]), if_pos h8]; rfl
    · refine SL.v (op_lenStr Tryz.underlying9 rfl) <| SL.v (op_gtrF rfl rfl (by omega)) ?_
      refine SL.nil <| T.condF rfl <| T.skip <| T.seq <| T.region <| SL.v (op_assign (v := .int .i64 ((0 : Nat) : Int)) rfl) <| SL.nil <| T.ret1 rfl (ResIs.tmp rfl) ?_
      rw [chkAll, if_neg h32, if_neg (by simp [hz0]), if_neg h8]; rfl
end Go.Proofs.YtnpcilglilfajaaGreatDoor
namespace Go.Proofs.YtnpcilglilfajaaGreatDoor
open Go.Shelf
def lays171_ren : Go.Shelf.Ren := ⟨fun | 171 => 109 | 243 => 157 | 246 => 189 | 283 => 207 | 284 => 208 | 285 => 209 | 286 => 210 | 129 => 179 | 317 => 213 | 318 => 214 | 319 => 215 | 320 => 216 | 337 => 218 | 338 => 133 | n => n, fun | 3 => 3 | 9 => 9 | 2 => 2 | 4 => 4 | 171 => 278 | 0 => 0 | 53 => 58 | 37 => 44 | 5 => 5 | 173 => 280 | 212 => 286 | 51 => 253 | 20 => 20 | 213 => 287 | 46 => 206 | 232 => 288 | 233 => 254 | n => n, fun | 17 => 1 | 18 => 2 | 19 => 0 | n => n⟩
theorem lays171 : Go.Proofs.LaysM.n171 Tryz.prog lays171_ren := {
  mixed := by kernel_rfl
  f129 := Tryz.func179.trans (congrArg some (by kernel_rfl))
  f171 := Tryz.func109.trans (congrArg some (by kernel_rfl))
  f243 := Tryz.func157.trans (congrArg some (by kernel_rfl))
  f246 := Tryz.func189.trans (congrArg some (by kernel_rfl))
  f283 := Tryz.func207.trans (congrArg some (by kernel_rfl))
  f284 := Tryz.func208.trans (congrArg some (by kernel_rfl))
  f285 := Tryz.func209.trans (congrArg some (by kernel_rfl))
  f286 := Tryz.func210.trans (congrArg some (by kernel_rfl))
  f317 := Tryz.func213.trans (congrArg some (by kernel_rfl))
  f318 := Tryz.func214.trans (congrArg some (by kernel_rfl))
  f319 := Tryz.func215.trans (congrArg some (by kernel_rfl))
  f320 := Tryz.func216.trans (congrArg some (by kernel_rfl))
  f337 := Tryz.func218.trans (congrArg some (by kernel_rfl))
  f338 := Tryz.func133.trans (congrArg some (by kernel_rfl))
  t0 := Tryz.underlying0
  a0 := Tryz.isAgg0
  z0 := Tryz.sizeOf0
  v0 := Tryz.zeroValue0
  t2 := Tryz.underlying2
  a2 := Tryz.isAgg2
  z2 := Tryz.sizeOf2
  v2 := Tryz.zeroValue2
  t3 := Tryz.underlying3
  a3 := Tryz.isAgg3
  z3 := Tryz.sizeOf3
  v3 := Tryz.zeroValue3
  t4 := Tryz.underlying4
  a4 := Tryz.isAgg4
  z4 := Tryz.sizeOf4
  v4 := Tryz.zeroValue4
  t5 := Tryz.underlying5
  a5 := Tryz.isAgg5
  z5 := Tryz.sizeOf5
  v5 := Tryz.zeroValue5
  t9 := Tryz.underlying9
  a9 := Tryz.isAgg9
  z9 := Tryz.sizeOf9
  v9 := Tryz.zeroValue9
  t20 := Tryz.underlying20
  a20 := Tryz.isAgg20
  z20 := Tryz.sizeOf20
  v20 := Tryz.zeroValue20
  t37 := Tryz.underlying44
  a37 := Tryz.isAgg44
  z37 := Tryz.sizeOf44
  v37 := Tryz.zeroValue44
  t46 := Tryz.underlying206
  a46 := Tryz.isAgg206
  z46 := Tryz.sizeOf206
  v46 := Tryz.zeroValue206
  t51 := Tryz.underlying253
  a51 := Tryz.isAgg253
  z51 := Tryz.sizeOf253
  v51 := Tryz.zeroValue253
  t53 := Tryz.underlying58
  a53 := Tryz.isAgg58
  z53 := Tryz.sizeOf58
  v53 := Tryz.zeroValue58
  t171 := Tryz.underlying278
  a171 := Tryz.isAgg278
  z171 := Tryz.sizeOf278
  v171 := Tryz.zeroValue278
  t173 := Tryz.underlying280
  a173 := Tryz.isAgg280
  z173 := Tryz.sizeOf280
  v173 := Tryz.zeroValue280
  t212 := Tryz.underlying286
  a212 := Tryz.isAgg286
  z212 := Tryz.sizeOf286
  v212 := Tryz.zeroValue286
  t213 := Tryz.underlying287
  a213 := Tryz.isAgg287
  z213 := Tryz.sizeOf287
  t232 := Tryz.underlying288
  a232 := Tryz.isAgg288
  z232 := Tryz.sizeOf288
  v232 := Tryz.zeroValue288
  t233 := Tryz.underlying254
  a233 := Tryz.isAgg254
  z233 := Tryz.sizeOf254
  v233 := Tryz.zeroValue254
  g17 := by kernel_rfl
  g18 := by kernel_rfl
  g19 := by kernel_rfl
  i0 := by kernel_rfl
  i2 := by kernel_rfl
  i3 := by kernel_rfl
  i4 := by kernel_rfl
  i5 := by kernel_rfl
  i9 := by kernel_rfl
  i20 := by kernel_rfl
  i37 := by kernel_rfl
  i46 := by kernel_rfl
  i51 := by kernel_rfl
  i53 := by kernel_rfl
  i171 := by kernel_rfl
  i173 := by kernel_rfl
  i212 := by kernel_rfl
  i232 := by kernel_rfl
  i233 := by kernel_rfl
  m17 := by kernel_rfl
  m18 := by kernel_rfl
  m19 := by kernel_rfl }
end Go.Proofs.YtnpcilglilfajaaGreatDoor
namespace Go.Proofs.YtnpcilglilfajaaGreatDoor
open Go.RowKit
/-- The table of powers of ten lies as its initialiser lays it. -/
def Pow10 (X : PMap) : Prop := ∀ w, PIn X w → Lib.TabIs Tryz.prog w "internal/strconv.uint64pow10" .u64 Lib.pow10Tab
theorem Pow10.mono {X X' : PMap} (h : Pow10 X) (hX : X.le X') : Pow10 X' := fun w hw => h w fun k o hk => hw k o (hX k o hk)
theorem decG_lib : ∀ (f v : Nat), v < 10 ^ f → 0 < f → decG f v = Lib.decDigits v
  | 0, _, _, h => by omega
  | f + 1, v, h, _ => by
    rw [decG, Lib.decDigits]
    by_cases hv : v < 10
    · rw [if_pos hv, dif_pos hv]
    · rw [if_neg hv, dif_neg hv]
      have h1 : v / 10 < 10 ^ f := by rw [Nat.pow_succ] at h; omega
      rw [decG_lib f (v / 10) h1 (Nat.pos_of_ne_zero fun e => by subst e; simp at h1; omega)]
theorem itoaL_spec {X : PMap} (hP : Pow10 X) (v : Nat) (hv : v ≤ 9223372036854775807) : Spec Tryz.prog 109 [.int .i64 (v : Int)] X fun u _ => u = .string (decB v) := fun w hw => by
  have h := Any.strconv_Itoa lays171 (v : Int) (by omega) (by omega) w (hP w hw)
  refine h.mono ?_
  rintro e w' ⟨rfl, k, os, rfl⟩
  have e1 : (⟨(Lib.itoa (v : Int)).toArray⟩ : ByteArray) = decB v := by
    rw [Lib.itoa, if_neg (by omega), Int.toNat_natCast, decB, decG_lib 20 v (by omega) (by omega)]
  have hlt : ∀ k' : Nat, k' < w.heap.size → (Sort.grow (w.drewN k) os).heap[k']? = w.heap[k']? := fun k' hk => by
    show (w.heap ++ os)[k']? = _
    rw [Array.getElem?_append_left hk]
  refine ⟨_, X, rfl, ⟨rfl, rfl, rfl, ?_, hlt⟩, fun k' o hk => ?_, fun _ _ => rfl, by rw [e1]⟩
  · show w.heap.size ≤ (w.heap ++ os).size
    simp
  · rw [hlt k' (hw.lt hk)]; exact hw k' o hk
end Go.Proofs.YtnpcilglilfajaaGreatDoor
namespace Go.Proofs.YtnpcilglilfajaaGreatDoor
open Go.RowKit
theorem itoa_ok {X : PMap} (hP : Pow10 X) : ItoaOk 1000000 X := fun _ hX v hv => itoaL_spec (hP.mono hX) v (by omega)
mutual
theorem num_of : ∀ e : Ex, nodeE e = 0 → numE 1000000 e
  | .mk op n ns al, h => by
    obtain ⟨h1, h2⟩ := node_ok h
    obtain ⟨_, _, _, _, _, _, _, _, o9⟩ := own_ok h1
    exact (show (op = 1 → n < ((1000000 : Nat) : Int)) ∧ numL 1000000 al from ⟨fun _ => by omega, num_ofL al h2⟩)
theorem num_ofL : ∀ l : List Ex, nodeL l = 0 → numL 1000000 l
  | [], _ => trivial
  | a :: l, h => by
    have h1 : nodeE a = 0 := nodeL_zero h a (by simp)
    rw [nodeL, if_neg (fun h => h h1)] at h
    exact (show numE 1000000 a ∧ numL 1000000 l from ⟨num_of a h1, num_ofL l h⟩)
end
end Go.Proofs.YtnpcilglilfajaaGreatDoor
namespace Go.Proofs.YtnpcilglilfajaaGreatDoor
open Go.RowKit
section
variable {P : Program} {n : NM} {own : Own} {X : PMap} {env : Env}
theorem op_sliceData0 {x : Operand} {ts : Array TypeId} {l c : Nat} (hx : eev env x = some (.slice none l c)) : OpY P n env own X (.call { callee := .builtin .unsafeSliceData, args := #[x], argTypes := ts }) (.pointer none) := by
  intro a W oper hop ha _
  have hr : (Builtin.unsafeSliceData_ ts oper.type #[.slice none l c]).run P W = .ok (.pointer none) W := rfl
  simp only [execOp, hop, resolve, invoke, builtin, Sem.run_bind, Sem.run_pure, Result.andThen_ok, List.map_toArray, List.map_cons, List.map_nil, ha.eval hx, hr]
theorem op_unsafeStr0 {x y : Operand} {pt it : TypeId} (hx : eev env x = some (.pointer none)) (hy : eev env y = some (.int .i64 0)) : OpY P n env own X (.call { callee := .builtin .unsafeString, args := #[x, y], argTypes := #[pt, it] }) (.string ⟨#[]⟩) := by
  intro a W oper hop ha _
  have hr : (Builtin.unsafeString_ #[pt, it] oper.type #[.pointer none, .int .i64 0]).run P W = .ok (.string ⟨#[]⟩) W := rfl
  simp only [execOp, hop, resolve, invoke, builtin, Sem.run_bind, Sem.run_pure, Result.andThen_ok, List.map_toArray, List.map_cons, List.map_nil, ha.eval hx, ha.eval hy, hr]
end
theorem bstring0_spec {X : PMap} {b : Nat} {p : Value} : SpecM Tryz.prog 110 [.pointer (some ⟨b, 0, none⟩)] X [BldO b p (.slice none 0 0)] fun u L' _ => u = .string ⟨#[]⟩ ∧ L' = [BldO b p (.slice none 0 0)] := by
  refine SpecM.enter Tryz.func110 rfl Tryz.ntmps110 rfl ?_
  intro w0 X0 own0
  refine T.perm (own' := BldO b p (.slice none 0 0) :: own0) (List.Perm.refl _) ?_
  refine T.seq <| T.region <| SL.as rfl <| SL.nil <| T.seq <| T.draw (by kernel_rfl) 12 [.t 0, .t 1, .t 2, .t 3, .t 4, .t 5, .t 6, .t 7, .t 8, .t 9, .r 10, .t 11] (by kernel_rfl) ?_
  refine SD.take rfl panicBody (op_move rfl) rfl rfl ?_
  refine SD.take rfl panicBody (op_nil rfl) rfl rfl ?_
  refine SD.take rfl panicBody (op_fieldAddr fa192_1 rfl) rfl rfl ?_
  refine SD.take rfl panicBody (op_load ty44 rfl (by repeat constructor) rfl) rfl rfl ?_
  refine SD.take rfl panicBody (op_sliceData0 rfl) rfl rfl ?_
  refine SD.take rfl panicBody (op_move rfl) rfl rfl ?_
  refine SD.take rfl panicBody (op_nil rfl) rfl rfl ?_
  refine SD.take rfl panicBody (op_fieldAddr fa192_1 rfl) rfl rfl ?_
  refine SD.take rfl panicBody (op_load ty44 rfl (by repeat constructor) rfl) rfl rfl ?_
  refine SD.take rfl panicBody (op_lenS Tryz.underlying44 rfl) rfl rfl ?_
  refine SD.run rfl (opx_of (fun u => u = .string ⟨#[]⟩) (op_unsafeStr0 rfl rfl) rfl rfl) rfl rfl ?_
  rintro _ _ _ ⟨rfl, rfl, rfl⟩
  refine SD.take rfl panicBody (op_assign rfl) rfl rfl ?_
  refine SD.nil ?_
  show SL _ _ _ _ _ _ _ [] _ _ _
  refine SL.nil <| T.retM1 [BldO b p (.slice none 0 0)] rfl (ResIs.tmp rfl) (List.Perm.refl _) ?_
  exact ⟨PMap.le_refl _, rfl, rfl⟩
theorem lines0_spec {X : PMap} {A : Option Addr} {c : Nat} : Spec Tryz.prog 153 [.slice A 0 c] X fun u _ => u = .string ⟨#[]⟩ := by
  refine Spec.enter Tryz.func153 rfl Tryz.ntmps153 rfl ?_
  intro w0 hw0
  refine T.seq <| T.region <| SL.as rfl <| SL.nil <| T.seq <| T.region <| SL.w (op_alloc z192) ?_
  rintro _ _ _ ⟨B3, rfl, rfl, rfl⟩
  refine SL.nil <| T.seq <| T.seq <| T.region <| SL.mv rfl <| SL.v (op_lenS Tryz.underlying119 rfl) <| SL.v (op_move (v := .int .i64 ((0 : Nat) : Int)) rfl) <| SL.nil <| T.block <| T.unrollStart 1 ?_
  refine T.unroll ?_
  refine T.seq <| T.region <| SL.v (op_lssF rfl rfl (by omega)) ?_
  refine SL.nil <| T.seq <| T.condF rfl ?_
  refine T.exit (T.exitCode (T.exitMore (T.exitBlk ?_)))
  refine T.seq <| T.region <| SL.w (op_callM en110 (vs := [_]) rfl (bstring0_spec) rfl) ?_
  rintro _ _ X5 ⟨_, rfl, hX5, rfl, rfl⟩
  refine SL.as rfl <| SL.nil <| T.ret1 rfl (ResIs.tmp rfl) ?_
  rfl
theorem check0_spec {X : PMap} {A : Option Addr} {c : Nat} : Spec Tryz.prog 104 [.slice A 0 c] X fun u _ => u = .int .i64 0 := by
  refine Spec.enter Tryz.func104 rfl Tryz.ntmps104 rfl ?_
  intro w0 hw0
  refine T.seq <| T.region <| SL.v (op_assign (v := .int .i64 ((0 : Nat) : Int)) rfl) <| SL.nil <| T.seq <| T.seq <| T.region <| SL.mv rfl <| SL.v (op_lenS Tryz.underlying119 rfl) <| SL.v (op_gtrF rfl rfl (by omega)) ?_
  refine SL.nil <| T.condF rfl <| T.skip <| T.seq <| T.seq <| T.region <| SL.mv rfl <| SL.v (op_lenS Tryz.underlying119 rfl) <| SL.v (op_move (v := .int .i64 ((0 : Nat) : Int)) rfl) <| SL.nil <| T.block <| T.unrollStart 1 ?_
  refine T.unroll ?_
  refine T.seq <| T.region <| SL.v (op_lssF rfl rfl (by omega)) ?_
  refine SL.nil <| T.seq <| T.condF rfl ?_
  refine T.exit (T.exitCode (T.exitMore (T.exitBlk ?_)))
  refine T.seq <| T.seq <| T.region <| SL.mv rfl <| SL.w (op_callF en153 (vs := [_]) rfl (lines0_spec)) ?_
  rintro _ _ X5 ⟨rfl, hX5, rfl⟩
  have k0 : (⟨#[]⟩ : ByteArray).size = 0 := rfl
  refine SL.v (op_lenStr Tryz.underlying9 rfl) <| SL.v (op_gtrF rfl rfl (by omega)) ?_
  refine SL.nil <| T.condF rfl <| T.skip <| T.seq <| T.region <| SL.v (op_assign (v := .int .i64 ((0 : Nat) : Int)) rfl) <| SL.nil <| T.ret1 rfl (ResIs.tmp rfl) ?_
  rfl
theorem ConsR.form {X : PMap} {v : Value} {cs : List Con} (h : ConsR X v cs) : ∃ A cp, v = .slice A cs.length cp := by
  obtain ⟨rows, hr, hrl, _⟩ := h
  obtain ⟨A, cp, rfl⟩ := hr.form
  exact ⟨A, cp, by rw [hrl]⟩
theorem checkA_spec {X : PMap} (hP : Pow10 X) {v : Value} {cs : List Con} (h : ConsR X v cs) (hl : cs.length ≤ 40) (hw : wtC cs < 15000000) (hww : ∀ c ∈ cs, wtE c.ex < 900000) : Spec Tryz.prog 104 [v] X fun u _ => u = .int .i64 (chkAll cs) := by
  rcases Nat.eq_zero_or_pos cs.length with h0 | h0
  · obtain rfl := List.eq_nil_of_length_eq_zero h0
    obtain ⟨A, cp, rfl⟩ := h.form
    refine check0_spec.mono fun u _ _ hu => ?_
    rw [hu]; simp [chkAll, chkCs, linesL]
  · exact check_spec (itoa_ok hP) h hl h0 hw hww fun c _ hc => num_of c.ex (chkE_node hc)
end Go.Proofs.YtnpcilglilfajaaGreatDoor
namespace Go.Proofs.YtnpcilglilfajaaGreatDoor
open Go.RowKit
end Go.Proofs.YtnpcilglilfajaaGreatDoor
namespace Go.Proofs.YtnpcilglilfajaaGreatDoor
open Go.RowKit
/-- Ascending, each one once. -/
def StrS (l : List ByteArray) : Prop := l.Pairwise fun a b => ltS a b = true
theorem StrS.nodup {l : List ByteArray} (h : StrS l) : l.Nodup := h.imp fun {a b} hab e => by subst e; rw [lt_irr] at hab; cases hab
theorem StrS.same : ∀ {l m : List ByteArray}, StrS l → StrS m → (∀ x, x ∈ l ↔ x ∈ m) → l = m
  | [], [], _, _, _ => rfl
  | [], b :: m, _, _, h => by have := (h b).2 (by simp); cases this
  | a :: l, [], _, _, h => by have := (h a).1 (by simp); cases this
  | a :: l, b :: m, h1, h2, h => by
    obtain ⟨g1, g2⟩ := List.pairwise_cons.1 h1
    obtain ⟨k1, k2⟩ := List.pairwise_cons.1 h2
    have hab : a = b := by
      rcases List.mem_cons.1 ((h a).1 (by simp)) with e | hm
      · exact e
      · rcases List.mem_cons.1 ((h b).2 (by simp)) with e | hl
        · exact e.symm
        · have := lt_asym (k1 a hm)
          rw [g1 b hl] at this; cases this
    subst hab
    rw [StrS.same g2 k2 fun x => ?_]
    have hx := h x
    constructor
    · intro hxl
      rcases List.mem_cons.1 (hx.1 (by simp [hxl])) with e | hm
      · subst e; have := g1 x hxl; rw [lt_irr] at this; cases this
      · exact hm
    · intro hxm
      rcases List.mem_cons.1 (hx.2 (by simp [hxm])) with e | hm
      · subst e; have := k1 x hxm; rw [lt_irr] at this; cases this
      · exact hm
theorem strs_snoc (l : List ByteArray) (s : ByteArray) : strsC l ++ [.string s] = strsC (l ++ [s]) := by simp [strsC]
theorem growS_snoc {y : ByteArray} {vo : Value} {cs : List ByteArray} {G : Own} (h : GrowS 9 1 vo (cs.length + 1) (strsC cs ++ [.string y]) G) : GrowS 9 1 vo (cs ++ [y]).length (strsC (cs ++ [y])) G := by rw [List.length_append, ← strs_snoc]; exact h
end Go.Proofs.YtnpcilglilfajaaGreatDoor
namespace Go.Proofs.YtnpcilglilfajaaGreatDoor
section
set_option maxRecDepth 100000
theorem en155 : Enters Tryz.prog 155 := enters_mk Tryz.func155 (by kernel_rfl) rfl
theorem ty121 : Ty Tryz.prog 121 true 7 := ⟨⟨_, Tryz.underlying121, rfl⟩, by kernel_rfl⟩
end
open Go.RowKit
theorem RowR.lent {α : Type} {rc : α → List Value} {X1 : PMap} {e : TypeId} {size : Nat} {v : Value} {rs : List α} {G : Own} (hg : GrowS e size v rs.length (rs.map rc).flatten G) (h2 : ∀ p ∈ G, Blk X1 p.b p.cs) : RowR rc X1 v rs := by
  rcases hg with ⟨h0, _, rfl, _⟩ | ⟨b, cap, rfl, rfl, h3, h4, _⟩
  · exact .inl ⟨List.eq_nil_of_length_eq_zero h0, _, _, rfl⟩
  · rcases Nat.eq_zero_or_pos rs.length with h0 | h0
    · exact .inl ⟨List.eq_nil_of_length_eq_zero h0, _, _, by rw [h0]⟩
    · exact .inr ⟨h0, b, cap, [], rfl, h2 ⟨b, _, e, cap * size⟩ (by simp), h3, h4⟩
theorem rcheck_spec {X : PMap} {v : Value} {cs : List Con} (h : ConsRi X v cs) (hl : cs.length ≤ 40) (hw : wtC cs < 15000000) (hww : ∀ c ∈ cs, wtE c.ex < 900000) : Spec Tryz.prog 105 [v] X fun u _ => u = .int .i64 (chkAll cs) := by
  obtain ⟨rows, hr, hrl, hrow⟩ := h
  obtain ⟨A, cp, rfl⟩ := hr.form
  have hmx : maxLen = 9223372036854775807 := rfl
  by_cases h32 : 32 < cs.length
  · refine Spec.enter Tryz.func105 rfl Tryz.ntmps105 rfl ?_
    intro w0 hw0
    refine T.seq <| T.region <| SL.v (op_assign (v := .int .i64 ((0 : Nat) : Int)) rfl) <| SL.nil <| T.seq <| T.seq <| T.region <| SL.mv rfl <| SL.v (op_lenS Tryz.underlying117 rfl) <| SL.v (op_gtrT rfl rfl (by omega)) ?_
    refine SL.nil <| T.condT rfl <| T.seq <| T.region <| SL.v (op_assign (v := .int .i64 ((3 : Nat) : Int)) rfl) <| SL.nil <| T.ret1 rfl (ResIs.tmp rfl) ?_
    rw [chkAll, if_pos h32]; rfl
  refine Spec.enter Tryz.func105 rfl Tryz.ntmps105 rfl ?_
  intro w0 hw0
  refine T.seq <| T.region <| SL.v (op_assign (v := .int .i64 ((0 : Nat) : Int)) rfl) <| SL.nil <| T.seq <| T.seq <| T.region <| SL.mv rfl <| SL.v (op_lenS Tryz.underlying117 rfl) <| SL.v (op_gtrF rfl rfl (by omega)) ?_
  refine SL.nil <| T.condF rfl <| T.skip <| T.seq <| T.region <| SL.v (op_assign (v := .int .i64 ((0 : Nat) : Int)) rfl) <| SL.nil <| T.seq <| T.region <| SL.as rfl <| SL.nil <| T.seq <| T.seq <| T.region <| SL.mv rfl ?_
  refine SL.v (op_lenS Tryz.underlying117 rfl) <| SL.v (op_move (v := .int .i64 ((0 : Nat) : Int)) rfl) <| SL.nil <| T.block <| T.loopW (fun m env own X' => ∃ (i : Nat) (vo : Value), m = rows.length - i ∧ i ≤ rows.length ∧ X.le X' ∧ chkCs [] (cs.take i) = 0 ∧ GrowS 9 1 vo ((cs.take i).map (·.name)).length (strsC ((cs.take i).map (·.name))) own ∧ env = [(3, .int .i64 ((linesL (cs.take i)).length : Int)), (4, vo), (11, .slice A rows.length cp), (12, .int .i64 (rows.length : Int)), (13, .int .i64 (i : Int))]) rows.length ⟨0, _, by simp, by omega, PMap.le_refl _, by simp [chkCs], GrowS.nil, rfl⟩ (by repeat (first | exact Sub.nil | refine Sub.cons rfl ?_)) ?_
  rintro m _ G X1 ⟨i, vo, rfl, hi, hX1, hz0, hG, rfl⟩
  have hll := linesL_len (cs := cs.take i) fun c hc => (chkCs_mem hz0 c hc).2.2.1.2.1
  have hwt := wtC_take_le cs i
  have hti : (cs.take i).length ≤ 40 := by rw [List.length_take]; omega
  obtain ⟨Av, cv, rfl⟩ := hG.form
  rcases Nat.lt_or_ge i rows.length with hil | hil
  · obtain ⟨r2, hr2⟩ : ∃ r2, rows[i]? = some r2 := ⟨_, List.getElem?_eq_getElem hil⟩
    obtain ⟨c, hc2⟩ : ∃ c, cs[i]? = some c := ⟨_, List.getElem?_eq_getElem (by omega)⟩
    have hmc := List.mem_of_getElem? hc2
    have hrc := hrow i c r2 hc2 hr2
    obtain ⟨bA, pre, rfl, hbA⟩ := hr.blk (by omega)
    have hrc0 := hrc
    obtain ⟨o8, n8, a8, b8, l8, c8, l9, c9, rfl⟩ := hrc.form
    have hex := hrc.2.2.2
    simp only at hex
    have hwe := hww c hmc
    have hts := take_snoc hc2
    refine T.seq <| T.region <| SL.v (op_lssT rfl rfl (by omega)) ?_
    refine SL.nil <| T.seq <| T.condT rfl <| T.skip <| T.seq <| T.block <| T.seq <| T.region <| SL.v (op_indexN Tryz.underlying117 ty121 rfl rfl (by omega)) ?_
    refine SL.v (op_loadX (v := .agg #[.bool c.enf, .int .i64 (c.kind : Int), .string c.name, .int .i64 (o8 : Int), .int .i64 n8, .slice a8 l8 c8, .slice b8 l9 c9]) ty121 rfl (hbA.mono hX1) (row_read rc7i_len hr2 (by omega))) ?_
    by_cases hk1 : c.kind < 1
    · have he : errC ((cs.take i).map (·.name)) c = 1 := by rw [errC, if_pos (.inl hk1)]
      refine SL.w (op_alloc z121) ?_
      rintro _ _ _ ⟨B6, rfl, rfl, rfl⟩
      refine SL.w (op_store ty121 rfl rfl (by repeat constructor) rfl rfl rfl) ?_
      rintro _ _ _ ⟨rfl, rfl⟩
      refine SL.nil <| T.seq <| T.seq <| T.region <| SL.v (op_fieldAddr fa121_1 rfl) <| SL.v (op_load ty3 rfl (by repeat constructor) rfl) ?_
      refine SL.v (op_lssT rfl rfl (by omega)) ?_
      refine SL.mv rfl <| SL.skip rfl rfl ?_
      refine SL.skip rfl rfl ?_
      refine SL.skip rfl rfl ?_
      refine SL.v (op_pickT rfl rfl) <| SL.nil <| T.condT rfl <| T.seq <| T.region <| SL.v (op_assign (v := .int .i64 ((1 : Nat) : Int)) rfl) <| SL.nil <| T.ret1 rfl (ResIs.tmp rfl) ?_
      rw [chkAll, if_neg h32, chkCs_at hz0 hc2 (by rw [he]; decide), he]; rfl
    by_cases hk3 : 3 < c.kind
    · have he : errC ((cs.take i).map (·.name)) c = 1 := by rw [errC, if_pos (.inr hk3)]
      refine SL.w (op_alloc z121) ?_
      rintro _ _ _ ⟨B6, rfl, rfl, rfl⟩
      refine SL.w (op_store ty121 rfl rfl (by repeat constructor) rfl rfl rfl) ?_
      rintro _ _ _ ⟨rfl, rfl⟩
      refine SL.nil <| T.seq <| T.seq <| T.region <| SL.v (op_fieldAddr fa121_1 rfl) <| SL.v (op_load ty3 rfl (by repeat constructor) rfl) ?_
      refine SL.v (op_lssF rfl rfl (by omega)) ?_
      refine SL.mv rfl <| SL.v (op_fieldAddr fa121_1 rfl) <| SL.v (op_load ty3 rfl (by repeat constructor) rfl) ?_
      refine SL.v (op_gtrT rfl rfl (by omega)) ?_
      refine SL.v (op_pickF rfl rfl) <| SL.nil <| T.condT rfl <| T.seq <| T.region <| SL.v (op_assign (v := .int .i64 ((1 : Nat) : Int)) rfl) <| SL.nil <| T.ret1 rfl (ResIs.tmp rfl) ?_
      rw [chkAll, if_neg h32, chkCs_at hz0 hc2 (by rw [he]; decide), he]; rfl
    have hk : ¬(c.kind < 1 ∨ 3 < c.kind) := fun h => by omega
    refine SL.w (op_alloc z121) ?_
    rintro _ _ _ ⟨B6, rfl, rfl, rfl⟩
    refine SL.w (op_store ty121 rfl rfl (by repeat constructor) rfl rfl rfl) ?_
    rintro _ _ _ ⟨rfl, rfl⟩
    refine SL.nil <| T.seq <| T.seq <| T.region <| SL.v (op_fieldAddr fa121_1 rfl) <| SL.v (op_load ty3 rfl (by repeat constructor) rfl) ?_
    refine SL.v (op_lssF rfl rfl (by omega)) ?_
    refine SL.mv rfl <| SL.v (op_fieldAddr fa121_1 rfl) <| SL.v (op_load ty3 rfl (by repeat constructor) rfl) ?_
    refine SL.v (op_gtrF rfl rfl (by omega)) ?_
    refine SL.v (op_pickF rfl rfl) <| SL.nil <| T.condF rfl <| T.skip <| T.seq <| T.seq <| T.region <| SL.v (op_fieldAddr fa121_2 rfl) <| SL.v (op_load ty9 rfl (by repeat constructor) rfl) ?_
    refine SL.w (op_callF en154 (vs := [_]) rfl (rvalid_spec)) ?_
    rintro _ _ X3 ⟨rfl, hX3, rfl⟩
    by_cases hv : validS c.name
    case neg =>
      have he : errC ((cs.take i).map (·.name)) c = 9 := by rw [errC, if_neg hk, if_pos hv]
      rw [decide_eq_false hv]
      refine SL.v (op_not rfl) <| SL.nil <| T.condT rfl <| T.seq <| T.region <| SL.v (op_assign (v := .int .i64 ((9 : Nat) : Int)) rfl) <| SL.nil <| T.ret1 rfl (ResIs.tmp rfl) ?_
      rw [chkAll, if_neg h32, chkCs_at hz0 hc2 (by rw [he]; decide), he]; rfl
    rw [decide_eq_true hv]
    refine SL.v (op_not rfl) <| SL.nil <| T.condF rfl <| T.skip <| T.seq <| T.seq <| T.region <| SL.mv rfl <| SL.v (op_fieldAddr fa121_2 rfl) <| SL.v (op_load ty9 rfl (by repeat constructor) rfl) ?_
    refine SL.w (op_callLend en128 (vs := [_, _]) rfl ((fun X1 h1 h2 => (number_spec8 (s := c.name) (RowR.lent (rc := strC) (by rw [strsC_flat]; exact hG) (fun p hp => h2 p (List.mem_cons_of_mem _ hp))) (by rw [List.length_map]; omega) : Spec _ _ _ _ fun u _ => ∃ k : Int, u = .int .i64 k ∧ (0 < k ↔ c.name ∈ (cs.take i).map (·.name)) ∧ 0 ≤ k)))) ?_
    rintro _ _ _ ⟨rfl, rfl, k, rfl, hkm, hk0⟩
    by_cases hm : c.name ∈ (cs.take i).map (·.name)
    · have he : errC ((cs.take i).map (·.name)) c = 5 := by rw [errC, if_neg hk, if_neg (fun h => h hv), if_pos hm]
      have hkp := hkm.2 hm
      refine SL.v (op_gtrT rfl rfl (by omega)) ?_
      refine SL.nil <| T.condT rfl <| T.seq <| T.region <| SL.v (op_assign (v := .int .i64 ((5 : Nat) : Int)) rfl) <| SL.nil <| T.ret1 rfl (ResIs.tmp rfl) ?_
      rw [chkAll, if_neg h32, chkCs_at hz0 hc2 (by rw [he]; decide), he]; rfl
    have he : errC ((cs.take i).map (·.name)) c = chkE c.ex := by rw [errC, if_neg hk, if_neg (fun h => h hv), if_neg hm]
    have hkn : ¬0 < k := fun h => hm (hkm.1 h)
    refine SL.v (op_gtrF rfl rfl (by omega)) ?_
    refine SL.nil <| T.condF rfl <| T.skip <| T.seq <| T.region <| SL.mv rfl <| SL.v (op_fieldAddr fa121_2 rfl) <| SL.v (op_load ty9 rfl (by repeat constructor) rfl) ?_
    refine SL.w (op_buildSlice Tryz.underlying59 bs9 (qs := [(0, _)]) rfl rfl rfl rfl rfl) ?_
    rintro _ _ _ ⟨B37, rfl, rfl, rfl⟩
    refine SL.w (op_appendG (own0 := [_]) sl59 rfl hG rfl rfl rfl (by rw [List.length_map]; omega) (by rw [List.length_map]; omega)) ?_
    rintro vo2 _ _ ⟨G2, rfl, rfl, hG2⟩
    have hG2 := growS_snoc hG2
    refine SL.as rfl <| SL.nil <| T.seq <| T.region <| SL.v (op_fieldAddr fa121_3 rfl) <| SL.v (op_load ty62 rfl (by repeat constructor) rfl) ?_
    have hcc := rchk_spec (Nat.lt_trans hwe (by omega)) ((hex.mono hX1).mono hX3)
    try simp only at hcc
    refine SL.w (op_callF en75 (vs := [_]) rfl (hcc)) ?_
    rintro _ _ X5 ⟨rfl, hX5, rfl⟩
    by_cases hz : chkE c.ex = 0
    · rw [hz] at he
      rw [hz]
      have hls := lineB_size (c := c) hv.2.1
      have hX15 := (hX1.trans' hX3).trans' hX5
      have hrl2 := rline_spec (hrc0.mono hX15) (by omega) (by omega) hv.2.1 hwe (chkE_node hz)
      try simp only [rc7i] at hrl2
      refine SL.as rfl <| SL.nil <| T.seq <| T.seq <| T.region <| SL.mv rfl <| SL.v (op_neqF rfl rfl (by omega)) ?_
      refine SL.nil <| T.condF rfl <| T.skip <| T.region <| SL.mv rfl <| SL.v (op_load ty121 rfl (by repeat constructor) rfl) ?_
      refine SL.w (op_callF en155 (vs := [_]) rfl (hrl2)) ?_
      rintro _ _ X6 ⟨rfl, hX6, rfl⟩
      refine SL.v (op_lenStr Tryz.underlying9 rfl) <| SL.v (op_addN rfl rfl (by omega)) ?_
      refine SL.as rfl <| SL.nil <| T.blk <| T.region <| SL.v (op_addN (q := 1) rfl rfl (by omega)) ?_
      refine SL.mv rfl <| SL.nil <| T.less (List.sublist_cons_self _ _) ?_
      have hln : (linesL (cs.take (i + 1))).length = (linesL (cs.take i)).length + (lineB c).size := by
        rw [hts, linesL_snoc, List.length_append]; simp
      have hnm : (cs.take (i + 1)).map (·.name) = (cs.take i).map (·.name) ++ [c.name] := by rw [hts, List.map_append]; rfl
      exact T.backW (rows.length - (i + 1)) (by omega) ⟨i + 1, _, rfl, by omega, hX15.trans' hX6, chkCs_snoc hz0 hc2 he, by rw [hnm]; exact hG2, by rw [hln]⟩ (by repeat (first | exact Sub.nil | refine Sub.cons rfl ?_))
    · refine SL.as rfl <| SL.nil <| T.seq <| T.seq <| T.region <| SL.mv rfl <| SL.v (op_neqT rfl rfl (by omega)) ?_
      refine SL.nil <| T.condT rfl <| T.seq <| T.region <| SL.mv rfl <| SL.as rfl <| SL.nil <| T.ret1 rfl (ResIs.tmp rfl) ?_
      rw [chkAll, if_neg h32, chkCs_at hz0 hc2 (by rw [he]; exact hz), he, if_pos hz]
  · obtain rfl : i = rows.length := by omega
    have e : cs.take rows.length = cs := List.take_of_length_le (by omega)
    rw [e] at hz0 hll ⊢
    by_cases h8 : 8000 < (linesL cs).length
    · skip
      refine T.seq <| T.region <| SL.v (op_lssF rfl rfl (by omega)) ?_
      refine SL.nil <| T.seq <| T.condF rfl ?_
      refine T.exit (T.exitCode (T.exitCut (T.exitBlk ?_)))
      refine T.seq <| T.seq <| T.region <| SL.mv rfl <| SL.v (op_gtrT rfl rfl (by omega)) ?_
      refine SL.nil <| T.condT rfl <| T.seq <| T.region <| SL.v (op_assign (v := .int .i64 ((3 : Nat) : Int)) rfl) <| SL.nil <| T.ret1 rfl (ResIs.tmp rfl) ?_
      rw [chkAll, if_neg h32, if_neg (by simp [hz0]), if_pos h8]; rfl
    · refine T.seq <| T.region <| SL.v (op_lssF rfl rfl (by omega)) ?_
      refine SL.nil <| T.seq <| T.condF rfl ?_
      refine T.exit (T.exitCode (T.exitCut (T.exitBlk ?_)))
      refine T.seq <| T.seq <| T.region <| SL.mv rfl <| SL.v (op_gtrF rfl rfl (by omega)) ?_
      refine SL.nil <| T.condF rfl <| T.skip <| T.seq <| T.region <| SL.v (op_assign (v := .int .i64 ((0 : Nat) : Int)) rfl) <| SL.nil <| T.ret1 rfl (ResIs.tmp rfl) ?_
      rw [chkAll, if_neg h32, if_neg (by simp [hz0]), if_neg h8]; rfl
end Go.Proofs.YtnpcilglilfajaaGreatDoor
namespace Go.Proofs.YtnpcilglilfajaaGreatDoor
section
set_option maxRecDepth 100000
theorem bs101 : ∃ i z, Tryz.prog.info? 101 = some i ∧ i.size = 7 ∧ i.zero = some z ∧ z.cells = ([.bool false, .int .u8 0, .string ⟨#[]⟩, .int .u8 0, .int .i64 0, .slice none 0 0, .slice none 0 0] : List Value).toArray := bs_of (by kernel_rfl)
theorem en104 : Enters Tryz.prog 104 := enters_mk Tryz.func104 (by kernel_rfl) rfl
theorem en25 : Enters Tryz.prog 25 := enters_mk Tryz.func25 (by kernel_rfl) rfl
theorem mr124 : ∃ i z, Tryz.prog.info? 101 = some i ∧ i.size = 7 ∧ i.bytes = 88 ∧ i.zero = some z ∧ z.cells = ([.bool false, .int .u8 0, .string ⟨#[]⟩, .int .u8 0, .int .i64 0, .slice none 0 0, .slice none 0 0] : List Value).toArray := mr_of (by kernel_rfl)
theorem sl124 : SlT Tryz.prog 124 101 7 88 := ⟨Tryz.underlying124, sl_of (by kernel_rfl) (by decide)⟩
theorem z101 : Zero Tryz.prog 101 [.bool false, .int .u8 0, .string ⟨#[]⟩, .int .u8 0, .int .i64 0, .slice none 0 0, .slice none 0 0] := ⟨zero_of (by kernel_rfl)⟩
theorem st101 : StT Tryz.prog 101 [(0, 1), (1, 1), (2, 1), (3, 4)] [.bool false, .int .u8 0, .string ⟨#[]⟩, .int .u8 0, .int .i64 0, .slice none 0 0, .slice none 0 0] := ⟨⟨_, Tryz.underlying101, fun _ => by kernel_rfl, z101⟩⟩
end
open Go.RowKit
theorem rall_spec {X : PMap} (hP : Pow10 X) {v vt vs : Value} {cs : List Con} {ns : List ByteArray} {adm : Nat} (h : ConsR X v cs) (hl : cs.length ≤ 40) (hwC : wtC cs < 15000000) (hww : ∀ c ∈ cs, wtE c.ex < 900000 ∧ c.kind < 256) (h63 : ns.length ≤ 63) (hT : TabR X vt ns) (hS : SetR X vs adm) : Spec Tryz.prog 55 [v, vt, vs] X fun u X' => ∃ w, u = .tuple #[w, .int .i64 ((resA ns adm cs).2.1 : Int), .int .i64 (resA ns adm cs).2.2] ∧ CfsR X' w (resA ns adm cs).1 := by
  have hchk := fun {X' : PMap} (hX : X.le X') => checkA_spec (hP.mono hX) (h.mono hX) hl hwC (fun c hc => (hww c hc).1)
  have hmx : maxLen = 9223372036854775807 := rfl
  obtain ⟨bt, rfl⟩ := hT.form
  obtain ⟨As, ls, cs0, rfl⟩ := hS.form
  obtain ⟨rows, hr, hrl, hrow⟩ := h
  obtain ⟨A, cp, rfl⟩ := hr.form
  refine Spec.enter Tryz.func55 rfl Tryz.ntmps55 rfl ?_
  intro w0 hw0
  refine T.seq <| T.region <| SL.w (op_box rfl) ?_
  rintro _ _ _ ⟨B5, rfl, rfl, rfl⟩
  refine SL.as rfl <| SL.v (op_assign (v := .int .i64 ((0 : Nat) : Int)) rfl) <| SL.v (op_assign (v := .int .i64 ((0 : Nat) : Int)) rfl) <| SL.nil <| T.seq <| T.seq <| T.region <| SL.mv rfl <| SL.v (op_eqlNil Tryz.underlying64 rfl rfl) <| SL.nil <| T.condF rfl <| T.skip <| T.seq <| T.seq <| T.region ?_
  refine SL.mv rfl <| SL.w (op_callF en104 (vs := [_]) rfl (hchk (PMap.le_refl _))) ?_
  rintro _ _ X1 ⟨rfl, hX1, rfl⟩
  by_cases hck : chkAll cs = 0
  case neg =>
    rw [resA_chk hck]
    refine SL.as rfl <| SL.nil <| T.seq <| T.region <| SL.mv rfl <| SL.v (op_neqT rfl rfl (by omega)) ?_
    refine SL.nil <| T.condT rfl <| T.seq <| T.region <| SL.mv rfl <| SL.as rfl <| SL.v (op_assign (v := .int .i64 ((0 : Nat) : Int)) rfl) <| SL.as rfl <| SL.nil <| T.ret3 rfl rfl rfl rfl ?_
    exact ⟨_, rfl, CfsR.nil⟩
  rw [hck]
  refine SL.as rfl <| SL.nil <| T.seq <| T.region <| SL.mv rfl <| SL.v (op_neqF rfl rfl (by omega)) ?_
  refine SL.nil <| T.condF rfl <| T.skip <| T.seq <| T.region <| SL.mv rfl <| SL.v (op_lenS Tryz.underlying119 rfl) <| SL.w (op_makeR (l := 0) (c := rows.length) Tryz.underlying124 mr124 rfl rfl rfl (Nat.zero_le _) (by omega) (by omega)) ?_
  rintro _ _ _ ⟨b24, rfl, rfl, rfl⟩
  refine SL.perm (List.Perm.swap _ _ _) ?_
  refine SL.as rfl <| SL.nil <| T.seq <| T.seq <| T.region <| SL.mv rfl <| SL.v (op_lenS Tryz.underlying119 rfl) <| SL.v (op_move (v := .int .i64 ((0 : Nat) : Int)) rfl) <| SL.nil <| T.block <| T.loopW (fun m env own X' => ∃ (i : Nat) (vo : Value) (G : Own) (rs : List Row7), m = rows.length - i ∧ i ≤ rows.length ∧ X1.le X' ∧ rs.length = (cs.take i).length ∧ (∀ x ∈ cs.take i, (resF ns adm x.kind x.ex).2 = 0) ∧ GrowS 101 7 vo rs.length ((rs.map rc7).flatten) G ∧ (∀ (q : Nat) (c : Con) (r : Row7), (cs.take i)[q]? = some c → rs[q]? = some r → CfR X' (mkC ns adm c) r) ∧ env = [(1, .pointer (some ⟨bt, 0, none⟩)), (5, .pointer (some ⟨B5, 0, none⟩)), (10, vo), (25, .slice A rows.length cp), (26, .int .i64 (rows.length : Int)), (27, .int .i64 (i : Int))] ∧ own = SetO B5 As ls cs0 :: G) rows.length ⟨0, _, _, [], by simp, by omega, PMap.le_refl _, rfl, fun x hx => (by cases hx), .inr ⟨b24, rows.length, rfl, rfl, Nat.zero_le _, by omega, rfl⟩, (fun q c r h => by simp at h), rfl, rfl⟩ (by repeat (first | exact Sub.nil | refine Sub.cons rfl ?_)) ?_
  rintro m _ _ X2 ⟨i, vo, G, rs, rfl, hi, hX2, hrsl, h0, hG, hrs, rfl, rfl⟩
  have hrl2 : rs.length = i := by rw [hrsl, List.length_take]; omega
  obtain ⟨Av, cv, rfl⟩ := hG.form
  have hX02 := hX1.trans' hX2
  rcases Nat.lt_or_ge i rows.length with hil | hil
  · obtain ⟨r2, hr2⟩ : ∃ r2, rows[i]? = some r2 := ⟨_, List.getElem?_eq_getElem hil⟩
    obtain ⟨c, hc2⟩ : ∃ c, cs[i]? = some c := ⟨_, List.getElem?_eq_getElem (by omega)⟩
    have hrc := hrow i c r2 hc2 hr2
    obtain ⟨okw, okk⟩ := hww c (List.mem_of_getElem? hc2)
    obtain ⟨o0, n0, a0, b0, l0, c0, m0, d0, rfl⟩ := hrc.form
    have hex := hrc.2.2.2
    simp only at hex
    obtain ⟨bA, pre, rfl, hbA⟩ := hr.blk (by omega)
    have htk := take_snoc hc2
    have hres := resolve_spec (kind := c.kind) (by omega) okk h63 (hT.mono hX02) (hS.mono hX02) (hex.mono hX02)
    try simp only at hres
    refine T.seq <| T.region <| SL.v (op_lssT rfl rfl (by omega)) ?_
    refine SL.nil <| T.seq <| T.condT rfl <| T.skip <| T.seq <| T.block <| T.seq <| T.region <| SL.mv rfl <| SL.v (op_indexN Tryz.underlying119 ty123 rfl rfl (by omega)) ?_
    refine SL.v (op_loadX (v := .agg #[.bool c.enf, .int .u8 (c.kind : Int), .string c.name, .int .u8 (o0 : Int), .int .i64 n0, .slice a0 l0 c0, .slice b0 m0 d0]) ty123 rfl (hbA.mono hX02) (row_read rc7_len hr2 (by omega))) ?_
    refine SL.w (op_alloc z123) ?_
    rintro _ _ _ ⟨B12, rfl, rfl, rfl⟩
    refine SL.as rfl <| SL.w (op_store ty123 rfl rfl (by repeat constructor) rfl rfl rfl) ?_
    rintro _ _ _ ⟨rfl, rfl⟩
    refine SL.nil <| T.seq <| T.region <| SL.v (op_fieldAddr fa123_3 rfl) <| SL.v (op_load ty70 rfl (by repeat constructor) rfl) ?_
    refine SL.v (op_fieldAddr fa123_1 rfl) <| SL.v (op_load ty41 rfl (by repeat constructor) rfl) ?_
    refine SL.mv rfl <| SL.v (op_load ty53 rfl (by repeat constructor) rfl) ?_
    refine SL.w (op_callF en25 (vs := [_, _, _, _]) rfl (hres)) ?_
    rintro _ _ X3 ⟨rfl, hX3, r8, rfl, hr8⟩
    have hr8' := hr8
    obtain ⟨o8, n8, a8, b8, l8, c8, l9, c9, rfl⟩ := hr8.form
    by_cases he : (resF ns adm c.kind c.ex).2 = 0
    case neg =>
      rw [resA_bad hck h0 hc2 he]
      refine SL.mv rfl <| SL.v (op_extract rfl rfl) <| SL.v (op_extract rfl rfl) <| SL.w (op_alloc z36) ?_
      rintro _ _ _ ⟨B13, rfl, rfl, rfl⟩
      refine SL.w (op_store ty36 rfl rfl (by repeat constructor) rfl rfl rfl) ?_
      rintro _ _ _ ⟨rfl, rfl⟩
      refine SL.as rfl <| SL.nil <| T.seq <| T.seq <| T.region <| SL.mv rfl <| SL.v (op_neqT rfl rfl (by omega)) ?_
      refine SL.nil <| T.condT rfl <| T.seq <| T.region <| SL.mv rfl <| SL.mv rfl <| SL.as rfl <| SL.as rfl <| SL.as rfl <| SL.nil <| T.ret3 rfl rfl rfl rfl ?_
      exact ⟨_, rfl, CfsR.nil⟩
    rw [he]
    refine SL.mv rfl <| SL.v (op_extract rfl rfl) <| SL.v (op_extract rfl rfl) <| SL.w (op_alloc z36) ?_
    rintro _ _ _ ⟨B13, rfl, rfl, rfl⟩
    refine SL.w (op_store ty36 rfl rfl (by repeat constructor) rfl rfl rfl) ?_
    rintro _ _ _ ⟨rfl, rfl⟩
    refine SL.as rfl <| SL.nil <| T.seq <| T.seq <| T.region <| SL.mv rfl <| SL.v (op_neqF rfl rfl (by omega)) ?_
    refine SL.nil <| T.condF rfl <| T.skip <| T.region <| SL.mv rfl <| SL.v (op_fieldAddr fa123_0 rfl) <| SL.v (op_load ty4 rfl (by repeat constructor) rfl) ?_
    refine SL.v (op_fieldAddr fa123_1 rfl) <| SL.v (op_load ty41 rfl (by repeat constructor) rfl) ?_
    refine SL.v (op_fieldAddr fa123_2 rfl) <| SL.v (op_load ty9 rfl (by repeat constructor) rfl) ?_
    refine SL.v (op_load ty36 rfl (by repeat constructor) rfl) ?_
    refine SL.v (op_build st101 (qs := [(0, _), (1, _), (2, _), (3, _)]) rfl rfl) <| SL.w (op_buildSlice Tryz.underlying124 bs101 (qs := [(0, _)]) rfl rfl rfl rfl rfl) ?_
    rintro _ _ _ ⟨B55, rfl, rfl, rfl⟩
    refine SL.w (op_appendGA (own0 := [_, _, _, _]) (m := 1) sl124 rfl hG rfl (Src.ofOwn0 AtO.here rfl) (by intro y hy; have hy : y ∈ [Value.bool _, Value.int _ _, Value.string _, Value.int _ _, Value.int _ _, Value.slice _ _ _, Value.slice _ _ _] := hy; simp only [List.mem_cons, List.not_mem_nil, or_false] at hy; rcases hy with rfl | rfl | rfl | rfl | rfl | rfl | rfl <;> rfl) (by omega) (by omega)) ?_
    rintro va9 _ _ ⟨Ga9, rfl, rfl, hGa9⟩
    refine SL.as rfl <| SL.nil <| T.blk <| T.region <| SL.v (op_addN (q := 1) rfl rfl (by omega)) ?_
    refine SL.mv rfl <| SL.nil <| T.less (List.sublist_cons_self _ _) ?_
    refine T.less (List.sublist_cons_self _ _) ?_
    refine T.less (List.sublist_cons_self _ _) ?_
    have hnew : CfR X3 (mkC ns adm c) (c.enf, c.kind, c.name, .int .u8 (o8 : Int), .int .i64 n8, .slice a8 l8 c8, .slice b8 l9 c9) := ⟨rfl, rfl, rfl, hr8'⟩
    have hG10 : GrowS 101 7 va9 (rs ++ [((c.enf, c.kind, c.name, .int .u8 (o8 : Int), .int .i64 n8, .slice a8 l8 c8, .slice b8 l9 c9) : Row7)]).length (((rs ++ [((c.enf, c.kind, c.name, .int .u8 (o8 : Int), .int .i64 n8, .slice a8 l8 c8, .slice b8 l9 c9) : Row7)]).map rc7).flatten) Ga9 := by
      rw [List.length_append, List.map_append, List.flatten_append]
      exact hGa9
    have h0' : ∀ x ∈ cs.take (i + 1), (resF ns adm x.kind x.ex).2 = 0 := fun x hx => by
      rw [htk] at hx
      rcases List.mem_append.1 hx with hx | hx
      · exact h0 x hx
      · rw [List.mem_singleton.1 hx]; exact he
    exact T.backW (rows.length - (i + 1)) (by omega) ⟨i + 1, _, _, _, rfl, by omega, hX2.trans' hX3, by rw [htk, List.length_append, List.length_append, hrsl]; rfl, h0', hG10, by rw [htk]; exact rows_snoc2 hrsl.symm (fun q c r h1 h2 => (hrs q c r h1 h2).mono hX3) hnew, rfl, rfl⟩ (by repeat (first | exact Sub.nil | refine Sub.cons rfl ?_))
  · obtain rfl : i = rows.length := by omega
    rw [show cs.take rows.length = cs from List.take_of_length_le (by omega)] at hrsl hrs h0
    rw [resA_ok hck h0]
    refine T.seq <| T.region <| SL.v (op_lssF rfl rfl (by omega)) ?_
    refine SL.nil <| T.seq <| T.condF rfl ?_
    refine T.exit (T.exitCode (T.exitCut (T.exitBlk ?_)))
    refine T.seq <| T.region <| SL.mv rfl <| SL.as rfl <| SL.v (op_assign (v := .int .i64 ((0 : Nat) : Int)) rfl) <| SL.v (op_assign (v := .int .i64 ((0 : Nat) : Int)) rfl) <| SL.nil <| T.pubG (own0 := [_]) hG ?_
    intro X9 hX9 hS9
    refine T.ret3 rfl rfl rfl rfl ?_
    refine ⟨_, rfl, rs, RowR.ofG hG hS9, by rw [hrsl, List.length_map], fun q c r h1 h2 => ?_⟩
    rw [List.getElem?_map] at h1
    obtain ⟨x, hx, rfl⟩ := Option.map_eq_some_iff.1 h1
    exact (hrs q x r hx h2).mono hX9
theorem rall0_spec {X : PMap} {v : Value} {A : Option Addr} {l c : Nat} {cs : List Con} (h : ConsR X v cs) : Spec Tryz.prog 55 [v, .pointer none, .agg #[.slice A l c]] X fun u _ => u = .tuple #[.slice none 0 0, .int .i64 0, .int .i64 1] := by
  obtain ⟨A, cp, rfl⟩ := h.form
  refine Spec.enter Tryz.func55 rfl Tryz.ntmps55 rfl ?_
  intro w0 hw0
  refine T.seq <| T.region <| SL.w (op_box rfl) ?_
  rintro _ _ _ ⟨B5, rfl, rfl, rfl⟩
  refine SL.as rfl <| SL.v (op_assign (v := .int .i64 ((0 : Nat) : Int)) rfl) <| SL.v (op_assign (v := .int .i64 ((0 : Nat) : Int)) rfl) <| SL.nil <| T.seq <| T.seq <| T.region <| SL.mv rfl <| SL.v (op_eqlNil Tryz.underlying64 rfl rfl) <| SL.nil <| T.condT rfl <| T.seq <| T.region <| SL.as rfl <| SL.v (op_assign (v := .int .i64 ((0 : Nat) : Int)) rfl) ?_
  refine SL.v (op_assign (v := .int .i64 ((1 : Nat) : Int)) rfl) <| SL.nil <| T.ret3 rfl rfl rfl rfl ?_
  rfl
end Go.Proofs.YtnpcilglilfajaaGreatDoor
namespace Go.Proofs.YtnpcilglilfajaaGreatDoor
section
set_option maxRecDepth 100000
theorem bs98 : ∃ i z, Tryz.prog.info? 98 = some i ∧ i.size = 7 ∧ i.zero = some z ∧ z.cells = ([.bool false, .int .i64 0, .string ⟨#[]⟩, .int .i64 0, .int .i64 0, .slice none 0 0, .slice none 0 0] : List Value).toArray := bs_of (by kernel_rfl)
theorem en105 : Enters Tryz.prog 105 := enters_mk Tryz.func105 (by kernel_rfl) rfl
theorem en28 : Enters Tryz.prog 28 := enters_mk Tryz.func28 (by kernel_rfl) rfl
theorem sl127 : SlT Tryz.prog 127 98 7 96 := ⟨Tryz.underlying127, sl_of (by kernel_rfl) (by decide)⟩
theorem z98 : Zero Tryz.prog 98 [.bool false, .int .i64 0, .string ⟨#[]⟩, .int .i64 0, .int .i64 0, .slice none 0 0, .slice none 0 0] := ⟨zero_of (by kernel_rfl)⟩
theorem st98 : StT Tryz.prog 98 [(0, 1), (1, 1), (2, 1), (3, 4)] [.bool false, .int .i64 0, .string ⟨#[]⟩, .int .i64 0, .int .i64 0, .slice none 0 0, .slice none 0 0] := ⟨⟨_, Tryz.underlying98, fun _ => by kernel_rfl, z98⟩⟩
end
open Go.RowKit
theorem rrall_spec {X : PMap} {v vt : Value} {cs : List Con} {ns : List ByteArray} {adm : Nat} (h : ConsRi X v cs) (hl : cs.length ≤ 40) (hwC : wtC cs < 15000000) (hww : ∀ c ∈ cs, wtE c.ex < 900000) (h63 : ns.length ≤ 63) (hT : RowR strC X vt ns) (hS : adm < 18446744073709551616) : Spec Tryz.prog 56 [v, vt, .int .u64 (adm : Int)] X fun u X' => ∃ w, u = .tuple #[w, .int .i64 ((resA ns adm cs).2.1 : Int), .int .i64 (resA ns adm cs).2.2] ∧ CfsRi X' w (resA ns adm cs).1 := by
  have hchk := fun {X' : PMap} (hX : X.le X') => rcheck_spec (h.mono hX) hl hwC hww
  have hmx : maxLen = 9223372036854775807 := rfl
  obtain ⟨At, ct, rfl⟩ := hT.form
  obtain ⟨rows, hr, hrl, hrow⟩ := h
  obtain ⟨A, cp, rfl⟩ := hr.form
  refine Spec.enter Tryz.func56 rfl Tryz.ntmps56 rfl ?_
  intro w0 hw0
  refine T.seq <| T.region <| SL.as rfl <| SL.v (op_assign (v := .int .i64 ((0 : Nat) : Int)) rfl) <| SL.v (op_assign (v := .int .i64 ((0 : Nat) : Int)) rfl) <| SL.nil <| T.seq <| T.region <| SL.mv rfl <| SL.w (op_callF en105 (vs := [_]) rfl (hchk (PMap.le_refl _))) ?_
  rintro _ _ X1 ⟨rfl, hX1, rfl⟩
  by_cases hck : chkAll cs = 0
  case neg =>
    rw [resA_chk hck]
    refine SL.as rfl <| SL.nil <| T.seq <| T.seq <| T.region <| SL.mv rfl <| SL.v (op_neqT rfl rfl (by omega)) ?_
    refine SL.nil <| T.condT rfl <| T.seq <| T.region <| SL.mv rfl <| SL.as rfl <| SL.v (op_assign (v := .int .i64 ((0 : Nat) : Int)) rfl) <| SL.as rfl <| SL.nil <| T.ret3 rfl rfl rfl rfl ?_
    exact ⟨_, rfl, CfsRi.nil⟩
  rw [hck]
  refine SL.as rfl <| SL.nil <| T.seq <| T.seq <| T.region <| SL.mv rfl <| SL.v (op_neqF rfl rfl (by omega)) ?_
  refine SL.nil <| T.condF rfl <| T.skip <| T.seq <| T.region <| SL.as rfl <| SL.nil <| T.seq <| T.seq <| T.region <| SL.mv rfl <| SL.v (op_lenS Tryz.underlying117 rfl) <| SL.v (op_move (v := .int .i64 ((0 : Nat) : Int)) rfl) <| SL.nil <| T.block ?_
  refine T.loopW (fun m env own X' => ∃ (i : Nat) (vo : Value) (G : Own) (rs : List Row7), m = rows.length - i ∧ i ≤ rows.length ∧ X1.le X' ∧ rs.length = (cs.take i).length ∧ (∀ x ∈ cs.take i, (resF ns adm x.kind x.ex).2 = 0) ∧ GrowS 98 7 vo rs.length ((rs.map rc7i).flatten) G ∧ (∀ (q : Nat) (c : Con) (r : Row7), (cs.take i)[q]? = some c → rs[q]? = some r → CfRi X' (mkC ns adm c) r) ∧ env = [(1, .slice At ns.length ct), (2, .int .u64 (adm : Int)), (10, vo), (20, .slice A rows.length cp), (21, .int .i64 (rows.length : Int)), (22, .int .i64 (i : Int))] ∧ G = own) rows.length ⟨0, _, _, [], by simp, by omega, PMap.le_refl _, rfl, fun x hx => (by cases hx), GrowS.nil, (fun q c r h => by simp at h), rfl, rfl⟩ (by repeat (first | exact Sub.nil | refine Sub.cons rfl ?_)) ?_
  rintro m _ _ X2 ⟨i, vo, G, rs, rfl, hi, hX2, hrsl, h0, hG, hrs, rfl, rfl⟩
  have hrl2 : rs.length = i := by rw [hrsl, List.length_take]; omega
  obtain ⟨Av, cv, rfl⟩ := hG.form
  have hX02 := hX1.trans' hX2
  rcases Nat.lt_or_ge i rows.length with hil | hil
  · obtain ⟨r2, hr2⟩ : ∃ r2, rows[i]? = some r2 := ⟨_, List.getElem?_eq_getElem hil⟩
    obtain ⟨c, hc2⟩ : ∃ c, cs[i]? = some c := ⟨_, List.getElem?_eq_getElem (by omega)⟩
    have hrc := hrow i c r2 hc2 hr2
    have okw := hww c (List.mem_of_getElem? hc2)
    obtain ⟨o0, n0, a0, b0, l0, c0, m0, d0, rfl⟩ := hrc.form
    have hex := hrc.2.2.2
    simp only at hex
    obtain ⟨bA, pre, rfl, hbA⟩ := hr.blk (by omega)
    have htk := take_snoc hc2
    have hres := rresolve_spec (kind := c.kind) (by omega) h63 (hT.mono hX02) hS (hex.mono hX02)
    try simp only at hres
    refine T.seq <| T.region <| SL.v (op_lssT rfl rfl (by omega)) ?_
    refine SL.nil <| T.seq <| T.condT rfl <| T.skip <| T.seq <| T.block <| T.seq <| T.region <| SL.mv rfl <| SL.v (op_indexN Tryz.underlying117 ty121 rfl rfl (by omega)) ?_
    refine SL.v (op_loadX (v := .agg #[.bool c.enf, .int .i64 (c.kind : Int), .string c.name, .int .i64 (o0 : Int), .int .i64 n0, .slice a0 l0 c0, .slice b0 m0 d0]) ty121 rfl (hbA.mono hX02) (row_read rc7i_len hr2 (by omega))) ?_
    refine SL.w (op_alloc z121) ?_
    rintro _ _ _ ⟨B12, rfl, rfl, rfl⟩
    refine SL.as rfl <| SL.w (op_store ty121 rfl rfl (by repeat constructor) rfl rfl rfl) ?_
    rintro _ _ _ ⟨rfl, rfl⟩
    refine SL.nil <| T.seq <| T.region <| SL.v (op_fieldAddr fa121_3 rfl) <| SL.v (op_load ty62 rfl (by repeat constructor) rfl) ?_
    refine SL.v (op_fieldAddr fa121_1 rfl) <| SL.v (op_load ty3 rfl (by repeat constructor) rfl) ?_
    refine SL.mv rfl <| SL.mv rfl <| SL.w (op_callF en28 (vs := [_, _, _, _]) rfl (hres)) ?_
    rintro _ _ X3 ⟨rfl, hX3, r8, rfl, hr8⟩
    have hr8' := hr8
    obtain ⟨o8, n8, a8, b8, l8, c8, l9, c9, rfl⟩ := hr8.form
    by_cases he : (resF ns adm c.kind c.ex).2 = 0
    case neg =>
      rw [resA_bad hck h0 hc2 he]
      refine SL.mv rfl <| SL.v (op_extract rfl rfl) <| SL.v (op_extract rfl rfl) <| SL.w (op_alloc z27) ?_
      rintro _ _ _ ⟨B13, rfl, rfl, rfl⟩
      refine SL.w (op_store ty27 rfl rfl (by repeat constructor) rfl rfl rfl) ?_
      rintro _ _ _ ⟨rfl, rfl⟩
      refine SL.as rfl <| SL.nil <| T.seq <| T.seq <| T.region <| SL.mv rfl <| SL.v (op_neqT rfl rfl (by omega)) ?_
      refine SL.nil <| T.condT rfl <| T.seq <| T.region <| SL.mv rfl <| SL.mv rfl <| SL.as rfl <| SL.as rfl <| SL.as rfl <| SL.nil <| T.ret3 rfl rfl rfl rfl ?_
      exact ⟨_, rfl, CfsRi.nil⟩
    rw [he]
    refine SL.mv rfl <| SL.v (op_extract rfl rfl) <| SL.v (op_extract rfl rfl) <| SL.w (op_alloc z27) ?_
    rintro _ _ _ ⟨B13, rfl, rfl, rfl⟩
    refine SL.w (op_store ty27 rfl rfl (by repeat constructor) rfl rfl rfl) ?_
    rintro _ _ _ ⟨rfl, rfl⟩
    refine SL.as rfl <| SL.nil <| T.seq <| T.seq <| T.region <| SL.mv rfl <| SL.v (op_neqF rfl rfl (by omega)) ?_
    refine SL.nil <| T.condF rfl <| T.skip <| T.region <| SL.mv rfl <| SL.v (op_fieldAddr fa121_0 rfl) <| SL.v (op_load ty4 rfl (by repeat constructor) rfl) ?_
    refine SL.v (op_fieldAddr fa121_1 rfl) <| SL.v (op_load ty3 rfl (by repeat constructor) rfl) ?_
    refine SL.v (op_fieldAddr fa121_2 rfl) <| SL.v (op_load ty9 rfl (by repeat constructor) rfl) ?_
    refine SL.v (op_load ty27 rfl (by repeat constructor) rfl) ?_
    refine SL.v (op_build st98 (qs := [(0, _), (1, _), (2, _), (3, _)]) rfl rfl) <| SL.w (op_buildSlice Tryz.underlying127 bs98 (qs := [(0, _)]) rfl rfl rfl rfl rfl) ?_
    rintro _ _ _ ⟨B50, rfl, rfl, rfl⟩
    refine SL.w (op_appendGA (own0 := [_, _, _]) (m := 1) sl127 rfl hG rfl (Src.ofOwn0 AtO.here rfl) (by intro y hy; have hy : y ∈ [Value.bool _, Value.int _ _, Value.string _, Value.int _ _, Value.int _ _, Value.slice _ _ _, Value.slice _ _ _] := hy; simp only [List.mem_cons, List.not_mem_nil, or_false] at hy; rcases hy with rfl | rfl | rfl | rfl | rfl | rfl | rfl <;> rfl) (by omega) (by omega)) ?_
    rintro va9 _ _ ⟨Ga9, rfl, rfl, hGa9⟩
    refine SL.as rfl <| SL.nil <| T.blk <| T.region <| SL.v (op_addN (q := 1) rfl rfl (by omega)) ?_
    refine SL.mv rfl <| SL.nil <| T.less (List.sublist_cons_self _ _) ?_
    refine T.less (List.sublist_cons_self _ _) ?_
    refine T.less (List.sublist_cons_self _ _) ?_
    have hnew : CfRi X3 (mkC ns adm c) (c.enf, c.kind, c.name, .int .i64 (o8 : Int), .int .i64 n8, .slice a8 l8 c8, .slice b8 l9 c9) := ⟨rfl, rfl, rfl, hr8'⟩
    have hG10 : GrowS 98 7 va9 (rs ++ [((c.enf, c.kind, c.name, .int .i64 (o8 : Int), .int .i64 n8, .slice a8 l8 c8, .slice b8 l9 c9) : Row7)]).length (((rs ++ [((c.enf, c.kind, c.name, .int .i64 (o8 : Int), .int .i64 n8, .slice a8 l8 c8, .slice b8 l9 c9) : Row7)]).map rc7i).flatten) Ga9 := by
      rw [List.length_append, List.map_append, List.flatten_append]
      exact hGa9
    have h0' : ∀ x ∈ cs.take (i + 1), (resF ns adm x.kind x.ex).2 = 0 := fun x hx => by
      rw [htk] at hx
      rcases List.mem_append.1 hx with hx | hx
      · exact h0 x hx
      · rw [List.mem_singleton.1 hx]; exact he
    exact T.backW (rows.length - (i + 1)) (by omega) ⟨i + 1, _, _, _, rfl, by omega, hX2.trans' hX3, by rw [htk, List.length_append, List.length_append, hrsl]; rfl, h0', hG10, by rw [htk]; exact rows_snoc2 hrsl.symm (fun q c r h1 h2 => (hrs q c r h1 h2).mono hX3) hnew, rfl, rfl⟩ (by repeat (first | exact Sub.nil | refine Sub.cons rfl ?_))
  · obtain rfl : i = rows.length := by omega
    rw [show cs.take rows.length = cs from List.take_of_length_le (by omega)] at hrsl hrs h0
    rw [resA_ok hck h0]
    refine T.seq <| T.region <| SL.v (op_lssF rfl rfl (by omega)) ?_
    refine SL.nil <| T.seq <| T.condF rfl ?_
    refine T.exit (T.exitCode (T.exitCut (T.exitBlk ?_)))
    refine T.seq <| T.region <| SL.mv rfl <| SL.as rfl <| SL.v (op_assign (v := .int .i64 ((0 : Nat) : Int)) rfl) <| SL.v (op_assign (v := .int .i64 ((0 : Nat) : Int)) rfl) <| SL.nil <| T.pubG (own0 := []) hG ?_
    intro X9 hX9 hS9
    refine T.ret3 rfl rfl rfl rfl ?_
    refine ⟨_, rfl, rs, RowR.ofG hG hS9, by rw [hrsl, List.length_map], fun q c r h1 h2 => ?_⟩
    rw [List.getElem?_map] at h1
    obtain ⟨x, hx, rfl⟩ := Option.map_eq_some_iff.1 h1
    exact (hrs q x r hx h2).mono hX9
end Go.Proofs.YtnpcilglilfajaaGreatDoor
namespace Go.Proofs.YtnpcilglilfajaaGreatDoor
section
set_option maxRecDepth 100000
theorem en148 : Enters Tryz.prog 148 := enters_mk Tryz.func148 (by kernel_rfl) rfl
theorem en149 : Enters Tryz.prog 149 := enters_mk Tryz.func149 (by kernel_rfl) rfl
theorem en183 : Enters Tryz.prog 183 := enters_mk Tryz.func183 (by kernel_rfl) rfl
theorem fa231_0 : FAdr Tryz.prog 231 0 0 := fadr_mk Tryz.underlying231 rfl rfl (by kernel_rfl)
theorem z231 : Zero Tryz.prog 231 [.slice none 0 0] := ⟨zero_of (by kernel_rfl)⟩
theorem st231 : StT Tryz.prog 231 [(0, 1)] [.slice none 0 0] := ⟨⟨_, Tryz.underlying231, fun _ => by kernel_rfl, z231⟩⟩
end
open Go.RowKit
theorem groups_spec {X : PMap} {n : Nat} (hn : n < 18446744073709551616) : SpecO Tryz.prog 149 [.int .u64 (n : Int)] X fun u own1 _ => GrowS 5 1 u (numB n).length (bytesC (numB n)) own1 := by
  have hnl := numB_len hn
  have hs7 : ∀ v : Nat, v >>> 7 = v / 128 := fun v => Nat.shiftRight_eq_div_pow v 7
  refine SpecO.enter Tryz.func149 rfl Tryz.ntmps149 rfl ?_
  intro w0 hw0
  refine T.seq <| T.region <| SL.as rfl <| SL.nil <| T.seq <| T.region <| SL.mv rfl <| SL.v (op_and127L rfl rfl hn) <| SL.v (op_convU8 Tryz.underlying58 Tryz.underlying5 rfl (by omega) (by omega)) ?_
  refine SL.w (op_buildSlice Tryz.underlying44 bs5 (qs := [(0, _)]) rfl rfl rfl rfl rfl) ?_
  rintro _ _ _ ⟨B7, rfl, rfl, rfl⟩
  refine SL.as rfl <| SL.nil <| T.seq <| T.seq <| T.region <| SL.mv rfl <| SL.v (op_shrN (q := 7) rfl rfl (by omega)) ?_
  refine SL.as rfl <| SL.nil <| T.block <| T.loopW (fun m env own X' => ∃ (v : Nat) (out : List Nat) (sv : Value) (G : Own), v = m ∧ v < 18446744073709551616 ∧ X.le X' ∧ 0 < out.length ∧ numB n = numHi v ++ out.reverse ∧ GrowS 5 1 sv out.length (bytesC out) G ∧ env = [(0, .int .u64 (v : Int)), (3, sv)] ∧ G = own) (n >>> 7) ⟨n >>> 7, [n % 128], _, _, rfl, by rw [hs7]; omega, PMap.le_refl _, by simp, by rw [hs7]; rfl, .inr ⟨B7, 1, rfl, rfl, by simp, by decide, rfl⟩, rfl, rfl⟩ (by repeat (first | exact Sub.nil | refine Sub.cons rfl ?_)) ?_
  rintro m _ _ X1 ⟨v, out, sv, G, rfl, hv, hX1, ho0, hinv, hG, rfl, rfl⟩
  obtain ⟨As, cs, rfl⟩ := hG.form
  have hol : out.length ≤ 10 := by
    have := congrArg List.length hinv
    rw [List.length_append, List.length_reverse] at this; omega
  rcases Nat.eq_zero_or_pos v with h0 | h0
  · subst h0
    rw [numHi_zero, List.nil_append] at hinv
    rcases hG with ⟨h1, _⟩ | ⟨bo, cap, hv2, rfl, hc1, hc2, hc3⟩
    · omega
    obtain ⟨rfl, rfl⟩ : As = some ⟨bo, 0, none⟩ ∧ cs = cap := by injection hv2 with h1 h2 h3; exact ⟨h1, h3⟩
    refine T.seq <| T.seq <| T.region <| SL.mv rfl <| SL.v (op_gtrF rfl rfl (by omega)) ?_
    refine SL.nil <| T.condF rfl ?_
    refine T.exit (T.exitCode (T.exitCut (T.exitBlk ?_)))
    refine T.seq <| T.region <| SL.mv rfl <| SL.w (op_callM en183 (vs := [_]) rfl (reverse_spec ho0 (by omega) hc1) rfl) ?_
    rintro _ _ X2 ⟨_, rfl, hX2, rfl⟩
    refine SL.nil <| T.seq <| T.region <| SL.mv rfl <| SL.as rfl <| SL.nil <| T.retO1 rfl (ResIs.tmp rfl) ?_
    refine .inr ⟨bo, cs, by rw [hinv, List.length_reverse], by rw [hinv]; rfl, by rw [hinv, List.length_reverse]; exact hc1, hc2, by rw [bytesC_len]; omega⟩
  · refine T.seq <| T.seq <| T.region <| SL.mv rfl <| SL.v (op_gtrT rfl rfl (by omega)) ?_
    refine SL.nil <| T.condT rfl <| T.skip <| T.seq <| T.block <| T.region <| SL.mv rfl <| SL.mv rfl <| SL.v (op_and127L rfl rfl hv) <| SL.v (op_convU8 Tryz.underlying58 Tryz.underlying5 rfl (by omega) (by omega)) ?_
    refine SL.v (op_or128 rfl rfl (by omega)) ?_
    refine SL.w (op_buildSlice Tryz.underlying44 bs5 (qs := [(0, _)]) rfl rfl rfl rfl rfl) ?_
    rintro _ _ _ ⟨B19, rfl, rfl, rfl⟩
    refine SL.w (op_appendG (own0 := []) sl44 rfl hG rfl rfl rfl (by (have : maxLen = 9223372036854775807 := rfl); omega) (by omega)) ?_
    rintro s' G' _ ⟨_, rfl, rfl, hG'⟩
    obtain ⟨As', cps', rfl⟩ := hG'.form
    refine SL.as rfl <| SL.nil <| T.blk <| T.region <| SL.mv rfl <| SL.v (op_shrN (q := 7) rfl rfl (by omega)) ?_
    refine SL.as rfl <| SL.nil ?_
    exact T.backW (v >>> 7) (by rw [hs7]; omega) ⟨v >>> 7, out ++ [128 + v % 128], _, G', rfl, by rw [hs7]; omega, hX1, by simp, by rw [hinv, hs7, numHi_pos (by omega)]; simp, by rw [bytesC_append, List.length_append]; exact hG', rfl, rfl⟩ (by repeat (first | exact Sub.nil | refine Sub.cons rfl ?_))
theorem newW_spec {X : PMap} : SpecO Tryz.prog 95 [] X fun w own1 _ => ∃ b, w = .pointer (some ⟨b, 0, none⟩) ∧ own1 = [⟨b, [.slice none 0 0], 231, 1⟩] := by
  refine SpecO.enter Tryz.func95 rfl Tryz.ntmps95 rfl ?_
  intro w0 hw0
  refine T.seq <| T.region <| SL.as rfl <| SL.nil <| T.seq <| T.region <| SL.v (op_build st231 (qs := []) rfl rfl) <| SL.w (op_box rfl) ?_
  rintro _ _ _ ⟨B2, rfl, rfl, rfl⟩
  refine SL.as rfl <| SL.nil <| T.retO1 rfl (ResIs.tmp rfl) ?_
  exact ⟨B2, rfl, rfl⟩
theorem rawW_spec {X : PMap} {bw m len : Nat} {sv p : Value} {cs : List Value} {l : List Nat} {G : Own} (hG : GrowS 5 1 sv len cs G) (hp : BytesR X p l) (hm : m = l.length) (h0 : 0 < m) (hl : len + m < 1000000000) :
    SpecM Tryz.prog 148 [.pointer (some ⟨bw, 0, none⟩), p] X (⟨bw, [sv], 231, 1⟩ :: G) fun _ L' _ => ∃ sv' G', L' = ⟨bw, [sv'], 231, 1⟩ :: G' ∧ GrowS 5 1 sv' (len + m) (cs ++ bytesC l) G' := by
  subst hm
  have hmx : maxLen = 9223372036854775807 := rfl
  obtain ⟨A, cp, rfl⟩ := hp.form
  obtain ⟨As, css, rfl⟩ := hG.form
  refine SpecM.enter Tryz.func148 rfl Tryz.ntmps148 rfl ?_
  intro w0 X0 own0
  refine T.perm (own' := (⟨bw, [.slice As len css], 231, 1⟩ :: own0) ++ G) permD ?_
  refine T.seq <| T.region <| SL.mv rfl <| SL.v (op_neqNil Tryz.underlying179 rfl rfl) <| SL.nil <| T.condT rfl <| T.region <| SL.mv rfl <| SL.mv rfl <| SL.v (op_nil rfl) <| SL.v (op_fieldAddr fa231_0 rfl) <| SL.v (op_load ty44 rfl (by repeat constructor) rfl) ?_
  refine SL.mv rfl <| SL.w (op_appendGM (own0 := ⟨bw, [.slice As len css], 231, 1⟩ :: own0) sl44 rfl hG rfl (Src.ofBytes hp) h0 (bytesC_one l) (by omega) (by omega)) ?_
  rintro s' _ _ ⟨G', rfl, rfl, hG'⟩
  obtain ⟨As', cps', rfl⟩ := hG'.form
  refine SL.v (op_nil rfl) <| SL.v (op_fieldAddr fa231_0 rfl) <| SL.w (op_store ty44 rfl rfl (by repeat constructor) rfl rfl rfl) ?_
  rintro _ _ _ ⟨rfl, rfl⟩
  refine SL.nil <| T.doneM0 (⟨bw, [.slice As' (len + l.length) cps'], 231, 1⟩ :: G') rfl permD ?_
  exact ⟨PMap.le_refl _, _, G', rfl, hG'⟩
theorem uintW_spec {X : PMap} {bw len : Nat} {sv : Value} {l : List Nat} {G : Own} {n : Nat} (hn : n < 18446744073709551616) (hG : GrowS 5 1 sv len (bytesC l) G) (hl : len < 900000000) :
    SpecM Tryz.prog 97 [.pointer (some ⟨bw, 0, none⟩), .int .u64 (n : Int)] X (⟨bw, [sv], 231, 1⟩ :: G) fun _ L' _ => ∃ sv' G', L' = ⟨bw, [sv'], 231, 1⟩ :: G' ∧ GrowS 5 1 sv' (len + (numB n).length) (bytesC (l ++ numB n)) G' := by
  have hnl := numB_len hn
  refine SpecM.enter Tryz.func97 rfl Tryz.ntmps97 rfl ?_
  intro w0 X0 own0
  refine T.region <| SL.mv rfl <| SL.mv rfl <| SL.w (op_callF en149 (vs := [_]) rfl ((groups_spec hn).pubG)) ?_
  rintro u _ X1 ⟨rfl, hX1, hu⟩
  obtain ⟨A1, c1, rfl⟩ := SliceR.form hu
  refine SL.w (op_callM en148 (vs := [_, _]) rfl (rawW_spec hG (BytesR.ofS hu) rfl (numB_pos n) (by omega)) rfl) ?_
  rintro _ _ X2 ⟨L', rfl, hX2, sv', G', rfl, hG'⟩
  refine SL.nil <| T.doneM0 (⟨bw, [sv'], 231, 1⟩ :: G') rfl (List.Perm.refl _) ?_
  exact ⟨hX1.trans' hX2, sv', G', rfl, by rw [bytesC_append]; exact hG'⟩
theorem out_spec {X : PMap} {bw : Nat} {sv : Value} {l : List Nat} (hb : Blk X bw [sv]) (hs : BytesR X sv l) (hl : l.length < 1000000) : SpecO Tryz.prog 100 [.pointer (some ⟨bw, 0, none⟩)] X fun u own1 _ => GrowS 5 1 u l.length (bytesC l) own1 := by
  obtain ⟨A, cp, rfl⟩ := hs.form
  refine SpecO.enter Tryz.func100 rfl Tryz.ntmps100 rfl ?_
  intro w0 hw0
  refine T.seq <| T.region <| SL.as rfl <| SL.nil <| T.seq <| T.seq <| T.region <| SL.mv rfl <| SL.v (op_eqlNil Tryz.underlying179 rfl rfl) <| SL.nil <| T.condF rfl <| T.skip <| T.seq <| T.region <| SL.mv rfl ?_
  refine SL.v (op_nil rfl) <| SL.v (op_fieldAddr fa231_0 rfl) <| SL.v (op_loadX ty44 rfl (by assumption) rfl) ?_
  refine SL.w (op_callO en134 (vs := [_]) rfl (bclone_spec hs hl)) ?_
  rintro u own1 X1 ⟨_, rfl, hX1, hG⟩
  obtain ⟨A1, cp1, rfl⟩ := hG.form
  refine SL.as rfl <| SL.nil <| T.retO1 rfl (ResIs.tmp rfl) ?_
  simpa using hG
end Go.Proofs.YtnpcilglilfajaaGreatDoor
namespace Go.Proofs.YtnpcilglilfajaaGreatDoor
open Go.RowKit
section
variable {P : Program} {n : NM} {w0 : Base} {X0 X : PMap} {own : Own} {env : Env}
def byteC (s : ByteArray) : List Value := s.data.toList.map fun b => .int .u8 (b.toNat : Int)
/-- []byte(s): a row that nobody writes. -/
theorem op_bytesOf {src dst e : TypeId} {x : Operand} {s : ByteArray} (hs : P.underlying src = some .string) (hd : P.underlying dst = some (.slice e)) (he : P.underlying e = some (.int .u8)) (hx : eev env x = some (.string s)) :
    OpX P n w0 X0 env own X (.convert src dst x) true fun u own' X' => ∃ b cap, u = .slice (some ⟨b, 0, none⟩) s.size cap ∧ own = own' ∧ X.le X' ∧ Blk X' b (byteC s) := by
  intro a W oper K Q ro hop ha hsat hK
  have hr := run_bytes_of_string (P := P) W src dst e s hs hd he
  have hex : (execOp a.eval oper).run P W = .ok (.value (.slice (some ⟨W.heap.size, 0, none⟩) s.size (grownCap W s.size 0 e))) (W.drew.alloc (.cells (bytesRow s (grownCap W s.size 0 e)) e ((bytesRow s (grownCap W s.size 0 e)).size, (bytesRow s (grownCap W s.size 0 e)).size + 1))) := by
    simp [execOp, hop, ha.eval hx, hr]
  have h1 := hsat.draw (W.drawn + 1)
  have h2 := h1.lay (.cells (bytesRow s (grownCap W s.size 0 e)) e ((bytesRow s (grownCap W s.size 0 e)).size, (bytesRow s (grownCap W s.size 0 e)).size + 1))
  refine wp_value (noDefer_spec (by rw [hop]; rfl)) hex (hK _ _ _ _ ⟨_, _, rfl, rfl, PMap.le_add (PMap.le_refl _) hsat.stab.pers.fresh, ?_⟩ h2 fun _ => ?_)
  · have e1 : bytesRow s (grownCap W s.size 0 e) = (byteC s ++ List.replicate (grownCap W s.size 0 e - s.size) (Value.int .u8 0)).toArray := by
      apply Array.ext'
      simp [bytesRow, byteC]
    refine ⟨List.replicate (grownCap W s.size 0 e - s.size) (Value.int .u8 0), e, ((bytesRow s (grownCap W s.size 0 e)).size, (bytesRow s (grownCap W s.size 0 e)).size + 1), ?_⟩
    rw [← e1]
    exact PMap.add_at
  · have := Grow.alloc W.drew (.cells (bytesRow s (grownCap W s.size 0 e)) e ((bytesRow s (grownCap W s.size 0 e)).size, (bytesRow s (grownCap W s.size 0 e)).size + 1))
    exact ⟨this.size, this.same⟩
end
end Go.Proofs.YtnpcilglilfajaaGreatDoor
namespace Go.Proofs.YtnpcilglilfajaaGreatDoor
section
set_option maxRecDepth 100000
theorem en150 : Enters Tryz.prog 150 := enters_mk Tryz.func150 (by kernel_rfl) rfl
theorem en97 : Enters Tryz.prog 97 := enters_mk Tryz.func97 (by kernel_rfl) rfl
theorem en99 : Enters Tryz.prog 99 := enters_mk Tryz.func99 (by kernel_rfl) rfl
end
open Go.RowKit
def byN (s : ByteArray) : List Nat := s.data.toList.map (·.toNat)
theorem byN_C (s : ByteArray) : byteC s = bytesC (byN s) := by simp [byteC, bytesC, byN]
theorem byN_len (s : ByteArray) : (byN s).length = s.size := by simp [byN]
theorem SpecM.mono {P : Program} {f : FuncId} {vs : List Value} {X : PMap} {L : Own} {Φ Ψ : Value → Own → PMap → Prop} (h : SpecM P f vs X L Φ) (hk : ∀ v L' X', X.le X' → Φ v L' X' → Ψ v L' X') : SpecM P f vs X L Ψ :=
  fun w0 X0 own0 W hs => (h w0 X0 own0 W hs).mono fun _ _ ⟨v, L', X', he, hsat, hX, hΦ⟩ => ⟨v, L', X', he, hsat, hX, hk v L' X' hX hΦ⟩
abbrev WrO (b : Nat) (sv : Value) : Ow := ⟨b, [sv], 231, 1⟩
def WrS (sv : Value) (l : List Nat) (G : Own) : Prop := GrowS 5 1 sv l.length (bytesC l) G
theorem rawW2_spec {X : PMap} {bw : Nat} {sv p : Value} {a l : List Nat} {G : Own} (hG : WrS sv a G) (hp : BytesR X p l) (h0 : 0 < l.length) (hl : a.length + l.length < 1000000000) :
    SpecM Tryz.prog 148 [.pointer (some ⟨bw, 0, none⟩), p] X (WrO bw sv :: G) fun _ L' _ => ∃ sv' G', L' = WrO bw sv' :: G' ∧ WrS sv' (a ++ l) G' := by
  refine SpecM.mono (rawW_spec hG hp rfl h0 hl) ?_
  rintro _ _ _ _ ⟨sv', G', rfl, h⟩
  exact ⟨sv', G', rfl, by rw [WrS, List.length_append, bytesC_append]; exact h⟩
theorem uintW2_spec {X : PMap} {bw : Nat} {sv : Value} {l : List Nat} {G : Own} {n : Nat} (hn : n < 18446744073709551616) (hG : WrS sv l G) (hl : l.length < 900000000) :
    SpecM Tryz.prog 97 [.pointer (some ⟨bw, 0, none⟩), .int .u64 (n : Int)] X (WrO bw sv :: G) fun _ L' _ => ∃ sv' G', L' = WrO bw sv' :: G' ∧ WrS sv' (l ++ numB n) G' := by
  refine SpecM.mono (uintW_spec hn hG hl) ?_
  rintro _ _ _ _ ⟨sv', G', rfl, h⟩
  exact ⟨sv', G', rfl, by rw [WrS, List.length_append]; exact h⟩
theorem flagW_spec {X : PMap} {bw : Nat} {sv : Value} {l : List Nat} {G : Own} {b : Bool} (hG : WrS sv l G) (hl : l.length < 900000000) :
    SpecM Tryz.prog 96 [.pointer (some ⟨bw, 0, none⟩), .bool b] X (WrO bw sv :: G) fun _ L' _ => ∃ sv' G', L' = WrO bw sv' :: G' ∧ WrS sv' (l ++ [if b then 1 else 0]) G' := by
  cases b with
  | true =>
    refine SpecM.enter Tryz.func96 rfl Tryz.ntmps96 rfl ?_
    intro w0 X0 own0
    refine T.seq <| T.seq <| T.region <| SL.mv rfl <| SL.nil <| T.condT rfl <| T.seq <| T.region <| SL.mv rfl <| SL.w (op_buildSlice Tryz.underlying44 bs5 (qs := [(0, _)]) rfl rfl rfl rfl rfl) ?_
    rintro _ _ _ ⟨B6, rfl, rfl, rfl⟩
    refine T.pubAt B6 (by repeat constructor) ?_
    intro X1 hX1 hB6 _
    refine SL.w (op_callM en148 (vs := [_, _]) rfl (rawW2_spec (l := [1]) hG (.inr ⟨by decide, B6, 1, [], rfl, hB6⟩) (by decide) (by simp; omega)) rfl) ?_
    rintro _ _ X2 ⟨_, rfl, hX2, sv2, G2, rfl, hG2⟩
    refine SL.nil <| T.retM0 (WrO bw sv2 :: G2) rfl (List.Perm.refl _) ?_
    exact ⟨hX1.trans' hX2, sv2, G2, rfl, hG2⟩
  | false =>
    refine SpecM.enter Tryz.func96 rfl Tryz.ntmps96 rfl ?_
    intro w0 X0 own0
    refine T.seq <| T.seq <| T.region <| SL.mv rfl <| SL.nil <| T.condF rfl <| T.skip <| T.region <| SL.mv rfl <| SL.w (op_buildSlice Tryz.underlying44 bs5 (qs := [(0, _)]) rfl rfl rfl rfl rfl) ?_
    rintro _ _ _ ⟨B9, rfl, rfl, rfl⟩
    refine T.pubAt B9 (by repeat constructor) ?_
    intro X1 hX1 hB9 _
    refine SL.w (op_callM en148 (vs := [_, _]) rfl (rawW2_spec (l := [0]) hG (.inr ⟨by decide, B9, 1, [], rfl, hB9⟩) (by decide) (by simp; omega)) rfl) ?_
    rintro _ _ X2 ⟨_, rfl, hX2, sv2, G2, rfl, hG2⟩
    refine SL.nil <| T.doneM0 (WrO bw sv2 :: G2) rfl (List.Perm.refl _) ?_
    exact ⟨hX1.trans' hX2, sv2, G2, rfl, hG2⟩
theorem bytesW_spec {X : PMap} {bw : Nat} {sv p : Value} {a l : List Nat} {G : Own} (hG : WrS sv a G) (hp : BytesR X p l) (h0 : 0 < l.length) (hl : a.length + l.length < 800000000) :
    SpecM Tryz.prog 150 [.pointer (some ⟨bw, 0, none⟩), p] X (WrO bw sv :: G) fun _ L' _ => ∃ sv' G', L' = WrO bw sv' :: G' ∧ WrS sv' (a ++ numB l.length ++ l) G' := by
  obtain ⟨A, cp, rfl⟩ := hp.form
  have hnl := numB_len (n := l.length) (by omega)
  refine SpecM.enter Tryz.func150 rfl Tryz.ntmps150 rfl ?_
  intro w0 X0 own0
  refine T.seq <| T.region <| SL.mv rfl <| SL.mv rfl <| SL.v (op_lenS Tryz.underlying44 rfl) <| SL.v (op_convU64 Tryz.underlying3 Tryz.underlying58 rfl (by omega) (by omega)) ?_
  refine SL.w (op_callM en97 (vs := [_, _]) rfl (uintW2_spec (n := l.length) (by omega) hG (by omega)) rfl) ?_
  rintro _ _ X1 ⟨_, rfl, hX1, sv1, G1, rfl, hG1⟩
  refine SL.nil <| T.region <| SL.mv rfl <| SL.mv rfl <| SL.w (op_callM en148 (vs := [_, _]) rfl (rawW2_spec hG1 (hp.mono hX1) h0 (by rw [List.length_append]; omega)) rfl) ?_
  rintro _ _ X2 ⟨_, rfl, hX2, sv2, G2, rfl, hG2⟩
  refine SL.nil <| T.doneM0 (WrO bw sv2 :: G2) rfl (List.Perm.refl _) ?_
  exact ⟨hX1.trans' hX2, sv2, G2, rfl, hG2⟩
theorem strW_spec {X : PMap} {bw : Nat} {sv : Value} {a : List Nat} {s : ByteArray} {G : Own} (hG : WrS sv a G) (h0 : 0 < s.size) (hl : a.length + s.size < 800000000) :
    SpecM Tryz.prog 98 [.pointer (some ⟨bw, 0, none⟩), .string s] X (WrO bw sv :: G) fun _ L' _ => ∃ sv' G', L' = WrO bw sv' :: G' ∧ WrS sv' (a ++ numB s.size ++ byN s) G' := by
  refine SpecM.enter Tryz.func98 rfl Tryz.ntmps98 rfl ?_
  intro w0 X0 own0
  refine T.region <| SL.mv rfl <| SL.mv rfl <| SL.w (op_bytesOf Tryz.underlying9 Tryz.underlying44 Tryz.underlying5 rfl) ?_
  rintro _ _ X1 ⟨b6, c6, rfl, rfl, hX1, hB6⟩
  rw [byN_C] at hB6
  have hlen := byN_len s
  rw [← hlen] at h0 hl ⊢
  refine SL.w (op_callM en150 (vs := [_, _]) rfl (bytesW_spec (l := byN s) hG (.inr ⟨h0, b6, c6, [], rfl, hB6⟩) h0 (by omega)) rfl) ?_
  rintro _ _ X2 ⟨_, rfl, hX2, sv2, G2, rfl, hG2⟩
  refine SL.nil <| T.doneM0 (WrO bw sv2 :: G2) rfl (List.Perm.refl _) ?_
  exact ⟨hX1.trans' hX2, sv2, G2, rfl, hG2⟩
mutual
/-- The bytes of a formula. -/
def encF : Fm → List Nat
  | .mk op n rs al => numB op ++ (numB n.toNat ++ (numB rs.length ++ ((rs.map numB).flatten ++ (numB al.length ++ encFL al))))
def encFL : List Fm → List Nat
  | [] => []
  | a :: al => encF a ++ encFL al
end
theorem encFL_app (b : List Fm) : ∀ l : List Fm, encFL (l ++ b) = encFL l ++ encFL b
  | [] => by simp [encFL]
  | a :: l => by rw [List.cons_append, encFL, encFL, encFL_app b l, List.append_assoc]
mutual
def nokF : Fm → Prop
  | .mk op n rs al => op < 256 ∧ 0 ≤ n ∧ n < 1000000 ∧ (∀ r ∈ rs, r < 64) ∧ nokFL al
def nokFL : List Fm → Prop
  | [] => True
  | a :: al => nokF a ∧ nokFL al
end
theorem nokFL_mem {a : Fm} : ∀ {l : List Fm}, nokFL l → a ∈ l → nokF a
  | x :: l, h, hm => by
    rw [nokFL] at h
    rcases List.mem_cons.1 hm with rfl | hm
    · exact h.1
    · exact nokFL_mem h.2 hm
theorem nokFL_take : ∀ {l : List Fm} {i : Nat}, nokFL l → nokFL (l.take i)
  | [], _, h => by rw [List.take_nil]; exact h
  | a :: l, 0, _ => trivial
  | a :: l, i + 1, h => ⟨h.1, nokFL_take h.2⟩
mutual
theorem insF_nok {kind : Nat} : ∀ f : Fm, insF kind f = 0 → nokF f
  | .mk op n rs al, h => by
    obtain ⟨h1, _, h3⟩ := insF_ok h
    obtain ⟨a1, a2, _, _, _, _, a3, a4, a5, _⟩ := ownF_ok h1
    exact ⟨by omega, a3, by omega, fun r hr => by have := a5 r hr; omega, insFL_nok al h3⟩
theorem insFL_nok {kind : Nat} : ∀ l : List Fm, insFL kind l = 0 → nokFL l
  | [], _ => trivial
  | a :: l, h => by
    have h0 := insFL_zero h a (by simp)
    rw [insFL, if_neg (by simp [h0])] at h
    exact ⟨insF_nok a h0, insFL_nok l h⟩
end
theorem flatB_len {l : List Nat} (h : ∀ r ∈ l, r < 64) : ((l.map numB).flatten).length ≤ 10 * l.length := by
  induction l with
  | nil => simp
  | cons r l ih =>
    have := numB_len (n := r) (by have := h r (by simp); omega)
    have := ih fun q hq => h q (by simp [hq])
    simp only [List.map_cons, List.flatten_cons, List.length_append, List.length_cons]; omega
mutual
theorem encF_len : ∀ f : Fm, nokF f → wtF f < 1000000 → (encF f).length ≤ 40 * wtF f
  | .mk op n rs al, h, hw => by
    rw [nokF] at h
    obtain ⟨h1, h2, h3, h4, h5⟩ := h
    have q := wtFL_len al
    rw [wtF] at hw ⊢
    have a1 := numB_len (n := op) (by omega)
    have a2 := numB_len (n := n.toNat) (by omega)
    have a3 := numB_len (n := rs.length) (by omega)
    have a4 := numB_len (n := al.length) (by omega)
    have a5 := flatB_len h4
    have a6 := encFL_len al h5 (by omega)
    rw [encF]
    simp only [List.length_append]; omega
theorem encFL_len : ∀ l : List Fm, nokFL l → wtFL l < 1000000 → (encFL l).length ≤ 40 * wtFL l
  | [], _, _ => by simp [encFL]
  | a :: l, h, hw => by
    rw [nokFL] at h
    rw [wtFL] at hw ⊢
    have := encF_len a h.1 (by omega)
    have := encFL_len l h.2 (by omega)
    rw [encFL, List.length_append]; omega
end
theorem write_spec (N : Nat) : ∀ {X : PMap} {f : Fm} {r : Row4} {bw : Nat} {sv : Value} {l : List Nat} {G : Own}, wtF f ≤ N → N < 1000000 → nokF f → l.length + 40 * wtF f < 700000000 → WrS sv l G → FmR .u8 X f r → SpecM Tryz.prog 99 [.agg #[r.1, r.2.1, r.2.2.1, r.2.2.2], .pointer (some ⟨bw, 0, none⟩)] X (WrO bw sv :: G) fun _ L' _ => ∃ sv' G', L' = WrO bw sv' :: G' ∧ WrS sv' (l ++ encF f) G' := by
  induction N with
  | zero => intro X f r bw sv l G h; have := wtF_pos f; omega
  | succ N ih =>
    intro X f r bw sv l G hN hB hok hll hG h
    cases h with
    | @mk op n rs al vn va rows hn ha hl hr =>
    obtain ⟨Aa, ca, rfl⟩ := ha.form
    obtain ⟨An, cn, rfl⟩ := hn.form
    have hlen := wtFL_len al
    rw [nokF] at hok
    obtain ⟨h1, h2, h3, h4, h5⟩ := hok
    rw [wtF] at hN hll
    obtain ⟨m, rfl⟩ : ∃ m : Nat, n = (m : Int) := ⟨n.toNat, by omega⟩
    have a1 := numB_len (n := op) (by omega)
    have a2 := numB_len (n := m) (by omega)
    have a3 := numB_len (n := rs.length) (by omega)
    have a4 := numB_len (n := al.length) (by omega)
    have a5 := flatB_len h4
    rw [encF]
    refine SpecM.enter Tryz.func99 rfl Tryz.ntmps99 rfl ?_
    intro w0 X0 own0
    refine T.seq <| T.region <| SL.w (op_box rfl) ?_
    rintro _ _ _ ⟨B2, rfl, rfl, rfl⟩
    refine SL.nil <| T.seq <| T.region <| T.pubAt B2 (by repeat constructor) ?_
    intro X1 hX1 hB2 _
    refine SL.mv rfl <| SL.v (op_fieldAddr fa36_0 rfl) <| SL.v (op_loadX ty33 rfl (by assumption) rfl) ?_
    refine SL.v (op_convU64 Tryz.underlying33 Tryz.underlying58 rfl (by omega) (by omega)) ?_
    refine SL.w (op_callM en97 (vs := [_, _]) rfl (uintW2_spec (n := op) (by omega) hG (by omega)) rfl) ?_
    rintro _ _ X2 ⟨_, rfl, hX2, sv2, G2, rfl, hG2⟩
    have hB2 := hB2.mono hX2
    refine SL.nil <| T.seq <| T.region <| SL.mv rfl <| SL.v (op_fieldAddr fa36_1 rfl) <| SL.v (op_loadX ty3 rfl (by assumption) rfl) ?_
    refine SL.v (op_convU64 Tryz.underlying3 Tryz.underlying58 rfl (by omega) (by omega)) ?_
    refine SL.w (op_callM en97 (vs := [_, _]) rfl (uintW2_spec (n := m) (by omega) hG2 (by rw [List.length_append]; omega)) rfl) ?_
    rintro _ _ X3 ⟨_, rfl, hX3, sv3, G3, rfl, hG3⟩
    have hB2 := hB2.mono hX3
    refine SL.nil <| T.seq <| T.region <| SL.mv rfl <| SL.v (op_fieldAddr fa36_2 rfl) <| SL.v (op_loadX ty24 rfl (by assumption) rfl) ?_
    refine SL.v (op_lenS Tryz.underlying24 rfl) <| SL.v (op_convU64 Tryz.underlying3 Tryz.underlying58 rfl (by omega) (by omega)) ?_
    refine SL.w (op_callM en97 (vs := [_, _]) rfl (uintW2_spec (n := rs.length) (by omega) hG3 (by simp only [List.length_append]; omega)) rfl) ?_
    rintro _ _ X4 ⟨_, rfl, hX4, sv4, G4, rfl, hG4⟩
    have hB2 := hB2.mono hX4
    have hX04 := ((hX1.trans' hX2).trans' hX3).trans' hX4
    obtain ⟨L3, hL3⟩ : ∃ L3, L3 = l ++ numB op ++ numB m ++ numB rs.length := ⟨_, rfl⟩
    have hL3l : L3.length ≤ l.length + 30 := by rw [hL3]; simp only [List.length_append]; omega
    rw [← hL3] at hG4
    refine SL.nil <| T.seq <| T.seq <| T.region <| SL.v (op_fieldAddr fa36_2 rfl) <| SL.v (op_loadX ty24 rfl (by assumption) rfl) ?_
    refine SL.v (op_lenS Tryz.underlying24 rfl) <| SL.v (op_move (v := .int .i64 ((0 : Nat) : Int)) rfl) <| SL.nil <| T.block <| T.loopW (fun q env own X' => ∃ (i : Nat) (sv : Value) (G : Own), q = rs.length - i ∧ i ≤ rs.length ∧ X4.le X' ∧ WrS sv (L3 ++ ((rs.take i).map numB).flatten) G ∧ env = [(1, .pointer (some ⟨bw, 0, none⟩)), (2, .pointer (some ⟨B2, 0, none⟩)), (25, .slice An rs.length cn), (26, .int .i64 (rs.length : Int)), (27, .int .i64 (i : Int))] ∧ own = WrO bw sv :: G ++ own0) rs.length ⟨0, sv4, G4, by simp, by omega, PMap.le_refl _, by simpa using hG4, rfl, rfl⟩ (by repeat (first | exact Sub.nil | refine Sub.cons rfl ?_)) ?_
    rintro q _ _ X5 ⟨i, sv5, G5, rfl, hi, hX5, hG5, rfl, rfl⟩
    have hB2 := hB2.mono hX5
    have a6 := flatB_len (l := rs.take i) fun r hr => h4 r (List.mem_of_mem_take hr)
    have a7 : (rs.take i).length ≤ rs.length := by rw [List.length_take]; omega
    rcases Nat.lt_or_ge i rs.length with hil | hil
    · obtain ⟨b, rfl, hB⟩ := hn.blk (by omega)
      have htk : rs.take (i + 1) = rs.take i ++ [rs[i]] := List.take_succ_eq_append_getElem hil
      have hri := h4 _ (List.getElem_mem hil)
      refine T.seq <| T.region <| SL.v (op_lssT rfl rfl (by omega)) ?_
      refine SL.nil <| T.seq <| T.condT rfl <| T.skip <| T.seq <| T.block <| T.seq <| T.region <| SL.v (op_indexN Tryz.underlying24 ty3 rfl rfl (by omega)) ?_
      refine SL.v (op_loadX ty3 rfl ((hB.mono hX04).mono hX5) (cread1 (ints_get rs i hil))) <| SL.as rfl <| SL.nil <| T.region <| SL.mv rfl <| SL.mv rfl <| SL.v (op_convU64 Tryz.underlying3 Tryz.underlying58 rfl (by omega) (by omega)) ?_
      refine SL.w (op_callM en97 (vs := [_, _]) rfl (uintW2_spec (n := rs[i]) (by omega) hG5 (by simp only [List.length_append]; omega)) rfl) ?_
      rintro _ _ X6 ⟨_, rfl, hX6, sv6, G6, rfl, hG6⟩
      refine SL.nil <| T.blk <| T.region <| SL.v (op_addN (q := 1) rfl rfl (by omega)) ?_
      refine SL.mv rfl <| SL.nil ?_
      exact T.backW (rs.length - (i + 1)) (by omega) ⟨i + 1, sv6, G6, rfl, by omega, hX5.trans' hX6, by rw [htk, List.map_append, List.flatten_append, List.map_singleton, List.flatten_singleton, ← List.append_assoc]; exact hG6, rfl, rfl⟩ (by repeat (first | exact Sub.nil | refine Sub.cons rfl ?_))
    obtain rfl : i = rs.length := by omega
    rw [List.take_of_length_le (Nat.le_refl _)] at hG5 a6
    have hX05 := hX04.trans' hX5
    refine T.seq <| T.region <| SL.v (op_lssF rfl rfl (by omega)) ?_
    refine SL.nil <| T.seq <| T.condF rfl ?_
    refine T.exit (T.exitCode (T.exitCut (T.exitBlk ?_)))
    refine T.seq <| T.region <| SL.mv rfl <| SL.v (op_fieldAddr fa36_3 rfl) <| SL.v (op_loadX ty34 rfl (by assumption) rfl) ?_
    refine SL.v (op_lenS Tryz.underlying34 rfl) <| SL.v (op_convU64 Tryz.underlying3 Tryz.underlying58 rfl (by omega) (by omega)) ?_
    refine SL.w (op_callM en97 (vs := [_, _]) rfl (uintW2_spec (n := rows.length) (by omega) hG5 (by simp only [List.length_append]; omega)) rfl) ?_
    rintro _ _ X6 ⟨_, rfl, hX6, sv6, G6, rfl, hG6⟩
    have hB2 := hB2.mono hX6
    have hX06 := hX05.trans' hX6
    obtain ⟨L5, hL5⟩ : ∃ L5, L5 = L3 ++ (rs.map numB).flatten ++ numB rows.length := ⟨_, rfl⟩
    have hL5l : L5.length ≤ l.length + 40 + 10 * rs.length := by rw [hL5, hl]; simp only [List.length_append]; omega
    rw [← hL5] at hG6
    refine SL.nil <| T.seq <| T.region <| SL.v (op_fieldAddr fa36_3 rfl) <| SL.v (op_loadX ty34 rfl (by assumption) rfl) ?_
    refine SL.v (op_lenS Tryz.underlying34 rfl) <| SL.v (op_move (v := .int .i64 ((0 : Nat) : Int)) rfl) <| SL.nil <| T.block <| T.loopW (fun q env own X' => ∃ (i : Nat) (sv : Value) (G : Own), q = rows.length - i ∧ i ≤ rows.length ∧ X6.le X' ∧ WrS sv (L5 ++ encFL (al.take i)) G ∧ env = [(1, .pointer (some ⟨bw, 0, none⟩)), (43, .slice Aa rows.length ca), (44, .int .i64 (rows.length : Int)), (45, .int .i64 (i : Int))] ∧ own = WrO bw sv :: G ++ own0) rows.length ⟨0, sv6, G6, by simp, by omega, PMap.le_refl _, by simpa [encFL] using hG6, rfl, rfl⟩ (by repeat (first | exact Sub.nil | refine Sub.cons rfl ?_)) ?_
    rintro q _ _ X7 ⟨i, sv7, G7, rfl, hi, hX7, hG7, rfl, rfl⟩
    have hX07 := hX06.trans' hX7
    rcases Nat.lt_or_ge i rows.length with hil | hil
    · obtain ⟨r2, hr2⟩ : ∃ r2, rows[i]? = some r2 := ⟨_, List.getElem?_eq_getElem hil⟩
      obtain ⟨a, ha2⟩ : ∃ a, al[i]? = some a := ⟨_, List.getElem?_eq_getElem (by omega)⟩
      have hma := List.mem_of_getElem? ha2
      have hra := (hr i a r2 ha2 hr2).mono hX07
      obtain ⟨bA, pre, rfl, hbA⟩ := ha.blk (by omega)
      have hwa := wtFL_mem hma
      have hts := take_snoc ha2
      have hw1 : wtFL (al.take (i + 1)) ≤ wtFL al := by
        have := wtFL_app (al.drop (i + 1)) (al.take (i + 1))
        rw [List.take_append_drop] at this; omega
      have hw2 : wtFL (al.take (i + 1)) = wtFL (al.take i) + wtF a := by rw [hts, wtFL_snoc]
      have hnt : nokFL (al.take i) := nokFL_take h5
      have hel := encFL_len (al.take i) hnt (by omega)
      have hih := fun {X' : PMap} (hX : X7.le X') => ih (bw := bw) (by omega) (by omega) (nokFL_mem h5 hma) (by simp only [List.length_append]; omega) hG7 (hra.mono hX)
      obtain ⟨_, _, _, _, _, _, _, _, rfl⟩ := hra.form
      try simp only at hih
      refine T.seq <| T.region <| SL.v (op_lssT rfl rfl (by omega)) ?_
      refine SL.nil <| T.seq <| T.condT rfl <| T.skip <| T.seq <| T.block <| T.seq <| T.region <| SL.v (op_indexN Tryz.underlying34 ty36 rfl rfl (by omega)) ?_
      refine SL.v (op_loadX ty36 rfl (hbA.mono hX07) (row_read rc4_len hr2 (by omega))) ?_
      refine SL.w (op_alloc z36) ?_
      rintro _ _ _ ⟨B7, rfl, rfl, rfl⟩
      refine SL.w (op_store ty36 rfl rfl (by repeat constructor) rfl rfl rfl) ?_
      rintro _ _ _ ⟨rfl, rfl⟩
      refine SL.nil <| T.region <| T.pubAt B7 (by repeat constructor) ?_
      intro X8 hX8 hB7 _
      refine SL.v (op_loadX ty36 rfl (by assumption) rfl) ?_
      refine SL.mv rfl <| SL.w (op_callM en99 (vs := [_, _]) rfl (hih hX8) rfl) ?_
      rintro _ _ X9 ⟨_, rfl, hX9, sv9, G9, rfl, hG9⟩
      refine SL.nil <| T.blk <| T.region <| SL.v (op_addN (q := 1) rfl rfl (by omega)) ?_
      refine SL.mv rfl <| SL.nil ?_
      exact T.backW (rows.length - (i + 1)) (by omega) ⟨i + 1, sv9, G9, rfl, by omega, (hX7.trans' hX8).trans' hX9, by rw [hts, encFL_app, encFL, encFL, List.append_nil, ← List.append_assoc]; exact hG9, rfl, rfl⟩ (by repeat (first | exact Sub.nil | refine Sub.cons rfl ?_))
    · obtain rfl : i = rows.length := by omega
      rw [List.take_of_length_le (by omega)] at hG7
      refine T.seq <| T.region <| SL.v (op_lssF rfl rfl (by omega)) ?_
      refine SL.nil <| T.seq <| T.condF rfl ?_
      refine T.exit (T.exitCode (T.exitCut (T.exitBlk ?_)))
      refine T.doneM0 (WrO bw sv7 :: G7) rfl (List.Perm.refl _) ?_
      refine ⟨hX07, sv7, G7, rfl, ?_⟩
      rw [hL5, hL3, hl] at hG7
      simp only [List.append_assoc] at hG7 ⊢
      exact hG7
end Go.Proofs.YtnpcilglilfajaaGreatDoor
namespace Go.Proofs.YtnpcilglilfajaaGreatDoor
section
set_option maxRecDepth 100000
theorem en100 : Enters Tryz.prog 100 := enters_mk Tryz.func100 (by kernel_rfl) rfl
theorem en47 : Enters Tryz.prog 47 := enters_mk Tryz.func47 (by kernel_rfl) rfl
theorem en95 : Enters Tryz.prog 95 := enters_mk Tryz.func95 (by kernel_rfl) rfl
theorem en96 : Enters Tryz.prog 96 := enters_mk Tryz.func96 (by kernel_rfl) rfl
theorem en98 : Enters Tryz.prog 98 := enters_mk Tryz.func98 (by kernel_rfl) rfl
theorem fa101_0 : FAdr Tryz.prog 101 0 0 := fadr_mk Tryz.underlying101 rfl rfl (by kernel_rfl)
theorem fa101_1 : FAdr Tryz.prog 101 1 1 := fadr_mk Tryz.underlying101 rfl rfl (by kernel_rfl)
theorem fa101_2 : FAdr Tryz.prog 101 2 2 := fadr_mk Tryz.underlying101 rfl rfl (by kernel_rfl)
theorem fa101_3 : FAdr Tryz.prog 101 3 3 := fadr_mk Tryz.underlying101 rfl rfl (by kernel_rfl)
theorem ty101 : Ty Tryz.prog 101 true 7 := ⟨⟨_, Tryz.underlying101, rfl⟩, by kernel_rfl⟩
end
open Go.RowKit
/-- What is wrong with a constraint. -/
noncomputable def chkC18 (kind : Nat) (name : ByteArray) (f : Fm) : Int := if kind < 1 ∨ 3 < kind then 1 else if ¬validS name then 9 else chkF kind f
def enc18 (enf : Bool) (kind : Nat) (name : ByteArray) (f : Fm) : List Nat := [if enf then 1 else 0] ++ numB kind ++ numB name.size ++ byN name ++ encF f
theorem conchk_spec {X : PMap} {enf : Bool} {kind : Nat} {name : ByteArray} {f : Fm} {r : Row4} (hw : wtF f < 1000000) (hk : kind < 256) (h : FmR .u8 X f r) : Spec Tryz.prog 47 [.agg #[.bool enf, .int .u8 (kind : Int), .string name, r.1, r.2.1, r.2.2.1, r.2.2.2]] X fun u _ => u = .int .i64 (chkC18 kind name f) := by
  have hc1 := fun {X' : PMap} (hX : X.le X') => fchk_spec (kind := kind) hw hk (h.mono hX)
  obtain ⟨o, n, A, B, l, c, l', c', rfl⟩ := h.form
  try simp only at hc1
  rw [chkC18]
  by_cases k1 : kind < 1
  · rw [if_pos (.inl k1)]
    refine Spec.enter Tryz.func47 rfl Tryz.ntmps47 rfl ?_
    intro w0 hw0
    refine T.seq <| T.region <| SL.w (op_box rfl) ?_
    rintro _ _ _ ⟨B1, rfl, rfl, rfl⟩
    refine SL.v (op_assign (v := .int .i64 ((0 : Nat) : Int)) rfl) <| SL.nil <| T.seq <| T.block <| T.seq <| T.region <| SL.v (op_fieldAddr fa101_1 rfl) <| SL.v (op_load ty41 rfl (by repeat constructor) rfl) ?_
    refine SL.v (op_lssT rfl rfl (by omega)) ?_
    refine SL.mv rfl <| SL.skip rfl rfl ?_
    refine SL.skip rfl rfl ?_
    refine SL.skip rfl rfl ?_
    refine SL.v (op_pickT rfl rfl) <| SL.as rfl <| SL.nil <| T.condT rfl <| T.seq <| T.region <| SL.v (op_assign (v := .int .i64 ((1 : Nat) : Int)) rfl) <| SL.nil <| T.ret1 rfl (ResIs.tmp rfl) ?_
    rfl
  by_cases k2 : 3 < kind
  · rw [if_pos (.inr k2)]
    refine Spec.enter Tryz.func47 rfl Tryz.ntmps47 rfl ?_
    intro w0 hw0
    refine T.seq <| T.region <| SL.w (op_box rfl) ?_
    rintro _ _ _ ⟨B1, rfl, rfl, rfl⟩
    refine SL.v (op_assign (v := .int .i64 ((0 : Nat) : Int)) rfl) <| SL.nil <| T.seq <| T.block <| T.seq <| T.region <| SL.v (op_fieldAddr fa101_1 rfl) <| SL.v (op_load ty41 rfl (by repeat constructor) rfl) ?_
    refine SL.v (op_lssF rfl rfl (by omega)) ?_
    refine SL.mv rfl <| SL.v (op_fieldAddr fa101_1 rfl) <| SL.v (op_load ty41 rfl (by repeat constructor) rfl) ?_
    refine SL.v (op_gtrT rfl rfl (by omega)) ?_
    refine SL.v (op_pickF rfl rfl) <| SL.as rfl <| SL.nil <| T.condT rfl <| T.seq <| T.region <| SL.v (op_assign (v := .int .i64 ((1 : Nat) : Int)) rfl) <| SL.nil <| T.ret1 rfl (ResIs.tmp rfl) ?_
    rfl
  rw [if_neg (fun h => h.elim k1 k2)]
  refine Spec.enter Tryz.func47 rfl Tryz.ntmps47 rfl ?_
  intro w0 hw0
  refine T.seq <| T.region <| SL.w (op_box rfl) ?_
  rintro _ _ _ ⟨B1, rfl, rfl, rfl⟩
  refine SL.v (op_assign (v := .int .i64 ((0 : Nat) : Int)) rfl) <| SL.nil <| T.seq <| T.block <| T.seq <| T.region <| SL.v (op_fieldAddr fa101_1 rfl) <| SL.v (op_load ty41 rfl (by repeat constructor) rfl) ?_
  refine SL.v (op_lssF rfl rfl (by omega)) ?_
  refine SL.mv rfl <| SL.v (op_fieldAddr fa101_1 rfl) <| SL.v (op_load ty41 rfl (by repeat constructor) rfl) ?_
  refine SL.v (op_gtrF rfl rfl (by omega)) ?_
  refine SL.v (op_pickF rfl rfl) <| SL.as rfl <| SL.nil <| T.condF rfl <| T.seq <| T.region <| SL.v (op_fieldAddr fa101_2 rfl) <| SL.v (op_load ty9 rfl (by repeat constructor) rfl) ?_
  refine SL.w (op_callF en94 (vs := [_]) rfl (nvalid_spec)) ?_
  rintro _ _ X1 ⟨rfl, hX1, rfl⟩
  by_cases hv : validS name
  case neg =>
    rw [decide_eq_false hv, if_pos hv]
    refine SL.v (op_not rfl) <| SL.as rfl <| SL.nil <| T.condT rfl <| T.seq <| T.region <| SL.v (op_assign (v := .int .i64 ((9 : Nat) : Int)) rfl) <| SL.nil <| T.ret1 rfl (ResIs.tmp rfl) ?_
    rfl
  rw [decide_eq_true hv, if_neg (fun h => h hv)]
  refine SL.v (op_not rfl) <| SL.as rfl <| SL.nil <| T.condF rfl <| T.skip <| T.blk <| T.seq <| T.region <| SL.v (op_fieldAddr fa101_3 rfl) <| SL.v (op_load ty36 rfl (by repeat constructor) rfl) ?_
  refine SL.v (op_fieldAddr fa101_1 rfl) <| SL.v (op_load ty41 rfl (by repeat constructor) rfl) ?_
  refine SL.w (op_callF en18 (vs := [_, _]) rfl (hc1 hX1)) ?_
  rintro _ _ X2 ⟨rfl, hX2, rfl⟩
  refine SL.as rfl <| SL.nil <| T.ret1 rfl (ResIs.tmp rfl) ?_
  rfl
theorem chkC18_ok {kind : Nat} {name : ByteArray} {f : Fm} (h : chkC18 kind name f = 0) : 1 ≤ kind ∧ kind ≤ 3 ∧ validS name ∧ chkF kind f = 0 := by
  unfold chkC18 at h
  split at h
  · cases h
  · split at h
    · cases h
    · rename_i h1 h2
      exact ⟨by omega, by omega, Classical.not_not.1 h2, h⟩
theorem chkF_ins {kind : Nat} {f : Fm} (h : chkF kind f = 0) : insF kind f = 0 := by
  unfold chkF at h
  split at h
  · cases h
  · split at h
    · rename_i hl; exact absurd h hl
    · rename_i hl
      have hl := Classical.not_not.1 hl
      rw [lookF] at hl
      split at hl
      · cases hl
      · exact hl
theorem cbytes_spec {X : PMap} {enf : Bool} {kind : Nat} {name : ByteArray} {f : Fm} {r : Row4} (hw : wtF f < 20000) (hk : kind < 256) (h : FmR .u8 X f r) : Spec Tryz.prog 50 [.agg #[.bool enf, .int .u8 (kind : Int), .string name, r.1, r.2.1, r.2.2.1, r.2.2.2]] X fun u X' => if chkC18 kind name f = 0 then BytesR X' u (enc18 enf kind name f) else u = .slice none 0 0 := by
  have hc1 := fun {X' : PMap} (hX : X.le X') => conchk_spec (enf := enf) (name := name) (by omega) hk (h.mono hX)
  have hc2 := fun {X' : PMap} {bw : Nat} {sv : Value} {l : List Nat} {G : Own} (hn : nokF f) (hl : l.length + 40 * wtF f < 700000000) (hG : WrS sv l G) (hX : X.le X') => write_spec (bw := bw) (wtF f) (Nat.le_refl _) (by omega) hn hl hG (h.mono hX)
  obtain ⟨o, n, A, B, l, c, l', c', rfl⟩ := h.form
  try simp only at hc1
  try simp only at hc2
  by_cases hck : chkC18 kind name f = 0
  case neg =>
    refine Spec.enter Tryz.func50 rfl Tryz.ntmps50 rfl ?_
    intro w0 hw0
    refine T.seq <| T.region <| SL.w (op_box rfl) ?_
    rintro _ _ _ ⟨B1, rfl, rfl, rfl⟩
    refine SL.as rfl <| SL.nil <| T.seq <| T.seq <| T.region <| SL.v (op_load ty101 rfl (by repeat constructor) rfl) ?_
    refine SL.w (op_callF en47 (vs := [_]) rfl (hc1 (PMap.le_refl _))) ?_
    rintro _ _ X1 ⟨rfl, hX1, rfl⟩
    refine SL.v (op_neqT rfl rfl (by omega)) ?_
    refine SL.nil <| T.condT rfl <| T.seq <| T.region <| SL.as rfl <| SL.nil <| T.ret1 rfl (ResIs.tmp rfl) ?_
    rw [if_neg hck]
  obtain ⟨k1, k2, hv, hcf⟩ := chkC18_ok hck
  have hnok := insF_nok f (chkF_ins hcf)
  have hel := encF_len f hnok (by omega)
  have hsz : 0 < name.size ∧ name.size ≤ 12 := ⟨by have := hv.1; omega, hv.2.1⟩
  have a1 := numB_len (n := kind) (by omega)
  have a2 := numB_len (n := name.size) (by omega)
  have a3 := byN_len name
  refine Spec.enter Tryz.func50 rfl Tryz.ntmps50 rfl ?_
  intro w0 hw0
  refine T.seq <| T.region <| SL.w (op_box rfl) ?_
  rintro _ _ _ ⟨B1, rfl, rfl, rfl⟩
  refine SL.as rfl <| SL.nil <| T.seq <| T.seq <| T.region <| T.pubAt B1 (by repeat constructor) ?_
  intro Y1 hY1 hB1 _
  refine SL.v (op_loadX ty101 rfl (by assumption) rfl) ?_
  refine SL.w (op_callF en47 (vs := [_]) rfl (hc1 hY1)) ?_
  rintro _ _ X1 ⟨rfl, hX1, rfl⟩
  rw [hck]
  have hB1 := hB1.mono hX1
  refine SL.v (op_neqF rfl rfl (by omega)) ?_
  refine SL.nil <| T.condF rfl <| T.skip <| T.seq <| T.region <| SL.w (op_callO en95 (vs := []) rfl (newW_spec)) ?_
  rintro _ _ X2 ⟨_, rfl, hX2, bw, rfl, rfl⟩
  have hB1 := hB1.mono hX2
  refine SL.as rfl <| SL.nil <| T.seq <| T.region <| SL.mv rfl <| SL.v (op_fieldAddr fa101_0 rfl) <| SL.v (op_loadX ty4 rfl (by assumption) rfl) ?_
  refine SL.perm (own' := (WrO bw (.slice none 0 0) :: []) ++ []) (List.Perm.of_eq rfl) ?_
  refine SL.w (op_callM en96 (vs := [_, _]) rfl (flagW_spec (l := []) (GrowS.nil : WrS _ [] []) (by decide)) rfl) ?_
  rintro _ _ X3 ⟨_, rfl, hX3, sv3, G3, rfl, hG3⟩
  have hB1 := hB1.mono hX3
  refine SL.nil <| T.seq <| T.region <| SL.mv rfl <| SL.v (op_fieldAddr fa101_1 rfl) <| SL.v (op_loadX ty41 rfl (by assumption) rfl) ?_
  refine SL.v (op_convU64 Tryz.underlying41 Tryz.underlying58 rfl (by omega) (by omega)) ?_
  refine SL.w (op_callM en97 (vs := [_, _]) rfl (uintW2_spec (n := kind) (by omega) hG3 (by simp)) rfl) ?_
  rintro _ _ X4 ⟨_, rfl, hX4, sv4, G4, rfl, hG4⟩
  have hB1 := hB1.mono hX4
  refine SL.nil <| T.seq <| T.region <| SL.mv rfl <| SL.v (op_fieldAddr fa101_2 rfl) <| SL.v (op_loadX ty9 rfl (by assumption) rfl) ?_
  refine SL.w (op_callM en98 (vs := [_, _]) rfl (strW_spec (s := name) hG4 hsz.1 (by simp only [List.length_append, List.length_cons, List.length_nil]; omega)) rfl) ?_
  rintro _ _ X5 ⟨_, rfl, hX5, sv5, G5, rfl, hG5⟩
  have hB1 := hB1.mono hX5
  refine SL.nil <| T.seq <| T.region <| SL.v (op_fieldAddr fa101_3 rfl) <| SL.v (op_loadX ty36 rfl (by assumption) rfl) ?_
  refine SL.mv rfl <| SL.w (op_callM en99 (vs := [_, _]) rfl (hc2 hnok (by simp only [List.length_append, List.length_cons, List.length_nil]; omega) hG5 ((((hY1.trans' hX1).trans' hX2).trans' hX3).trans' (hX4.trans' hX5))) rfl) ?_
  rintro _ _ X6 ⟨_, rfl, hX6, sv6, G6, rfl, hG6⟩
  refine SL.nil <| T.seq <| T.region <| SL.mv rfl <| SL.perm (own' := [WrO bw sv6] ++ G6) (by simp) ?_
  refine T.pubGAt (own0 := [WrO bw sv6]) hG6 ?_
  intro X7 hX7 hS7
  refine T.pubAt bw (by repeat constructor) ?_
  intro X8 hX8 hB8 _
  refine SL.w (op_callF en100 (vs := [_]) rfl ((out_spec hB8 (BytesR.ofS (hS7.mono hX8)) (by simp only [List.length_append, List.length_cons, List.length_nil]; omega)).pubG)) ?_
  rintro u _ X9 ⟨rfl, hX9, hu⟩
  refine SL.as rfl <| SL.nil <| T.ret1 rfl (ResIs.tmp rfl) ?_
  rw [if_pos rfl]
  exact BytesR.ofS hu
end Go.Proofs.YtnpcilglilfajaaGreatDoor
namespace Go.Proofs.YtnpcilglilfajaaGreatDoor
section
set_option maxRecDepth 100000
theorem en15 : Enters Tryz.prog 15 := enters_mk Tryz.func15 (by kernel_rfl) rfl
theorem en24 : Enters Tryz.prog 24 := enters_mk Tryz.func24 (by kernel_rfl) rfl
theorem en50 : Enters Tryz.prog 50 := enters_mk Tryz.func50 (by kernel_rfl) rfl
theorem en57 : Enters Tryz.prog 57 := enters_mk Tryz.func57 (by kernel_rfl) rfl
end
open Go.RowKit
section
variable {P : Program} {n : NM} {own : Own} {X : PMap} {env : Env}
/-- string(b) of published bytes. -/
theorem op_strBytesR {src dst e : TypeId} {x : Operand} {v : Value} {l : List UInt8} (hs : P.underlying src = some (.slice e)) (he : P.underlying e = some (.int .u8)) (hd : P.underlying dst = some .string)
    (hx : eev env x = some v) (hv : BytesR X v (l.map (·.toNat))) (h0 : 0 < l.length) : OpY P n env own X (.convert src dst x) (.string ⟨l.toArray⟩) := by
  rcases hv with ⟨h1, _⟩ | ⟨_, b, c, pre, rfl, hB⟩
  · rw [List.map_eq_nil_iff] at h1; rw [h1] at h0; exact absurd h0 (by simp)
  · refine op_strBytes (a := ⟨b, pre.length, none⟩) (cap := c) hs he hd (by rw [hx, List.length_map]) fun W hst j hj => ?_
    refine Eq.trans (congrArg W.cell? (show Addr.add ⟨b, pre.length, none⟩ j = ⟨b, pre.length + j, none⟩ by unfold Addr.add; split <;> simp_all)) (hB.cell hst.pers (i := pre.length + j) (v := .int .u8 (l[j].toNat : Int)) ?_)
    exact (by
      rw [List.getElem?_append_right (by omega), Nat.add_sub_cancel_left]
      exact bytesC_at (b := l[j].toNat) (by simp [hj]))
end
theorem exLeaf {k : IntKind} {X : PMap} {op : Nat} {n : Int} {vn : Value} {ns : List ByteArray} (hn : RowR strC X vn ns) : ExR k X (.mk op n ns []) (.int k (op : Int), .int .i64 n, vn, .slice none 0 0) := .mk (rows := []) hn (.inl ⟨rfl, _, _, rfl⟩) rfl (fun i a r h => by simp at h)
theorem exTwo {k : IntKind} {X : PMap} {op : Nat} {n : Int} {va : Value} {a b : Ex} {ra rb : Row4} (h : RowR rc4 X va [ra, rb]) (ha : ExR k X a ra) (hb : ExR k X b rb) : ExR k X (.mk op n [] [a, b]) (.int k (op : Int), .int .i64 n, .slice none 0 0, va) := .mk (rows := [ra, rb]) (.inl ⟨rfl, _, _, rfl⟩) h rfl (fun i x r h1 h2 => by
  match i with
  | 0 => simp at h1 h2; subst h1 h2; exact ha
  | 1 => simp at h1 h2; subst h1 h2; exact hb
  | i + 2 => simp at h1)
def sClerk : ByteArray := ⟨#[99, 108, 101, 114, 107]⟩
def sAud : ByteArray := ⟨#[97, 117, 100, 105, 116, 111, 114]⟩
def sTell : ByteArray := ⟨#[116, 101, 108, 108, 101, 114]⟩
def nsA : List ByteArray := [sClerk, sAud, sTell]
def e1A : Ex := .mk 11 0 [] [.mk 5 0 [sClerk, sAud] [], .mk 1 1 [] []]
def e2A : Ex := .mk 11 0 [] [.mk 16 0 [] [.mk 4 0 [sClerk] [], .mk 1 1 [] []], .mk 1 2 [] []]
def f1A : Fm := .mk 11 0 [] [.mk 5 0 [1, 2] [], .mk 1 1 [] []]
def f3A : Fm := .mk 4 0 [3] []
def sSod : ByteArray := ⟨#[115, 111, 100]⟩
theorem aw18n : errOf 63 [] nsA = 0 := errOf_ok (by intro s hs; simp only [nsA, List.mem_cons, List.not_mem_nil, or_false] at hs; rcases hs with rfl | rfl | rfl <;> exact of_decide_eq_true (by kernel_rfl)) (of_decide_eq_true (by kernel_rfl)) (by decide) (by decide)
theorem aw18a : resF nsA 0 1 e1A = (f1A, 0) := by kernel_rfl
theorem aw18b : (resF nsA 0 3 e1A).2 = 10 := by kernel_rfl
theorem aw18c : (resF nsA 0 1 e2A).2 = 10 := by kernel_rfl
theorem aw18t : typF f1A = (1, 0) := by kernel_rfl
theorem aw18m : menF f1A = 6 := by kernel_rfl
theorem aw18k : chkC18 1 sSod f3A = 0 := by kernel_rfl
theorem numB_small {n : Nat} (h : n < 128) : numB n = [n] := by rw [numB, Nat.div_eq_of_lt h, numHi_zero, Nat.mod_eq_of_lt h]; rfl
theorem aw18e : enc18 true 1 sSod f3A = [1, 1, 3, 115, 111, 100, 4, 0, 1, 3, 0] := by
  rw [enc18, show sSod.size = 3 from rfl, numB_small (by decide), numB_small (by decide)]
  simp [encF, encFL, f3A, numB_small, byN, sSod]
theorem awt18 {X : PMap} (hT : Tab X) {v : Value} {m : Nat} (h : SetR X v m) (hd : ∀ i ∈ mem64 m, i < 10) {s : List UInt8} (hs : txtOf (mem64 m) ++ [125] = s) : Spec Tryz.prog 57 [v] X fun u _ => u = .string ⟨s.toArray⟩ :=
  (text_spec hT h hd).mono fun _ _ _ hv => by rw [hv, hs]
theorem awake18_spec {X : PMap} (hT : Tab X) : Spec Tryz.prog 13 [] X fun u _ => u = .bool true := by
  refine Spec.enter Tryz.func13 rfl Tryz.ntmps13 rfl ?_
  intro w0 hw0
  refine T.seq <| T.region <| SL.as rfl <| SL.nil <| T.seq <| T.region <| SL.w (op_buildSlice Tryz.underlying59 bs9 (qs := [(0, _), (1, _), (2, _)]) rfl rfl rfl rfl rfl) ?_
  rintro _ _ _ ⟨B15, rfl, rfl, rfl⟩
  refine T.pubAt B15 (by repeat constructor) ?_
  intro X1 hX1 hB15 _
  refine SL.w (op_callF en24 (vs := [_]) rfl (tabl_spec (l := nsA) (.inr ⟨by decide, B15, 3, [], rfl, hB15, by decide, by decide⟩) (by decide))) ?_
  rintro vt _ X2 ⟨rfl, hX2, hTb⟩
  rw [if_pos aw18n] at hTb
  obtain ⟨bt, hbt⟩ := hTb.form
  subst hbt
  refine SL.as rfl <| SL.nil <| T.seq <| T.seq <| T.region <| SL.mv rfl <| SL.v (op_eqlNil Tryz.underlying64 rfl rfl) <| SL.nil <| T.condF rfl <| T.skip <| T.seq <| T.region <| SL.v (op_build st70 (qs := [(0, _), (1, _)]) rfl rfl) <| SL.w (op_alloc z70) ?_
  rintro _ _ _ ⟨B2, rfl, rfl, rfl⟩
  refine SL.w (op_store ty70 rfl rfl (by repeat constructor) rfl rfl rfl) ?_
  rintro _ _ _ ⟨rfl, rfl⟩
  refine SL.nil <| T.seq <| T.region <| SL.w (op_buildSlice Tryz.underlying59 bs9 (qs := [(0, _), (1, _)]) rfl rfl rfl rfl rfl) ?_
  rintro _ _ _ ⟨B20, rfl, rfl, rfl⟩
  refine SL.v (op_build st70 (qs := [(0, _), (2, _)]) rfl rfl) <| SL.w (op_alloc z70) ?_
  rintro _ _ _ ⟨B3, rfl, rfl, rfl⟩
  refine SL.w (op_store ty70 rfl rfl (by repeat constructor) rfl rfl rfl) ?_
  rintro _ _ _ ⟨rfl, rfl⟩
  refine SL.nil <| T.seq <| T.region <| T.pubAt B20 (by repeat constructor) ?_
  intro X3 hX3 hB20 _
  refine SL.v (op_load ty70 rfl (by repeat constructor) rfl) ?_
  refine SL.v (op_load ty70 rfl (by repeat constructor) rfl) ?_
  refine SL.w (op_buildSlice Tryz.underlying68 bs70 (qs := [(0, _), (1, _)]) rfl rfl rfl rfl rfl) ?_
  rintro _ _ _ ⟨B24, rfl, rfl, rfl⟩
  refine SL.v (op_build st70 (qs := [(0, _), (3, _)]) rfl rfl) <| SL.w (op_alloc z70) ?_
  rintro _ _ _ ⟨B4, rfl, rfl, rfl⟩
  refine SL.w (op_store ty70 rfl rfl (by repeat constructor) rfl rfl rfl) ?_
  rintro _ _ _ ⟨rfl, rfl⟩
  refine SL.nil <| T.seq <| T.region <| T.pubAt B24 (by repeat constructor) ?_
  intro X4 hX4 hB24 _
  have hR20 : RowR strC X4 (.slice (some ⟨B20, 0, none⟩) 2 2) [sClerk, sAud] := .inr ⟨by decide, B20, 2, [], rfl, hB20.mono hX4, by decide, by decide⟩
  have hE0 := exLeaf (k := .u8) (op := 5) (n := 0) hR20
  have hE1 := exLeaf (k := .u8) (X := X4) (op := 1) (n := 1) (vn := .slice none 0 0) (.inl ⟨rfl, _, _, rfl⟩)
  have hE : ExR .u8 X4 e1A (.int .u8 11, .int .i64 0, .slice none 0 0, .slice (some ⟨B24, 0, none⟩) 2 2) := exTwo (op := 11) (n := 0) (ra := (.int .u8 5, .int .i64 0, .slice (some ⟨B20, 0, none⟩) 2 2, .slice none 0 0)) (rb := (.int .u8 1, .int .i64 1, .slice none 0 0, .slice none 0 0)) (.inr ⟨Nat.zero_lt_succ _, B24, 2, [], rfl, hB24, Nat.le_refl _, by (have : maxLen = 9223372036854775807 := rfl); omega⟩) hE0 hE1
  have hT4 := (hTb.mono hX3).mono hX4
  have hr1 := resolve_spec (kind := 1) (by decide) (by decide) (by decide) hT4 (SetR.zero (A := none) (c := 0)) hE
  rw [aw18a] at hr1
  try simp only at hr1
  refine SL.v (op_load ty70 rfl (by repeat constructor) rfl) ?_
  refine SL.mv rfl <| SL.v (op_build st53 (qs := []) rfl rfl) <| SL.w (op_callF en25 (vs := [_, _, _, _]) rfl (hr1)) ?_
  rintro _ _ X5 ⟨rfl, hX5, r8, rfl, hr8⟩
  have hr2 := resolve_spec (kind := 3) (by decide) (by decide) (by decide) (hT4.mono hX5) (SetR.zero (A := none) (c := 0)) (hE.mono hX5)
  rw [aw18b] at hr2
  try simp only at hr2
  have hty := fun {X' : PMap} (hX : X5.le X') => ftyp_spec (by decide) (hr8.mono hX)
  simp only [aw18t] at hty
  have hmn := fun {X' : PMap} (hX : X5.le X') => fment_spec (wtF f1A) (Nat.le_refl _) (by decide) (insF_rol f1A (kind := 1) (by kernel_rfl)) (hr8.mono hX)
  simp only [aw18m] at hmn
  obtain ⟨o8, n8, a8, b8, l8, c8, l9, c9, rfl⟩ := hr8.form
  try simp only at hty
  try simp only at hmn
  refine SL.mv rfl <| SL.v (op_extract rfl rfl) <| SL.v (op_extract rfl rfl) <| SL.w (op_alloc z36) ?_
  rintro _ _ _ ⟨B5, rfl, rfl, rfl⟩
  refine SL.w (op_store ty36 rfl rfl (by repeat constructor) rfl rfl rfl) ?_
  rintro _ _ _ ⟨rfl, rfl⟩
  refine SL.as rfl <| SL.nil <| T.seq <| T.region <| SL.v (op_load ty70 rfl (by repeat constructor) rfl) ?_
  refine SL.mv rfl <| SL.v (op_build st53 (qs := []) rfl rfl) <| SL.w (op_callF en25 (vs := [_, _, _, _]) rfl (hr2)) ?_
  rintro _ _ X6 ⟨rfl, hX6, r9, rfl, hr9⟩
  obtain ⟨o9, n9, a9, b9, l10, c10, l11, c11, rfl⟩ := hr9.form
  refine SL.mv rfl <| SL.v (op_extract rfl rfl) <| SL.v (op_extract rfl rfl) <| SL.w (op_alloc z36) ?_
  rintro _ _ _ ⟨B7, rfl, rfl, rfl⟩
  refine SL.w (op_store ty36 rfl rfl (by repeat constructor) rfl rfl rfl) ?_
  rintro _ _ _ ⟨rfl, rfl⟩
  refine SL.as rfl <| SL.nil <| T.seq <| T.region <| SL.w (op_buildSlice Tryz.underlying59 bs9 (qs := [(0, _)]) rfl rfl rfl rfl rfl) ?_
  rintro _ _ _ ⟨B40, rfl, rfl, rfl⟩
  refine SL.v (op_build st70 (qs := [(0, _), (2, _)]) rfl rfl) <| SL.v (op_load ty70 rfl (by repeat constructor) rfl) ?_
  refine SL.w (op_buildSlice Tryz.underlying68 bs70 (qs := [(0, _), (1, _)]) rfl rfl rfl rfl rfl) ?_
  rintro _ _ _ ⟨B43, rfl, rfl, rfl⟩
  refine SL.v (op_build st70 (qs := [(0, _), (3, _)]) rfl rfl) <| SL.w (op_alloc z70) ?_
  rintro _ _ _ ⟨B9, rfl, rfl, rfl⟩
  refine SL.w (op_store ty70 rfl rfl (by repeat constructor) rfl rfl rfl) ?_
  rintro _ _ _ ⟨rfl, rfl⟩
  refine SL.nil <| T.seq <| T.region <| SL.v (op_load ty70 rfl (by repeat constructor) rfl) ?_
  refine SL.v (op_build st70 (qs := [(0, _), (1, _)]) rfl rfl) <| SL.w (op_buildSlice Tryz.underlying68 bs70 (qs := [(0, _), (1, _)]) rfl rfl rfl rfl rfl) ?_
  rintro _ _ _ ⟨B48, rfl, rfl, rfl⟩
  refine SL.v (op_build st70 (qs := [(0, _), (3, _)]) rfl rfl) <| T.pubAt B40 (by repeat constructor) ?_
  intro X7 hX7 hB40 _
  refine T.pubAt B43 (by repeat constructor) ?_
  intro X8 hX8 hB43 _
  refine T.pubAt B48 (by repeat constructor) ?_
  intro X9 hX9 hB48 _
  have hR40 : RowR strC X9 (.slice (some ⟨B40, 0, none⟩) 1 1) [sClerk] := .inr ⟨by decide, B40, 1, [], rfl, (hB40.mono hX8).mono hX9, by decide, by decide⟩
  have hF0 := exLeaf (k := .u8) (op := 4) (n := 0) hR40
  have hF1 := exLeaf (k := .u8) (X := X9) (op := 1) (n := 1) (vn := .slice none 0 0) (.inl ⟨rfl, _, _, rfl⟩)
  have hF2 := exLeaf (k := .u8) (X := X9) (op := 1) (n := 2) (vn := .slice none 0 0) (.inl ⟨rfl, _, _, rfl⟩)
  have hF3 := exTwo (op := 16) (n := 0) (va := .slice (some ⟨B43, 0, none⟩) 2 2) (ra := (.int .u8 4, .int .i64 0, .slice (some ⟨B40, 0, none⟩) 1 1, .slice none 0 0)) (rb := (.int .u8 1, .int .i64 1, .slice none 0 0, .slice none 0 0)) (.inr ⟨Nat.zero_lt_succ _, B43, 2, [], rfl, hB43.mono hX9, Nat.le_refl _, by (have : maxLen = 9223372036854775807 := rfl); omega⟩) hF0 hF1
  have hF : ExR .u8 X9 e2A (.int .u8 11, .int .i64 0, .slice none 0 0, .slice (some ⟨B48, 0, none⟩) 2 2) := exTwo (op := 11) (n := 0) (ra := (.int .u8 16, .int .i64 0, .slice none 0 0, .slice (some ⟨B43, 0, none⟩) 2 2)) (rb := (.int .u8 1, .int .i64 2, .slice none 0 0, .slice none 0 0)) (.inr ⟨Nat.zero_lt_succ _, B48, 2, [], rfl, hB48, Nat.le_refl _, by (have : maxLen = 9223372036854775807 := rfl); omega⟩) hF3 hF2
  have hX59 := ((hX6.trans' hX7).trans' hX8).trans' hX9
  have hr3 := resolve_spec (kind := 1) (by decide) (by decide) (by decide) ((hT4.mono hX5).mono hX59) (SetR.zero (A := none) (c := 0)) hF
  rw [aw18c] at hr3
  try simp only at hr3
  refine SL.mv rfl <| SL.v (op_build st53 (qs := []) rfl rfl) <| SL.w (op_callF en25 (vs := [_, _, _, _]) rfl (hr3)) ?_
  rintro _ _ X10 ⟨rfl, hX10, r12, rfl, hr12⟩
  obtain ⟨o13, n13, a13, b13, l13, c13, l14, c14, rfl⟩ := hr12.form
  have hX510 := hX59.trans' hX10
  refine SL.mv rfl <| SL.v (op_extract rfl rfl) <| SL.v (op_extract rfl rfl) <| SL.w (op_alloc z36) ?_
  rintro _ _ _ ⟨B10, rfl, rfl, rfl⟩
  refine SL.w (op_store ty36 rfl rfl (by repeat constructor) rfl rfl rfl) ?_
  rintro _ _ _ ⟨rfl, rfl⟩
  refine SL.as rfl <| SL.nil <| T.seq <| T.region <| SL.v (op_load ty36 rfl (by repeat constructor) rfl) ?_
  refine SL.w (op_callF en15 (vs := [_]) rfl (hty hX510)) ?_
  rintro _ _ X11 ⟨rfl, hX11, rfl⟩
  refine SL.mv rfl <| SL.v (op_extract rfl rfl) <| SL.v (op_extract rfl rfl) <| SL.as rfl <| SL.as rfl <| SL.nil <| T.seq <| T.region <| SL.w (op_buildSlice Tryz.underlying24 bs3 (qs := [(0, _)]) rfl rfl rfl rfl rfl) ?_
  rintro _ _ _ ⟨B60, rfl, rfl, rfl⟩
  refine SL.v (op_build st36 (qs := [(0, _), (2, _)]) rfl rfl) <| SL.v (op_build st101 (qs := [(0, _), (1, _), (2, _), (3, _)]) rfl rfl) <| SL.w (op_alloc z101) ?_
  rintro _ _ _ ⟨B14, rfl, rfl, rfl⟩
  refine SL.w (op_store ty101 rfl rfl (by repeat constructor) rfl rfl rfl) ?_
  rintro _ _ _ ⟨rfl, rfl⟩
  refine SL.nil <| T.seq <| T.region <| SL.mv rfl <| SL.v (op_eqlT rfl rfl (by omega)) ?_
  refine SL.mv rfl <| SL.mv rfl <| SL.v (op_eqlT rfl rfl (by omega)) ?_
  refine SL.v (op_pickT rfl rfl) <| SL.mv rfl <| SL.mv rfl <| SL.v (op_eqlT rfl rfl (by omega)) ?_
  refine SL.v (op_pickT rfl rfl) <| SL.mv rfl <| SL.mv rfl <| SL.v (op_eqlT rfl rfl (by omega)) ?_
  refine SL.v (op_pickT rfl rfl) <| SL.mv rfl <| SL.mv rfl <| SL.v (op_eqlT rfl rfl (by omega)) ?_
  refine SL.v (op_pickT rfl rfl) <| SL.mv rfl <| T.pubAt B60 (by repeat constructor) ?_
  intro X12 hX12 hB60 _
  have hX512 := (hX510.trans' hX11).trans' hX12
  refine SL.v (op_load ty36 rfl (by repeat constructor) rfl) ?_
  refine SL.w (op_callF en21 (vs := [_]) rfl (hmn hX512)) ?_
  rintro v83 _ X13 ⟨rfl, hX13, hS13⟩
  have hT13 := ((((hT.mono hX1).mono hX2).mono hX3).mono hX4).mono ((hX5.trans' hX512).trans' hX13)
  refine SL.w (op_callF en57 (vs := [_]) rfl (awt18 hT13 hS13 (by decide) (s := [123, 49, 32, 50, 125]) (by decide))) ?_
  rintro _ _ X14 ⟨rfl, hX14, rfl⟩
  refine SL.v (op_eqlStrT Tryz.underlying9 rfl rfl) ?_
  have hcb := cbytes_spec (enf := true) (kind := 1) (name := sSod) (f := f3A) (r := (.int .u8 4, .int .i64 0, .slice (some ⟨B60, 0, none⟩) 1 1, .slice none 0 0)) (by decide) (by decide) (.mk (rows := []) (op := 4) (rs := [3]) ⟨.inr ⟨by decide, B60, 1, rfl, (hB60.mono hX13).mono hX14⟩, _, _, rfl, by decide⟩ (.inl ⟨rfl, _, _, rfl⟩) rfl (fun i a r h => by simp at h))
  simp only [aw18k, aw18e, ↓reduceIte] at hcb
  refine SL.v (op_pickT rfl rfl) <| SL.mv rfl <| SL.v (op_load ty101 rfl (by repeat constructor) rfl) ?_
  refine SL.w (op_callF en50 (vs := [_]) rfl (hcb)) ?_
  rintro v89 _ X15 ⟨rfl, hX15, hb15⟩
  obtain ⟨A89, c89, rfl⟩ := hb15.form
  refine SL.v (op_strBytesR (l := [1, 1, 3, 115, 111, 100, 4, 0, 1, 3, 0]) Tryz.underlying44 Tryz.underlying5 Tryz.underlying9 rfl hb15 (by decide)) ?_
  refine SL.v (op_eqlStrT Tryz.underlying9 rfl rfl) <| SL.v (op_pickT rfl rfl) <| SL.as rfl <| SL.nil <| T.ret1 rfl (ResIs.tmp rfl) ?_
  rfl
end Go.Proofs.YtnpcilglilfajaaGreatDoor
namespace Go.Proofs.YtnpcilglilfajaaGreatDoor
open Go.RowKit
noncomputable instance decEx : DecidableEq Ex := fun _ _ => Classical.propDecidable _
noncomputable instance decCon : DecidableEq Con := fun _ _ => Classical.propDecidable _
theorem take_eq {α : Type} {l l' : List α} {i : Nat} {a b : α} (ha : l[i]? = some a) (hb : l'[i]? = some b) (h : l.take i = l'.take i) : (l.take (i + 1) = l'.take (i + 1)) ↔ a = b := by
  rw [take_snoc ha, take_snoc hb, h]
  simp
theorem ne_at {α : Type} {l l' : List α} {i : Nat} {a b : α} (ha : l[i]? = some a) (hb : l'[i]? = some b) (h : a ≠ b) : l ≠ l' := fun e => by
  subst e; rw [ha] at hb; cases hb; exact h rfl
end Go.Proofs.YtnpcilglilfajaaGreatDoor
namespace Go.Proofs.YtnpcilglilfajaaGreatDoor
section
set_option maxRecDepth 100000
theorem en29 : Enters Tryz.prog 29 := enters_mk Tryz.func29 (by kernel_rfl) rfl
theorem en39 : Enters Tryz.prog 39 := enters_mk Tryz.func39 (by kernel_rfl) rfl
end
open Go.RowKit
noncomputable instance decFm : DecidableEq Fm := fun _ _ => Classical.propDecidable _
theorem fm_eq {op op' : Nat} {n n' : Int} {ns ns' : List Nat} {al al' : List Fm} : Fm.mk op n ns al = Fm.mk op' n' ns' al' ↔ op = op' ∧ n = n' ∧ ns = ns' ∧ al = al' := by simp
theorem same18_spec (N : Nat) : ∀ {X : PMap} {a b : Fm} {r r' : Row4}, wtF a ≤ N → N < 100000000 → opsF a → FmR .u8 X a r → FmR .i64 X b r' → Spec Tryz.prog 29 [.agg #[r.1, r.2.1, r.2.2.1, r.2.2.2], .agg #[r'.1, r'.2.1, r'.2.2.1, r'.2.2.2]] X fun u _ => u = .bool (decide (a = b)) := by
  induction N with
  | zero => intro X a b r r' h; have := wtF_pos a; omega
  | succ N ih =>
    intro X a b r r' hN hB hops h h'
    cases h with
    | @mk op n ns al vn va rows hn ha hl hr =>
    cases h' with
    | @mk op' n' ns' al' vn' va' rows' hn' ha' hl' hr' =>
    obtain ⟨Aa, ca, rfl⟩ := ha.form
    obtain ⟨An, cn, rfl⟩ := hn.form
    obtain ⟨Aa', ca', rfl⟩ := ha'.form
    obtain ⟨An', cn', rfl⟩ := hn'.form
    have hlen := wtFL_len al
    rw [wtF] at hN
    rw [opsF] at hops
    obtain ⟨hop, hops2⟩ := hops
    by_cases h1 : op = op'
    case neg =>
      refine Spec.enter Tryz.func29 rfl Tryz.ntmps29 rfl ?_
      intro w0 hw0
      refine T.seq <| T.region <| SL.w (op_box rfl) ?_
      rintro _ _ _ ⟨B2, rfl, rfl, rfl⟩
      refine SL.w (op_box rfl) ?_
      rintro _ _ _ ⟨B3, rfl, rfl, rfl⟩
      refine SL.as rfl <| SL.nil <| T.seq <| T.seq <| T.region <| SL.v (op_fieldAddr fa36_0 rfl) <| SL.v (op_load ty33 rfl (by repeat constructor) rfl) ?_
      refine SL.v (op_convI64 Tryz.underlying33 Tryz.underlying3 rfl (by omega) (by omega)) ?_
      refine SL.v (op_fieldAddr fa27_0 rfl) <| SL.v (op_load ty3 rfl (by repeat constructor) rfl) ?_
      refine SL.v (op_neqT rfl rfl (by omega)) ?_
      refine SL.mv rfl <| SL.skip rfl rfl ?_
      refine SL.skip rfl rfl ?_
      refine SL.skip rfl rfl ?_
      refine SL.skip rfl rfl ?_
      refine SL.skip rfl rfl ?_
      refine SL.v (op_pickT rfl rfl) <| SL.mv rfl <| SL.skip rfl rfl ?_
      refine SL.skip rfl rfl ?_
      refine SL.skip rfl rfl ?_
      refine SL.skip rfl rfl ?_
      refine SL.skip rfl rfl ?_
      refine SL.skip rfl rfl ?_
      refine SL.v (op_pickT rfl rfl) <| SL.mv rfl <| SL.skip rfl rfl ?_
      refine SL.skip rfl rfl ?_
      refine SL.skip rfl rfl ?_
      refine SL.skip rfl rfl ?_
      refine SL.skip rfl rfl ?_
      refine SL.skip rfl rfl ?_
      refine SL.skip rfl rfl ?_
      refine SL.v (op_pickT rfl rfl) <| SL.nil <| T.condT rfl <| T.seq <| T.region <| SL.as rfl <| SL.nil <| T.ret1 rfl (ResIs.tmp rfl) ?_
      rw [decide_eq_false fun e => h1 (fm_eq.1 e).1]
    by_cases h2 : n = n'
    case neg =>
      refine Spec.enter Tryz.func29 rfl Tryz.ntmps29 rfl ?_
      intro w0 hw0
      refine T.seq <| T.region <| SL.w (op_box rfl) ?_
      rintro _ _ _ ⟨B2, rfl, rfl, rfl⟩
      refine SL.w (op_box rfl) ?_
      rintro _ _ _ ⟨B3, rfl, rfl, rfl⟩
      refine SL.as rfl <| SL.nil <| T.seq <| T.seq <| T.region <| SL.v (op_fieldAddr fa36_0 rfl) <| SL.v (op_load ty33 rfl (by repeat constructor) rfl) ?_
      refine SL.v (op_convI64 Tryz.underlying33 Tryz.underlying3 rfl (by omega) (by omega)) ?_
      refine SL.v (op_fieldAddr fa27_0 rfl) <| SL.v (op_load ty3 rfl (by repeat constructor) rfl) ?_
      refine SL.v (op_neqF rfl rfl (by omega)) ?_
      refine SL.mv rfl <| SL.v (op_fieldAddr fa36_1 rfl) <| SL.v (op_load ty3 rfl (by repeat constructor) rfl) ?_
      refine SL.v (op_fieldAddr fa27_1 rfl) <| SL.v (op_load ty3 rfl (by repeat constructor) rfl) ?_
      refine SL.v (op_neqT rfl rfl (by omega)) ?_
      refine SL.v (op_pickF rfl rfl) <| SL.mv rfl <| SL.skip rfl rfl ?_
      refine SL.skip rfl rfl ?_
      refine SL.skip rfl rfl ?_
      refine SL.skip rfl rfl ?_
      refine SL.skip rfl rfl ?_
      refine SL.skip rfl rfl ?_
      refine SL.v (op_pickT rfl rfl) <| SL.mv rfl <| SL.skip rfl rfl ?_
      refine SL.skip rfl rfl ?_
      refine SL.skip rfl rfl ?_
      refine SL.skip rfl rfl ?_
      refine SL.skip rfl rfl ?_
      refine SL.skip rfl rfl ?_
      refine SL.skip rfl rfl ?_
      refine SL.v (op_pickT rfl rfl) <| SL.nil <| T.condT rfl <| T.seq <| T.region <| SL.as rfl <| SL.nil <| T.ret1 rfl (ResIs.tmp rfl) ?_
      rw [decide_eq_false fun e => h2 (fm_eq.1 e).2.1]
    by_cases h3 : ns = ns'
    case neg =>
      refine Spec.enter Tryz.func29 rfl Tryz.ntmps29 rfl ?_
      intro w0 hw0
      refine T.seq <| T.region <| SL.w (op_box rfl) ?_
      rintro _ _ _ ⟨B2, rfl, rfl, rfl⟩
      refine SL.w (op_box rfl) ?_
      rintro _ _ _ ⟨B3, rfl, rfl, rfl⟩
      refine SL.as rfl <| SL.nil <| T.seq <| T.seq <| T.region <| SL.v (op_fieldAddr fa36_0 rfl) <| SL.v (op_load ty33 rfl (by repeat constructor) rfl) ?_
      refine SL.v (op_convI64 Tryz.underlying33 Tryz.underlying3 rfl (by omega) (by omega)) ?_
      refine SL.v (op_fieldAddr fa27_0 rfl) <| SL.v (op_load ty3 rfl (by repeat constructor) rfl) ?_
      refine SL.v (op_neqF rfl rfl (by omega)) ?_
      refine SL.mv rfl <| SL.v (op_fieldAddr fa36_1 rfl) <| SL.v (op_load ty3 rfl (by repeat constructor) rfl) ?_
      refine SL.v (op_fieldAddr fa27_1 rfl) <| SL.v (op_load ty3 rfl (by repeat constructor) rfl) ?_
      refine SL.v (op_neqF rfl rfl (by omega)) ?_
      refine SL.v (op_pickF rfl rfl) <| SL.mv rfl <| SL.v (op_fieldAddr fa36_2 rfl) <| SL.v (op_load ty24 rfl (by repeat constructor) rfl) ?_
      refine SL.v (op_fieldAddr fa27_2 rfl) <| SL.v (op_load ty24 rfl (by repeat constructor) rfl) ?_
      refine SL.w (op_callF en39 (vs := [_, _]) rfl (eqInts_spec hn.1 hn'.1 (by omega))) ?_
      rintro _ _ X1 ⟨rfl, hX1, rfl⟩
      rw [decide_eq_false h3]
      refine SL.v (op_not rfl) <| SL.v (op_pickF rfl rfl) <| SL.mv rfl <| SL.skip rfl rfl ?_
      refine SL.skip rfl rfl ?_
      refine SL.skip rfl rfl ?_
      refine SL.skip rfl rfl ?_
      refine SL.skip rfl rfl ?_
      refine SL.skip rfl rfl ?_
      refine SL.skip rfl rfl ?_
      refine SL.v (op_pickT rfl rfl) <| SL.nil <| T.condT rfl <| T.seq <| T.region <| SL.as rfl <| SL.nil <| T.ret1 rfl (ResIs.tmp rfl) ?_
      rw [decide_eq_false fun e => h3 (fm_eq.1 e).2.2.1]
    by_cases h4 : al.length = al'.length
    case neg =>
      refine Spec.enter Tryz.func29 rfl Tryz.ntmps29 rfl ?_
      intro w0 hw0
      refine T.seq <| T.region <| SL.w (op_box rfl) ?_
      rintro _ _ _ ⟨B2, rfl, rfl, rfl⟩
      refine SL.w (op_box rfl) ?_
      rintro _ _ _ ⟨B3, rfl, rfl, rfl⟩
      refine SL.as rfl <| SL.nil <| T.seq <| T.seq <| T.region <| SL.v (op_fieldAddr fa36_0 rfl) <| SL.v (op_load ty33 rfl (by repeat constructor) rfl) ?_
      refine SL.v (op_convI64 Tryz.underlying33 Tryz.underlying3 rfl (by omega) (by omega)) ?_
      refine SL.v (op_fieldAddr fa27_0 rfl) <| SL.v (op_load ty3 rfl (by repeat constructor) rfl) ?_
      refine SL.v (op_neqF rfl rfl (by omega)) ?_
      refine SL.mv rfl <| SL.v (op_fieldAddr fa36_1 rfl) <| SL.v (op_load ty3 rfl (by repeat constructor) rfl) ?_
      refine SL.v (op_fieldAddr fa27_1 rfl) <| SL.v (op_load ty3 rfl (by repeat constructor) rfl) ?_
      refine SL.v (op_neqF rfl rfl (by omega)) ?_
      refine SL.v (op_pickF rfl rfl) <| SL.mv rfl <| SL.v (op_fieldAddr fa36_2 rfl) <| SL.v (op_load ty24 rfl (by repeat constructor) rfl) ?_
      refine SL.v (op_fieldAddr fa27_2 rfl) <| SL.v (op_load ty24 rfl (by repeat constructor) rfl) ?_
      refine SL.w (op_callF en39 (vs := [_, _]) rfl (eqInts_spec hn.1 hn'.1 (by omega))) ?_
      rintro _ _ X1 ⟨rfl, hX1, rfl⟩
      rw [decide_eq_true h3]
      refine SL.v (op_not rfl) <| SL.v (op_pickF rfl rfl) <| SL.mv rfl <| SL.v (op_fieldAddr fa36_3 rfl) <| SL.v (op_load ty34 rfl (by repeat constructor) rfl) ?_
      refine SL.v (op_lenS Tryz.underlying34 rfl) <| SL.v (op_fieldAddr fa27_3 rfl) <| SL.v (op_load ty25 rfl (by repeat constructor) rfl) ?_
      refine SL.v (op_lenS Tryz.underlying25 rfl) <| SL.v (op_neqT rfl rfl (by omega)) ?_
      refine SL.v (op_pickF rfl rfl) <| SL.nil <| T.condT rfl <| T.seq <| T.region <| SL.as rfl <| SL.nil <| T.ret1 rfl (ResIs.tmp rfl) ?_
      rw [decide_eq_false fun e => h4 (by rw [(fm_eq.1 e).2.2.2])]
    refine Spec.enter Tryz.func29 rfl Tryz.ntmps29 rfl ?_
    intro w0 hw0
    refine T.seq <| T.region <| SL.w (op_box rfl) ?_
    rintro _ _ _ ⟨B2, rfl, rfl, rfl⟩
    refine SL.w (op_box rfl) ?_
    rintro _ _ _ ⟨B3, rfl, rfl, rfl⟩
    refine SL.as rfl <| SL.nil <| T.seq <| T.seq <| T.region <| SL.v (op_fieldAddr fa36_0 rfl) <| SL.v (op_load ty33 rfl (by repeat constructor) rfl) ?_
    refine SL.v (op_convI64 Tryz.underlying33 Tryz.underlying3 rfl (by omega) (by omega)) ?_
    refine SL.v (op_fieldAddr fa27_0 rfl) <| SL.v (op_load ty3 rfl (by repeat constructor) rfl) ?_
    refine SL.v (op_neqF rfl rfl (by omega)) ?_
    refine SL.mv rfl <| SL.v (op_fieldAddr fa36_1 rfl) <| SL.v (op_load ty3 rfl (by repeat constructor) rfl) ?_
    refine SL.v (op_fieldAddr fa27_1 rfl) <| SL.v (op_load ty3 rfl (by repeat constructor) rfl) ?_
    refine SL.v (op_neqF rfl rfl (by omega)) ?_
    refine SL.v (op_pickF rfl rfl) <| SL.mv rfl <| SL.v (op_fieldAddr fa36_2 rfl) <| SL.v (op_load ty24 rfl (by repeat constructor) rfl) ?_
    refine SL.v (op_fieldAddr fa27_2 rfl) <| SL.v (op_load ty24 rfl (by repeat constructor) rfl) ?_
    refine SL.w (op_callF en39 (vs := [_, _]) rfl (eqInts_spec hn.1 hn'.1 (by omega))) ?_
    rintro _ _ X1 ⟨rfl, hX1, rfl⟩
    rw [decide_eq_true h3]
    refine SL.v (op_not rfl) <| SL.v (op_pickF rfl rfl) <| SL.mv rfl <| SL.v (op_fieldAddr fa36_3 rfl) <| SL.v (op_load ty34 rfl (by repeat constructor) rfl) ?_
    refine SL.v (op_lenS Tryz.underlying34 rfl) <| SL.v (op_fieldAddr fa27_3 rfl) <| SL.v (op_load ty25 rfl (by repeat constructor) rfl) ?_
    refine SL.v (op_lenS Tryz.underlying25 rfl) <| SL.v (op_neqF rfl rfl (by omega)) ?_
    refine SL.v (op_pickF rfl rfl) <| SL.nil <| T.condF rfl <| T.skip <| T.seq <| T.seq <| T.region <| SL.v (op_fieldAddr fa36_3 rfl) <| SL.v (op_load ty34 rfl (by repeat constructor) rfl) ?_
    refine SL.v (op_lenS Tryz.underlying34 rfl) <| SL.v (op_move (v := .int .i64 ((0 : Nat) : Int)) rfl) <| SL.nil <| T.block <| T.drop B2 (by repeat constructor) ?_
    refine T.loopW (fun m env own X' => ∃ i : Nat, m = rows.length - i ∧ i ≤ rows.length ∧ X1.le X' ∧ al.take i = al'.take i ∧ env = [(3, .pointer (some ⟨B3, 0, none⟩)), (38, .slice Aa rows.length ca), (39, .int .i64 (rows.length : Int)), (40, .int .i64 (i : Int))] ∧ own = [⟨B3, [.int .i64 (op' : Int), .int .i64 n', .slice An' ns'.length cn', .slice Aa' rows'.length ca'], 27, 4⟩]) rows.length ⟨0, by simp, by omega, PMap.le_refl _, by simp, rfl, rfl⟩ (by repeat (first | exact Sub.nil | refine Sub.cons rfl ?_)) ?_
    rintro m _ _ X2 ⟨i, rfl, hi, hX2, heq, rfl, rfl⟩
    rcases Nat.lt_or_ge i rows.length with hil | hil
    · obtain ⟨r, hr1⟩ : ∃ r, rows[i]? = some r := ⟨_, List.getElem?_eq_getElem hil⟩
      obtain ⟨r', hr2⟩ : ∃ r, rows'[i]? = some r := ⟨_, List.getElem?_eq_getElem (by omega)⟩
      obtain ⟨x, hx⟩ : ∃ x, al[i]? = some x := ⟨_, List.getElem?_eq_getElem (by omega)⟩
      obtain ⟨y, hy⟩ : ∃ y, al'[i]? = some y := ⟨_, List.getElem?_eq_getElem (by omega)⟩
      have g1 := ((hr i x r hx hr1).mono hX1).mono hX2
      have g2 := ((hr' i y r' hy hr2).mono hX1).mono hX2
      obtain ⟨b, pre, rfl, hB1⟩ := ha.blk (by omega)
      obtain ⟨b', pre', rfl, hB2⟩ := ha'.blk (by omega)
      have hB1 := (hB1.mono hX1).mono hX2
      have hB2 := (hB2.mono hX1).mono hX2
      have hmx := List.mem_of_getElem? hx
      have hwx := wtFL_mem hmx
      have hcall := ih (by omega) (by omega) (opsFL_mem hops2 hmx) g1 g2
      obtain ⟨_, _, _, _, _, _, _, _, rfl⟩ := g1.form
      obtain ⟨_, _, _, _, _, _, _, _, rfl⟩ := g2.form
      try simp only at hcall
      refine T.seq <| T.region <| SL.v (op_lssT rfl rfl (by omega)) ?_
      refine SL.nil <| T.seq <| T.condT rfl <| T.skip <| T.seq <| T.block <| T.seq <| T.region <| SL.mv rfl <| SL.v (op_indexN Tryz.underlying34 ty36 rfl rfl (by omega)) ?_
      refine SL.v (op_loadX ty36 rfl hB1 (row_read rc4_len hr1 (by omega))) ?_
      refine SL.w (op_alloc z36) ?_
      rintro _ _ _ ⟨B6, rfl, rfl, rfl⟩
      refine SL.as rfl <| SL.w (op_store ty36 rfl rfl (by repeat constructor) rfl rfl rfl) ?_
      rintro _ _ _ ⟨rfl, rfl⟩
      refine SL.nil <| T.seq <| T.draw (by kernel_rfl) 8 [.t 0, .t 1, .t 2, .t 3, .t 4, .t 5, .r 6, .t 7] (by kernel_rfl) ?_
      refine SD.take rfl panicBody (op_load ty36 rfl (by repeat constructor) rfl) rfl rfl ?_
      refine SD.take rfl panicBody (op_fieldAddr fa27_3 rfl) rfl rfl ?_
      refine SD.take rfl panicBody (op_load ty25 rfl (by repeat constructor) rfl) rfl rfl ?_
      refine SD.take rfl panicBody (op_move rfl) rfl rfl ?_
      refine SD.take rfl panicBody (op_indexN Tryz.underlying25 ty27 rfl rfl (by omega)) rfl rfl ?_
      refine SD.take rfl panicBody (op_loadX ty27 rfl hB2 (row_read rc4_len hr2 (by omega))) rfl rfl ?_
      refine SD.run rfl (op_callF en29 (vs := [_, _]) rfl (hcall)) rfl rfl ?_
      rintro _ _ X3 ⟨rfl, hX3, rfl⟩
      refine SD.take rfl panicBody (op_not rfl) rfl rfl ?_
      refine SD.nil ?_
      show SL _ _ _ _ _ _ _ [] _ _ _
      refine SL.nil ?_
      by_cases hxy : x = y
      · rw [decide_eq_true hxy]
        refine T.condF rfl <| T.skip <| T.blk <| T.region <| SL.v (op_addN (q := 1) rfl rfl (by omega)) ?_
        refine SL.mv rfl <| SL.nil <| T.drop B6 (by repeat constructor) ?_
        exact T.backW (rows.length - (i + 1)) (by omega) ⟨i + 1, rfl, by omega, hX2.trans' hX3, (take_eq hx hy heq).2 hxy, rfl, rfl⟩ (by repeat (first | exact Sub.nil | refine Sub.cons rfl ?_))
      · rw [decide_eq_false hxy]
        refine T.condT rfl <| T.seq <| T.region <| SL.as rfl <| SL.nil <| T.ret1 rfl (ResIs.tmp rfl) ?_
        rw [decide_eq_false fun e => ne_at hx hy hxy (fm_eq.1 e).2.2.2]
    · obtain rfl : i = rows.length := by omega
      rw [List.take_of_length_le (by omega), List.take_of_length_le (by omega)] at heq
      refine T.seq <| T.region <| SL.v (op_lssF rfl rfl (by omega)) ?_
      refine SL.nil <| T.seq <| T.condF rfl ?_
      refine T.exit (T.exitCode (T.exitCut (T.exitBlk ?_)))
      refine T.seq <| T.region <| SL.as rfl <| SL.nil <| T.ret1 rfl (ResIs.tmp rfl) ?_
      rw [decide_eq_true (fm_eq.2 ⟨h1, h2, h3, heq⟩)]
end Go.Proofs.YtnpcilglilfajaaGreatDoor
namespace Go.Proofs.YtnpcilglilfajaaGreatDoor
section
set_option maxRecDepth 100000
theorem en13 : Enters Tryz.prog 13 := enters_mk Tryz.func13 (by kernel_rfl) rfl
theorem en27 : Enters Tryz.prog 27 := enters_mk Tryz.func27 (by kernel_rfl) rfl
end
open Go.RowKit
def ns5 : List ByteArray := [⟨#[100]⟩, ⟨#[99, 108, 101, 114, 107]⟩, ⟨#[97]⟩, ⟨#[98]⟩, ⟨#[116, 101, 108, 108, 101, 114]⟩]
theorem ns5_ok : errOf 63 [] ns5 = 0 := errOf_ok (by intro s hs; simp only [ns5, List.mem_cons, List.not_mem_nil, or_false] at hs; rcases hs with rfl | rfl | rfl | rfl | rfl <;> exact of_decide_eq_true (by kernel_rfl)) (of_decide_eq_true (by kernel_rfl)) (by decide) (by decide)
mutual
theorem numbF_ops {ns : List ByteArray} {adm : Nat} : ∀ (e : Ex) {f : Fm}, opsE e → numbF ns adm e = some f → opsF f
  | .mk op n l al, f, ho, h => by
    rw [numbF] at h
    cases h1 : numbN ns adm l with
    | none => rw [h1] at h; cases h
    | some rs =>
      cases h2 : numbL ns adm al with
      | none => rw [h1, h2] at h; cases h
      | some bl =>
        rw [h1, h2] at h
        cases h
        exact ⟨ho.1, numbL_ops al ho.2 h2⟩
theorem numbL_ops {ns : List ByteArray} {adm : Nat} : ∀ (l : List Ex) {q : List Fm}, opsL l → numbL ns adm l = some q → opsFL q
  | [], q, _, h => by cases h; trivial
  | a :: al, q, ho, h => by
    rw [numbL] at h
    cases h1 : numbF ns adm a with
    | none => rw [h1] at h; cases h
    | some f =>
      cases h2 : numbL ns adm al with
      | none => rw [h1, h2] at h; cases h
      | some fl =>
        rw [h1, h2] at h
        cases h
        exact ⟨numbF_ops a ho.1 h1, numbL_ops al ho.2 h2⟩
end
theorem resF_ops {ns : List ByteArray} {adm kind : Nat} {e : Ex} (ho : opsE e) : opsF (resF ns adm kind e).1 ∧ wtF (resF ns adm kind e).1 ≤ wtE e := by
  have hz : opsF zeF ∧ wtF zeF ≤ wtE e := by
    refine ⟨⟨by omega, trivial⟩, ?_⟩
    cases e
    show 1 ≤ _
    rw [wtE]; omega
  unfold resF
  split
  · exact hz
  · split
    · exact hz
    · split
      · exact hz
      · rename_i f hf
        split
        · exact hz
        · exact ⟨numbF_ops e ho hf, numbF_wt e hf⟩
end Go.Proofs.YtnpcilglilfajaaGreatDoor
namespace Go.Proofs.YtnpcilglilfajaaGreatDoor
open Go.RowKit
end Go.Proofs.YtnpcilglilfajaaGreatDoor
namespace Go.Proofs.YtnpcilglilfajaaGreatDoor
open Go.RowKit
theorem cons_len (l : List Itm) : (consOf l).length ≤ 34 := by rw [consOf, List.length_map, List.length_take]; omega
theorem cons_wt (l : List Itm) : ∀ c ∈ consOf l, wtE c.ex < 300000 := fun c hc => by
  obtain ⟨x, _, rfl⟩ := List.mem_map.1 hc
  exact built_wt _
theorem wtC_le {K : Nat} : ∀ {cs : List Con}, (∀ c ∈ cs, wtE c.ex ≤ K) → wtC cs ≤ cs.length * K
  | [], _ => by simp [wtC]
  | c :: cs, h => by
    have h1 := wtC_le (cs := cs) fun x hx => h x (by simp [hx])
    have h2 := h c (by simp)
    simp only [wtC, List.map_cons, List.sum_cons, List.length_cons] at h1 ⊢
    rw [Nat.add_mul]; omega
theorem cons_wtC (l : List Itm) : wtC (consOf l) < 15000000 := by
  have h1 := wtC_le (K := 300000) fun c hc => Nat.le_of_lt (cons_wt l c hc)
  have h2 := cons_len l
  have h3 : (consOf l).length * 300000 ≤ 34 * 300000 := Nat.mul_le_mul_right _ h2
  omega
theorem cons_ok {l : List Itm} (h : ∀ x ∈ l, itOk x) : ∀ c ∈ consOf l, c.kind < 256 ∧ opsE c.ex ∧ wtE c.ex < 900000 := fun c hc => by
  have hw := cons_wt l c hc
  obtain ⟨x, hx, rfl⟩ := List.mem_map.1 hc
  obtain ⟨h1, _, h3⟩ := h x (List.mem_of_mem_take hx)
  exact ⟨h1, built_ops h3, by omega⟩
end Go.Proofs.YtnpcilglilfajaaGreatDoor
namespace Go.Proofs.YtnpcilglilfajaaGreatDoor
section
set_option maxRecDepth 100000
theorem bs123 : ∃ i z, Tryz.prog.info? 123 = some i ∧ i.size = 7 ∧ i.zero = some z ∧ z.cells = ([.bool false, .int .u8 0, .string ⟨#[]⟩, .int .u8 0, .int .i64 0, .slice none 0 0, .slice none 0 0] : List Value).toArray := bs_of (by kernel_rfl)
theorem en54 : Enters Tryz.prog 54 := enters_mk Tryz.func54 (by kernel_rfl) rfl
theorem en55 : Enters Tryz.prog 55 := enters_mk Tryz.func55 (by kernel_rfl) rfl
theorem en56 : Enters Tryz.prog 56 := enters_mk Tryz.func56 (by kernel_rfl) rfl
theorem fa98_0 : FAdr Tryz.prog 98 0 0 := fadr_mk Tryz.underlying98 rfl rfl (by kernel_rfl)
theorem fa98_1 : FAdr Tryz.prog 98 1 1 := fadr_mk Tryz.underlying98 rfl rfl (by kernel_rfl)
theorem fa98_2 : FAdr Tryz.prog 98 2 2 := fadr_mk Tryz.underlying98 rfl rfl (by kernel_rfl)
theorem fa98_3 : FAdr Tryz.prog 98 3 3 := fadr_mk Tryz.underlying98 rfl rfl (by kernel_rfl)
theorem sl119 : SlT Tryz.prog 119 123 7 88 := ⟨Tryz.underlying119, sl_of (by kernel_rfl) (by decide)⟩
theorem st123 : StT Tryz.prog 123 [(0, 1), (1, 1), (2, 1), (3, 4)] [.bool false, .int .u8 0, .string ⟨#[]⟩, .int .u8 0, .int .i64 0, .slice none 0 0, .slice none 0 0] := ⟨⟨_, Tryz.underlying123, fun _ => by kernel_rfl, z123⟩⟩
theorem ty98 : Ty Tryz.prog 98 true 7 := ⟨⟨_, Tryz.underlying98, rfl⟩, by kernel_rfl⟩
end
open Go.RowKit
theorem resA_mem {ns : List ByteArray} {adm : Nat} {cs : List Con} (hok : ∀ c ∈ cs, c.kind < 256 ∧ opsE c.ex ∧ wtE c.ex < 900000) : ∀ x ∈ (resA ns adm cs).1, x.kind < 256 ∧ opsF x.fm ∧ wtF x.fm < 900000 := by
  intro x hx
  unfold resA at hx
  split at hx
  · cases hx
  · split at hx
    · cases hx
    · obtain ⟨c, hc, rfl⟩ := List.mem_map.1 hx
      obtain ⟨h1, h2, h3⟩ := hok c hc
      obtain ⟨h4, h5⟩ := resF_ops (ns := ns) (adm := adm) (kind := c.kind) h2
      exact ⟨h1, h4, Nat.lt_of_le_of_lt h5 h3⟩
theorem resA_len {ns : List ByteArray} {adm : Nat} {cs : List Con} : (resA ns adm cs).1.length ≤ cs.length := by
  unfold resA
  split
  · simp
  · split
    · simp
    · simp
theorem fAll_spec {X : PMap} (hT : Tab X) (hP : Pow10 X) {v : Value} {l : List Itm} {adm : Nat} (h : ItsR X v l) (hok : ∀ x ∈ l, itOk x) (ha : adm < 18446744073709551616) : Spec Tryz.prog 12 [v, .int .u64 (adm : Int)] X fun u _ => u = .bool true := by
  have hl := cons_len l
  have hw := cons_wt l
  have hwC := cons_wtC l
  have hck := cons_ok hok
  have hmx : maxLen = 9223372036854775807 := rfl
  refine Spec.enter Tryz.func12 rfl Tryz.ntmps12 rfl ?_
  intro w0 hw0
  refine T.seq <| T.region <| SL.as rfl <| SL.nil <| T.seq <| T.seq <| T.region <| SL.w (op_callF en13 (vs := []) rfl (awake18_spec hT)) ?_
  rintro _ _ X1 ⟨rfl, hX1, rfl⟩
  refine SL.v (op_not rfl) <| SL.nil <| T.condF rfl <| T.skip <| T.seq <| T.region <| SL.mv rfl <| SL.w (op_callF en54 (vs := [_]) rfl (ball_spec (h.mono hX1) hok)) ?_
  rintro v5 _ X2 ⟨rfl, hX2, h5⟩
  generalize consOf l = cs at *
  have h5' := h5
  obtain ⟨rows, hr, hrl, hrow⟩ := h5
  obtain ⟨A, cp, rfl⟩ := hr.form
  refine SL.as rfl <| SL.nil <| T.seq <| T.region <| SL.as rfl <| SL.nil <| T.seq <| T.seq <| T.region <| SL.mv rfl <| SL.v (op_lenS Tryz.underlying117 rfl) <| SL.v (op_move (v := .int .i64 ((0 : Nat) : Int)) rfl) <| SL.nil <| T.block <| T.loopW (fun m env own X' => ∃ (i : Nat) (vo : Value) (rs : List Row7), m = rows.length - i ∧ i ≤ rows.length ∧ X2.le X' ∧ rs.length = (cs.take i).length ∧ GrowS 123 7 vo rs.length ((rs.map rc7).flatten) own ∧ (∀ (q : Nat) (c : Con) (r : Row7), (cs.take i)[q]? = some c → rs[q]? = some r → ConR X' c r) ∧ env = [(1, .int .u64 (adm : Int)), (5, .slice A rows.length cp), (6, vo), (27, .slice A rows.length cp), (28, .int .i64 (rows.length : Int)), (29, .int .i64 (i : Int))]) rows.length ⟨0, _, [], by simp, by omega, PMap.le_refl _, rfl, GrowS.nil, (fun q c r h => by simp at h), rfl⟩ (by repeat (first | exact Sub.nil | refine Sub.cons rfl ?_)) ?_
  rintro m _ G X3 ⟨i, vo, rs, rfl, hi, hX3, hrsl, hG, hrs, rfl⟩
  have hrl2 : rs.length = i := by rw [hrsl, List.length_take]; omega
  obtain ⟨Av, cv, rfl⟩ := hG.form
  rcases Nat.lt_or_ge i rows.length with hil | hil
  case inl =>
    obtain ⟨r2, hr2⟩ : ∃ r2, rows[i]? = some r2 := ⟨_, List.getElem?_eq_getElem hil⟩
    obtain ⟨c, hc2⟩ : ∃ c, cs[i]? = some c := ⟨_, List.getElem?_eq_getElem (by omega)⟩
    have hrc := hrow i c r2 hc2 hr2
    obtain ⟨okk, oko, okw⟩ := hck c (List.mem_of_getElem? hc2)
    obtain ⟨o0, n0, a0, b0, l0, c0, m0, d0, rfl⟩ := hrc.form
    have hex := hrc.2.2.2
    simp only at hex
    obtain ⟨bA, pre, rfl, hbA⟩ := hr.blk (by omega)
    have htk := take_snoc hc2
    refine T.seq <| T.region <| SL.v (op_lssT rfl rfl (by omega)) ?_
    refine SL.nil <| T.seq <| T.condT rfl <| T.skip <| T.seq <| T.block <| T.seq <| T.region <| SL.v (op_indexN Tryz.underlying117 ty121 rfl rfl (by omega)) ?_
    refine SL.v (op_loadX (v := .agg #[.bool c.enf, .int .i64 (c.kind : Int), .string c.name, .int .i64 (o0 : Int), .int .i64 n0, .slice a0 l0 c0, .slice b0 m0 d0]) ty121 rfl (hbA.mono hX3) (row_read rc7i_len hr2 (by omega))) ?_
    refine SL.w (op_alloc z121) ?_
    rintro _ _ _ ⟨B8, rfl, rfl, rfl⟩
    refine SL.w (op_store ty121 rfl rfl (by repeat constructor) rfl rfl rfl) ?_
    rintro _ _ _ ⟨rfl, rfl⟩
    refine SL.nil <| T.drawG (own0 := [_]) (by kernel_rfl) 13 [.t 0, .t 1, .t 2, .t 3, .t 4, .t 5, .t 6, .t 7, .t 8, .t 9, .r 10, .t 11, .r 12] (by kernel_rfl) ?_
    refine SD.take rfl panicBody (op_move rfl) rfl rfl ?_
    refine SD.take rfl panicBody (op_fieldAddr fa121_0 rfl) rfl rfl ?_
    refine SD.take rfl panicBody (op_load ty4 rfl (by repeat constructor) rfl) rfl rfl ?_
    refine SD.take rfl panicBody (op_fieldAddr fa121_1 rfl) rfl rfl ?_
    refine SD.take rfl panicBody (op_load ty3 rfl (by repeat constructor) rfl) rfl rfl ?_
    refine SD.take rfl panicBody (op_convU8 Tryz.underlying3 Tryz.underlying41 rfl (by omega) (by omega)) rfl rfl ?_
    refine SD.take rfl panicBody (op_fieldAddr fa121_2 rfl) rfl rfl ?_
    refine SD.take rfl panicBody (op_load ty9 rfl (by repeat constructor) rfl) rfl rfl ?_
    refine SD.take rfl panicBody (op_fieldAddr fa121_3 rfl) rfl rfl ?_
    refine SD.take rfl panicBody (op_load ty62 rfl (by repeat constructor) rfl) rfl rfl ?_
    have hc := expr_spec 900000 (by omega) (by omega) oko (hex.mono hX3)
    try simp only at hc
    refine SD.run rfl (op_callF en26 (vs := [_]) rfl (hc)) rfl rfl ?_
    rintro _ _ X4 ⟨rfl, hX4, r8, rfl, hr8⟩
    obtain ⟨o8, n8, a8, b8, l8, c8, l9, c9, rfl⟩ := hr8.form
    refine SD.take rfl panicBody (op_build st123 (qs := [(0, _), (1, _), (2, _), (3, _)]) rfl rfl) rfl rfl ?_
    refine SD.run rfl (op_buildSlice Tryz.underlying119 bs123 (qs := [(0, _)]) rfl rfl rfl rfl rfl) rfl rfl ?_
    rintro _ _ _ ⟨B45, rfl, rfl, rfl⟩
    refine SD.nil ?_
    show SL _ _ _ _ _ _ _ [_, _] _ _ _
    refine SL.w (op_appendGA (own0 := [_, _]) (m := 1) sl119 rfl hG rfl (Src.ofOwn0 AtO.here rfl) (by intro y hy; have hy : y ∈ [Value.bool _, Value.int _ _, Value.string _, Value.int _ _, Value.int _ _, Value.slice _ _ _, Value.slice _ _ _] := hy; simp only [List.mem_cons, List.not_mem_nil, or_false] at hy; rcases hy with rfl | rfl | rfl | rfl | rfl | rfl | rfl <;> rfl) (by omega) (by omega)) ?_
    rintro va9 _ _ ⟨Ga9, rfl, rfl, hGa9⟩
    refine SL.as rfl <| SL.nil <| T.blk <| T.region <| SL.v (op_addN (q := 1) rfl rfl (by omega)) ?_
    refine SL.mv rfl <| SL.nil <| T.less (own' := Ga9) (List.Sublist.cons _ (List.sublist_cons_self _ _)) ?_
    have hnew : ConR X4 c (c.enf, c.kind, c.name, .int .u8 (o8 : Int), .int .i64 n8, .slice a8 l8 c8, .slice b8 l9 c9) := ⟨rfl, rfl, rfl, hr8⟩
    have hG10 : GrowS 123 7 va9 (rs ++ [((c.enf, c.kind, c.name, .int .u8 (o8 : Int), .int .i64 n8, .slice a8 l8 c8, .slice b8 l9 c9) : Row7)]).length (((rs ++ [((c.enf, c.kind, c.name, .int .u8 (o8 : Int), .int .i64 n8, .slice a8 l8 c8, .slice b8 l9 c9) : Row7)]).map rc7).flatten) Ga9 := by
      rw [List.length_append, List.map_append, List.flatten_append]
      exact hGa9
    exact T.backW (rows.length - (i + 1)) (by omega) ⟨i + 1, _, _, rfl, by omega, hX3.trans' hX4, by rw [htk, List.length_append, List.length_append, hrsl]; rfl, hG10, by rw [htk]; exact rows_snoc hrsl (fun q c r h1 h2 => (hrs q c r h1 h2).mono hX4) hnew, rfl⟩ (by repeat (first | exact Sub.nil | refine Sub.cons rfl ?_))
  obtain rfl : i = rows.length := by omega
  rw [show cs.take rows.length = cs from List.take_of_length_le (by omega)] at hrsl hrs
  refine T.seq <| T.region <| SL.v (op_lssF rfl rfl (by omega)) ?_
  refine SL.nil <| T.seq <| T.condF rfl ?_
  refine T.exit (T.exitCode (T.exitCut (T.exitBlk ?_)))
  refine T.seq <| T.region <| T.pubGAt (own0 := []) hG ?_
  intro X4 hX4 hS4
  have hcs : ConsR X4 (.slice Av rs.length cv) cs := ⟨rs, RowR.ofG hG hS4, hrsl, fun q c r h1 h2 => (hrs q c r h1 h2).mono hX4⟩
  have h54 := (h5'.mono hX3).mono hX4
  refine SL.w (op_buildSlice Tryz.underlying59 bs9 (qs := [(0, _), (1, _), (2, _), (3, _), (4, _)]) rfl rfl rfl rfl rfl) ?_
  rintro _ _ _ ⟨B48, rfl, rfl, rfl⟩
  refine SL.as rfl <| SL.nil <| T.seq <| T.region <| T.pubAt B48 (by repeat constructor) ?_
  intro X5 hX5 hB48 _
  have hR : RowR strC X5 (.slice (some ⟨B48, 0, none⟩) 5 5) ns5 := .inr ⟨by decide, B48, 5, [], rfl, hB48, by decide, by decide⟩
  refine SL.mv rfl <| SL.w (op_callF en24 (vs := [_]) rfl (tabl_spec hR (by decide))) ?_
  rintro vt _ X6 ⟨rfl, hX6, hTb⟩
  rw [if_pos ns5_ok] at hTb
  obtain ⟨bt, hbt⟩ := hTb.form
  subst hbt
  refine SL.as rfl <| SL.nil <| T.seq <| T.seq <| T.region <| SL.mv rfl <| SL.v (op_eqlNil Tryz.underlying64 rfl rfl) <| SL.nil <| T.condF rfl <| T.skip <| T.seq <| T.region <| SL.mv rfl <| SL.mv rfl <| SL.mv rfl ?_
  refine SL.w (op_callF en27 (vs := [_]) rfl (set14_spec adm ha)) ?_
  rintro vs _ X7 ⟨rfl, hX7, hS⟩
  have hX47 := (hX5.trans' hX6).trans' hX7
  have hra := rall_spec ((((hP.mono hX1).mono hX2).mono (hX3.trans' hX4)).mono hX47) (hcs.mono hX47) (by omega) hwC (fun c hc => ⟨(hck c hc).2.2, (hck c hc).1⟩) (by decide) (hTb.mono hX7) hS
  obtain ⟨As, ls, cs0, rfl⟩ := hS.form
  refine SL.w (op_callF en55 (vs := [_, _, _]) rfl (hra)) ?_
  rintro _ _ X8 ⟨rfl, hX8, wg, rfl, hg⟩
  refine SL.mv rfl <| SL.v (op_extract rfl rfl) <| SL.v (op_extract rfl rfl) <| SL.v (op_extract rfl rfl) <| SL.as rfl <| SL.as rfl <| SL.as rfl <| SL.nil <| T.seq <| T.region <| SL.mv rfl <| SL.mv rfl <| SL.mv rfl <| SL.w (op_callF en56 (vs := [_, _, _]) rfl (rrall_spec (ns := ns5) ((h54.mono hX47).mono hX8) (by omega) hwC (fun c hc => (hck c hc).2.2) (by decide) (((hR.mono hX6).mono hX7).mono hX8) ha)) ?_
  rintro _ _ X9 ⟨rfl, hX9, ww, rfl, hwt⟩
  have hmem := resA_mem (ns := ns5) (adm := adm) hck
  have hrlen := resA_len (ns := ns5) (adm := adm) (cs := cs)
  generalize (resA ns5 adm cs).1 = ql at *
  obtain ⟨gr, hgr, hgl, hgrow⟩ := hg
  obtain ⟨wr, hwr, hwl, hwrow⟩ := hwt
  obtain ⟨Ag, cg, rfl⟩ := hgr.form
  obtain ⟨Aw, cw, rfl⟩ := hwr.form
  refine SL.mv rfl <| SL.v (op_extract rfl rfl) <| SL.v (op_extract rfl rfl) <| SL.v (op_extract rfl rfl) <| SL.as rfl <| SL.as rfl <| SL.as rfl <| SL.nil <| T.seq <| T.seq <| T.region <| SL.mv rfl <| SL.mv rfl <| SL.v (op_neqF rfl rfl (by omega)) ?_
  refine SL.mv rfl <| SL.mv rfl <| SL.mv rfl <| SL.v (op_neqF rfl rfl (by omega)) ?_
  refine SL.v (op_pickF rfl rfl) <| SL.mv rfl <| SL.mv rfl <| SL.v (op_lenS Tryz.underlying124 rfl) <| SL.mv rfl <| SL.v (op_lenS Tryz.underlying127 rfl) <| SL.v (op_neqF rfl rfl (by omega)) ?_
  refine SL.v (op_pickF rfl rfl) <| SL.nil <| T.condF rfl <| T.skip <| T.seq <| T.seq <| T.region <| SL.mv rfl <| SL.v (op_lenS Tryz.underlying124 rfl) <| SL.v (op_move (v := .int .i64 ((0 : Nat) : Int)) rfl) <| SL.nil <| T.block <| T.loopW (fun m env own X' => ∃ i : Nat, m = gr.length - i ∧ i ≤ gr.length ∧ X9.le X' ∧ env = [(6, .slice Av rs.length cv), (14, .slice Aw wr.length cw), (85, .slice Ag gr.length cg), (86, .int .i64 (gr.length : Int)), (87, .int .i64 (i : Int))] ∧ own = []) gr.length ⟨0, by simp, by omega, PMap.le_refl _, rfl, rfl⟩ (by repeat (first | exact Sub.nil | refine Sub.cons rfl ?_)) ?_
  rintro m _ _ Y1 ⟨i, rfl, hi, hY1, rfl, rfl⟩
  rcases Nat.lt_or_ge i gr.length with hil | hil
  case inl =>
    obtain ⟨r2, hr2⟩ : ∃ r2, gr[i]? = some r2 := ⟨_, List.getElem?_eq_getElem hil⟩
    obtain ⟨r3, hr3⟩ : ∃ r3, wr[i]? = some r3 := ⟨_, List.getElem?_eq_getElem (by omega)⟩
    obtain ⟨c, hc2⟩ : ∃ c, ql[i]? = some c := ⟨_, List.getElem?_eq_getElem (by omega)⟩
    obtain ⟨q1, q2, q3⟩ := hmem c (List.mem_of_getElem? hc2)
    have g1 := ((hgrow i c r2 hc2 hr2).mono hX9).mono hY1
    have g2 := (hwrow i c r3 hc2 hr3).mono hY1
    obtain ⟨o0, n0, a0, b0, l0, c0, m0, d0, rfl⟩ := g1.form
    obtain ⟨o3, n3, a3, b3, l3, c3, m3, d3, rfl⟩ := g2.form
    obtain ⟨bA, pre, rfl, hbA⟩ := hgr.blk (by omega)
    obtain ⟨bB, preB, rfl, hbB⟩ := hwr.blk (by omega)
    have hsm := same18_spec 900000 (by omega) (by omega) q2 g1.2.2.2 g2.2.2.2
    simp only [decide_true] at hsm
    refine T.seq <| T.region <| SL.v (op_lssT rfl rfl (by omega)) ?_
    refine SL.nil <| T.seq <| T.condT rfl <| T.skip <| T.seq <| T.block <| T.seq <| T.region <| SL.mv rfl <| SL.v (op_indexN Tryz.underlying124 ty101 rfl rfl (by omega)) ?_
    refine SL.v (op_loadX (v := .agg #[.bool c.enf, .int .u8 (c.kind : Int), .string c.name, .int .u8 (o0 : Int), .int .i64 n0, .slice a0 l0 c0, .slice b0 m0 d0]) ty101 rfl ((hbA.mono hX9).mono hY1) (row_read rc7_len hr2 (by omega))) ?_
    refine SL.w (op_alloc z101) ?_
    rintro _ _ _ ⟨B18, rfl, rfl, rfl⟩
    refine SL.as rfl <| SL.w (op_store ty101 rfl rfl (by repeat constructor) rfl rfl rfl) ?_
    rintro _ _ _ ⟨rfl, rfl⟩
    refine SL.nil <| T.seq <| T.region <| SL.mv rfl <| SL.mv rfl <| SL.v (op_indexN Tryz.underlying127 ty98 rfl rfl (by omega)) ?_
    refine SL.v (op_loadX (v := .agg #[.bool c.enf, .int .i64 (c.kind : Int), .string c.name, .int .i64 (o3 : Int), .int .i64 n3, .slice a3 l3 c3, .slice b3 m3 d3]) ty98 rfl (hbB.mono hY1) (row_read rc7i_len hr3 (by omega))) ?_
    refine SL.w (op_alloc z98) ?_
    rintro _ _ _ ⟨B19, rfl, rfl, rfl⟩
    refine SL.w (op_store ty98 rfl rfl (by repeat constructor) rfl rfl rfl) ?_
    rintro _ _ _ ⟨rfl, rfl⟩
    refine SL.nil <| T.seq <| T.region <| SL.v (op_fieldAddr fa101_0 rfl) <| SL.v (op_load ty4 rfl (by repeat constructor) rfl) ?_
    refine SL.v (op_fieldAddr fa98_0 rfl) <| SL.v (op_load ty4 rfl (by repeat constructor) rfl) ?_
    refine SL.v (op_neqB Tryz.underlying4 rfl rfl) ?_
    rw [bne_self_eq_false]
    refine SL.mv rfl <| SL.v (op_fieldAddr fa101_1 rfl) <| SL.v (op_load ty41 rfl (by repeat constructor) rfl) ?_
    refine SL.v (op_convI64 Tryz.underlying41 Tryz.underlying3 rfl (by omega) (by omega)) ?_
    refine SL.v (op_fieldAddr fa98_1 rfl) <| SL.v (op_load ty3 rfl (by repeat constructor) rfl) ?_
    refine SL.v (op_neqF rfl rfl (by omega)) ?_
    refine SL.v (op_pickF rfl rfl) <| SL.mv rfl <| SL.v (op_fieldAddr fa101_2 rfl) <| SL.v (op_load ty9 rfl (by repeat constructor) rfl) ?_
    refine SL.v (op_fieldAddr fa98_2 rfl) <| SL.v (op_load ty9 rfl (by repeat constructor) rfl) ?_
    refine SL.v (op_neqStrD (s := c.name) (s' := c.name) rfl rfl) ?_
    rw [decide_eq_true rfl, Bool.not_true]
    refine SL.v (op_pickF rfl rfl) <| SL.mv rfl <| SL.v (op_fieldAddr fa101_3 rfl) <| SL.v (op_load ty36 rfl (by repeat constructor) rfl) ?_
    refine SL.v (op_fieldAddr fa98_3 rfl) <| SL.v (op_load ty27 rfl (by repeat constructor) rfl) ?_
    refine SL.w (op_callF en29 (vs := [_, _]) rfl (hsm)) ?_
    rintro _ _ Y2 ⟨rfl, hY2, rfl⟩
    refine SL.v (op_not rfl) <| SL.v (op_pickF rfl rfl) <| SL.nil <| T.condF rfl <| T.skip <| T.blk <| T.region <| SL.v (op_addN (q := 1) rfl rfl (by omega)) ?_
    refine SL.mv rfl <| SL.nil <| T.drop B18 (by repeat constructor) ?_
    refine T.drop B19 (by repeat constructor) ?_
    exact T.backW (gr.length - (i + 1)) (by omega) ⟨i + 1, rfl, by omega, hY1.trans' hY2, rfl, rfl⟩ (by repeat (first | exact Sub.nil | refine Sub.cons rfl ?_))
  obtain rfl : i = gr.length := by omega
  refine T.seq <| T.region <| SL.v (op_lssF rfl rfl (by omega)) ?_
  refine SL.nil <| T.seq <| T.condF rfl ?_
  refine T.exit (T.exitCode (T.exitCut (T.exitBlk ?_)))
  refine T.seq <| T.region <| SL.mv rfl <| SL.v (op_build st53 (qs := []) rfl rfl) <| SL.w (op_callF en55 (vs := [_, _, _]) rfl (rall0_spec ((((hcs.mono hX47).mono hX8).mono hX9).mono hY1))) ?_
  rintro _ _ Y2 ⟨rfl, hY2, rfl⟩
  refine SL.mv rfl <| SL.v (op_extract rfl rfl) <| SL.v (op_extract rfl rfl) <| SL.v (op_extract rfl rfl) <| SL.as rfl <| SL.as rfl <| SL.as rfl <| SL.nil <| T.seq <| T.region <| SL.mv rfl <| SL.v (op_eqlT rfl rfl (by omega)) ?_
  refine SL.as rfl <| SL.nil <| T.ret1 rfl (ResIs.tmp rfl) ?_
  rfl
end Go.Proofs.YtnpcilglilfajaaGreatDoor
namespace Go.Proofs.YtnpcilglilfajaaGreatDoor
open Go.RowKit
theorem gPow : Tryz.prog.globalNamed "internal/strconv.uint64pow10" = some 1 := by kernel_rfl
theorem gPowT : (Tryz.prog.globals[1]?).map (·.type) = some 286 := by kernel_rfl
theorem cells20 : Tryz.prog.cellsOf 286 = 20 := by kernel_rfl
theorem cellsU64 : Tryz.prog.cellsOf 58 = 1 := by kernel_rfl
theorem pow_of {W : World} {x y : String × DataW Unit} (h : laidMet Tryz.prog [x, y, ("internal/strconv.uint64pow10", Rows.laid_internal_strconv_uint64pow10)] W) : Pow10 (heapX W) := by
  have ht : Lib.TabIs Tryz.prog W "internal/strconv.uint64pow10" .u64 Lib.pow10Tab := Lib.tabIs_of_head gPow gPowT Tryz.underlying286 Tryz.underlying58 cellsU64 cells20 h.tail.tail
  intro w hw
  unfold Lib.TabIs World.var? at ht ⊢
  rw [gPow] at ht ⊢
  simp only [Option.bind_some] at ht ⊢
  cases hg : W.heap[1]? with
  | none => rw [hg] at ht; cases ht
  | some o =>
    rw [hg] at ht
    rw [hw 1 o hg]
    exact ht
end Go.Proofs.YtnpcilglilfajaaGreatDoor
