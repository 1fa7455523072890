/- What the law's proof rests on: the engine, a small separation logic over the kit's walk, and contracts of the functions that the law reaches. Part 5. -/
import Derived.Test.YtnpcilglilfajaaGreatDoorPart1
import Derived.Test.YtnpcilglilfajaaGreatDoorPart2
import Derived.Test.YtnpcilglilfajaaGreatDoorPart3
import Derived.Test.YtnpcilglilfajaaGreatDoorPart4
namespace Go.Proofs.YtnpcilglilfajaaGreatDoor
section
set_option maxRecDepth 100000
theorem en29 : Enters Tryz.prog 29 := enters_mk Tryz.func29 (by kernel_rfl) rfl
theorem en39 : Enters Tryz.prog 39 := enters_mk Tryz.func39 (by kernel_rfl) rfl
end
open Go.RowKit
noncomputable instance decFm : DecidableEq Fm := fun _ _ => Classical.propDecidable _
theorem fm_eq {op op' : Nat} {n n' : Int} {ns ns' : List Nat} {al al' : List Fm} : Fm.mk op n ns al = Fm.mk op' n' ns' al' ↔ op = op' ∧ n = n' ∧ ns = ns' ∧ al = al' := by simp
theorem same18_spec (N : Nat) : ∀ {X : PMap} {a b : Fm} {r r' : Row4}, wtF a ≤ N → N < 100000000 → opsF a → FmR .u8 X a r → FmR .i64 X b r' → Spec Tryz.prog 29 [.agg #[r.1, r.2.1, r.2.2.1, r.2.2.2], .agg #[r'.1, r'.2.1, r'.2.2.1, r'.2.2.2]] X fun u _ => u = .bool (decide (a = b)) := by
  induction N with
  | zero => intro X a b r r' h; have := wtF_pos a; omega
  | succ N ih =>
    intro X a b r r' hN hB hops h h'
    cases h with
    | @mk op n ns al vn va rows hn ha hl hr =>
    cases h' with
    | @mk op' n' ns' al' vn' va' rows' hn' ha' hl' hr' =>
    obtain ⟨Aa, ca, rfl⟩ := ha.form
    obtain ⟨An, cn, rfl⟩ := hn.form
    obtain ⟨Aa', ca', rfl⟩ := ha'.form
    obtain ⟨An', cn', rfl⟩ := hn'.form
    have hlen := wtFL_len al
    rw [wtF] at hN
    rw [opsF] at hops
    obtain ⟨hop, hops2⟩ := hops
    by_cases h1 : op = op'
    case neg =>
      refine Spec.enter Tryz.func29 rfl Tryz.ntmps29 rfl ?_
      intro w0 hw0
      refine T.seq <| T.region <| SL.w (op_box rfl) ?_
      rintro _ _ _ ⟨B2, rfl, rfl, rfl⟩
      refine SL.w (op_box rfl) ?_
      rintro _ _ _ ⟨B3, rfl, rfl, rfl⟩
      refine SL.as rfl <| SL.nil <| T.seq <| T.seq <| T.region <| SL.v (op_fieldAddr fa36_0 rfl) <| SL.v (op_load ty33 rfl (by repeat constructor) rfl) ?_
      refine SL.v (op_convI64 Tryz.underlying33 Tryz.underlying3 rfl (by omega) (by omega)) ?_
      refine SL.v (op_fieldAddr fa27_0 rfl) <| SL.v (op_load ty3 rfl (by repeat constructor) rfl) ?_
      refine SL.v (op_neqT rfl rfl (by omega)) ?_
      refine SL.mv rfl <| SL.skip rfl rfl ?_
      refine SL.skip rfl rfl ?_
      refine SL.skip rfl rfl ?_
      refine SL.skip rfl rfl ?_
      refine SL.skip rfl rfl ?_
      refine SL.v (op_pickT rfl rfl) <| SL.mv rfl <| SL.skip rfl rfl ?_
      refine SL.skip rfl rfl ?_
      refine SL.skip rfl rfl ?_
      refine SL.skip rfl rfl ?_
      refine SL.skip rfl rfl ?_
      refine SL.skip rfl rfl ?_
      refine SL.v (op_pickT rfl rfl) <| SL.mv rfl <| SL.skip rfl rfl ?_
      refine SL.skip rfl rfl ?_
      refine SL.skip rfl rfl ?_
      refine SL.skip rfl rfl ?_
      refine SL.skip rfl rfl ?_
      refine SL.skip rfl rfl ?_
      refine SL.skip rfl rfl ?_
      refine SL.v (op_pickT rfl rfl) <| SL.nil <| T.condT rfl <| T.seq <| T.region <| SL.as rfl <| SL.nil <| T.ret1 rfl (ResIs.tmp rfl) ?_
      rw [decide_eq_false fun e => h1 (fm_eq.1 e).1]
    by_cases h2 : n = n'
    case neg =>
      refine Spec.enter Tryz.func29 rfl Tryz.ntmps29 rfl ?_
      intro w0 hw0
      refine T.seq <| T.region <| SL.w (op_box rfl) ?_
      rintro _ _ _ ⟨B2, rfl, rfl, rfl⟩
      refine SL.w (op_box rfl) ?_
      rintro _ _ _ ⟨B3, rfl, rfl, rfl⟩
      refine SL.as rfl <| SL.nil <| T.seq <| T.seq <| T.region <| SL.v (op_fieldAddr fa36_0 rfl) <| SL.v (op_load ty33 rfl (by repeat constructor) rfl) ?_
      refine SL.v (op_convI64 Tryz.underlying33 Tryz.underlying3 rfl (by omega) (by omega)) ?_
      refine SL.v (op_fieldAddr fa27_0 rfl) <| SL.v (op_load ty3 rfl (by repeat constructor) rfl) ?_
      refine SL.v (op_neqF rfl rfl (by omega)) ?_
      refine SL.mv rfl <| SL.v (op_fieldAddr fa36_1 rfl) <| SL.v (op_load ty3 rfl (by repeat constructor) rfl) ?_
      refine SL.v (op_fieldAddr fa27_1 rfl) <| SL.v (op_load ty3 rfl (by repeat constructor) rfl) ?_
      refine SL.v (op_neqT rfl rfl (by omega)) ?_
      refine SL.v (op_pickF rfl rfl) <| SL.mv rfl <| SL.skip rfl rfl ?_
      refine SL.skip rfl rfl ?_
      refine SL.skip rfl rfl ?_
      refine SL.skip rfl rfl ?_
      refine SL.skip rfl rfl ?_
      refine SL.skip rfl rfl ?_
      refine SL.v (op_pickT rfl rfl) <| SL.mv rfl <| SL.skip rfl rfl ?_
      refine SL.skip rfl rfl ?_
      refine SL.skip rfl rfl ?_
      refine SL.skip rfl rfl ?_
      refine SL.skip rfl rfl ?_
      refine SL.skip rfl rfl ?_
      refine SL.skip rfl rfl ?_
      refine SL.v (op_pickT rfl rfl) <| SL.nil <| T.condT rfl <| T.seq <| T.region <| SL.as rfl <| SL.nil <| T.ret1 rfl (ResIs.tmp rfl) ?_
      rw [decide_eq_false fun e => h2 (fm_eq.1 e).2.1]
    by_cases h3 : ns = ns'
    case neg =>
      refine Spec.enter Tryz.func29 rfl Tryz.ntmps29 rfl ?_
      intro w0 hw0
      refine T.seq <| T.region <| SL.w (op_box rfl) ?_
      rintro _ _ _ ⟨B2, rfl, rfl, rfl⟩
      refine SL.w (op_box rfl) ?_
      rintro _ _ _ ⟨B3, rfl, rfl, rfl⟩
      refine SL.as rfl <| SL.nil <| T.seq <| T.seq <| T.region <| SL.v (op_fieldAddr fa36_0 rfl) <| SL.v (op_load ty33 rfl (by repeat constructor) rfl) ?_
      refine SL.v (op_convI64 Tryz.underlying33 Tryz.underlying3 rfl (by omega) (by omega)) ?_
      refine SL.v (op_fieldAddr fa27_0 rfl) <| SL.v (op_load ty3 rfl (by repeat constructor) rfl) ?_
      refine SL.v (op_neqF rfl rfl (by omega)) ?_
      refine SL.mv rfl <| SL.v (op_fieldAddr fa36_1 rfl) <| SL.v (op_load ty3 rfl (by repeat constructor) rfl) ?_
      refine SL.v (op_fieldAddr fa27_1 rfl) <| SL.v (op_load ty3 rfl (by repeat constructor) rfl) ?_
      refine SL.v (op_neqF rfl rfl (by omega)) ?_
      refine SL.v (op_pickF rfl rfl) <| SL.mv rfl <| SL.v (op_fieldAddr fa36_2 rfl) <| SL.v (op_load ty24 rfl (by repeat constructor) rfl) ?_
      refine SL.v (op_fieldAddr fa27_2 rfl) <| SL.v (op_load ty24 rfl (by repeat constructor) rfl) ?_
      refine SL.w (op_callF en39 (vs := [_, _]) rfl (eqInts_spec hn.1 hn'.1 (by omega))) ?_
      rintro _ _ X1 ⟨rfl, hX1, rfl⟩
      rw [decide_eq_false h3]
      refine SL.v (op_not rfl) <| SL.v (op_pickF rfl rfl) <| SL.mv rfl <| SL.skip rfl rfl ?_
      refine SL.skip rfl rfl ?_
      refine SL.skip rfl rfl ?_
      refine SL.skip rfl rfl ?_
      refine SL.skip rfl rfl ?_
      refine SL.skip rfl rfl ?_
      refine SL.skip rfl rfl ?_
      refine SL.v (op_pickT rfl rfl) <| SL.nil <| T.condT rfl <| T.seq <| T.region <| SL.as rfl <| SL.nil <| T.ret1 rfl (ResIs.tmp rfl) ?_
      rw [decide_eq_false fun e => h3 (fm_eq.1 e).2.2.1]
    by_cases h4 : al.length = al'.length
    case neg =>
      refine Spec.enter Tryz.func29 rfl Tryz.ntmps29 rfl ?_
      intro w0 hw0
      refine T.seq <| T.region <| SL.w (op_box rfl) ?_
      rintro _ _ _ ⟨B2, rfl, rfl, rfl⟩
      refine SL.w (op_box rfl) ?_
      rintro _ _ _ ⟨B3, rfl, rfl, rfl⟩
      refine SL.as rfl <| SL.nil <| T.seq <| T.seq <| T.region <| SL.v (op_fieldAddr fa36_0 rfl) <| SL.v (op_load ty33 rfl (by repeat constructor) rfl) ?_
      refine SL.v (op_convI64 Tryz.underlying33 Tryz.underlying3 rfl (by omega) (by omega)) ?_
      refine SL.v (op_fieldAddr fa27_0 rfl) <| SL.v (op_load ty3 rfl (by repeat constructor) rfl) ?_
      refine SL.v (op_neqF rfl rfl (by omega)) ?_
      refine SL.mv rfl <| SL.v (op_fieldAddr fa36_1 rfl) <| SL.v (op_load ty3 rfl (by repeat constructor) rfl) ?_
      refine SL.v (op_fieldAddr fa27_1 rfl) <| SL.v (op_load ty3 rfl (by repeat constructor) rfl) ?_
      refine SL.v (op_neqF rfl rfl (by omega)) ?_
      refine SL.v (op_pickF rfl rfl) <| SL.mv rfl <| SL.v (op_fieldAddr fa36_2 rfl) <| SL.v (op_load ty24 rfl (by repeat constructor) rfl) ?_
      refine SL.v (op_fieldAddr fa27_2 rfl) <| SL.v (op_load ty24 rfl (by repeat constructor) rfl) ?_
      refine SL.w (op_callF en39 (vs := [_, _]) rfl (eqInts_spec hn.1 hn'.1 (by omega))) ?_
      rintro _ _ X1 ⟨rfl, hX1, rfl⟩
      rw [decide_eq_true h3]
      refine SL.v (op_not rfl) <| SL.v (op_pickF rfl rfl) <| SL.mv rfl <| SL.v (op_fieldAddr fa36_3 rfl) <| SL.v (op_load ty34 rfl (by repeat constructor) rfl) ?_
      refine SL.v (op_lenS Tryz.underlying34 rfl) <| SL.v (op_fieldAddr fa27_3 rfl) <| SL.v (op_load ty25 rfl (by repeat constructor) rfl) ?_
      refine SL.v (op_lenS Tryz.underlying25 rfl) <| SL.v (op_neqT rfl rfl (by omega)) ?_
      refine SL.v (op_pickF rfl rfl) <| SL.nil <| T.condT rfl <| T.seq <| T.region <| SL.as rfl <| SL.nil <| T.ret1 rfl (ResIs.tmp rfl) ?_
      rw [decide_eq_false fun e => h4 (by rw [(fm_eq.1 e).2.2.2])]
    refine Spec.enter Tryz.func29 rfl Tryz.ntmps29 rfl ?_
    intro w0 hw0
    refine T.seq <| T.region <| SL.w (op_box rfl) ?_
    rintro _ _ _ ⟨B2, rfl, rfl, rfl⟩
    refine SL.w (op_box rfl) ?_
    rintro _ _ _ ⟨B3, rfl, rfl, rfl⟩
    refine SL.as rfl <| SL.nil <| T.seq <| T.seq <| T.region <| SL.v (op_fieldAddr fa36_0 rfl) <| SL.v (op_load ty33 rfl (by repeat constructor) rfl) ?_
    refine SL.v (op_convI64 Tryz.underlying33 Tryz.underlying3 rfl (by omega) (by omega)) ?_
    refine SL.v (op_fieldAddr fa27_0 rfl) <| SL.v (op_load ty3 rfl (by repeat constructor) rfl) ?_
    refine SL.v (op_neqF rfl rfl (by omega)) ?_
    refine SL.mv rfl <| SL.v (op_fieldAddr fa36_1 rfl) <| SL.v (op_load ty3 rfl (by repeat constructor) rfl) ?_
    refine SL.v (op_fieldAddr fa27_1 rfl) <| SL.v (op_load ty3 rfl (by repeat constructor) rfl) ?_
    refine SL.v (op_neqF rfl rfl (by omega)) ?_
    refine SL.v (op_pickF rfl rfl) <| SL.mv rfl <| SL.v (op_fieldAddr fa36_2 rfl) <| SL.v (op_load ty24 rfl (by repeat constructor) rfl) ?_
    refine SL.v (op_fieldAddr fa27_2 rfl) <| SL.v (op_load ty24 rfl (by repeat constructor) rfl) ?_
    refine SL.w (op_callF en39 (vs := [_, _]) rfl (eqInts_spec hn.1 hn'.1 (by omega))) ?_
    rintro _ _ X1 ⟨rfl, hX1, rfl⟩
    rw [decide_eq_true h3]
    refine SL.v (op_not rfl) <| SL.v (op_pickF rfl rfl) <| SL.mv rfl <| SL.v (op_fieldAddr fa36_3 rfl) <| SL.v (op_load ty34 rfl (by repeat constructor) rfl) ?_
    refine SL.v (op_lenS Tryz.underlying34 rfl) <| SL.v (op_fieldAddr fa27_3 rfl) <| SL.v (op_load ty25 rfl (by repeat constructor) rfl) ?_
    refine SL.v (op_lenS Tryz.underlying25 rfl) <| SL.v (op_neqF rfl rfl (by omega)) ?_
    refine SL.v (op_pickF rfl rfl) <| SL.nil <| T.condF rfl <| T.skip <| T.seq <| T.seq <| T.region <| SL.v (op_fieldAddr fa36_3 rfl) <| SL.v (op_load ty34 rfl (by repeat constructor) rfl) ?_
    refine SL.v (op_lenS Tryz.underlying34 rfl) <| SL.v (op_move (v := .int .i64 ((0 : Nat) : Int)) rfl) <| SL.nil <| T.block <| T.drop B2 (by repeat constructor) ?_
    refine T.loopW (fun m env own X' => ∃ i : Nat, m = rows.length - i ∧ i ≤ rows.length ∧ X1.le X' ∧ al.take i = al'.take i ∧ env = [(3, .pointer (some ⟨B3, 0, none⟩)), (38, .slice Aa rows.length ca), (39, .int .i64 (rows.length : Int)), (40, .int .i64 (i : Int))] ∧ own = [⟨B3, [.int .i64 (op' : Int), .int .i64 n', .slice An' ns'.length cn', .slice Aa' rows'.length ca'], 27, 4⟩]) rows.length ⟨0, by simp, by omega, PMap.le_refl _, by simp, rfl, rfl⟩ (by repeat (first | exact Sub.nil | refine Sub.cons rfl ?_)) ?_
    rintro m _ _ X2 ⟨i, rfl, hi, hX2, heq, rfl, rfl⟩
    rcases Nat.lt_or_ge i rows.length with hil | hil
    · obtain ⟨r, hr1⟩ : ∃ r, rows[i]? = some r := ⟨_, List.getElem?_eq_getElem hil⟩
      obtain ⟨r', hr2⟩ : ∃ r, rows'[i]? = some r := ⟨_, List.getElem?_eq_getElem (by omega)⟩
      obtain ⟨x, hx⟩ : ∃ x, al[i]? = some x := ⟨_, List.getElem?_eq_getElem (by omega)⟩
      obtain ⟨y, hy⟩ : ∃ y, al'[i]? = some y := ⟨_, List.getElem?_eq_getElem (by omega)⟩
      have g1 := ((hr i x r hx hr1).mono hX1).mono hX2
      have g2 := ((hr' i y r' hy hr2).mono hX1).mono hX2
      obtain ⟨b, pre, rfl, hB1⟩ := ha.blk (by omega)
      obtain ⟨b', pre', rfl, hB2⟩ := ha'.blk (by omega)
      have hB1 := (hB1.mono hX1).mono hX2
      have hB2 := (hB2.mono hX1).mono hX2
      have hmx := List.mem_of_getElem? hx
      have hwx := wtFL_mem hmx
      have hcall := ih (by omega) (by omega) (opsFL_mem hops2 hmx) g1 g2
      obtain ⟨_, _, _, _, _, _, _, _, rfl⟩ := g1.form
      obtain ⟨_, _, _, _, _, _, _, _, rfl⟩ := g2.form
      try simp only at hcall
      refine T.seq <| T.region <| SL.v (op_lssT rfl rfl (by omega)) ?_
      refine SL.nil <| T.seq <| T.condT rfl <| T.skip <| T.seq <| T.block <| T.seq <| T.region <| SL.mv rfl <| SL.v (op_indexN Tryz.underlying34 ty36 rfl rfl (by omega)) ?_
      refine SL.v (op_loadX ty36 rfl hB1 (row_read rc4_len hr1 (by omega))) ?_
      refine SL.w (op_alloc z36) ?_
      rintro _ _ _ ⟨B6, rfl, rfl, rfl⟩
      refine SL.as rfl <| SL.w (op_store ty36 rfl rfl (by repeat constructor) rfl rfl rfl) ?_
      rintro _ _ _ ⟨rfl, rfl⟩
      refine SL.nil <| T.seq <| T.draw (by kernel_rfl) 8 [.t 0, .t 1, .t 2, .t 3, .t 4, .t 5, .r 6, .t 7] (by kernel_rfl) ?_
      refine SD.take rfl panicBody (op_load ty36 rfl (by repeat constructor) rfl) rfl rfl ?_
      refine SD.take rfl panicBody (op_fieldAddr fa27_3 rfl) rfl rfl ?_
      refine SD.take rfl panicBody (op_load ty25 rfl (by repeat constructor) rfl) rfl rfl ?_
      refine SD.take rfl panicBody (op_move rfl) rfl rfl ?_
      refine SD.take rfl panicBody (op_indexN Tryz.underlying25 ty27 rfl rfl (by omega)) rfl rfl ?_
      refine SD.take rfl panicBody (op_loadX ty27 rfl hB2 (row_read rc4_len hr2 (by omega))) rfl rfl ?_
      refine SD.run rfl (op_callF en29 (vs := [_, _]) rfl (hcall)) rfl rfl ?_
      rintro _ _ X3 ⟨rfl, hX3, rfl⟩
      refine SD.take rfl panicBody (op_not rfl) rfl rfl ?_
      refine SD.nil ?_
      show SL _ _ _ _ _ _ _ [] _ _ _
      refine SL.nil ?_
      by_cases hxy : x = y
      · rw [decide_eq_true hxy]
        refine T.condF rfl <| T.skip <| T.blk <| T.region <| SL.v (op_addN (q := 1) rfl rfl (by omega)) ?_
        refine SL.mv rfl <| SL.nil <| T.drop B6 (by repeat constructor) ?_
        exact T.backW (rows.length - (i + 1)) (by omega) ⟨i + 1, rfl, by omega, hX2.trans' hX3, (take_eq hx hy heq).2 hxy, rfl, rfl⟩ (by repeat (first | exact Sub.nil | refine Sub.cons rfl ?_))
      · rw [decide_eq_false hxy]
        refine T.condT rfl <| T.seq <| T.region <| SL.as rfl <| SL.nil <| T.ret1 rfl (ResIs.tmp rfl) ?_
        rw [decide_eq_false fun e => ne_at hx hy hxy (fm_eq.1 e).2.2.2]
    · obtain rfl : i = rows.length := by omega
      rw [List.take_of_length_le (by omega), List.take_of_length_le (by omega)] at heq
      refine T.seq <| T.region <| SL.v (op_lssF rfl rfl (by omega)) ?_
      refine SL.nil <| T.seq <| T.condF rfl ?_
      refine T.exit (T.exitCode (T.exitCut (T.exitBlk ?_)))
      refine T.seq <| T.region <| SL.as rfl <| SL.nil <| T.ret1 rfl (ResIs.tmp rfl) ?_
      rw [decide_eq_true (fm_eq.2 ⟨h1, h2, h3, heq⟩)]
end Go.Proofs.YtnpcilglilfajaaGreatDoor
namespace Go.Proofs.YtnpcilglilfajaaGreatDoor
section
set_option maxRecDepth 100000
theorem en27 : Enters Tryz.prog 27 := enters_mk Tryz.func27 (by kernel_rfl) rfl
end
open Go.RowKit
end Go.Proofs.YtnpcilglilfajaaGreatDoor
namespace Go.Proofs.YtnpcilglilfajaaGreatDoor
open Go.RowKit
/-- The byte at a place; 0 behind the end. -/
def nx (p : List Nat) (q : Nat) : Nat := (p[q]?).getD 0
theorem nx_lt {p : List Nat} (h : ∀ b ∈ p, b < 256) (q : Nat) : nx p q < 256 := by
  unfold nx
  cases hq : p[q]? with
  | none => simp
  | some b => exact h b (List.mem_of_getElem? hq)
/-- The first k roles that a mask has. -/
def maskR (m k : Nat) : List Nat := ((List.range k).filter fun i => decide ((m >>> i) % 2 = 1)).map (· + 1)
theorem maskR_succ (m k : Nat) : maskR m (k + 1) = maskR m k ++ if (m >>> k) % 2 = 1 then [k + 1] else [] := by
  unfold maskR
  rw [List.range_succ, List.filter_append, List.map_append]
  congr 1
  by_cases h : (m >>> k) % 2 = 1
  · have e : ([k].filter fun i => decide ((m >>> i) % 2 = 1)) = [k] := List.filter_cons_of_pos (decide_eq_true h)
    rw [if_pos h, e]; rfl
  · have e : ([k].filter fun i => decide ((m >>> i) % 2 = 1)) = [] := List.filter_cons_of_neg (fun e => h (of_decide_eq_true e))
    rw [if_neg h, e]; rfl
theorem maskR_len (m k : Nat) : (maskR m k).length ≤ k := by
  rw [maskR, List.length_map]
  exact Nat.le_trans (List.length_filter_le _ _) (by simp)
theorem maskR_mem {m k r : Nat} (h : r ∈ maskR m k) : 1 ≤ r ∧ r ≤ k := by
  obtain ⟨i, hi, rfl⟩ := List.mem_map.1 h
  have := List.mem_range.1 (List.mem_filter.1 hi).1
  omega
theorem maskR_nd (m k : Nat) : (maskR m k).Nodup := by
  unfold maskR
  refine List.Pairwise.map _ (fun a b h => ?_) (List.Pairwise.filter _ List.nodup_range)
  omega
def cntR (b m : Nat) : List Nat := if maskR m 6 = [] then [1 + b / 3 % 6] else maskR m 6
def numLeaf (kind b m : Nat) : Fm := if b % 3 = 0 then .mk 1 ((b / 3 % 4 : Nat) : Int) [] [] else if kind = 3 then .mk 6 0 [1 + b / 3 % 6] [] else .mk 5 0 (cntR b m) []
def numUse (kind b : Nat) : Nat := if b % 3 = 0 ∨ kind = 3 then 0 else 1
/-- A formula of the type Int, and the place behind it. -/
def numS (p : List Nat) (kind : Nat) : Nat → Nat → Fm × Nat
  | 0, q => (numLeaf kind (nx p q) (nx p (q + 1)), q + 1 + numUse kind (nx p q))
  | d + 1, q => if 0 < d ∧ nx p q % 3 = 2 then (.mk 16 0 [] [(numS p kind d (q + 1)).1, (numS p kind d (numS p kind d (q + 1)).2).1], (numS p kind d (numS p kind d (q + 1)).2).2)
    else (numLeaf kind (nx p q) (nx p (q + 1)), q + 1 + numUse kind (nx p q))
def cmpS (p : List Nat) (kind b d q : Nat) : Fm × Nat := (.mk (11 + b % 5) 0 [] [(numS p kind (d - 1) q).1, (numS p kind (d - 1) (numS p kind (d - 1) q).2).1], (numS p kind (d - 1) (numS p kind (d - 1) q).2).2)
def truLeaf (p : List Nat) (kind b d q : Nat) : Fm × Nat :=
  if kind = 3 ∧ 1 < d then cmpS p kind (b / 8) d q else if kind = 3 ∨ b % 16 = 9 then (.mk (2 + b / 16 % 2) 0 [] [], q) else (.mk 4 0 [1 + b / 8 % 6] [], q)
/-- A formula of the type Bool, and the place behind it. -/
def truS (p : List Nat) (kind : Nat) : Nat → Nat → Fm × Nat
  | 0, q => truLeaf p kind (nx p q) 0 (q + 1)
  | d + 1, q => if d = 0 ∨ nx p q % 8 ≤ 1 then truLeaf p kind (nx p q) (d + 1) (q + 1) else if 6 ≤ nx p q % 8 then cmpS p kind (nx p q / 8) (d + 1) (q + 1)
    else if nx p q % 8 = 2 then (.mk 7 0 [] [(truS p kind d (q + 1)).1], (truS p kind d (q + 1)).2)
    else (.mk (8 + nx p q % 8 - 3) 0 [] [(truS p kind d (q + 1)).1, (truS p kind d (truS p kind d (q + 1)).2).1], (truS p kind d (truS p kind d (q + 1)).2).2)
def mkS (p : List Nat) (kind : Nat) : Fm := (truS p kind 4 0).1
theorem numS_le (p : List Nat) (kind : Nat) : ∀ d q, (numS p kind d q).2 + 1 ≤ q + 3 * 2 ^ d
  | 0, q => by
    rw [numS]; unfold numUse; split <;> simp <;> omega
  | d + 1, q => by
    have h2 : 2 ^ (d + 1) = 2 * 2 ^ d := by rw [Nat.pow_succ, Nat.mul_comm]
    have h1 : 1 ≤ 2 ^ d := Nat.one_le_two_pow
    have a := numS_le p kind d (q + 1)
    have b := numS_le p kind d (numS p kind d (q + 1)).2
    rw [numS, h2]
    split
    · simp only; omega
    · unfold numUse; simp only; split <;> omega
theorem cmpS_le (p : List Nat) (kind b d q : Nat) (hd : 1 ≤ d) : (cmpS p kind b d q).2 + 2 ≤ q + 3 * 2 ^ d := by
  obtain ⟨d, rfl⟩ : ∃ e, d = e + 1 := ⟨d - 1, by omega⟩
  have h2 : 2 ^ (d + 1) = 2 * 2 ^ d := by rw [Nat.pow_succ, Nat.mul_comm]
  have a := numS_le p kind d q
  have b := numS_le p kind d (numS p kind d q).2
  rw [cmpS, Nat.add_sub_cancel, h2]
  simp only; omega
theorem truS_le (p : List Nat) (kind : Nat) : ∀ d q, (truS p kind d q).2 + 1 ≤ q + 3 * 2 ^ d
  | 0, q => by
    rw [truS]; unfold truLeaf; rw [if_neg (by omega)]; split <;> simp only <;> omega
  | d + 1, q => by
    have h2 : 2 ^ (d + 1) = 2 * 2 ^ d := by rw [Nat.pow_succ, Nat.mul_comm]
    have h1 : 1 ≤ 2 ^ d := Nat.one_le_two_pow
    have a := truS_le p kind d (q + 1)
    have b := truS_le p kind d (truS p kind d (q + 1)).2
    have c := cmpS_le p kind (nx p q / 8) (d + 1) (q + 1) (by omega)
    rw [h2] at c
    rw [truS, h2]
    split
    · unfold truLeaf
      split
      · omega
      · split <;> simp only <;> omega
    · split
      · omega
      · split <;> simp only <;> omega
/-- A formula that Check accepts, of a type, over the roles 1 to 6, of a nesting. -/
structure MkOk (kind t d : Nat) (f : Fm) : Prop where
  ins : insF kind f = 0
  fit : fitF f = true
  typ : resT f.op = t
  dep : depF f ≤ d
  siz : sizF f + 1 ≤ 2 ^ d
  wt : wtF f ≤ 7 * sizF f
  men : ∀ j, (menF f).testBit j = true → 1 ≤ j ∧ j ≤ 6
theorem mk_one {kind op t : Nat} {n : Int} {rs : List Nat} (d : Nat) (hd : 1 ≤ d) (h1 : ownF op n rs 0 = 0) (h2 : ¬kinF kind op) (h3 : resT op = t) (h4 : ∀ r ∈ rs, 1 ≤ r ∧ r ≤ 6) (h5 : rs.length ≤ 6) : MkOk kind t d (.mk op n rs []) where
  ins := by rw [insF, List.length_nil, h1, if_neg (by simp), if_neg h2, insFL]
  fit := by rw [fitF, fitFL]
  typ := h3
  dep := by rw [depF, depFL]; omega
  siz := by
    rw [sizF, sizFL]
    have : 2 ^ 1 ≤ 2 ^ d := Nat.pow_le_pow_right (by omega) hd
    omega
  wt := by rw [wtF, wtFL, sizF, sizFL]; omega
  men := fun j hj => by
    rw [menF, menFL, Nat.or_zero, mskF_bit] at hj
    exact h4 j (of_decide_eq_true hj)
theorem mk_bin {kind op t u d : Nat} {a b : Fm} (h1 : ownF op 0 [] 2 = 0) (h2 : ¬kinF kind op) (h3 : resT op = t) (hu : wanT op = u) (ha : MkOk kind u d a) (hb : MkOk kind u d b) : MkOk kind t (d + 1) (.mk op 0 [] [a, b]) where
  ins := by
    rw [insF, show ([a, b] : List Fm).length = 2 from rfl, h1, if_neg (by simp), if_neg h2, insFL, ha.ins, if_neg (by simp), insFL, hb.ins, if_neg (by simp), insFL]
  fit := by
    rw [fitF, fitFL, fitFL, fitFL, hu]
    simp [ha.fit, hb.fit, ha.typ, hb.typ]
  typ := h3
  dep := by
    have := ha.dep
    have := hb.dep
    rw [depF, depFL, depFL, depFL]; omega
  siz := by
    have h2 : 2 ^ (d + 1) = 2 * 2 ^ d := by rw [Nat.pow_succ, Nat.mul_comm]
    have := ha.siz
    have := hb.siz
    rw [sizF, sizFL, sizFL, sizFL, h2]; omega
  wt := by
    have := ha.wt
    have := hb.wt
    rw [wtF, wtFL, wtFL, wtFL, sizF, sizFL, sizFL, sizFL, List.length_nil]; omega
  men := fun j hj => by
    rw [menF, menFL, menFL, menFL, Nat.or_zero, show mskF [] = 0 from rfl, Nat.zero_or, Nat.testBit_or, Bool.or_eq_true] at hj
    exact hj.elim (ha.men j) (hb.men j)
theorem mk_not {kind d : Nat} {a : Fm} (ha : MkOk kind 1 d a) : MkOk kind 1 (d + 1) (.mk 7 0 [] [a]) where
  ins := by
    rw [insF, show ([a] : List Fm).length = 1 from rfl, show ownF 7 0 [] 1 = 0 by decide, if_neg (by simp), if_neg (by unfold kinF; omega), insFL, ha.ins, if_neg (by simp), insFL]
  fit := by
    rw [fitF, fitFL, fitFL]
    simp [ha.fit, ha.typ, wanT]
  typ := rfl
  dep := by
    have := ha.dep
    rw [depF, depFL, depFL]; omega
  siz := by
    have h2 : 2 ^ (d + 1) = 2 * 2 ^ d := by rw [Nat.pow_succ, Nat.mul_comm]
    have := ha.siz
    rw [sizF, sizFL, sizFL, h2]; omega
  wt := by
    have := ha.wt
    rw [wtF, wtFL, wtFL, sizF, sizFL, sizFL, List.length_nil]; omega
  men := fun j hj => by
    rw [menF, menFL, menFL, Nat.or_zero, show mskF [] = 0 from rfl, Nat.zero_or] at hj
    exact ha.men j hj
theorem MkOk.up {kind t d e : Nat} {f : Fm} (h : MkOk kind t d f) (hd : d ≤ e) : MkOk kind t e f :=
  ⟨h.ins, h.fit, h.typ, Nat.le_trans h.dep hd, Nat.le_trans h.siz (Nat.pow_le_pow_right (by omega) hd), h.wt, h.men⟩
theorem cntR_ok (b m : Nat) : 1 ≤ (cntR b m).length ∧ (cntR b m).length ≤ 6 ∧ (∀ r ∈ cntR b m, 1 ≤ r ∧ r ≤ 6) ∧ (cntR b m).Nodup := by
  unfold cntR
  split
  · refine ⟨by simp, by simp, fun r hr => ?_, by simp⟩
    rw [List.mem_singleton.1 hr]
    have : b / 3 % 6 < 6 := Nat.mod_lt _ (by omega)
    omega
  · rename_i h
    exact ⟨List.length_pos_iff.2 h, maskR_len _ _, fun r hr => maskR_mem hr, maskR_nd _ _⟩
theorem own_okF {op : Nat} {n : Int} {rs : List Nat} (h1 : 1 ≤ op ∧ op ≤ 16) (h2 : argF op = 0) (h3 : op ≠ 1 → n = 0) (h4 : leaF op ≤ rs.length ∧ rs.length ≤ mosF op) (h5 : 0 ≤ n ∧ n ≤ 999999) (h6 : ∀ r ∈ rs, 1 ≤ r ∧ r ≤ 6) (h7 : rs.Nodup) : ownF op n rs 0 = 0 := by
  unfold ownF
  rw [if_neg (by rw [h2]; omega), if_neg (by
    rintro (⟨a, b⟩ | a | a)
    · exact b (h3 a)
    · omega
    · omega), if_neg (by omega), if_neg (by
    rintro ⟨r, hr, a⟩
    have := h6 r hr
    omega), if_neg (fun h => h h7)]
theorem numLeaf_ok {kind : Nat} (_hk : 1 ≤ kind ∧ kind ≤ 3) (b m d : Nat) (hd : 1 ≤ d) : MkOk kind 2 d (numLeaf kind b m) := by
  have h4 : b / 3 % 4 < 4 := Nat.mod_lt _ (by omega)
  have h6 : b / 3 % 6 < 6 := Nat.mod_lt _ (by omega)
  unfold numLeaf
  split
  · exact mk_one d hd (own_okF (by omega) rfl (fun h => absurd rfl h) (by decide) (by omega) (fun r hr => by cases hr) (by simp)) (by unfold kinF; omega) rfl (fun r hr => by cases hr) (by simp)
  · split
    · have hr : ∀ r ∈ [1 + b / 3 % 6], 1 ≤ r ∧ r ≤ 6 := fun r hr => by rw [List.mem_singleton.1 hr]; omega
      exact mk_one d hd (own_okF (by omega) rfl (fun _ => rfl) ⟨Nat.le_refl 1, Nat.le_refl 1⟩ (by omega) hr (by simp)) (by unfold kinF; omega) rfl hr (by simp)
    · obtain ⟨a1, a2, a3, a4⟩ := cntR_ok b m
      exact mk_one d hd (own_okF (by omega) rfl (fun _ => rfl) ⟨a1, Nat.le_trans a2 (by decide)⟩ (by omega) a3 a4) (by unfold kinF; omega) rfl a3 a2
theorem numS_ok {kind : Nat} (hk : 1 ≤ kind ∧ kind ≤ 3) (p : List Nat) : ∀ d q, MkOk kind 2 (max d 1) (numS p kind d q).1
  | 0, q => numLeaf_ok hk _ _ _ (by omega)
  | d + 1, q => by
    rw [numS]
    split
    · rename_i h
      have a := numS_ok hk p d (q + 1)
      have b := numS_ok hk p d (numS p kind d (q + 1)).2
      rw [show max d 1 = d by omega] at a b
      rw [show max (d + 1) 1 = d + 1 by omega]
      exact mk_bin (by decide) (by unfold kinF; omega) rfl rfl a b
    · exact numLeaf_ok hk _ _ _ (by omega)
theorem cmpS_ok {kind : Nat} (hk : 1 ≤ kind ∧ kind ≤ 3) (p : List Nat) (b d q : Nat) (hd : 2 ≤ d) : MkOk kind 1 d (cmpS p kind b d q).1 := by
  obtain ⟨e, rfl⟩ : ∃ e, d = e + 1 := ⟨d - 1, by omega⟩
  have h5 : b % 5 < 5 := Nat.mod_lt _ (by omega)
  have x := numS_ok hk p e q
  have y := numS_ok hk p e (numS p kind e q).2
  rw [show max e 1 = e by omega] at x y
  rw [cmpS, Nat.add_sub_cancel]
  generalize b % 5 = c at h5
  refine mk_bin ?_ (by unfold kinF; omega) ?_ ?_ x y
  · match c, h5 with
    | 0, _ => decide
    | 1, _ => decide
    | 2, _ => decide
    | 3, _ => decide
    | 4, _ => decide
  · unfold resT; rw [if_neg (by omega)]
  · unfold wanT; rw [if_pos (by omega)]
theorem truLeaf_ok {kind : Nat} (hk : 1 ≤ kind ∧ kind ≤ 3) (p : List Nat) (b d q : Nat) (hd : 1 ≤ d) : MkOk kind 1 d (truLeaf p kind b d q).1 := by
  have h6 : b / 8 % 6 < 6 := Nat.mod_lt _ (by omega)
  have h2 : b / 16 % 2 < 2 := Nat.mod_lt _ (by omega)
  unfold truLeaf
  split
  · rename_i h; exact cmpS_ok hk p _ _ _ (by omega)
  · split
    · generalize b / 16 % 2 = c at h2
      refine mk_one d hd (own_okF (by omega) ?_ (fun _ => rfl) ?_ (by omega) (fun r hr => by cases hr) (by simp)) (by unfold kinF; omega) ?_ (fun r hr => by cases hr) (by simp)
      · unfold argF; rw [if_pos (by omega)]
      · unfold leaF mosF; rw [if_neg (by omega), if_neg (by omega), if_neg (by omega)]; simp
      · unfold resT; rw [if_neg (by omega)]
    · rename_i h
      have hr : ∀ r ∈ [1 + b / 8 % 6], 1 ≤ r ∧ r ≤ 6 := fun r hr => by rw [List.mem_singleton.1 hr]; omega
      exact mk_one d hd (own_okF (by omega) rfl (fun _ => rfl) ⟨Nat.le_refl 1, Nat.le_refl 1⟩ (by omega) hr (by simp)) (by unfold kinF; omega) rfl hr (by simp)
theorem truLeaf_01 (p : List Nat) (kind b q : Nat) : truLeaf p kind b 0 q = truLeaf p kind b 1 q := by
  simp [truLeaf]
theorem truS_ok {kind : Nat} (hk : 1 ≤ kind ∧ kind ≤ 3) (p : List Nat) : ∀ d q, MkOk kind 1 (max d 1) (truS p kind d q).1
  | 0, q => by
    rw [truS, truLeaf_01]
    exact truLeaf_ok hk p (nx p q) 1 (q + 1) (by omega)
  | d + 1, q => by
    have h8 : nx p q % 8 < 8 := Nat.mod_lt _ (by omega)
    rw [truS, show max (d + 1) 1 = d + 1 by omega]
    split
    · exact truLeaf_ok hk p _ _ _ (by omega)
    · rename_i h
      split
      · exact cmpS_ok hk p _ _ _ (by omega)
      · have a := truS_ok hk p d (q + 1)
        have b := truS_ok hk p d (truS p kind d (q + 1)).2
        rw [show max d 1 = d by omega] at a b
        split
        · exact mk_not a
        · generalize hc : nx p q % 8 = c at *
          refine mk_bin ?_ (by unfold kinF; omega) ?_ ?_ a b
          · have h3 : 3 ≤ c := by omega
            match c, h3 with
            | 3, _ => decide
            | 4, _ => decide
            | 5, _ => decide
            | c + 6, _ => omega
          · unfold resT; rw [if_neg (by omega)]
          · unfold wanT; rw [if_neg (by omega)]
theorem filter_sub {α : Type} {p q : α → Bool} (h : ∀ a, p a = true → q a = true) : ∀ {l : List α}, (l.filter p).Sublist (l.filter q)
  | [] => List.Sublist.refl _
  | a :: l => by
    cases hp : p a with
    | true => rw [List.filter_cons_of_pos hp, List.filter_cons_of_pos (h a hp)]; exact (filter_sub h).cons_cons a
    | false =>
      rw [List.filter_cons_of_neg (by rw [hp]; simp)]
      cases hq : q a with
      | true => rw [List.filter_cons_of_pos hq]; exact (filter_sub h).cons a
      | false => rw [List.filter_cons_of_neg (by rw [hq]; simp)]; exact filter_sub h
theorem mkS_ok {kind : Nat} (hk : 1 ≤ kind ∧ kind ≤ 3) (p : List Nat) : MkOk kind 1 4 (mkS p kind) := truS_ok hk p 4 0
theorem mkS_chk {kind : Nat} (hk : 1 ≤ kind ∧ kind ≤ 3) (p : List Nat) : chkF kind (mkS p kind) = 0 := by
  have h := mkS_ok hk p
  have h1 := h.siz
  have h2 := h.dep
  unfold chkF
  rw [if_neg (by omega), if_neg (by rw [lookF, if_neg (by omega), h.ins]; simp), if_neg (by rw [h.fit, h.typ]; simp), if_neg]
  rintro ⟨_, h8⟩
  have : cntB 64 (menF (mkS p kind)) ≤ 6 := by
    rw [cntB, List.countP_eq_length_filter]
    have hsub : ((List.range 64).filter fun i => (menF (mkS p kind)).testBit i).Sublist ((List.range 64).filter fun i => decide (1 ≤ i ∧ i ≤ 6)) :=
      filter_sub fun i hi => decide_eq_true (h.men i hi)
    exact Nat.le_trans hsub.length_le (by decide)
  omega
end Go.Proofs.YtnpcilglilfajaaGreatDoor
namespace Go.Proofs.YtnpcilglilfajaaGreatDoor
open Go.RowKit
theorem cons_erase {α : Type} : ∀ (l : List α) (j : Nat) (h : j < l.length), (l[j] :: l.eraseIdx j).Perm l
  | [], j, h => by cases h
  | a :: l, 0, _ => List.Perm.refl _
  | a :: l, j + 1, h => by
    rw [List.eraseIdx_cons_succ, List.getElem_cons_succ]
    exact (List.Perm.swap _ _ _).trans (List.Perm.cons a (cons_erase l j (by simpa using h)))
section
variable {P : Program} {n : NM} {w0 : Base} {X0 X : PMap} {own : Own} {env : Env}
/-- A call that changes one of the call's own blocks, whichever stands where. -/
theorem op_callJ {c : Operand} {f : FuncId} {xs : Array Operand} {ts : Array TypeId} {fs cs : Array Value} {vs : List Value} {x : Ow} {j : Nat} {Φ : Value → Ow → PMap → Prop} (he : Enters P f) (hc : eev env c = some (.func (.func f) fs cs)) (hx : xs.toList.map (eev env) = vs.map some)
    (h : SpecM P f (fs.toList ++ vs ++ cs.toList) X [x] fun u L' X' => ∃ x', L' = [x'] ∧ Φ u x' X') (hj : AtO own x.b x.cs x.ty x.sz j) : OpX P n w0 X0 env own X (.call { callee := .value c, args := xs, argTypes := ts }) false fun v own' X' => ∃ x', own' = own.set j x' ∧ X.le X' ∧ Φ v x' X' := by
  intro a W oper K Q ro hop ha hs hK
  have all : ∀ (xs : List Operand) (vs : List Value), xs.map (eev env) = vs.map some → xs.map a.eval = vs := by
    intro xs
    induction xs with
    | nil => intro vs h; cases vs <;> simp_all
    | cons x xs ih =>
      intro vs h
      cases vs with
      | nil => simp at h
      | cons v vs =>
        simp only [List.map_cons, List.cons.injEq] at h
        simp [ha.eval h.1, ih vs h.2]
  have h1 : xs.map a.eval = vs.toArray := by apply Array.toList_inj.1; simp [all _ _ hx]
  have hex : (execOp a.eval oper).run P W = .ok (.enter f (fs.toList ++ vs ++ cs.toList).toArray) W := by
    have hargs : fs ++ vs.toArray ++ cs = (fs.toList ++ vs ++ cs.toList).toArray := by apply Array.toList_inj.1; simp
    simp only [execOp, hop, resolve, ha.eval hc, h1, Deferred.ofValue, invoke, Sem.run_bind, Sem.run_pure, Result.andThen_ok]
    rw [hargs]
    exact he _ _
  obtain ⟨hjl, hjx⟩ := List.getElem?_eq_some_iff.1 hj.get
  have hp : own.Perm ([x] ++ own.eraseIdx j) := by
    have := cons_erase own j hjl
    rw [hjx] at this
    exact this.symm
  refine wp_enters (noDefer_spec (by rw [hop]; rfl)) hex ((h w0 X0 (own.eraseIdx j) W (hs.perm hp)).mono fun e w' hfin => ?_)
  obtain ⟨v, L', X', rfl, hsat, hX, x', rfl, hΦ⟩ := hfin
  have hp' : ([x'] ++ own.eraseIdx j).Perm (own.set j x') := by
    have hl : j < (own.set j x').length := by rw [List.length_set]; exact hjl
    have := cons_erase (own.set j x') j hl
    rw [List.getElem_set_self, List.eraseIdx_set_eq] at this
    exact this
  exact ⟨v, rfl, hK v _ X' w' ⟨x', rfl, hX, hΦ⟩ (hsat.perm hp') (fun h => by cases h)⟩
end
end Go.Proofs.YtnpcilglilfajaaGreatDoor
namespace Go.Proofs.YtnpcilglilfajaaGreatDoor
open Go.RowKit
theorem fmLeaf {k : IntKind} {X : PMap} {op : Nat} {n : Int} {vn : Value} {rs : List Nat} (hn : IntsR X vn rs) : FmR k X (.mk op n rs []) (.int k (op : Int), .int .i64 n, vn, .slice none 0 0) := .mk (rows := []) hn (.inl ⟨rfl, _, _, rfl⟩) rfl (fun i a r h => by simp at h)
theorem fmTwo {k : IntKind} {X : PMap} {op : Nat} {n : Int} {va : Value} {a b : Fm} {ra rb : Row4} (h : RowR rc4 X va [ra, rb]) (ha : FmR k X a ra) (hb : FmR k X b rb) : FmR k X (.mk op n [] [a, b]) (.int k (op : Int), .int .i64 n, .slice none 0 0, va) := .mk (rows := [ra, rb]) IntsR.nil h rfl (fun i x r h1 h2 => by
  match i with
  | 0 => simp at h1 h2; subst h1 h2; exact ha
  | 1 => simp at h1 h2; subst h1 h2; exact hb
  | i + 2 => simp at h1)
theorem ints1 {X : PMap} {b : Nat} {r : Nat} (h : Blk X b [.int .i64 (r : Int)]) : IntsR X (.slice (some ⟨b, 0, none⟩) 1 1) [r] := ⟨.inr ⟨Nat.zero_lt_one, b, 1, rfl, h⟩, _, _, rfl, Nat.le_refl _⟩
theorem row2 {X : PMap} {b : Nat} {r s : Row4} (h : Blk X b [r.1, r.2.1, r.2.2.1, r.2.2.2, s.1, s.2.1, s.2.2.1, s.2.2.2]) : RowR rc4 X (.slice (some ⟨b, 0, none⟩) 2 2) [r, s] := .inr ⟨Nat.zero_lt_succ _, b, 2, [], rfl, h, Nat.le_refl _, by (have : maxLen = 9223372036854775807 := rfl); omega⟩
abbrev FmO (b : Nat) (r : Row4) : Ow := ⟨b, [r.1, r.2.1, r.2.2.1, r.2.2.2], 36, 4⟩
end Go.Proofs.YtnpcilglilfajaaGreatDoor
namespace Go.Proofs.YtnpcilglilfajaaGreatDoor
section
set_option maxRecDepth 100000
theorem en159 : Enters Tryz.prog 159 := enters_mk Tryz.func159 (by kernel_rfl) rfl
theorem en191 : Enters Tryz.prog 191 := enters_mk Tryz.func191 (by kernel_rfl) rfl
theorem fa203_0 : FAdr Tryz.prog 203 0 0 := fadr_mk Tryz.underlying203 rfl rfl (by kernel_rfl)
theorem fa203_1 : FAdr Tryz.prog 203 1 1 := fadr_mk Tryz.underlying203 rfl rfl (by kernel_rfl)
end
open Go.RowKit
abbrev SrcO (b : Nat) (A : Option Addr) (l c : Nat) (q : Nat) : Ow := ⟨b, [.slice A l c, .int .i64 (q : Int)], 203, 2⟩
theorem nx_at {p : List Nat} {q : Nat} (h : q < p.length) : p[q]? = some (nx p q) := by
  rw [nx, List.getElem?_eq_getElem h]; rfl
theorem next_spec18 {X : PMap} {b c q : Nat} {A : Option Addr} {p : List Nat} (h : BytesR X (.slice A p.length c) p) (hb : ∀ x ∈ p, x < 256) (hq : q < 1000000) (hl : p.length < 1000000) : SpecM Tryz.prog 159 [.pointer (some ⟨b, 0, none⟩)] X [SrcO b A p.length c q] fun u L' _ => ∃ x', L' = [x'] ∧ u = .int .i64 (nx p q : Int) ∧ x' = SrcO b A p.length c (q + 1) := by
  by_cases hc : p.length < q + 1
  · have e : nx p q = 0 := by rw [nx, List.getElem?_eq_none (by omega)]; rfl
    rw [e]
    refine SpecM.enter Tryz.func159 rfl Tryz.ntmps159 rfl ?_
    intro w0 X0 own0
    refine T.seq <| T.region <| SL.v (op_assign (v := .int .i64 ((0 : Nat) : Int)) rfl) <| SL.nil <| T.seq <| T.region <| SL.mv rfl <| SL.v (op_nil rfl) <| SL.v (op_fieldAddr fa203_1 rfl) <| SL.v (op_load ty3 rfl (by repeat constructor) rfl) ?_
    refine SL.v (op_addN (p := q) (q := 1) rfl rfl (by omega)) ?_
    refine SL.v (op_nil rfl) <| SL.v (op_fieldAddr fa203_1 rfl) <| SL.w (op_store ty3 rfl rfl (by repeat constructor) rfl rfl rfl) ?_
    rintro _ _ _ ⟨rfl, rfl⟩
    refine SL.nil <| T.seq <| T.seq <| T.draw (by kernel_rfl) 10 [.t 0, .t 1, .t 2, .t 3, .t 4, .t 5, .t 6, .t 7, .t 8, .t 9] (by kernel_rfl) ?_
    refine SD.take rfl panicBody (op_move rfl) rfl rfl ?_
    refine SD.take rfl panicBody (op_nil rfl) rfl rfl ?_
    refine SD.take rfl panicBody (op_fieldAddr fa203_1 rfl) rfl rfl ?_
    refine SD.take rfl panicBody (op_load ty3 rfl (by repeat constructor) rfl) rfl rfl ?_
    refine SD.take rfl panicBody (op_move rfl) rfl rfl ?_
    refine SD.take rfl panicBody (op_nil rfl) rfl rfl ?_
    refine SD.take rfl panicBody (op_fieldAddr fa203_0 rfl) rfl rfl ?_
    refine SD.take rfl panicBody (op_load ty44 rfl (by repeat constructor) rfl) rfl rfl ?_
    refine SD.take rfl panicBody (op_lenS Tryz.underlying44 rfl) rfl rfl ?_
    refine SD.take rfl panicBody (op_gtrT rfl rfl (by omega)) rfl rfl ?_
    refine SD.nil ?_
    show SL _ _ _ _ _ _ _ [] _ _ _
    refine SL.nil <| T.condT rfl <| T.seq <| T.region <| SL.v (op_assign (v := .int .i64 ((0 : Nat) : Int)) rfl) <| SL.nil <| T.retM1 [SrcO b A p.length c (q + 1)] rfl (ResIs.tmp rfl) (List.Perm.refl _) ?_
    exact ⟨PMap.le_refl _, _, rfl, rfl, rfl⟩
  · obtain ⟨bA, pre, rfl, hB⟩ := h.blk (by omega)
    have hx := nx_lt hb q
    have e2 : (pre ++ bytesC p)[pre.length + q]? = some (.int .u8 (nx p q : Int)) := by rw [List.getElem?_append_right (by omega), Nat.add_sub_cancel_left]; exact bytesC_at (nx_at (by omega))
    refine SpecM.enter Tryz.func159 rfl Tryz.ntmps159 rfl ?_
    intro w0 X0 own0
    refine T.seq <| T.region <| SL.v (op_assign (v := .int .i64 ((0 : Nat) : Int)) rfl) <| SL.nil <| T.seq <| T.region <| SL.mv rfl <| SL.v (op_nil rfl) <| SL.v (op_fieldAddr fa203_1 rfl) <| SL.v (op_load ty3 rfl (by repeat constructor) rfl) ?_
    refine SL.v (op_addN (p := q) (q := 1) rfl rfl (by omega)) ?_
    refine SL.v (op_nil rfl) <| SL.v (op_fieldAddr fa203_1 rfl) <| SL.w (op_store ty3 rfl rfl (by repeat constructor) rfl rfl rfl) ?_
    rintro _ _ _ ⟨rfl, rfl⟩
    refine SL.nil <| T.seq <| T.seq <| T.draw (by kernel_rfl) 10 [.t 0, .t 1, .t 2, .t 3, .t 4, .t 5, .t 6, .t 7, .t 8, .t 9] (by kernel_rfl) ?_
    refine SD.take rfl panicBody (op_move rfl) rfl rfl ?_
    refine SD.take rfl panicBody (op_nil rfl) rfl rfl ?_
    refine SD.take rfl panicBody (op_fieldAddr fa203_1 rfl) rfl rfl ?_
    refine SD.take rfl panicBody (op_load ty3 rfl (by repeat constructor) rfl) rfl rfl ?_
    refine SD.take rfl panicBody (op_move rfl) rfl rfl ?_
    refine SD.take rfl panicBody (op_nil rfl) rfl rfl ?_
    refine SD.take rfl panicBody (op_fieldAddr fa203_0 rfl) rfl rfl ?_
    refine SD.take rfl panicBody (op_load ty44 rfl (by repeat constructor) rfl) rfl rfl ?_
    refine SD.take rfl panicBody (op_lenS Tryz.underlying44 rfl) rfl rfl ?_
    refine SD.take rfl panicBody (op_gtrF rfl rfl (by omega)) rfl rfl ?_
    refine SD.nil ?_
    show SL _ _ _ _ _ _ _ [] _ _ _
    refine SL.nil <| T.condF rfl <| T.skip <| T.seq <| T.draw (by kernel_rfl) 13 [.t 0, .t 1, .t 2, .t 3, .t 4, .t 5, .t 6, .t 7, .t 8, .t 9, .t 10, .t 11, .t 12] (by kernel_rfl) ?_
    refine SD.take rfl panicBody (op_move rfl) rfl rfl ?_
    refine SD.take rfl panicBody (op_nil rfl) rfl rfl ?_
    refine SD.take rfl panicBody (op_fieldAddr fa203_0 rfl) rfl rfl ?_
    refine SD.take rfl panicBody (op_load ty44 rfl (by repeat constructor) rfl) rfl rfl ?_
    refine SD.take rfl panicBody (op_move rfl) rfl rfl ?_
    refine SD.take rfl panicBody (op_nil rfl) rfl rfl ?_
    refine SD.take rfl panicBody (op_fieldAddr fa203_1 rfl) rfl rfl ?_
    refine SD.take rfl panicBody (op_load ty3 rfl (by repeat constructor) rfl) rfl rfl ?_
    refine SD.take rfl panicBody (op_subN (p := q + 1) (q := 1) rfl rfl (by omega) (by omega)) rfl rfl ?_
    rw [Nat.add_sub_cancel]
    refine SD.take rfl panicBody (op_indexN Tryz.underlying44 ty5 rfl rfl (by omega)) rfl rfl ?_
    refine SD.take rfl panicBody (op_loadX ty5 rfl hB (cread1k' e2 (by omega))) rfl rfl ?_
    refine SD.take rfl panicBody (op_convI64 Tryz.underlying5 Tryz.underlying3 rfl (by omega) (by omega)) rfl rfl ?_
    refine SD.take rfl panicBody (op_assign rfl) rfl rfl ?_
    refine SD.nil ?_
    show SL _ _ _ _ _ _ _ [] _ _ _
    refine SL.nil <| T.retM1 [SrcO b (some ⟨bA, pre.length, none⟩) p.length c (q + 1)] rfl (ResIs.tmp rfl) (List.Perm.refl _) ?_
    exact ⟨PMap.le_refl _, _, rfl, rfl, rfl⟩
theorem perm3o {a b c : Ow} {G O : Own} : (a :: b :: c :: (G ++ O)).Perm ((a :: b :: c :: O) ++ G) := .cons _ (.cons _ (.cons _ (show (G ++ O).Perm (O ++ G) from List.perm_append_comm)))
theorem numS_leaf {p : List Nat} {kind d q : Nat} (h : ¬(1 < d ∧ nx p q % 3 = 2)) : numS p kind d q = (numLeaf kind (nx p q) (nx p (q + 1)), q + 1 + numUse kind (nx p q)) := by
  cases d with
  | zero => rfl
  | succ d => rw [numS, if_neg (fun hh => h ⟨by omega, hh.2⟩)]
theorem numS_node {p : List Nat} {kind d q : Nat} (h1 : 1 < d) (h : nx p q % 3 = 2) : numS p kind d q = (.mk 16 0 [] [(numS p kind (d - 1) (q + 1)).1, (numS p kind (d - 1) (numS p kind (d - 1) (q + 1)).2).1], (numS p kind (d - 1) (numS p kind (d - 1) (q + 1)).2).2) := by
  obtain ⟨e, rfl⟩ : ∃ e, d = e + 1 := ⟨d - 1, by omega⟩
  rw [numS, if_pos ⟨by omega, h⟩, Nat.add_sub_cancel]
theorem numS_spec {kind : Nat} (d : Nat) : ∀ {X : PMap} {b c q : Nat} {A : Option Addr} {p : List Nat}, BytesR X (.slice A p.length c) p → (∀ x ∈ p, x < 256) → p.length < 1000000 → q + 3 * 2 ^ d < 1000000 → SpecM Tryz.prog 191 [.pointer (some ⟨b, 0, none⟩), .int .i64 (d : Int), .int .i64 (kind : Int), .int .i64 6] X [SrcO b A p.length c q] fun u L' X' => ∃ x', L' = [x'] ∧ ∃ r : Row4, u = .agg #[r.1, r.2.1, r.2.2.1, r.2.2.2] ∧ FmR .i64 X' (numS p kind d q).1 r ∧ x' = SrcO b A p.length c (numS p kind d q).2 := by
  induction d using Nat.strongRecOn with
  | _ d ih =>
  intro X b c q A p h hb hl hq
  have hmx : maxLen = 9223372036854775807 := rfl
  have hp2 : 1 ≤ 2 ^ d := Nat.one_le_two_pow
  have hx := nx_lt hb q
  have hd : d < 2 ^ d := Nat.lt_two_pow_self
  by_cases hbr : 1 < d ∧ nx p q % 3 = 2
  · obtain ⟨hd1, h3⟩ := hbr
    have e2 : 2 ^ d = 2 * 2 ^ (d - 1) := by
      obtain ⟨e, rfl⟩ : ∃ e, d = e + 1 := ⟨d - 1, by omega⟩
      rw [Nat.add_sub_cancel, Nat.pow_succ, Nat.mul_comm]
    have hle := numS_le p kind (d - 1) (q + 1)
    rw [numS_node hd1 h3]
    refine SpecM.enter Tryz.func191 rfl Tryz.ntmps191 rfl ?_
    intro w0 X0 own0
    refine T.seq <| T.region <| SL.w (op_alloc z27) ?_
    rintro _ _ _ ⟨B8, rfl, rfl, rfl⟩
    refine SL.nil <| T.seq <| T.region <| SL.mv rfl <| SL.w (op_callJ en159 rfl (vs := [_]) rfl (next_spec18 (q := q) h hb (by omega) hl) (by repeat constructor)) ?_
    rintro _ _ X1 ⟨_, rfl, hX1, rfl, rfl⟩
    refine SL.as rfl <| SL.nil <| T.seq <| T.seq <| T.region <| SL.mv rfl <| SL.v (op_gtrT rfl rfl (by omega)) ?_
    refine SL.mv rfl <| SL.mv rfl <| SL.v (op_remN (p := nx p q) (q := 3) rfl rfl rfl (by omega)) ?_
    rw [h3]
    refine SL.v (op_eqlT rfl rfl (by omega)) ?_
    refine SL.v (op_pickT rfl rfl) <| SL.nil <| T.condT rfl <| T.seq <| T.region <| SL.mv rfl <| SL.mv rfl <| SL.v (op_subN (p := d) (q := 1) rfl rfl (by omega) (by omega)) ?_
    refine SL.mv rfl <| SL.mv rfl <| SL.w (op_callJ en191 rfl (vs := [_, _, _, _]) rfl (ih (d - 1) (by omega) (q := q + 1) (h.mono hX1) hb hl (by omega)) (by repeat constructor)) ?_
    rintro _ _ X2 ⟨_, rfl, hX2, r1, rfl, hr1, rfl⟩
    obtain ⟨o1, n1, a1, b1, l1, c1, l2, c2, rfl⟩ := hr1.form
    refine SL.w (op_alloc z27) ?_
    rintro _ _ _ ⟨B10, rfl, rfl, rfl⟩
    refine SL.w (op_store ty27 rfl rfl (by repeat constructor) rfl rfl rfl) ?_
    rintro _ _ _ ⟨rfl, rfl⟩
    refine SL.nil <| T.seq <| T.region <| SL.mv rfl <| SL.mv rfl <| SL.v (op_subN (p := d) (q := 1) rfl rfl (by omega) (by omega)) ?_
    refine SL.mv rfl <| SL.mv rfl <| SL.w (op_callJ en191 rfl (vs := [_, _, _, _]) rfl (ih (d - 1) (by omega) (q := (numS p kind (d - 1) (q + 1)).2) ((h.mono hX1).mono hX2) hb hl (by omega)) (by repeat constructor)) ?_
    rintro _ _ X3 ⟨_, rfl, hX3, r2, rfl, hr2, rfl⟩
    obtain ⟨o3, n3, a3, b3, l3, c3, l4, c4, rfl⟩ := hr2.form
    refine SL.w (op_alloc z27) ?_
    rintro _ _ _ ⟨B11, rfl, rfl, rfl⟩
    refine SL.w (op_store ty27 rfl rfl (by repeat constructor) rfl rfl rfl) ?_
    rintro _ _ _ ⟨rfl, rfl⟩
    refine SL.nil <| T.seq <| T.region <| SL.v (op_load ty27 rfl (by repeat constructor) rfl) ?_
    refine SL.v (op_load ty27 rfl (by repeat constructor) rfl) ?_
    refine SL.w (op_buildSlice Tryz.underlying25 bs27 (qs := [(0, _), (1, _)]) rfl rfl rfl rfl rfl) ?_
    rintro _ _ _ ⟨B38, rfl, rfl, rfl⟩
    refine SL.v (op_build st27 (qs := [(0, _), (3, _)]) rfl rfl) <| SL.w (op_store ty27 rfl rfl (by repeat constructor) rfl rfl rfl) ?_
    rintro _ _ _ ⟨rfl, rfl⟩
    refine SL.nil <| T.pub B38 (by repeat constructor) ?_
    intro X4 hX4 hB38 _
    refine T.retM1S [_] _ rfl (ResIs.cell rfl ty27 (by repeat constructor) rfl) (.cons _ (.cons _ (.cons _ (.refl _)))) (List.Perm.refl _) ?_
    exact ⟨((hX1.trans' hX2).trans' hX3).trans' hX4, _, rfl, (.int .i64 16, .int .i64 0, .slice none 0 0, .slice (some ⟨B38, 0, none⟩) 2 2), rfl, fmTwo (op := 16) (row2 hB38) ((hr1.mono hX3).mono hX4) (hr2.mono hX4), rfl⟩
  rw [numS_leaf hbr]
  refine SpecM.enter Tryz.func191 rfl Tryz.ntmps191 rfl ?_
  intro w0 X0 own0
  refine T.seq <| T.region <| SL.w (op_alloc z27) ?_
  rintro _ _ _ ⟨B8, rfl, rfl, rfl⟩
  refine SL.nil <| T.seq <| T.region <| SL.mv rfl <| SL.w (op_callJ en159 rfl (vs := [_]) rfl (next_spec18 (q := q) h hb (by omega) hl) (by repeat constructor)) ?_
  rintro _ _ X1 ⟨_, rfl, hX1, rfl, rfl⟩
  refine SL.as rfl <| SL.nil <| T.seq <| T.meet (fun _ env own X' => X1.le X' ∧ env = [(0, .pointer (some ⟨b, 0, none⟩)), (2, .int .i64 (kind : Int)), (3, .int .i64 6), (8, .pointer (some ⟨B8, 0, none⟩)), (9, .int .i64 (nx p q : Int))] ∧ own = F6 B8 0 0 (.slice none 0 0) (.slice none 0 0) :: SrcO b A p.length c (q + 1) :: own0) ?_ ?_
  · by_cases hd1 : 1 < d
    · skip
      refine T.seq <| T.region <| SL.mv rfl <| SL.v (op_gtrT rfl rfl (by omega)) ?_
      refine SL.mv rfl <| SL.mv rfl <| SL.v (op_remN (p := nx p q) (q := 3) rfl rfl rfl (by omega)) ?_
      refine SL.v (op_eqlF rfl rfl (by omega)) ?_
      refine SL.v (op_pickT rfl rfl) <| SL.nil <| T.condF rfl <| T.skip ?_
      exact T.backW 0 (by omega) ⟨PMap.le_refl _, rfl, rfl⟩ (by repeat (first | exact Sub.nil | refine Sub.cons rfl ?_))
    · refine T.seq <| T.region <| SL.mv rfl <| SL.v (op_gtrF rfl rfl (by omega)) ?_
      refine SL.mv rfl <| SL.skip rfl rfl ?_
      refine SL.skip rfl rfl ?_
      refine SL.skip rfl rfl ?_
      refine SL.v (op_pickF rfl rfl) <| SL.nil <| T.condF rfl <| T.skip ?_
      exact T.backW 0 (by omega) ⟨PMap.le_refl _, rfl, rfl⟩ (by repeat (first | exact Sub.nil | refine Sub.cons rfl ?_))
  rintro _ _ _ X2 ⟨hX2, rfl, rfl⟩
  have h6 : nx p q / 3 % 6 < 6 := Nat.mod_lt _ (by omega)
  refine T.seq <| T.seq <| T.region <| SL.mv rfl <| SL.v (op_remN (p := nx p q) (q := 3) rfl rfl rfl (by omega)) ?_
  by_cases h0 : nx p q % 3 = 0
  · rw [numLeaf, if_pos h0, numUse, if_pos (.inl h0)]
    refine SL.v (op_eqlT rfl rfl (by omega)) ?_
    refine SL.nil <| T.condT rfl <| T.seq <| T.region <| SL.mv rfl <| SL.v (op_quoN (p := nx p q) (q := 3) rfl rfl rfl (by omega) (by omega)) ?_
    refine SL.v (op_remN (p := nx p q / 3) (q := 4) rfl rfl rfl (by omega)) ?_
    refine SL.v (op_build st27 (qs := [(0, _), (1, _)]) rfl rfl) <| SL.w (op_store ty27 rfl rfl (by repeat constructor) rfl rfl rfl) ?_
    rintro _ _ _ ⟨rfl, rfl⟩
    refine SL.nil <| T.retM1S [_] _ rfl (ResIs.cell rfl ty27 (by repeat constructor) rfl) (.cons _ (.refl _)) (List.Perm.refl _) ?_
    exact ⟨hX1.trans' hX2, _, rfl, _, rfl, fmLeaf (op := 1) IntsR.nil, rfl⟩
  by_cases hk : kind = 3
  · rw [numLeaf, if_neg h0, if_pos hk, numUse, if_pos (.inr hk)]
    refine SL.v (op_eqlF rfl rfl (by omega)) ?_
    refine SL.nil <| T.condF rfl <| T.skip <| T.seq <| T.seq <| T.region <| SL.mv rfl <| SL.v (op_eqlT rfl rfl (by omega)) ?_
    refine SL.nil <| T.condT rfl <| T.seq <| T.region <| SL.mv rfl <| SL.v (op_quoN (p := nx p q) (q := 3) rfl rfl rfl (by omega) (by omega)) ?_
    refine SL.mv rfl <| SL.v (op_remN (p := nx p q / 3) (q := 6) rfl rfl rfl (by omega)) ?_
    refine SL.v (op_addN (p := 1) (q := nx p q / 3 % 6) rfl rfl (by omega)) ?_
    refine SL.w (op_buildSlice Tryz.underlying24 bs3 (qs := [(0, _)]) rfl rfl rfl rfl rfl) ?_
    rintro _ _ _ ⟨B54, rfl, rfl, rfl⟩
    refine SL.v (op_build st27 (qs := [(0, _), (2, _)]) rfl rfl) <| SL.w (op_store ty27 rfl rfl (by repeat constructor) rfl rfl rfl) ?_
    rintro _ _ _ ⟨rfl, rfl⟩
    refine SL.nil <| T.pub B54 (by repeat constructor) ?_
    intro X3 hX3 hB54 _
    refine T.retM1S [_] _ rfl (ResIs.cell rfl ty27 (by repeat constructor) rfl) (.cons _ (.refl _)) (List.Perm.refl _) ?_
    exact ⟨(hX1.trans' hX2).trans' hX3, _, rfl, _, rfl, fmLeaf (op := 6) (ints1 hB54), rfl⟩
  rw [numLeaf, if_neg h0, if_neg hk, numUse, if_neg (fun hh => hh.elim h0 hk)]
  refine SL.v (op_eqlF rfl rfl (by omega)) ?_
  refine SL.nil <| T.condF rfl <| T.skip <| T.seq <| T.seq <| T.region <| SL.mv rfl <| SL.v (op_eqlF rfl rfl (by omega)) ?_
  refine SL.nil <| T.condF rfl <| T.skip <| T.seq <| T.region <| SL.v (op_build st27 (qs := [(0, _)]) rfl rfl) <| SL.w (op_alloc z27) ?_
  rintro _ _ _ ⟨B12, rfl, rfl, rfl⟩
  refine SL.w (op_store ty27 rfl rfl (by repeat constructor) rfl rfl rfl) ?_
  rintro _ _ _ ⟨rfl, rfl⟩
  refine SL.nil <| T.seq <| T.region <| SL.mv rfl <| SL.w (op_callJ en159 rfl (vs := [_]) rfl (next_spec18 (q := q + 1) ((h.mono hX1).mono hX2) hb (by omega) hl) (by repeat constructor)) ?_
  rintro _ _ X3 ⟨_, rfl, hX3, rfl, rfl⟩
  obtain ⟨m, hm⟩ : ∃ m, m = nx p (q + 1) := ⟨_, rfl⟩
  have hm2 : m < 256 := by rw [hm]; exact nx_lt hb _
  rw [← hm]
  refine SL.as rfl <| SL.nil <| T.seq <| T.seq <| T.region <| SL.v (op_assign (v := .int .i64 ((1 : Nat) : Int)) rfl) <| SL.nil <| T.block <| T.loopW (fun w env own X' => ∃ (i : Nat) (vn : Value) (G : Own), w = 6 - i ∧ i ≤ 6 ∧ X3.le X' ∧ GrowS 3 1 vn (maskR m i).length (ints (maskR m i)) G ∧ env = [(3, .int .i64 6), (8, .pointer (some ⟨B8, 0, none⟩)), (9, .int .i64 (nx p q : Int)), (12, .pointer (some ⟨B12, 0, none⟩)), (13, .int .i64 (m : Int)), (14, .int .i64 ((1 + i : Nat) : Int))] ∧ own = F6 B12 5 0 vn (.slice none 0 0) :: F6 B8 0 0 (.slice none 0 0) (.slice none 0 0) :: SrcO b A p.length c (q + 1 + 1) :: (G ++ own0)) 6 ⟨0, _, [], by omega, by omega, PMap.le_refl _, GrowS.nil, rfl, rfl⟩ (by repeat (first | exact Sub.nil | refine Sub.cons rfl ?_)) ?_
  rintro w _ _ X4 ⟨i, vn, G, rfl, hi, hX4, hG, rfl, rfl⟩
  obtain ⟨An, cn, rfl⟩ := hG.form
  have hml := maskR_len m i
  rcases Nat.lt_or_ge i 6 with hil | hil
  case inl =>
    have hms := maskR_succ m i
    refine T.seq <| T.seq <| T.region <| SL.mv rfl <| SL.mv rfl <| SL.v (op_leqT rfl rfl (by omega)) ?_
    refine SL.nil <| T.condT rfl <| T.skip <| T.seq <| T.block <| T.seq <| T.region <| SL.mv rfl <| SL.mv rfl <| SL.v (op_subN (p := 1 + i) (q := 1) rfl rfl (by omega) (by omega)) ?_
    rw [Nat.add_sub_cancel_left]
    refine SL.v (op_shrK (p := m) (q := i) rfl rfl (by show i ≤ 64; omega)) ?_
    refine SL.v (op_remN (p := m >>> i) (q := 2) rfl rfl rfl (by omega)) ?_
    by_cases hb1 : (m >>> i) % 2 = 1
    · rw [if_pos hb1] at hms
      refine SL.v (op_eqlT rfl rfl (by omega)) ?_
      refine SL.nil <| T.condT rfl <| T.region <| SL.v (op_fieldAddr fa27_2 rfl) <| SL.v (op_load ty24 rfl (by repeat constructor) rfl) ?_
      refine SL.mv rfl <| SL.w (op_buildSlice Tryz.underlying24 bs3 (qs := [(0, _)]) rfl rfl rfl rfl rfl) ?_
      rintro _ _ _ ⟨B73, rfl, rfl, rfl⟩
      refine SL.perm perm4 ?_
      refine SL.w (op_appendGA (own0 := _ :: _ :: _ :: _ :: own0) (m := 1) sl24 rfl hG rfl (Src.ofOwn0 AtO.here rfl) (by intro y hy; have hy : y ∈ [Value.int _ _] := hy; simp only [List.mem_cons, List.not_mem_nil, or_false] at hy; rcases hy with rfl; rfl) (by omega) (by omega)) ?_
      rintro vn9 _ _ ⟨Gn9, rfl, rfl, hGn9⟩
      obtain ⟨An9, cn9, rfl⟩ := hGn9.form
      refine SL.v (op_fieldAddr fa27_2 rfl) <| SL.w (op_store ty24 rfl rfl (by repeat constructor) rfl rfl rfl) ?_
      rintro _ _ _ ⟨rfl, rfl⟩
      refine SL.nil <| T.blk <| T.region <| SL.mv rfl <| SL.v (op_addN (q := 1) rfl rfl (by omega)) ?_
      refine SL.as rfl <| SL.nil <| T.less (List.sublist_cons_self _ _) ?_
      refine T.perm perm3o.symm ?_
      have hGn10 : GrowS 3 1 (.slice An9 ((maskR m i).length + 1) cn9) (maskR m (i + 1)).length (ints (maskR m (i + 1))) Gn9 := by
        rw [hms, List.length_append, show ints (maskR m i ++ [i + 1]) = ints (maskR m i) ++ ints [i + 1] by simp [ints], Nat.add_comm i 1]
        exact hGn9
      exact T.backW (6 - (i + 1)) (by omega) ⟨i + 1, _, Gn9, rfl, by omega, hX4, hGn10, rfl, rfl⟩ (by repeat (first | exact Sub.nil | refine Sub.cons rfl ?_))
    · rw [if_neg hb1, List.append_nil] at hms
      refine SL.v (op_eqlF rfl rfl (by omega)) ?_
      refine SL.nil <| T.condF rfl <| T.skip <| T.blk <| T.region <| SL.mv rfl <| SL.v (op_addN (q := 1) rfl rfl (by omega)) ?_
      refine SL.as rfl <| SL.nil ?_
      exact T.backW (6 - (i + 1)) (by omega) ⟨i + 1, _, G, rfl, by omega, hX4, (by rw [hms]; exact hG), rfl, rfl⟩ (by repeat (first | exact Sub.nil | refine Sub.cons rfl ?_))
  obtain rfl : i = 6 := by omega
  have hXX := (((hX1.trans' hX2).trans' hX3).trans' hX4)
  by_cases he : maskR m 6 = []
  · have hcr : cntR (nx p q) m = [1 + nx p q / 3 % 6] := if_pos he
    rw [hcr]
    rw [he] at hG ⊢
    refine T.seq <| T.seq <| T.region <| SL.mv rfl <| SL.mv rfl <| SL.v (op_leqF rfl rfl (by omega)) ?_
    refine SL.nil <| T.condF rfl ?_
    refine T.exit (T.exitCode (T.exitCut (T.exitBlk ?_)))
    refine T.seq <| T.seq <| T.region <| SL.v (op_fieldAddr fa27_2 rfl) <| SL.v (op_load ty24 rfl (by repeat constructor) rfl) ?_
    refine SL.v (op_lenS Tryz.underlying24 rfl) <| SL.v (op_eql rfl rfl) <| SL.nil <| T.condT rfl <| T.region <| SL.mv rfl <| SL.v (op_quoN (p := nx p q) (q := 3) rfl rfl rfl (by omega) (by omega)) ?_
    refine SL.mv rfl <| SL.v (op_remN (p := nx p q / 3) (q := 6) rfl rfl rfl (by omega)) ?_
    refine SL.v (op_addN (p := 1) (q := nx p q / 3 % 6) rfl rfl (by omega)) ?_
    refine SL.w (op_buildSlice Tryz.underlying24 bs3 (qs := [(0, _)]) rfl rfl rfl rfl rfl) ?_
    rintro _ _ _ ⟨B85, rfl, rfl, rfl⟩
    refine SL.v (op_fieldAddr fa27_2 rfl) <| SL.w (op_store ty24 rfl rfl (by repeat constructor) rfl rfl rfl) ?_
    rintro _ _ _ ⟨rfl, rfl⟩
    refine SL.nil <| T.seq <| T.region <| SL.v (op_load ty27 rfl (by repeat constructor) rfl) ?_
    refine SL.w (op_store ty27 rfl rfl (by repeat constructor) rfl rfl rfl) ?_
    rintro _ _ _ ⟨rfl, rfl⟩
    refine SL.nil <| T.pub B85 (by repeat constructor) ?_
    intro X5 hX5 hB85 _
    refine T.retM1S [_] _ rfl (ResIs.cell rfl ty27 (by repeat constructor) rfl) (.cons _ (.cons _ (.cons_cons _ (List.sublist_append_right _ _)))) (List.Perm.refl _) ?_
    exact ⟨hXX.trans' hX5, _, rfl, _, rfl, fmLeaf (op := 5) (ints1 hB85), rfl⟩
  · have hcr : cntR (nx p q) m = maskR m 6 := if_neg he
    have hlp := List.length_pos_iff.2 he
    rw [hcr]
    refine T.seq <| T.seq <| T.region <| SL.mv rfl <| SL.mv rfl <| SL.v (op_leqF rfl rfl (by omega)) ?_
    refine SL.nil <| T.condF rfl ?_
    refine T.exit (T.exitCode (T.exitCut (T.exitBlk ?_)))
    refine T.seq <| T.seq <| T.region <| SL.v (op_fieldAddr fa27_2 rfl) <| SL.v (op_load ty24 rfl (by repeat constructor) rfl) ?_
    refine SL.v (op_lenS Tryz.underlying24 rfl) <| SL.v (op_eqlF rfl rfl (by omega)) ?_
    refine SL.nil <| T.condF rfl <| T.skip <| T.seq <| T.region <| SL.v (op_load ty27 rfl (by repeat constructor) rfl) ?_
    refine SL.w (op_store ty27 rfl rfl (by repeat constructor) rfl rfl rfl) ?_
    rintro _ _ _ ⟨rfl, rfl⟩
    refine SL.nil <| T.perm perm3o ?_
    refine T.pubG (own0 := _ :: _ :: _ :: own0) hG ?_
    intro X5 hX5 hS5
    refine T.retM1S [_] _ rfl (ResIs.cell rfl ty27 (by repeat constructor) rfl) (.cons _ (.cons _ (.refl _))) (List.Perm.refl _) ?_
    exact ⟨hXX.trans' hX5, _, rfl, _, rfl, fmLeaf (op := 5) (IntsR.ofG hG hS5), rfl⟩
end Go.Proofs.YtnpcilglilfajaaGreatDoor
namespace Go.Proofs.YtnpcilglilfajaaGreatDoor
section
set_option maxRecDepth 100000
theorem en115 : Enters Tryz.prog 115 := enters_mk Tryz.func115 (by kernel_rfl) rfl
theorem en160 : Enters Tryz.prog 160 := enters_mk Tryz.func160 (by kernel_rfl) rfl
theorem en68 : Enters Tryz.prog 68 := enters_mk Tryz.func68 (by kernel_rfl) rfl
theorem fa46_0 : FAdr Tryz.prog 46 0 0 := fadr_mk Tryz.underlying46 rfl rfl (by kernel_rfl)
theorem fa46_1 : FAdr Tryz.prog 46 1 1 := fadr_mk Tryz.underlying46 rfl rfl (by kernel_rfl)
theorem z203 : Zero Tryz.prog 203 [.slice none 0 0, .int .i64 0] := ⟨zero_of (by kernel_rfl)⟩
theorem st203 : StT Tryz.prog 203 [(0, 1), (1, 1)] [.slice none 0 0, .int .i64 0] := ⟨⟨_, Tryz.underlying203, fun _ => by kernel_rfl, z203⟩⟩
end
open Go.RowKit
theorem fmOne {k : IntKind} {X : PMap} {op : Nat} {n : Int} {b : Nat} {a : Fm} {ra : Row4} (h : Blk X b [ra.1, ra.2.1, ra.2.2.1, ra.2.2.2]) (ha : FmR k X a ra) : FmR k X (.mk op n [] [a]) (.int k (op : Int), .int .i64 n, .slice none 0 0, .slice (some ⟨b, 0, none⟩) 1 1) := .mk (rows := [ra]) IntsR.nil (.inr ⟨Nat.zero_lt_one, b, 1, [], rfl, h, Nat.le_refl _, by (have : maxLen = 9223372036854775807 := rfl); omega⟩) rfl (fun i x r h1 h2 => by
  match i with
  | 0 => simp at h1 h2; subst h1 h2; exact ha
  | i + 1 => simp at h1)
theorem pow_half {d : Nat} (h : 1 ≤ d) : 2 ^ d = 2 * 2 ^ (d - 1) := by
  obtain ⟨e, rfl⟩ : ∃ e, d = e + 1 := ⟨d - 1, by omega⟩
  rw [Nat.add_sub_cancel, Nat.pow_succ, Nat.mul_comm]
theorem cmpS_spec {kind x d : Nat} {X : PMap} {b c q : Nat} {A : Option Addr} {p : List Nat} (h : BytesR X (.slice A p.length c) p) (hb : ∀ x ∈ p, x < 256) (hl : p.length < 1000000) (hd : 1 ≤ d) (hq : q + 3 * 2 ^ d ≤ 1000000) : SpecM Tryz.prog 160 [.pointer (some ⟨b, 0, none⟩), .int .i64 (x : Int), .int .i64 (d : Int), .int .i64 (kind : Int), .int .i64 6] X [SrcO b A p.length c q] fun u L' X' => ∃ x', L' = [x'] ∧ ∃ r : Row4, u = .agg #[r.1, r.2.1, r.2.2.1, r.2.2.2] ∧ FmR .i64 X' (cmpS p kind x d q).1 r ∧ x' = SrcO b A p.length c (cmpS p kind x d q).2 := by
  have hmx : maxLen = 9223372036854775807 := rfl
  have e2 := pow_half hd
  have hp2 : 1 ≤ 2 ^ (d - 1) := Nat.one_le_two_pow
  have hd2 : d < 2 ^ d := Nat.lt_two_pow_self
  have hle := numS_le p kind (d - 1) q
  rw [cmpS]
  refine SpecM.enter Tryz.func160 rfl Tryz.ntmps160 rfl ?_
  intro w0 X0 own0
  refine T.seq <| T.region <| SL.w (op_alloc z27) ?_
  rintro _ _ _ ⟨B10, rfl, rfl, rfl⟩
  refine SL.nil <| T.seq <| T.region <| SL.mv rfl <| SL.mv rfl <| SL.v (op_subN (p := d) (q := 1) rfl rfl (by omega) (by omega)) ?_
  refine SL.mv rfl <| SL.mv rfl <| SL.w (op_callJ en191 rfl (vs := [_, _, _, _]) rfl (numS_spec (d - 1) (q := q) h hb hl (by omega)) (by repeat constructor)) ?_
  rintro _ _ X1 ⟨_, rfl, hX1, r1, rfl, hr1, rfl⟩
  obtain ⟨o1, n1, a1, b1, l1, c1, l2, c2, rfl⟩ := hr1.form
  refine SL.w (op_alloc z27) ?_
  rintro _ _ _ ⟨B11, rfl, rfl, rfl⟩
  refine SL.w (op_store ty27 rfl rfl (by repeat constructor) rfl rfl rfl) ?_
  rintro _ _ _ ⟨rfl, rfl⟩
  refine SL.nil <| T.seq <| T.region <| SL.mv rfl <| SL.mv rfl <| SL.v (op_subN (p := d) (q := 1) rfl rfl (by omega) (by omega)) ?_
  refine SL.mv rfl <| SL.mv rfl <| SL.w (op_callJ en191 rfl (vs := [_, _, _, _]) rfl (numS_spec (d - 1) (q := (numS p kind (d - 1) q).2) (h.mono hX1) hb hl (by omega)) (by repeat constructor)) ?_
  rintro _ _ X2 ⟨_, rfl, hX2, r2, rfl, hr2, rfl⟩
  obtain ⟨o3, n3, a3, b3, l3, c3, l4, c4, rfl⟩ := hr2.form
  refine SL.w (op_alloc z27) ?_
  rintro _ _ _ ⟨B12, rfl, rfl, rfl⟩
  refine SL.w (op_store ty27 rfl rfl (by repeat constructor) rfl rfl rfl) ?_
  rintro _ _ _ ⟨rfl, rfl⟩
  refine SL.nil <| T.seq <| T.region <| SL.mv rfl <| SL.v (op_remN (p := x) (q := 5) rfl rfl rfl (by omega)) ?_
  refine SL.v (op_addN (p := 11) (q := x % 5) rfl rfl (by have : x % 5 < 5 := Nat.mod_lt _ (by omega); omega)) ?_
  refine SL.v (op_load ty27 rfl (by repeat constructor) rfl) ?_
  refine SL.v (op_load ty27 rfl (by repeat constructor) rfl) ?_
  refine SL.w (op_buildSlice Tryz.underlying25 bs27 (qs := [(0, _), (1, _)]) rfl rfl rfl rfl rfl) ?_
  rintro _ _ _ ⟨B30, rfl, rfl, rfl⟩
  refine SL.v (op_build st27 (qs := [(0, _), (3, _)]) rfl rfl) <| SL.w (op_store ty27 rfl rfl (by repeat constructor) rfl rfl rfl) ?_
  rintro _ _ _ ⟨rfl, rfl⟩
  refine SL.nil <| T.pub B30 (by repeat constructor) ?_
  intro X3 hX3 hB30 _
  refine T.retM1S [_] _ rfl (ResIs.cell rfl ty27 (by repeat constructor) rfl) (.cons _ (.cons _ (.cons _ (.refl _)))) (List.Perm.refl _) ?_
  exact ⟨(hX1.trans' hX2).trans' hX3, _, rfl, _, rfl, fmTwo (op := 11 + x % 5) (row2 hB30) ((hr1.mono hX2).mono hX3) (hr2.mono hX3), rfl⟩
theorem truS_leaf {p : List Nat} {kind d q : Nat} (h : d ≤ 1 ∨ nx p q % 8 ≤ 1) : truS p kind d q = truLeaf p kind (nx p q) d (q + 1) := by
  cases d with
  | zero => rfl
  | succ d => rw [truS, if_pos (by omega)]
theorem truS_cmp {p : List Nat} {kind d q : Nat} (h : ¬(d ≤ 1 ∨ nx p q % 8 ≤ 1)) (h6 : 6 ≤ nx p q % 8) : truS p kind d q = cmpS p kind (nx p q / 8) d (q + 1) := by
  obtain ⟨e, rfl⟩ : ∃ e, d = e + 1 := ⟨d - 1, by omega⟩
  rw [truS, if_neg (by omega), if_pos h6]
theorem truS_not {p : List Nat} {kind d q : Nat} (h : ¬(d ≤ 1 ∨ nx p q % 8 ≤ 1)) (h6 : nx p q % 8 = 2) : truS p kind d q = (.mk 7 0 [] [(truS p kind (d - 1) (q + 1)).1], (truS p kind (d - 1) (q + 1)).2) := by
  obtain ⟨e, rfl⟩ : ∃ e, d = e + 1 := ⟨d - 1, by omega⟩
  rw [truS, if_neg (by omega), if_neg (by omega), if_pos h6, Nat.add_sub_cancel]
theorem truS_bin {p : List Nat} {kind d q : Nat} (h : ¬(d ≤ 1 ∨ nx p q % 8 ≤ 1)) (h6 : ¬6 ≤ nx p q % 8) (h2 : nx p q % 8 ≠ 2) : truS p kind d q = (.mk (8 + nx p q % 8 - 3) 0 [] [(truS p kind (d - 1) (q + 1)).1, (truS p kind (d - 1) (truS p kind (d - 1) (q + 1)).2).1], (truS p kind (d - 1) (truS p kind (d - 1) (q + 1)).2).2) := by
  obtain ⟨e, rfl⟩ : ∃ e, d = e + 1 := ⟨d - 1, by omega⟩
  rw [truS, if_neg (by omega), if_neg h6, if_neg h2, Nat.add_sub_cancel]
theorem truS_spec {kind : Nat} (d : Nat) : ∀ {X : PMap} {b c q : Nat} {A : Option Addr} {p : List Nat}, BytesR X (.slice A p.length c) p → (∀ x ∈ p, x < 256) → p.length < 1000000 → q + 3 * 2 ^ d < 1000000 → SpecM Tryz.prog 115 [.pointer (some ⟨b, 0, none⟩), .int .i64 (d : Int), .int .i64 (kind : Int), .int .i64 6] X [SrcO b A p.length c q] fun u L' X' => ∃ x', L' = [x'] ∧ ∃ r : Row4, u = .agg #[r.1, r.2.1, r.2.2.1, r.2.2.2] ∧ FmR .i64 X' (truS p kind d q).1 r ∧ x' = SrcO b A p.length c (truS p kind d q).2 := by
  induction d using Nat.strongRecOn with
  | _ d ih =>
  intro X b c q A p h hb hl hq
  have hmx : maxLen = 9223372036854775807 := rfl
  have hp2 : 1 ≤ 2 ^ d := Nat.one_le_two_pow
  have hx := nx_lt hb q
  have hd2 : d < 2 ^ d := Nat.lt_two_pow_self
  by_cases hlf : d ≤ 1 ∨ nx p q % 8 ≤ 1
  · rw [truS_leaf hlf, truLeaf]
    refine SpecM.enter Tryz.func115 rfl Tryz.ntmps115 rfl ?_
    intro w0 X0 own0
    refine T.seq <| T.region <| SL.w (op_alloc z27) ?_
    rintro _ _ _ ⟨B8, rfl, rfl, rfl⟩
    refine SL.nil <| T.seq <| T.region <| SL.mv rfl <| SL.w (op_callJ en159 rfl (vs := [_]) rfl (next_spec18 (q := q) h hb (by omega) hl) (by repeat constructor)) ?_
    rintro _ _ X1 ⟨_, rfl, hX1, rfl, rfl⟩
    by_cases hd1 : d ≤ 1
    · skip
      refine SL.as rfl <| SL.nil <| T.seq <| T.seq <| T.region <| SL.mv rfl <| SL.v (op_leqT rfl rfl (by omega)) ?_
      refine SL.mv rfl <| SL.skip rfl rfl ?_
      refine SL.skip rfl rfl ?_
      by_cases hk : kind = 3
      · rw [if_neg (by omega), if_pos (.inl hk)]
        refine SL.skip rfl rfl ?_
        refine SL.v (op_pickT rfl rfl) <| SL.nil <| T.condT rfl <| T.seq <| T.block <| T.seq <| T.region <| SL.mv rfl <| SL.v (op_eqlT rfl rfl (by omega)) ?_
        refine SL.mv rfl <| SL.mv rfl <| SL.v (op_gtrF rfl rfl (by omega)) ?_
        refine SL.v (op_pickT rfl rfl) <| SL.as rfl <| SL.nil <| T.condF rfl <| T.seq <| T.region <| SL.mv rfl <| SL.v (op_eqlT rfl rfl (by omega)) ?_
        refine SL.mv rfl <| SL.skip rfl rfl ?_
        refine SL.skip rfl rfl ?_
        refine SL.skip rfl rfl ?_
        refine SL.v (op_pickT rfl rfl) <| SL.as rfl <| SL.nil <| T.condT rfl <| T.seq <| T.region <| SL.mv rfl <| SL.v (op_quoN (p := nx p q) (q := 16) rfl rfl rfl (by omega) (by omega)) ?_
        refine SL.v (op_remN (p := nx p q / 16) (q := 2) rfl rfl rfl (by omega)) ?_
        refine SL.v (op_addN (p := 2) (q := nx p q / 16 % 2) rfl rfl (by omega)) ?_
        refine SL.v (op_build st27 (qs := [(0, _)]) rfl rfl) <| SL.w (op_store ty27 rfl rfl (by repeat constructor) rfl rfl rfl) ?_
        rintro _ _ _ ⟨rfl, rfl⟩
        refine SL.nil <| T.retM1S [_] _ rfl (ResIs.cell rfl ty27 (by repeat constructor) rfl) (.cons _ (.refl _)) (List.Perm.refl _) ?_
        exact ⟨hX1, _, rfl, _, rfl, fmLeaf (op := 2 + nx p q / 16 % 2) IntsR.nil, rfl⟩
      by_cases h16 : nx p q % 16 = 9
      · rw [if_neg (fun h => hk h.1), if_pos (.inr h16)]
        refine SL.skip rfl rfl ?_
        refine SL.v (op_pickT rfl rfl) <| SL.nil <| T.condT rfl <| T.seq <| T.block <| T.seq <| T.region <| SL.mv rfl <| SL.v (op_eqlF rfl rfl (by omega)) ?_
        refine SL.mv rfl <| SL.skip rfl rfl ?_
        refine SL.skip rfl rfl ?_
        refine SL.v (op_pickF rfl rfl) <| SL.as rfl <| SL.nil <| T.condF rfl <| T.seq <| T.region <| SL.mv rfl <| SL.v (op_eqlF rfl rfl (by omega)) ?_
        refine SL.mv rfl <| SL.mv rfl <| SL.v (op_remN (p := nx p q) (q := 16) rfl rfl rfl (by omega)) ?_
        refine SL.v (op_eqlT rfl rfl (by omega)) ?_
        refine SL.v (op_pickF rfl rfl) <| SL.as rfl <| SL.nil <| T.condT rfl <| T.seq <| T.region <| SL.mv rfl <| SL.v (op_quoN (p := nx p q) (q := 16) rfl rfl rfl (by omega) (by omega)) ?_
        refine SL.v (op_remN (p := nx p q / 16) (q := 2) rfl rfl rfl (by omega)) ?_
        refine SL.v (op_addN (p := 2) (q := nx p q / 16 % 2) rfl rfl (by omega)) ?_
        refine SL.v (op_build st27 (qs := [(0, _)]) rfl rfl) <| SL.w (op_store ty27 rfl rfl (by repeat constructor) rfl rfl rfl) ?_
        rintro _ _ _ ⟨rfl, rfl⟩
        refine SL.nil <| T.retM1S [_] _ rfl (ResIs.cell rfl ty27 (by repeat constructor) rfl) (.cons _ (.refl _)) (List.Perm.refl _) ?_
        exact ⟨hX1, _, rfl, _, rfl, fmLeaf (op := 2 + nx p q / 16 % 2) IntsR.nil, rfl⟩
      · rw [if_neg (fun h => hk h.1), if_neg (fun h => h.elim hk h16)]
        refine SL.skip rfl rfl ?_
        refine SL.v (op_pickT rfl rfl) <| SL.nil <| T.condT rfl <| T.seq <| T.block <| T.seq <| T.region <| SL.mv rfl <| SL.v (op_eqlF rfl rfl (by omega)) ?_
        refine SL.mv rfl <| SL.skip rfl rfl ?_
        refine SL.skip rfl rfl ?_
        refine SL.v (op_pickF rfl rfl) <| SL.as rfl <| SL.nil <| T.condF rfl <| T.seq <| T.region <| SL.mv rfl <| SL.v (op_eqlF rfl rfl (by omega)) ?_
        refine SL.mv rfl <| SL.mv rfl <| SL.v (op_remN (p := nx p q) (q := 16) rfl rfl rfl (by omega)) ?_
        refine SL.v (op_eqlF rfl rfl (by omega)) ?_
        refine SL.v (op_pickF rfl rfl) <| SL.as rfl <| SL.nil <| T.condF rfl <| T.skip <| T.blk <| T.seq <| T.region <| SL.mv rfl <| SL.v (op_quoN (p := nx p q) (q := 8) rfl rfl rfl (by omega) (by omega)) ?_
        refine SL.mv rfl <| SL.v (op_remN (p := nx p q / 8) (q := 6) rfl rfl rfl (by omega)) ?_
        refine SL.v (op_addN (p := 1) (q := nx p q / 8 % 6) rfl rfl (by omega)) ?_
        refine SL.w (op_buildSlice Tryz.underlying24 bs3 (qs := [(0, _)]) rfl rfl rfl rfl rfl) ?_
        rintro _ _ _ ⟨B53, rfl, rfl, rfl⟩
        refine SL.v (op_build st27 (qs := [(0, _), (2, _)]) rfl rfl) <| SL.w (op_store ty27 rfl rfl (by repeat constructor) rfl rfl rfl) ?_
        rintro _ _ _ ⟨rfl, rfl⟩
        refine SL.nil <| T.pub B53 (by repeat constructor) ?_
        intro X2 hX2 hB53 _
        refine T.retM1S [_] _ rfl (ResIs.cell rfl ty27 (by repeat constructor) rfl) (.cons _ (.refl _)) (List.Perm.refl _) ?_
        exact ⟨hX1.trans' hX2, _, rfl, _, rfl, fmLeaf (op := 4) (ints1 hB53), rfl⟩
    · refine SL.as rfl <| SL.nil <| T.seq <| T.seq <| T.region <| SL.mv rfl <| SL.v (op_leqF rfl rfl (by omega)) ?_
      refine SL.mv rfl <| SL.mv rfl <| SL.v (op_remN (p := nx p q) (q := 8) rfl rfl rfl (by omega)) ?_
      by_cases hk : kind = 3
      · rw [if_pos ⟨hk, by omega⟩]
        refine SL.v (op_leqT rfl rfl (by omega)) ?_
        refine SL.v (op_pickF rfl rfl) <| SL.nil <| T.condT rfl <| T.seq <| T.block <| T.seq <| T.region <| SL.mv rfl <| SL.v (op_eqlT rfl rfl (by omega)) ?_
        refine SL.mv rfl <| SL.mv rfl <| SL.v (op_gtrT rfl rfl (by omega)) ?_
        refine SL.v (op_pickT rfl rfl) <| SL.as rfl <| SL.nil <| T.condT rfl <| T.seq <| T.region <| SL.mv rfl <| SL.mv rfl <| SL.v (op_quoN (p := nx p q) (q := 8) rfl rfl rfl (by omega) (by omega)) ?_
        refine SL.mv rfl <| SL.mv rfl <| SL.mv rfl <| SL.w (op_callJ en160 rfl (vs := [_, _, _, _, _]) rfl (cmpS_spec (q := q + 1) (h.mono hX1) hb hl (by omega) (by omega)) (by repeat constructor)) ?_
        rintro _ _ X2 ⟨_, rfl, hX2, r2, rfl, hr2, rfl⟩
        obtain ⟨o3, n3, a3, b3, l3, c3, l4, c4, rfl⟩ := hr2.form
        refine SL.w (op_store ty27 rfl rfl (by repeat constructor) rfl rfl rfl) ?_
        rintro _ _ _ ⟨rfl, rfl⟩
        refine SL.nil <| T.retM1S [_] _ rfl (ResIs.cell rfl ty27 (by repeat constructor) rfl) (.cons _ (.refl _)) (List.Perm.refl _) ?_
        exact ⟨hX1.trans' hX2, _, rfl, _, rfl, hr2, rfl⟩
      by_cases h16 : nx p q % 16 = 9
      · rw [if_neg (fun h => hk h.1), if_pos (.inr h16)]
        refine SL.v (op_leqT rfl rfl (by omega)) ?_
        refine SL.v (op_pickF rfl rfl) <| SL.nil <| T.condT rfl <| T.seq <| T.block <| T.seq <| T.region <| SL.mv rfl <| SL.v (op_eqlF rfl rfl (by omega)) ?_
        refine SL.mv rfl <| SL.skip rfl rfl ?_
        refine SL.skip rfl rfl ?_
        refine SL.v (op_pickF rfl rfl) <| SL.as rfl <| SL.nil <| T.condF rfl <| T.seq <| T.region <| SL.mv rfl <| SL.v (op_eqlF rfl rfl (by omega)) ?_
        refine SL.mv rfl <| SL.mv rfl <| SL.v (op_remN (p := nx p q) (q := 16) rfl rfl rfl (by omega)) ?_
        refine SL.v (op_eqlT rfl rfl (by omega)) ?_
        refine SL.v (op_pickF rfl rfl) <| SL.as rfl <| SL.nil <| T.condT rfl <| T.seq <| T.region <| SL.mv rfl <| SL.v (op_quoN (p := nx p q) (q := 16) rfl rfl rfl (by omega) (by omega)) ?_
        refine SL.v (op_remN (p := nx p q / 16) (q := 2) rfl rfl rfl (by omega)) ?_
        refine SL.v (op_addN (p := 2) (q := nx p q / 16 % 2) rfl rfl (by omega)) ?_
        refine SL.v (op_build st27 (qs := [(0, _)]) rfl rfl) <| SL.w (op_store ty27 rfl rfl (by repeat constructor) rfl rfl rfl) ?_
        rintro _ _ _ ⟨rfl, rfl⟩
        refine SL.nil <| T.retM1S [_] _ rfl (ResIs.cell rfl ty27 (by repeat constructor) rfl) (.cons _ (.refl _)) (List.Perm.refl _) ?_
        exact ⟨hX1, _, rfl, _, rfl, fmLeaf (op := 2 + nx p q / 16 % 2) IntsR.nil, rfl⟩
      · rw [if_neg (fun h => hk h.1), if_neg (fun h => h.elim hk h16)]
        refine SL.v (op_leqT rfl rfl (by omega)) ?_
        refine SL.v (op_pickF rfl rfl) <| SL.nil <| T.condT rfl <| T.seq <| T.block <| T.seq <| T.region <| SL.mv rfl <| SL.v (op_eqlF rfl rfl (by omega)) ?_
        refine SL.mv rfl <| SL.skip rfl rfl ?_
        refine SL.skip rfl rfl ?_
        refine SL.v (op_pickF rfl rfl) <| SL.as rfl <| SL.nil <| T.condF rfl <| T.seq <| T.region <| SL.mv rfl <| SL.v (op_eqlF rfl rfl (by omega)) ?_
        refine SL.mv rfl <| SL.mv rfl <| SL.v (op_remN (p := nx p q) (q := 16) rfl rfl rfl (by omega)) ?_
        refine SL.v (op_eqlF rfl rfl (by omega)) ?_
        refine SL.v (op_pickF rfl rfl) <| SL.as rfl <| SL.nil <| T.condF rfl <| T.skip <| T.blk <| T.seq <| T.region <| SL.mv rfl <| SL.v (op_quoN (p := nx p q) (q := 8) rfl rfl rfl (by omega) (by omega)) ?_
        refine SL.mv rfl <| SL.v (op_remN (p := nx p q / 8) (q := 6) rfl rfl rfl (by omega)) ?_
        refine SL.v (op_addN (p := 1) (q := nx p q / 8 % 6) rfl rfl (by omega)) ?_
        refine SL.w (op_buildSlice Tryz.underlying24 bs3 (qs := [(0, _)]) rfl rfl rfl rfl rfl) ?_
        rintro _ _ _ ⟨B53, rfl, rfl, rfl⟩
        refine SL.v (op_build st27 (qs := [(0, _), (2, _)]) rfl rfl) <| SL.w (op_store ty27 rfl rfl (by repeat constructor) rfl rfl rfl) ?_
        rintro _ _ _ ⟨rfl, rfl⟩
        refine SL.nil <| T.pub B53 (by repeat constructor) ?_
        intro X2 hX2 hB53 _
        refine T.retM1S [_] _ rfl (ResIs.cell rfl ty27 (by repeat constructor) rfl) (.cons _ (.refl _)) (List.Perm.refl _) ?_
        exact ⟨hX1.trans' hX2, _, rfl, _, rfl, fmLeaf (op := 4) (ints1 hB53), rfl⟩
  · have hd1 : ¬d ≤ 1 := fun h => hlf (.inl h)
    have e2 := pow_half (show 1 ≤ d by omega)
    have hle := truS_le p kind (d - 1) (q + 1)
    have h8 : nx p q % 8 < 8 := Nat.mod_lt _ (by omega)
    refine SpecM.enter Tryz.func115 rfl Tryz.ntmps115 rfl ?_
    intro w0 X0 own0
    refine T.seq <| T.region <| SL.w (op_alloc z27) ?_
    rintro _ _ _ ⟨B8, rfl, rfl, rfl⟩
    refine SL.nil <| T.seq <| T.region <| SL.mv rfl <| SL.w (op_callJ en159 rfl (vs := [_]) rfl (next_spec18 (q := q) h hb (by omega) hl) (by repeat constructor)) ?_
    rintro _ _ X1 ⟨_, rfl, hX1, rfl, rfl⟩
    refine SL.as rfl <| SL.nil <| T.seq <| T.seq <| T.region <| SL.mv rfl <| SL.v (op_leqF rfl rfl (by omega)) ?_
    refine SL.mv rfl <| SL.mv rfl <| SL.v (op_remN (p := nx p q) (q := 8) rfl rfl rfl (by omega)) ?_
    refine SL.v (op_leqF rfl rfl (by omega)) ?_
    refine SL.v (op_pickF rfl rfl) <| SL.nil <| T.condF rfl <| T.skip <| T.seq <| T.seq <| T.region <| SL.mv rfl <| SL.v (op_remN (p := nx p q) (q := 8) rfl rfl rfl (by omega)) ?_
    by_cases h6 : 6 ≤ nx p q % 8
    · rw [truS_cmp hlf h6]
      refine SL.v (op_geqT rfl rfl (by omega)) ?_
      refine SL.nil <| T.condT rfl <| T.seq <| T.region <| SL.mv rfl <| SL.mv rfl <| SL.v (op_quoN (p := nx p q) (q := 8) rfl rfl rfl (by omega) (by omega)) ?_
      refine SL.mv rfl <| SL.mv rfl <| SL.mv rfl <| SL.w (op_callJ en160 rfl (vs := [_, _, _, _, _]) rfl (cmpS_spec (q := q + 1) (h.mono hX1) hb hl (by omega) (by omega)) (by repeat constructor)) ?_
      rintro _ _ X2 ⟨_, rfl, hX2, r2, rfl, hr2, rfl⟩
      obtain ⟨o3, n3, a3, b3, l3, c3, l4, c4, rfl⟩ := hr2.form
      refine SL.w (op_store ty27 rfl rfl (by repeat constructor) rfl rfl rfl) ?_
      rintro _ _ _ ⟨rfl, rfl⟩
      refine SL.nil <| T.retM1S [_] _ rfl (ResIs.cell rfl ty27 (by repeat constructor) rfl) (.cons _ (.refl _)) (List.Perm.refl _) ?_
      exact ⟨hX1.trans' hX2, _, rfl, _, rfl, hr2, rfl⟩
    refine SL.v (op_geqF rfl rfl (by omega)) ?_
    refine SL.nil <| T.condF rfl <| T.skip <| T.seq <| T.region <| SL.mv rfl <| SL.mv rfl <| SL.v (op_subN (p := d) (q := 1) rfl rfl (by omega) (by omega)) ?_
    refine SL.mv rfl <| SL.mv rfl <| SL.w (op_callJ en115 rfl (vs := [_, _, _, _]) rfl (ih (d - 1) (by omega) (q := q + 1) (h.mono hX1) hb hl (by omega)) (by repeat constructor)) ?_
    rintro _ _ X2 ⟨_, rfl, hX2, r1, rfl, hr1, rfl⟩
    obtain ⟨o1, n1, a1, b1, l1, c1, l2, c2, rfl⟩ := hr1.form
    refine SL.w (op_alloc z27) ?_
    rintro _ _ _ ⟨B10, rfl, rfl, rfl⟩
    refine SL.w (op_store ty27 rfl rfl (by repeat constructor) rfl rfl rfl) ?_
    rintro _ _ _ ⟨rfl, rfl⟩
    refine SL.nil <| T.seq <| T.seq <| T.region <| SL.mv rfl <| SL.v (op_remN (p := nx p q) (q := 8) rfl rfl rfl (by omega)) ?_
    by_cases h2 : nx p q % 8 = 2
    · rw [truS_not hlf h2]
      refine SL.v (op_eqlT rfl rfl (by omega)) ?_
      refine SL.nil <| T.condT rfl <| T.seq <| T.region <| SL.v (op_load ty27 rfl (by repeat constructor) rfl) ?_
      refine SL.w (op_buildSlice Tryz.underlying25 bs27 (qs := [(0, _)]) rfl rfl rfl rfl rfl) ?_
      rintro _ _ _ ⟨B75, rfl, rfl, rfl⟩
      refine SL.v (op_build st27 (qs := [(0, _), (3, _)]) rfl rfl) <| SL.w (op_store ty27 rfl rfl (by repeat constructor) rfl rfl rfl) ?_
      rintro _ _ _ ⟨rfl, rfl⟩
      refine SL.nil <| T.pub B75 (by repeat constructor) ?_
      intro X3 hX3 hB75 _
      refine T.retM1S [_] _ rfl (ResIs.cell rfl ty27 (by repeat constructor) rfl) (.cons _ (.cons _ (.refl _))) (List.Perm.refl _) ?_
      exact ⟨(hX1.trans' hX2).trans' hX3, _, rfl, _, rfl, fmOne (op := 7) hB75 (hr1.mono hX3), rfl⟩
    rw [truS_bin hlf h6 h2]
    refine SL.v (op_eqlF rfl rfl (by omega)) ?_
    refine SL.nil <| T.condF rfl <| T.skip <| T.seq <| T.region <| SL.mv rfl <| SL.mv rfl <| SL.v (op_subN (p := d) (q := 1) rfl rfl (by omega) (by omega)) ?_
    refine SL.mv rfl <| SL.mv rfl <| SL.w (op_callJ en115 rfl (vs := [_, _, _, _]) rfl (ih (d - 1) (by omega) (q := (truS p kind (d - 1) (q + 1)).2) ((h.mono hX1).mono hX2) hb hl (by omega)) (by repeat constructor)) ?_
    rintro _ _ X3 ⟨_, rfl, hX3, r2, rfl, hr2, rfl⟩
    obtain ⟨o3, n3, a3, b3, l3, c3, l4, c4, rfl⟩ := hr2.form
    refine SL.w (op_alloc z27) ?_
    rintro _ _ _ ⟨B11, rfl, rfl, rfl⟩
    refine SL.w (op_store ty27 rfl rfl (by repeat constructor) rfl rfl rfl) ?_
    rintro _ _ _ ⟨rfl, rfl⟩
    refine SL.nil <| T.seq <| T.region <| SL.mv rfl <| SL.v (op_remN (p := nx p q) (q := 8) rfl rfl rfl (by omega)) ?_
    refine SL.v (op_addN (p := 8) (q := nx p q % 8) rfl rfl (by omega)) ?_
    refine SL.v (op_subN (p := 8 + nx p q % 8) (q := 3) rfl rfl (by omega) (by omega)) ?_
    refine SL.v (op_load ty27 rfl (by repeat constructor) rfl) ?_
    refine SL.v (op_load ty27 rfl (by repeat constructor) rfl) ?_
    refine SL.w (op_buildSlice Tryz.underlying25 bs27 (qs := [(0, _), (1, _)]) rfl rfl rfl rfl rfl) ?_
    rintro _ _ _ ⟨B89, rfl, rfl, rfl⟩
    refine SL.v (op_build st27 (qs := [(0, _), (3, _)]) rfl rfl) <| SL.w (op_store ty27 rfl rfl (by repeat constructor) rfl rfl rfl) ?_
    rintro _ _ _ ⟨rfl, rfl⟩
    refine SL.nil <| T.pub B89 (by repeat constructor) ?_
    intro X4 hX4 hB89 _
    refine T.retM1S [_] _ rfl (ResIs.cell rfl ty27 (by repeat constructor) rfl) (.cons _ (.cons _ (.cons _ (.refl _)))) (List.Perm.refl _) ?_
    exact ⟨((hX1.trans' hX2).trans' hX3).trans' hX4, _, rfl, _, rfl, fmTwo (op := 8 + nx p q % 8 - 3) (row2 hB89) ((hr1.mono hX3).mono hX4) (hr2.mono hX4), rfl⟩
theorem mkS_spec {kind : Nat} {X : PMap} {v : Value} {p : List Nat} (h : BytesR X v p) (hb : ∀ x ∈ p, x < 256) (hl : p.length < 1000000) : Spec Tryz.prog 68 [v, .int .i64 (kind : Int), .int .i64 6] X fun u X' => ∃ r : Row4, u = .agg #[r.1, r.2.1, r.2.2.1, r.2.2.2] ∧ FmR .i64 X' (mkS p kind) r := by
  obtain ⟨A, c, rfl⟩ := h.form
  refine Spec.enter Tryz.func68 rfl Tryz.ntmps68 rfl ?_
  intro w0 hw0
  refine T.seq <| T.region <| SL.w (op_alloc z27) ?_
  rintro _ _ _ ⟨B6, rfl, rfl, rfl⟩
  refine SL.nil <| T.seq <| T.region <| SL.mv rfl <| SL.v (op_build st203 (qs := [(0, _)]) rfl rfl) <| SL.w (op_box rfl) ?_
  rintro _ _ _ ⟨B10, rfl, rfl, rfl⟩
  refine SL.as rfl <| SL.nil <| T.seq <| T.region <| SL.mv rfl <| SL.mv rfl <| SL.mv rfl <| SL.w (op_callJ en115 rfl (vs := [_, _, _, _]) rfl (truS_spec (kind := kind) 4 (q := 0) h hb hl (by decide)) (by repeat constructor)) ?_
  rintro _ _ X1 ⟨_, rfl, hX1, r, rfl, hr, rfl⟩
  obtain ⟨o3, n3, a3, b3, l3, c3, l4, c4, rfl⟩ := hr.form
  refine SL.w (op_store ty27 rfl rfl (by repeat constructor) rfl rfl rfl) ?_
  rintro _ _ _ ⟨rfl, rfl⟩
  refine SL.nil <| T.ret1 rfl (ResIs.cell rfl ty27 (by repeat constructor) rfl) ?_
  exact ⟨_, rfl, hr⟩
/-- The kind that a Raw stands for, and its formula. -/
def kdR (k : Nat) : Nat := 1 + k % 3
def fitR (bs : List Nat) (k : Nat) : Fm := mkS (bs.take 40) (kdR k)
theorem fit_spec {X : PMap} {w : Value} {bs : List Nat} {k : Nat} (h : CutR X w bs) : Spec Tryz.prog 20 [.agg #[w, .int .u8 (k : Int)]] X fun u X' => ∃ r : Row4, u = .tuple #[.agg #[r.1, r.2.1, r.2.2.1, r.2.2.2], .int .i64 (kdR k : Int)] ∧ FmR .i64 X' (fitR bs k) r := by
  obtain ⟨h1, ⟨A, cp, rfl, hcp⟩, hb⟩ := h
  have h40 : (bs.take 40).length = min bs.length 40 := by rw [List.length_take, Nat.min_comm]
  have ht := h1.take hcp (k := min bs.length 40) (by omega)
  have hk : k % 3 < 3 := Nat.mod_lt _ (by omega)
  have et : bs.take (min bs.length 40) = bs.take 40 := by
    rcases Nat.le_total bs.length 40 with h | h
    · rw [Nat.min_eq_left h, List.take_length, List.take_of_length_le h]
    · rw [Nat.min_eq_right h]
  rw [et] at ht
  refine Spec.enter Tryz.func20 rfl Tryz.ntmps20 rfl ?_
  intro w0 hw0
  refine T.seq <| T.region <| SL.w (op_box rfl) ?_
  rintro _ _ _ ⟨B1, rfl, rfl, rfl⟩
  refine SL.w (op_alloc z27) ?_
  rintro _ _ _ ⟨B2, rfl, rfl, rfl⟩
  refine SL.v (op_assign (v := .int .i64 ((0 : Nat) : Int)) rfl) <| SL.nil <| T.seq <| T.region <| SL.v (op_fieldAddr fa46_1 rfl) <| SL.v (op_load ty5 rfl (by repeat constructor) rfl) ?_
  refine SL.v (op_remN (p := k) (q := 3) rfl rfl rfl (by omega)) ?_
  refine SL.v (op_convI64 Tryz.underlying5 Tryz.underlying3 rfl (by omega) (by omega)) ?_
  refine SL.v (op_addN (p := 1) (q := k % 3) rfl rfl (by omega)) ?_
  refine SL.as rfl <| SL.nil <| T.seq <| T.region <| SL.v (op_fieldAddr fa46_0 rfl) <| SL.v (op_load ty44 rfl (by repeat constructor) rfl) ?_
  refine SL.v (op_fieldAddr fa46_0 rfl) <| SL.v (op_load ty44 rfl (by repeat constructor) rfl) ?_
  refine SL.v (op_lenS Tryz.underlying44 rfl) <| SL.v (op_minN (p := bs.length) (q := 40) rfl rfl) <| SL.v (op_sliceHi (l := min bs.length 40) Tryz.underlying44 ty5 rfl rfl (by omega)) ?_
  refine SL.mv rfl <| SL.w (op_callF en68 (vs := [_, _, _]) rfl (mkS_spec (kind := kdR k) ht (fun x hx => hb x (List.mem_of_mem_take hx)) (by omega))) ?_
  rintro _ _ X1 ⟨rfl, hX1, r, rfl, hr⟩
  obtain ⟨o3, n3, a3, b3, l3, c3, l4, c4, rfl⟩ := hr.form
  refine SL.mv rfl <| SL.w (op_store ty27 rfl rfl (by repeat constructor) rfl rfl rfl) ?_
  rintro _ _ _ ⟨rfl, rfl⟩
  refine SL.as rfl <| SL.nil <| T.ret2 rfl (ResIs.cell rfl ty27 (by repeat constructor) rfl) (ResIs.tmp rfl) ?_
  exact ⟨_, rfl, hr⟩
end Go.Proofs.YtnpcilglilfajaaGreatDoor
namespace Go.Proofs.YtnpcilglilfajaaGreatDoor
open Go.RowKit
end Go.Proofs.YtnpcilglilfajaaGreatDoor
namespace Go.Proofs.YtnpcilglilfajaaGreatDoor
section
set_option maxRecDepth 100000
theorem en20 : Enters Tryz.prog 20 := enters_mk Tryz.func20 (by kernel_rfl) rfl
theorem ty46 : Ty Tryz.prog 46 true 2 := ⟨⟨_, Tryz.underlying46, rfl⟩, by kernel_rfl⟩
end
open Go.RowKit
theorem fitR_wt {bs : List Nat} {k : Nat} : wtF (fitR bs k) ≤ 961 := by
  have h := mkS_ok (kind := kdR k) (by unfold kdR; omega) (bs.take 40)
  have h1 := h.wt
  have h2 := h.siz
  rw [fitR]
  omega
mutual
theorem nok_ops : ∀ f : Fm, nokF f → opsF f
  | .mk op n rs al, h => by
    rw [nokF] at h
    exact ⟨h.1, nokL_ops al h.2.2.2.2⟩
theorem nokL_ops : ∀ l : List Fm, nokFL l → opsFL l
  | [], _ => trivial
  | a :: l, h => ⟨nok_ops a h.1, nokL_ops l h.2⟩
end
theorem fitR_nok (bs : List Nat) (k : Nat) : nokF (fitR bs k) := insF_nok _ (mkS_ok (kind := kdR k) (by unfold kdR; omega) (bs.take 40)).ins
theorem fitR_ops (bs : List Nat) (k : Nat) : opsF (fitR bs k) := nok_ops _ (fitR_nok bs k)
theorem fitR_chk (bs : List Nat) (k : Nat) : chkF (kdR k) (fitR bs k) = 0 := mkS_chk (by unfold kdR; omega) _
end Go.Proofs.YtnpcilglilfajaaGreatDoor
namespace Go.Proofs.YtnpcilglilfajaaGreatDoor
open Go.RowKit
def nm6 (r : Nat) : ByteArray := (nameAt (rnames 6) r).getD ⟨#[]⟩
theorem nm6_all : ((List.range 6).all fun i => decide (nameAt (rnames 6) (i + 1) = some (nm6 (i + 1))) && decide (posN (nm6 (i + 1)) (rnames 6) = i + 1) && validB (nm6 (i + 1))) = true := by kernel_rfl
theorem nm6_ok {r : Nat} (h1 : 1 ≤ r) (h2 : r ≤ 6) : nameAt (rnames 6) r = some (nm6 r) ∧ posN (nm6 r) (rnames 6) = r ∧ validS (nm6 r) := by
  have h := List.all_eq_true.1 nm6_all (r - 1) (List.mem_range.2 (by omega))
  rw [Nat.sub_add_cancel h1] at h
  simp only [Bool.and_eq_true, decide_eq_true_eq] at h
  exact ⟨h.1.1, h.1.2, validB_iff.1 h.2⟩
theorem nmN6 : ∀ {rs : List Nat}, (∀ r ∈ rs, 1 ≤ r ∧ r ≤ 6) → nmN (rnames 6) rs = some (rs.map nm6)
  | [], _ => rfl
  | r :: rs, h => by
    obtain ⟨a, b⟩ := h r (by simp)
    rw [nmN, (nm6_ok a b).1, nmN6 fun q hq => h q (by simp [hq])]
    rfl
theorem numbN6 {adm : Nat} : ∀ {rs : List Nat}, (∀ r ∈ rs, 1 ≤ r ∧ r ≤ 6) → numbN (rnames 6) adm (rs.map nm6) = if ∃ r ∈ rs, adm.testBit r = true then none else some rs
  | [], _ => by simp [numbN]
  | r :: rs, h => by
    obtain ⟨a, b⟩ := h r (by simp)
    obtain ⟨_, hp, _⟩ := nm6_ok a b
    rw [List.map_cons, numbN, numbN6 fun q hq => h q (by simp [hq])]
    by_cases hb : adm.testBit r = true
    · rw [if_pos (show badN _ _ _ from .inr (by rw [hp]; exact hb)), if_pos ⟨r, by simp, hb⟩]
    · rw [if_neg (show ¬badN _ _ _ from fun h => h.elim (fun h => by omega) (fun h => hb (by rw [hp] at h; exact h))), hp]
      by_cases hq : ∃ q ∈ rs, adm.testBit q = true
      · obtain ⟨q, h1, h2⟩ := hq
        rw [if_pos ⟨q, h1, h2⟩, if_pos ⟨q, by simp [h1], h2⟩]; rfl
      · rw [if_neg hq, if_neg]
        · rfl
        · rintro ⟨q, h1, h2⟩
          rcases List.mem_cons.1 h1 with rfl | h1
          · exact hb h2
          · exact hq ⟨q, h1, h2⟩
theorem nm6_nd {rs : List Nat} (h : ∀ r ∈ rs, 1 ≤ r ∧ r ≤ 6) (hn : rs.Nodup) : (rs.map nm6).Nodup := by
  induction rs with
  | nil => simp
  | cons r rs ih =>
    obtain ⟨h1, h2⟩ := List.nodup_cons.1 hn
    rw [List.map_cons, List.nodup_cons]
    refine ⟨fun hm => ?_, ih (fun q hq => h q (by simp [hq])) h2⟩
    obtain ⟨q, hq, he⟩ := List.mem_map.1 hm
    obtain ⟨a, b⟩ := h r (by simp)
    obtain ⟨c, d⟩ := h q (by simp [hq])
    have e1 := (nm6_ok a b).2.1
    have e2 := (nm6_ok c d).2.1
    rw [he] at e2
    have : q = r := by omega
    exact h1 (this ▸ hq)
theorem node_ok6 {op : Nat} {n : Int} {rs : List Nat} {al : List Ex} {k : Nat} (h : ownF op n rs k = 0) (hk : al.length = k) (hr : ∀ r ∈ rs, 1 ≤ r ∧ r ≤ 6) (ha : nodeL al = 0) : nodeE (.mk op n (rs.map nm6) al) = 0 := by
  obtain ⟨h1, h2, h3, h4, h5, h6, h7, h8, h9, h10⟩ := ownF_ok h
  have hown : ownE op n (rs.map nm6) al.length = 0 := by
    refine own0' (by rw [hk, h3]; unfold argF argN; omega) ?_ ?_ (nm6_nd hr h10) (by omega)
    · rintro (⟨a, b⟩ | a)
      · exact a (h4 b)
      · refine a ?_
        rw [List.length_map]
        unfold namN
        unfold leaF at h5
        unfold mosF at h6
        split
        · rename_i ho
          rw [if_pos (by omega)] at h5
          rw [if_pos ho] at h6
          omega
        · rename_i ho
          rw [if_neg ho] at h6
          split
          · rename_i h5'
            rw [if_pos (by omega)] at h5
            rw [if_pos h5'] at h6
            omega
          · rename_i h5'
            rw [if_neg h5'] at h6
            omega
    · intro s hs
      obtain ⟨r, hr', rfl⟩ := List.mem_map.1 hs
      exact (nm6_ok (hr r hr').1 (hr r hr').2).2.2
  rw [node_args hown, ha]
def hitF (adm : Nat) (m : Nat) : Prop := ∃ j, m.testBit j = true ∧ adm.testBit j = true
noncomputable instance (adm m : Nat) : Decidable (hitF adm m) := Classical.propDecidable _
theorem hit_zero (adm m : Nat) : hitF adm m ↔ m &&& adm ≠ 0 := by
  constructor
  · rintro ⟨j, h1, h2⟩ h
    have := congrArg (fun x => x.testBit j) h
    simp [h1, h2] at this
  · intro h
    refine Classical.not_not.1 fun hn => h (Nat.eq_of_testBit_eq fun j => ?_)
    rw [Nat.testBit_and, Nat.zero_testBit]
    cases h1 : m.testBit j with
    | false => rfl
    | true =>
      cases h2 : adm.testBit j with
      | false => rfl
      | true => exact absurd ⟨j, h1, h2⟩ hn
theorem hit_or (adm a b : Nat) : hitF adm (a ||| b) ↔ hitF adm a ∨ hitF adm b := by
  constructor
  · rintro ⟨j, h1, h2⟩
    rw [Nat.testBit_or, Bool.or_eq_true] at h1
    exact h1.elim (fun h => .inl ⟨j, h, h2⟩) (fun h => .inr ⟨j, h, h2⟩)
  · rintro (⟨j, h1, h2⟩ | ⟨j, h1, h2⟩)
    · exact ⟨j, by rw [Nat.testBit_or, h1]; simp, h2⟩
    · exact ⟨j, by rw [Nat.testBit_or, h1]; simp, h2⟩
theorem hit_msk (adm : Nat) (rs : List Nat) : hitF adm (mskF rs) ↔ ∃ r ∈ rs, adm.testBit r = true := by
  constructor
  · rintro ⟨j, h1, h2⟩
    rw [mskF_bit] at h1
    exact ⟨j, of_decide_eq_true h1, h2⟩
  · rintro ⟨r, h1, h2⟩
    exact ⟨r, by rw [mskF_bit]; exact decide_eq_true h1, h2⟩
def in6 (m : Nat) : Prop := ∀ j, m.testBit j = true → 1 ≤ j ∧ j ≤ 6
theorem in6_or {a b : Nat} (h : in6 (a ||| b)) : in6 a ∧ in6 b := ⟨fun j hj => h j (by rw [Nat.testBit_or, hj]; rfl), fun j hj => h j (by rw [Nat.testBit_or, hj]; simp)⟩
theorem in6_msk {rs : List Nat} (h : in6 (mskF rs)) : ∀ r ∈ rs, 1 ≤ r ∧ r ≤ 6 := fun r hr => h r (by rw [mskF_bit]; exact decide_eq_true hr)
mutual
theorem nm_all {kind adm : Nat} : ∀ f : Fm, insF kind f = 0 → in6 (menF f) → ∃ e, nmF (rnames 6) f = some e ∧ nodeE e = 0 ∧ depE e = depF f ∧ sizE e = sizF f ∧ numbF (rnames 6) adm e = if hitF adm (menF f) then none else some f
  | .mk op n rs al, h, hm => by
    obtain ⟨h1, _, h3⟩ := insF_ok h
    rw [menF] at hm ⊢
    obtain ⟨m1, m2⟩ := in6_or hm
    have hr := in6_msk m1
    obtain ⟨el, e1, e2, e3, e4, e5, e6⟩ := nm_allL (kind := kind) (adm := adm) al h3 m2
    refine ⟨.mk op n (rs.map nm6) el, nm_mk (nmN6 hr) e1, node_ok6 h1 e6 hr e2, by rw [depE, depF, e3], by rw [sizE, sizF, e4], ?_⟩
    rw [numbF, numbN6 hr, e5]
    by_cases c1 : ∃ r ∈ rs, adm.testBit r = true
    · rw [if_pos c1, if_pos ((hit_or _ _ _).2 (.inl ((hit_msk _ _).2 c1)))]
    · rw [if_neg c1]
      by_cases c2 : hitF adm (menFL al)
      · rw [if_pos c2, if_pos ((hit_or _ _ _).2 (.inr c2))]
      · rw [if_neg c2, if_neg (fun h => ((hit_or _ _ _).1 h).elim (fun h => c1 ((hit_msk _ _).1 h)) c2)]
theorem nm_allL {kind adm : Nat} : ∀ l : List Fm, insFL kind l = 0 → in6 (menFL l) → ∃ el, nmFL (rnames 6) l = some el ∧ nodeL el = 0 ∧ depL el = depFL l ∧ sizL el = sizFL l ∧ numbL (rnames 6) adm el = (if hitF adm (menFL l) then none else some l) ∧ el.length = l.length
  | [], _, _ => by
    refine ⟨[], rfl, rfl, rfl, rfl, ?_, rfl⟩
    rw [if_neg]
    · rfl
    · rintro ⟨j, h1, _⟩
      rw [menFL, Nat.zero_testBit] at h1
      cases h1
  | a :: l, h, hm => by
    have h0 := insFL_zero h a (by simp)
    rw [insFL, h0, if_neg (by simp)] at h
    rw [menFL] at hm ⊢
    obtain ⟨m1, m2⟩ := in6_or hm
    obtain ⟨e, a1, a2, a3, a4, a5⟩ := nm_all (kind := kind) (adm := adm) a h0 m1
    obtain ⟨el, e1, e2, e3, e4, e5, e6⟩ := nm_allL (kind := kind) (adm := adm) l h m2
    refine ⟨e :: el, by rw [nmFL, a1]; simp only [e1], by rw [nodeL, a2, if_neg (by simp), e2], by rw [depL, depFL, a3, e3], by rw [sizL, sizFL, a4, e4], ?_, by rw [List.length_cons, List.length_cons, e6]⟩
    rw [numbL, a5, e5]
    by_cases c1 : hitF adm (menF a)
    · rw [if_pos c1, if_pos ((hit_or _ _ _).2 (.inl c1))]
    · rw [if_neg c1]
      by_cases c2 : hitF adm (menFL l)
      · rw [if_pos c2, if_pos ((hit_or _ _ _).2 (.inr c2))]
      · rw [if_neg c2, if_neg (fun h => ((hit_or _ _ _).1 h).elim c1 c2)]
end
/-- What a formula of a kind is resolved to. -/
theorem fit_res {kind adm : Nat} {f : Fm} (hk : 1 ≤ kind ∧ kind ≤ 3) (h : MkOk kind 1 4 f) (hc : chkF kind f = 0) : ∃ e, synF (rnames 6) f = (e, 0) ∧ resF (rnames 6) adm kind e = if hitF adm (menF f) then (zeF, 9) else (f, 0) := by
  obtain ⟨e, e1, e2, e3, e4, e5⟩ := nm_all (kind := kind) (adm := adm) f h.ins h.men
  have h1 := h.dep
  have h2 := h.siz
  have hce : chkE e = 0 := by unfold chkE; rw [if_neg (by omega), e2]
  refine ⟨e, ?_, ?_⟩
  · rw [synF, e1]
    simp only [hce]
    rfl
  · rw [resF, if_neg (by omega), if_neg (by rw [hce]; simp), e5]
    by_cases c : hitF adm (menF f)
    · rw [if_pos c, if_pos c]
    · rw [if_neg c, if_neg c]
      simp only [hc]
      rfl
end Go.Proofs.YtnpcilglilfajaaGreatDoor
namespace Go.Proofs.YtnpcilglilfajaaGreatDoor
open Go.RowKit
inductive Tr where
  | nil
  | t (i : Nat) (r : Tr)
  | r (i : Nat) (r : Tr)
  | w (i j : Nat) (p q : Tr)
  | w3 (i j k : Nat) (p q s : Tr)
def tlen : Tr → Nat
  | .nil => 0
  | .t _ r => tlen r + 1
  | .r _ r => tlen r + 1
  | .w _ _ p _ => tlen p + 1
  | .w3 _ _ _ p _ _ => tlen p + 1
def treeOk (ops : Array Oper) (nh : Nat) : Tr → Array Bool → Bool
  | .nil, listed => Region.seqB .any ops (ops.size - nh) nh listed
  | .t i r, listed => Nat.blt i nh && (Region.ready .any ops listed).contains i && Region.free .any ops listed i && depB ops none i && treeOk ops nh r (listed.setIfInBounds i true)
  | .r i r, listed => Nat.blt i nh && decide (Region.ready .any ops listed = [i]) && treeOk ops nh r (listed.setIfInBounds i true)
  | .w i j p q, listed => Nat.blt i nh && Nat.blt j nh && Nat.beq (tlen p) (tlen q) && decide (Region.ready .any ops listed = [i, j]) && treeOk ops nh p (listed.setIfInBounds i true) && treeOk ops nh q (listed.setIfInBounds j true)
  | .w3 i j k p q s, listed => Nat.blt i nh && Nat.blt j nh && Nat.blt k nh && Nat.beq (tlen p) (tlen q) && Nat.beq (tlen p) (tlen s) && decide (Region.ready .any ops listed = [i, j, k]) && treeOk ops nh p (listed.setIfInBounds i true) && treeOk ops nh q (listed.setIfInBounds j true) && treeOk ops nh s (listed.setIfInBounds k true)
def treeDrawOk (ops : Array Oper) (nh : Nat) (tr : Tr) : Bool :=
  noDefers ops && Region.noSelect ops && tailB ops nh && decide (tlen tr + (ops.size - nh) = ops.size) && treeOk ops nh tr (Array.replicate ops.size false)
def SDT (ro : Option Nat) (P : Program) (n : NM) (w0 : Base) (X0 : PMap) (ops : Array Oper) (Q : Exit → Act → World → Prop) (nh : Nat) (ownS : Own) (XS : PMap) (tr : Tr) (env : Env) (own : Own) (X : PMap) : Prop :=
  ∀ (listed : Array Bool) a W, Region.noSelect ops = true → noDefers ops = true → TailWaits ops nh → HeadInv .any ops nh listed → treeOk ops nh tr listed = true →
    EOk n env a → Sat w0 X0 own X W → Stab ownS XS W → hdAny ro P ops Q none (Stab ownS XS) nh (tailL ro P ops Q nh) (tlen tr) listed a W
section
variable {P : Program} {n : NM} {w0 : Base} {X0 X XS : PMap} {own ownS : Own} {env : Env} {ops : Array Oper} {Q : Exit → Act → World → Prop} {nh : Nat} {ro : Option Nat}
theorem SDT.nil (h : SL ro P n w0 X0 ops Q (ops.toList.drop nh) env own X) : SDT ro P n w0 X0 ops Q nh ownS XS .nil env own X :=
  fun _ a W _ _ _ _ hp ha hs _ => ⟨hp, h a W ha hs⟩
theorem SDT.take {i : Nat} {tr : Tr} {d : Option Tmp} {op : Op} {ty : TypeId} {pos : String} {af : Array Edge} {g : Option (Nat × Bool)} {v : Value} (hi : ops[i]? = some ⟨d, op, ty, pos, af, g⟩)
    (hQ : ∀ c a w, Q (.panic c) (a.put d v) w → Q (.panic c) a w)
    (h : OpY P n env ownS XS op v) (hg : gwant ops env g = some true) (hd : dok n d = true) (h' : SDT ro P n w0 X0 ops Q nh ownS XS tr (eput env d v) own X) : SDT ro P n w0 X0 ops Q nh ownS XS (.t i tr) env own X := by
  intro listed a W hns hnd ht inv hp ha hs hst
  simp only [treeOk, Bool.and_eq_true] at hp
  obtain ⟨⟨⟨⟨hin, hr⟩, hf⟩, hdp⟩, hp⟩ := hp
  have hin' : i < nh := Nat.le_of_ble_eq_true hin
  have hr' : i ∈ Region.ready .any ops listed := by simpa using hr
  refine hd_first hi (Region.noSelect_spec hns) (noDefers_spec hnd) ht hin' hQ (fun _ _ _ h => tail_done h) (depB_ne hdp) (fun l w inv hun h => h (depB_opn hdp inv hun)) _ listed a W inv (Region.free_spec hi hf) hr' (.inl ⟨gwant_spec ha hg, fun w hw => h a w _ rfl ha hw⟩) (fun _ => hst) ?_
  exact h' _ _ _ hns hnd ht (inv.set hr' hin') hp (ha.eput hd v) hs hst
theorem SDT.run {i : Nat} {tr : Tr} {d : Option Tmp} {op : Op} {ty : TypeId} {pos : String} {af : Array Edge} {g : Option (Nat × Bool)} {k : Value → Own → PMap → Prop} (hi : ops[i]? = some ⟨d, op, ty, pos, af, g⟩)
    (h : OpX P n w0 X0 env own X op true k) (hg : gwant ops env g = some true) (hd : dok n d = true) (h' : ∀ v own' X', k v own' X' → SDT ro P n w0 X0 ops Q nh ownS XS tr (eput env d v) own' X') : SDT ro P n w0 X0 ops Q nh ownS XS (.r i tr) env own X := by
  intro listed a W hns hnd ht inv hp ha hs hst
  simp only [treeOk, Bool.and_eq_true, decide_eq_true_eq] at hp
  obtain ⟨⟨hin, hr⟩, hp⟩ := hp
  have hin' : i < nh := Nat.le_of_ble_eq_true hin
  have hr' : i ∈ Region.ready .any ops listed := by rw [hr]; simp
  refine ⟨by rw [hr]; simp, fun j hj => ?_⟩
  rw [hr] at hj
  have hji : j = i := by simpa using hj
  subst hji
  refine ⟨hin', ?_⟩
  unfold wpOpIn
  simp only [hi]
  rw [if_pos (gwant_spec ha hg)]
  refine h a W _ _ _ _ rfl ha hs fun v own' X' W' hk hs' hgr => ⟨fun _ => hst.grow (hgr rfl), ?_⟩
  exact h' v own' X' hk _ _ _ hns hnd ht (inv.set hr' hin') hp (ha.eput hd v) hs' (hst.grow (hgr rfl))
theorem SDT.runK {i : Nat} {tr : Tr} {d : Option Tmp} {op : Op} {ty : TypeId} {pos : String} {af : Array Edge} {g : Option (Nat × Bool)} {gr : Bool} {k : Value → Own → PMap → Prop} (hi : ops[i]? = some ⟨d, op, ty, pos, af, g⟩)
    (h : OpX P n w0 X0 env own X op gr k) (hkeep : ∀ v own' X', k v own' X' → (∀ p ∈ ownS, p ∈ own') ∧ XS.le X') (hg : gwant ops env g = some true) (hd : dok n d = true) (h' : ∀ v own' X', k v own' X' → SDT ro P n w0 X0 ops Q nh ownS XS tr (eput env d v) own' X') : SDT ro P n w0 X0 ops Q nh ownS XS (.r i tr) env own X := by
  intro listed a W hns hnd ht inv hp ha hs hst
  simp only [treeOk, Bool.and_eq_true, decide_eq_true_eq] at hp
  obtain ⟨⟨hin, hr⟩, hp⟩ := hp
  have hin' : i < nh := Nat.le_of_ble_eq_true hin
  have hr' : i ∈ Region.ready .any ops listed := by rw [hr]; simp
  refine ⟨by rw [hr]; simp, fun j hj => ?_⟩
  rw [hr] at hj
  have hji : j = i := by simpa using hj
  subst hji
  refine ⟨hin', ?_⟩
  unfold wpOpIn
  simp only [hi]
  rw [if_pos (gwant_spec ha hg)]
  refine h a W _ _ _ _ rfl ha hs fun v own' X' W' hk hs' _ => ?_
  obtain ⟨h1, h2⟩ := hkeep v own' X' hk
  have hst' : Stab ownS XS W' := ⟨fun p hp => hs'.stab.own p (h1 p hp), fun q o hq => hs'.stab.pers q o (h2 q o hq)⟩
  exact ⟨fun _ => hst', h' v own' X' hk _ _ _ hns hnd ht (inv.set hr' hin') hp (ha.eput hd v) hs' hst'⟩
theorem SDT.one {i : Nat} {tr : Tr} {d : Option Tmp} {op : Op} {ty : TypeId} {pos : String} {af : Array Edge} {g : Option (Nat × Bool)} {k : Value → Own → PMap → Prop} {listed : Array Bool} {a : Act} {W : World} (hi : ops[i]? = some ⟨d, op, ty, pos, af, g⟩)
    (h : OpX P n w0 X0 env own X op true k) (hg : gwant ops env g = some true) (hd : dok n d = true) (h' : ∀ v own' X', k v own' X' → SDT ro P n w0 X0 ops Q nh ownS XS tr (eput env d v) own' X')
    (hns : Region.noSelect ops = true) (hnd : noDefers ops = true) (ht : TailWaits ops nh) (inv : HeadInv .any ops nh listed) (hr : i ∈ Region.ready .any ops listed) (hin : i < nh) (hp : treeOk ops nh tr (listed.setIfInBounds i true) = true)
    (ha : EOk n env a) (hs : Sat w0 X0 own X W) (hst : Stab ownS XS W) : i < nh ∧ wpOpIn (FR ro) DEP P ops Q i (fun a' w' => (opn none (listed.setIfInBounds i true) = true → Stab ownS XS w') ∧ hdAny ro P ops Q none (Stab ownS XS) nh (tailL ro P ops Q nh) (tlen tr) (listed.setIfInBounds i true) a' w') a W := by
  refine ⟨hin, ?_⟩
  unfold wpOpIn
  simp only [hi]
  rw [if_pos (gwant_spec ha hg)]
  refine h a W _ _ _ _ rfl ha hs fun v own' X' W' hk hs' hgr => ⟨fun _ => hst.grow (hgr rfl), ?_⟩
  exact h' v own' X' hk _ _ _ hns hnd ht (inv.set hr hin) hp (ha.eput hd v) hs' (hst.grow (hgr rfl))
theorem SDT.two {i j : Nat} {p q : Tr} {d1 d2 : Option Tmp} {op1 op2 : Op} {tya tyb : TypeId} {pos1 pos2 : String} {af1 af2 : Array Edge} {g1 g2 : Option (Nat × Bool)} {k1 k2 : Value → Own → PMap → Prop}
    (hi : ops[i]? = some ⟨d1, op1, tya, pos1, af1, g1⟩) (hj : ops[j]? = some ⟨d2, op2, tyb, pos2, af2, g2⟩)
    (h1 : OpX P n w0 X0 env own X op1 true k1) (h2 : OpX P n w0 X0 env own X op2 true k2) (hg1 : gwant ops env g1 = some true) (hg2 : gwant ops env g2 = some true) (hd1 : dok n d1 = true) (hd2 : dok n d2 = true)
    (c1 : ∀ v own' X', k1 v own' X' → SDT ro P n w0 X0 ops Q nh ownS XS p (eput env d1 v) own' X')
    (c2 : ∀ v own' X', k2 v own' X' → SDT ro P n w0 X0 ops Q nh ownS XS q (eput env d2 v) own' X') : SDT ro P n w0 X0 ops Q nh ownS XS (.w i j p q) env own X := by
  intro listed a W hns hnd ht inv hp ha hs hst
  simp only [treeOk, Bool.and_eq_true, decide_eq_true_eq] at hp
  obtain ⟨⟨⟨⟨⟨hin, hjn⟩, hlen⟩, hr⟩, hp1⟩, hp2⟩ := hp
  have hlen := Nat.eq_of_beq_eq_true hlen
  have hr1 : i ∈ Region.ready .any ops listed := by rw [hr]; simp
  have hr2 : j ∈ Region.ready .any ops listed := by rw [hr]; simp
  have b1 := SDT.one hi h1 hg1 hd1 c1 hns hnd ht inv hr1 (Nat.le_of_ble_eq_true hin) hp1 ha hs hst
  have b2 := SDT.one hj h2 hg2 hd2 c2 hns hnd ht inv hr2 (Nat.le_of_ble_eq_true hjn) hp2 ha hs hst
  rw [← hlen] at b2
  refine ⟨by rw [hr]; simp, fun k hk => ?_⟩
  rw [hr] at hk
  rcases (by simpa using hk : k = i ∨ k = j) with rfl | rfl
  · exact b1
  · exact b2
theorem SDT.three {i j k : Nat} {p q s : Tr} {d1 d2 d3 : Option Tmp} {op1 op2 op3 : Op} {tya tyb tyc : TypeId} {pos1 pos2 pos3 : String} {af1 af2 af3 : Array Edge} {g1 g2 g3 : Option (Nat × Bool)} {k1 k2 k3 : Value → Own → PMap → Prop}
    (hi : ops[i]? = some ⟨d1, op1, tya, pos1, af1, g1⟩) (hj : ops[j]? = some ⟨d2, op2, tyb, pos2, af2, g2⟩) (hk : ops[k]? = some ⟨d3, op3, tyc, pos3, af3, g3⟩)
    (h1 : OpX P n w0 X0 env own X op1 true k1) (h2 : OpX P n w0 X0 env own X op2 true k2) (h3 : OpX P n w0 X0 env own X op3 true k3) (hg1 : gwant ops env g1 = some true) (hg2 : gwant ops env g2 = some true) (hg3 : gwant ops env g3 = some true) (hd1 : dok n d1 = true) (hd2 : dok n d2 = true) (hd3 : dok n d3 = true)
    (c1 : ∀ v own' X', k1 v own' X' → SDT ro P n w0 X0 ops Q nh ownS XS p (eput env d1 v) own' X')
    (c2 : ∀ v own' X', k2 v own' X' → SDT ro P n w0 X0 ops Q nh ownS XS q (eput env d2 v) own' X')
    (c3 : ∀ v own' X', k3 v own' X' → SDT ro P n w0 X0 ops Q nh ownS XS s (eput env d3 v) own' X') : SDT ro P n w0 X0 ops Q nh ownS XS (.w3 i j k p q s) env own X := by
  intro listed a W hns hnd ht inv hp ha hs hst
  simp only [treeOk, Bool.and_eq_true, decide_eq_true_eq] at hp
  obtain ⟨⟨⟨⟨⟨⟨⟨⟨hin, hjn⟩, hkn⟩, hlen⟩, hlen2⟩, hr⟩, hp1⟩, hp2⟩, hp3⟩ := hp
  have hlen := Nat.eq_of_beq_eq_true hlen
  have hlen2 := Nat.eq_of_beq_eq_true hlen2
  have hr1 : i ∈ Region.ready .any ops listed := by rw [hr]; simp
  have hr2 : j ∈ Region.ready .any ops listed := by rw [hr]; simp
  have hr3 : k ∈ Region.ready .any ops listed := by rw [hr]; simp
  have b1 := SDT.one hi h1 hg1 hd1 c1 hns hnd ht inv hr1 (Nat.le_of_ble_eq_true hin) hp1 ha hs hst
  have b2 := SDT.one hj h2 hg2 hd2 c2 hns hnd ht inv hr2 (Nat.le_of_ble_eq_true hjn) hp2 ha hs hst
  have b3 := SDT.one hk h3 hg3 hd3 c3 hns hnd ht inv hr3 (Nat.le_of_ble_eq_true hkn) hp3 ha hs hst
  rw [← hlen] at b2
  rw [← hlen2] at b3
  refine ⟨by rw [hr]; simp, fun x hx => ?_⟩
  rw [hr] at hx
  rcases (by simpa using hx : x = i ∨ x = j ∨ x = k) with rfl | rfl | rfl
  · exact b1
  · exact b2
  · exact b3
theorem SDT.start {id : Nat} {a : Act} {W : World} (hm : P.follows .mixedOrders = true) (tr : Tr) (hok : treeDrawOk ops nh tr = true) (ha : EOk n env a) (hs : Sat w0 X0 own X W)
    (h : SDT ro P n w0 X0 ops Q nh own X tr env own X) : (Code.region id ops true).wpIn (FR ro) DEP P Q a W := by
  simp only [treeDrawOk, Bool.and_eq_true, decide_eq_true_eq] at hok
  obtain ⟨⟨⟨⟨hnd, hns⟩, htb⟩, hlen⟩, hp⟩ := hok
  refine wpIn_region_any hm ?_
  have hs' := hs.draw (W.drawn + 1)
  have inv : HeadInv .any ops nh (Array.replicate ops.size false) := ⟨by simp, (fun j oj _ hl => by rw [getD_replicate_false] at hl; cases hl), (fun t _ ht => by simp [ht])⟩
  have h1 := h (Array.replicate ops.size false) a _ hns hnd (tailWaits_of htb) inv hp ha hs' ⟨fun p hp => hs'.stab.own p hp, hs'.stab.pers⟩
  have hsz : ops.size - nh = (ops.toList.drop nh).length := by simp
  have h2 := wpAny_of_hd (g := ops.size - nh) (fun listed a w (hL : tailL ro P ops Q nh listed a w) => by
    have := wpAnyIn_of_seq (P := P) (ops := ops) (Q := Q) (ro := ro) (ops.toList.drop nh) nh listed a w (fun j => by simp) (by rw [← hsz]; exact hL.1) hL.2
    rw [hsz]; exact this) _ _ _ _ h1
  rw [hlen] at h2
  exact h2
theorem T.drawT {id : Nat} {k : List It} (hm : P.follows .mixedOrders = true) (nh : Nat) (tr : Tr) (hok : treeDrawOk ops nh tr = true)
    (h : SDT ro P n w0 X0 ops (contQ ro P Q k) nh own X tr env own X) : T ro P n w0 X0 Q (.code (.region id ops true) :: k) none env own X :=
  fun _ _ ha hs => runL_code (SDT.start hm tr hok ha hs h)
end
end Go.Proofs.YtnpcilglilfajaaGreatDoor
namespace Go.Proofs.YtnpcilglilfajaaGreatDoor
open Go.RowKit
theorem fResolves_spec {X : PMap} (hT : Tab X) {w : Value} {bs : List Nat} {k adm : Nat} (hc : CutR X w bs) (ha : adm < 18446744073709551616) : Spec Tryz.prog 7 [.agg #[w, .int .u8 (k : Int)], .int .u64 (adm : Int)] X fun u _ => u = .bool true := by
  have hfit := fun {X' : PMap} (hX : X.le X') => fit_spec (k := k) (hc.mono hX)
  obtain ⟨_, ⟨Aw, cw, rfl, _⟩, _⟩ := hc
  have hk3 : 1 ≤ kdR k ∧ kdR k ≤ 3 := by unfold kdR; omega
  have ha2 : adm &&& 126 < 18446744073709551616 := Nat.lt_of_le_of_lt Nat.and_le_left ha
  obtain ⟨f, hf⟩ : ∃ f, f = fitR bs k := ⟨_, rfl⟩
  have hwt : wtF f ≤ 961 := by rw [hf]; exact fitR_wt
  have hops : opsF f := by rw [hf]; exact fitR_ops bs k
  have hmk : MkOk (kdR k) 1 4 f := by rw [hf]; exact mkS_ok hk3 _
  have hck : chkF (kdR k) f = 0 := by rw [hf]; exact fitR_chk bs k
  have hm64 : men64 f = menF f := men64_eq f (insF_rol f hmk.ins)
  have hml := men64_lt f
  obtain ⟨e, hsy, hrs⟩ := fit_res (adm := adm &&& 126) hk3 hmk hck
  have hz := rnames_size (n := 6) (by omega)
  have hlen : (rnames 6).length ≤ 63 := by rw [rnames_len]; omega
  obtain ⟨ho, hw⟩ := synF_ok hz hops
  rw [hsy] at ho hw
  simp only at ho hw
  have hcond : men64 f &&& adm &&& 126 ≠ 0 ↔ hitF (adm &&& 126) (menF f) := by rw [hit_zero, hm64, Nat.and_assoc]
  rw [← hf] at hfit
  refine Spec.enter Tryz.func7 rfl Tryz.ntmps7 rfl ?_
  intro w0 hw0
  refine T.seq <| T.region <| SL.w (op_box rfl) ?_
  rintro _ _ _ ⟨B2, rfl, rfl, rfl⟩
  refine SL.as rfl <| SL.nil <| T.seq <| T.seq <| T.region <| SL.w (op_callF en13 (vs := []) rfl (awake18_spec hT)) ?_
  rintro _ _ X1 ⟨rfl, hX1, rfl⟩
  refine SL.v (op_not rfl) <| SL.nil <| T.condF rfl <| T.skip <| T.seq <| T.region <| SL.v (op_load ty46 rfl (by repeat constructor) rfl) ?_
  refine SL.w (op_callF en20 (vs := [_]) rfl (hfit hX1)) ?_
  rintro _ _ X2 ⟨rfl, hX2, r2, rfl, hr2⟩
  have hm := fun {X' : PMap} (hX : X2.le X') => make18_spec (wtF f) (Nat.le_refl _) (by omega) hops (hr2.mono hX)
  have hrsy := fun {X' : PMap} {vt : Value} (hX : X2.le X') (hR : RowR strC X' vt (rnames 6)) => rsyn_spec (by omega) hlen hz hR (hr2.mono hX)
  have hmn := fun {X' : PMap} (hX : X2.le X') => rment_spec (wtF f) (Nat.le_refl _) (by omega) (hr2.mono hX)
  have hsm := fun {X' : PMap} {r : Row4} (hX : X2.le X') (h : FmR .u8 X' f r) => same18_spec (wtF f) (Nat.le_refl _) (by omega) hops h (hr2.mono hX)
  obtain ⟨o2, n2, a2, b2, l2, c2, l3, c3, rfl⟩ := hr2.form
  simp only [hsy] at hrsy
  simp only [decide_true] at hsm
  try simp only at hm
  try simp only at hmn
  refine SL.mv rfl <| SL.v (op_extract rfl rfl) <| SL.v (op_extract rfl rfl) <| SL.w (op_alloc z27) ?_
  rintro _ _ _ ⟨B5, rfl, rfl, rfl⟩
  refine SL.w (op_store ty27 rfl rfl (by repeat constructor) rfl rfl rfl) ?_
  rintro _ _ _ ⟨rfl, rfl⟩
  refine SL.as rfl <| SL.nil <| T.seq <| T.region <| SL.w (op_callF en30 (vs := [_]) rfl (names18_spec (n := 6) (by omega))) ?_
  rintro vn _ X3 ⟨rfl, hX3, hR⟩
  have hR0 := hR
  obtain ⟨An, cn, rfl⟩ := hR.form
  refine SL.as rfl <| SL.nil <| T.seq <| T.region <| SL.mv rfl <| SL.w (op_callF en24 (vs := [_]) rfl (tabl_spec hR (by omega))) ?_
  rintro vt _ X4 ⟨rfl, hX4, hTb⟩
  rw [if_pos (rnames_ok (by omega))] at hTb
  obtain ⟨bt, hbt⟩ := hTb.form
  subst hbt
  refine SL.as rfl <| SL.nil <| T.seq <| T.region <| SL.v (op_load ty27 rfl (by repeat constructor) rfl) ?_
  refine SL.mv rfl <| SL.w (op_callF en31 (vs := [_, _]) rfl (hrsy (hX3.trans' hX4) (hR0.mono hX4))) ?_
  rintro _ _ X5 ⟨rfl, hX5, r5, rfl, hr5⟩
  have hex := fun {X' : PMap} (hX : X5.le X') => expr_spec _ (Nat.le_refl _) (by omega) ho (hr5.mono hX)
  obtain ⟨o6, n6, a6, b6, l6, c6, l7, c7, rfl⟩ := hr5.form
  try simp only at hex
  have hX25 := (hX3.trans' hX4).trans' hX5
  refine SL.mv rfl <| SL.v (op_extract rfl rfl) <| SL.v (op_extract rfl rfl) <| SL.w (op_alloc z62) ?_
  rintro _ _ _ ⟨B9, rfl, rfl, rfl⟩
  refine SL.w (op_store ty62 rfl rfl (by repeat constructor) rfl rfl rfl) ?_
  rintro _ _ _ ⟨rfl, rfl⟩
  refine SL.as rfl <| SL.nil <| T.seq <| T.seq <| T.region <| SL.mv rfl <| SL.v (op_eqlNil Tryz.underlying64 rfl rfl) <| SL.mv rfl <| SL.mv rfl <| SL.v (op_neqF rfl rfl (by omega)) ?_
  refine SL.v (op_pickF rfl rfl) <| SL.nil <| T.condF rfl <| T.skip <| T.seq <| T.region <| SL.v (op_load ty27 rfl (by repeat constructor) rfl) ?_
  refine SL.w (op_callF en16 (vs := [_]) rfl (hm hX25)) ?_
  rintro _ _ X6 ⟨rfl, hX6, r7, rfl, hr7⟩
  have hsyn := syn_spec (by omega) hlen hz ((hTb.mono hX5).mono hX6) hr7
  rw [hsy] at hsyn
  obtain ⟨o8, n8, a8, b8, l8, c8, l9, c9, rfl⟩ := hr7.form
  try simp only at hsyn
  refine SL.mv rfl <| SL.w (op_callF en32 (vs := [_, _]) rfl (hsyn)) ?_
  rintro _ _ X7 ⟨rfl, hX7, r9, rfl, hr9⟩
  have hres := fun {X' : PMap} {vs : Value} (hX : X7.le X') (hS : SetR X' vs (adm &&& 126)) => resolve_spec (kind := kdR k) (by omega) (by omega) hlen ((((hTb.mono hX5).mono hX6).mono hX7).mono hX) hS (hr9.mono hX)
  have heq := fun {X' : PMap} {r : Row4} (hX : X7.le X') (h : ExR .u8 X' e r) => eqE_spec _ (Nat.le_refl _) (by omega) (hr9.mono hX) h
  obtain ⟨o10, n10, a10, b10, l10, c10, l11, c11, rfl⟩ := hr9.form
  rw [hrs] at hres
  try simp only at hres
  simp only [decide_true] at heq
  refine SL.mv rfl <| SL.v (op_extract rfl rfl) <| SL.v (op_extract rfl rfl) <| SL.w (op_alloc z70) ?_
  rintro _ _ _ ⟨B11, rfl, rfl, rfl⟩
  refine SL.w (op_store ty70 rfl rfl (by repeat constructor) rfl rfl rfl) ?_
  rintro _ _ _ ⟨rfl, rfl⟩
  refine SL.as rfl <| SL.nil <| T.drop B2 (by repeat constructor) ?_
  refine T.seq <| T.meet (fun _ env own X' => ∃ (r : Row4) (b13 : Nat), X7.le X' ∧ FmR .u8 X' (if hitF (adm &&& 126) (menF f) then (zeF, (9 : Int)) else (f, 0)).1 r ∧ env = [(1, .int .u64 (adm : Int)), (5, .pointer (some ⟨B5, 0, none⟩)), (9, .pointer (some ⟨B9, 0, none⟩)), (11, .pointer (some ⟨B11, 0, none⟩)), (12, .int .i64 0), (13, .pointer (some ⟨b13, 0, none⟩)), (14, .int .i64 (if hitF (adm &&& 126) (menF f) then (zeF, (9 : Int)) else (f, 0)).2)] ∧ own = [FmO b13 r, S3E B11 o10 n10 (.slice a10 l10 c10) (.slice b10 l11 c11), E6 B9 o6 n6 (.slice a6 l6 c6) (.slice b6 l7 c7), F6 B5 o2 n2 (.slice a2 l2 c2) (.slice b2 l3 c3)]) ?_ ?_
  refine T.drawT (by kernel_rfl) 13 (.t 0 (.t 1 (.t 2 (.t 3 (.t 4 (.t 5 (.w 6 11 (.w 7 11 (.t 8 (.t 9 (.t 10 (.r 11 (.r 12 .nil))))) (.r 7 (.t 8 (.t 9 (.t 10 (.r 12 .nil)))))) (.r 6 (.r 7 (.t 8 (.t 9 (.t 10 (.r 12 .nil))))))))))))) (by kernel_rfl) ?_
  refine SDT.take rfl panicBody (op_load ty70 rfl (by repeat constructor) rfl) rfl rfl ?_
  refine SDT.take rfl panicBody (op_move rfl) rfl rfl ?_
  refine SDT.take rfl panicBody (op_convU8 Tryz.underlying3 Tryz.underlying41 rfl (by omega) (by omega)) rfl rfl ?_
  refine SDT.take rfl panicBody (op_move rfl) rfl rfl ?_
  refine SDT.take rfl panicBody (op_move rfl) rfl rfl ?_
  refine SDT.take rfl panicBody (op_and (p := adm) (q := 126) rfl rfl ha (by decide)) rfl rfl ?_
  refine SDT.two rfl rfl (op_callF en27 (vs := [_]) rfl (set14_spec (adm &&& 126) ha2)) (op_alloc z36) rfl rfl rfl rfl ?_ ?_
  · rintro vs _ X8 ⟨rfl, hX8, hS⟩
    have hres := hres hX8 hS
    obtain ⟨As, ls, cs, rfl⟩ := hS.form
    try simp only at hres
    refine SDT.two rfl rfl (op_callF en25 (vs := [_, _, _, _]) rfl hres) (op_alloc z36) rfl rfl rfl rfl ?_ ?_
    · rintro _ _ X9 ⟨rfl, hX9, r11, rfl, hr11⟩
      obtain ⟨o12, n12, a12, b12, l12, c12, l13, c13, rfl⟩ := hr11.form
      refine SDT.take rfl panicBody (op_move rfl) rfl rfl ?_
      refine SDT.take rfl panicBody (op_extract rfl rfl) rfl rfl ?_
      refine SDT.take rfl panicBody (op_extract rfl rfl) rfl rfl ?_
      refine SDT.run rfl (op_alloc z36) rfl rfl ?_
      rintro _ _ _ ⟨B13, rfl, rfl, rfl⟩
      refine SDT.runK rfl (op_store ty36 rfl rfl (by repeat constructor) rfl rfl rfl) (by rintro _ _ _ ⟨rfl, rfl⟩; exact ⟨fun p hp => List.mem_cons_of_mem _ hp, hX8.trans' hX9⟩) rfl rfl ?_
      rintro _ _ _ ⟨rfl, rfl⟩
      refine SDT.nil ?_
      show SL _ _ _ _ _ _ _ [_] _ _ _
      refine SL.as rfl <| SL.nil ?_
      exact T.backW 0 (by omega) ⟨_, _, hX8.trans' hX9, hr11, rfl, rfl⟩ (by repeat (first | exact Sub.nil | refine Sub.cons rfl ?_))
    · rintro _ _ _ ⟨B13, rfl, rfl, rfl⟩
      refine SDT.run rfl (op_callF en25 (vs := [_, _, _, _]) rfl hres) rfl rfl ?_
      rintro _ _ X9 ⟨rfl, hX9, r11, rfl, hr11⟩
      obtain ⟨o12, n12, a12, b12, l12, c12, l13, c13, rfl⟩ := hr11.form
      refine SDT.take rfl panicBody (op_move rfl) rfl rfl ?_
      refine SDT.take rfl panicBody (op_extract rfl rfl) rfl rfl ?_
      refine SDT.take rfl panicBody (op_extract rfl rfl) rfl rfl ?_
      refine SDT.runK rfl (op_store ty36 rfl rfl (by repeat constructor) rfl rfl rfl) (by rintro _ _ _ ⟨rfl, rfl⟩; exact ⟨fun p hp => List.mem_cons_of_mem _ hp, hX8.trans' hX9⟩) rfl rfl ?_
      rintro _ _ _ ⟨rfl, rfl⟩
      refine SDT.nil ?_
      show SL _ _ _ _ _ _ _ [_] _ _ _
      refine SL.as rfl <| SL.nil ?_
      exact T.backW 0 (by omega) ⟨_, _, hX8.trans' hX9, hr11, rfl, rfl⟩ (by repeat (first | exact Sub.nil | refine Sub.cons rfl ?_))
  · rintro _ _ _ ⟨B13, rfl, rfl, rfl⟩
    refine SDT.run rfl (op_callF en27 (vs := [_]) rfl (set14_spec (adm &&& 126) ha2)) rfl rfl ?_
    rintro vs _ X8 ⟨rfl, hX8, hS⟩
    have hres := hres hX8 hS
    obtain ⟨As, ls, cs, rfl⟩ := hS.form
    try simp only at hres
    refine SDT.run rfl (op_callF en25 (vs := [_, _, _, _]) rfl hres) rfl rfl ?_
    rintro _ _ X9 ⟨rfl, hX9, r11, rfl, hr11⟩
    obtain ⟨o12, n12, a12, b12, l12, c12, l13, c13, rfl⟩ := hr11.form
    refine SDT.take rfl panicBody (op_move rfl) rfl rfl ?_
    refine SDT.take rfl panicBody (op_extract rfl rfl) rfl rfl ?_
    refine SDT.take rfl panicBody (op_extract rfl rfl) rfl rfl ?_
    refine SDT.runK rfl (op_store ty36 rfl rfl (by repeat constructor) rfl rfl rfl) (by rintro _ _ _ ⟨rfl, rfl⟩; exact ⟨fun p hp => List.mem_cons_of_mem _ hp, hX8.trans' hX9⟩) rfl rfl ?_
    rintro _ _ _ ⟨rfl, rfl⟩
    refine SDT.nil ?_
    show SL _ _ _ _ _ _ _ [_] _ _ _
    refine SL.as rfl <| SL.nil ?_
    exact T.backW 0 (by omega) ⟨_, _, hX8.trans' hX9, hr11, rfl, rfl⟩ (by repeat (first | exact Sub.nil | refine Sub.cons rfl ?_))
  rintro _ _ _ X9 ⟨r11, b13, hX9, hr11, rfl, rfl⟩
  have hX69 := (hX6.trans' hX7).trans' hX9
  have hsm2 := fun {X' : PMap} (h : FmR .u8 X' f r11) (hX : X2.le X') => hsm hX h
  have hsz := fun {X' : PMap} (h : FmR .u8 X' zeF r11) => same18_spec 1 (Nat.le_refl _) (by omega) (show opsF zeF from ⟨by omega, trivial⟩) h (zeF_R (k := .i64))
  simp only [decide_true] at hsz
  obtain ⟨o12, n12, a12, b12, l12, c12, l13, c13, rfl⟩ := hr11.form
  refine T.seq <| T.seq <| T.draw (by kernel_rfl) 9 [.t 0, .t 1, .t 2, .t 3, .t 4, .r 5, .r 6, .t 7, .t 8] (by kernel_rfl) ?_
  refine SD.take rfl panicBody (op_move rfl) rfl rfl ?_
  refine SD.take rfl panicBody (op_neqF rfl rfl (by omega)) rfl rfl ?_
  refine SD.take rfl panicBody (op_move rfl) rfl rfl ?_
  refine SD.take rfl panicBody (op_load ty70 rfl (by repeat constructor) rfl) rfl rfl ?_
  refine SD.take rfl panicBody (op_load ty62 rfl (by repeat constructor) rfl) rfl rfl ?_
  refine SD.run rfl (op_callF en26 (vs := [_]) rfl (hex hX69)) rfl rfl ?_
  rintro _ _ X10 ⟨rfl, hX10, r13, rfl, hr13⟩
  have heq := heq (hX9.trans' hX10) hr13
  obtain ⟨o14, n14, a14, b14, l14, c14, l15, c15, rfl⟩ := hr13.form
  try simp only at heq
  refine SD.run rfl (op_callF en33 (vs := [_, _]) rfl (heq)) rfl rfl ?_
  rintro _ _ X11 ⟨rfl, hX11, rfl⟩
  have hX211 := ((hX25.trans' hX69).trans' hX10).trans' hX11
  refine SD.take rfl panicBody (op_not rfl) rfl rfl ?_
  refine SD.take rfl panicBody (op_pickF rfl rfl) rfl rfl ?_
  refine SD.nil ?_
  show SL _ _ _ _ _ _ _ [] _ _ _
  refine SL.nil <| T.condF rfl <| T.skip <| T.seq <| T.seq <| T.region <| SL.v (op_load ty27 rfl (by repeat constructor) rfl) ?_
  refine SL.w (op_callF en34 (vs := [_]) rfl (hmn hX211)) ?_
  rintro _ _ X12 ⟨rfl, hX12, rfl⟩
  refine SL.mv rfl <| SL.v (op_and (p := men64 f) (q := adm) rfl rfl hml ha) <| SL.v (op_and (p := men64 f &&& adm) (q := 126) rfl rfl (Nat.lt_of_le_of_lt Nat.and_le_left hml) (by decide)) ?_
  by_cases hh : hitF (adm &&& 126) (menF f)
  · have hne := hcond.2 hh
    rw [if_pos hh] at hr11 ⊢
    have hsz := hsz (((hr11.mono hX10).mono hX11).mono hX12)
    try simp only at hsz
    refine SL.v (op_neqT rfl rfl (by omega)) ?_
    refine SL.nil <| T.condT rfl <| T.seq <| T.region <| SL.mv rfl <| SL.v (op_eqlT rfl rfl (by omega)) ?_
    refine SL.mv rfl <| SL.v (op_load ty36 rfl (by repeat constructor) rfl) ?_
    refine SL.v (op_build st27 (qs := []) rfl rfl) <| SL.w (op_callF en29 (vs := [_, _]) rfl (hsz)) ?_
    rintro _ _ X13 ⟨rfl, hX13, rfl⟩
    refine SL.v (op_pickT rfl rfl) <| SL.as rfl <| SL.nil <| T.ret1 rfl (ResIs.tmp rfl) ?_
    rfl
  · have hne : men64 f &&& adm &&& 126 = 0 := Classical.not_not.1 fun h => hh (hcond.1 h)
    rw [if_neg hh] at hr11 ⊢
    have hsm2 := hsm2 (((hr11.mono hX10).mono hX11).mono hX12) (hX211.trans' hX12)
    try simp only at hsm2
    refine SL.v (op_neqF rfl rfl (by omega)) ?_
    refine SL.nil <| T.condF rfl <| T.skip <| T.seq <| T.region <| SL.mv rfl <| SL.v (op_eqlT rfl rfl (by omega)) ?_
    refine SL.mv rfl <| SL.v (op_load ty36 rfl (by repeat constructor) rfl) ?_
    refine SL.v (op_load ty27 rfl (by repeat constructor) rfl) ?_
    refine SL.w (op_callF en29 (vs := [_, _]) rfl (hsm2)) ?_
    rintro _ _ X13 ⟨rfl, hX13, rfl⟩
    refine SL.v (op_pickT rfl rfl) <| SL.as rfl <| SL.nil <| T.ret1 rfl (ResIs.tmp rfl) ?_
    rfl
end Go.Proofs.YtnpcilglilfajaaGreatDoor
