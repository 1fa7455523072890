/- Nesting and size of an expression, the program's and the specification's. -/
import Derived.Test.YtaooojjhlngcmaaDoorFacts
import Derived.Test.YtaooojjhlngcmaaDoorExR
namespace Go.Proofs.YtaooojjhlngcmaaDoor
section
set_option maxRecDepth 100000
theorem en22 : Enters Tryd.prog 22 := enters_mk Tryd.func22 (by kernel_rfl) rfl
theorem en23 : Enters Tryd.prog 23 := enters_mk Tryd.func23 (by kernel_rfl) rfl
theorem en24 : Enters Tryd.prog 24 := enters_mk Tryd.func24 (by kernel_rfl) rfl
theorem en25 : Enters Tryd.prog 25 := enters_mk Tryd.func25 (by kernel_rfl) rfl
theorem fa27_3 : FAdr Tryd.prog 27 3 3 := fadr_mk Tryd.underlying27 rfl rfl (by kernel_rfl)
theorem fa34_3 : FAdr Tryd.prog 34 3 3 := fadr_mk Tryd.underlying34 rfl rfl (by kernel_rfl)
theorem ty25 : Ty Tryd.prog 25 false 1 := ⟨⟨_, Tryd.underlying25, rfl⟩, by kernel_rfl⟩
theorem ty27 : Ty Tryd.prog 27 true 4 := ⟨⟨_, Tryd.underlying27, rfl⟩, by kernel_rfl⟩
theorem ty32 : Ty Tryd.prog 32 false 1 := ⟨⟨_, Tryd.underlying32, rfl⟩, by kernel_rfl⟩
theorem ty34 : Ty Tryd.prog 34 true 4 := ⟨⟨_, Tryd.underlying34, rfl⟩, by kernel_rfl⟩
theorem z27 : Zero Tryd.prog 27 [.int .i64 0, .int .i64 0, .slice none 0 0, .slice none 0 0] := ⟨zero_of (by kernel_rfl)⟩
theorem z34 : Zero Tryd.prog 34 [.int .u8 0, .int .i64 0, .slice none 0 0, .slice none 0 0] := ⟨zero_of (by kernel_rfl)⟩
end
open Go.RowKit
theorem take_snoc {α : Type} {l : List α} {i : Nat} {a : α} (h : l[i]? = some a) : l.take (i + 1) = l.take i ++ [a] := by
  obtain ⟨h1, h2⟩ := List.getElem?_eq_some_iff.1 h
  rw [List.take_succ_eq_append_getElem h1, h2]
theorem depth_spec (N : Nat) : ∀ {X : PMap} {e : Ex} {r : Row4}, wtE e ≤ N → N < 4000000000000 → ExR .u8 X e r → Spec Tryd.prog 22 [.agg #[r.1, r.2.1, r.2.2.1, r.2.2.2]] X fun u _ => u = .int .i64 (depE e : Int) := by
  induction N with
  | zero => intro X e r h; cases e; rw [wtE] at h; omega
  | succ N ih =>
    intro X e r hN hB h
    cases h with
    | @mk op n ns al vn va rows hn ha hl hr =>
    obtain ⟨Aa, ca, rfl⟩ := ha.form
    have hlen := wtL_len al
    rw [wtE] at hN
    refine Spec.enter Tryd.func22 rfl Tryd.ntmps22 rfl ?_
    intro w0 hw0
    refine T.seq ?_
    refine T.region ?_
    refine SL.x (op_box rfl) rfl rfl ?_
    rintro _ _ _ ⟨B1, rfl, rfl, rfl⟩
    refine SL.y (op_assign (v := .int .i64 ((0 : Nat) : Int)) rfl) rfl rfl ?_
    refine SL.nil ?_
    refine T.seq ?_
    refine T.region ?_
    refine SL.y (op_assign (v := .int .i64 ((0 : Nat) : Int)) rfl) rfl rfl ?_
    refine SL.nil ?_
    refine T.seq ?_
    refine T.seq ?_
    refine T.region ?_
    refine SL.y (op_fieldAddr fa34_3 rfl) rfl rfl ?_
    first | refine SL.y (op_load ty32 rfl (by repeat (first | exact AtO.here | apply AtO.there)) rfl) rfl rfl ?_ | refine SL.y (op_loadX ty32 rfl (by assumption) rfl) rfl rfl ?_
    refine SL.y (op_lenS Tryd.underlying32 rfl) rfl rfl ?_
    refine SL.y (op_move (v := .int .i64 ((0 : Nat) : Int)) rfl) rfl rfl ?_
    refine SL.nil ?_
    refine T.block ?_
    -- loop live [2, 3, 7, 8, 9]
    refine T.drop B1 (by repeat (first | exact AtO.here | apply AtO.there)) ?_
    refine T.loopW (fun m env own X' => ∃ i : Nat, m = rows.length - i ∧ i ≤ rows.length ∧ X.le X' ∧ env = [(3, .int .i64 (depL (al.take i) : Int)), (7, .slice Aa rows.length ca), (8, .int .i64 (rows.length : Int)), (9, .int .i64 (i : Int))] ∧ own = []) rows.length ⟨0, by simp, by omega, PMap.le_refl _, rfl, rfl⟩ (by repeat (first | exact Sub.nil | refine Sub.cons rfl ?_)) ?_
    rintro m _ _ X1 ⟨i, rfl, hi, hX1, rfl, rfl⟩
    have hdw := fun l : List Ex => depL_wt l
    rcases Nat.lt_or_ge i rows.length with hil | hil
    · obtain ⟨r2, hr2⟩ : ∃ r2, rows[i]? = some r2 := ⟨_, List.getElem?_eq_getElem hil⟩
      obtain ⟨a, ha2⟩ : ∃ a, al[i]? = some a := ⟨_, List.getElem?_eq_getElem (by omega)⟩
      have hra := hr i a r2 ha2 hr2
      obtain ⟨bA, pre, rfl, hbA⟩ := ha.blk (by omega)
      obtain ⟨_, _, _, _, _, _, _, _, rfl⟩ := hra.form
      have hwa := wtL_mem (List.mem_of_getElem? ha2)
      have hts := take_snoc ha2
      have hw1 : wtL (al.take (i + 1)) ≤ wtL al := by
        have := wtL_app (al.drop (i + 1)) (al.take (i + 1))
        rw [List.take_append_drop] at this; omega
      have hw2 : wtL (al.take (i + 1)) = wtL (al.take i) + wtE a := by rw [hts, wtL_snoc]
      have q1 := sizL_wt (al.take i)
      have q2 := siz_wt a
      have q3 := depL_wt (al.take i)
      have q4 := dep_wt a
      refine T.seq ?_
      refine T.region ?_
      first | refine SL.y (op_lssT rfl rfl (by omega)) rfl rfl ?_ | refine SL.y (op_lssF rfl rfl (by omega)) rfl rfl ?_ | refine SL.y (op_lss rfl rfl) rfl rfl ?_
      refine SL.nil ?_
      refine T.seq ?_
      refine T.condT rfl ?_
      refine T.skip ?_
      refine T.seq ?_
      refine T.block ?_
      refine T.seq ?_
      refine T.region ?_
      first | refine SL.y (op_indexN Tryd.underlying32 ty34 rfl rfl (by omega)) rfl rfl ?_ | refine SL.y (op_index Tryd.underlying32 ty34 rfl rfl (by omega) (by omega)) rfl rfl ?_
      -- to 12: op
      refine SL.y (op_loadX ty34 rfl (hbA.mono hX1) (row_read rc4_len hr2 (by omega))) rfl rfl ?_
      refine SL.x (op_alloc z34) rfl rfl ?_
      rintro _ _ _ ⟨B5, rfl, rfl, rfl⟩
      refine SL.x (op_store ty34 rfl rfl (by repeat (first | exact AtO.here | apply AtO.there)) rfl rfl rfl) rfl rfl ?_
      rintro _ _ _ ⟨rfl, rfl⟩
      refine SL.nil ?_
      refine T.region ?_
      refine SL.y (op_move rfl) rfl rfl ?_
      first | refine SL.y (op_load ty34 rfl (by repeat (first | exact AtO.here | apply AtO.there)) rfl) rfl rfl ?_ | refine SL.y (op_loadX ty34 rfl (by assumption) rfl) rfl rfl ?_
      -- op
      refine SL.x (op_callF en22 (vs := [_]) rfl (ih (by omega) (by omega) (hra.mono hX1))) rfl rfl ?_
      rintro _ _ X2 ⟨rfl, hX2, rfl⟩
      -- to 16: op
      refine SL.y (op_maxN rfl rfl) rfl rfl ?_
      rw [show max (depL (al.take i)) (depE a) = depL (al.take (i + 1)) by rw [hts, depL_snoc]]
      refine SL.y (op_assign rfl) rfl rfl ?_
      refine SL.nil ?_
      refine T.blk ?_
      refine T.region ?_
      first | refine SL.y (op_addN (q := 1) rfl rfl (by omega)) rfl rfl ?_ | refine SL.y (op_add rfl rfl (by omega) (by omega)) rfl rfl ?_ | refine SL.y (op_addW rfl rfl) rfl rfl ?_
      refine SL.y (op_move rfl) rfl rfl ?_
      refine SL.nil ?_
      -- cut
      refine T.drop B5 (by repeat (first | exact AtO.here | apply AtO.there)) ?_
      exact T.backW (rows.length - (i + 1)) (by omega) ⟨i + 1, rfl, by omega, hX1.trans' hX2, rfl, rfl⟩ (by repeat (first | exact Sub.nil | refine Sub.cons rfl ?_))
    · obtain rfl : i = rows.length := by omega
      rw [show al.take rows.length = al from List.take_of_length_le (by omega)]
      have q1 := sizL_wt al
      have q3 := depL_wt al
      refine T.seq ?_
      refine T.region ?_
      first | refine SL.y (op_lssT rfl rfl (by omega)) rfl rfl ?_ | refine SL.y (op_lssF rfl rfl (by omega)) rfl rfl ?_ | refine SL.y (op_lss rfl rfl) rfl rfl ?_
      refine SL.nil ?_
      refine T.seq ?_
      refine T.condF rfl ?_
      refine T.exit (T.exitCode (T.exitCut (T.exitBlk ?_)))
      refine T.seq ?_
      refine T.region ?_
      refine SL.y (op_move rfl) rfl rfl ?_
      first | refine SL.y (op_addN (q := 1) rfl rfl (by omega)) rfl rfl ?_ | refine SL.y (op_add rfl rfl (by omega) (by omega)) rfl rfl ?_ | refine SL.y (op_addW rfl rfl) rfl rfl ?_
      refine SL.y (op_assign rfl) rfl rfl ?_
      refine SL.nil ?_
      -- ret
      refine T.ret1 rfl (ResIs.tmp rfl) ?_
      rw [depE]
theorem size_spec (N : Nat) : ∀ {X : PMap} {e : Ex} {r : Row4}, wtE e ≤ N → N < 4000000000000 → ExR .u8 X e r → Spec Tryd.prog 24 [.agg #[r.1, r.2.1, r.2.2.1, r.2.2.2]] X fun u _ => u = .int .i64 (sizE e : Int) := by
  induction N with
  | zero => intro X e r h; cases e; rw [wtE] at h; omega
  | succ N ih =>
    intro X e r hN hB h
    cases h with
    | @mk op n ns al vn va rows hn ha hl hr =>
    obtain ⟨Aa, ca, rfl⟩ := ha.form
    have hlen := wtL_len al
    rw [wtE] at hN
    refine Spec.enter Tryd.func24 rfl Tryd.ntmps24 rfl ?_
    intro w0 hw0
    refine T.seq ?_
    refine T.region ?_
    refine SL.x (op_box rfl) rfl rfl ?_
    rintro _ _ _ ⟨B1, rfl, rfl, rfl⟩
    refine SL.y (op_assign (v := .int .i64 ((0 : Nat) : Int)) rfl) rfl rfl ?_
    refine SL.nil ?_
    refine T.seq ?_
    refine T.region ?_
    refine SL.y (op_assign (v := .int .i64 ((1 : Nat) : Int)) rfl) rfl rfl ?_
    refine SL.nil ?_
    refine T.seq ?_
    refine T.seq ?_
    refine T.region ?_
    refine SL.y (op_fieldAddr fa34_3 rfl) rfl rfl ?_
    first | refine SL.y (op_load ty32 rfl (by repeat (first | exact AtO.here | apply AtO.there)) rfl) rfl rfl ?_ | refine SL.y (op_loadX ty32 rfl (by assumption) rfl) rfl rfl ?_
    refine SL.y (op_lenS Tryd.underlying32 rfl) rfl rfl ?_
    refine SL.y (op_move (v := .int .i64 ((0 : Nat) : Int)) rfl) rfl rfl ?_
    refine SL.nil ?_
    refine T.block ?_
    -- loop live [2, 3, 7, 8, 9]
    refine T.drop B1 (by repeat (first | exact AtO.here | apply AtO.there)) ?_
    refine T.loopW (fun m env own X' => ∃ i : Nat, m = rows.length - i ∧ i ≤ rows.length ∧ X.le X' ∧ env = [(3, .int .i64 ((sizL (al.take i) + 1 : Nat) : Int)), (7, .slice Aa rows.length ca), (8, .int .i64 (rows.length : Int)), (9, .int .i64 (i : Int))] ∧ own = []) rows.length ⟨0, by simp, by omega, PMap.le_refl _, rfl, rfl⟩ (by repeat (first | exact Sub.nil | refine Sub.cons rfl ?_)) ?_
    rintro m _ _ X1 ⟨i, rfl, hi, hX1, rfl, rfl⟩
    have hdw := fun l : List Ex => depL_wt l
    rcases Nat.lt_or_ge i rows.length with hil | hil
    · obtain ⟨r2, hr2⟩ : ∃ r2, rows[i]? = some r2 := ⟨_, List.getElem?_eq_getElem hil⟩
      obtain ⟨a, ha2⟩ : ∃ a, al[i]? = some a := ⟨_, List.getElem?_eq_getElem (by omega)⟩
      have hra := hr i a r2 ha2 hr2
      obtain ⟨bA, pre, rfl, hbA⟩ := ha.blk (by omega)
      obtain ⟨_, _, _, _, _, _, _, _, rfl⟩ := hra.form
      have hwa := wtL_mem (List.mem_of_getElem? ha2)
      have hts := take_snoc ha2
      have hw1 : wtL (al.take (i + 1)) ≤ wtL al := by
        have := wtL_app (al.drop (i + 1)) (al.take (i + 1))
        rw [List.take_append_drop] at this; omega
      have hw2 : wtL (al.take (i + 1)) = wtL (al.take i) + wtE a := by rw [hts, wtL_snoc]
      have q1 := sizL_wt (al.take i)
      have q2 := siz_wt a
      have q3 := depL_wt (al.take i)
      have q4 := dep_wt a
      refine T.seq ?_
      refine T.region ?_
      first | refine SL.y (op_lssT rfl rfl (by omega)) rfl rfl ?_ | refine SL.y (op_lssF rfl rfl (by omega)) rfl rfl ?_ | refine SL.y (op_lss rfl rfl) rfl rfl ?_
      refine SL.nil ?_
      refine T.seq ?_
      refine T.condT rfl ?_
      refine T.skip ?_
      refine T.seq ?_
      refine T.block ?_
      refine T.seq ?_
      refine T.region ?_
      first | refine SL.y (op_indexN Tryd.underlying32 ty34 rfl rfl (by omega)) rfl rfl ?_ | refine SL.y (op_index Tryd.underlying32 ty34 rfl rfl (by omega) (by omega)) rfl rfl ?_
      -- to 12: op
      refine SL.y (op_loadX ty34 rfl (hbA.mono hX1) (row_read rc4_len hr2 (by omega))) rfl rfl ?_
      refine SL.x (op_alloc z34) rfl rfl ?_
      rintro _ _ _ ⟨B5, rfl, rfl, rfl⟩
      refine SL.x (op_store ty34 rfl rfl (by repeat (first | exact AtO.here | apply AtO.there)) rfl rfl rfl) rfl rfl ?_
      rintro _ _ _ ⟨rfl, rfl⟩
      refine SL.nil ?_
      refine T.region ?_
      refine SL.y (op_move rfl) rfl rfl ?_
      first | refine SL.y (op_load ty34 rfl (by repeat (first | exact AtO.here | apply AtO.there)) rfl) rfl rfl ?_ | refine SL.y (op_loadX ty34 rfl (by assumption) rfl) rfl rfl ?_
      -- op
      refine SL.x (op_callF en24 (vs := [_]) rfl (ih (by omega) (by omega) (hra.mono hX1))) rfl rfl ?_
      rintro _ _ X2 ⟨rfl, hX2, rfl⟩
      -- to 16: op
      refine SL.y (op_addN rfl rfl (by omega)) rfl rfl ?_
      rw [show sizL (al.take i) + 1 + sizE a = sizL (al.take (i + 1)) + 1 by rw [hts, sizL_snoc]; omega]
      refine SL.y (op_assign rfl) rfl rfl ?_
      refine SL.nil ?_
      refine T.blk ?_
      refine T.region ?_
      first | refine SL.y (op_addN (q := 1) rfl rfl (by omega)) rfl rfl ?_ | refine SL.y (op_add rfl rfl (by omega) (by omega)) rfl rfl ?_ | refine SL.y (op_addW rfl rfl) rfl rfl ?_
      refine SL.y (op_move rfl) rfl rfl ?_
      refine SL.nil ?_
      -- cut
      refine T.drop B5 (by repeat (first | exact AtO.here | apply AtO.there)) ?_
      exact T.backW (rows.length - (i + 1)) (by omega) ⟨i + 1, rfl, by omega, hX1.trans' hX2, rfl, rfl⟩ (by repeat (first | exact Sub.nil | refine Sub.cons rfl ?_))
    · obtain rfl : i = rows.length := by omega
      rw [show al.take rows.length = al from List.take_of_length_le (by omega)]
      have q1 := sizL_wt al
      have q3 := depL_wt al
      refine T.seq ?_
      refine T.region ?_
      first | refine SL.y (op_lssT rfl rfl (by omega)) rfl rfl ?_ | refine SL.y (op_lssF rfl rfl (by omega)) rfl rfl ?_ | refine SL.y (op_lss rfl rfl) rfl rfl ?_
      refine SL.nil ?_
      refine T.seq ?_
      refine T.condF rfl ?_
      refine T.exit (T.exitCode (T.exitCut (T.exitBlk ?_)))
      refine T.seq ?_
      refine T.region ?_
      refine SL.y (op_move rfl) rfl rfl ?_
      refine SL.y (op_assign rfl) rfl rfl ?_
      refine SL.nil ?_
      -- ret
      refine T.ret1 rfl (ResIs.tmp rfl) ?_
      rw [sizE]
theorem rsize_spec (N : Nat) : ∀ {X : PMap} {e : Ex} {r : Row4}, wtE e ≤ N → N < 4000000000000 → ExR .i64 X e r → Spec Tryd.prog 25 [.agg #[r.1, r.2.1, r.2.2.1, r.2.2.2]] X fun u _ => u = .int .i64 (sizE e : Int) := by
  induction N with
  | zero => intro X e r h; cases e; rw [wtE] at h; omega
  | succ N ih =>
    intro X e r hN hB h
    cases h with
    | @mk op n ns al vn va rows hn ha hl hr =>
    obtain ⟨Aa, ca, rfl⟩ := ha.form
    have hlen := wtL_len al
    rw [wtE] at hN
    refine Spec.enter Tryd.func25 rfl Tryd.ntmps25 rfl ?_
    intro w0 hw0
    refine T.seq ?_
    refine T.region ?_
    refine SL.x (op_box rfl) rfl rfl ?_
    rintro _ _ _ ⟨B1, rfl, rfl, rfl⟩
    refine SL.y (op_assign (v := .int .i64 ((0 : Nat) : Int)) rfl) rfl rfl ?_
    refine SL.nil ?_
    refine T.seq ?_
    refine T.region ?_
    refine SL.y (op_assign (v := .int .i64 ((1 : Nat) : Int)) rfl) rfl rfl ?_
    refine SL.nil ?_
    refine T.seq ?_
    refine T.seq ?_
    refine T.region ?_
    refine SL.y (op_fieldAddr fa27_3 rfl) rfl rfl ?_
    first | refine SL.y (op_load ty25 rfl (by repeat (first | exact AtO.here | apply AtO.there)) rfl) rfl rfl ?_ | refine SL.y (op_loadX ty25 rfl (by assumption) rfl) rfl rfl ?_
    refine SL.y (op_lenS Tryd.underlying25 rfl) rfl rfl ?_
    refine SL.y (op_move (v := .int .i64 ((0 : Nat) : Int)) rfl) rfl rfl ?_
    refine SL.nil ?_
    refine T.block ?_
    -- loop live [2, 3, 7, 8, 9]
    refine T.drop B1 (by repeat (first | exact AtO.here | apply AtO.there)) ?_
    refine T.loopW (fun m env own X' => ∃ i : Nat, m = rows.length - i ∧ i ≤ rows.length ∧ X.le X' ∧ env = [(3, .int .i64 ((sizL (al.take i) + 1 : Nat) : Int)), (7, .slice Aa rows.length ca), (8, .int .i64 (rows.length : Int)), (9, .int .i64 (i : Int))] ∧ own = []) rows.length ⟨0, by simp, by omega, PMap.le_refl _, rfl, rfl⟩ (by repeat (first | exact Sub.nil | refine Sub.cons rfl ?_)) ?_
    rintro m _ _ X1 ⟨i, rfl, hi, hX1, rfl, rfl⟩
    have hdw := fun l : List Ex => depL_wt l
    rcases Nat.lt_or_ge i rows.length with hil | hil
    · obtain ⟨r2, hr2⟩ : ∃ r2, rows[i]? = some r2 := ⟨_, List.getElem?_eq_getElem hil⟩
      obtain ⟨a, ha2⟩ : ∃ a, al[i]? = some a := ⟨_, List.getElem?_eq_getElem (by omega)⟩
      have hra := hr i a r2 ha2 hr2
      obtain ⟨bA, pre, rfl, hbA⟩ := ha.blk (by omega)
      obtain ⟨_, _, _, _, _, _, _, _, rfl⟩ := hra.form
      have hwa := wtL_mem (List.mem_of_getElem? ha2)
      have hts := take_snoc ha2
      have hw1 : wtL (al.take (i + 1)) ≤ wtL al := by
        have := wtL_app (al.drop (i + 1)) (al.take (i + 1))
        rw [List.take_append_drop] at this; omega
      have hw2 : wtL (al.take (i + 1)) = wtL (al.take i) + wtE a := by rw [hts, wtL_snoc]
      have q1 := sizL_wt (al.take i)
      have q2 := siz_wt a
      have q3 := depL_wt (al.take i)
      have q4 := dep_wt a
      refine T.seq ?_
      refine T.region ?_
      first | refine SL.y (op_lssT rfl rfl (by omega)) rfl rfl ?_ | refine SL.y (op_lssF rfl rfl (by omega)) rfl rfl ?_ | refine SL.y (op_lss rfl rfl) rfl rfl ?_
      refine SL.nil ?_
      refine T.seq ?_
      refine T.condT rfl ?_
      refine T.skip ?_
      refine T.seq ?_
      refine T.block ?_
      refine T.seq ?_
      refine T.region ?_
      first | refine SL.y (op_indexN Tryd.underlying25 ty27 rfl rfl (by omega)) rfl rfl ?_ | refine SL.y (op_index Tryd.underlying25 ty27 rfl rfl (by omega) (by omega)) rfl rfl ?_
      -- to 12: op
      refine SL.y (op_loadX ty27 rfl (hbA.mono hX1) (row_read rc4_len hr2 (by omega))) rfl rfl ?_
      refine SL.x (op_alloc z27) rfl rfl ?_
      rintro _ _ _ ⟨B5, rfl, rfl, rfl⟩
      refine SL.x (op_store ty27 rfl rfl (by repeat (first | exact AtO.here | apply AtO.there)) rfl rfl rfl) rfl rfl ?_
      rintro _ _ _ ⟨rfl, rfl⟩
      refine SL.nil ?_
      refine T.region ?_
      refine SL.y (op_move rfl) rfl rfl ?_
      first | refine SL.y (op_load ty27 rfl (by repeat (first | exact AtO.here | apply AtO.there)) rfl) rfl rfl ?_ | refine SL.y (op_loadX ty27 rfl (by assumption) rfl) rfl rfl ?_
      -- op
      refine SL.x (op_callF en25 (vs := [_]) rfl (ih (by omega) (by omega) (hra.mono hX1))) rfl rfl ?_
      rintro _ _ X2 ⟨rfl, hX2, rfl⟩
      -- to 16: op
      refine SL.y (op_addN rfl rfl (by omega)) rfl rfl ?_
      rw [show sizL (al.take i) + 1 + sizE a = sizL (al.take (i + 1)) + 1 by rw [hts, sizL_snoc]; omega]
      refine SL.y (op_assign rfl) rfl rfl ?_
      refine SL.nil ?_
      refine T.blk ?_
      refine T.region ?_
      first | refine SL.y (op_addN (q := 1) rfl rfl (by omega)) rfl rfl ?_ | refine SL.y (op_add rfl rfl (by omega) (by omega)) rfl rfl ?_ | refine SL.y (op_addW rfl rfl) rfl rfl ?_
      refine SL.y (op_move rfl) rfl rfl ?_
      refine SL.nil ?_
      -- cut
      refine T.drop B5 (by repeat (first | exact AtO.here | apply AtO.there)) ?_
      exact T.backW (rows.length - (i + 1)) (by omega) ⟨i + 1, rfl, by omega, hX1.trans' hX2, rfl, rfl⟩ (by repeat (first | exact Sub.nil | refine Sub.cons rfl ?_))
    · obtain rfl : i = rows.length := by omega
      rw [show al.take rows.length = al from List.take_of_length_le (by omega)]
      have q1 := sizL_wt al
      have q3 := depL_wt al
      refine T.seq ?_
      refine T.region ?_
      first | refine SL.y (op_lssT rfl rfl (by omega)) rfl rfl ?_ | refine SL.y (op_lssF rfl rfl (by omega)) rfl rfl ?_ | refine SL.y (op_lss rfl rfl) rfl rfl ?_
      refine SL.nil ?_
      refine T.seq ?_
      refine T.condF rfl ?_
      refine T.exit (T.exitCode (T.exitCut (T.exitBlk ?_)))
      refine T.seq ?_
      refine T.region ?_
      refine SL.y (op_move rfl) rfl rfl ?_
      refine SL.y (op_assign rfl) rfl rfl ?_
      refine SL.nil ?_
      -- ret
      refine T.ret1 rfl (ResIs.tmp rfl) ?_
      rw [sizE]
theorem rdepth_spec (N : Nat) : ∀ {X : PMap} {e : Ex} {r : Row4}, wtE e ≤ N → N < 4000000000000 → ExR .i64 X e r → Spec Tryd.prog 23 [.agg #[r.1, r.2.1, r.2.2.1, r.2.2.2]] X fun u _ => u = .int .i64 (depE e : Int) := by
  induction N with
  | zero => intro X e r h; cases e; rw [wtE] at h; omega
  | succ N ih =>
    intro X e r hN hB h
    cases h with
    | @mk op n ns al vn va rows hn ha hl hr =>
    obtain ⟨Aa, ca, rfl⟩ := ha.form
    have hlen := wtL_len al
    rw [wtE] at hN
    refine Spec.enter Tryd.func23 rfl Tryd.ntmps23 rfl ?_
    intro w0 hw0
    refine T.seq ?_
    refine T.region ?_
    refine SL.x (op_box rfl) rfl rfl ?_
    rintro _ _ _ ⟨B1, rfl, rfl, rfl⟩
    refine SL.y (op_assign (v := .int .i64 ((0 : Nat) : Int)) rfl) rfl rfl ?_
    refine SL.nil ?_
    refine T.seq ?_
    refine T.region ?_
    refine SL.y (op_assign (v := .int .i64 ((0 : Nat) : Int)) rfl) rfl rfl ?_
    refine SL.nil ?_
    refine T.seq ?_
    refine T.seq ?_
    refine T.region ?_
    refine SL.y (op_fieldAddr fa27_3 rfl) rfl rfl ?_
    first | refine SL.y (op_load ty25 rfl (by repeat (first | exact AtO.here | apply AtO.there)) rfl) rfl rfl ?_ | refine SL.y (op_loadX ty25 rfl (by assumption) rfl) rfl rfl ?_
    refine SL.y (op_lenS Tryd.underlying25 rfl) rfl rfl ?_
    refine SL.y (op_move (v := .int .i64 ((0 : Nat) : Int)) rfl) rfl rfl ?_
    refine SL.nil ?_
    refine T.block ?_
    -- loop live [2, 3, 8, 9, 10]
    refine T.drop B1 (by repeat (first | exact AtO.here | apply AtO.there)) ?_
    refine T.loopW (fun m env own X' => ∃ i : Nat, m = rows.length - i ∧ i ≤ rows.length ∧ X.le X' ∧ env = [(3, .int .i64 (depL (al.take i) : Int)), (8, .slice Aa rows.length ca), (9, .int .i64 (rows.length : Int)), (10, .int .i64 (i : Int))] ∧ own = []) rows.length ⟨0, by simp, by omega, PMap.le_refl _, rfl, rfl⟩ (by repeat (first | exact Sub.nil | refine Sub.cons rfl ?_)) ?_
    rintro m _ _ X1 ⟨i, rfl, hi, hX1, rfl, rfl⟩
    have hdw := fun l : List Ex => depL_wt l
    rcases Nat.lt_or_ge i rows.length with hil | hil
    · obtain ⟨r2, hr2⟩ : ∃ r2, rows[i]? = some r2 := ⟨_, List.getElem?_eq_getElem hil⟩
      obtain ⟨a, ha2⟩ : ∃ a, al[i]? = some a := ⟨_, List.getElem?_eq_getElem (by omega)⟩
      have hra := hr i a r2 ha2 hr2
      obtain ⟨bA, pre, rfl, hbA⟩ := ha.blk (by omega)
      obtain ⟨_, _, _, _, _, _, _, _, rfl⟩ := hra.form
      have hwa := wtL_mem (List.mem_of_getElem? ha2)
      have hts := take_snoc ha2
      have hw1 : wtL (al.take (i + 1)) ≤ wtL al := by
        have := wtL_app (al.drop (i + 1)) (al.take (i + 1))
        rw [List.take_append_drop] at this; omega
      have hw2 : wtL (al.take (i + 1)) = wtL (al.take i) + wtE a := by rw [hts, wtL_snoc]
      have q1 := sizL_wt (al.take i)
      have q2 := siz_wt a
      have q3 := depL_wt (al.take i)
      have q4 := dep_wt a
      refine T.seq ?_
      refine T.region ?_
      first | refine SL.y (op_lssT rfl rfl (by omega)) rfl rfl ?_ | refine SL.y (op_lssF rfl rfl (by omega)) rfl rfl ?_ | refine SL.y (op_lss rfl rfl) rfl rfl ?_
      refine SL.nil ?_
      refine T.seq ?_
      refine T.condT rfl ?_
      refine T.skip ?_
      refine T.seq ?_
      refine T.block ?_
      refine T.seq ?_
      refine T.region ?_
      first | refine SL.y (op_indexN Tryd.underlying25 ty27 rfl rfl (by omega)) rfl rfl ?_ | refine SL.y (op_index Tryd.underlying25 ty27 rfl rfl (by omega) (by omega)) rfl rfl ?_
      -- to 13: op
      refine SL.y (op_loadX ty27 rfl (hbA.mono hX1) (row_read rc4_len hr2 (by omega))) rfl rfl ?_
      refine SL.x (op_alloc z27) rfl rfl ?_
      rintro _ _ _ ⟨B5, rfl, rfl, rfl⟩
      refine SL.x (op_store ty27 rfl rfl (by repeat (first | exact AtO.here | apply AtO.there)) rfl rfl rfl) rfl rfl ?_
      rintro _ _ _ ⟨rfl, rfl⟩
      refine SL.nil ?_
      refine T.seq ?_
      refine T.region ?_
      first | refine SL.y (op_load ty27 rfl (by repeat (first | exact AtO.here | apply AtO.there)) rfl) rfl rfl ?_ | refine SL.y (op_loadX ty27 rfl (by assumption) rfl) rfl rfl ?_
      -- op
      refine SL.x (op_callF en23 (vs := [_]) rfl (ih (by omega) (by omega) (hra.mono hX1))) rfl rfl ?_
      rintro _ _ X2 ⟨rfl, hX2, rfl⟩
      refine SL.y (op_assign rfl) rfl rfl ?_
      refine SL.nil ?_
      refine T.seq ?_
      refine T.region ?_
      refine SL.y (op_move rfl) rfl rfl ?_
      refine SL.y (op_move rfl) rfl rfl ?_
      first | refine SL.y (op_gtrT rfl rfl (by omega)) rfl rfl ?_ | refine SL.y (op_gtrF rfl rfl (by omega)) rfl rfl ?_ | refine SL.y (op_gtr rfl rfl) rfl rfl ?_
      refine SL.nil ?_
      -- cond
      have hm : depL (al.take (i + 1)) = max (depL (al.take i)) (depE a) := by rw [hts, depL_snoc]
      by_cases hc : (depL (al.take i) : Int) < (depE a : Int)
      · rw [decide_eq_true hc]
        refine T.condT rfl ?_
        refine T.region ?_
        refine SL.y (op_move rfl) rfl rfl ?_
        refine SL.y (op_assign rfl) rfl rfl ?_
        refine SL.nil ?_
        refine T.blk ?_
        refine T.region ?_
        first | refine SL.y (op_addN (q := 1) rfl rfl (by omega)) rfl rfl ?_ | refine SL.y (op_add rfl rfl (by omega) (by omega)) rfl rfl ?_ | refine SL.y (op_addW rfl rfl) rfl rfl ?_
        refine SL.y (op_move rfl) rfl rfl ?_
        refine SL.nil ?_
        -- cut
        rw [show depE a = depL (al.take (i + 1)) by omega]
        refine T.drop B5 (by repeat (first | exact AtO.here | apply AtO.there)) ?_
        exact T.backW (rows.length - (i + 1)) (by omega) ⟨i + 1, rfl, by omega, hX1.trans' hX2, rfl, rfl⟩ (by repeat (first | exact Sub.nil | refine Sub.cons rfl ?_))
      · rw [decide_eq_false hc]
        refine T.condF rfl ?_
        refine T.skip ?_
        refine T.blk ?_
        refine T.region ?_
        first | refine SL.y (op_addN (q := 1) rfl rfl (by omega)) rfl rfl ?_ | refine SL.y (op_add rfl rfl (by omega) (by omega)) rfl rfl ?_ | refine SL.y (op_addW rfl rfl) rfl rfl ?_
        refine SL.y (op_move rfl) rfl rfl ?_
        refine SL.nil ?_
        -- cut
        rw [show depL (al.take i) = depL (al.take (i + 1)) by omega]
        refine T.drop B5 (by repeat (first | exact AtO.here | apply AtO.there)) ?_
        exact T.backW (rows.length - (i + 1)) (by omega) ⟨i + 1, rfl, by omega, hX1.trans' hX2, rfl, rfl⟩ (by repeat (first | exact Sub.nil | refine Sub.cons rfl ?_))
    · obtain rfl : i = rows.length := by omega
      rw [show al.take rows.length = al from List.take_of_length_le (by omega)]
      have q1 := sizL_wt al
      have q3 := depL_wt al
      refine T.seq ?_
      refine T.region ?_
      first | refine SL.y (op_lssT rfl rfl (by omega)) rfl rfl ?_ | refine SL.y (op_lssF rfl rfl (by omega)) rfl rfl ?_ | refine SL.y (op_lss rfl rfl) rfl rfl ?_
      refine SL.nil ?_
      refine T.seq ?_
      refine T.condF rfl ?_
      refine T.exit (T.exitCode (T.exitCut (T.exitBlk ?_)))
      refine T.seq ?_
      refine T.region ?_
      refine SL.y (op_move rfl) rfl rfl ?_
      first | refine SL.y (op_addN (q := 1) rfl rfl (by omega)) rfl rfl ?_ | refine SL.y (op_add rfl rfl (by omega) (by omega)) rfl rfl ?_ | refine SL.y (op_addW rfl rfl) rfl rfl ?_
      refine SL.y (op_assign rfl) rfl rfl ?_
      refine SL.nil ?_
      -- ret
      refine T.ret1 rfl (ResIs.tmp rfl) ?_
      rw [depE]
end Go.Proofs.YtaooojjhlngcmaaDoor
