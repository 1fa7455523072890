/- What the law's proof rests on: the engine, a small separation logic over the kit's walk, and contracts of the functions that the law reaches. Part 6. -/
import Derived.Test.YtnabbnhefjfegaaGreatDoorPart1
import Derived.Test.YtnabbnhefjfegaaGreatDoorPart2
import Derived.Test.YtnabbnhefjfegaaGreatDoorPart3
import Derived.Test.YtnabbnhefjfegaaGreatDoorPart4
import Derived.Test.YtnabbnhefjfegaaGreatDoorPart5
namespace Go.Proofs.YtnabbnhefjfegaaGreatDoor
section
set_option maxRecDepth 100000
theorem en23 : Enters Tryz.prog 23 := enters_mk Tryz.func23 (by kernel_rfl) rfl
theorem en52 : Enters Tryz.prog 52 := enters_mk Tryz.func52 (by kernel_rfl) rfl
theorem en53 : Enters Tryz.prog 53 := enters_mk Tryz.func53 (by kernel_rfl) rfl
end
open Go.RowKit
noncomputable instance decEx : DecidableEq Ex := fun _ _ => Classical.propDecidable _
noncomputable instance decCon : DecidableEq Con := fun _ _ => Classical.propDecidable _
theorem ex_eq {op op' : Nat} {n n' : Int} {ns ns' : List ByteArray} {al al' : List Ex} : Ex.mk op n ns al = Ex.mk op' n' ns' al' ↔ op = op' ∧ n = n' ∧ ns = ns' ∧ al = al' := by simp
theorem take_eq {α : Type} {l l' : List α} {i : Nat} {a b : α} (ha : l[i]? = some a) (hb : l'[i]? = some b) (h : l.take i = l'.take i) : (l.take (i + 1) = l'.take (i + 1)) ↔ a = b := by
  rw [take_snoc ha, take_snoc hb, h]
  simp
theorem ne_at {α : Type} {l l' : List α} {i : Nat} {a b : α} (ha : l[i]? = some a) (hb : l'[i]? = some b) (h : a ≠ b) : l ≠ l' := fun e => by
  subst e; rw [ha] at hb; cases hb; exact h rfl
theorem eqStrs_spec {X : PMap} {v v' : Value} {l l' : List ByteArray} (h : RowR strC X v l) (h' : RowR strC X v' l') (hl : l.length < 1000000000) : Spec Tryz.prog 52 [v, v'] X fun u _ => u = .bool (decide (l = l')) := by
  obtain ⟨A, cp, rfl⟩ := h.form
  obtain ⟨A', cp', rfl⟩ := h'.form
  by_cases hlen : l.length = l'.length
  case neg =>
    refine Spec.enter Tryz.func52 rfl Tryz.ntmps52 rfl ?_
    intro w0 hw0
    refine T.seq ?_
    refine T.region ?_
    refine SL.y (op_assign rfl) rfl rfl ?_
    refine SL.nil ?_
    refine T.seq ?_
    refine T.seq ?_
    refine T.region ?_
    refine SL.y (op_move rfl) rfl rfl ?_
    refine SL.y (op_lenS Tryz.underlying37 rfl) rfl rfl ?_
    refine SL.y (op_move rfl) rfl rfl ?_
    refine SL.y (op_lenS Tryz.underlying37 rfl) rfl rfl ?_
    first | refine SL.y (op_neqT rfl rfl (by omega)) rfl rfl ?_ | refine SL.y (op_neqF rfl rfl (by omega)) rfl rfl ?_ | refine SL.y (op_neq rfl rfl) rfl rfl ?_
    refine SL.nil ?_
    refine T.condT rfl ?_
    refine T.seq ?_
    refine T.region ?_
    refine SL.y (op_assign rfl) rfl rfl ?_
    refine SL.nil ?_
    refine T.ret1 rfl (ResIs.tmp rfl) ?_
    rw [decide_eq_false fun e => hlen (by rw [e])]
  refine Spec.enter Tryz.func52 rfl Tryz.ntmps52 rfl ?_
  intro w0 hw0
  refine T.seq ?_
  refine T.region ?_
  refine SL.y (op_assign rfl) rfl rfl ?_
  refine SL.nil ?_
  refine T.seq ?_
  refine T.seq ?_
  refine T.region ?_
  refine SL.y (op_move rfl) rfl rfl ?_
  refine SL.y (op_lenS Tryz.underlying37 rfl) rfl rfl ?_
  refine SL.y (op_move rfl) rfl rfl ?_
  refine SL.y (op_lenS Tryz.underlying37 rfl) rfl rfl ?_
  first | refine SL.y (op_neqT rfl rfl (by omega)) rfl rfl ?_ | refine SL.y (op_neqF rfl rfl (by omega)) rfl rfl ?_ | refine SL.y (op_neq rfl rfl) rfl rfl ?_
  refine SL.nil ?_
  refine T.condF rfl ?_
  refine T.skip ?_
  refine T.seq ?_
  refine T.seq ?_
  refine T.region ?_
  refine SL.y (op_move rfl) rfl rfl ?_
  refine SL.y (op_lenS Tryz.underlying37 rfl) rfl rfl ?_
  refine SL.y (op_move (v := .int .i64 ((0 : Nat) : Int)) rfl) rfl rfl ?_
  refine SL.nil ?_
  refine T.block ?_
  refine T.loopW (fun m env own X' => ∃ i : Nat, m = l.length - i ∧ i ≤ l.length ∧ X.le X' ∧ l.take i = l'.take i ∧ env = [(0, .slice A l.length cp), (1, .slice A' l'.length cp'), (12, .int .i64 (l.length : Int)), (13, .int .i64 (i : Int))] ∧ own = []) l.length ⟨0, by simp, by omega, PMap.le_refl _, by simp, rfl, rfl⟩ (by repeat (first | exact Sub.nil | refine Sub.cons rfl ?_)) ?_
  rintro m _ _ X1 ⟨i, rfl, hi, hX1, heq, rfl, rfl⟩
  rcases Nat.lt_or_ge i l.length with hil | hil
  · obtain ⟨x, hx⟩ : ∃ x, l[i]? = some x := ⟨_, List.getElem?_eq_getElem hil⟩
    obtain ⟨y, hy⟩ : ∃ y, l'[i]? = some y := ⟨_, List.getElem?_eq_getElem (by omega)⟩
    obtain ⟨b, pre, rfl, hB⟩ := h.blk (by omega)
    obtain ⟨b', pre', rfl, hB'⟩ := h'.blk (by omega)
    refine T.seq ?_
    refine T.region ?_
    first | refine SL.y (op_lssT rfl rfl (by omega)) rfl rfl ?_ | refine SL.y (op_lssF rfl rfl (by omega)) rfl rfl ?_ | refine SL.y (op_lss rfl rfl) rfl rfl ?_
    refine SL.nil ?_
    refine T.seq ?_
    refine T.condT rfl ?_
    refine T.skip ?_
    refine T.seq ?_
    refine T.block ?_
    refine T.seq ?_
    refine T.region ?_
    refine SL.y (op_move rfl) rfl rfl ?_
    refine SL.y (op_assign rfl) rfl rfl ?_
    refine SL.nil ?_
    refine T.seq ?_
    refine T.draw (by kernel_rfl) 9 [.t 0, .t 1, .t 2, .t 3, .t 4, .t 5, .t 6, .t 7, .t 8] (by kernel_rfl) ?_
    refine SD.take rfl panicBody (op_move rfl) rfl rfl ?_
    refine SD.take rfl panicBody (op_move rfl) rfl rfl ?_
    first | refine SD.take rfl panicBody (op_indexN Tryz.underlying37 ty9 rfl rfl (by omega)) rfl rfl ?_ | refine SD.take rfl panicBody (op_index Tryz.underlying37 ty9 rfl rfl (by omega) (by omega)) rfl rfl ?_
    refine SD.take rfl panicBody (op_loadX ty9 rfl (hB.mono hX1) (str_read hx (by omega))) rfl rfl ?_
    refine SD.take rfl panicBody (op_move rfl) rfl rfl ?_
    refine SD.take rfl panicBody (op_move rfl) rfl rfl ?_
    first | refine SD.take rfl panicBody (op_indexN Tryz.underlying37 ty9 rfl rfl (by omega)) rfl rfl ?_ | refine SD.take rfl panicBody (op_index Tryz.underlying37 ty9 rfl rfl (by omega) (by omega)) rfl rfl ?_
    refine SD.take rfl panicBody (op_loadX ty9 rfl (hB'.mono hX1) (str_read hy (by omega))) rfl rfl ?_
    refine SD.take rfl panicBody (op_neqStrD rfl rfl) rfl rfl ?_
    refine SD.nil ?_
    show SL _ _ _ _ _ _ _ [] _ _ _
    refine SL.nil ?_
    by_cases hxy : x = y
    · rw [decide_eq_true hxy]
      refine T.condF rfl ?_
      refine T.skip ?_
      refine T.blk ?_
      refine T.region ?_
      first | refine SL.y (op_addN (q := 1) rfl rfl (by omega)) rfl rfl ?_ | refine SL.y (op_add rfl rfl (by omega) (by omega)) rfl rfl ?_ | refine SL.y (op_addW rfl rfl) rfl rfl ?_
      refine SL.y (op_move rfl) rfl rfl ?_
      refine SL.nil ?_
      exact T.backW (l.length - (i + 1)) (by omega) ⟨i + 1, rfl, by omega, hX1, (take_eq hx hy heq).2 hxy, rfl, rfl⟩ (by repeat (first | exact Sub.nil | refine Sub.cons rfl ?_))
    · rw [decide_eq_false hxy]
      refine T.condT rfl ?_
      refine T.seq ?_
      refine T.region ?_
      refine SL.y (op_assign rfl) rfl rfl ?_
      refine SL.nil ?_
      refine T.ret1 rfl (ResIs.tmp rfl) ?_
      rw [decide_eq_false (ne_at hx hy hxy)]
  · obtain rfl : i = l.length := by omega
    rw [List.take_length, hlen, List.take_length] at heq
    refine T.seq ?_
    refine T.region ?_
    first | refine SL.y (op_lssT rfl rfl (by omega)) rfl rfl ?_ | refine SL.y (op_lssF rfl rfl (by omega)) rfl rfl ?_ | refine SL.y (op_lss rfl rfl) rfl rfl ?_
    refine SL.nil ?_
    refine T.seq ?_
    refine T.condF rfl ?_
    refine T.exit (T.exitCode (T.exitCut (T.exitBlk ?_)))
    refine T.seq ?_
    refine T.region ?_
    refine SL.y (op_assign rfl) rfl rfl ?_
    refine SL.nil ?_
    refine T.ret1 rfl (ResIs.tmp rfl) ?_
    rw [decide_eq_true heq]
theorem eqFn_spec {X : PMap} {va vb : Value} {al bl : List Ex} {rows rows' : List Row4} (ha : RowR rc4 X va rows) (hb : RowR rc4 X vb rows') (hla : rows.length = al.length) (hlb : rows'.length = bl.length) (hl : al.length < 1000000000)
    (hra : ∀ (i : Nat) (a : Ex) (r : Row4), al[i]? = some a → rows[i]? = some r → ExR .u8 X a r) (hrb : ∀ (i : Nat) (a : Ex) (r : Row4), bl[i]? = some a → rows'[i]? = some r → ExR .u8 X a r)
    (hf : ∀ {X' : PMap} {a b : Ex} {r r' : Row4}, a ∈ al → ExR .u8 X' a r → ExR .u8 X' b r' → Spec Tryz.prog 23 [.agg #[r.1, r.2.1, r.2.2.1, r.2.2.2], .agg #[r'.1, r'.2.1, r'.2.2.1, r'.2.2.2]] X' fun u _ => u = .bool (decide (a = b))) :
    Spec Tryz.prog 53 [va, vb, .func (.func 23) #[] #[]] X fun u _ => u = .bool (decide (al = bl)) := by
  obtain ⟨A, cp, rfl⟩ := ha.form
  obtain ⟨A', cp', rfl⟩ := hb.form
  by_cases hlen : al.length = bl.length
  case neg =>
    refine Spec.enter Tryz.func53 rfl Tryz.ntmps53 rfl ?_
    intro w0 hw0
    refine T.seq ?_
    refine T.region ?_
    refine SL.y (op_assign rfl) rfl rfl ?_
    refine SL.nil ?_
    refine T.seq ?_
    refine T.seq ?_
    refine T.region ?_
    refine SL.y (op_move rfl) rfl rfl ?_
    refine SL.y (op_lenS Tryz.underlying38 rfl) rfl rfl ?_
    refine SL.y (op_move rfl) rfl rfl ?_
    refine SL.y (op_lenS Tryz.underlying38 rfl) rfl rfl ?_
    first | refine SL.y (op_neqT rfl rfl (by omega)) rfl rfl ?_ | refine SL.y (op_neqF rfl rfl (by omega)) rfl rfl ?_ | refine SL.y (op_neq rfl rfl) rfl rfl ?_
    refine SL.nil ?_
    refine T.condT rfl ?_
    refine T.seq ?_
    refine T.region ?_
    refine SL.y (op_assign rfl) rfl rfl ?_
    refine SL.nil ?_
    refine T.ret1 rfl (ResIs.tmp rfl) ?_
    rw [decide_eq_false fun e => hlen (by rw [e])]
  refine Spec.enter Tryz.func53 rfl Tryz.ntmps53 rfl ?_
  intro w0 hw0
  refine T.seq ?_
  refine T.region ?_
  refine SL.y (op_assign rfl) rfl rfl ?_
  refine SL.nil ?_
  refine T.seq ?_
  refine T.seq ?_
  refine T.region ?_
  refine SL.y (op_move rfl) rfl rfl ?_
  refine SL.y (op_lenS Tryz.underlying38 rfl) rfl rfl ?_
  refine SL.y (op_move rfl) rfl rfl ?_
  refine SL.y (op_lenS Tryz.underlying38 rfl) rfl rfl ?_
  first | refine SL.y (op_neqT rfl rfl (by omega)) rfl rfl ?_ | refine SL.y (op_neqF rfl rfl (by omega)) rfl rfl ?_ | refine SL.y (op_neq rfl rfl) rfl rfl ?_
  refine SL.nil ?_
  refine T.condF rfl ?_
  refine T.skip ?_
  refine T.seq ?_
  refine T.seq ?_
  refine T.region ?_
  refine SL.y (op_move rfl) rfl rfl ?_
  refine SL.y (op_lenS Tryz.underlying38 rfl) rfl rfl ?_
  refine SL.y (op_move (v := .int .i64 ((0 : Nat) : Int)) rfl) rfl rfl ?_
  refine SL.nil ?_
  refine T.block ?_
  refine T.loopW (fun m env own X' => ∃ i : Nat, m = rows.length - i ∧ i ≤ rows.length ∧ X.le X' ∧ al.take i = bl.take i ∧ env = [(1, .slice A' rows'.length cp'), (2, .func (.func 23) #[] #[]), (15, .slice A rows.length cp), (16, .int .i64 (rows.length : Int)), (17, .int .i64 (i : Int))] ∧ own = []) rows.length ⟨0, by simp, by omega, PMap.le_refl _, by simp, rfl, rfl⟩ (by repeat (first | exact Sub.nil | refine Sub.cons rfl ?_)) ?_
  rintro m _ _ X1 ⟨i, rfl, hi, hX1, heq, rfl, rfl⟩
  rcases Nat.lt_or_ge i rows.length with hil | hil
  · obtain ⟨r, hr⟩ : ∃ r, rows[i]? = some r := ⟨_, List.getElem?_eq_getElem hil⟩
    obtain ⟨r', hr'⟩ : ∃ r, rows'[i]? = some r := ⟨_, List.getElem?_eq_getElem (by omega)⟩
    obtain ⟨x, hx⟩ : ∃ x, al[i]? = some x := ⟨_, List.getElem?_eq_getElem (by omega)⟩
    obtain ⟨y, hy⟩ : ∃ y, bl[i]? = some y := ⟨_, List.getElem?_eq_getElem (by omega)⟩
    have h1 := (hra i x r hx hr).mono hX1
    have h2 := (hrb i y r' hy hr').mono hX1
    obtain ⟨b, pre, rfl, hB⟩ := ha.blk (by omega)
    obtain ⟨b', pre', rfl, hB'⟩ := hb.blk (by omega)
    have hcall := hf (List.mem_of_getElem? hx) h1 h2
    obtain ⟨_, _, _, _, _, _, _, _, rfl⟩ := h1.form
    obtain ⟨_, _, _, _, _, _, _, _, rfl⟩ := h2.form
    try simp only at hcall
    refine T.seq ?_
    refine T.region ?_
    first | refine SL.y (op_lssT rfl rfl (by omega)) rfl rfl ?_ | refine SL.y (op_lssF rfl rfl (by omega)) rfl rfl ?_ | refine SL.y (op_lss rfl rfl) rfl rfl ?_
    refine SL.nil ?_
    refine T.seq ?_
    refine T.condT rfl ?_
    refine T.skip ?_
    refine T.seq ?_
    refine T.block ?_
    refine T.seq ?_
    refine T.region ?_
    refine SL.y (op_move rfl) rfl rfl ?_
    first | refine SL.y (op_indexN Tryz.underlying38 ty40 rfl rfl (by omega)) rfl rfl ?_ | refine SL.y (op_index Tryz.underlying38 ty40 rfl rfl (by omega) (by omega)) rfl rfl ?_
    refine SL.y (op_loadX ty40 rfl (hB.mono hX1) (row_read rc4_len hr (by omega))) rfl rfl ?_
    refine SL.x (op_alloc z40) rfl rfl ?_
    rintro _ _ _ ⟨B8, rfl, rfl, rfl⟩
    refine SL.y (op_assign rfl) rfl rfl ?_
    refine SL.x (op_store ty40 rfl rfl (by repeat constructor) rfl rfl rfl) rfl rfl ?_
    rintro _ _ _ ⟨rfl, rfl⟩
    refine SL.nil ?_
    refine T.seq ?_
    refine T.region ?_
    refine SL.y (op_move rfl) rfl rfl ?_
    refine SL.y (op_move rfl) rfl rfl ?_
    first | refine SL.y (op_indexN Tryz.underlying38 ty40 rfl rfl (by omega)) rfl rfl ?_ | refine SL.y (op_index Tryz.underlying38 ty40 rfl rfl (by omega) (by omega)) rfl rfl ?_
    refine SL.y (op_loadX ty40 rfl (hB'.mono hX1) (row_read rc4_len hr' (by omega))) rfl rfl ?_
    refine SL.x (op_alloc z40) rfl rfl ?_
    rintro _ _ _ ⟨B9, rfl, rfl, rfl⟩
    refine SL.x (op_store ty40 rfl rfl (by repeat constructor) rfl rfl rfl) rfl rfl ?_
    rintro _ _ _ ⟨rfl, rfl⟩
    refine SL.nil ?_
    refine T.seq ?_
    refine T.region ?_
    refine SL.y (op_move rfl) rfl rfl ?_
    first | refine SL.y (op_load ty40 rfl (by repeat constructor) rfl) rfl rfl ?_ | refine SL.y (op_loadX ty40 rfl (by assumption) rfl) rfl rfl ?_
    first | refine SL.y (op_load ty40 rfl (by repeat constructor) rfl) rfl rfl ?_ | refine SL.y (op_loadX ty40 rfl (by assumption) rfl) rfl rfl ?_
    refine SL.x (op_call en23 rfl (vs := [_, _]) rfl hcall) rfl rfl ?_
    rintro _ _ X2 ⟨rfl, hX2, rfl⟩
    refine SL.y (op_not rfl) rfl rfl ?_
    refine SL.nil ?_
    by_cases hxy : x = y
    · rw [decide_eq_true hxy]
      refine T.condF rfl ?_
      refine T.skip ?_
      refine T.blk ?_
      refine T.region ?_
      first | refine SL.y (op_addN (q := 1) rfl rfl (by omega)) rfl rfl ?_ | refine SL.y (op_add rfl rfl (by omega) (by omega)) rfl rfl ?_ | refine SL.y (op_addW rfl rfl) rfl rfl ?_
      refine SL.y (op_move rfl) rfl rfl ?_
      refine SL.nil ?_
      refine T.drop B8 (by repeat constructor) ?_
      refine T.drop B9 (by repeat constructor) ?_
      exact T.backW (rows.length - (i + 1)) (by omega) ⟨i + 1, rfl, by omega, hX1.trans' hX2, (take_eq hx hy heq).2 hxy, rfl, rfl⟩ (by repeat (first | exact Sub.nil | refine Sub.cons rfl ?_))
    · rw [decide_eq_false hxy]
      refine T.condT rfl ?_
      refine T.seq ?_
      refine T.region ?_
      refine SL.y (op_assign rfl) rfl rfl ?_
      refine SL.nil ?_
      refine T.ret1 rfl (ResIs.tmp rfl) ?_
      rw [decide_eq_false (ne_at hx hy hxy)]
  · obtain rfl : i = rows.length := by omega
    rw [List.take_of_length_le (by omega), List.take_of_length_le (by omega)] at heq
    refine T.seq ?_
    refine T.region ?_
    first | refine SL.y (op_lssT rfl rfl (by omega)) rfl rfl ?_ | refine SL.y (op_lssF rfl rfl (by omega)) rfl rfl ?_ | refine SL.y (op_lss rfl rfl) rfl rfl ?_
    refine SL.nil ?_
    refine T.seq ?_
    refine T.condF rfl ?_
    refine T.exit (T.exitCode (T.exitCut (T.exitBlk ?_)))
    refine T.seq ?_
    refine T.region ?_
    refine SL.y (op_assign rfl) rfl rfl ?_
    refine SL.nil ?_
    refine T.ret1 rfl (ResIs.tmp rfl) ?_
    rw [decide_eq_true heq]
theorem eqE_spec (N : Nat) : ∀ {X : PMap} {a b : Ex} {r r' : Row4}, wtE a ≤ N → N < 100000000 → ExR .u8 X a r → ExR .u8 X b r' → Spec Tryz.prog 23 [.agg #[r.1, r.2.1, r.2.2.1, r.2.2.2], .agg #[r'.1, r'.2.1, r'.2.2.1, r'.2.2.2]] X fun u _ => u = .bool (decide (a = b)) := by
  induction N with
  | zero => intro X a b r r' h; cases a; rw [wtE] at h; omega
  | succ N ih =>
    intro X a b r r' hN hB h h'
    cases h with
    | @mk op n ns al vn va rows hn ha hl hr =>
    cases h' with
    | @mk op' n' ns' al' vn' va' rows' hn' ha' hl' hr' =>
    obtain ⟨Aa, ca, rfl⟩ := ha.form
    obtain ⟨An, cn, rfl⟩ := hn.form
    obtain ⟨Aa', ca', rfl⟩ := ha'.form
    obtain ⟨An', cn', rfl⟩ := hn'.form
    have hlen := wtL_len al
    have hnl := wtS_len ns
    rw [wtE] at hN
    by_cases h1 : op = op'
    case neg =>
      refine Spec.enter Tryz.func23 rfl Tryz.ntmps23 rfl ?_
      intro w0 hw0
      refine T.seq ?_
      refine T.region ?_
      refine SL.x (op_box rfl) rfl rfl ?_
      rintro _ _ _ ⟨B2, rfl, rfl, rfl⟩
      refine SL.x (op_box rfl) rfl rfl ?_
      rintro _ _ _ ⟨B3, rfl, rfl, rfl⟩
      refine SL.y (op_assign rfl) rfl rfl ?_
      refine SL.nil ?_
      refine T.seq ?_
      refine T.region ?_
      refine SL.y (op_fieldAddr fa40_0 rfl) rfl rfl ?_
      first | refine SL.y (op_load ty36 rfl (by repeat constructor) rfl) rfl rfl ?_ | refine SL.y (op_loadX ty36 rfl (by assumption) rfl) rfl rfl ?_
      refine SL.y (op_fieldAddr fa40_0 rfl) rfl rfl ?_
      first | refine SL.y (op_load ty36 rfl (by repeat constructor) rfl) rfl rfl ?_ | refine SL.y (op_loadX ty36 rfl (by assumption) rfl) rfl rfl ?_
      first | refine SL.y (op_eqlT rfl rfl (by omega)) rfl rfl ?_ | refine SL.y (op_eqlF rfl rfl (by omega)) rfl rfl ?_ | refine SL.y (op_eql rfl rfl) rfl rfl ?_
      refine SL.y (op_move rfl) rfl rfl ?_
      first | refine SL.skip rfl rfl ?_ | refine SL.y (op_fieldAddr fa40_1 rfl) rfl rfl ?_
      first | refine SL.skip rfl rfl ?_ | refine SL.y (op_load ty3 rfl (by repeat constructor) rfl) rfl rfl ?_ | refine SL.y (op_loadX ty3 rfl (by assumption) rfl) rfl rfl ?_
      first | refine SL.skip rfl rfl ?_ | refine SL.y (op_fieldAddr fa40_1 rfl) rfl rfl ?_
      first | refine SL.skip rfl rfl ?_ | refine SL.y (op_load ty3 rfl (by repeat constructor) rfl) rfl rfl ?_ | refine SL.y (op_loadX ty3 rfl (by assumption) rfl) rfl rfl ?_
      first | refine SL.skip rfl rfl ?_ | refine SL.y (op_eqlT rfl rfl (by omega)) rfl rfl ?_ | refine SL.y (op_eqlF rfl rfl (by omega)) rfl rfl ?_ | refine SL.y (op_eql rfl rfl) rfl rfl ?_
      first | refine SL.y (op_pickT rfl rfl) rfl rfl ?_ | refine SL.y (op_pickF rfl rfl) rfl rfl ?_ | refine SL.y (op_pickB rfl rfl rfl) rfl rfl ?_
      refine SL.y (op_move rfl) rfl rfl ?_
      first | refine SL.skip rfl rfl ?_ | refine SL.y (op_fieldAddr fa40_2 rfl) rfl rfl ?_
      first | refine SL.skip rfl rfl ?_ | refine SL.y (op_load ty37 rfl (by repeat constructor) rfl) rfl rfl ?_ | refine SL.y (op_loadX ty37 rfl (by assumption) rfl) rfl rfl ?_
      first | refine SL.skip rfl rfl ?_ | refine SL.y (op_fieldAddr fa40_2 rfl) rfl rfl ?_
      first | refine SL.skip rfl rfl ?_ | refine SL.y (op_load ty37 rfl (by repeat constructor) rfl) rfl rfl ?_ | refine SL.y (op_loadX ty37 rfl (by assumption) rfl) rfl rfl ?_
      refine SL.skip rfl rfl ?_
      first | refine SL.y (op_pickT rfl rfl) rfl rfl ?_ | refine SL.y (op_pickF rfl rfl) rfl rfl ?_ | refine SL.y (op_pickB rfl rfl rfl) rfl rfl ?_
      refine SL.y (op_move rfl) rfl rfl ?_
      first | refine SL.skip rfl rfl ?_ | refine SL.y (op_fieldAddr fa40_3 rfl) rfl rfl ?_
      first | refine SL.skip rfl rfl ?_ | refine SL.y (op_load ty38 rfl (by repeat constructor) rfl) rfl rfl ?_ | refine SL.y (op_loadX ty38 rfl (by assumption) rfl) rfl rfl ?_
      first | refine SL.skip rfl rfl ?_ | refine SL.y (op_fieldAddr fa40_3 rfl) rfl rfl ?_
      first | refine SL.skip rfl rfl ?_ | refine SL.y (op_load ty38 rfl (by repeat constructor) rfl) rfl rfl ?_ | refine SL.y (op_loadX ty38 rfl (by assumption) rfl) rfl rfl ?_
      refine SL.skip rfl rfl ?_
      first | refine SL.y (op_pickT rfl rfl) rfl rfl ?_ | refine SL.y (op_pickF rfl rfl) rfl rfl ?_ | refine SL.y (op_pickB rfl rfl rfl) rfl rfl ?_
      refine SL.y (op_assign rfl) rfl rfl ?_
      refine SL.nil ?_
      refine T.ret1 rfl (ResIs.tmp rfl) ?_
      rw [decide_eq_false fun e => h1 (ex_eq.1 e).1]
    by_cases h2 : n = n'
    case neg =>
      refine Spec.enter Tryz.func23 rfl Tryz.ntmps23 rfl ?_
      intro w0 hw0
      refine T.seq ?_
      refine T.region ?_
      refine SL.x (op_box rfl) rfl rfl ?_
      rintro _ _ _ ⟨B2, rfl, rfl, rfl⟩
      refine SL.x (op_box rfl) rfl rfl ?_
      rintro _ _ _ ⟨B3, rfl, rfl, rfl⟩
      refine SL.y (op_assign rfl) rfl rfl ?_
      refine SL.nil ?_
      refine T.seq ?_
      refine T.region ?_
      refine SL.y (op_fieldAddr fa40_0 rfl) rfl rfl ?_
      first | refine SL.y (op_load ty36 rfl (by repeat constructor) rfl) rfl rfl ?_ | refine SL.y (op_loadX ty36 rfl (by assumption) rfl) rfl rfl ?_
      refine SL.y (op_fieldAddr fa40_0 rfl) rfl rfl ?_
      first | refine SL.y (op_load ty36 rfl (by repeat constructor) rfl) rfl rfl ?_ | refine SL.y (op_loadX ty36 rfl (by assumption) rfl) rfl rfl ?_
      first | refine SL.y (op_eqlT rfl rfl (by omega)) rfl rfl ?_ | refine SL.y (op_eqlF rfl rfl (by omega)) rfl rfl ?_ | refine SL.y (op_eql rfl rfl) rfl rfl ?_
      refine SL.y (op_move rfl) rfl rfl ?_
      first | refine SL.skip rfl rfl ?_ | refine SL.y (op_fieldAddr fa40_1 rfl) rfl rfl ?_
      first | refine SL.skip rfl rfl ?_ | refine SL.y (op_load ty3 rfl (by repeat constructor) rfl) rfl rfl ?_ | refine SL.y (op_loadX ty3 rfl (by assumption) rfl) rfl rfl ?_
      first | refine SL.skip rfl rfl ?_ | refine SL.y (op_fieldAddr fa40_1 rfl) rfl rfl ?_
      first | refine SL.skip rfl rfl ?_ | refine SL.y (op_load ty3 rfl (by repeat constructor) rfl) rfl rfl ?_ | refine SL.y (op_loadX ty3 rfl (by assumption) rfl) rfl rfl ?_
      first | refine SL.skip rfl rfl ?_ | refine SL.y (op_eqlT rfl rfl (by omega)) rfl rfl ?_ | refine SL.y (op_eqlF rfl rfl (by omega)) rfl rfl ?_ | refine SL.y (op_eql rfl rfl) rfl rfl ?_
      first | refine SL.y (op_pickT rfl rfl) rfl rfl ?_ | refine SL.y (op_pickF rfl rfl) rfl rfl ?_ | refine SL.y (op_pickB rfl rfl rfl) rfl rfl ?_
      refine SL.y (op_move rfl) rfl rfl ?_
      first | refine SL.skip rfl rfl ?_ | refine SL.y (op_fieldAddr fa40_2 rfl) rfl rfl ?_
      first | refine SL.skip rfl rfl ?_ | refine SL.y (op_load ty37 rfl (by repeat constructor) rfl) rfl rfl ?_ | refine SL.y (op_loadX ty37 rfl (by assumption) rfl) rfl rfl ?_
      first | refine SL.skip rfl rfl ?_ | refine SL.y (op_fieldAddr fa40_2 rfl) rfl rfl ?_
      first | refine SL.skip rfl rfl ?_ | refine SL.y (op_load ty37 rfl (by repeat constructor) rfl) rfl rfl ?_ | refine SL.y (op_loadX ty37 rfl (by assumption) rfl) rfl rfl ?_
      refine SL.skip rfl rfl ?_
      first | refine SL.y (op_pickT rfl rfl) rfl rfl ?_ | refine SL.y (op_pickF rfl rfl) rfl rfl ?_ | refine SL.y (op_pickB rfl rfl rfl) rfl rfl ?_
      refine SL.y (op_move rfl) rfl rfl ?_
      first | refine SL.skip rfl rfl ?_ | refine SL.y (op_fieldAddr fa40_3 rfl) rfl rfl ?_
      first | refine SL.skip rfl rfl ?_ | refine SL.y (op_load ty38 rfl (by repeat constructor) rfl) rfl rfl ?_ | refine SL.y (op_loadX ty38 rfl (by assumption) rfl) rfl rfl ?_
      first | refine SL.skip rfl rfl ?_ | refine SL.y (op_fieldAddr fa40_3 rfl) rfl rfl ?_
      first | refine SL.skip rfl rfl ?_ | refine SL.y (op_load ty38 rfl (by repeat constructor) rfl) rfl rfl ?_ | refine SL.y (op_loadX ty38 rfl (by assumption) rfl) rfl rfl ?_
      refine SL.skip rfl rfl ?_
      first | refine SL.y (op_pickT rfl rfl) rfl rfl ?_ | refine SL.y (op_pickF rfl rfl) rfl rfl ?_ | refine SL.y (op_pickB rfl rfl rfl) rfl rfl ?_
      refine SL.y (op_assign rfl) rfl rfl ?_
      refine SL.nil ?_
      refine T.ret1 rfl (ResIs.tmp rfl) ?_
      rw [decide_eq_false fun e => h2 (ex_eq.1 e).2.1]
    by_cases h3 : ns = ns'
    case neg =>
      refine Spec.enter Tryz.func23 rfl Tryz.ntmps23 rfl ?_
      intro w0 hw0
      refine T.seq ?_
      refine T.region ?_
      refine SL.x (op_box rfl) rfl rfl ?_
      rintro _ _ _ ⟨B2, rfl, rfl, rfl⟩
      refine SL.x (op_box rfl) rfl rfl ?_
      rintro _ _ _ ⟨B3, rfl, rfl, rfl⟩
      refine SL.y (op_assign rfl) rfl rfl ?_
      refine SL.nil ?_
      refine T.seq ?_
      refine T.region ?_
      refine SL.y (op_fieldAddr fa40_0 rfl) rfl rfl ?_
      first | refine SL.y (op_load ty36 rfl (by repeat constructor) rfl) rfl rfl ?_ | refine SL.y (op_loadX ty36 rfl (by assumption) rfl) rfl rfl ?_
      refine SL.y (op_fieldAddr fa40_0 rfl) rfl rfl ?_
      first | refine SL.y (op_load ty36 rfl (by repeat constructor) rfl) rfl rfl ?_ | refine SL.y (op_loadX ty36 rfl (by assumption) rfl) rfl rfl ?_
      first | refine SL.y (op_eqlT rfl rfl (by omega)) rfl rfl ?_ | refine SL.y (op_eqlF rfl rfl (by omega)) rfl rfl ?_ | refine SL.y (op_eql rfl rfl) rfl rfl ?_
      refine SL.y (op_move rfl) rfl rfl ?_
      first | refine SL.skip rfl rfl ?_ | refine SL.y (op_fieldAddr fa40_1 rfl) rfl rfl ?_
      first | refine SL.skip rfl rfl ?_ | refine SL.y (op_load ty3 rfl (by repeat constructor) rfl) rfl rfl ?_ | refine SL.y (op_loadX ty3 rfl (by assumption) rfl) rfl rfl ?_
      first | refine SL.skip rfl rfl ?_ | refine SL.y (op_fieldAddr fa40_1 rfl) rfl rfl ?_
      first | refine SL.skip rfl rfl ?_ | refine SL.y (op_load ty3 rfl (by repeat constructor) rfl) rfl rfl ?_ | refine SL.y (op_loadX ty3 rfl (by assumption) rfl) rfl rfl ?_
      first | refine SL.skip rfl rfl ?_ | refine SL.y (op_eqlT rfl rfl (by omega)) rfl rfl ?_ | refine SL.y (op_eqlF rfl rfl (by omega)) rfl rfl ?_ | refine SL.y (op_eql rfl rfl) rfl rfl ?_
      first | refine SL.y (op_pickT rfl rfl) rfl rfl ?_ | refine SL.y (op_pickF rfl rfl) rfl rfl ?_ | refine SL.y (op_pickB rfl rfl rfl) rfl rfl ?_
      refine SL.y (op_move rfl) rfl rfl ?_
      first | refine SL.skip rfl rfl ?_ | refine SL.y (op_fieldAddr fa40_2 rfl) rfl rfl ?_
      first | refine SL.skip rfl rfl ?_ | refine SL.y (op_load ty37 rfl (by repeat constructor) rfl) rfl rfl ?_ | refine SL.y (op_loadX ty37 rfl (by assumption) rfl) rfl rfl ?_
      first | refine SL.skip rfl rfl ?_ | refine SL.y (op_fieldAddr fa40_2 rfl) rfl rfl ?_
      first | refine SL.skip rfl rfl ?_ | refine SL.y (op_load ty37 rfl (by repeat constructor) rfl) rfl rfl ?_ | refine SL.y (op_loadX ty37 rfl (by assumption) rfl) rfl rfl ?_
      refine SL.x (op_callF en52 (vs := [_, _]) rfl (eqStrs_spec hn hn' (by omega))) rfl rfl ?_
      rintro _ _ X1 ⟨rfl, hX1, rfl⟩
      rw [decide_eq_false h3]
      first | refine SL.y (op_pickT rfl rfl) rfl rfl ?_ | refine SL.y (op_pickF rfl rfl) rfl rfl ?_ | refine SL.y (op_pickB rfl rfl rfl) rfl rfl ?_
      refine SL.y (op_move rfl) rfl rfl ?_
      first | refine SL.skip rfl rfl ?_ | refine SL.y (op_fieldAddr fa40_3 rfl) rfl rfl ?_
      first | refine SL.skip rfl rfl ?_ | refine SL.y (op_load ty38 rfl (by repeat constructor) rfl) rfl rfl ?_ | refine SL.y (op_loadX ty38 rfl (by assumption) rfl) rfl rfl ?_
      first | refine SL.skip rfl rfl ?_ | refine SL.y (op_fieldAddr fa40_3 rfl) rfl rfl ?_
      first | refine SL.skip rfl rfl ?_ | refine SL.y (op_load ty38 rfl (by repeat constructor) rfl) rfl rfl ?_ | refine SL.y (op_loadX ty38 rfl (by assumption) rfl) rfl rfl ?_
      refine SL.skip rfl rfl ?_
      first | refine SL.y (op_pickT rfl rfl) rfl rfl ?_ | refine SL.y (op_pickF rfl rfl) rfl rfl ?_ | refine SL.y (op_pickB rfl rfl rfl) rfl rfl ?_
      refine SL.y (op_assign rfl) rfl rfl ?_
      refine SL.nil ?_
      refine T.ret1 rfl (ResIs.tmp rfl) ?_
      rw [decide_eq_false fun e => h3 (ex_eq.1 e).2.2.1]
    refine Spec.enter Tryz.func23 rfl Tryz.ntmps23 rfl ?_
    intro w0 hw0
    refine T.seq ?_
    refine T.region ?_
    refine SL.x (op_box rfl) rfl rfl ?_
    rintro _ _ _ ⟨B2, rfl, rfl, rfl⟩
    refine SL.x (op_box rfl) rfl rfl ?_
    rintro _ _ _ ⟨B3, rfl, rfl, rfl⟩
    refine SL.y (op_assign rfl) rfl rfl ?_
    refine SL.nil ?_
    refine T.seq ?_
    refine T.region ?_
    refine SL.y (op_fieldAddr fa40_0 rfl) rfl rfl ?_
    first | refine SL.y (op_load ty36 rfl (by repeat constructor) rfl) rfl rfl ?_ | refine SL.y (op_loadX ty36 rfl (by assumption) rfl) rfl rfl ?_
    refine SL.y (op_fieldAddr fa40_0 rfl) rfl rfl ?_
    first | refine SL.y (op_load ty36 rfl (by repeat constructor) rfl) rfl rfl ?_ | refine SL.y (op_loadX ty36 rfl (by assumption) rfl) rfl rfl ?_
    first | refine SL.y (op_eqlT rfl rfl (by omega)) rfl rfl ?_ | refine SL.y (op_eqlF rfl rfl (by omega)) rfl rfl ?_ | refine SL.y (op_eql rfl rfl) rfl rfl ?_
    refine SL.y (op_move rfl) rfl rfl ?_
    first | refine SL.skip rfl rfl ?_ | refine SL.y (op_fieldAddr fa40_1 rfl) rfl rfl ?_
    first | refine SL.skip rfl rfl ?_ | refine SL.y (op_load ty3 rfl (by repeat constructor) rfl) rfl rfl ?_ | refine SL.y (op_loadX ty3 rfl (by assumption) rfl) rfl rfl ?_
    first | refine SL.skip rfl rfl ?_ | refine SL.y (op_fieldAddr fa40_1 rfl) rfl rfl ?_
    first | refine SL.skip rfl rfl ?_ | refine SL.y (op_load ty3 rfl (by repeat constructor) rfl) rfl rfl ?_ | refine SL.y (op_loadX ty3 rfl (by assumption) rfl) rfl rfl ?_
    first | refine SL.skip rfl rfl ?_ | refine SL.y (op_eqlT rfl rfl (by omega)) rfl rfl ?_ | refine SL.y (op_eqlF rfl rfl (by omega)) rfl rfl ?_ | refine SL.y (op_eql rfl rfl) rfl rfl ?_
    first | refine SL.y (op_pickT rfl rfl) rfl rfl ?_ | refine SL.y (op_pickF rfl rfl) rfl rfl ?_ | refine SL.y (op_pickB rfl rfl rfl) rfl rfl ?_
    refine SL.y (op_move rfl) rfl rfl ?_
    first | refine SL.skip rfl rfl ?_ | refine SL.y (op_fieldAddr fa40_2 rfl) rfl rfl ?_
    first | refine SL.skip rfl rfl ?_ | refine SL.y (op_load ty37 rfl (by repeat constructor) rfl) rfl rfl ?_ | refine SL.y (op_loadX ty37 rfl (by assumption) rfl) rfl rfl ?_
    first | refine SL.skip rfl rfl ?_ | refine SL.y (op_fieldAddr fa40_2 rfl) rfl rfl ?_
    first | refine SL.skip rfl rfl ?_ | refine SL.y (op_load ty37 rfl (by repeat constructor) rfl) rfl rfl ?_ | refine SL.y (op_loadX ty37 rfl (by assumption) rfl) rfl rfl ?_
    refine SL.x (op_callF en52 (vs := [_, _]) rfl (eqStrs_spec hn hn' (by omega))) rfl rfl ?_
    rintro _ _ X1 ⟨rfl, hX1, rfl⟩
    rw [decide_eq_true h3]
    first | refine SL.y (op_pickT rfl rfl) rfl rfl ?_ | refine SL.y (op_pickF rfl rfl) rfl rfl ?_ | refine SL.y (op_pickB rfl rfl rfl) rfl rfl ?_
    refine SL.y (op_move rfl) rfl rfl ?_
    first | refine SL.skip rfl rfl ?_ | refine SL.y (op_fieldAddr fa40_3 rfl) rfl rfl ?_
    first | refine SL.skip rfl rfl ?_ | refine SL.y (op_load ty38 rfl (by repeat constructor) rfl) rfl rfl ?_ | refine SL.y (op_loadX ty38 rfl (by assumption) rfl) rfl rfl ?_
    first | refine SL.skip rfl rfl ?_ | refine SL.y (op_fieldAddr fa40_3 rfl) rfl rfl ?_
    first | refine SL.skip rfl rfl ?_ | refine SL.y (op_load ty38 rfl (by repeat constructor) rfl) rfl rfl ?_ | refine SL.y (op_loadX ty38 rfl (by assumption) rfl) rfl rfl ?_
    refine SL.x (op_callF en53 (vs := [_, _, _]) rfl (eqFn_spec (ha.mono hX1) (ha'.mono hX1) hl hl' (by omega) (fun i a r x y => (hr i a r x y).mono hX1) (fun i a r x y => (hr' i a r x y).mono hX1) (fun hm h1 h2 => ih (by have := wtL_mem hm; omega) (by omega) h1 h2))) rfl rfl ?_
    rintro _ _ X2 ⟨rfl, hX2, rfl⟩
    first | refine SL.y (op_pickT rfl rfl) rfl rfl ?_ | refine SL.y (op_pickF rfl rfl) rfl rfl ?_ | refine SL.y (op_pickB rfl rfl rfl) rfl rfl ?_
    refine SL.y (op_assign rfl) rfl rfl ?_
    refine SL.nil ?_
    refine T.ret1 rfl (ResIs.tmp rfl) ?_
    congr 1
    exact decide_eq_decide.2 (by rw [ex_eq]; simp [h1, h2, h3])
theorem con_eq {e e' : Bool} {k k' : Nat} {s s' : ByteArray} {x x' : Ex} : Con.mk e k s x = Con.mk e' k' s' x' ↔ e = e' ∧ k = k' ∧ s = s' ∧ x = x' := by simp
theorem op_eqlBb {P : Program} {n : NM} {own : Own} {X : PMap} {env : Env} {t t' : TypeId} {x y : Operand} {b c : Bool} (ht : P.underlying t = some .bool) (hx : eev env x = some (.bool b)) (hy : eev env y = some (.bool c)) : OpY P n env own X (.binOp .eql t x y t') (.bool (b == c)) := op_eqlB ht hx hy
theorem eqC1_spec {X : PMap} {c d : Con} {r r' : Row7} (h : ConR X c r) (h' : ConR X d r') (hw : wtE c.ex < 900000) : Spec Tryz.prog 66 [.agg (rc7 r).toArray, .agg (rc7 r').toArray] X fun u _ => u = .bool (decide (c = d)) := by
  obtain ⟨e, k, s, x⟩ := c
  obtain ⟨e', k', s', x'⟩ := d
  have hex := h.2.2.2
  have hex' := h'.2.2.2
  obtain ⟨o0, n0, a0, b0, l0, c0, m0, d0, rfl⟩ := h.form
  obtain ⟨o1, n1, a1, b1, l1, c1, m1, d1, rfl⟩ := h'.form
  simp only at hex hex' hw
  have hcall := eqE_spec _ (Nat.le_refl _) (by omega) hex hex'
  try simp only at hcall
  have e0 : (rc7 (e, k, s, .int .u8 (o0 : Int), .int .i64 n0, .slice a0 l0 c0, .slice b0 m0 d0)).toArray = #[.bool e, .int .u8 (k : Int), .string s, .int .u8 (o0 : Int), .int .i64 n0, .slice a0 l0 c0, .slice b0 m0 d0] := rfl
  have e1 : (rc7 (e', k', s', .int .u8 (o1 : Int), .int .i64 n1, .slice a1 l1 c1, .slice b1 m1 d1)).toArray = #[.bool e', .int .u8 (k' : Int), .string s', .int .u8 (o1 : Int), .int .i64 n1, .slice a1 l1 c1, .slice b1 m1 d1] := rfl
  rw [e0, e1]
  by_cases h1 : e = e'
  case neg =>
    have hb : (e == e') = false := by simpa using h1
    refine Spec.enter Tryz.func66 rfl Tryz.ntmps66 rfl ?_
    intro w0 hw0
    refine T.seq ?_
    refine T.region ?_
    refine SL.x (op_box rfl) rfl rfl ?_
    rintro _ _ _ ⟨B2, rfl, rfl, rfl⟩
    refine SL.x (op_box rfl) rfl rfl ?_
    rintro _ _ _ ⟨B3, rfl, rfl, rfl⟩
    refine SL.y (op_assign rfl) rfl rfl ?_
    refine SL.nil ?_
    refine T.seq ?_
    refine T.region ?_
    refine SL.y (op_fieldAddr fa82_0 rfl) rfl rfl ?_
    first | refine SL.y (op_load ty4 rfl (by repeat constructor) rfl) rfl rfl ?_ | refine SL.y (op_loadX ty4 rfl (by assumption) rfl) rfl rfl ?_
    refine SL.y (op_fieldAddr fa82_0 rfl) rfl rfl ?_
    first | refine SL.y (op_load ty4 rfl (by repeat constructor) rfl) rfl rfl ?_ | refine SL.y (op_loadX ty4 rfl (by assumption) rfl) rfl rfl ?_
    refine SL.y (op_eqlBb Tryz.underlying4 rfl rfl) rfl rfl ?_
    rw [hb]
    refine SL.y (op_move rfl) rfl rfl ?_
    first | refine SL.skip rfl rfl ?_ | refine SL.y (op_fieldAddr fa82_1 rfl) rfl rfl ?_
    first | refine SL.skip rfl rfl ?_ | refine SL.y (op_load ty80 rfl (by repeat constructor) rfl) rfl rfl ?_ | refine SL.y (op_loadX ty80 rfl (by assumption) rfl) rfl rfl ?_
    first | refine SL.skip rfl rfl ?_ | refine SL.y (op_fieldAddr fa82_1 rfl) rfl rfl ?_
    first | refine SL.skip rfl rfl ?_ | refine SL.y (op_load ty80 rfl (by repeat constructor) rfl) rfl rfl ?_ | refine SL.y (op_loadX ty80 rfl (by assumption) rfl) rfl rfl ?_
    first | refine SL.skip rfl rfl ?_ | refine SL.y (op_eqlT rfl rfl (by omega)) rfl rfl ?_ | refine SL.y (op_eqlF rfl rfl (by omega)) rfl rfl ?_ | refine SL.y (op_eql rfl rfl) rfl rfl ?_
    first | refine SL.y (op_pickT rfl rfl) rfl rfl ?_ | refine SL.y (op_pickF rfl rfl) rfl rfl ?_ | refine SL.y (op_pickB rfl rfl rfl) rfl rfl ?_
    refine SL.y (op_move rfl) rfl rfl ?_
    first | refine SL.skip rfl rfl ?_ | refine SL.y (op_fieldAddr fa82_2 rfl) rfl rfl ?_
    first | refine SL.skip rfl rfl ?_ | refine SL.y (op_load ty9 rfl (by repeat constructor) rfl) rfl rfl ?_ | refine SL.y (op_loadX ty9 rfl (by assumption) rfl) rfl rfl ?_
    first | refine SL.skip rfl rfl ?_ | refine SL.y (op_fieldAddr fa82_2 rfl) rfl rfl ?_
    first | refine SL.skip rfl rfl ?_ | refine SL.y (op_load ty9 rfl (by repeat constructor) rfl) rfl rfl ?_ | refine SL.y (op_loadX ty9 rfl (by assumption) rfl) rfl rfl ?_
    first | refine SL.skip rfl rfl ?_ | refine SL.y (op_eqlStrD rfl rfl) rfl rfl ?_
    first | refine SL.y (op_pickT rfl rfl) rfl rfl ?_ | refine SL.y (op_pickF rfl rfl) rfl rfl ?_ | refine SL.y (op_pickB rfl rfl rfl) rfl rfl ?_
    refine SL.y (op_move rfl) rfl rfl ?_
    first | refine SL.skip rfl rfl ?_ | refine SL.y (op_fieldAddr fa82_3 rfl) rfl rfl ?_
    first | refine SL.skip rfl rfl ?_ | refine SL.y (op_load ty40 rfl (by repeat constructor) rfl) rfl rfl ?_ | refine SL.y (op_loadX ty40 rfl (by assumption) rfl) rfl rfl ?_
    first | refine SL.skip rfl rfl ?_ | refine SL.y (op_fieldAddr fa82_3 rfl) rfl rfl ?_
    first | refine SL.skip rfl rfl ?_ | refine SL.y (op_load ty40 rfl (by repeat constructor) rfl) rfl rfl ?_ | refine SL.y (op_loadX ty40 rfl (by assumption) rfl) rfl rfl ?_
    refine SL.skip rfl rfl ?_
    first | refine SL.y (op_pickT rfl rfl) rfl rfl ?_ | refine SL.y (op_pickF rfl rfl) rfl rfl ?_ | refine SL.y (op_pickB rfl rfl rfl) rfl rfl ?_
    refine SL.y (op_assign rfl) rfl rfl ?_
    refine SL.nil ?_
    refine T.ret1 rfl (ResIs.tmp rfl) ?_
    rw [decide_eq_false fun e => h1 (con_eq.1 e).1]
  subst h1
  by_cases h2 : k = k'
  case neg =>
    refine Spec.enter Tryz.func66 rfl Tryz.ntmps66 rfl ?_
    intro w0 hw0
    refine T.seq ?_
    refine T.region ?_
    refine SL.x (op_box rfl) rfl rfl ?_
    rintro _ _ _ ⟨B2, rfl, rfl, rfl⟩
    refine SL.x (op_box rfl) rfl rfl ?_
    rintro _ _ _ ⟨B3, rfl, rfl, rfl⟩
    refine SL.y (op_assign rfl) rfl rfl ?_
    refine SL.nil ?_
    refine T.seq ?_
    refine T.region ?_
    refine SL.y (op_fieldAddr fa82_0 rfl) rfl rfl ?_
    first | refine SL.y (op_load ty4 rfl (by repeat constructor) rfl) rfl rfl ?_ | refine SL.y (op_loadX ty4 rfl (by assumption) rfl) rfl rfl ?_
    refine SL.y (op_fieldAddr fa82_0 rfl) rfl rfl ?_
    first | refine SL.y (op_load ty4 rfl (by repeat constructor) rfl) rfl rfl ?_ | refine SL.y (op_loadX ty4 rfl (by assumption) rfl) rfl rfl ?_
    refine SL.y (op_eqlBb Tryz.underlying4 rfl rfl) rfl rfl ?_
    rw [show (e == e) = true by simp]
    refine SL.y (op_move rfl) rfl rfl ?_
    first | refine SL.skip rfl rfl ?_ | refine SL.y (op_fieldAddr fa82_1 rfl) rfl rfl ?_
    first | refine SL.skip rfl rfl ?_ | refine SL.y (op_load ty80 rfl (by repeat constructor) rfl) rfl rfl ?_ | refine SL.y (op_loadX ty80 rfl (by assumption) rfl) rfl rfl ?_
    first | refine SL.skip rfl rfl ?_ | refine SL.y (op_fieldAddr fa82_1 rfl) rfl rfl ?_
    first | refine SL.skip rfl rfl ?_ | refine SL.y (op_load ty80 rfl (by repeat constructor) rfl) rfl rfl ?_ | refine SL.y (op_loadX ty80 rfl (by assumption) rfl) rfl rfl ?_
    first | refine SL.skip rfl rfl ?_ | refine SL.y (op_eqlT rfl rfl (by omega)) rfl rfl ?_ | refine SL.y (op_eqlF rfl rfl (by omega)) rfl rfl ?_ | refine SL.y (op_eql rfl rfl) rfl rfl ?_
    first | refine SL.y (op_pickT rfl rfl) rfl rfl ?_ | refine SL.y (op_pickF rfl rfl) rfl rfl ?_ | refine SL.y (op_pickB rfl rfl rfl) rfl rfl ?_
    refine SL.y (op_move rfl) rfl rfl ?_
    first | refine SL.skip rfl rfl ?_ | refine SL.y (op_fieldAddr fa82_2 rfl) rfl rfl ?_
    first | refine SL.skip rfl rfl ?_ | refine SL.y (op_load ty9 rfl (by repeat constructor) rfl) rfl rfl ?_ | refine SL.y (op_loadX ty9 rfl (by assumption) rfl) rfl rfl ?_
    first | refine SL.skip rfl rfl ?_ | refine SL.y (op_fieldAddr fa82_2 rfl) rfl rfl ?_
    first | refine SL.skip rfl rfl ?_ | refine SL.y (op_load ty9 rfl (by repeat constructor) rfl) rfl rfl ?_ | refine SL.y (op_loadX ty9 rfl (by assumption) rfl) rfl rfl ?_
    first | refine SL.skip rfl rfl ?_ | refine SL.y (op_eqlStrD rfl rfl) rfl rfl ?_
    first | refine SL.y (op_pickT rfl rfl) rfl rfl ?_ | refine SL.y (op_pickF rfl rfl) rfl rfl ?_ | refine SL.y (op_pickB rfl rfl rfl) rfl rfl ?_
    refine SL.y (op_move rfl) rfl rfl ?_
    first | refine SL.skip rfl rfl ?_ | refine SL.y (op_fieldAddr fa82_3 rfl) rfl rfl ?_
    first | refine SL.skip rfl rfl ?_ | refine SL.y (op_load ty40 rfl (by repeat constructor) rfl) rfl rfl ?_ | refine SL.y (op_loadX ty40 rfl (by assumption) rfl) rfl rfl ?_
    first | refine SL.skip rfl rfl ?_ | refine SL.y (op_fieldAddr fa82_3 rfl) rfl rfl ?_
    first | refine SL.skip rfl rfl ?_ | refine SL.y (op_load ty40 rfl (by repeat constructor) rfl) rfl rfl ?_ | refine SL.y (op_loadX ty40 rfl (by assumption) rfl) rfl rfl ?_
    refine SL.skip rfl rfl ?_
    first | refine SL.y (op_pickT rfl rfl) rfl rfl ?_ | refine SL.y (op_pickF rfl rfl) rfl rfl ?_ | refine SL.y (op_pickB rfl rfl rfl) rfl rfl ?_
    refine SL.y (op_assign rfl) rfl rfl ?_
    refine SL.nil ?_
    refine T.ret1 rfl (ResIs.tmp rfl) ?_
    rw [decide_eq_false fun e => h2 (con_eq.1 e).2.1]
  by_cases h3 : s = s'
  case neg =>
    refine Spec.enter Tryz.func66 rfl Tryz.ntmps66 rfl ?_
    intro w0 hw0
    refine T.seq ?_
    refine T.region ?_
    refine SL.x (op_box rfl) rfl rfl ?_
    rintro _ _ _ ⟨B2, rfl, rfl, rfl⟩
    refine SL.x (op_box rfl) rfl rfl ?_
    rintro _ _ _ ⟨B3, rfl, rfl, rfl⟩
    refine SL.y (op_assign rfl) rfl rfl ?_
    refine SL.nil ?_
    refine T.seq ?_
    refine T.region ?_
    refine SL.y (op_fieldAddr fa82_0 rfl) rfl rfl ?_
    first | refine SL.y (op_load ty4 rfl (by repeat constructor) rfl) rfl rfl ?_ | refine SL.y (op_loadX ty4 rfl (by assumption) rfl) rfl rfl ?_
    refine SL.y (op_fieldAddr fa82_0 rfl) rfl rfl ?_
    first | refine SL.y (op_load ty4 rfl (by repeat constructor) rfl) rfl rfl ?_ | refine SL.y (op_loadX ty4 rfl (by assumption) rfl) rfl rfl ?_
    refine SL.y (op_eqlBb Tryz.underlying4 rfl rfl) rfl rfl ?_
    rw [show (e == e) = true by simp]
    refine SL.y (op_move rfl) rfl rfl ?_
    first | refine SL.skip rfl rfl ?_ | refine SL.y (op_fieldAddr fa82_1 rfl) rfl rfl ?_
    first | refine SL.skip rfl rfl ?_ | refine SL.y (op_load ty80 rfl (by repeat constructor) rfl) rfl rfl ?_ | refine SL.y (op_loadX ty80 rfl (by assumption) rfl) rfl rfl ?_
    first | refine SL.skip rfl rfl ?_ | refine SL.y (op_fieldAddr fa82_1 rfl) rfl rfl ?_
    first | refine SL.skip rfl rfl ?_ | refine SL.y (op_load ty80 rfl (by repeat constructor) rfl) rfl rfl ?_ | refine SL.y (op_loadX ty80 rfl (by assumption) rfl) rfl rfl ?_
    first | refine SL.skip rfl rfl ?_ | refine SL.y (op_eqlT rfl rfl (by omega)) rfl rfl ?_ | refine SL.y (op_eqlF rfl rfl (by omega)) rfl rfl ?_ | refine SL.y (op_eql rfl rfl) rfl rfl ?_
    first | refine SL.y (op_pickT rfl rfl) rfl rfl ?_ | refine SL.y (op_pickF rfl rfl) rfl rfl ?_ | refine SL.y (op_pickB rfl rfl rfl) rfl rfl ?_
    refine SL.y (op_move rfl) rfl rfl ?_
    first | refine SL.skip rfl rfl ?_ | refine SL.y (op_fieldAddr fa82_2 rfl) rfl rfl ?_
    first | refine SL.skip rfl rfl ?_ | refine SL.y (op_load ty9 rfl (by repeat constructor) rfl) rfl rfl ?_ | refine SL.y (op_loadX ty9 rfl (by assumption) rfl) rfl rfl ?_
    first | refine SL.skip rfl rfl ?_ | refine SL.y (op_fieldAddr fa82_2 rfl) rfl rfl ?_
    first | refine SL.skip rfl rfl ?_ | refine SL.y (op_load ty9 rfl (by repeat constructor) rfl) rfl rfl ?_ | refine SL.y (op_loadX ty9 rfl (by assumption) rfl) rfl rfl ?_
    first | refine SL.skip rfl rfl ?_ | refine SL.y (op_eqlStrD rfl rfl) rfl rfl ?_
    rw [decide_eq_false h3]
    first | refine SL.y (op_pickT rfl rfl) rfl rfl ?_ | refine SL.y (op_pickF rfl rfl) rfl rfl ?_ | refine SL.y (op_pickB rfl rfl rfl) rfl rfl ?_
    refine SL.y (op_move rfl) rfl rfl ?_
    first | refine SL.skip rfl rfl ?_ | refine SL.y (op_fieldAddr fa82_3 rfl) rfl rfl ?_
    first | refine SL.skip rfl rfl ?_ | refine SL.y (op_load ty40 rfl (by repeat constructor) rfl) rfl rfl ?_ | refine SL.y (op_loadX ty40 rfl (by assumption) rfl) rfl rfl ?_
    first | refine SL.skip rfl rfl ?_ | refine SL.y (op_fieldAddr fa82_3 rfl) rfl rfl ?_
    first | refine SL.skip rfl rfl ?_ | refine SL.y (op_load ty40 rfl (by repeat constructor) rfl) rfl rfl ?_ | refine SL.y (op_loadX ty40 rfl (by assumption) rfl) rfl rfl ?_
    refine SL.skip rfl rfl ?_
    first | refine SL.y (op_pickT rfl rfl) rfl rfl ?_ | refine SL.y (op_pickF rfl rfl) rfl rfl ?_ | refine SL.y (op_pickB rfl rfl rfl) rfl rfl ?_
    refine SL.y (op_assign rfl) rfl rfl ?_
    refine SL.nil ?_
    refine T.ret1 rfl (ResIs.tmp rfl) ?_
    rw [decide_eq_false fun e => h3 (con_eq.1 e).2.2.1]
  refine Spec.enter Tryz.func66 rfl Tryz.ntmps66 rfl ?_
  intro w0 hw0
  refine T.seq ?_
  refine T.region ?_
  refine SL.x (op_box rfl) rfl rfl ?_
  rintro _ _ _ ⟨B2, rfl, rfl, rfl⟩
  refine SL.x (op_box rfl) rfl rfl ?_
  rintro _ _ _ ⟨B3, rfl, rfl, rfl⟩
  refine SL.y (op_assign rfl) rfl rfl ?_
  refine SL.nil ?_
  refine T.seq ?_
  refine T.region ?_
  refine SL.y (op_fieldAddr fa82_0 rfl) rfl rfl ?_
  first | refine SL.y (op_load ty4 rfl (by repeat constructor) rfl) rfl rfl ?_ | refine SL.y (op_loadX ty4 rfl (by assumption) rfl) rfl rfl ?_
  refine SL.y (op_fieldAddr fa82_0 rfl) rfl rfl ?_
  first | refine SL.y (op_load ty4 rfl (by repeat constructor) rfl) rfl rfl ?_ | refine SL.y (op_loadX ty4 rfl (by assumption) rfl) rfl rfl ?_
  refine SL.y (op_eqlBb Tryz.underlying4 rfl rfl) rfl rfl ?_
  rw [show (e == e) = true by simp]
  refine SL.y (op_move rfl) rfl rfl ?_
  first | refine SL.skip rfl rfl ?_ | refine SL.y (op_fieldAddr fa82_1 rfl) rfl rfl ?_
  first | refine SL.skip rfl rfl ?_ | refine SL.y (op_load ty80 rfl (by repeat constructor) rfl) rfl rfl ?_ | refine SL.y (op_loadX ty80 rfl (by assumption) rfl) rfl rfl ?_
  first | refine SL.skip rfl rfl ?_ | refine SL.y (op_fieldAddr fa82_1 rfl) rfl rfl ?_
  first | refine SL.skip rfl rfl ?_ | refine SL.y (op_load ty80 rfl (by repeat constructor) rfl) rfl rfl ?_ | refine SL.y (op_loadX ty80 rfl (by assumption) rfl) rfl rfl ?_
  first | refine SL.skip rfl rfl ?_ | refine SL.y (op_eqlT rfl rfl (by omega)) rfl rfl ?_ | refine SL.y (op_eqlF rfl rfl (by omega)) rfl rfl ?_ | refine SL.y (op_eql rfl rfl) rfl rfl ?_
  first | refine SL.y (op_pickT rfl rfl) rfl rfl ?_ | refine SL.y (op_pickF rfl rfl) rfl rfl ?_ | refine SL.y (op_pickB rfl rfl rfl) rfl rfl ?_
  refine SL.y (op_move rfl) rfl rfl ?_
  first | refine SL.skip rfl rfl ?_ | refine SL.y (op_fieldAddr fa82_2 rfl) rfl rfl ?_
  first | refine SL.skip rfl rfl ?_ | refine SL.y (op_load ty9 rfl (by repeat constructor) rfl) rfl rfl ?_ | refine SL.y (op_loadX ty9 rfl (by assumption) rfl) rfl rfl ?_
  first | refine SL.skip rfl rfl ?_ | refine SL.y (op_fieldAddr fa82_2 rfl) rfl rfl ?_
  first | refine SL.skip rfl rfl ?_ | refine SL.y (op_load ty9 rfl (by repeat constructor) rfl) rfl rfl ?_ | refine SL.y (op_loadX ty9 rfl (by assumption) rfl) rfl rfl ?_
  first | refine SL.skip rfl rfl ?_ | refine SL.y (op_eqlStrD rfl rfl) rfl rfl ?_
  rw [decide_eq_true h3]
  first | refine SL.y (op_pickT rfl rfl) rfl rfl ?_ | refine SL.y (op_pickF rfl rfl) rfl rfl ?_ | refine SL.y (op_pickB rfl rfl rfl) rfl rfl ?_
  refine SL.y (op_move rfl) rfl rfl ?_
  first | refine SL.skip rfl rfl ?_ | refine SL.y (op_fieldAddr fa82_3 rfl) rfl rfl ?_
  first | refine SL.skip rfl rfl ?_ | refine SL.y (op_load ty40 rfl (by repeat constructor) rfl) rfl rfl ?_ | refine SL.y (op_loadX ty40 rfl (by assumption) rfl) rfl rfl ?_
  first | refine SL.skip rfl rfl ?_ | refine SL.y (op_fieldAddr fa82_3 rfl) rfl rfl ?_
  first | refine SL.skip rfl rfl ?_ | refine SL.y (op_load ty40 rfl (by repeat constructor) rfl) rfl rfl ?_ | refine SL.y (op_loadX ty40 rfl (by assumption) rfl) rfl rfl ?_
  refine SL.x (op_callF en23 (vs := [_, _]) rfl (hcall)) rfl rfl ?_
  rintro _ _ X2 ⟨rfl, hX2, rfl⟩
  first | refine SL.y (op_pickT rfl rfl) rfl rfl ?_ | refine SL.y (op_pickF rfl rfl) rfl rfl ?_ | refine SL.y (op_pickB rfl rfl rfl) rfl rfl ?_
  refine SL.y (op_assign rfl) rfl rfl ?_
  refine SL.nil ?_
  refine T.ret1 rfl (ResIs.tmp rfl) ?_
  congr 1
  exact decide_eq_decide.2 (by rw [con_eq]; simp [h2, h3])
end Go.Proofs.YtnabbnhefjfegaaGreatDoor
namespace Go.Proofs.YtnabbnhefjfegaaGreatDoor
open Go.RowKit
end Go.Proofs.YtnabbnhefjfegaaGreatDoor
namespace Go.Proofs.YtnabbnhefjfegaaGreatDoor
open Go.RowKit
end Go.Proofs.YtnabbnhefjfegaaGreatDoor
namespace Go.Proofs.YtnabbnhefjfegaaGreatDoor
open Go.RowKit
/-- Ascending, each one once. -/
def StrS (l : List ByteArray) : Prop := l.Pairwise fun a b => ltS a b = true
theorem StrS.nodup {l : List ByteArray} (h : StrS l) : l.Nodup := h.imp fun {a b} hab e => by subst e; rw [lt_irr] at hab; cases hab
theorem StrS.same : ∀ {l m : List ByteArray}, StrS l → StrS m → (∀ x, x ∈ l ↔ x ∈ m) → l = m
  | [], [], _, _, _ => rfl
  | [], b :: m, _, _, h => by have := (h b).2 (by simp); cases this
  | a :: l, [], _, _, h => by have := (h a).1 (by simp); cases this
  | a :: l, b :: m, h1, h2, h => by
    obtain ⟨g1, g2⟩ := List.pairwise_cons.1 h1
    obtain ⟨k1, k2⟩ := List.pairwise_cons.1 h2
    have hab : a = b := by
      rcases List.mem_cons.1 ((h a).1 (by simp)) with e | hm
      · exact e
      · rcases List.mem_cons.1 ((h b).2 (by simp)) with e | hl
        · exact e.symm
        · have := lt_asym (k1 a hm)
          rw [g1 b hl] at this; cases this
    subst hab
    rw [StrS.same g2 k2 fun x => ?_]
    have hx := h x
    constructor
    · intro hxl
      rcases List.mem_cons.1 (hx.1 (by simp [hxl])) with e | hm
      · subst e; have := g1 x hxl; rw [lt_irr] at this; cases this
      · exact hm
    · intro hxm
      rcases List.mem_cons.1 (hx.2 (by simp [hxm])) with e | hm
      · subst e; have := k1 x hxm; rw [lt_irr] at this; cases this
      · exact hm
end Go.Proofs.YtnabbnhefjfegaaGreatDoor
namespace Go.Proofs.YtnabbnhefjfegaaGreatDoor
open Go.RowKit
theorem RowR.lent {α : Type} {rc : α → List Value} {X1 : PMap} {e : TypeId} {size : Nat} {v : Value} {rs : List α} {G : Own} (hg : GrowS e size v rs.length (rs.map rc).flatten G) (h2 : ∀ p ∈ G, Blk X1 p.b p.cs) : RowR rc X1 v rs := by
  rcases hg with ⟨h0, _, rfl, _⟩ | ⟨b, cap, rfl, rfl, h3, h4, _⟩
  · exact .inl ⟨List.eq_nil_of_length_eq_zero h0, _, _, rfl⟩
  · rcases Nat.eq_zero_or_pos rs.length with h0 | h0
    · exact .inl ⟨List.eq_nil_of_length_eq_zero h0, _, _, by rw [h0]⟩
    · exact .inr ⟨h0, b, cap, [], rfl, h2 ⟨b, _, e, cap * size⟩ (by simp), h3, h4⟩
end Go.Proofs.YtnabbnhefjfegaaGreatDoor
namespace Go.Proofs.YtnabbnhefjfegaaGreatDoor
open Go.RowKit
theorem cons_len (l : List Itm) : (consOf l).length ≤ 34 := by rw [consOf, List.length_map, List.length_take]; omega
theorem cons_wt (l : List Itm) : ∀ c ∈ consOf l, wtE c.ex < 300000 := fun c hc => by
  obtain ⟨x, _, rfl⟩ := List.mem_map.1 hc
  exact built_wt _
theorem wtC_le {K : Nat} : ∀ {cs : List Con}, (∀ c ∈ cs, wtE c.ex ≤ K) → wtC cs ≤ cs.length * K
  | [], _ => by simp [wtC]
  | c :: cs, h => by
    have h1 := wtC_le (cs := cs) fun x hx => h x (by simp [hx])
    have h2 := h c (by simp)
    simp only [wtC, List.map_cons, List.sum_cons, List.length_cons] at h1 ⊢
    rw [Nat.add_mul]; omega
theorem cons_wtC (l : List Itm) : wtC (consOf l) < 15000000 := by
  have h1 := wtC_le (K := 300000) fun c hc => Nat.le_of_lt (cons_wt l c hc)
  have h2 := cons_len l
  have h3 : (consOf l).length * 300000 ≤ 34 * 300000 := Nat.mul_le_mul_right _ h2
  omega
theorem cons_ok {l : List Itm} (h : ∀ x ∈ l, itOk x) : ∀ c ∈ consOf l, c.kind < 256 ∧ opsE c.ex ∧ wtE c.ex < 900000 := fun c hc => by
  have hw := cons_wt l c hc
  obtain ⟨x, hx, rfl⟩ := List.mem_map.1 hc
  obtain ⟨h1, _, h3⟩ := h x (List.mem_of_mem_take hx)
  exact ⟨h1, built_ops h3, by omega⟩
end Go.Proofs.YtnabbnhefjfegaaGreatDoor
namespace Go.Proofs.YtnabbnhefjfegaaGreatDoor
section
set_option maxRecDepth 100000
theorem en65 : Enters Tryz.prog 65 := enters_mk Tryz.func65 (by kernel_rfl) rfl
theorem en66 : Enters Tryz.prog 66 := enters_mk Tryz.func66 (by kernel_rfl) rfl
end
open Go.RowKit
theorem eqFnC_spec {X : PMap} {va vb : Value} {cs ds : List Con} (ha : ConsR X va cs) (hb : ConsR X vb ds) (hl : cs.length < 1000000000) (hw : ∀ c ∈ cs, wtE c.ex < 900000) :
    Spec Tryz.prog 65 [va, vb, .func (.func 66) #[] #[]] X fun u _ => u = .bool (decide (cs = ds)) := by
  obtain ⟨rows, ha, hla, hra⟩ := ha
  obtain ⟨rows', hb, hlb, hrb⟩ := hb
  obtain ⟨A, cp, rfl⟩ := ha.form
  obtain ⟨A', cp', rfl⟩ := hb.form
  by_cases hlen : cs.length = ds.length
  case neg =>
    refine Spec.enter Tryz.func65 rfl Tryz.ntmps65 rfl ?_
    intro w0 hw0
    refine T.seq ?_
    refine T.region ?_
    refine SL.y (op_assign rfl) rfl rfl ?_
    refine SL.nil ?_
    refine T.seq ?_
    refine T.seq ?_
    refine T.region ?_
    refine SL.y (op_move rfl) rfl rfl ?_
    refine SL.y (op_lenS Tryz.underlying24 rfl) rfl rfl ?_
    refine SL.y (op_move rfl) rfl rfl ?_
    refine SL.y (op_lenS Tryz.underlying24 rfl) rfl rfl ?_
    first | refine SL.y (op_neqT rfl rfl (by omega)) rfl rfl ?_ | refine SL.y (op_neqF rfl rfl (by omega)) rfl rfl ?_ | refine SL.y (op_neq rfl rfl) rfl rfl ?_
    refine SL.nil ?_
    refine T.condT rfl ?_
    refine T.seq ?_
    refine T.region ?_
    refine SL.y (op_assign rfl) rfl rfl ?_
    refine SL.nil ?_
    refine T.ret1 rfl (ResIs.tmp rfl) ?_
    rw [decide_eq_false fun e => hlen (by rw [e])]
  refine Spec.enter Tryz.func65 rfl Tryz.ntmps65 rfl ?_
  intro w0 hw0
  refine T.seq ?_
  refine T.region ?_
  refine SL.y (op_assign rfl) rfl rfl ?_
  refine SL.nil ?_
  refine T.seq ?_
  refine T.seq ?_
  refine T.region ?_
  refine SL.y (op_move rfl) rfl rfl ?_
  refine SL.y (op_lenS Tryz.underlying24 rfl) rfl rfl ?_
  refine SL.y (op_move rfl) rfl rfl ?_
  refine SL.y (op_lenS Tryz.underlying24 rfl) rfl rfl ?_
  first | refine SL.y (op_neqT rfl rfl (by omega)) rfl rfl ?_ | refine SL.y (op_neqF rfl rfl (by omega)) rfl rfl ?_ | refine SL.y (op_neq rfl rfl) rfl rfl ?_
  refine SL.nil ?_
  refine T.condF rfl ?_
  refine T.skip ?_
  refine T.seq ?_
  refine T.seq ?_
  refine T.region ?_
  refine SL.y (op_move rfl) rfl rfl ?_
  refine SL.y (op_lenS Tryz.underlying24 rfl) rfl rfl ?_
  refine SL.y (op_move (v := .int .i64 ((0 : Nat) : Int)) rfl) rfl rfl ?_
  refine SL.nil ?_
  refine T.block ?_
  refine T.loopW (fun m env own X' => ∃ i : Nat, m = rows.length - i ∧ i ≤ rows.length ∧ X.le X' ∧ cs.take i = ds.take i ∧ env = [(1, .slice A' rows'.length cp'), (2, .func (.func 66) #[] #[]), (15, .slice A rows.length cp), (16, .int .i64 (rows.length : Int)), (17, .int .i64 (i : Int))] ∧ own = []) rows.length ⟨0, by simp, by omega, PMap.le_refl _, by simp, rfl, rfl⟩ (by repeat (first | exact Sub.nil | refine Sub.cons rfl ?_)) ?_
  rintro m _ _ X1 ⟨i, rfl, hi, hX1, heq, rfl, rfl⟩
  rcases Nat.lt_or_ge i rows.length with hil | hil
  · obtain ⟨r, hr⟩ : ∃ r, rows[i]? = some r := ⟨_, List.getElem?_eq_getElem hil⟩
    obtain ⟨r', hr'⟩ : ∃ r, rows'[i]? = some r := ⟨_, List.getElem?_eq_getElem (by omega)⟩
    obtain ⟨x, hx⟩ : ∃ x, cs[i]? = some x := ⟨_, List.getElem?_eq_getElem (by omega)⟩
    obtain ⟨y, hy⟩ : ∃ y, ds[i]? = some y := ⟨_, List.getElem?_eq_getElem (by omega)⟩
    have h1 := (hra i x r hx hr).mono hX1
    have h2 := (hrb i y r' hy hr').mono hX1
    obtain ⟨b, pre, rfl, hB⟩ := ha.blk (by omega)
    obtain ⟨b', pre', rfl, hB'⟩ := hb.blk (by omega)
    have hcall := eqC1_spec h1 h2 (hw x (List.mem_of_getElem? hx))
    obtain ⟨_, _, _, _, _, _, _, _, rfl⟩ := h1.form
    obtain ⟨_, _, _, _, _, _, _, _, rfl⟩ := h2.form
    try simp only [rc7] at hcall
    refine T.seq ?_
    refine T.region ?_
    first | refine SL.y (op_lssT rfl rfl (by omega)) rfl rfl ?_ | refine SL.y (op_lssF rfl rfl (by omega)) rfl rfl ?_ | refine SL.y (op_lss rfl rfl) rfl rfl ?_
    refine SL.nil ?_
    refine T.seq ?_
    refine T.condT rfl ?_
    refine T.skip ?_
    refine T.seq ?_
    refine T.block ?_
    refine T.seq ?_
    refine T.region ?_
    refine SL.y (op_move rfl) rfl rfl ?_
    first | refine SL.y (op_indexN Tryz.underlying24 ty82 rfl rfl (by omega)) rfl rfl ?_ | refine SL.y (op_index Tryz.underlying24 ty82 rfl rfl (by omega) (by omega)) rfl rfl ?_
    refine SL.y (op_loadX ty82 rfl (hB.mono hX1) (row_read rc7_len hr (by omega))) rfl rfl ?_
    refine SL.x (op_alloc z82) rfl rfl ?_
    rintro _ _ _ ⟨B8, rfl, rfl, rfl⟩
    refine SL.y (op_assign rfl) rfl rfl ?_
    refine SL.x (op_store ty82 rfl rfl (by repeat constructor) rfl rfl rfl) rfl rfl ?_
    rintro _ _ _ ⟨rfl, rfl⟩
    refine SL.nil ?_
    refine T.seq ?_
    refine T.region ?_
    refine SL.y (op_move rfl) rfl rfl ?_
    refine SL.y (op_move rfl) rfl rfl ?_
    first | refine SL.y (op_indexN Tryz.underlying24 ty82 rfl rfl (by omega)) rfl rfl ?_ | refine SL.y (op_index Tryz.underlying24 ty82 rfl rfl (by omega) (by omega)) rfl rfl ?_
    refine SL.y (op_loadX ty82 rfl (hB'.mono hX1) (row_read rc7_len hr' (by omega))) rfl rfl ?_
    refine SL.x (op_alloc z82) rfl rfl ?_
    rintro _ _ _ ⟨B9, rfl, rfl, rfl⟩
    refine SL.x (op_store ty82 rfl rfl (by repeat constructor) rfl rfl rfl) rfl rfl ?_
    rintro _ _ _ ⟨rfl, rfl⟩
    refine SL.nil ?_
    refine T.seq ?_
    refine T.region ?_
    refine SL.y (op_move rfl) rfl rfl ?_
    first | refine SL.y (op_load ty82 rfl (by repeat constructor) rfl) rfl rfl ?_ | refine SL.y (op_loadX ty82 rfl (by assumption) rfl) rfl rfl ?_
    first | refine SL.y (op_load ty82 rfl (by repeat constructor) rfl) rfl rfl ?_ | refine SL.y (op_loadX ty82 rfl (by assumption) rfl) rfl rfl ?_
    refine SL.x (op_call en66 rfl (vs := [_, _]) rfl hcall) rfl rfl ?_
    rintro _ _ X2 ⟨rfl, hX2, rfl⟩
    refine SL.y (op_not rfl) rfl rfl ?_
    refine SL.nil ?_
    by_cases hxy : x = y
    · rw [decide_eq_true hxy]
      refine T.condF rfl ?_
      refine T.skip ?_
      refine T.blk ?_
      refine T.region ?_
      first | refine SL.y (op_addN (q := 1) rfl rfl (by omega)) rfl rfl ?_ | refine SL.y (op_add rfl rfl (by omega) (by omega)) rfl rfl ?_ | refine SL.y (op_addW rfl rfl) rfl rfl ?_
      refine SL.y (op_move rfl) rfl rfl ?_
      refine SL.nil ?_
      refine T.drop B8 (by repeat constructor) ?_
      refine T.drop B9 (by repeat constructor) ?_
      exact T.backW (rows.length - (i + 1)) (by omega) ⟨i + 1, rfl, by omega, hX1.trans' hX2, (take_eq hx hy heq).2 hxy, rfl, rfl⟩ (by repeat (first | exact Sub.nil | refine Sub.cons rfl ?_))
    · rw [decide_eq_false hxy]
      refine T.condT rfl ?_
      refine T.seq ?_
      refine T.region ?_
      refine SL.y (op_assign rfl) rfl rfl ?_
      refine SL.nil ?_
      refine T.ret1 rfl (ResIs.tmp rfl) ?_
      rw [decide_eq_false (ne_at hx hy hxy)]
  · obtain rfl : i = rows.length := by omega
    rw [List.take_of_length_le (by omega), List.take_of_length_le (by omega)] at heq
    refine T.seq ?_
    refine T.region ?_
    first | refine SL.y (op_lssT rfl rfl (by omega)) rfl rfl ?_ | refine SL.y (op_lssF rfl rfl (by omega)) rfl rfl ?_ | refine SL.y (op_lss rfl rfl) rfl rfl ?_
    refine SL.nil ?_
    refine T.seq ?_
    refine T.condF rfl ?_
    refine T.exit (T.exitCode (T.exitCut (T.exitBlk ?_)))
    refine T.seq ?_
    refine T.region ?_
    refine SL.y (op_assign rfl) rfl rfl ?_
    refine SL.nil ?_
    refine T.ret1 rfl (ResIs.tmp rfl) ?_
    rw [decide_eq_true heq]
theorem conEq_spec {X : PMap} {va vb : Value} {cs ds : List Con} (ha : ConsR X va cs) (hb : ConsR X vb ds) (hl : cs.length < 1000000000) (hw : ∀ c ∈ cs, wtE c.ex < 900000) :
    Spec Tryz.prog 31 [va, vb] X fun u _ => u = .bool (decide (cs = ds)) := by
  obtain ⟨A, cp, rfl⟩ := ha.form
  obtain ⟨A', cp', rfl⟩ := hb.form
  refine Spec.enter Tryz.func31 rfl Tryz.ntmps31 rfl ?_
  intro w0 hw0
  refine T.seq ?_
  refine T.region ?_
  refine SL.y (op_assign rfl) rfl rfl ?_
  refine SL.nil ?_
  refine T.seq ?_
  refine T.region ?_
  refine SL.y (op_move rfl) rfl rfl ?_
  refine SL.y (op_move rfl) rfl rfl ?_
  refine SL.x (op_callF en65 (vs := [_, _, _]) rfl (eqFnC_spec ha hb hl hw)) rfl rfl ?_
  rintro _ _ X2 ⟨rfl, hX2, rfl⟩
  refine SL.y (op_assign rfl) rfl rfl ?_
  refine SL.nil ?_
  refine T.ret1 rfl (ResIs.tmp rfl) ?_
  rfl
theorem ConsRi.form {X : PMap} {v : Value} {cs : List Con} (h : ConsRi X v cs) : ∃ A cp, v = .slice A cs.length cp := by
  obtain ⟨rows, h, hl, _⟩ := h
  obtain ⟨A, c, rfl⟩ := h.form
  exact ⟨A, c, by rw [hl]⟩
end Go.Proofs.YtnabbnhefjfegaaGreatDoor
namespace Go.Proofs.YtnabbnhefjfegaaGreatDoor
section
set_option maxRecDepth 100000
theorem en12 : Enters Tryz.prog 12 := enters_mk Tryz.func12 (by kernel_rfl) rfl
theorem en13 : Enters Tryz.prog 13 := enters_mk Tryz.func13 (by kernel_rfl) rfl
theorem en14 : Enters Tryz.prog 14 := enters_mk Tryz.func14 (by kernel_rfl) rfl
theorem en15 : Enters Tryz.prog 15 := enters_mk Tryz.func15 (by kernel_rfl) rfl
theorem en31 : Enters Tryz.prog 31 := enters_mk Tryz.func31 (by kernel_rfl) rfl
end
open Go.RowKit
theorem parseM_nil : parseM ⟨#[]⟩ = .ok [] := by kernel_rfl
/-- The canonical text of accepted constraints. -/
theorem parseM_lines {cs : List Con} (h : chkAll cs = 0) : (⟨(linesL cs).toArray⟩ : ByteArray).size ≤ 8000 ∧ parseM ⟨(linesL cs).toArray⟩ = .ok cs := by
  obtain ⟨_, h2, _, h4⟩ := conOk_of h
  have hb : bl ⟨(linesL cs).toArray⟩ = linesL cs := by simp [bl]
  have hs : (⟨(linesL cs).toArray⟩ : ByteArray).size ≤ 8000 := by rw [← bl_size, hb]; exact h2
  refine ⟨hs, ?_⟩
  rw [SrcP.parse (cs := cs) (by rw [hb]; exact SrcP.lines h4) hs, if_pos h]
theorem pSets_spec {X : PMap} (hP : Pow10 X) {v : Value} {l : List Itm} (h : ItsR X v l) (hok : ∀ x ∈ l, itOk x) : Spec Tryz.prog 9 [v] X fun u _ => u = .bool true := by
  have hl := cons_len l
  have hw := cons_wt l
  have hwC := cons_wtC l
  have hck := cons_ok hok
  have hww : ∀ c ∈ consOf l, wtE c.ex < 900000 := fun c hc => Nat.lt_trans (hw c hc) (by omega)
  refine Spec.enter Tryz.func9 rfl Tryz.ntmps9 rfl ?_
  intro w0 hw0
  refine T.seq ?_
  refine T.region ?_
  refine SL.y (op_assign rfl) rfl rfl ?_
  refine SL.nil ?_
  refine T.seq ?_
  refine T.seq ?_
  refine T.region ?_
  refine SL.x (op_callF en12 (vs := []) rfl (awake17_spec hP)) rfl rfl ?_
  rintro _ _ X0 ⟨rfl, hX0, rfl⟩
  refine SL.y (op_not rfl) rfl rfl ?_
  refine SL.nil ?_
  refine T.condF rfl ?_
  refine T.skip ?_
  refine T.seq ?_
  refine T.region ?_
  refine SL.y (op_move rfl) rfl rfl ?_
  refine SL.x (op_callF en14 (vs := [_]) rfl (ball_spec (h.mono hX0) hok)) rfl rfl ?_
  rintro v1 _ X1 ⟨rfl, hX1, h1⟩
  generalize consOf l = cs at *
  refine SL.x (op_callF en13 (vs := [_]) rfl (set16_spec h1 (by omega) hck)) rfl rfl ?_
  rintro v2 _ X2 ⟨rfl, hX2, h2⟩
  have hP2 := ((hP.mono hX0).mono hX1).mono hX2
  refine SL.y (op_assign rfl) rfl rfl ?_
  refine SL.nil ?_
  refine T.seq ?_
  refine T.region ?_
  refine SL.y (op_move rfl) rfl rfl ?_
  refine SL.x (op_callF en15 (vs := [_]) rfl (cprintA_spec hP2 h2 (by omega) hwC hww)) rfl rfl ?_
  rintro _ _ X3 ⟨rfl, hX3, rfl⟩
  have hP3 := hP2.mono hX3
  have h2 := h2.mono hX3
  by_cases hz : chkAll cs = 0
  case neg =>
    rw [if_neg hz]
    refine SL.x (op_callF en18 (vs := [_]) rfl (parse_ok hP3 parseM_nil (of_decide_eq_true (by kernel_rfl)))) rfl rfl ?_
    rintro _ _ X4 ⟨rfl, hX4, v4, rfl, hv⟩
    obtain ⟨rows, hR, hl0, _⟩ := hv
    obtain ⟨A4, c4, rfl⟩ := hR.form
    have hl0 : rows.length = 0 := hl0
    simp only [hl0]
    refine SL.y (op_move rfl) rfl rfl ?_
    refine SL.y (op_extract rfl rfl) rfl rfl ?_
    refine SL.y (op_extract rfl rfl) rfl rfl ?_
    refine SL.y (op_extract rfl rfl) rfl rfl ?_
    refine SL.y (op_assign rfl) rfl rfl ?_
    refine SL.y (op_assign rfl) rfl rfl ?_
    refine SL.y (op_assign rfl) rfl rfl ?_
    refine SL.nil ?_
    refine T.seq ?_
    refine T.seq ?_
    refine T.region ?_
    refine SL.y (op_move rfl) rfl rfl ?_
    refine SL.x (op_callF en16 (vs := [_]) rfl (checkA_spec (hP3.mono hX4) (h2.mono hX4) (by omega) hwC hww)) rfl rfl ?_
    rintro _ _ X5 ⟨rfl, hX5, rfl⟩
    first | refine SL.y (op_neqT rfl rfl (by omega)) rfl rfl ?_ | refine SL.y (op_neqF rfl rfl (by omega)) rfl rfl ?_ | refine SL.y (op_neq rfl rfl) rfl rfl ?_
    refine SL.nil ?_
    refine T.condT rfl ?_
    refine T.seq ?_
    refine T.region ?_
    refine SL.y (op_move rfl) rfl rfl ?_
    first | refine SL.y (op_eqlT rfl rfl (by omega)) rfl rfl ?_ | refine SL.y (op_eqlF rfl rfl (by omega)) rfl rfl ?_ | refine SL.y (op_eql rfl rfl) rfl rfl ?_
    refine SL.y (op_move rfl) rfl rfl ?_
    first | refine SL.skip rfl rfl ?_ | refine SL.y (op_move rfl) rfl rfl ?_
    first | refine SL.skip rfl rfl ?_ | refine SL.y (op_lenS Tryz.underlying24 rfl) rfl rfl ?_
    first | refine SL.skip rfl rfl ?_ | refine SL.y (op_eqlT rfl rfl (by omega)) rfl rfl ?_ | refine SL.y (op_eqlF rfl rfl (by omega)) rfl rfl ?_ | refine SL.y (op_eql rfl rfl) rfl rfl ?_
    first | refine SL.y (op_pickT rfl rfl) rfl rfl ?_ | refine SL.y (op_pickF rfl rfl) rfl rfl ?_ | refine SL.y (op_pickB rfl rfl rfl) rfl rfl ?_
    refine SL.y (op_assign rfl) rfl rfl ?_
    refine SL.nil ?_
    refine T.ret1 rfl (ResIs.tmp rfl) ?_
    rfl
  obtain ⟨hs, hm⟩ := parseM_lines hz
  rw [if_pos hz]
  generalize (⟨(linesL cs).toArray⟩ : ByteArray) = t at hs hm ⊢
  refine SL.x (op_callF en18 (vs := [_]) rfl (parse_ok hP3 hm (by omega))) rfl rfl ?_
  rintro _ _ X4 ⟨rfl, hX4, v4, rfl, hv⟩
  have h2 := h2.mono hX4
  refine SL.y (op_move rfl) rfl rfl ?_
  refine SL.y (op_extract rfl rfl) rfl rfl ?_
  refine SL.y (op_extract rfl rfl) rfl rfl ?_
  refine SL.y (op_extract rfl rfl) rfl rfl ?_
  refine SL.y (op_assign rfl) rfl rfl ?_
  refine SL.y (op_assign rfl) rfl rfl ?_
  refine SL.y (op_assign rfl) rfl rfl ?_
  refine SL.nil ?_
  refine T.seq ?_
  refine T.seq ?_
  refine T.region ?_
  refine SL.y (op_move rfl) rfl rfl ?_
  refine SL.x (op_callF en16 (vs := [_]) rfl (checkA_spec (hP3.mono hX4) h2 (by omega) hwC hww)) rfl rfl ?_
  rintro _ _ X5 ⟨rfl, hX5, rfl⟩
  first | refine SL.y (op_neqT rfl rfl (by omega)) rfl rfl ?_ | refine SL.y (op_neqF rfl rfl (by omega)) rfl rfl ?_ | refine SL.y (op_neq rfl rfl) rfl rfl ?_
  refine SL.nil ?_
  refine T.condF rfl ?_
  refine T.skip ?_
  refine T.seq ?_
  refine T.region ?_
  refine SL.y (op_move rfl) rfl rfl ?_
  first | refine SL.y (op_eqlT rfl rfl (by omega)) rfl rfl ?_ | refine SL.y (op_eqlF rfl rfl (by omega)) rfl rfl ?_ | refine SL.y (op_eql rfl rfl) rfl rfl ?_
  refine SL.y (op_move rfl) rfl rfl ?_
  first | refine SL.skip rfl rfl ?_ | refine SL.y (op_move rfl) rfl rfl ?_
  first | refine SL.skip rfl rfl ?_ | refine SL.y (op_eqlT rfl rfl (by omega)) rfl rfl ?_ | refine SL.y (op_eqlF rfl rfl (by omega)) rfl rfl ?_ | refine SL.y (op_eql rfl rfl) rfl rfl ?_
  first | refine SL.y (op_pickT rfl rfl) rfl rfl ?_ | refine SL.y (op_pickF rfl rfl) rfl rfl ?_ | refine SL.y (op_pickB rfl rfl rfl) rfl rfl ?_
  refine SL.y (op_move rfl) rfl rfl ?_
  first | refine SL.skip rfl rfl ?_ | refine SL.y (op_move rfl) rfl rfl ?_
  first | refine SL.skip rfl rfl ?_ | refine SL.y (op_move rfl) rfl rfl ?_
  refine SL.x (op_callF en31 (vs := [_, _]) rfl (conEq_spec (hv.mono hX5) (h2.mono hX5) (by omega) hww)) rfl rfl ?_
  rintro _ _ X6 ⟨rfl, hX6, rfl⟩
  rw [decide_eq_true rfl]
  first | refine SL.y (op_pickT rfl rfl) rfl rfl ?_ | refine SL.y (op_pickF rfl rfl) rfl rfl ?_ | refine SL.y (op_pickB rfl rfl rfl) rfl rfl ?_
  refine SL.y (op_assign rfl) rfl rfl ?_
  refine SL.nil ?_
  refine T.ret1 rfl (ResIs.tmp rfl) ?_
  rfl
end Go.Proofs.YtnabbnhefjfegaaGreatDoor
namespace Go.Proofs.YtnabbnhefjfegaaGreatDoor
open Go.RowKit
theorem gPow : Tryz.prog.globalNamed "internal/strconv.uint64pow10" = some 1 := by kernel_rfl
theorem gPowT : (Tryz.prog.globals[1]?).map (·.type) = some 211 := by kernel_rfl
theorem cells20 : Tryz.prog.cellsOf 211 = 20 := by kernel_rfl
theorem cellsU64 : Tryz.prog.cellsOf 171 = 1 := by kernel_rfl
theorem pow_of {W : World} {x y : String × DataW Unit} (h : laidMet Tryz.prog [x, y, ("internal/strconv.uint64pow10", Rows.laid_internal_strconv_uint64pow10)] W) : Pow10 (heapX W) := by
  have ht : Lib.TabIs Tryz.prog W "internal/strconv.uint64pow10" .u64 Lib.pow10Tab := Lib.tabIs_of_head gPow gPowT Tryz.underlying211 Tryz.underlying171 cellsU64 cells20 h.tail.tail
  intro w hw
  unfold Lib.TabIs World.var? at ht ⊢
  rw [gPow] at ht ⊢
  simp only [Option.bind_some] at ht ⊢
  cases hg : W.heap[1]? with
  | none => rw [hg] at ht; cases ht
  | some o =>
    rw [hg] at ht
    rw [hw 1 o hg]
    exact ht
end Go.Proofs.YtnabbnhefjfegaaGreatDoor
