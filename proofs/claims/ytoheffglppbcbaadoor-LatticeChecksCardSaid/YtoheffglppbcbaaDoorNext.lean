/- THE NEXT CLOSED SET (package lattice). -/
import Derived.Test.YtoheffglppbcbaaDoorClo
namespace Go.Proofs.YtoheffglppbcbaaDoor
section
set_option maxRecDepth 100000
theorem en51 : Enters Tryd.prog 51 := enters_mk Tryd.func51 (by kernel_rfl) rfl
theorem en88 : Enters Tryd.prog 88 := enters_mk Tryd.func88 (by kernel_rfl) rfl
theorem en89 : Enters Tryd.prog 89 := enters_mk Tryd.func89 (by kernel_rfl) rfl
theorem en90 : Enters Tryd.prog 90 := enters_mk Tryd.func90 (by kernel_rfl) rfl
end
open Go.RowKit
/-- The least member; 0: there is none. -/
def leastM (m : Nat) : Nat := (mem64 m).headD 0
theorem least_any {X : PMap} (hT : Tab X) {v : Value} {m : Nat} (h : SetR X v m) : Spec Tryd.prog 90 [v] X fun u _ => ∃ b, u = .tuple #[.int .i64 (leastM m : Int), .bool b] := by
  by_cases h0 : m = 0
  · subst h0
    exact (least0_spec h).mono fun v X _ hv => ⟨false, by rw [hv]; simp [leastM, mem64_zero]⟩
  · obtain ⟨t, q, hq⟩ := odd_part m (by omega)
    have ht : t < 64 := odd_lt (n := 64) (q := q) (by rw [← hq]; exact h.lt)
    refine (least_spec hT h t q hq).mono fun v X _ hv => ⟨true, ?_⟩
    rw [hv, hq, leastM, mem64_cons t q ht]
    rfl
/-- The closed set that follows a, columns below n still to be looked at. -/
def nextM (c : Nat) (ms : List Nat) : Nat → Nat → Option Nat
  | 0, _ => none
  | j + 1, a => if a.testBit j then nextM c ms j (a &&& (18446744073709551615 - 2 ^ j)) else
      if leastM (clo c ms (a ||| 2 ^ j) &&& (18446744073709551615 - a)) = j then some (clo c ms (a ||| 2 ^ j)) else nextM c ms j a
theorem MatR.lens {X : PMap} {v : Value} {c : Nat} {ms : List Nat} (h : MatR X v c ms) : ms.length < 64 ∧ c < 64 := by obtain ⟨_, _, _, _, _, _, _, _, h⟩ := h; exact h
theorem MatR.ptr {X : PMap} {v : Value} {c : Nat} {ms : List Nat} (h : MatR X v c ms) : ∃ b, v = .pointer (some ⟨b, 0, none⟩) := by obtain ⟨b, _, _, _, h, _⟩ := h; exact ⟨b, h⟩
theorem next_spec {X : PMap} (hT : Tab X) {v s : Value} {c : Nat} {ms : List Nat} {a : Nat} (h : MatR X v c ms) (hs : SetR X s a) : Spec Tryd.prog 59 [v, s] X fun u X' => ∃ w, u = .tuple #[w, .bool (nextM c ms c a).isSome] ∧ SetR X' w ((nextM c ms c a).getD 0) := by
  obtain ⟨hr, hc⟩ := h.lens
  obtain ⟨bm, rfl⟩ := h.ptr
  obtain ⟨A, l, cp, rfl⟩ := hs.form
  generalize hgoal : nextM c ms c a = res
  refine Spec.enter Tryd.func59 rfl Tryd.ntmps59 rfl ?_
  intro w0 hw0
  refine T.seq ?_
  refine T.region ?_
  refine SL.x (op_box rfl) rfl rfl ?_
  rintro _ _ _ ⟨B3, rfl, rfl, rfl⟩
  refine SL.x (op_alloc z47) rfl rfl ?_
  rintro _ _ _ ⟨B4, rfl, rfl, rfl⟩
  refine SL.y (op_assign rfl) rfl rfl ?_
  refine SL.nil ?_
  refine T.seq ?_
  refine T.seq ?_
  refine T.region ?_
  refine SL.y (op_move rfl) rfl rfl ?_
  -- op
  refine SL.x (op_callF en45 (vs := [_]) rfl (columns_spec h)) rfl rfl ?_
  rintro _ _ X1 ⟨rfl, hX1, rfl⟩
  refine SL.y (op_sub (q := 1) rfl rfl (by omega) (by omega)) rfl rfl ?_
  refine SL.y (op_assign rfl) rfl rfl ?_
  refine SL.nil ?_
  refine T.block ?_
  -- loop live [0, 3, 4, 5, 6]
  refine T.loopW (fun m env own X' => ∃ (n x : Nat) (A' : Option Addr) (l' c' : Nat), m = n ∧ n ≤ c ∧ X1.le X' ∧ nextM c ms n x = res ∧ SetR X' (.agg #[.slice A' l' c']) x ∧ env = [(0, .pointer (some ⟨bm, 0, none⟩)), (3, .pointer (some ⟨B3, 0, none⟩)), (4, .pointer (some ⟨B4, 0, none⟩)), (6, .int .i64 ((n : Int) - 1))] ∧ own = [⟨B4, [.slice none 0 0], 47, 1⟩, ⟨B3, [.slice A' l' c'], 47, 1⟩]) c ⟨c, a, A, l, cp, rfl, by omega, PMap.le_refl _, hgoal, hs.mono hX1, rfl, rfl⟩ (by repeat (first | exact Sub.nil | refine Sub.cons rfl ?_)) ?_
  rintro m _ _ X2 ⟨n, x, A2, l2, c2, rfl, hn, hX2, hnext, hS2, rfl, rfl⟩
  rcases m with _ | k
  · skip
    refine T.seq ?_
    refine T.seq ?_
    refine T.region ?_
    refine SL.y (op_move rfl) rfl rfl ?_
    first | refine SL.y (op_geqT rfl rfl (by omega)) rfl rfl ?_ | refine SL.y (op_geqF rfl rfl (by omega)) rfl rfl ?_ | refine SL.y (op_geq rfl rfl) rfl rfl ?_
    refine SL.nil ?_
    refine T.condF rfl ?_
    refine T.exit (T.exitCode (T.exitCut (T.exitBlk ?_)))
    refine T.seq ?_
    refine T.region ?_
    refine SL.y (op_build st47 (qs := []) rfl rfl) rfl rfl ?_
    refine SL.x (op_store ty47 rfl rfl (by repeat (first | exact AtO.here | apply AtO.there)) rfl rfl rfl) rfl rfl ?_
    rintro _ _ _ ⟨rfl, rfl⟩
    refine SL.y (op_assign rfl) rfl rfl ?_
    refine SL.nil ?_
    -- ret
    refine T.ret2 rfl (ResIs.cell rfl ty47 (by repeat (first | exact AtO.here | apply AtO.there)) rfl) (ResIs.tmp rfl) ?_
    rw [← hnext]
    exact ⟨_, rfl, SetR.zero⟩
  · rw [show (((k + 1 : Nat) : Int) - 1) = (k : Int) by omega]
    have hT2 := (hT.mono hX1).mono hX2
    have h2 := (h.mono hX1).mono hX2
    refine T.seq ?_
    refine T.seq ?_
    refine T.region ?_
    refine SL.y (op_move rfl) rfl rfl ?_
    first | refine SL.y (op_geqT rfl rfl (by omega)) rfl rfl ?_ | refine SL.y (op_geqF rfl rfl (by omega)) rfl rfl ?_ | refine SL.y (op_geq rfl rfl) rfl rfl ?_
    refine SL.nil ?_
    refine T.condT rfl ?_
    refine T.skip ?_
    refine T.seq ?_
    refine T.block ?_
    refine T.seq ?_
    refine T.seq ?_
    refine T.region ?_
    first | refine SL.y (op_load ty47 rfl (by repeat (first | exact AtO.here | apply AtO.there)) rfl) rfl rfl ?_ | refine SL.y (op_loadX ty47 rfl (by assumption) rfl) rfl rfl ?_
    refine SL.y (op_move rfl) rfl rfl ?_
    -- op
    refine SL.x (op_callF en32 (vs := [_, _]) rfl (has_spec hS2 (k : Int))) rfl rfl ?_
    rintro _ _ X3 ⟨rfl, hX3, rfl⟩
    rw [hasB_nat]
    cases hb : x.testBit k with
    | true =>
      refine SL.nil ?_
      refine T.condT rfl ?_
      refine T.seq ?_
      refine T.region ?_
      first | refine SL.y (op_load ty47 rfl (by repeat (first | exact AtO.here | apply AtO.there)) rfl) rfl rfl ?_ | refine SL.y (op_loadX ty47 rfl (by assumption) rfl) rfl rfl ?_
      refine SL.y (op_move rfl) rfl rfl ?_
      -- op
      refine SL.x (op_callF en88 (vs := [_, _]) rfl (without_spec (hS2.mono hX3) k (by omega))) rfl rfl ?_
      rintro _ _ X4 ⟨rfl, hX4, hS4⟩
      obtain ⟨A4, l4, c4, rfl⟩ := hS4.form
      refine SL.x (op_store ty47 rfl rfl (by repeat (first | exact AtO.here | apply AtO.there)) rfl rfl rfl) rfl rfl ?_
      rintro _ _ _ ⟨rfl, rfl⟩
      refine SL.nil ?_
      refine T.exit (T.exitCode (T.exitBlk ?_))
      refine T.region ?_
      refine SL.y (op_move rfl) rfl rfl ?_
      first | refine SL.y (op_subN (q := 1) rfl rfl (by omega) (by omega)) rfl rfl ?_ | refine SL.y (op_sub rfl rfl (by omega) (by omega)) rfl rfl ?_ | refine SL.y (op_subW rfl rfl) rfl rfl ?_
      refine SL.y (op_assign rfl) rfl rfl ?_
      refine SL.nil ?_
      -- cut
      exact T.backW k (by omega) ⟨k, _, A4, l4, c4, rfl, by omega, (hX2.trans' hX3).trans' hX4, by rw [← hnext, nextM, if_pos hb], hS4, rfl, rfl⟩ (by repeat (first | exact Sub.nil | refine Sub.cons rfl ?_))
    | false =>
      refine SL.nil ?_
      refine T.condF rfl ?_
      refine T.skip ?_
      refine T.seq ?_
      refine T.region ?_
      refine SL.y (op_move rfl) rfl rfl ?_
      first | refine SL.y (op_load ty47 rfl (by repeat (first | exact AtO.here | apply AtO.there)) rfl) rfl rfl ?_ | refine SL.y (op_loadX ty47 rfl (by assumption) rfl) rfl rfl ?_
      refine SL.y (op_move rfl) rfl rfl ?_
      -- op
      refine SL.x (op_callF en51 (vs := [_, _]) rfl (with_spec (hS2.mono hX3) k (by omega))) rfl rfl ?_
      rintro _ _ X4 ⟨rfl, hX4, hS4⟩
      -- op
      refine SL.x (op_callF en58 (vs := [_, _]) rfl (close_spec ((hT2.mono hX3).mono hX4) ((h2.mono hX3).mono hX4) hS4)) rfl rfl ?_
      rintro _ _ X5 ⟨rfl, hX5, hS5⟩
      obtain ⟨A5, l5, c5, rfl⟩ := hS5.form
      refine SL.x (op_alloc z47) rfl rfl ?_
      rintro _ _ _ ⟨B7, rfl, rfl, rfl⟩
      refine SL.x (op_store ty47 rfl rfl (by repeat (first | exact AtO.here | apply AtO.there)) rfl rfl rfl) rfl rfl ?_
      rintro _ _ _ ⟨rfl, rfl⟩
      refine SL.nil ?_
      refine T.seq ?_
      refine T.region ?_
      first | refine SL.y (op_load ty47 rfl (by repeat (first | exact AtO.here | apply AtO.there)) rfl) rfl rfl ?_ | refine SL.y (op_loadX ty47 rfl (by assumption) rfl) rfl rfl ?_
      first | refine SL.y (op_load ty47 rfl (by repeat (first | exact AtO.here | apply AtO.there)) rfl) rfl rfl ?_ | refine SL.y (op_loadX ty47 rfl (by assumption) rfl) rfl rfl ?_
      -- op
      refine SL.x (op_callF en89 (vs := [_, _]) rfl (minus_spec hS5 (((hS2.mono hX3).mono hX4).mono hX5))) rfl rfl ?_
      rintro _ _ X6 ⟨rfl, hX6, hS6⟩
      -- op
      refine SL.x (op_callF en90 (vs := [_]) rfl (least_any ((((hT2.mono hX3).mono hX4).mono hX5).mono hX6) hS6)) rfl rfl ?_
      rintro _ _ X7 ⟨rfl, hX7, fl, rfl⟩
      by_cases hk : leastM (clo c ms (x ||| 2 ^ k) &&& (18446744073709551615 - x)) = k
      · skip
        refine SL.y (op_move rfl) rfl rfl ?_
        refine SL.y (op_extract rfl rfl) rfl rfl ?_
        refine SL.y (op_extract rfl rfl) rfl rfl ?_
        refine SL.y (op_assign rfl) rfl rfl ?_
        refine SL.y (op_assign rfl) rfl rfl ?_
        refine SL.nil ?_
        refine T.seq ?_
        refine T.region ?_
        refine SL.y (op_move rfl) rfl rfl ?_
        refine SL.y (op_move rfl) rfl rfl ?_
        first | refine SL.y (op_eqlT rfl rfl (by omega)) rfl rfl ?_ | refine SL.y (op_eqlF rfl rfl (by omega)) rfl rfl ?_ | refine SL.y (op_eql rfl rfl) rfl rfl ?_
        refine SL.nil ?_
        refine T.condT rfl ?_
        refine T.seq ?_
        refine T.region ?_
        first | refine SL.y (op_load ty47 rfl (by repeat (first | exact AtO.here | apply AtO.there)) rfl) rfl rfl ?_ | refine SL.y (op_loadX ty47 rfl (by assumption) rfl) rfl rfl ?_
        refine SL.x (op_store ty47 rfl rfl (by repeat (first | exact AtO.here | apply AtO.there)) rfl rfl rfl) rfl rfl ?_
        rintro _ _ _ ⟨rfl, rfl⟩
        refine SL.y (op_assign rfl) rfl rfl ?_
        refine SL.nil ?_
        -- ret
        refine T.ret2 rfl (ResIs.cell rfl ty47 (by repeat (first | exact AtO.here | apply AtO.there)) rfl) (ResIs.tmp rfl) ?_
        rw [← hnext, nextM, if_neg (by simp [hb]), if_pos hk]
        exact ⟨_, rfl, (hS5.mono hX6).mono hX7⟩
      · refine SL.y (op_move rfl) rfl rfl ?_
        refine SL.y (op_extract rfl rfl) rfl rfl ?_
        refine SL.y (op_extract rfl rfl) rfl rfl ?_
        refine SL.y (op_assign rfl) rfl rfl ?_
        refine SL.y (op_assign rfl) rfl rfl ?_
        refine SL.nil ?_
        refine T.seq ?_
        refine T.region ?_
        refine SL.y (op_move rfl) rfl rfl ?_
        refine SL.y (op_move rfl) rfl rfl ?_
        first | refine SL.y (op_eqlT rfl rfl (by omega)) rfl rfl ?_ | refine SL.y (op_eqlF rfl rfl (by omega)) rfl rfl ?_ | refine SL.y (op_eql rfl rfl) rfl rfl ?_
        refine SL.nil ?_
        refine T.condF rfl ?_
        refine T.skip ?_
        refine T.blk ?_
        refine T.region ?_
        refine SL.y (op_move rfl) rfl rfl ?_
        first | refine SL.y (op_subN (q := 1) rfl rfl (by omega) (by omega)) rfl rfl ?_ | refine SL.y (op_sub rfl rfl (by omega) (by omega)) rfl rfl ?_ | refine SL.y (op_subW rfl rfl) rfl rfl ?_
        refine SL.y (op_assign rfl) rfl rfl ?_
        refine SL.nil ?_
        -- cut
        refine T.drop B7 (by repeat (first | exact AtO.here | apply AtO.there)) ?_
        exact T.backW k (by omega) ⟨k, x, A2, l2, c2, rfl, by omega, ((((hX2.trans' hX3).trans' hX4).trans' hX5).trans' hX6).trans' hX7, by rw [← hnext, nextM, if_neg (by simp [hb]), if_neg hk], ((((hS2.mono hX3).mono hX4).mono hX5).mono hX6).mono hX7, rfl, rfl⟩ (by repeat (first | exact Sub.nil | refine Sub.cons rfl ?_))
end Go.Proofs.YtoheffglppbcbaaDoor
