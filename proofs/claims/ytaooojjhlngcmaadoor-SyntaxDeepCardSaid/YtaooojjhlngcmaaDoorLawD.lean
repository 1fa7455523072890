/- SyntaxDeep. -/
import Derived.Test.YtaooojjhlngcmaaDoorAwk
namespace Go.Proofs.YtaooojjhlngcmaaDoor
section
set_option maxRecDepth 100000
theorem en11 : Enters Tryd.prog 11 := enters_mk Tryd.func11 (by kernel_rfl) rfl
end
open Go.RowKit
/-- The expression that SyntaxDeep builds. -/
def deepE (o : Nat) : Nat → Ex
  | 0 => lA
  | k + 1 => if o = 0 then .mk 7 0 [] [deepE o k] else if o = 1 then .mk 9 0 [] [lB, deepE o k] else .mk 8 0 [] [deepE o k, lB]
theorem deep_node (o : Nat) : ∀ k, nodeE (deepE o k) = 0
  | 0 => leaf_node valA
  | k + 1 => by
    rw [deepE]
    split
    · exact node_of (by simp [argN]) (by decide) (fun t ht => by cases ht) (by simp) (by decide) (nodeL_of fun x hx => by rw [List.mem_singleton.1 hx]; exact deep_node o k)
    · split
      · exact two_node (by decide) (by decide) (leaf_node valB) (deep_node o k)
      · exact two_node (by decide) (by decide) (deep_node o k) (leaf_node valB)
theorem deep_num (o : Nat) : ∀ k, numE 10 (deepE o k)
  | 0 => by simp [numE, numL, deepE, lA, leafE]
  | k + 1 => by
    have := deep_num o k
    rw [deepE]
    split
    · simp [numE, numL, this]
    · split <;> simp [numE, numL, lB, leafE, this]
theorem deep_all : (List.range 3).all (fun o => (List.range 13).all fun k => decide (depE (deepE o k) = k + 1 ∧ sizE (deepE o k) ≤ 200 ∧ wtE (deepE o k) < 900000 ∧ (textE (deepE o k)).size ≠ 0)) = true := by kernel_rfl
theorem deep_at {o k : Nat} (ho : o < 3) (hk : k < 13) : depE (deepE o k) = k + 1 ∧ sizE (deepE o k) ≤ 200 ∧ wtE (deepE o k) < 900000 ∧ (textE (deepE o k)).size ≠ 0 := by
  have h := List.all_eq_true.1 (List.all_eq_true.1 deep_all o (List.mem_range.2 ho)) k (List.mem_range.2 hk)
  exact of_decide_eq_true h
theorem deep_chk {o k : Nat} (ho : o < 3) (hk : k < 13) : chkE (deepE o k) = if 10 < k + 1 then 3 else 0 := by
  obtain ⟨h1, h2, _, _⟩ := deep_at ho hk
  rw [chkE, h1, deep_node]
  by_cases hc : 10 < k + 1
  · rw [if_pos (by omega), if_pos hc]
  · rw [if_neg (by omega), if_neg hc]
theorem emp_ne {s : ByteArray} (h : s.size ≠ 0) : s ≠ ⟨#[]⟩ := fun e => h (by rw [e]; rfl)
theorem sDeep_spec {X : PMap} {n p : Nat} : Spec Tryd.prog 8 [.int .u8 (n : Int), .int .u8 (p : Int)] X fun u _ => u = .bool true := by
  have h13 : n % 13 < 13 := Nat.mod_lt _ (by omega)
  have h3 : p % 3 < 3 := Nat.mod_lt _ (by omega)
  refine Spec.enter Tryd.func8 rfl Tryd.ntmps8 rfl ?_
  intro w0 hw0
  refine T.seq ?_
  refine T.region ?_
  refine SL.y (op_assign rfl) rfl rfl ?_
  refine SL.nil ?_
  refine T.seq ?_
  refine T.seq ?_
  refine T.region ?_
  -- op
  refine SL.x (op_callF en11 (vs := []) rfl (awake16_spec)) rfl rfl ?_
  rintro _ _ X0 ⟨rfl, hX0, rfl⟩
  refine SL.y (op_not rfl) rfl rfl ?_
  refine SL.nil ?_
  refine T.condF rfl ?_
  refine T.skip ?_
  refine T.seq ?_
  refine T.region ?_
  -- op
  refine SL.x (op_callF en29 (vs := [_]) rfl (leaf_spec (s := ⟨#[97]⟩))) rfl rfl ?_
  rintro _ _ X1 ⟨rfl, hX1, r, rfl, hr⟩
  obtain ⟨o, m0, A, B, l1, c1, l2, c2, rfl⟩ := hr.form
  refine SL.x (op_alloc z34) rfl rfl ?_
  rintro _ _ _ ⟨B5, rfl, rfl, rfl⟩
  refine SL.x (op_store ty34 rfl rfl (by repeat (first | exact AtO.here | apply AtO.there)) rfl rfl rfl) rfl rfl ?_
  rintro _ _ _ ⟨rfl, rfl⟩
  refine SL.nil ?_
  refine T.seq ?_
  refine T.region ?_
  refine SL.y (op_move rfl) rfl rfl ?_
  -- to 12: op
  refine SL.y (op_remN (q := 13) rfl rfl rfl (by omega)) rfl rfl ?_
  first | refine SL.y (op_convI64 Tryd.underlying5 Tryd.underlying3 rfl (by omega) (by omega)) rfl rfl ?_ | refine SL.y (op_convert Tryd.underlying5 Tryd.underlying3 rfl) rfl rfl ?_
  first | refine SL.y (op_addN (p := 1) rfl rfl (by omega)) rfl rfl ?_ | refine SL.y (op_add rfl rfl (by omega) (by omega)) rfl rfl ?_ | refine SL.y (op_addW rfl rfl) rfl rfl ?_
  refine SL.y (op_assign rfl) rfl rfl ?_
  refine SL.nil ?_
  refine T.seq ?_
  refine T.seq ?_
  refine T.region ?_
  refine SL.y (op_move rfl) rfl rfl ?_
  first | refine SL.y (op_subN (q := 1) rfl rfl (by omega) (by omega)) rfl rfl ?_ | refine SL.y (op_sub rfl rfl (by omega) (by omega)) rfl rfl ?_ | refine SL.y (op_subW rfl rfl) rfl rfl ?_
  refine SL.y (op_move (v := .int .i64 ((0 : Nat) : Int)) rfl) rfl rfl ?_
  refine SL.nil ?_
  refine T.block ?_
  -- loop live [1, 4, 5, 6, 16, 17]
  refine T.loopW (fun m env own X' => ∃ (i : Nat) (o : Nat) (m0 : Int) (A B : Option Addr) (l1 c1 l2 c2 : Nat), m = 1 + n % 13 - 1 - i ∧ i ≤ 1 + n % 13 - 1 ∧ X0.le X' ∧ ExR .u8 X' (deepE (p % 3) i) (.int .u8 (o : Int), .int .i64 m0, .slice A l1 c1, .slice B l2 c2) ∧ env = [(1, .int .u8 (p : Int)), (5, .pointer (some ⟨B5, 0, none⟩)), (6, .int .i64 ((1 + n % 13 : Nat) : Int)), (16, .int .i64 ((1 + n % 13 - 1 : Nat) : Int)), (17, .int .i64 (i : Int))] ∧ own = [⟨B5, [.int .u8 (o : Int), .int .i64 m0, .slice A l1 c1, .slice B l2 c2], 34, 4⟩]) (1 + n % 13 - 1) ⟨0, o, m0, A, B, l1, c1, l2, c2, by omega, by omega, hX1, hr, rfl, rfl⟩ (by repeat (first | exact Sub.nil | refine Sub.cons rfl ?_)) ?_
  rintro m _ _ X2 ⟨i, o, m0, A, B, l1, c1, l2, c2, rfl, hi, hX2, hr, rfl, rfl⟩
  rcases Nat.lt_or_ge i (1 + n % 13 - 1) with hil | hil
  · skip
    refine T.seq ?_
    refine T.region ?_
    first | refine SL.y (op_lssT rfl rfl (by omega)) rfl rfl ?_ | refine SL.y (op_lssF rfl rfl (by omega)) rfl rfl ?_ | refine SL.y (op_lss rfl rfl) rfl rfl ?_
    refine SL.nil ?_
    refine T.seq ?_
    refine T.condT rfl ?_
    refine T.skip ?_
    refine T.seq ?_
    refine T.block ?_
    refine T.seq ?_
    refine T.region ?_
    refine SL.y (op_move rfl) rfl rfl ?_
    -- to 20: op
    refine SL.y (op_remN (q := 3) rfl rfl rfl (by omega)) rfl rfl ?_
    rcases Nat.eq_zero_or_pos (p % 3) with hp0 | hp0
    · have hstep : deepE (p % 3) (i + 1) = .mk 7 0 [] [deepE (p % 3) i] := by rw [deepE, if_pos hp0]
      refine SL.nil ?_
      refine T.block ?_
      refine T.seq ?_
      refine T.region ?_
      first | refine SL.y (op_eqlT rfl rfl (by omega)) rfl rfl ?_ | refine SL.y (op_eqlF rfl rfl (by omega)) rfl rfl ?_ | refine SL.y (op_eql rfl rfl) rfl rfl ?_
      refine SL.y (op_assign rfl) rfl rfl ?_
      refine SL.nil ?_
      refine T.condT rfl ?_
      refine T.region ?_
      first | refine SL.y (op_load ty34 rfl (by repeat (first | exact AtO.here | apply AtO.there)) rfl) rfl rfl ?_ | refine SL.y (op_loadX ty34 rfl (by assumption) rfl) rfl rfl ?_
      refine SL.x (op_buildSlice Tryd.underlying32 bs34 (qs := [(0, _)]) rfl rfl rfl rfl rfl) rfl rfl ?_
      rintro _ _ _ ⟨B27, rfl, rfl, rfl⟩
      refine SL.y (op_build st34 (qs := [(0, _), (3, _)]) rfl rfl) rfl rfl ?_
      refine SL.x (op_store ty34 rfl rfl (by repeat (first | exact AtO.here | apply AtO.there)) rfl rfl rfl) rfl rfl ?_
      rintro _ _ _ ⟨rfl, rfl⟩
      refine SL.nil ?_
      refine T.blk ?_
      refine T.blk ?_
      refine T.region ?_
      first | refine SL.y (op_addN (q := 1) rfl rfl (by omega)) rfl rfl ?_ | refine SL.y (op_add rfl rfl (by omega) (by omega)) rfl rfl ?_ | refine SL.y (op_addW rfl rfl) rfl rfl ?_
      refine SL.y (op_move rfl) rfl rfl ?_
      refine SL.nil ?_
      -- cut
      refine T.pub B27 (by repeat (first | exact AtO.here | apply AtO.there)) ?_
      intro X3 hX3 hB27 _
      have hnew : ExR .u8 X3 (deepE (p % 3) (i + 1)) (.int .u8 ((7 : Nat) : Int), .int .i64 0, .slice none 0 0, .slice (some ⟨B27, 0, none⟩) 1 1) := by
        rw [hstep]
        exact .mk (rows := [(.int .u8 (o : Int), .int .i64 m0, .slice A l1 c1, .slice B l2 c2)]) (.inl ⟨rfl, _, _, rfl⟩) (.inr ⟨by simp, B27, 1, [], rfl, hB27, by simp, by decide⟩) rfl (fun i x r h h' => by
          match i, h, h' with
          | 0, h, h' => cases h; cases h'; exact hr.mono hX3)
      exact T.backW (1 + n % 13 - 1 - (i + 1)) (by omega) ⟨i + 1, 7, 0, none, some ⟨B27, 0, none⟩, 0, 0, 1, 1, rfl, by omega, hX2.trans' hX3, hnew, rfl, rfl⟩ (by repeat (first | exact Sub.nil | refine Sub.cons rfl ?_))
    · skip
      rcases Nat.lt_or_ge (p % 3) 2 with hp1 | hp1
      · have hstep : deepE (p % 3) (i + 1) = .mk 9 0 [] [lB, deepE (p % 3) i] := by rw [deepE, if_neg (by omega), if_pos (by omega)]
        refine SL.nil ?_
        refine T.block ?_
        refine T.seq ?_
        refine T.region ?_
        first | refine SL.y (op_eqlT rfl rfl (by omega)) rfl rfl ?_ | refine SL.y (op_eqlF rfl rfl (by omega)) rfl rfl ?_ | refine SL.y (op_eql rfl rfl) rfl rfl ?_
        refine SL.y (op_assign rfl) rfl rfl ?_
        refine SL.nil ?_
        refine T.condF rfl ?_
        refine T.seq ?_
        refine T.region ?_
        first | refine SL.y (op_eqlT rfl rfl (by omega)) rfl rfl ?_ | refine SL.y (op_eqlF rfl rfl (by omega)) rfl rfl ?_ | refine SL.y (op_eql rfl rfl) rfl rfl ?_
        refine SL.y (op_assign rfl) rfl rfl ?_
        refine SL.nil ?_
        refine T.condT rfl ?_
        refine T.draw (by kernel_rfl) 3 [.t 1, .r 0, .r 2] (by kernel_rfl) ?_
        first | refine SD.take rfl panicBody (op_load ty34 rfl (by repeat (first | exact AtO.here | apply AtO.there)) rfl) rfl rfl ?_ | refine SD.take rfl panicBody (op_loadX ty34 rfl (by assumption) rfl) rfl rfl ?_
        -- op
        refine SD.run rfl (op_callF en29 (vs := [_]) rfl (leaf_spec (s := ⟨#[98]⟩))) rfl rfl ?_
        rintro _ _ X3 ⟨rfl, hX3, rb, rfl, hb⟩
        obtain ⟨o8, n8, a8, b8, l8, c8, m8, d8, rfl⟩ := hb.form
        -- op
        have hc := pair_spec (op := 9) hb (hr.mono hX3)
        try simp only at hc
        refine SD.run rfl (op_callF en30 (vs := [_, _, _]) rfl (hc)) rfl rfl ?_
        rintro _ _ X4 ⟨rfl, hX4, rn, rfl, hn4⟩
        refine SD.nil ?_
        show SL _ _ _ _ _ _ _ [_] _ _ _
        obtain ⟨o9, n9, a9, b9, l9, c9, m9, d9, rfl⟩ := hn4.form
        refine SL.x (op_store ty34 rfl rfl (by repeat (first | exact AtO.here | apply AtO.there)) rfl rfl rfl) rfl rfl ?_
        rintro _ _ _ ⟨rfl, rfl⟩
        refine SL.nil ?_
        refine T.blk ?_
        refine T.blk ?_
        refine T.region ?_
        first | refine SL.y (op_addN (q := 1) rfl rfl (by omega)) rfl rfl ?_ | refine SL.y (op_add rfl rfl (by omega) (by omega)) rfl rfl ?_ | refine SL.y (op_addW rfl rfl) rfl rfl ?_
        refine SL.y (op_move rfl) rfl rfl ?_
        refine SL.nil ?_
        -- cut
        exact T.backW (1 + n % 13 - 1 - (i + 1)) (by omega) ⟨i + 1, o9, n9, a9, b9, l9, c9, m9, d9, rfl, by omega, (hX2.trans' hX3).trans' hX4, by rw [hstep]; exact hn4, rfl, rfl⟩ (by repeat (first | exact Sub.nil | refine Sub.cons rfl ?_))
      · have hstep : deepE (p % 3) (i + 1) = .mk 8 0 [] [deepE (p % 3) i, lB] := by rw [deepE, if_neg (by omega), if_neg (by omega)]
        refine SL.nil ?_
        refine T.block ?_
        refine T.seq ?_
        refine T.region ?_
        first | refine SL.y (op_eqlT rfl rfl (by omega)) rfl rfl ?_ | refine SL.y (op_eqlF rfl rfl (by omega)) rfl rfl ?_ | refine SL.y (op_eql rfl rfl) rfl rfl ?_
        refine SL.y (op_assign rfl) rfl rfl ?_
        refine SL.nil ?_
        refine T.condF rfl ?_
        refine T.seq ?_
        refine T.region ?_
        first | refine SL.y (op_eqlT rfl rfl (by omega)) rfl rfl ?_ | refine SL.y (op_eqlF rfl rfl (by omega)) rfl rfl ?_ | refine SL.y (op_eql rfl rfl) rfl rfl ?_
        refine SL.y (op_assign rfl) rfl rfl ?_
        refine SL.nil ?_
        refine T.condF rfl ?_
        refine T.draw (by kernel_rfl) 3 [.t 0, .r 1, .r 2] (by kernel_rfl) ?_
        first | refine SD.take rfl panicBody (op_load ty34 rfl (by repeat (first | exact AtO.here | apply AtO.there)) rfl) rfl rfl ?_ | refine SD.take rfl panicBody (op_loadX ty34 rfl (by assumption) rfl) rfl rfl ?_
        -- op
        refine SD.run rfl (op_callF en29 (vs := [_]) rfl (leaf_spec (s := ⟨#[98]⟩))) rfl rfl ?_
        rintro _ _ X3 ⟨rfl, hX3, rb, rfl, hb⟩
        obtain ⟨o8, n8, a8, b8, l8, c8, m8, d8, rfl⟩ := hb.form
        -- op
        have hc := pair_spec (op := 8) (hr.mono hX3) hb
        try simp only at hc
        refine SD.run rfl (op_callF en30 (vs := [_, _, _]) rfl (hc)) rfl rfl ?_
        rintro _ _ X4 ⟨rfl, hX4, rn, rfl, hn4⟩
        refine SD.nil ?_
        show SL _ _ _ _ _ _ _ [_] _ _ _
        obtain ⟨o9, n9, a9, b9, l9, c9, m9, d9, rfl⟩ := hn4.form
        refine SL.x (op_store ty34 rfl rfl (by repeat (first | exact AtO.here | apply AtO.there)) rfl rfl rfl) rfl rfl ?_
        rintro _ _ _ ⟨rfl, rfl⟩
        refine SL.nil ?_
        refine T.blk ?_
        refine T.blk ?_
        refine T.region ?_
        first | refine SL.y (op_addN (q := 1) rfl rfl (by omega)) rfl rfl ?_ | refine SL.y (op_add rfl rfl (by omega) (by omega)) rfl rfl ?_ | refine SL.y (op_addW rfl rfl) rfl rfl ?_
        refine SL.y (op_move rfl) rfl rfl ?_
        refine SL.nil ?_
        -- cut
        exact T.backW (1 + n % 13 - 1 - (i + 1)) (by omega) ⟨i + 1, o9, n9, a9, b9, l9, c9, m9, d9, rfl, by omega, (hX2.trans' hX3).trans' hX4, by rw [hstep]; exact hn4, rfl, rfl⟩ (by repeat (first | exact Sub.nil | refine Sub.cons rfl ?_))
  · obtain rfl : i = 1 + n % 13 - 1 := by omega
    obtain ⟨hd, _, hw, ht⟩ := deep_at (o := p % 3) (k := 1 + n % 13 - 1) h3 (by omega)
    have hk := deep_chk (o := p % 3) (k := 1 + n % 13 - 1) h3 (by omega)
    have hI : ∀ {X : PMap} (v : Nat), v < 10 → Spec Tryd.prog 82 [.int .i64 (v : Int)] X fun u _ => u = .string (decB v) := fun v h => itoa10 v h
    have hnum := deep_num (p % 3) (1 + n % 13 - 1)
    generalize hE : deepE (p % 3) (1 + n % 13 - 1) = E at *
    have e1 : 1 + n % 13 - 1 + 1 = 1 + n % 13 := by omega
    rw [e1] at hd hk
    refine T.seq ?_
    refine T.region ?_
    first | refine SL.y (op_lssT rfl rfl (by omega)) rfl rfl ?_ | refine SL.y (op_lssF rfl rfl (by omega)) rfl rfl ?_ | refine SL.y (op_lss rfl rfl) rfl rfl ?_
    refine SL.nil ?_
    refine T.seq ?_
    refine T.condF rfl ?_
    refine T.exit (T.exitCode (T.exitCut (T.exitBlk ?_)))
    refine T.seq ?_
    refine T.region ?_
    refine SL.y (op_assign (v := .int .i64 ((0 : Nat) : Int)) rfl) rfl rfl ?_
    refine SL.nil ?_
    refine T.seq ?_
    refine T.seq ?_
    refine T.region ?_
    refine SL.y (op_move rfl) rfl rfl ?_
    -- to 36: op
    rcases Nat.lt_or_ge 10 (1 + n % 13) with hc10 | hc10
    · rw [if_pos hc10] at hk
      first | refine SL.y (op_gtrT rfl rfl (by omega)) rfl rfl ?_ | refine SL.y (op_gtrF rfl rfl (by omega)) rfl rfl ?_ | refine SL.y (op_gtr rfl rfl) rfl rfl ?_
      refine SL.nil ?_
      refine T.condT rfl ?_
      refine T.region ?_
      refine SL.y (op_assign (v := .int .i64 ((3 : Nat) : Int)) rfl) rfl rfl ?_
      refine SL.nil ?_
      refine T.seq ?_
      refine T.region ?_
      first | refine SL.y (op_load ty34 rfl (by repeat (first | exact AtO.here | apply AtO.there)) rfl) rfl rfl ?_ | refine SL.y (op_loadX ty34 rfl (by assumption) rfl) rfl rfl ?_
      -- op
      have hc := depth_spec _ (Nat.le_refl _) (by omega) hr
      try simp only at hc
      refine SL.x (op_callF en22 (vs := [_]) rfl (hc)) rfl rfl ?_
      rintro _ _ X4 ⟨rfl, hX4, rfl⟩
      rw [hd]
      refine SL.y (op_move rfl) rfl rfl ?_
      first | refine SL.y (op_eqlT rfl rfl (by omega)) rfl rfl ?_ | refine SL.y (op_eqlF rfl rfl (by omega)) rfl rfl ?_ | refine SL.y (op_eql rfl rfl) rfl rfl ?_
      -- to 41: op
      try rw [decide_eq_true rfl]
      refine SL.y (op_move rfl) rfl rfl ?_
      first | refine SL.skip rfl rfl ?_ | refine SL.y (op_load ty34 rfl (by repeat (first | exact AtO.here | apply AtO.there)) rfl) rfl rfl ?_ | refine SL.y (op_loadX ty34 rfl (by assumption) rfl) rfl rfl ?_
      -- op
      have hc2 := chk_spec (by omega) (hr.mono hX4)
      try simp only at hc2
      refine SL.x (op_callF en13 (vs := [_]) rfl (hc2)) rfl rfl ?_
      rintro _ _ X5 ⟨rfl, hX5, rfl⟩
      rw [hk]
      first | refine SL.skip rfl rfl ?_ | refine SL.y (op_move rfl) rfl rfl ?_
      first | refine SL.skip rfl rfl ?_ | refine SL.y (op_eqlT rfl rfl (by omega)) rfl rfl ?_ | refine SL.y (op_eqlF rfl rfl (by omega)) rfl rfl ?_ | refine SL.y (op_eql rfl rfl) rfl rfl ?_
      -- to 46: op
      try rw [decide_eq_true rfl]
      first | refine SL.y (op_pickT rfl rfl) rfl rfl ?_ | refine SL.y (op_pickF rfl rfl) rfl rfl ?_ | refine SL.y (op_pickB rfl rfl rfl) rfl rfl ?_
      refine SL.y (op_move rfl) rfl rfl ?_
      first | refine SL.skip rfl rfl ?_ | refine SL.y (op_load ty34 rfl (by repeat (first | exact AtO.here | apply AtO.there)) rfl) rfl rfl ?_ | refine SL.y (op_loadX ty34 rfl (by assumption) rfl) rfl rfl ?_
      -- op
      have hc3 := eprint_spec hI hw hnum ((hr.mono hX4).mono hX5)
      try simp only at hc3
      refine SL.x (op_callF en26 (vs := [_]) rfl (hc3)) rfl rfl ?_
      rintro _ _ X6 ⟨rfl, hX6, rfl⟩
      rw [hk, if_neg (show ¬(3 : Int) = 0 by omega)]
      first | refine SL.skip rfl rfl ?_ | refine SL.y (op_eqlStrD rfl rfl) rfl rfl ?_
      first | refine SL.skip rfl rfl ?_ | refine SL.y (op_move rfl) rfl rfl ?_
      first | refine SL.skip rfl rfl ?_ | refine SL.y (op_neqT rfl rfl (by omega)) rfl rfl ?_ | refine SL.y (op_neqF rfl rfl (by omega)) rfl rfl ?_ | refine SL.y (op_neq rfl rfl) rfl rfl ?_
      first | refine SL.skip rfl rfl ?_ | refine SL.y (op_eqlB Tryd.underlying4 rfl rfl) rfl rfl ?_
      first | refine SL.y (op_pickT rfl rfl) rfl rfl ?_ | refine SL.y (op_pickF rfl rfl) rfl rfl ?_ | refine SL.y (op_pickB rfl rfl rfl) rfl rfl ?_
      refine SL.y (op_assign rfl) rfl rfl ?_
      refine SL.nil ?_
      -- ret
      refine T.ret1 rfl (ResIs.tmp rfl) ?_
      simp []
    · rw [if_neg (by omega)] at hk
      first | refine SL.y (op_gtrT rfl rfl (by omega)) rfl rfl ?_ | refine SL.y (op_gtrF rfl rfl (by omega)) rfl rfl ?_ | refine SL.y (op_gtr rfl rfl) rfl rfl ?_
      refine SL.nil ?_
      refine T.condF rfl ?_
      refine T.skip ?_
      refine T.seq ?_
      refine T.region ?_
      first | refine SL.y (op_load ty34 rfl (by repeat (first | exact AtO.here | apply AtO.there)) rfl) rfl rfl ?_ | refine SL.y (op_loadX ty34 rfl (by assumption) rfl) rfl rfl ?_
      -- op
      have hc := depth_spec _ (Nat.le_refl _) (by omega) hr
      try simp only at hc
      refine SL.x (op_callF en22 (vs := [_]) rfl (hc)) rfl rfl ?_
      rintro _ _ X4 ⟨rfl, hX4, rfl⟩
      rw [hd]
      refine SL.y (op_move rfl) rfl rfl ?_
      first | refine SL.y (op_eqlT rfl rfl (by omega)) rfl rfl ?_ | refine SL.y (op_eqlF rfl rfl (by omega)) rfl rfl ?_ | refine SL.y (op_eql rfl rfl) rfl rfl ?_
      -- to 41: op
      try rw [decide_eq_true rfl]
      refine SL.y (op_move rfl) rfl rfl ?_
      first | refine SL.skip rfl rfl ?_ | refine SL.y (op_load ty34 rfl (by repeat (first | exact AtO.here | apply AtO.there)) rfl) rfl rfl ?_ | refine SL.y (op_loadX ty34 rfl (by assumption) rfl) rfl rfl ?_
      -- op
      have hc2 := chk_spec (by omega) (hr.mono hX4)
      try simp only at hc2
      refine SL.x (op_callF en13 (vs := [_]) rfl (hc2)) rfl rfl ?_
      rintro _ _ X5 ⟨rfl, hX5, rfl⟩
      rw [hk]
      first | refine SL.skip rfl rfl ?_ | refine SL.y (op_move rfl) rfl rfl ?_
      first | refine SL.skip rfl rfl ?_ | refine SL.y (op_eqlT rfl rfl (by omega)) rfl rfl ?_ | refine SL.y (op_eqlF rfl rfl (by omega)) rfl rfl ?_ | refine SL.y (op_eql rfl rfl) rfl rfl ?_
      -- to 46: op
      try rw [decide_eq_true rfl]
      first | refine SL.y (op_pickT rfl rfl) rfl rfl ?_ | refine SL.y (op_pickF rfl rfl) rfl rfl ?_ | refine SL.y (op_pickB rfl rfl rfl) rfl rfl ?_
      refine SL.y (op_move rfl) rfl rfl ?_
      first | refine SL.skip rfl rfl ?_ | refine SL.y (op_load ty34 rfl (by repeat (first | exact AtO.here | apply AtO.there)) rfl) rfl rfl ?_ | refine SL.y (op_loadX ty34 rfl (by assumption) rfl) rfl rfl ?_
      -- op
      have hc3 := eprint_spec hI hw hnum ((hr.mono hX4).mono hX5)
      try simp only at hc3
      refine SL.x (op_callF en26 (vs := [_]) rfl (hc3)) rfl rfl ?_
      rintro _ _ X6 ⟨rfl, hX6, rfl⟩
      rw [hk, if_pos rfl]
      first | refine SL.skip rfl rfl ?_ | refine SL.y (op_eqlStrD rfl rfl) rfl rfl ?_
      first | refine SL.skip rfl rfl ?_ | refine SL.y (op_move rfl) rfl rfl ?_
      first | refine SL.skip rfl rfl ?_ | refine SL.y (op_neqT rfl rfl (by omega)) rfl rfl ?_ | refine SL.y (op_neqF rfl rfl (by omega)) rfl rfl ?_ | refine SL.y (op_neq rfl rfl) rfl rfl ?_
      first | refine SL.skip rfl rfl ?_ | refine SL.y (op_eqlB Tryd.underlying4 rfl rfl) rfl rfl ?_
      first | refine SL.y (op_pickT rfl rfl) rfl rfl ?_ | refine SL.y (op_pickF rfl rfl) rfl rfl ?_ | refine SL.y (op_pickB rfl rfl rfl) rfl rfl ?_
      refine SL.y (op_assign rfl) rfl rfl ?_
      refine SL.nil ?_
      -- ret
      refine T.ret1 rfl (ResIs.tmp rfl) ?_
      simp [emp_ne ht]
end Go.Proofs.YtaooojjhlngcmaaDoor
