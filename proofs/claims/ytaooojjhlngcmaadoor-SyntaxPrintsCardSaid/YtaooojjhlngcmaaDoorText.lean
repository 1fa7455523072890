/- The canonical text of an expression, the program's. -/
import Derived.Test.YtaooojjhlngcmaaDoorNode
import Derived.Test.YtaooojjhlngcmaaDoorBld3
namespace Go.Proofs.YtaooojjhlngcmaaDoor
section
set_option maxRecDepth 100000
theorem en53 : Enters Tryd.prog 53 := enters_mk Tryd.func53 (by kernel_rfl) rfl
theorem en81 : Enters Tryd.prog 81 := enters_mk Tryd.func81 (by kernel_rfl) rfl
theorem en82 : Enters Tryd.prog 82 := enters_mk Tryd.func82 (by kernel_rfl) rfl
theorem en83 : Enters Tryd.prog 83 := enters_mk Tryd.func83 (by kernel_rfl) rfl
theorem en84 : Enters Tryd.prog 84 := enters_mk Tryd.func84 (by kernel_rfl) rfl
theorem en85 : Enters Tryd.prog 85 := enters_mk Tryd.func85 (by kernel_rfl) rfl
end
open Go.RowKit
theorem decG_len : ∀ f v : Nat, (decG f v).length ≤ f
  | 0, _ => by simp [decG]
  | f + 1, v => by
    rw [decG]
    split
    · simp
    · have := decG_len f (v / 10)
      rw [List.length_append]; simp; exact this
theorem decB_size (v : Nat) : (decB v).size ≤ 20 := by
  have := decG_len 20 v
  show (decG 20 v).toArray.size ≤ 20
  simpa using this
theorem joinG_len : ∀ l : List ByteArray, (joinG l).length ≤ 2 * wtS l
  | [] => by simp [joinG]
  | s :: l => by
    have hl : ∀ l : List ByteArray, (l.map fun t : ByteArray => [(44 : UInt8), 32] ++ t.data.toList).flatten.length ≤ 2 * wtS l := by
      intro l
      induction l with
      | nil => simp
      | cons t l ih =>
        simp only [wtS, List.map_cons, List.flatten_cons, List.sum_cons, List.length_append, List.length_cons, List.length_nil] at ih ⊢
        have e : t.data.toList.length = t.size := by simp
        omega
    have h2 := hl l
    have e : s.data.toList.length = s.size := by simp
    simp only [joinG, List.length_append]
    simp only [wtS, List.map_cons, List.sum_cons] at h2 ⊢
    omega
theorem joinB_size (l : List ByteArray) : (joinB l).size ≤ 2 * wtS l := by
  have := joinG_len l
  show (joinG l).toArray.size ≤ _
  simpa using this
theorem headD_size (ns : List ByteArray) : (ns.headD ⟨#[]⟩).size ≤ wtS ns := by
  cases ns with
  | nil => exact Nat.zero_le _
  | cons s l => simp only [List.headD_cons, wtS, List.map_cons, List.sum_cons]; omega
theorem parB_size (s : Nat) (t : ByteArray) (k : Nat) : (parB s t k).size ≤ t.size + 2 := by
  have k1 : (⟨#[40]⟩ : ByteArray).size = 1 := rfl
  have k2 : (⟨#[41]⟩ : ByteArray).size = 1 := rfl
  unfold parB
  split
  · simp only [ByteArray.size_append]; omega
  · omega
theorem wordB_size (op : Nat) : (wordB op).size ≤ 5 := by
  unfold wordB
  split <;> decide
mutual
theorem text_size : ∀ e : Ex, (textE e).size ≤ 40 * wtE e
  | .mk op n ns al => by
    have h0 := textL_size al
    have h1 := decB_size n.toNat
    have h2 := joinB_size ns
    have h3 := headD_size ns
    have k1 : (⟨#[116, 114, 117, 101]⟩ : ByteArray).size = 4 := rfl
    have k2 : (⟨#[102, 97, 108, 115, 101]⟩ : ByteArray).size = 5 := rfl
    have k3 : (⟨#[99, 111, 117, 110, 116, 40]⟩ : ByteArray).size = 6 := rfl
    have k4 : (⟨#[41]⟩ : ByteArray).size = 1 := rfl
    have k5 : (⟨#[109, 101, 109, 98, 101, 114, 115, 40]⟩ : ByteArray).size = 8 := rfl
    have k6 : (⟨#[110, 111, 116, 32]⟩ : ByteArray).size = 4 := rfl
    have k7 : (⟨#[]⟩ : ByteArray).size = 0 := rfl
    rw [textE, wtE]
    split
    · omega
    · split
      · omega
      · split
        · omega
        · split
          · omega
          · split
            · simp only [ByteArray.size_append]; omega
            · split
              · simp only [ByteArray.size_append]; omega
              · split
                · omega
                · rename_i x hx
                  rw [hx] at h0
                  have := parB_size x.1 x.2 4
                  simp only [List.map_cons, List.map_nil, List.sum_cons, List.sum_nil] at h0
                  simp only [ByteArray.size_append]; omega
                · rename_i x y l hx
                  rw [hx] at h0
                  have := parB_size x.1 x.2 (lefN op)
                  have := parB_size y.1 y.2 (rigN op)
                  have := wordB_size op
                  simp only [List.map_cons, List.sum_cons] at h0
                  simp only [ByteArray.size_append]; omega
theorem textL_size : ∀ l : List Ex, ((textL l).map fun x : Nat × ByteArray => x.2.size).sum ≤ 40 * wtL l
  | [] => by simp [textL, wtL]
  | a :: l => by
    have h1 := text_size a
    have h2 := textL_size l
    rw [textL, wtL, List.map_cons, List.sum_cons]
    simp only at h1 h2 ⊢
    omega
end
theorem strN_le (op : Nat) : strN op ≤ 7 := by
  unfold strN
  split
  · omega
  · skip
    split
    · omega
    · skip
      split
      · omega
      · skip
        split
        · omega
        · skip
          split
          · omega
          · skip
            split
            · omega
            · omega
theorem strength_spec {X : PMap} {op : Nat} : Spec Tryd.prog 81 [.int .u8 (op : Int)] X fun u _ => u = .int .i64 (strN op : Int) := by
  by_cases h1 : op = 10
  · refine Spec.enter Tryd.func81 rfl Tryd.ntmps81 rfl ?_
    intro w0 hw0
    refine T.seq ?_
    refine T.region ?_
    refine SL.y (op_assign (v := .int .i64 ((0 : Nat) : Int)) rfl) rfl rfl ?_
    refine SL.nil ?_
    refine T.seq ?_
    refine T.block ?_
    refine T.seq ?_
    refine T.region ?_
    refine SL.y (op_move rfl) rfl rfl ?_
    first | refine SL.y (op_eqlT rfl rfl (by omega)) rfl rfl ?_ | refine SL.y (op_eqlF rfl rfl (by omega)) rfl rfl ?_ | refine SL.y (op_eql rfl rfl) rfl rfl ?_
    refine SL.y (op_assign rfl) rfl rfl ?_
    refine SL.nil ?_
    refine T.condT rfl ?_
    refine T.seq ?_
    refine T.region ?_
    refine SL.y (op_assign (v := .int .i64 ((1 : Nat) : Int)) rfl) rfl rfl ?_
    refine SL.nil ?_
    -- ret
    refine T.ret1 rfl (ResIs.tmp rfl) ?_
    rw [strN, if_pos h1]
  by_cases h2 : op = 9
  · refine Spec.enter Tryd.func81 rfl Tryd.ntmps81 rfl ?_
    intro w0 hw0
    refine T.seq ?_
    refine T.region ?_
    refine SL.y (op_assign (v := .int .i64 ((0 : Nat) : Int)) rfl) rfl rfl ?_
    refine SL.nil ?_
    refine T.seq ?_
    refine T.block ?_
    refine T.seq ?_
    refine T.region ?_
    refine SL.y (op_move rfl) rfl rfl ?_
    first | refine SL.y (op_eqlT rfl rfl (by omega)) rfl rfl ?_ | refine SL.y (op_eqlF rfl rfl (by omega)) rfl rfl ?_ | refine SL.y (op_eql rfl rfl) rfl rfl ?_
    refine SL.y (op_assign rfl) rfl rfl ?_
    refine SL.nil ?_
    refine T.condF rfl ?_
    refine T.seq ?_
    refine T.region ?_
    refine SL.y (op_move rfl) rfl rfl ?_
    first | refine SL.y (op_eqlT rfl rfl (by omega)) rfl rfl ?_ | refine SL.y (op_eqlF rfl rfl (by omega)) rfl rfl ?_ | refine SL.y (op_eql rfl rfl) rfl rfl ?_
    refine SL.y (op_assign rfl) rfl rfl ?_
    refine SL.nil ?_
    refine T.condT rfl ?_
    refine T.seq ?_
    refine T.region ?_
    refine SL.y (op_assign (v := .int .i64 ((2 : Nat) : Int)) rfl) rfl rfl ?_
    refine SL.nil ?_
    -- ret
    refine T.ret1 rfl (ResIs.tmp rfl) ?_
    rw [strN, if_neg h1, if_pos h2]
  by_cases h3 : op = 8
  · refine Spec.enter Tryd.func81 rfl Tryd.ntmps81 rfl ?_
    intro w0 hw0
    refine T.seq ?_
    refine T.region ?_
    refine SL.y (op_assign (v := .int .i64 ((0 : Nat) : Int)) rfl) rfl rfl ?_
    refine SL.nil ?_
    refine T.seq ?_
    refine T.block ?_
    refine T.seq ?_
    refine T.region ?_
    refine SL.y (op_move rfl) rfl rfl ?_
    first | refine SL.y (op_eqlT rfl rfl (by omega)) rfl rfl ?_ | refine SL.y (op_eqlF rfl rfl (by omega)) rfl rfl ?_ | refine SL.y (op_eql rfl rfl) rfl rfl ?_
    refine SL.y (op_assign rfl) rfl rfl ?_
    refine SL.nil ?_
    refine T.condF rfl ?_
    refine T.seq ?_
    refine T.region ?_
    refine SL.y (op_move rfl) rfl rfl ?_
    first | refine SL.y (op_eqlT rfl rfl (by omega)) rfl rfl ?_ | refine SL.y (op_eqlF rfl rfl (by omega)) rfl rfl ?_ | refine SL.y (op_eql rfl rfl) rfl rfl ?_
    refine SL.y (op_assign rfl) rfl rfl ?_
    refine SL.nil ?_
    refine T.condF rfl ?_
    refine T.seq ?_
    refine T.region ?_
    refine SL.y (op_move rfl) rfl rfl ?_
    first | refine SL.y (op_eqlT rfl rfl (by omega)) rfl rfl ?_ | refine SL.y (op_eqlF rfl rfl (by omega)) rfl rfl ?_ | refine SL.y (op_eql rfl rfl) rfl rfl ?_
    refine SL.y (op_assign rfl) rfl rfl ?_
    refine SL.nil ?_
    refine T.condT rfl ?_
    refine T.seq ?_
    refine T.region ?_
    refine SL.y (op_assign (v := .int .i64 ((3 : Nat) : Int)) rfl) rfl rfl ?_
    refine SL.nil ?_
    -- ret
    refine T.ret1 rfl (ResIs.tmp rfl) ?_
    rw [strN, if_neg h1, if_neg h2, if_pos h3]
  by_cases h4 : op = 7
  · refine Spec.enter Tryd.func81 rfl Tryd.ntmps81 rfl ?_
    intro w0 hw0
    refine T.seq ?_
    refine T.region ?_
    refine SL.y (op_assign (v := .int .i64 ((0 : Nat) : Int)) rfl) rfl rfl ?_
    refine SL.nil ?_
    refine T.seq ?_
    refine T.block ?_
    refine T.seq ?_
    refine T.region ?_
    refine SL.y (op_move rfl) rfl rfl ?_
    first | refine SL.y (op_eqlT rfl rfl (by omega)) rfl rfl ?_ | refine SL.y (op_eqlF rfl rfl (by omega)) rfl rfl ?_ | refine SL.y (op_eql rfl rfl) rfl rfl ?_
    refine SL.y (op_assign rfl) rfl rfl ?_
    refine SL.nil ?_
    refine T.condF rfl ?_
    refine T.seq ?_
    refine T.region ?_
    refine SL.y (op_move rfl) rfl rfl ?_
    first | refine SL.y (op_eqlT rfl rfl (by omega)) rfl rfl ?_ | refine SL.y (op_eqlF rfl rfl (by omega)) rfl rfl ?_ | refine SL.y (op_eql rfl rfl) rfl rfl ?_
    refine SL.y (op_assign rfl) rfl rfl ?_
    refine SL.nil ?_
    refine T.condF rfl ?_
    refine T.seq ?_
    refine T.region ?_
    refine SL.y (op_move rfl) rfl rfl ?_
    first | refine SL.y (op_eqlT rfl rfl (by omega)) rfl rfl ?_ | refine SL.y (op_eqlF rfl rfl (by omega)) rfl rfl ?_ | refine SL.y (op_eql rfl rfl) rfl rfl ?_
    refine SL.y (op_assign rfl) rfl rfl ?_
    refine SL.nil ?_
    refine T.condF rfl ?_
    refine T.seq ?_
    refine T.region ?_
    refine SL.y (op_move rfl) rfl rfl ?_
    first | refine SL.y (op_eqlT rfl rfl (by omega)) rfl rfl ?_ | refine SL.y (op_eqlF rfl rfl (by omega)) rfl rfl ?_ | refine SL.y (op_eql rfl rfl) rfl rfl ?_
    refine SL.y (op_assign rfl) rfl rfl ?_
    refine SL.nil ?_
    refine T.condT rfl ?_
    refine T.seq ?_
    refine T.region ?_
    refine SL.y (op_assign (v := .int .i64 ((4 : Nat) : Int)) rfl) rfl rfl ?_
    refine SL.nil ?_
    -- ret
    refine T.ret1 rfl (ResIs.tmp rfl) ?_
    rw [strN, if_neg h1, if_neg h2, if_neg h3, if_pos h4]
  by_cases h5 : 11 ≤ op ∧ op ≤ 15
  · obtain ⟨g1, g2⟩ := h5
    refine Spec.enter Tryd.func81 rfl Tryd.ntmps81 rfl ?_
    intro w0 hw0
    refine T.seq ?_
    refine T.region ?_
    refine SL.y (op_assign (v := .int .i64 ((0 : Nat) : Int)) rfl) rfl rfl ?_
    refine SL.nil ?_
    refine T.seq ?_
    refine T.block ?_
    refine T.seq ?_
    refine T.region ?_
    refine SL.y (op_move rfl) rfl rfl ?_
    first | refine SL.y (op_eqlT rfl rfl (by omega)) rfl rfl ?_ | refine SL.y (op_eqlF rfl rfl (by omega)) rfl rfl ?_ | refine SL.y (op_eql rfl rfl) rfl rfl ?_
    refine SL.y (op_assign rfl) rfl rfl ?_
    refine SL.nil ?_
    refine T.condF rfl ?_
    refine T.seq ?_
    refine T.region ?_
    refine SL.y (op_move rfl) rfl rfl ?_
    first | refine SL.y (op_eqlT rfl rfl (by omega)) rfl rfl ?_ | refine SL.y (op_eqlF rfl rfl (by omega)) rfl rfl ?_ | refine SL.y (op_eql rfl rfl) rfl rfl ?_
    refine SL.y (op_assign rfl) rfl rfl ?_
    refine SL.nil ?_
    refine T.condF rfl ?_
    refine T.seq ?_
    refine T.region ?_
    refine SL.y (op_move rfl) rfl rfl ?_
    first | refine SL.y (op_eqlT rfl rfl (by omega)) rfl rfl ?_ | refine SL.y (op_eqlF rfl rfl (by omega)) rfl rfl ?_ | refine SL.y (op_eql rfl rfl) rfl rfl ?_
    refine SL.y (op_assign rfl) rfl rfl ?_
    refine SL.nil ?_
    refine T.condF rfl ?_
    refine T.seq ?_
    refine T.region ?_
    refine SL.y (op_move rfl) rfl rfl ?_
    first | refine SL.y (op_eqlT rfl rfl (by omega)) rfl rfl ?_ | refine SL.y (op_eqlF rfl rfl (by omega)) rfl rfl ?_ | refine SL.y (op_eql rfl rfl) rfl rfl ?_
    refine SL.y (op_assign rfl) rfl rfl ?_
    refine SL.nil ?_
    refine T.condF rfl ?_
    refine T.seq ?_
    refine T.region ?_
    refine SL.y (op_move rfl) rfl rfl ?_
    first | refine SL.y (op_geqT rfl rfl (by omega)) rfl rfl ?_ | refine SL.y (op_geqF rfl rfl (by omega)) rfl rfl ?_ | refine SL.y (op_geq rfl rfl) rfl rfl ?_
    refine SL.y (op_move rfl) rfl rfl ?_
    first | refine SL.skip rfl rfl ?_ | refine SL.y (op_move rfl) rfl rfl ?_
    first | refine SL.skip rfl rfl ?_ | refine SL.y (op_leqT rfl rfl (by omega)) rfl rfl ?_ | refine SL.y (op_leqF rfl rfl (by omega)) rfl rfl ?_ | refine SL.y (op_leq rfl rfl) rfl rfl ?_
    first | refine SL.y (op_pickT rfl rfl) rfl rfl ?_ | refine SL.y (op_pickF rfl rfl) rfl rfl ?_ | refine SL.y (op_pickB rfl rfl rfl) rfl rfl ?_
    refine SL.y (op_assign rfl) rfl rfl ?_
    refine SL.nil ?_
    refine T.condT rfl ?_
    refine T.seq ?_
    refine T.region ?_
    refine SL.y (op_assign (v := .int .i64 ((5 : Nat) : Int)) rfl) rfl rfl ?_
    refine SL.nil ?_
    -- ret
    refine T.ret1 rfl (ResIs.tmp rfl) ?_
    rw [strN, if_neg h1, if_neg h2, if_neg h3, if_neg h4, if_pos ⟨g1, g2⟩]
  by_cases h6 : op = 16
  · refine Spec.enter Tryd.func81 rfl Tryd.ntmps81 rfl ?_
    intro w0 hw0
    refine T.seq ?_
    refine T.region ?_
    refine SL.y (op_assign (v := .int .i64 ((0 : Nat) : Int)) rfl) rfl rfl ?_
    refine SL.nil ?_
    refine T.seq ?_
    refine T.block ?_
    refine T.seq ?_
    refine T.region ?_
    refine SL.y (op_move rfl) rfl rfl ?_
    first | refine SL.y (op_eqlT rfl rfl (by omega)) rfl rfl ?_ | refine SL.y (op_eqlF rfl rfl (by omega)) rfl rfl ?_ | refine SL.y (op_eql rfl rfl) rfl rfl ?_
    refine SL.y (op_assign rfl) rfl rfl ?_
    refine SL.nil ?_
    refine T.condF rfl ?_
    refine T.seq ?_
    refine T.region ?_
    refine SL.y (op_move rfl) rfl rfl ?_
    first | refine SL.y (op_eqlT rfl rfl (by omega)) rfl rfl ?_ | refine SL.y (op_eqlF rfl rfl (by omega)) rfl rfl ?_ | refine SL.y (op_eql rfl rfl) rfl rfl ?_
    refine SL.y (op_assign rfl) rfl rfl ?_
    refine SL.nil ?_
    refine T.condF rfl ?_
    refine T.seq ?_
    refine T.region ?_
    refine SL.y (op_move rfl) rfl rfl ?_
    first | refine SL.y (op_eqlT rfl rfl (by omega)) rfl rfl ?_ | refine SL.y (op_eqlF rfl rfl (by omega)) rfl rfl ?_ | refine SL.y (op_eql rfl rfl) rfl rfl ?_
    refine SL.y (op_assign rfl) rfl rfl ?_
    refine SL.nil ?_
    refine T.condF rfl ?_
    refine T.seq ?_
    refine T.region ?_
    refine SL.y (op_move rfl) rfl rfl ?_
    first | refine SL.y (op_eqlT rfl rfl (by omega)) rfl rfl ?_ | refine SL.y (op_eqlF rfl rfl (by omega)) rfl rfl ?_ | refine SL.y (op_eql rfl rfl) rfl rfl ?_
    refine SL.y (op_assign rfl) rfl rfl ?_
    refine SL.nil ?_
    refine T.condF rfl ?_
    refine T.seq ?_
    refine T.region ?_
    refine SL.y (op_move rfl) rfl rfl ?_
    first | refine SL.y (op_geqT rfl rfl (by omega)) rfl rfl ?_ | refine SL.y (op_geqF rfl rfl (by omega)) rfl rfl ?_ | refine SL.y (op_geq rfl rfl) rfl rfl ?_
    refine SL.y (op_move rfl) rfl rfl ?_
    first | refine SL.skip rfl rfl ?_ | refine SL.y (op_move rfl) rfl rfl ?_
    first | refine SL.skip rfl rfl ?_ | refine SL.y (op_leqT rfl rfl (by omega)) rfl rfl ?_ | refine SL.y (op_leqF rfl rfl (by omega)) rfl rfl ?_ | refine SL.y (op_leq rfl rfl) rfl rfl ?_
    first | refine SL.y (op_pickT rfl rfl) rfl rfl ?_ | refine SL.y (op_pickF rfl rfl) rfl rfl ?_ | refine SL.y (op_pickB rfl rfl rfl) rfl rfl ?_
    refine SL.y (op_assign rfl) rfl rfl ?_
    refine SL.nil ?_
    refine T.condF rfl ?_
    refine T.seq ?_
    refine T.region ?_
    refine SL.y (op_move rfl) rfl rfl ?_
    first | refine SL.y (op_eqlT rfl rfl (by omega)) rfl rfl ?_ | refine SL.y (op_eqlF rfl rfl (by omega)) rfl rfl ?_ | refine SL.y (op_eql rfl rfl) rfl rfl ?_
    refine SL.y (op_assign rfl) rfl rfl ?_
    refine SL.nil ?_
    refine T.condT rfl ?_
    refine T.seq ?_
    refine T.region ?_
    refine SL.y (op_assign (v := .int .i64 ((6 : Nat) : Int)) rfl) rfl rfl ?_
    refine SL.nil ?_
    -- ret
    refine T.ret1 rfl (ResIs.tmp rfl) ?_
    rw [strN, if_neg h1, if_neg h2, if_neg h3, if_neg h4, if_neg h5, if_pos h6]
  by_cases h7 : 11 ≤ op
  · have h8 : ¬op ≤ 15 := fun h => h5 ⟨h7, h⟩
    refine Spec.enter Tryd.func81 rfl Tryd.ntmps81 rfl ?_
    intro w0 hw0
    refine T.seq ?_
    refine T.region ?_
    refine SL.y (op_assign (v := .int .i64 ((0 : Nat) : Int)) rfl) rfl rfl ?_
    refine SL.nil ?_
    refine T.seq ?_
    refine T.block ?_
    refine T.seq ?_
    refine T.region ?_
    refine SL.y (op_move rfl) rfl rfl ?_
    first | refine SL.y (op_eqlT rfl rfl (by omega)) rfl rfl ?_ | refine SL.y (op_eqlF rfl rfl (by omega)) rfl rfl ?_ | refine SL.y (op_eql rfl rfl) rfl rfl ?_
    refine SL.y (op_assign rfl) rfl rfl ?_
    refine SL.nil ?_
    refine T.condF rfl ?_
    refine T.seq ?_
    refine T.region ?_
    refine SL.y (op_move rfl) rfl rfl ?_
    first | refine SL.y (op_eqlT rfl rfl (by omega)) rfl rfl ?_ | refine SL.y (op_eqlF rfl rfl (by omega)) rfl rfl ?_ | refine SL.y (op_eql rfl rfl) rfl rfl ?_
    refine SL.y (op_assign rfl) rfl rfl ?_
    refine SL.nil ?_
    refine T.condF rfl ?_
    refine T.seq ?_
    refine T.region ?_
    refine SL.y (op_move rfl) rfl rfl ?_
    first | refine SL.y (op_eqlT rfl rfl (by omega)) rfl rfl ?_ | refine SL.y (op_eqlF rfl rfl (by omega)) rfl rfl ?_ | refine SL.y (op_eql rfl rfl) rfl rfl ?_
    refine SL.y (op_assign rfl) rfl rfl ?_
    refine SL.nil ?_
    refine T.condF rfl ?_
    refine T.seq ?_
    refine T.region ?_
    refine SL.y (op_move rfl) rfl rfl ?_
    first | refine SL.y (op_eqlT rfl rfl (by omega)) rfl rfl ?_ | refine SL.y (op_eqlF rfl rfl (by omega)) rfl rfl ?_ | refine SL.y (op_eql rfl rfl) rfl rfl ?_
    refine SL.y (op_assign rfl) rfl rfl ?_
    refine SL.nil ?_
    refine T.condF rfl ?_
    refine T.seq ?_
    refine T.region ?_
    refine SL.y (op_move rfl) rfl rfl ?_
    first | refine SL.y (op_geqT rfl rfl (by omega)) rfl rfl ?_ | refine SL.y (op_geqF rfl rfl (by omega)) rfl rfl ?_ | refine SL.y (op_geq rfl rfl) rfl rfl ?_
    refine SL.y (op_move rfl) rfl rfl ?_
    first | refine SL.skip rfl rfl ?_ | refine SL.y (op_move rfl) rfl rfl ?_
    first | refine SL.skip rfl rfl ?_ | refine SL.y (op_leqT rfl rfl (by omega)) rfl rfl ?_ | refine SL.y (op_leqF rfl rfl (by omega)) rfl rfl ?_ | refine SL.y (op_leq rfl rfl) rfl rfl ?_
    first | refine SL.y (op_pickT rfl rfl) rfl rfl ?_ | refine SL.y (op_pickF rfl rfl) rfl rfl ?_ | refine SL.y (op_pickB rfl rfl rfl) rfl rfl ?_
    refine SL.y (op_assign rfl) rfl rfl ?_
    refine SL.nil ?_
    refine T.condF rfl ?_
    refine T.seq ?_
    refine T.region ?_
    refine SL.y (op_move rfl) rfl rfl ?_
    first | refine SL.y (op_eqlT rfl rfl (by omega)) rfl rfl ?_ | refine SL.y (op_eqlF rfl rfl (by omega)) rfl rfl ?_ | refine SL.y (op_eql rfl rfl) rfl rfl ?_
    refine SL.y (op_assign rfl) rfl rfl ?_
    refine SL.nil ?_
    refine T.condF rfl ?_
    refine T.skip ?_
    refine T.blk ?_
    refine T.seq ?_
    refine T.region ?_
    refine SL.y (op_assign (v := .int .i64 ((7 : Nat) : Int)) rfl) rfl rfl ?_
    refine SL.nil ?_
    -- ret
    refine T.ret1 rfl (ResIs.tmp rfl) ?_
    rw [strN, if_neg h1, if_neg h2, if_neg h3, if_neg h4, if_neg h5, if_neg h6]
  · refine Spec.enter Tryd.func81 rfl Tryd.ntmps81 rfl ?_
    intro w0 hw0
    refine T.seq ?_
    refine T.region ?_
    refine SL.y (op_assign (v := .int .i64 ((0 : Nat) : Int)) rfl) rfl rfl ?_
    refine SL.nil ?_
    refine T.seq ?_
    refine T.block ?_
    refine T.seq ?_
    refine T.region ?_
    refine SL.y (op_move rfl) rfl rfl ?_
    first | refine SL.y (op_eqlT rfl rfl (by omega)) rfl rfl ?_ | refine SL.y (op_eqlF rfl rfl (by omega)) rfl rfl ?_ | refine SL.y (op_eql rfl rfl) rfl rfl ?_
    refine SL.y (op_assign rfl) rfl rfl ?_
    refine SL.nil ?_
    refine T.condF rfl ?_
    refine T.seq ?_
    refine T.region ?_
    refine SL.y (op_move rfl) rfl rfl ?_
    first | refine SL.y (op_eqlT rfl rfl (by omega)) rfl rfl ?_ | refine SL.y (op_eqlF rfl rfl (by omega)) rfl rfl ?_ | refine SL.y (op_eql rfl rfl) rfl rfl ?_
    refine SL.y (op_assign rfl) rfl rfl ?_
    refine SL.nil ?_
    refine T.condF rfl ?_
    refine T.seq ?_
    refine T.region ?_
    refine SL.y (op_move rfl) rfl rfl ?_
    first | refine SL.y (op_eqlT rfl rfl (by omega)) rfl rfl ?_ | refine SL.y (op_eqlF rfl rfl (by omega)) rfl rfl ?_ | refine SL.y (op_eql rfl rfl) rfl rfl ?_
    refine SL.y (op_assign rfl) rfl rfl ?_
    refine SL.nil ?_
    refine T.condF rfl ?_
    refine T.seq ?_
    refine T.region ?_
    refine SL.y (op_move rfl) rfl rfl ?_
    first | refine SL.y (op_eqlT rfl rfl (by omega)) rfl rfl ?_ | refine SL.y (op_eqlF rfl rfl (by omega)) rfl rfl ?_ | refine SL.y (op_eql rfl rfl) rfl rfl ?_
    refine SL.y (op_assign rfl) rfl rfl ?_
    refine SL.nil ?_
    refine T.condF rfl ?_
    refine T.seq ?_
    refine T.region ?_
    refine SL.y (op_move rfl) rfl rfl ?_
    first | refine SL.y (op_geqT rfl rfl (by omega)) rfl rfl ?_ | refine SL.y (op_geqF rfl rfl (by omega)) rfl rfl ?_ | refine SL.y (op_geq rfl rfl) rfl rfl ?_
    refine SL.y (op_move rfl) rfl rfl ?_
    first | refine SL.skip rfl rfl ?_ | refine SL.y (op_move rfl) rfl rfl ?_
    first | refine SL.skip rfl rfl ?_ | refine SL.y (op_leqT rfl rfl (by omega)) rfl rfl ?_ | refine SL.y (op_leqF rfl rfl (by omega)) rfl rfl ?_ | refine SL.y (op_leq rfl rfl) rfl rfl ?_
    first | refine SL.y (op_pickT rfl rfl) rfl rfl ?_ | refine SL.y (op_pickF rfl rfl) rfl rfl ?_ | refine SL.y (op_pickB rfl rfl rfl) rfl rfl ?_
    refine SL.y (op_assign rfl) rfl rfl ?_
    refine SL.nil ?_
    refine T.condF rfl ?_
    refine T.seq ?_
    refine T.region ?_
    refine SL.y (op_move rfl) rfl rfl ?_
    first | refine SL.y (op_eqlT rfl rfl (by omega)) rfl rfl ?_ | refine SL.y (op_eqlF rfl rfl (by omega)) rfl rfl ?_ | refine SL.y (op_eql rfl rfl) rfl rfl ?_
    refine SL.y (op_assign rfl) rfl rfl ?_
    refine SL.nil ?_
    refine T.condF rfl ?_
    refine T.skip ?_
    refine T.blk ?_
    refine T.seq ?_
    refine T.region ?_
    refine SL.y (op_assign (v := .int .i64 ((7 : Nat) : Int)) rfl) rfl rfl ?_
    refine SL.nil ?_
    -- ret
    refine T.ret1 rfl (ResIs.tmp rfl) ?_
    rw [strN, if_neg h1, if_neg h2, if_neg h3, if_neg h4, if_neg h5, if_neg h6]
theorem operand_spec {X : PMap} {e : Ex} {r : Row4} {least : Nat} (hr : ExR .u8 X e r) (ht : ∀ {X' : PMap}, X.le X' → Spec Tryd.prog 53 [.agg #[r.1, r.2.1, r.2.2.1, r.2.2.2]] X' fun u _ => u = .string (textE e)) (hs : (textE e).size < 1000000000000) : Spec Tryd.prog 84 [.agg #[r.1, r.2.1, r.2.2.1, r.2.2.2], .int .i64 (least : Int)] X fun u _ => u = .string (parB (strN e.op) (textE e) least) := by
  have k1 : (⟨#[40]⟩ : ByteArray).size = 1 := rfl
  have k2 : (⟨#[41]⟩ : ByteArray).size = 1 := rfl
  cases hr with
  | @mk op n ns al vn va rows hn ha hl hr =>
  obtain ⟨Aa, ca, rfl⟩ := ha.form
  obtain ⟨An, cn, rfl⟩ := hn.form
  by_cases hc : strN op < least
  · refine Spec.enter Tryd.func84 rfl Tryd.ntmps84 rfl ?_
    intro w0 hw0
    refine T.seq ?_
    refine T.region ?_
    refine SL.x (op_box rfl) rfl rfl ?_
    rintro _ _ _ ⟨B2, rfl, rfl, rfl⟩
    refine SL.y (op_assign rfl) rfl rfl ?_
    refine SL.nil ?_
    refine T.seq ?_
    refine T.seq ?_
    refine T.region ?_
    refine SL.y (op_fieldAddr fa34_0 rfl) rfl rfl ?_
    first | refine SL.y (op_load ty31 rfl (by repeat (first | exact AtO.here | apply AtO.there)) rfl) rfl rfl ?_ | refine SL.y (op_loadX ty31 rfl (by assumption) rfl) rfl rfl ?_
    -- op
    refine SL.x (op_callF en81 (vs := [_]) rfl (strength_spec (op := op))) rfl rfl ?_
    rintro _ _ X1 ⟨rfl, hX1, rfl⟩
    refine SL.y (op_move rfl) rfl rfl ?_
    first | refine SL.y (op_lssT rfl rfl (by omega)) rfl rfl ?_ | refine SL.y (op_lssF rfl rfl (by omega)) rfl rfl ?_ | refine SL.y (op_lss rfl rfl) rfl rfl ?_
    refine SL.nil ?_
    refine T.condT rfl ?_
    refine T.seq ?_
    refine T.region ?_
    first | refine SL.y (op_load ty34 rfl (by repeat (first | exact AtO.here | apply AtO.there)) rfl) rfl rfl ?_ | refine SL.y (op_loadX ty34 rfl (by assumption) rfl) rfl rfl ?_
    -- op
    refine SL.x (op_callF en53 (vs := [_]) rfl (ht hX1)) rfl rfl ?_
    rintro _ _ X2 ⟨rfl, hX2, rfl⟩
    refine SL.y (op_addStr rfl rfl (by first | omega | (simp only [ByteArray.size_append]; omega))) rfl rfl ?_
    refine SL.y (op_addStr rfl rfl (by first | omega | (simp only [ByteArray.size_append]; omega))) rfl rfl ?_
    refine SL.y (op_assign rfl) rfl rfl ?_
    refine SL.nil ?_
    -- ret
    refine T.ret1 rfl (ResIs.tmp rfl) ?_
    rw [parB, Ex.op, if_pos hc]
  · refine Spec.enter Tryd.func84 rfl Tryd.ntmps84 rfl ?_
    intro w0 hw0
    refine T.seq ?_
    refine T.region ?_
    refine SL.x (op_box rfl) rfl rfl ?_
    rintro _ _ _ ⟨B2, rfl, rfl, rfl⟩
    refine SL.y (op_assign rfl) rfl rfl ?_
    refine SL.nil ?_
    refine T.seq ?_
    refine T.seq ?_
    refine T.region ?_
    refine SL.y (op_fieldAddr fa34_0 rfl) rfl rfl ?_
    first | refine SL.y (op_load ty31 rfl (by repeat (first | exact AtO.here | apply AtO.there)) rfl) rfl rfl ?_ | refine SL.y (op_loadX ty31 rfl (by assumption) rfl) rfl rfl ?_
    -- op
    refine SL.x (op_callF en81 (vs := [_]) rfl (strength_spec (op := op))) rfl rfl ?_
    rintro _ _ X1 ⟨rfl, hX1, rfl⟩
    refine SL.y (op_move rfl) rfl rfl ?_
    first | refine SL.y (op_lssT rfl rfl (by omega)) rfl rfl ?_ | refine SL.y (op_lssF rfl rfl (by omega)) rfl rfl ?_ | refine SL.y (op_lss rfl rfl) rfl rfl ?_
    refine SL.nil ?_
    refine T.condF rfl ?_
    refine T.skip ?_
    refine T.seq ?_
    refine T.region ?_
    first | refine SL.y (op_load ty34 rfl (by repeat (first | exact AtO.here | apply AtO.there)) rfl) rfl rfl ?_ | refine SL.y (op_loadX ty34 rfl (by assumption) rfl) rfl rfl ?_
    -- op
    refine SL.x (op_callF en53 (vs := [_]) rfl (ht hX1)) rfl rfl ?_
    rintro _ _ X2 ⟨rfl, hX2, rfl⟩
    refine SL.y (op_assign rfl) rfl rfl ?_
    refine SL.nil ?_
    -- ret
    refine T.ret1 rfl (ResIs.tmp rfl) ?_
    rw [parB, Ex.op, if_neg hc]
def words9 : List ByteArray := [wordB 8, wordB 9, wordB 10, wordB 11, wordB 12, wordB 13, wordB 14, wordB 15, wordB 16]
theorem words9_at {op : Nat} (h1 : 8 ≤ op) (h2 : op ≤ 16) : words9[op - 8]? = some (wordB op) := by
  rcases (by omega : op = 8 ∨ op = 9 ∨ op = 10 ∨ op = 11 ∨ op = 12 ∨ op = 13 ∨ op = 14 ∨ op = 15 ∨ op = 16) with rfl | rfl | rfl | rfl | rfl | rfl | rfl | rfl | rfl <;> rfl
theorem wrapU8s {op : Nat} (h1 : 8 ≤ op) (h2 : op < 256) : IntKind.u8.wrap ((op : Int) - 8) = ((op - 8 : Nat) : Int) := by
  have := wrap_u8 (p := (op : Int) - 8) (by omega) (by omega)
  rw [this]; omega
theorem opw_spec {X : PMap} {op : Nat} (h1 : 8 ≤ op) (h2 : op ≤ 16) : Spec Tryd.prog 85 [.int .u8 (op : Int)] X fun u _ => u = .string (wordB op) := by
  have hw := strsC_at (words9_at h1 h2)
  refine Spec.enter Tryd.func85 rfl Tryd.ntmps85 rfl ?_
  intro w0 hw0
  refine T.seq ?_
  refine T.region ?_
  refine SL.y (op_assign rfl) rfl rfl ?_
  refine SL.nil ?_
  refine T.seq ?_
  refine T.region ?_
  refine SL.x (op_buildSlice Tryd.underlying24 bs9 (qs := [(0, _), (1, _), (2, _), (3, _), (4, _), (5, _), (6, _), (7, _), (8, _)]) rfl rfl rfl rfl rfl) rfl rfl ?_
  rintro _ _ _ ⟨B3, rfl, rfl, rfl⟩
  refine SL.y (op_move rfl) rfl rfl ?_
  refine SL.y (op_subW rfl rfl) rfl rfl ?_
  -- to 6: op
  rw [wrapU8s h1 (by omega)]
  first | refine SL.y (op_indexN Tryd.underlying24 ty9 rfl rfl (by omega)) rfl rfl ?_ | refine SL.y (op_index Tryd.underlying24 ty9 rfl rfl (by omega) (by omega)) rfl rfl ?_
  -- to 7: op
  refine SL.y (op_load ty9 rfl (by repeat (first | exact AtO.here | apply AtO.there)) (cread1k' hw (by omega))) rfl rfl ?_
  refine SL.y (op_assign rfl) rfl rfl ?_
  refine SL.nil ?_
  -- ret
  refine T.ret1 rfl (ResIs.tmp rfl) ?_
  rfl
mutual
/-- All numbers are below M. -/
def numE (M : Nat) : Ex → Prop
  | .mk op n _ al => (op = 1 → n < (M : Int)) ∧ numL M al
def numL (M : Nat) : List Ex → Prop
  | [] => True
  | a :: al => numE M a ∧ numL M al
end
theorem numL_mem {M : Nat} {a : Ex} : ∀ {l : List Ex}, numL M l → a ∈ l → numE M a
  | x :: l, h, hm => by
    rw [numL] at h
    rcases List.mem_cons.1 hm with rfl | hm
    · exact h.1
    · exact numL_mem h.2 hm
/-- strconv.Itoa of numbers below M. -/
def ItoaOk (M : Nat) (X : PMap) : Prop := ∀ X' : PMap, X.le X' → ∀ v : Nat, v < M → Spec Tryd.prog 82 [.int .i64 (v : Int)] X' fun u _ => u = .string (decB v)
theorem ItoaOk.mono {M : Nat} {X X' : PMap} (h : ItoaOk M X) (hX : X.le X') : ItoaOk M X' := fun X1 h' v hv => h X1 (hX.trans' h') v hv
theorem etext_spec {M : Nat} (N : Nat) : ∀ {X : PMap} {e : Ex} {r : Row4}, ItoaOk M X → wtE e ≤ N → N < 1000000 → nodeE e = 0 → numE M e → ExR .u8 X e r → Spec Tryd.prog 53 [.agg #[r.1, r.2.1, r.2.2.1, r.2.2.2]] X fun u _ => u = .string (textE e) := by
  induction N with
  | zero => intro X e r _ h; cases e; rw [wtE] at h; omega
  | succ N ih =>
    intro X e r hI hN hB hnode hnum h
    have hopd : ∀ {X : PMap} {a : Ex} {r : Row4} {least : Nat}, ItoaOk M X → wtE a ≤ N → nodeE a = 0 → numE M a → ExR .u8 X a r → Spec Tryd.prog 84 [.agg #[r.1, r.2.1, r.2.2.1, r.2.2.2], .int .i64 (least : Int)] X fun u _ => u = .string (parB (strN a.op) (textE a) least) := fun h0 h1 h2 h3 h4 => operand_spec h4 (fun hX => ih (h0.mono hX) h1 (by omega) h2 h3 (h4.mono hX)) (Nat.lt_of_le_of_lt (text_size _) (by omega))
    cases h with
    | @mk op n ns al vn va rows hn ha hl hr =>
    obtain ⟨Aa, ca, rfl⟩ := ha.form
    obtain ⟨An, cn, rfl⟩ := hn.form
    have hlen := wtL_len al
    have hnl := wtS_len ns
    rw [wtE] at hN
    obtain ⟨hown, hargs⟩ := node_ok hnode
    obtain ⟨o1, o2, o3, o4, o5, o6, o7, o8, o9⟩ := own_ok hown
    obtain ⟨hn1, hnumL⟩ : (op = 1 → n < (M : Int)) ∧ numL M al := hnum
    have k1 : (⟨#[99, 111, 117, 110, 116, 40]⟩ : ByteArray).size = 6 := rfl
    have k2 : (⟨#[41]⟩ : ByteArray).size = 1 := rfl
    have k3 : (⟨#[109, 101, 109, 98, 101, 114, 115, 40]⟩ : ByteArray).size = 8 := rfl
    have k4 : (⟨#[110, 111, 116, 32]⟩ : ByteArray).size = 4 := rfl
    by_cases c1 : op = 1
    · obtain ⟨v, rfl⟩ := Int.eq_ofNat_of_zero_le o8
      refine Spec.enter Tryd.func53 rfl Tryd.ntmps53 rfl ?_
      intro w0 hw0
      refine T.seq ?_
      refine T.region ?_
      refine SL.x (op_box rfl) rfl rfl ?_
      rintro _ _ _ ⟨B1, rfl, rfl, rfl⟩
      refine SL.y (op_assign rfl) rfl rfl ?_
      refine SL.nil ?_
      refine T.seq ?_
      refine T.region ?_
      refine SL.y (op_fieldAddr fa34_0 rfl) rfl rfl ?_
      first | refine SL.y (op_load ty31 rfl (by repeat (first | exact AtO.here | apply AtO.there)) rfl) rfl rfl ?_ | refine SL.y (op_loadX ty31 rfl (by assumption) rfl) rfl rfl ?_
      -- op
      refine SL.x (op_callF en81 (vs := [_]) rfl (strength_spec (op := op))) rfl rfl ?_
      rintro _ _ X1 ⟨rfl, hX1, rfl⟩
      refine SL.y (op_assign rfl) rfl rfl ?_
      refine SL.nil ?_
      refine T.seq ?_
      refine T.seq ?_
      refine T.region ?_
      refine SL.y (op_fieldAddr fa34_0 rfl) rfl rfl ?_
      first | refine SL.y (op_load ty31 rfl (by repeat (first | exact AtO.here | apply AtO.there)) rfl) rfl rfl ?_ | refine SL.y (op_loadX ty31 rfl (by assumption) rfl) rfl rfl ?_
      refine SL.nil ?_
      refine T.block ?_
      refine T.seq ?_
      refine T.region ?_
      first | refine SL.y (op_eqlT rfl rfl (by omega)) rfl rfl ?_ | refine SL.y (op_eqlF rfl rfl (by omega)) rfl rfl ?_ | refine SL.y (op_eql rfl rfl) rfl rfl ?_
      refine SL.y (op_assign rfl) rfl rfl ?_
      refine SL.nil ?_
      refine T.condT rfl ?_
      refine T.seq ?_
      refine T.region ?_
      refine SL.y (op_fieldAddr fa34_1 rfl) rfl rfl ?_
      first | refine SL.y (op_load ty3 rfl (by repeat (first | exact AtO.here | apply AtO.there)) rfl) rfl rfl ?_ | refine SL.y (op_loadX ty3 rfl (by assumption) rfl) rfl rfl ?_
      -- op
      refine SL.x (op_callF en82 (vs := [_]) rfl (hI _ hX1 v (by have := hn1 c1; omega))) rfl rfl ?_
      rintro _ _ X2 ⟨rfl, hX2, rfl⟩
      refine SL.y (op_assign rfl) rfl rfl ?_
      refine SL.nil ?_
      -- ret
      refine T.ret1 rfl (ResIs.tmp rfl) ?_
      rw [textE, if_pos c1]; rfl
    by_cases c2 : op = 2
    · refine Spec.enter Tryd.func53 rfl Tryd.ntmps53 rfl ?_
      intro w0 hw0
      refine T.seq ?_
      refine T.region ?_
      refine SL.x (op_box rfl) rfl rfl ?_
      rintro _ _ _ ⟨B1, rfl, rfl, rfl⟩
      refine SL.y (op_assign rfl) rfl rfl ?_
      refine SL.nil ?_
      refine T.seq ?_
      refine T.region ?_
      refine SL.y (op_fieldAddr fa34_0 rfl) rfl rfl ?_
      first | refine SL.y (op_load ty31 rfl (by repeat (first | exact AtO.here | apply AtO.there)) rfl) rfl rfl ?_ | refine SL.y (op_loadX ty31 rfl (by assumption) rfl) rfl rfl ?_
      -- op
      refine SL.x (op_callF en81 (vs := [_]) rfl (strength_spec (op := op))) rfl rfl ?_
      rintro _ _ X1 ⟨rfl, hX1, rfl⟩
      refine SL.y (op_assign rfl) rfl rfl ?_
      refine SL.nil ?_
      refine T.seq ?_
      refine T.seq ?_
      refine T.region ?_
      refine SL.y (op_fieldAddr fa34_0 rfl) rfl rfl ?_
      first | refine SL.y (op_load ty31 rfl (by repeat (first | exact AtO.here | apply AtO.there)) rfl) rfl rfl ?_ | refine SL.y (op_loadX ty31 rfl (by assumption) rfl) rfl rfl ?_
      refine SL.nil ?_
      refine T.block ?_
      refine T.seq ?_
      refine T.region ?_
      first | refine SL.y (op_eqlT rfl rfl (by omega)) rfl rfl ?_ | refine SL.y (op_eqlF rfl rfl (by omega)) rfl rfl ?_ | refine SL.y (op_eql rfl rfl) rfl rfl ?_
      refine SL.y (op_assign rfl) rfl rfl ?_
      refine SL.nil ?_
      refine T.condF rfl ?_
      refine T.seq ?_
      refine T.region ?_
      first | refine SL.y (op_eqlT rfl rfl (by omega)) rfl rfl ?_ | refine SL.y (op_eqlF rfl rfl (by omega)) rfl rfl ?_ | refine SL.y (op_eql rfl rfl) rfl rfl ?_
      refine SL.y (op_assign rfl) rfl rfl ?_
      refine SL.nil ?_
      refine T.condT rfl ?_
      refine T.seq ?_
      refine T.region ?_
      refine SL.y (op_assign rfl) rfl rfl ?_
      refine SL.nil ?_
      -- ret
      refine T.ret1 rfl (ResIs.tmp rfl) ?_
      rw [textE, if_neg c1, if_pos c2]
    by_cases c3 : op = 3
    · refine Spec.enter Tryd.func53 rfl Tryd.ntmps53 rfl ?_
      intro w0 hw0
      refine T.seq ?_
      refine T.region ?_
      refine SL.x (op_box rfl) rfl rfl ?_
      rintro _ _ _ ⟨B1, rfl, rfl, rfl⟩
      refine SL.y (op_assign rfl) rfl rfl ?_
      refine SL.nil ?_
      refine T.seq ?_
      refine T.region ?_
      refine SL.y (op_fieldAddr fa34_0 rfl) rfl rfl ?_
      first | refine SL.y (op_load ty31 rfl (by repeat (first | exact AtO.here | apply AtO.there)) rfl) rfl rfl ?_ | refine SL.y (op_loadX ty31 rfl (by assumption) rfl) rfl rfl ?_
      -- op
      refine SL.x (op_callF en81 (vs := [_]) rfl (strength_spec (op := op))) rfl rfl ?_
      rintro _ _ X1 ⟨rfl, hX1, rfl⟩
      refine SL.y (op_assign rfl) rfl rfl ?_
      refine SL.nil ?_
      refine T.seq ?_
      refine T.seq ?_
      refine T.region ?_
      refine SL.y (op_fieldAddr fa34_0 rfl) rfl rfl ?_
      first | refine SL.y (op_load ty31 rfl (by repeat (first | exact AtO.here | apply AtO.there)) rfl) rfl rfl ?_ | refine SL.y (op_loadX ty31 rfl (by assumption) rfl) rfl rfl ?_
      refine SL.nil ?_
      refine T.block ?_
      refine T.seq ?_
      refine T.region ?_
      first | refine SL.y (op_eqlT rfl rfl (by omega)) rfl rfl ?_ | refine SL.y (op_eqlF rfl rfl (by omega)) rfl rfl ?_ | refine SL.y (op_eql rfl rfl) rfl rfl ?_
      refine SL.y (op_assign rfl) rfl rfl ?_
      refine SL.nil ?_
      refine T.condF rfl ?_
      refine T.seq ?_
      refine T.region ?_
      first | refine SL.y (op_eqlT rfl rfl (by omega)) rfl rfl ?_ | refine SL.y (op_eqlF rfl rfl (by omega)) rfl rfl ?_ | refine SL.y (op_eql rfl rfl) rfl rfl ?_
      refine SL.y (op_assign rfl) rfl rfl ?_
      refine SL.nil ?_
      refine T.condF rfl ?_
      refine T.seq ?_
      refine T.region ?_
      first | refine SL.y (op_eqlT rfl rfl (by omega)) rfl rfl ?_ | refine SL.y (op_eqlF rfl rfl (by omega)) rfl rfl ?_ | refine SL.y (op_eql rfl rfl) rfl rfl ?_
      refine SL.y (op_assign rfl) rfl rfl ?_
      refine SL.nil ?_
      refine T.condT rfl ?_
      refine T.seq ?_
      refine T.region ?_
      refine SL.y (op_assign rfl) rfl rfl ?_
      refine SL.nil ?_
      -- ret
      refine T.ret1 rfl (ResIs.tmp rfl) ?_
      rw [textE, if_neg c1, if_neg c2, if_pos c3]
    by_cases c4 : op = 4
    · have hl1 : ns.length = 1 := by simpa [namN, c4] using o5
      obtain ⟨s, rfl⟩ : ∃ s, ns = [s] := by
        match ns, hl1 with
        | [s], _ => exact ⟨s, rfl⟩
      obtain ⟨bN, pre, rfl, hB1⟩ := hn.blk (by simp)
      refine Spec.enter Tryd.func53 rfl Tryd.ntmps53 rfl ?_
      intro w0 hw0
      refine T.seq ?_
      refine T.region ?_
      refine SL.x (op_box rfl) rfl rfl ?_
      rintro _ _ _ ⟨B1, rfl, rfl, rfl⟩
      refine SL.y (op_assign rfl) rfl rfl ?_
      refine SL.nil ?_
      refine T.seq ?_
      refine T.region ?_
      refine SL.y (op_fieldAddr fa34_0 rfl) rfl rfl ?_
      first | refine SL.y (op_load ty31 rfl (by repeat (first | exact AtO.here | apply AtO.there)) rfl) rfl rfl ?_ | refine SL.y (op_loadX ty31 rfl (by assumption) rfl) rfl rfl ?_
      -- op
      refine SL.x (op_callF en81 (vs := [_]) rfl (strength_spec (op := op))) rfl rfl ?_
      rintro _ _ X1 ⟨rfl, hX1, rfl⟩
      refine SL.y (op_assign rfl) rfl rfl ?_
      refine SL.nil ?_
      refine T.seq ?_
      refine T.seq ?_
      refine T.region ?_
      refine SL.y (op_fieldAddr fa34_0 rfl) rfl rfl ?_
      first | refine SL.y (op_load ty31 rfl (by repeat (first | exact AtO.here | apply AtO.there)) rfl) rfl rfl ?_ | refine SL.y (op_loadX ty31 rfl (by assumption) rfl) rfl rfl ?_
      refine SL.nil ?_
      refine T.block ?_
      refine T.seq ?_
      refine T.region ?_
      first | refine SL.y (op_eqlT rfl rfl (by omega)) rfl rfl ?_ | refine SL.y (op_eqlF rfl rfl (by omega)) rfl rfl ?_ | refine SL.y (op_eql rfl rfl) rfl rfl ?_
      refine SL.y (op_assign rfl) rfl rfl ?_
      refine SL.nil ?_
      refine T.condF rfl ?_
      refine T.seq ?_
      refine T.region ?_
      first | refine SL.y (op_eqlT rfl rfl (by omega)) rfl rfl ?_ | refine SL.y (op_eqlF rfl rfl (by omega)) rfl rfl ?_ | refine SL.y (op_eql rfl rfl) rfl rfl ?_
      refine SL.y (op_assign rfl) rfl rfl ?_
      refine SL.nil ?_
      refine T.condF rfl ?_
      refine T.seq ?_
      refine T.region ?_
      first | refine SL.y (op_eqlT rfl rfl (by omega)) rfl rfl ?_ | refine SL.y (op_eqlF rfl rfl (by omega)) rfl rfl ?_ | refine SL.y (op_eql rfl rfl) rfl rfl ?_
      refine SL.y (op_assign rfl) rfl rfl ?_
      refine SL.nil ?_
      refine T.condF rfl ?_
      refine T.seq ?_
      refine T.region ?_
      first | refine SL.y (op_eqlT rfl rfl (by omega)) rfl rfl ?_ | refine SL.y (op_eqlF rfl rfl (by omega)) rfl rfl ?_ | refine SL.y (op_eql rfl rfl) rfl rfl ?_
      refine SL.y (op_assign rfl) rfl rfl ?_
      refine SL.nil ?_
      refine T.condT rfl ?_
      refine T.seq ?_
      refine T.region ?_
      refine SL.y (op_fieldAddr fa34_2 rfl) rfl rfl ?_
      first | refine SL.y (op_load ty24 rfl (by repeat (first | exact AtO.here | apply AtO.there)) rfl) rfl rfl ?_ | refine SL.y (op_loadX ty24 rfl (by assumption) rfl) rfl rfl ?_
      first | refine SL.y (op_indexN Tryd.underlying24 ty9 rfl rfl (by omega)) rfl rfl ?_ | refine SL.y (op_index Tryd.underlying24 ty9 rfl rfl (by omega) (by omega)) rfl rfl ?_
      -- to 25: op
      refine SL.y (op_loadX ty9 rfl (hB1.mono hX1) (str_read (i := 0) rfl (by omega))) rfl rfl ?_
      refine SL.y (op_assign rfl) rfl rfl ?_
      refine SL.nil ?_
      -- ret
      refine T.ret1 rfl (ResIs.tmp rfl) ?_
      rw [textE, if_neg c1, if_neg c2, if_neg c3, if_pos c4]; rfl
    by_cases c5 : op = 5
    · have hl1 : 1 ≤ ns.length ∧ ns.length ≤ 8 := by simpa [namN, c5] using o5
      have hj := joinB_size ns
      have hsum : sumS ns < 100000000 := by
        have e : ∀ l : List ByteArray, sumS l ≤ wtS l := by
          intro l
          induction l with
          | nil => simp [sumS, wtS]
          | cons x l ih => simp only [sumS, wtS, List.map_cons, List.sum_cons] at ih ⊢; omega
        have := e ns; omega
      refine Spec.enter Tryd.func53 rfl Tryd.ntmps53 rfl ?_
      intro w0 hw0
      refine T.seq ?_
      refine T.region ?_
      refine SL.x (op_box rfl) rfl rfl ?_
      rintro _ _ _ ⟨B1, rfl, rfl, rfl⟩
      refine SL.y (op_assign rfl) rfl rfl ?_
      refine SL.nil ?_
      refine T.seq ?_
      refine T.region ?_
      refine SL.y (op_fieldAddr fa34_0 rfl) rfl rfl ?_
      first | refine SL.y (op_load ty31 rfl (by repeat (first | exact AtO.here | apply AtO.there)) rfl) rfl rfl ?_ | refine SL.y (op_loadX ty31 rfl (by assumption) rfl) rfl rfl ?_
      -- op
      refine SL.x (op_callF en81 (vs := [_]) rfl (strength_spec (op := op))) rfl rfl ?_
      rintro _ _ X1 ⟨rfl, hX1, rfl⟩
      refine SL.y (op_assign rfl) rfl rfl ?_
      refine SL.nil ?_
      refine T.seq ?_
      refine T.seq ?_
      refine T.region ?_
      refine SL.y (op_fieldAddr fa34_0 rfl) rfl rfl ?_
      first | refine SL.y (op_load ty31 rfl (by repeat (first | exact AtO.here | apply AtO.there)) rfl) rfl rfl ?_ | refine SL.y (op_loadX ty31 rfl (by assumption) rfl) rfl rfl ?_
      refine SL.nil ?_
      refine T.block ?_
      refine T.seq ?_
      refine T.region ?_
      first | refine SL.y (op_eqlT rfl rfl (by omega)) rfl rfl ?_ | refine SL.y (op_eqlF rfl rfl (by omega)) rfl rfl ?_ | refine SL.y (op_eql rfl rfl) rfl rfl ?_
      refine SL.y (op_assign rfl) rfl rfl ?_
      refine SL.nil ?_
      refine T.condF rfl ?_
      refine T.seq ?_
      refine T.region ?_
      first | refine SL.y (op_eqlT rfl rfl (by omega)) rfl rfl ?_ | refine SL.y (op_eqlF rfl rfl (by omega)) rfl rfl ?_ | refine SL.y (op_eql rfl rfl) rfl rfl ?_
      refine SL.y (op_assign rfl) rfl rfl ?_
      refine SL.nil ?_
      refine T.condF rfl ?_
      refine T.seq ?_
      refine T.region ?_
      first | refine SL.y (op_eqlT rfl rfl (by omega)) rfl rfl ?_ | refine SL.y (op_eqlF rfl rfl (by omega)) rfl rfl ?_ | refine SL.y (op_eql rfl rfl) rfl rfl ?_
      refine SL.y (op_assign rfl) rfl rfl ?_
      refine SL.nil ?_
      refine T.condF rfl ?_
      refine T.seq ?_
      refine T.region ?_
      first | refine SL.y (op_eqlT rfl rfl (by omega)) rfl rfl ?_ | refine SL.y (op_eqlF rfl rfl (by omega)) rfl rfl ?_ | refine SL.y (op_eql rfl rfl) rfl rfl ?_
      refine SL.y (op_assign rfl) rfl rfl ?_
      refine SL.nil ?_
      refine T.condF rfl ?_
      refine T.seq ?_
      refine T.region ?_
      first | refine SL.y (op_eqlT rfl rfl (by omega)) rfl rfl ?_ | refine SL.y (op_eqlF rfl rfl (by omega)) rfl rfl ?_ | refine SL.y (op_eql rfl rfl) rfl rfl ?_
      refine SL.y (op_assign rfl) rfl rfl ?_
      refine SL.nil ?_
      refine T.condT rfl ?_
      refine T.seq ?_
      refine T.region ?_
      refine SL.y (op_fieldAddr fa34_2 rfl) rfl rfl ?_
      first | refine SL.y (op_load ty24 rfl (by repeat (first | exact AtO.here | apply AtO.there)) rfl) rfl rfl ?_ | refine SL.y (op_loadX ty24 rfl (by assumption) rfl) rfl rfl ?_
      -- op
      have hjn := join_spec (sep := ⟨#[44, 32]⟩) (hn.mono hX1) hl1.1 (by omega) hsum (fun s hs => Nat.pos_of_ne_zero (o6 s hs).1) (by decide) (by decide)
      rw [show joinL ⟨#[44, 32]⟩ ns = joinG ns by cases ns <;> rfl] at hjn
      refine SL.x (op_callF en83 (vs := [_, _]) rfl (hjn)) rfl rfl ?_
      rintro _ _ X2 ⟨rfl, hX2, rfl⟩
      have hjs : (⟨(joinG ns).toArray⟩ : ByteArray).size ≤ 2 * wtS ns := hj
      refine SL.y (op_addStr rfl rfl (by first | omega | (simp only [ByteArray.size_append]; omega))) rfl rfl ?_
      refine SL.y (op_addStr rfl rfl (by first | omega | (simp only [ByteArray.size_append]; omega))) rfl rfl ?_
      refine SL.y (op_assign rfl) rfl rfl ?_
      refine SL.nil ?_
      -- ret
      refine T.ret1 rfl (ResIs.tmp rfl) ?_
      rw [textE, if_neg c1, if_neg c2, if_neg c3, if_neg c4, if_pos c5]; rfl
    by_cases c6 : op = 6
    · have hl1 : ns.length = 1 := by simpa [namN, c6] using o5
      obtain ⟨s, rfl⟩ : ∃ s, ns = [s] := by
        match ns, hl1 with
        | [s], _ => exact ⟨s, rfl⟩
      obtain ⟨bN, pre, rfl, hB1⟩ := hn.blk (by simp)
      have hsz := wtS_mem (ns := [s]) (s := s) (by simp)
      refine Spec.enter Tryd.func53 rfl Tryd.ntmps53 rfl ?_
      intro w0 hw0
      refine T.seq ?_
      refine T.region ?_
      refine SL.x (op_box rfl) rfl rfl ?_
      rintro _ _ _ ⟨B1, rfl, rfl, rfl⟩
      refine SL.y (op_assign rfl) rfl rfl ?_
      refine SL.nil ?_
      refine T.seq ?_
      refine T.region ?_
      refine SL.y (op_fieldAddr fa34_0 rfl) rfl rfl ?_
      first | refine SL.y (op_load ty31 rfl (by repeat (first | exact AtO.here | apply AtO.there)) rfl) rfl rfl ?_ | refine SL.y (op_loadX ty31 rfl (by assumption) rfl) rfl rfl ?_
      -- op
      refine SL.x (op_callF en81 (vs := [_]) rfl (strength_spec (op := op))) rfl rfl ?_
      rintro _ _ X1 ⟨rfl, hX1, rfl⟩
      refine SL.y (op_assign rfl) rfl rfl ?_
      refine SL.nil ?_
      refine T.seq ?_
      refine T.seq ?_
      refine T.region ?_
      refine SL.y (op_fieldAddr fa34_0 rfl) rfl rfl ?_
      first | refine SL.y (op_load ty31 rfl (by repeat (first | exact AtO.here | apply AtO.there)) rfl) rfl rfl ?_ | refine SL.y (op_loadX ty31 rfl (by assumption) rfl) rfl rfl ?_
      refine SL.nil ?_
      refine T.block ?_
      refine T.seq ?_
      refine T.region ?_
      first | refine SL.y (op_eqlT rfl rfl (by omega)) rfl rfl ?_ | refine SL.y (op_eqlF rfl rfl (by omega)) rfl rfl ?_ | refine SL.y (op_eql rfl rfl) rfl rfl ?_
      refine SL.y (op_assign rfl) rfl rfl ?_
      refine SL.nil ?_
      refine T.condF rfl ?_
      refine T.seq ?_
      refine T.region ?_
      first | refine SL.y (op_eqlT rfl rfl (by omega)) rfl rfl ?_ | refine SL.y (op_eqlF rfl rfl (by omega)) rfl rfl ?_ | refine SL.y (op_eql rfl rfl) rfl rfl ?_
      refine SL.y (op_assign rfl) rfl rfl ?_
      refine SL.nil ?_
      refine T.condF rfl ?_
      refine T.seq ?_
      refine T.region ?_
      first | refine SL.y (op_eqlT rfl rfl (by omega)) rfl rfl ?_ | refine SL.y (op_eqlF rfl rfl (by omega)) rfl rfl ?_ | refine SL.y (op_eql rfl rfl) rfl rfl ?_
      refine SL.y (op_assign rfl) rfl rfl ?_
      refine SL.nil ?_
      refine T.condF rfl ?_
      refine T.seq ?_
      refine T.region ?_
      first | refine SL.y (op_eqlT rfl rfl (by omega)) rfl rfl ?_ | refine SL.y (op_eqlF rfl rfl (by omega)) rfl rfl ?_ | refine SL.y (op_eql rfl rfl) rfl rfl ?_
      refine SL.y (op_assign rfl) rfl rfl ?_
      refine SL.nil ?_
      refine T.condF rfl ?_
      refine T.seq ?_
      refine T.region ?_
      first | refine SL.y (op_eqlT rfl rfl (by omega)) rfl rfl ?_ | refine SL.y (op_eqlF rfl rfl (by omega)) rfl rfl ?_ | refine SL.y (op_eql rfl rfl) rfl rfl ?_
      refine SL.y (op_assign rfl) rfl rfl ?_
      refine SL.nil ?_
      refine T.condF rfl ?_
      refine T.seq ?_
      refine T.region ?_
      first | refine SL.y (op_eqlT rfl rfl (by omega)) rfl rfl ?_ | refine SL.y (op_eqlF rfl rfl (by omega)) rfl rfl ?_ | refine SL.y (op_eql rfl rfl) rfl rfl ?_
      refine SL.y (op_assign rfl) rfl rfl ?_
      refine SL.nil ?_
      refine T.condT rfl ?_
      refine T.seq ?_
      refine T.region ?_
      refine SL.y (op_fieldAddr fa34_2 rfl) rfl rfl ?_
      first | refine SL.y (op_load ty24 rfl (by repeat (first | exact AtO.here | apply AtO.there)) rfl) rfl rfl ?_ | refine SL.y (op_loadX ty24 rfl (by assumption) rfl) rfl rfl ?_
      first | refine SL.y (op_indexN Tryd.underlying24 ty9 rfl rfl (by omega)) rfl rfl ?_ | refine SL.y (op_index Tryd.underlying24 ty9 rfl rfl (by omega) (by omega)) rfl rfl ?_
      -- to 38: op
      refine SL.y (op_loadX ty9 rfl (hB1.mono hX1) (str_read (i := 0) rfl (by omega))) rfl rfl ?_
      refine SL.y (op_addStr rfl rfl (by first | omega | (simp only [ByteArray.size_append]; omega))) rfl rfl ?_
      refine SL.y (op_addStr rfl rfl (by first | omega | (simp only [ByteArray.size_append]; omega))) rfl rfl ?_
      refine SL.y (op_assign rfl) rfl rfl ?_
      refine SL.nil ?_
      -- ret
      refine T.ret1 rfl (ResIs.tmp rfl) ?_
      rw [textE, if_neg c1, if_neg c2, if_neg c3, if_neg c4, if_neg c5, if_pos c6]; rfl
    by_cases c7 : op = 7
    · have hal : al.length = 1 := by rw [o3, c7]; rfl
      obtain ⟨a, rfl⟩ : ∃ a, al = [a] := by
        match al, hal with
        | [a], _ => exact ⟨a, rfl⟩
      obtain ⟨ra, rfl⟩ : ∃ ra, rows = [ra] := by
        match rows, hl with
        | [ra], _ => exact ⟨ra, rfl⟩
      have hra := hr 0 a ra rfl rfl
      obtain ⟨bA, pre, rfl, hbA⟩ := ha.blk (by simp)
      obtain ⟨_, _, _, _, _, _, _, _, rfl⟩ := hra.form
      have hna := nodeL_zero hargs a (by simp)
      have hma := numL_mem hnumL (a := a) (by simp)
      have hwa : wtE a ≤ N := by rw [wtL, wtL] at hN; omega
      have hts := text_size a
      have hps := parB_size (strN a.op) (textE a) 4
      refine Spec.enter Tryd.func53 rfl Tryd.ntmps53 rfl ?_
      intro w0 hw0
      refine T.seq ?_
      refine T.region ?_
      refine SL.x (op_box rfl) rfl rfl ?_
      rintro _ _ _ ⟨B1, rfl, rfl, rfl⟩
      refine SL.y (op_assign rfl) rfl rfl ?_
      refine SL.nil ?_
      refine T.seq ?_
      refine T.region ?_
      refine SL.y (op_fieldAddr fa34_0 rfl) rfl rfl ?_
      first | refine SL.y (op_load ty31 rfl (by repeat (first | exact AtO.here | apply AtO.there)) rfl) rfl rfl ?_ | refine SL.y (op_loadX ty31 rfl (by assumption) rfl) rfl rfl ?_
      -- op
      refine SL.x (op_callF en81 (vs := [_]) rfl (strength_spec (op := op))) rfl rfl ?_
      rintro _ _ X1 ⟨rfl, hX1, rfl⟩
      rw [show strN op = 4 by rw [c7]; rfl]
      refine SL.y (op_assign rfl) rfl rfl ?_
      refine SL.nil ?_
      refine T.seq ?_
      refine T.seq ?_
      refine T.region ?_
      refine SL.y (op_fieldAddr fa34_0 rfl) rfl rfl ?_
      first | refine SL.y (op_load ty31 rfl (by repeat (first | exact AtO.here | apply AtO.there)) rfl) rfl rfl ?_ | refine SL.y (op_loadX ty31 rfl (by assumption) rfl) rfl rfl ?_
      refine SL.nil ?_
      refine T.block ?_
      refine T.seq ?_
      refine T.region ?_
      first | refine SL.y (op_eqlT rfl rfl (by omega)) rfl rfl ?_ | refine SL.y (op_eqlF rfl rfl (by omega)) rfl rfl ?_ | refine SL.y (op_eql rfl rfl) rfl rfl ?_
      refine SL.y (op_assign rfl) rfl rfl ?_
      refine SL.nil ?_
      refine T.condF rfl ?_
      refine T.seq ?_
      refine T.region ?_
      first | refine SL.y (op_eqlT rfl rfl (by omega)) rfl rfl ?_ | refine SL.y (op_eqlF rfl rfl (by omega)) rfl rfl ?_ | refine SL.y (op_eql rfl rfl) rfl rfl ?_
      refine SL.y (op_assign rfl) rfl rfl ?_
      refine SL.nil ?_
      refine T.condF rfl ?_
      refine T.seq ?_
      refine T.region ?_
      first | refine SL.y (op_eqlT rfl rfl (by omega)) rfl rfl ?_ | refine SL.y (op_eqlF rfl rfl (by omega)) rfl rfl ?_ | refine SL.y (op_eql rfl rfl) rfl rfl ?_
      refine SL.y (op_assign rfl) rfl rfl ?_
      refine SL.nil ?_
      refine T.condF rfl ?_
      refine T.seq ?_
      refine T.region ?_
      first | refine SL.y (op_eqlT rfl rfl (by omega)) rfl rfl ?_ | refine SL.y (op_eqlF rfl rfl (by omega)) rfl rfl ?_ | refine SL.y (op_eql rfl rfl) rfl rfl ?_
      refine SL.y (op_assign rfl) rfl rfl ?_
      refine SL.nil ?_
      refine T.condF rfl ?_
      refine T.seq ?_
      refine T.region ?_
      first | refine SL.y (op_eqlT rfl rfl (by omega)) rfl rfl ?_ | refine SL.y (op_eqlF rfl rfl (by omega)) rfl rfl ?_ | refine SL.y (op_eql rfl rfl) rfl rfl ?_
      refine SL.y (op_assign rfl) rfl rfl ?_
      refine SL.nil ?_
      refine T.condF rfl ?_
      refine T.seq ?_
      refine T.region ?_
      first | refine SL.y (op_eqlT rfl rfl (by omega)) rfl rfl ?_ | refine SL.y (op_eqlF rfl rfl (by omega)) rfl rfl ?_ | refine SL.y (op_eql rfl rfl) rfl rfl ?_
      refine SL.y (op_assign rfl) rfl rfl ?_
      refine SL.nil ?_
      refine T.condF rfl ?_
      refine T.seq ?_
      refine T.region ?_
      first | refine SL.y (op_eqlT rfl rfl (by omega)) rfl rfl ?_ | refine SL.y (op_eqlF rfl rfl (by omega)) rfl rfl ?_ | refine SL.y (op_eql rfl rfl) rfl rfl ?_
      refine SL.y (op_assign rfl) rfl rfl ?_
      refine SL.nil ?_
      refine T.condT rfl ?_
      refine T.seq ?_
      refine T.region ?_
      refine SL.y (op_fieldAddr fa34_3 rfl) rfl rfl ?_
      first | refine SL.y (op_load ty32 rfl (by repeat (first | exact AtO.here | apply AtO.there)) rfl) rfl rfl ?_ | refine SL.y (op_loadX ty32 rfl (by assumption) rfl) rfl rfl ?_
      first | refine SL.y (op_indexN Tryd.underlying32 ty34 rfl rfl (by omega)) rfl rfl ?_ | refine SL.y (op_index Tryd.underlying32 ty34 rfl rfl (by omega) (by omega)) rfl rfl ?_
      -- to 46: op
      refine SL.y (op_loadX ty34 rfl (hbA.mono hX1) (row_read rc4_len (rs := [_]) (k := 0) rfl (by omega))) rfl rfl ?_
      refine SL.y (op_move rfl) rfl rfl ?_
      -- op
      refine SL.x (op_callF en84 (vs := [_, _]) rfl (hopd (hI.mono hX1) hwa hna hma (hra.mono hX1))) rfl rfl ?_
      rintro _ _ X2 ⟨rfl, hX2, rfl⟩
      refine SL.y (op_addStr rfl rfl (by first | omega | (simp only [ByteArray.size_append]; omega))) rfl rfl ?_
      refine SL.y (op_assign rfl) rfl rfl ?_
      refine SL.nil ?_
      -- ret
      refine T.ret1 rfl (ResIs.tmp rfl) ?_
      rw [textE, if_neg c1, if_neg c2, if_neg c3, if_neg c4, if_neg c5, if_neg c6, textL, textL]
    have hal : al.length = 2 := by rw [o3, argN, if_neg (by omega), if_neg c7]
    obtain ⟨a, a2, rfl⟩ : ∃ a a2, al = [a, a2] := by
      match al, hal with
      | [a, b], _ => exact ⟨a, b, rfl⟩
    obtain ⟨ra, rb, rfl⟩ : ∃ ra rb, rows = [ra, rb] := by
      match rows, hl with
      | [ra, rb], _ => exact ⟨ra, rb, rfl⟩
    have hra := hr 0 a ra rfl rfl
    have hrb := hr 1 a2 rb rfl rfl
    obtain ⟨bA, pre, rfl, hbA⟩ := ha.blk (by simp)
    obtain ⟨_, _, _, _, _, _, _, _, rfl⟩ := hra.form
    obtain ⟨_, _, _, _, _, _, _, _, rfl⟩ := hrb.form
    have hna := nodeL_zero hargs a (by simp)
    have hnb := nodeL_zero hargs a2 (by simp)
    have hma := numL_mem hnumL (a := a) (by simp)
    have hmb := numL_mem hnumL (a := a2) (by simp)
    have hwa : wtE a ≤ N ∧ wtE a2 ≤ N := by rw [wtL, wtL, wtL] at hN; omega
    have hts := text_size a
    have hts2 := text_size a2
    have hps := fun k => parB_size (strN a.op) (textE a) k
    have hps2 := fun k => parB_size (strN a2.op) (textE a2) k
    have hps3 := hps (lefN op)
    have hps4 := hps2 (rigN op)
    have hps5 := hps2 (lefN op)
    have hww := wordB_size op
    have hs7 := strN_le op
    by_cases c10 : op = 10
    · have el : lefN op = strN op + 1 := if_pos c10
      have er : rigN op = strN op := if_pos c10
      refine Spec.enter Tryd.func53 rfl Tryd.ntmps53 rfl ?_
      intro w0 hw0
      refine T.seq ?_
      refine T.region ?_
      refine SL.x (op_box rfl) rfl rfl ?_
      rintro _ _ _ ⟨B1, rfl, rfl, rfl⟩
      refine SL.y (op_assign rfl) rfl rfl ?_
      refine SL.nil ?_
      refine T.seq ?_
      refine T.region ?_
      refine SL.y (op_fieldAddr fa34_0 rfl) rfl rfl ?_
      first | refine SL.y (op_load ty31 rfl (by repeat (first | exact AtO.here | apply AtO.there)) rfl) rfl rfl ?_ | refine SL.y (op_loadX ty31 rfl (by assumption) rfl) rfl rfl ?_
      -- op
      refine SL.x (op_callF en81 (vs := [_]) rfl (strength_spec (op := op))) rfl rfl ?_
      rintro _ _ X1 ⟨rfl, hX1, rfl⟩
      refine SL.y (op_assign rfl) rfl rfl ?_
      refine SL.nil ?_
      refine T.seq ?_
      refine T.seq ?_
      refine T.region ?_
      refine SL.y (op_fieldAddr fa34_0 rfl) rfl rfl ?_
      first | refine SL.y (op_load ty31 rfl (by repeat (first | exact AtO.here | apply AtO.there)) rfl) rfl rfl ?_ | refine SL.y (op_loadX ty31 rfl (by assumption) rfl) rfl rfl ?_
      refine SL.nil ?_
      refine T.block ?_
      refine T.seq ?_
      refine T.region ?_
      first | refine SL.y (op_eqlT rfl rfl (by omega)) rfl rfl ?_ | refine SL.y (op_eqlF rfl rfl (by omega)) rfl rfl ?_ | refine SL.y (op_eql rfl rfl) rfl rfl ?_
      refine SL.y (op_assign rfl) rfl rfl ?_
      refine SL.nil ?_
      refine T.condF rfl ?_
      refine T.seq ?_
      refine T.region ?_
      first | refine SL.y (op_eqlT rfl rfl (by omega)) rfl rfl ?_ | refine SL.y (op_eqlF rfl rfl (by omega)) rfl rfl ?_ | refine SL.y (op_eql rfl rfl) rfl rfl ?_
      refine SL.y (op_assign rfl) rfl rfl ?_
      refine SL.nil ?_
      refine T.condF rfl ?_
      refine T.seq ?_
      refine T.region ?_
      first | refine SL.y (op_eqlT rfl rfl (by omega)) rfl rfl ?_ | refine SL.y (op_eqlF rfl rfl (by omega)) rfl rfl ?_ | refine SL.y (op_eql rfl rfl) rfl rfl ?_
      refine SL.y (op_assign rfl) rfl rfl ?_
      refine SL.nil ?_
      refine T.condF rfl ?_
      refine T.seq ?_
      refine T.region ?_
      first | refine SL.y (op_eqlT rfl rfl (by omega)) rfl rfl ?_ | refine SL.y (op_eqlF rfl rfl (by omega)) rfl rfl ?_ | refine SL.y (op_eql rfl rfl) rfl rfl ?_
      refine SL.y (op_assign rfl) rfl rfl ?_
      refine SL.nil ?_
      refine T.condF rfl ?_
      refine T.seq ?_
      refine T.region ?_
      first | refine SL.y (op_eqlT rfl rfl (by omega)) rfl rfl ?_ | refine SL.y (op_eqlF rfl rfl (by omega)) rfl rfl ?_ | refine SL.y (op_eql rfl rfl) rfl rfl ?_
      refine SL.y (op_assign rfl) rfl rfl ?_
      refine SL.nil ?_
      refine T.condF rfl ?_
      refine T.seq ?_
      refine T.region ?_
      first | refine SL.y (op_eqlT rfl rfl (by omega)) rfl rfl ?_ | refine SL.y (op_eqlF rfl rfl (by omega)) rfl rfl ?_ | refine SL.y (op_eql rfl rfl) rfl rfl ?_
      refine SL.y (op_assign rfl) rfl rfl ?_
      refine SL.nil ?_
      refine T.condF rfl ?_
      refine T.seq ?_
      refine T.region ?_
      first | refine SL.y (op_eqlT rfl rfl (by omega)) rfl rfl ?_ | refine SL.y (op_eqlF rfl rfl (by omega)) rfl rfl ?_ | refine SL.y (op_eql rfl rfl) rfl rfl ?_
      refine SL.y (op_assign rfl) rfl rfl ?_
      refine SL.nil ?_
      refine T.condF rfl ?_
      refine T.skip ?_
      refine T.blk ?_
      refine T.seq ?_
      refine T.region ?_
      refine SL.y (op_move rfl) rfl rfl ?_
      refine SL.y (op_move rfl) rfl rfl ?_
      first | refine SL.y (op_addN (q := 1) rfl rfl (by omega)) rfl rfl ?_ | refine SL.y (op_add rfl rfl (by omega) (by omega)) rfl rfl ?_ | refine SL.y (op_addW rfl rfl) rfl rfl ?_
      refine SL.y (op_assign rfl) rfl rfl ?_
      refine SL.y (op_assign rfl) rfl rfl ?_
      refine SL.nil ?_
      refine T.seq ?_
      refine T.block ?_
      refine T.seq ?_
      refine T.region ?_
      refine SL.y (op_fieldAddr fa34_0 rfl) rfl rfl ?_
      first | refine SL.y (op_load ty31 rfl (by repeat (first | exact AtO.here | apply AtO.there)) rfl) rfl rfl ?_ | refine SL.y (op_loadX ty31 rfl (by assumption) rfl) rfl rfl ?_
      first | refine SL.y (op_eqlT rfl rfl (by omega)) rfl rfl ?_ | refine SL.y (op_eqlF rfl rfl (by omega)) rfl rfl ?_ | refine SL.y (op_eql rfl rfl) rfl rfl ?_
      refine SL.y (op_assign rfl) rfl rfl ?_
      refine SL.nil ?_
      refine T.condT rfl ?_
      refine T.region ?_
      refine SL.y (op_move rfl) rfl rfl ?_
      first | refine SL.y (op_addN (q := 1) rfl rfl (by omega)) rfl rfl ?_ | refine SL.y (op_add rfl rfl (by omega) (by omega)) rfl rfl ?_ | refine SL.y (op_addW rfl rfl) rfl rfl ?_
      refine SL.y (op_move rfl) rfl rfl ?_
      refine SL.y (op_assign rfl) rfl rfl ?_
      refine SL.y (op_assign rfl) rfl rfl ?_
      refine SL.nil ?_
      refine T.blk ?_
      -- upto 22
      rw [← el, ← er]
      refine T.seq ?_
      refine T.draw (by kernel_rfl) 18 [.t 0, .t 1, .t 2, .t 3, .t 4, .t 6, .t 7, .t 10, .t 11, .t 12, .t 13, .t 14, .r 5, .r 8, .t 9, .r 15, .t 16, .t 17] (by kernel_rfl) ?_
      refine SD.take rfl panicBody (op_fieldAddr fa34_3 rfl) rfl rfl ?_
      first | refine SD.take rfl panicBody (op_load ty32 rfl (by repeat (first | exact AtO.here | apply AtO.there)) rfl) rfl rfl ?_ | refine SD.take rfl panicBody (op_loadX ty32 rfl (by assumption) rfl) rfl rfl ?_
      first | refine SD.take rfl panicBody (op_indexN Tryd.underlying32 ty34 rfl rfl (by omega)) rfl rfl ?_ | refine SD.take rfl panicBody (op_index Tryd.underlying32 ty34 rfl rfl (by omega) (by omega)) rfl rfl ?_
      -- to 71: op
      refine SD.take rfl panicBody (op_loadX ty34 rfl (hbA.mono hX1) (row_read rc4_len (rs := [_, _]) (k := 0) rfl (by omega))) rfl rfl ?_
      refine SD.take rfl panicBody (op_move rfl) rfl rfl ?_
      refine SD.take rfl panicBody (op_fieldAddr fa34_0 rfl) rfl rfl ?_
      first | refine SD.take rfl panicBody (op_load ty31 rfl (by repeat (first | exact AtO.here | apply AtO.there)) rfl) rfl rfl ?_ | refine SD.take rfl panicBody (op_loadX ty31 rfl (by assumption) rfl) rfl rfl ?_
      refine SD.take rfl panicBody (op_fieldAddr fa34_3 rfl) rfl rfl ?_
      first | refine SD.take rfl panicBody (op_load ty32 rfl (by repeat (first | exact AtO.here | apply AtO.there)) rfl) rfl rfl ?_ | refine SD.take rfl panicBody (op_loadX ty32 rfl (by assumption) rfl) rfl rfl ?_
      first | refine SD.take rfl panicBody (op_indexN Tryd.underlying32 ty34 rfl rfl (by omega)) rfl rfl ?_ | refine SD.take rfl panicBody (op_index Tryd.underlying32 ty34 rfl rfl (by omega) (by omega)) rfl rfl ?_
      -- to 81: op
      refine SD.take rfl panicBody (op_loadX ty34 rfl (hbA.mono hX1) (row_read rc4_len (rs := [_, _]) (k := 1) rfl (by omega))) rfl rfl ?_
      refine SD.take rfl panicBody (op_move rfl) rfl rfl ?_
      -- op
      refine SD.run rfl (op_callF en84 (vs := [_, _]) rfl (hopd (hI.mono hX1) hwa.1 hna hma (hra.mono hX1))) rfl rfl ?_
      rintro _ _ X3 ⟨rfl, hX3, rfl⟩
      -- op
      refine SD.run rfl (op_callF en85 (vs := [_]) rfl (opw_spec (op := op) (by omega) (by omega))) rfl rfl ?_
      rintro _ _ X4 ⟨rfl, hX4, rfl⟩
      refine SD.take rfl panicBody (op_addStr rfl rfl (by first | omega | (simp only [ByteArray.size_append]; omega))) rfl rfl ?_
      -- op
      refine SD.run rfl (op_callF en84 (vs := [_, _]) rfl (hopd (((hI.mono hX1).mono hX3).mono hX4) hwa.2 hnb hmb (((hrb.mono hX1).mono hX3).mono hX4))) rfl rfl ?_
      rintro _ _ X5 ⟨rfl, hX5, rfl⟩
      refine SD.take rfl panicBody (op_addStr rfl rfl (by first | omega | (simp only [ByteArray.size_append]; omega))) rfl rfl ?_
      refine SD.take rfl panicBody (op_assign rfl) rfl rfl ?_
      refine SD.nil ?_
      show SL _ _ _ _ _ _ _ [] _ _ _
      refine SL.nil ?_
      -- ret
      refine T.ret1 rfl (ResIs.tmp rfl) ?_
      rw [textE, if_neg c1, if_neg c2, if_neg c3, if_neg c4, if_neg c5, if_neg c6, textL, textL, textL]
    by_cases c5s : strN op = 5
    · have el : lefN op = strN op + 1 := by rw [lefN, if_neg c10, if_pos c5s]
      have er : rigN op = strN op + 1 := if_neg c10
      refine Spec.enter Tryd.func53 rfl Tryd.ntmps53 rfl ?_
      intro w0 hw0
      refine T.seq ?_
      refine T.region ?_
      refine SL.x (op_box rfl) rfl rfl ?_
      rintro _ _ _ ⟨B1, rfl, rfl, rfl⟩
      refine SL.y (op_assign rfl) rfl rfl ?_
      refine SL.nil ?_
      refine T.seq ?_
      refine T.region ?_
      refine SL.y (op_fieldAddr fa34_0 rfl) rfl rfl ?_
      first | refine SL.y (op_load ty31 rfl (by repeat (first | exact AtO.here | apply AtO.there)) rfl) rfl rfl ?_ | refine SL.y (op_loadX ty31 rfl (by assumption) rfl) rfl rfl ?_
      -- op
      refine SL.x (op_callF en81 (vs := [_]) rfl (strength_spec (op := op))) rfl rfl ?_
      rintro _ _ X1 ⟨rfl, hX1, rfl⟩
      refine SL.y (op_assign rfl) rfl rfl ?_
      refine SL.nil ?_
      refine T.seq ?_
      refine T.seq ?_
      refine T.region ?_
      refine SL.y (op_fieldAddr fa34_0 rfl) rfl rfl ?_
      first | refine SL.y (op_load ty31 rfl (by repeat (first | exact AtO.here | apply AtO.there)) rfl) rfl rfl ?_ | refine SL.y (op_loadX ty31 rfl (by assumption) rfl) rfl rfl ?_
      refine SL.nil ?_
      refine T.block ?_
      refine T.seq ?_
      refine T.region ?_
      first | refine SL.y (op_eqlT rfl rfl (by omega)) rfl rfl ?_ | refine SL.y (op_eqlF rfl rfl (by omega)) rfl rfl ?_ | refine SL.y (op_eql rfl rfl) rfl rfl ?_
      refine SL.y (op_assign rfl) rfl rfl ?_
      refine SL.nil ?_
      refine T.condF rfl ?_
      refine T.seq ?_
      refine T.region ?_
      first | refine SL.y (op_eqlT rfl rfl (by omega)) rfl rfl ?_ | refine SL.y (op_eqlF rfl rfl (by omega)) rfl rfl ?_ | refine SL.y (op_eql rfl rfl) rfl rfl ?_
      refine SL.y (op_assign rfl) rfl rfl ?_
      refine SL.nil ?_
      refine T.condF rfl ?_
      refine T.seq ?_
      refine T.region ?_
      first | refine SL.y (op_eqlT rfl rfl (by omega)) rfl rfl ?_ | refine SL.y (op_eqlF rfl rfl (by omega)) rfl rfl ?_ | refine SL.y (op_eql rfl rfl) rfl rfl ?_
      refine SL.y (op_assign rfl) rfl rfl ?_
      refine SL.nil ?_
      refine T.condF rfl ?_
      refine T.seq ?_
      refine T.region ?_
      first | refine SL.y (op_eqlT rfl rfl (by omega)) rfl rfl ?_ | refine SL.y (op_eqlF rfl rfl (by omega)) rfl rfl ?_ | refine SL.y (op_eql rfl rfl) rfl rfl ?_
      refine SL.y (op_assign rfl) rfl rfl ?_
      refine SL.nil ?_
      refine T.condF rfl ?_
      refine T.seq ?_
      refine T.region ?_
      first | refine SL.y (op_eqlT rfl rfl (by omega)) rfl rfl ?_ | refine SL.y (op_eqlF rfl rfl (by omega)) rfl rfl ?_ | refine SL.y (op_eql rfl rfl) rfl rfl ?_
      refine SL.y (op_assign rfl) rfl rfl ?_
      refine SL.nil ?_
      refine T.condF rfl ?_
      refine T.seq ?_
      refine T.region ?_
      first | refine SL.y (op_eqlT rfl rfl (by omega)) rfl rfl ?_ | refine SL.y (op_eqlF rfl rfl (by omega)) rfl rfl ?_ | refine SL.y (op_eql rfl rfl) rfl rfl ?_
      refine SL.y (op_assign rfl) rfl rfl ?_
      refine SL.nil ?_
      refine T.condF rfl ?_
      refine T.seq ?_
      refine T.region ?_
      first | refine SL.y (op_eqlT rfl rfl (by omega)) rfl rfl ?_ | refine SL.y (op_eqlF rfl rfl (by omega)) rfl rfl ?_ | refine SL.y (op_eql rfl rfl) rfl rfl ?_
      refine SL.y (op_assign rfl) rfl rfl ?_
      refine SL.nil ?_
      refine T.condF rfl ?_
      refine T.skip ?_
      refine T.blk ?_
      refine T.seq ?_
      refine T.region ?_
      refine SL.y (op_move rfl) rfl rfl ?_
      refine SL.y (op_move rfl) rfl rfl ?_
      first | refine SL.y (op_addN (q := 1) rfl rfl (by omega)) rfl rfl ?_ | refine SL.y (op_add rfl rfl (by omega) (by omega)) rfl rfl ?_ | refine SL.y (op_addW rfl rfl) rfl rfl ?_
      refine SL.y (op_assign rfl) rfl rfl ?_
      refine SL.y (op_assign rfl) rfl rfl ?_
      refine SL.nil ?_
      refine T.seq ?_
      refine T.block ?_
      refine T.seq ?_
      refine T.region ?_
      refine SL.y (op_fieldAddr fa34_0 rfl) rfl rfl ?_
      first | refine SL.y (op_load ty31 rfl (by repeat (first | exact AtO.here | apply AtO.there)) rfl) rfl rfl ?_ | refine SL.y (op_loadX ty31 rfl (by assumption) rfl) rfl rfl ?_
      first | refine SL.y (op_eqlT rfl rfl (by omega)) rfl rfl ?_ | refine SL.y (op_eqlF rfl rfl (by omega)) rfl rfl ?_ | refine SL.y (op_eql rfl rfl) rfl rfl ?_
      refine SL.y (op_assign rfl) rfl rfl ?_
      refine SL.nil ?_
      refine T.condF rfl ?_
      refine T.seq ?_
      refine T.region ?_
      refine SL.y (op_move rfl) rfl rfl ?_
      -- op
      refine SL.x (op_callF en81 (vs := [_]) rfl (strength_spec (op := 11))) rfl rfl ?_
      rintro _ _ X2 ⟨rfl, hX2, rfl⟩
      rw [show strN 11 = 5 from rfl]
      first | refine SL.y (op_eqlT rfl rfl (by omega)) rfl rfl ?_ | refine SL.y (op_eqlF rfl rfl (by omega)) rfl rfl ?_ | refine SL.y (op_eql rfl rfl) rfl rfl ?_
      refine SL.y (op_assign rfl) rfl rfl ?_
      refine SL.nil ?_
      refine T.condT rfl ?_
      refine T.region ?_
      refine SL.y (op_move rfl) rfl rfl ?_
      first | refine SL.y (op_addN (q := 1) rfl rfl (by omega)) rfl rfl ?_ | refine SL.y (op_add rfl rfl (by omega) (by omega)) rfl rfl ?_ | refine SL.y (op_addW rfl rfl) rfl rfl ?_
      refine SL.y (op_move rfl) rfl rfl ?_
      first | refine SL.y (op_addN (q := 1) rfl rfl (by omega)) rfl rfl ?_ | refine SL.y (op_add rfl rfl (by omega) (by omega)) rfl rfl ?_ | refine SL.y (op_addW rfl rfl) rfl rfl ?_
      refine SL.y (op_assign rfl) rfl rfl ?_
      refine SL.y (op_assign rfl) rfl rfl ?_
      refine SL.nil ?_
      refine T.blk ?_
      -- upto 22
      rw [← el]
      refine T.seq ?_
      refine T.draw (by kernel_rfl) 18 [.t 0, .t 1, .t 2, .t 3, .t 4, .t 6, .t 7, .t 10, .t 11, .t 12, .t 13, .t 14, .r 5, .r 8, .t 9, .r 15, .t 16, .t 17] (by kernel_rfl) ?_
      refine SD.take rfl panicBody (op_fieldAddr fa34_3 rfl) rfl rfl ?_
      first | refine SD.take rfl panicBody (op_load ty32 rfl (by repeat (first | exact AtO.here | apply AtO.there)) rfl) rfl rfl ?_ | refine SD.take rfl panicBody (op_loadX ty32 rfl (by assumption) rfl) rfl rfl ?_
      first | refine SD.take rfl panicBody (op_indexN Tryd.underlying32 ty34 rfl rfl (by omega)) rfl rfl ?_ | refine SD.take rfl panicBody (op_index Tryd.underlying32 ty34 rfl rfl (by omega) (by omega)) rfl rfl ?_
      -- to 71: op
      refine SD.take rfl panicBody (op_loadX ty34 rfl (hbA.mono (hX1.trans' hX2)) (row_read rc4_len (rs := [_, _]) (k := 0) rfl (by omega))) rfl rfl ?_
      refine SD.take rfl panicBody (op_move rfl) rfl rfl ?_
      refine SD.take rfl panicBody (op_fieldAddr fa34_0 rfl) rfl rfl ?_
      first | refine SD.take rfl panicBody (op_load ty31 rfl (by repeat (first | exact AtO.here | apply AtO.there)) rfl) rfl rfl ?_ | refine SD.take rfl panicBody (op_loadX ty31 rfl (by assumption) rfl) rfl rfl ?_
      refine SD.take rfl panicBody (op_fieldAddr fa34_3 rfl) rfl rfl ?_
      first | refine SD.take rfl panicBody (op_load ty32 rfl (by repeat (first | exact AtO.here | apply AtO.there)) rfl) rfl rfl ?_ | refine SD.take rfl panicBody (op_loadX ty32 rfl (by assumption) rfl) rfl rfl ?_
      first | refine SD.take rfl panicBody (op_indexN Tryd.underlying32 ty34 rfl rfl (by omega)) rfl rfl ?_ | refine SD.take rfl panicBody (op_index Tryd.underlying32 ty34 rfl rfl (by omega) (by omega)) rfl rfl ?_
      -- to 81: op
      refine SD.take rfl panicBody (op_loadX ty34 rfl (hbA.mono (hX1.trans' hX2)) (row_read rc4_len (rs := [_, _]) (k := 1) rfl (by omega))) rfl rfl ?_
      refine SD.take rfl panicBody (op_move rfl) rfl rfl ?_
      -- op
      refine SD.run rfl (op_callF en84 (vs := [_, _]) rfl (hopd (hI.mono (hX1.trans' hX2)) hwa.1 hna hma (hra.mono (hX1.trans' hX2)))) rfl rfl ?_
      rintro _ _ X3 ⟨rfl, hX3, rfl⟩
      -- op
      refine SD.run rfl (op_callF en85 (vs := [_]) rfl (opw_spec (op := op) (by omega) (by omega))) rfl rfl ?_
      rintro _ _ X4 ⟨rfl, hX4, rfl⟩
      refine SD.take rfl panicBody (op_addStr rfl rfl (by first | omega | (simp only [ByteArray.size_append]; omega))) rfl rfl ?_
      -- op
      refine SD.run rfl (op_callF en84 (vs := [_, _]) rfl (hopd (((hI.mono (hX1.trans' hX2)).mono hX3).mono hX4) hwa.2 hnb hmb (((hrb.mono (hX1.trans' hX2)).mono hX3).mono hX4))) rfl rfl ?_
      rintro _ _ X5 ⟨rfl, hX5, rfl⟩
      refine SD.take rfl panicBody (op_addStr rfl rfl (by first | omega | (simp only [ByteArray.size_append]; omega))) rfl rfl ?_
      refine SD.take rfl panicBody (op_assign rfl) rfl rfl ?_
      refine SD.nil ?_
      show SL _ _ _ _ _ _ _ [] _ _ _
      refine SL.nil ?_
      -- ret
      refine T.ret1 rfl (ResIs.tmp rfl) ?_
      rw [textE, if_neg c1, if_neg c2, if_neg c3, if_neg c4, if_neg c5, if_neg c6, textL, textL, textL, er, ← el]
    · have el : lefN op = strN op := by rw [lefN, if_neg c10, if_neg c5s]
      have er : rigN op = strN op + 1 := if_neg c10
      refine Spec.enter Tryd.func53 rfl Tryd.ntmps53 rfl ?_
      intro w0 hw0
      refine T.seq ?_
      refine T.region ?_
      refine SL.x (op_box rfl) rfl rfl ?_
      rintro _ _ _ ⟨B1, rfl, rfl, rfl⟩
      refine SL.y (op_assign rfl) rfl rfl ?_
      refine SL.nil ?_
      refine T.seq ?_
      refine T.region ?_
      refine SL.y (op_fieldAddr fa34_0 rfl) rfl rfl ?_
      first | refine SL.y (op_load ty31 rfl (by repeat (first | exact AtO.here | apply AtO.there)) rfl) rfl rfl ?_ | refine SL.y (op_loadX ty31 rfl (by assumption) rfl) rfl rfl ?_
      -- op
      refine SL.x (op_callF en81 (vs := [_]) rfl (strength_spec (op := op))) rfl rfl ?_
      rintro _ _ X1 ⟨rfl, hX1, rfl⟩
      refine SL.y (op_assign rfl) rfl rfl ?_
      refine SL.nil ?_
      refine T.seq ?_
      refine T.seq ?_
      refine T.region ?_
      refine SL.y (op_fieldAddr fa34_0 rfl) rfl rfl ?_
      first | refine SL.y (op_load ty31 rfl (by repeat (first | exact AtO.here | apply AtO.there)) rfl) rfl rfl ?_ | refine SL.y (op_loadX ty31 rfl (by assumption) rfl) rfl rfl ?_
      refine SL.nil ?_
      refine T.block ?_
      refine T.seq ?_
      refine T.region ?_
      first | refine SL.y (op_eqlT rfl rfl (by omega)) rfl rfl ?_ | refine SL.y (op_eqlF rfl rfl (by omega)) rfl rfl ?_ | refine SL.y (op_eql rfl rfl) rfl rfl ?_
      refine SL.y (op_assign rfl) rfl rfl ?_
      refine SL.nil ?_
      refine T.condF rfl ?_
      refine T.seq ?_
      refine T.region ?_
      first | refine SL.y (op_eqlT rfl rfl (by omega)) rfl rfl ?_ | refine SL.y (op_eqlF rfl rfl (by omega)) rfl rfl ?_ | refine SL.y (op_eql rfl rfl) rfl rfl ?_
      refine SL.y (op_assign rfl) rfl rfl ?_
      refine SL.nil ?_
      refine T.condF rfl ?_
      refine T.seq ?_
      refine T.region ?_
      first | refine SL.y (op_eqlT rfl rfl (by omega)) rfl rfl ?_ | refine SL.y (op_eqlF rfl rfl (by omega)) rfl rfl ?_ | refine SL.y (op_eql rfl rfl) rfl rfl ?_
      refine SL.y (op_assign rfl) rfl rfl ?_
      refine SL.nil ?_
      refine T.condF rfl ?_
      refine T.seq ?_
      refine T.region ?_
      first | refine SL.y (op_eqlT rfl rfl (by omega)) rfl rfl ?_ | refine SL.y (op_eqlF rfl rfl (by omega)) rfl rfl ?_ | refine SL.y (op_eql rfl rfl) rfl rfl ?_
      refine SL.y (op_assign rfl) rfl rfl ?_
      refine SL.nil ?_
      refine T.condF rfl ?_
      refine T.seq ?_
      refine T.region ?_
      first | refine SL.y (op_eqlT rfl rfl (by omega)) rfl rfl ?_ | refine SL.y (op_eqlF rfl rfl (by omega)) rfl rfl ?_ | refine SL.y (op_eql rfl rfl) rfl rfl ?_
      refine SL.y (op_assign rfl) rfl rfl ?_
      refine SL.nil ?_
      refine T.condF rfl ?_
      refine T.seq ?_
      refine T.region ?_
      first | refine SL.y (op_eqlT rfl rfl (by omega)) rfl rfl ?_ | refine SL.y (op_eqlF rfl rfl (by omega)) rfl rfl ?_ | refine SL.y (op_eql rfl rfl) rfl rfl ?_
      refine SL.y (op_assign rfl) rfl rfl ?_
      refine SL.nil ?_
      refine T.condF rfl ?_
      refine T.seq ?_
      refine T.region ?_
      first | refine SL.y (op_eqlT rfl rfl (by omega)) rfl rfl ?_ | refine SL.y (op_eqlF rfl rfl (by omega)) rfl rfl ?_ | refine SL.y (op_eql rfl rfl) rfl rfl ?_
      refine SL.y (op_assign rfl) rfl rfl ?_
      refine SL.nil ?_
      refine T.condF rfl ?_
      refine T.skip ?_
      refine T.blk ?_
      refine T.seq ?_
      refine T.region ?_
      refine SL.y (op_move rfl) rfl rfl ?_
      refine SL.y (op_move rfl) rfl rfl ?_
      first | refine SL.y (op_addN (q := 1) rfl rfl (by omega)) rfl rfl ?_ | refine SL.y (op_add rfl rfl (by omega) (by omega)) rfl rfl ?_ | refine SL.y (op_addW rfl rfl) rfl rfl ?_
      refine SL.y (op_assign rfl) rfl rfl ?_
      refine SL.y (op_assign rfl) rfl rfl ?_
      refine SL.nil ?_
      refine T.seq ?_
      refine T.block ?_
      refine T.seq ?_
      refine T.region ?_
      refine SL.y (op_fieldAddr fa34_0 rfl) rfl rfl ?_
      first | refine SL.y (op_load ty31 rfl (by repeat (first | exact AtO.here | apply AtO.there)) rfl) rfl rfl ?_ | refine SL.y (op_loadX ty31 rfl (by assumption) rfl) rfl rfl ?_
      first | refine SL.y (op_eqlT rfl rfl (by omega)) rfl rfl ?_ | refine SL.y (op_eqlF rfl rfl (by omega)) rfl rfl ?_ | refine SL.y (op_eql rfl rfl) rfl rfl ?_
      refine SL.y (op_assign rfl) rfl rfl ?_
      refine SL.nil ?_
      refine T.condF rfl ?_
      refine T.seq ?_
      refine T.region ?_
      refine SL.y (op_move rfl) rfl rfl ?_
      -- op
      refine SL.x (op_callF en81 (vs := [_]) rfl (strength_spec (op := 11))) rfl rfl ?_
      rintro _ _ X2 ⟨rfl, hX2, rfl⟩
      rw [show strN 11 = 5 from rfl]
      first | refine SL.y (op_eqlT rfl rfl (by omega)) rfl rfl ?_ | refine SL.y (op_eqlF rfl rfl (by omega)) rfl rfl ?_ | refine SL.y (op_eql rfl rfl) rfl rfl ?_
      refine SL.y (op_assign rfl) rfl rfl ?_
      refine SL.nil ?_
      refine T.condF rfl ?_
      refine T.skip ?_
      refine T.blk ?_
      -- upto 22
      rw [← er, ← el]
      refine T.seq ?_
      refine T.draw (by kernel_rfl) 18 [.t 0, .t 1, .t 2, .t 3, .t 4, .t 6, .t 7, .t 10, .t 11, .t 12, .t 13, .t 14, .r 5, .r 8, .t 9, .r 15, .t 16, .t 17] (by kernel_rfl) ?_
      refine SD.take rfl panicBody (op_fieldAddr fa34_3 rfl) rfl rfl ?_
      first | refine SD.take rfl panicBody (op_load ty32 rfl (by repeat (first | exact AtO.here | apply AtO.there)) rfl) rfl rfl ?_ | refine SD.take rfl panicBody (op_loadX ty32 rfl (by assumption) rfl) rfl rfl ?_
      first | refine SD.take rfl panicBody (op_indexN Tryd.underlying32 ty34 rfl rfl (by omega)) rfl rfl ?_ | refine SD.take rfl panicBody (op_index Tryd.underlying32 ty34 rfl rfl (by omega) (by omega)) rfl rfl ?_
      -- to 71: op
      refine SD.take rfl panicBody (op_loadX ty34 rfl (hbA.mono (hX1.trans' hX2)) (row_read rc4_len (rs := [_, _]) (k := 0) rfl (by omega))) rfl rfl ?_
      refine SD.take rfl panicBody (op_move rfl) rfl rfl ?_
      refine SD.take rfl panicBody (op_fieldAddr fa34_0 rfl) rfl rfl ?_
      first | refine SD.take rfl panicBody (op_load ty31 rfl (by repeat (first | exact AtO.here | apply AtO.there)) rfl) rfl rfl ?_ | refine SD.take rfl panicBody (op_loadX ty31 rfl (by assumption) rfl) rfl rfl ?_
      refine SD.take rfl panicBody (op_fieldAddr fa34_3 rfl) rfl rfl ?_
      first | refine SD.take rfl panicBody (op_load ty32 rfl (by repeat (first | exact AtO.here | apply AtO.there)) rfl) rfl rfl ?_ | refine SD.take rfl panicBody (op_loadX ty32 rfl (by assumption) rfl) rfl rfl ?_
      first | refine SD.take rfl panicBody (op_indexN Tryd.underlying32 ty34 rfl rfl (by omega)) rfl rfl ?_ | refine SD.take rfl panicBody (op_index Tryd.underlying32 ty34 rfl rfl (by omega) (by omega)) rfl rfl ?_
      -- to 81: op
      refine SD.take rfl panicBody (op_loadX ty34 rfl (hbA.mono (hX1.trans' hX2)) (row_read rc4_len (rs := [_, _]) (k := 1) rfl (by omega))) rfl rfl ?_
      refine SD.take rfl panicBody (op_move rfl) rfl rfl ?_
      -- op
      refine SD.run rfl (op_callF en84 (vs := [_, _]) rfl (hopd (hI.mono (hX1.trans' hX2)) hwa.1 hna hma (hra.mono (hX1.trans' hX2)))) rfl rfl ?_
      rintro _ _ X3 ⟨rfl, hX3, rfl⟩
      -- op
      refine SD.run rfl (op_callF en85 (vs := [_]) rfl (opw_spec (op := op) (by omega) (by omega))) rfl rfl ?_
      rintro _ _ X4 ⟨rfl, hX4, rfl⟩
      refine SD.take rfl panicBody (op_addStr rfl rfl (by first | omega | (simp only [ByteArray.size_append]; omega))) rfl rfl ?_
      -- op
      refine SD.run rfl (op_callF en84 (vs := [_, _]) rfl (hopd (((hI.mono (hX1.trans' hX2)).mono hX3).mono hX4) hwa.2 hnb hmb (((hrb.mono (hX1.trans' hX2)).mono hX3).mono hX4))) rfl rfl ?_
      rintro _ _ X5 ⟨rfl, hX5, rfl⟩
      refine SD.take rfl panicBody (op_addStr rfl rfl (by first | omega | (simp only [ByteArray.size_append]; omega))) rfl rfl ?_
      refine SD.take rfl panicBody (op_assign rfl) rfl rfl ?_
      refine SD.nil ?_
      show SL _ _ _ _ _ _ _ [] _ _ _
      refine SL.nil ?_
      -- ret
      refine T.ret1 rfl (ResIs.tmp rfl) ?_
      rw [textE, if_neg c1, if_neg c2, if_neg c3, if_neg c4, if_neg c5, if_neg c6, textL, textL, textL]
end Go.Proofs.YtaooojjhlngcmaaDoor
