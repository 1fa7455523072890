/- The error of an expression, the program's. -/
import Derived.Test.YtaooojjhlngcmaaDoorNames
import Derived.Test.YtaooojjhlngcmaaDoorName
namespace Go.Proofs.YtaooojjhlngcmaaDoor
section
set_option maxRecDepth 100000
theorem en20 : Enters Tryd.prog 20 := enters_mk Tryd.func20 (by kernel_rfl) rfl
theorem en38 : Enters Tryd.prog 38 := enters_mk Tryd.func38 (by kernel_rfl) rfl
theorem en42 : Enters Tryd.prog 42 := enters_mk Tryd.func42 (by kernel_rfl) rfl
theorem en65 : Enters Tryd.prog 65 := enters_mk Tryd.func65 (by kernel_rfl) rfl
theorem en66 : Enters Tryd.prog 66 := enters_mk Tryd.func66 (by kernel_rfl) rfl
theorem en67 : Enters Tryd.prog 67 := enters_mk Tryd.func67 (by kernel_rfl) rfl
theorem en68 : Enters Tryd.prog 68 := enters_mk Tryd.func68 (by kernel_rfl) rfl
theorem en91 : Enters Tryd.prog 91 := enters_mk Tryd.func91 (by kernel_rfl) rfl
theorem fa34_0 : FAdr Tryd.prog 34 0 0 := fadr_mk Tryd.underlying34 rfl rfl (by kernel_rfl)
theorem fa34_1 : FAdr Tryd.prog 34 1 1 := fadr_mk Tryd.underlying34 rfl rfl (by kernel_rfl)
theorem st34 : StT Tryd.prog 34 [(0, 1), (1, 1), (2, 1), (3, 1)] [.int .u8 0, .int .i64 0, .slice none 0 0, .slice none 0 0] := ⟨⟨_, Tryd.underlying34, fun _ => by kernel_rfl, z34⟩⟩
theorem ty3 : Ty Tryd.prog 3 false 1 := ⟨⟨_, Tryd.underlying3, rfl⟩, by kernel_rfl⟩
theorem ty31 : Ty Tryd.prog 31 false 1 := ⟨⟨_, Tryd.underlying31, rfl⟩, by kernel_rfl⟩
end
open Go.RowKit
section
variable {op k : Nat} {n : Int} {ns : List ByteArray}
theorem own1 (h : op < 1 ∨ 16 < op ∨ k ≠ argN op) : ownE op n ns k = 1 := by rw [ownE, if_pos h]
theorem own6 (h : ¬(op < 1 ∨ 16 < op ∨ k ≠ argN op)) (h2 : (n ≠ 0 ∧ op ≠ 1) ∨ ¬namN op ns.length) : ownE op n ns k = 6 := by rw [ownE, if_neg h, if_pos h2]
theorem own9 (h : ¬(op < 1 ∨ 16 < op ∨ k ≠ argN op)) (h2 : ¬((n ≠ 0 ∧ op ≠ 1) ∨ ¬namN op ns.length)) (h3 : ¬∀ s ∈ ns, validS s) : ownE op n ns k = 9 := by rw [ownE, if_neg h, if_neg h2, if_pos h3]
theorem own5 (h : ¬(op < 1 ∨ 16 < op ∨ k ≠ argN op)) (h2 : ¬((n ≠ 0 ∧ op ≠ 1) ∨ ¬namN op ns.length)) (h3 : ∀ s ∈ ns, validS s) (h4 : ¬ns.Nodup) : ownE op n ns k = 5 := by rw [ownE, if_neg h, if_neg h2, if_neg fun h => h h3, if_pos h4]
theorem own2 (h : ¬(op < 1 ∨ 16 < op ∨ k ≠ argN op)) (h2 : ¬((n ≠ 0 ∧ op ≠ 1) ∨ ¬namN op ns.length)) (h3 : ∀ s ∈ ns, validS s) (h4 : ns.Nodup) (h5 : n < 0 ∨ 999999 < n) : ownE op n ns k = 2 := by rw [ownE, if_neg h, if_neg h2, if_neg fun h => h h3, if_neg fun h => h h4, if_pos h5]
theorem own0' (h : ¬(op < 1 ∨ 16 < op ∨ k ≠ argN op)) (h2 : ¬((n ≠ 0 ∧ op ≠ 1) ∨ ¬namN op ns.length)) (h3 : ∀ s ∈ ns, validS s) (h4 : ns.Nodup) (h5 : ¬(n < 0 ∨ 999999 < n)) : ownE op n ns k = 0 := by rw [ownE, if_neg h, if_neg h2, if_neg fun h => h h3, if_neg fun h => h h4, if_neg h5]
theorem nodup_small (h : ns.length ≤ 1) : ns.Nodup := by
  match ns, h with
  | [], _ => exact List.nodup_nil
  | [a], _ => simp
theorem node_own {al : List Ex} (h : ownE op n ns al.length ≠ 0) : nodeE (.mk op n ns al) = ownE op n ns al.length := by rw [nodeE, if_pos h]
theorem node_args {al : List Ex} (h : ownE op n ns al.length = 0) : nodeE (.mk op n ns al) = nodeL al := by rw [nodeE, if_neg (by simp [h])]
end
theorem argN_spec {X : PMap} {op : Nat} : Spec Tryd.prog 65 [.int .u8 (op : Int)] X fun u _ => u = .int .i64 (argN op : Int) := by
  by_cases h1 : op < 7
  · refine Spec.enter Tryd.func65 rfl Tryd.ntmps65 rfl ?_
    intro w0 hw0
    refine T.seq ?_
    refine T.region ?_
    refine SL.y (op_assign (v := .int .i64 ((0 : Nat) : Int)) rfl) rfl rfl ?_
    refine SL.nil ?_
    refine T.seq ?_
    refine T.block ?_
    refine T.seq ?_
    refine T.region ?_
    refine SL.y (op_move rfl) rfl rfl ?_
    first | refine SL.y (op_lssT rfl rfl (by omega)) rfl rfl ?_ | refine SL.y (op_lssF rfl rfl (by omega)) rfl rfl ?_ | refine SL.y (op_lss rfl rfl) rfl rfl ?_
    refine SL.y (op_assign rfl) rfl rfl ?_
    refine SL.nil ?_
    refine T.condT rfl ?_
    refine T.seq ?_
    refine T.region ?_
    refine SL.y (op_assign (v := .int .i64 ((0 : Nat) : Int)) rfl) rfl rfl ?_
    refine SL.nil ?_
    -- ret
    refine T.ret1 rfl (ResIs.tmp rfl) ?_
    rw [argN, if_pos h1]
  · by_cases h2 : op = 7
    · refine Spec.enter Tryd.func65 rfl Tryd.ntmps65 rfl ?_
      intro w0 hw0
      refine T.seq ?_
      refine T.region ?_
      refine SL.y (op_assign (v := .int .i64 ((0 : Nat) : Int)) rfl) rfl rfl ?_
      refine SL.nil ?_
      refine T.seq ?_
      refine T.block ?_
      refine T.seq ?_
      refine T.region ?_
      refine SL.y (op_move rfl) rfl rfl ?_
      first | refine SL.y (op_lssT rfl rfl (by omega)) rfl rfl ?_ | refine SL.y (op_lssF rfl rfl (by omega)) rfl rfl ?_ | refine SL.y (op_lss rfl rfl) rfl rfl ?_
      refine SL.y (op_assign rfl) rfl rfl ?_
      refine SL.nil ?_
      refine T.condF rfl ?_
      refine T.seq ?_
      refine T.region ?_
      refine SL.y (op_move rfl) rfl rfl ?_
      first | refine SL.y (op_eqlT rfl rfl (by omega)) rfl rfl ?_ | refine SL.y (op_eqlF rfl rfl (by omega)) rfl rfl ?_ | refine SL.y (op_eql rfl rfl) rfl rfl ?_
      refine SL.y (op_assign rfl) rfl rfl ?_
      refine SL.nil ?_
      refine T.condT rfl ?_
      refine T.seq ?_
      refine T.region ?_
      refine SL.y (op_assign (v := .int .i64 ((1 : Nat) : Int)) rfl) rfl rfl ?_
      refine SL.nil ?_
      -- ret
      refine T.ret1 rfl (ResIs.tmp rfl) ?_
      rw [argN, if_neg h1, if_pos h2]
    · refine Spec.enter Tryd.func65 rfl Tryd.ntmps65 rfl ?_
      intro w0 hw0
      refine T.seq ?_
      refine T.region ?_
      refine SL.y (op_assign (v := .int .i64 ((0 : Nat) : Int)) rfl) rfl rfl ?_
      refine SL.nil ?_
      refine T.seq ?_
      refine T.block ?_
      refine T.seq ?_
      refine T.region ?_
      refine SL.y (op_move rfl) rfl rfl ?_
      first | refine SL.y (op_lssT rfl rfl (by omega)) rfl rfl ?_ | refine SL.y (op_lssF rfl rfl (by omega)) rfl rfl ?_ | refine SL.y (op_lss rfl rfl) rfl rfl ?_
      refine SL.y (op_assign rfl) rfl rfl ?_
      refine SL.nil ?_
      refine T.condF rfl ?_
      refine T.seq ?_
      refine T.region ?_
      refine SL.y (op_move rfl) rfl rfl ?_
      first | refine SL.y (op_eqlT rfl rfl (by omega)) rfl rfl ?_ | refine SL.y (op_eqlF rfl rfl (by omega)) rfl rfl ?_ | refine SL.y (op_eql rfl rfl) rfl rfl ?_
      refine SL.y (op_assign rfl) rfl rfl ?_
      refine SL.nil ?_
      refine T.condF rfl ?_
      refine T.skip ?_
      refine T.blk ?_
      refine T.seq ?_
      refine T.region ?_
      refine SL.y (op_assign (v := .int .i64 ((2 : Nat) : Int)) rfl) rfl rfl ?_
      refine SL.nil ?_
      -- ret
      refine T.ret1 rfl (ResIs.tmp rfl) ?_
      rw [argN, if_neg h1, if_neg h2]
theorem named_spec {X : PMap} {op : Nat} {n : Int} {A B : Option Addr} {k c l c' : Nat} (hk : k < 1000000000000) : Spec Tryd.prog 66 [.agg #[.int .u8 (op : Int), .int .i64 n, .slice A k c, .slice B l c']] X fun u _ => u = .bool (decide (namN op k)) := by
  by_cases h4 : op = 4
  · have e : namN op k ↔ k = 1 := by simp [namN, h4]
    by_cases hk1 : k = 1
    · refine Spec.enter Tryd.func66 rfl Tryd.ntmps66 rfl ?_
      intro w0 hw0
      refine T.seq ?_
      refine T.region ?_
      refine SL.x (op_box rfl) rfl rfl ?_
      rintro _ _ _ ⟨B1, rfl, rfl, rfl⟩
      refine SL.y (op_assign rfl) rfl rfl ?_
      refine SL.nil ?_
      refine T.seq ?_
      refine T.region ?_
      refine SL.y (op_fieldAddr fa34_2 rfl) rfl rfl ?_
      first | refine SL.y (op_load ty24 rfl (by repeat (first | exact AtO.here | apply AtO.there)) rfl) rfl rfl ?_ | refine SL.y (op_loadX ty24 rfl (by assumption) rfl) rfl rfl ?_
      refine SL.y (op_lenS Tryd.underlying24 rfl) rfl rfl ?_
      refine SL.y (op_assign rfl) rfl rfl ?_
      refine SL.nil ?_
      refine T.seq ?_
      refine T.seq ?_
      refine T.region ?_
      refine SL.y (op_fieldAddr fa34_0 rfl) rfl rfl ?_
      first | refine SL.y (op_load ty31 rfl (by repeat (first | exact AtO.here | apply AtO.there)) rfl) rfl rfl ?_ | refine SL.y (op_loadX ty31 rfl (by assumption) rfl) rfl rfl ?_
      refine SL.nil ?_
      refine T.block ?_
      refine T.seq ?_
      refine T.seq ?_
      refine T.region ?_
      first | refine SL.y (op_eqlT rfl rfl (by omega)) rfl rfl ?_ | refine SL.y (op_eqlF rfl rfl (by omega)) rfl rfl ?_ | refine SL.y (op_eql rfl rfl) rfl rfl ?_
      refine SL.y (op_assign rfl) rfl rfl ?_
      refine SL.nil ?_
      refine T.condT rfl ?_
      refine T.skip ?_
      refine T.condT rfl ?_
      refine T.seq ?_
      refine T.region ?_
      refine SL.y (op_move rfl) rfl rfl ?_
      first | refine SL.y (op_eqlT rfl rfl (by omega)) rfl rfl ?_ | refine SL.y (op_eqlF rfl rfl (by omega)) rfl rfl ?_ | refine SL.y (op_eql rfl rfl) rfl rfl ?_
      refine SL.y (op_assign rfl) rfl rfl ?_
      refine SL.nil ?_
      -- ret
      refine T.ret1 rfl (ResIs.tmp rfl) ?_
      rw [decide_eq_true (e.2 hk1)]
    · refine Spec.enter Tryd.func66 rfl Tryd.ntmps66 rfl ?_
      intro w0 hw0
      refine T.seq ?_
      refine T.region ?_
      refine SL.x (op_box rfl) rfl rfl ?_
      rintro _ _ _ ⟨B1, rfl, rfl, rfl⟩
      refine SL.y (op_assign rfl) rfl rfl ?_
      refine SL.nil ?_
      refine T.seq ?_
      refine T.region ?_
      refine SL.y (op_fieldAddr fa34_2 rfl) rfl rfl ?_
      first | refine SL.y (op_load ty24 rfl (by repeat (first | exact AtO.here | apply AtO.there)) rfl) rfl rfl ?_ | refine SL.y (op_loadX ty24 rfl (by assumption) rfl) rfl rfl ?_
      refine SL.y (op_lenS Tryd.underlying24 rfl) rfl rfl ?_
      refine SL.y (op_assign rfl) rfl rfl ?_
      refine SL.nil ?_
      refine T.seq ?_
      refine T.seq ?_
      refine T.region ?_
      refine SL.y (op_fieldAddr fa34_0 rfl) rfl rfl ?_
      first | refine SL.y (op_load ty31 rfl (by repeat (first | exact AtO.here | apply AtO.there)) rfl) rfl rfl ?_ | refine SL.y (op_loadX ty31 rfl (by assumption) rfl) rfl rfl ?_
      refine SL.nil ?_
      refine T.block ?_
      refine T.seq ?_
      refine T.seq ?_
      refine T.region ?_
      first | refine SL.y (op_eqlT rfl rfl (by omega)) rfl rfl ?_ | refine SL.y (op_eqlF rfl rfl (by omega)) rfl rfl ?_ | refine SL.y (op_eql rfl rfl) rfl rfl ?_
      refine SL.y (op_assign rfl) rfl rfl ?_
      refine SL.nil ?_
      refine T.condT rfl ?_
      refine T.skip ?_
      refine T.condT rfl ?_
      refine T.seq ?_
      refine T.region ?_
      refine SL.y (op_move rfl) rfl rfl ?_
      first | refine SL.y (op_eqlT rfl rfl (by omega)) rfl rfl ?_ | refine SL.y (op_eqlF rfl rfl (by omega)) rfl rfl ?_ | refine SL.y (op_eql rfl rfl) rfl rfl ?_
      refine SL.y (op_assign rfl) rfl rfl ?_
      refine SL.nil ?_
      -- ret
      refine T.ret1 rfl (ResIs.tmp rfl) ?_
      rw [decide_eq_false fun h => hk1 (e.1 h)]
  · by_cases h6 : op = 6
    · have e : namN op k ↔ k = 1 := by simp [namN, h6]
      by_cases hk1 : k = 1
      · refine Spec.enter Tryd.func66 rfl Tryd.ntmps66 rfl ?_
        intro w0 hw0
        refine T.seq ?_
        refine T.region ?_
        refine SL.x (op_box rfl) rfl rfl ?_
        rintro _ _ _ ⟨B1, rfl, rfl, rfl⟩
        refine SL.y (op_assign rfl) rfl rfl ?_
        refine SL.nil ?_
        refine T.seq ?_
        refine T.region ?_
        refine SL.y (op_fieldAddr fa34_2 rfl) rfl rfl ?_
        first | refine SL.y (op_load ty24 rfl (by repeat (first | exact AtO.here | apply AtO.there)) rfl) rfl rfl ?_ | refine SL.y (op_loadX ty24 rfl (by assumption) rfl) rfl rfl ?_
        refine SL.y (op_lenS Tryd.underlying24 rfl) rfl rfl ?_
        refine SL.y (op_assign rfl) rfl rfl ?_
        refine SL.nil ?_
        refine T.seq ?_
        refine T.seq ?_
        refine T.region ?_
        refine SL.y (op_fieldAddr fa34_0 rfl) rfl rfl ?_
        first | refine SL.y (op_load ty31 rfl (by repeat (first | exact AtO.here | apply AtO.there)) rfl) rfl rfl ?_ | refine SL.y (op_loadX ty31 rfl (by assumption) rfl) rfl rfl ?_
        refine SL.nil ?_
        refine T.block ?_
        refine T.seq ?_
        refine T.seq ?_
        refine T.region ?_
        first | refine SL.y (op_eqlT rfl rfl (by omega)) rfl rfl ?_ | refine SL.y (op_eqlF rfl rfl (by omega)) rfl rfl ?_ | refine SL.y (op_eql rfl rfl) rfl rfl ?_
        refine SL.y (op_assign rfl) rfl rfl ?_
        refine SL.nil ?_
        refine T.condF rfl ?_
        refine T.region ?_
        first | refine SL.y (op_eqlT rfl rfl (by omega)) rfl rfl ?_ | refine SL.y (op_eqlF rfl rfl (by omega)) rfl rfl ?_ | refine SL.y (op_eql rfl rfl) rfl rfl ?_
        refine SL.y (op_assign rfl) rfl rfl ?_
        refine SL.nil ?_
        refine T.condT rfl ?_
        refine T.seq ?_
        refine T.region ?_
        refine SL.y (op_move rfl) rfl rfl ?_
        first | refine SL.y (op_eqlT rfl rfl (by omega)) rfl rfl ?_ | refine SL.y (op_eqlF rfl rfl (by omega)) rfl rfl ?_ | refine SL.y (op_eql rfl rfl) rfl rfl ?_
        refine SL.y (op_assign rfl) rfl rfl ?_
        refine SL.nil ?_
        -- ret
        refine T.ret1 rfl (ResIs.tmp rfl) ?_
        rw [decide_eq_true (e.2 hk1)]
      · refine Spec.enter Tryd.func66 rfl Tryd.ntmps66 rfl ?_
        intro w0 hw0
        refine T.seq ?_
        refine T.region ?_
        refine SL.x (op_box rfl) rfl rfl ?_
        rintro _ _ _ ⟨B1, rfl, rfl, rfl⟩
        refine SL.y (op_assign rfl) rfl rfl ?_
        refine SL.nil ?_
        refine T.seq ?_
        refine T.region ?_
        refine SL.y (op_fieldAddr fa34_2 rfl) rfl rfl ?_
        first | refine SL.y (op_load ty24 rfl (by repeat (first | exact AtO.here | apply AtO.there)) rfl) rfl rfl ?_ | refine SL.y (op_loadX ty24 rfl (by assumption) rfl) rfl rfl ?_
        refine SL.y (op_lenS Tryd.underlying24 rfl) rfl rfl ?_
        refine SL.y (op_assign rfl) rfl rfl ?_
        refine SL.nil ?_
        refine T.seq ?_
        refine T.seq ?_
        refine T.region ?_
        refine SL.y (op_fieldAddr fa34_0 rfl) rfl rfl ?_
        first | refine SL.y (op_load ty31 rfl (by repeat (first | exact AtO.here | apply AtO.there)) rfl) rfl rfl ?_ | refine SL.y (op_loadX ty31 rfl (by assumption) rfl) rfl rfl ?_
        refine SL.nil ?_
        refine T.block ?_
        refine T.seq ?_
        refine T.seq ?_
        refine T.region ?_
        first | refine SL.y (op_eqlT rfl rfl (by omega)) rfl rfl ?_ | refine SL.y (op_eqlF rfl rfl (by omega)) rfl rfl ?_ | refine SL.y (op_eql rfl rfl) rfl rfl ?_
        refine SL.y (op_assign rfl) rfl rfl ?_
        refine SL.nil ?_
        refine T.condF rfl ?_
        refine T.region ?_
        first | refine SL.y (op_eqlT rfl rfl (by omega)) rfl rfl ?_ | refine SL.y (op_eqlF rfl rfl (by omega)) rfl rfl ?_ | refine SL.y (op_eql rfl rfl) rfl rfl ?_
        refine SL.y (op_assign rfl) rfl rfl ?_
        refine SL.nil ?_
        refine T.condT rfl ?_
        refine T.seq ?_
        refine T.region ?_
        refine SL.y (op_move rfl) rfl rfl ?_
        first | refine SL.y (op_eqlT rfl rfl (by omega)) rfl rfl ?_ | refine SL.y (op_eqlF rfl rfl (by omega)) rfl rfl ?_ | refine SL.y (op_eql rfl rfl) rfl rfl ?_
        refine SL.y (op_assign rfl) rfl rfl ?_
        refine SL.nil ?_
        -- ret
        refine T.ret1 rfl (ResIs.tmp rfl) ?_
        rw [decide_eq_false fun h => hk1 (e.1 h)]
    · by_cases h5 : op = 5
      · have e : namN op k ↔ 1 ≤ k ∧ k ≤ 8 := by simp [namN, h5]
        by_cases hk1 : 1 ≤ k
        · by_cases hk8 : k ≤ 8
          · refine Spec.enter Tryd.func66 rfl Tryd.ntmps66 rfl ?_
            intro w0 hw0
            refine T.seq ?_
            refine T.region ?_
            refine SL.x (op_box rfl) rfl rfl ?_
            rintro _ _ _ ⟨B1, rfl, rfl, rfl⟩
            refine SL.y (op_assign rfl) rfl rfl ?_
            refine SL.nil ?_
            refine T.seq ?_
            refine T.region ?_
            refine SL.y (op_fieldAddr fa34_2 rfl) rfl rfl ?_
            first | refine SL.y (op_load ty24 rfl (by repeat (first | exact AtO.here | apply AtO.there)) rfl) rfl rfl ?_ | refine SL.y (op_loadX ty24 rfl (by assumption) rfl) rfl rfl ?_
            refine SL.y (op_lenS Tryd.underlying24 rfl) rfl rfl ?_
            refine SL.y (op_assign rfl) rfl rfl ?_
            refine SL.nil ?_
            refine T.seq ?_
            refine T.seq ?_
            refine T.region ?_
            refine SL.y (op_fieldAddr fa34_0 rfl) rfl rfl ?_
            first | refine SL.y (op_load ty31 rfl (by repeat (first | exact AtO.here | apply AtO.there)) rfl) rfl rfl ?_ | refine SL.y (op_loadX ty31 rfl (by assumption) rfl) rfl rfl ?_
            refine SL.nil ?_
            refine T.block ?_
            refine T.seq ?_
            refine T.seq ?_
            refine T.region ?_
            first | refine SL.y (op_eqlT rfl rfl (by omega)) rfl rfl ?_ | refine SL.y (op_eqlF rfl rfl (by omega)) rfl rfl ?_ | refine SL.y (op_eql rfl rfl) rfl rfl ?_
            refine SL.y (op_assign rfl) rfl rfl ?_
            refine SL.nil ?_
            refine T.condF rfl ?_
            refine T.region ?_
            first | refine SL.y (op_eqlT rfl rfl (by omega)) rfl rfl ?_ | refine SL.y (op_eqlF rfl rfl (by omega)) rfl rfl ?_ | refine SL.y (op_eql rfl rfl) rfl rfl ?_
            refine SL.y (op_assign rfl) rfl rfl ?_
            refine SL.nil ?_
            refine T.condF rfl ?_
            refine T.seq ?_
            refine T.region ?_
            first | refine SL.y (op_eqlT rfl rfl (by omega)) rfl rfl ?_ | refine SL.y (op_eqlF rfl rfl (by omega)) rfl rfl ?_ | refine SL.y (op_eql rfl rfl) rfl rfl ?_
            refine SL.y (op_assign rfl) rfl rfl ?_
            refine SL.nil ?_
            refine T.condT rfl ?_
            refine T.seq ?_
            refine T.region ?_
            refine SL.y (op_move rfl) rfl rfl ?_
            first | refine SL.y (op_geqT rfl rfl (by omega)) rfl rfl ?_ | refine SL.y (op_geqF rfl rfl (by omega)) rfl rfl ?_ | refine SL.y (op_geq rfl rfl) rfl rfl ?_
            refine SL.y (op_move rfl) rfl rfl ?_
            first | refine SL.skip rfl rfl ?_ | refine SL.y (op_move rfl) rfl rfl ?_
            first | refine SL.skip rfl rfl ?_ | refine SL.y (op_leqT rfl rfl (by omega)) rfl rfl ?_ | refine SL.y (op_leqF rfl rfl (by omega)) rfl rfl ?_ | refine SL.y (op_leq rfl rfl) rfl rfl ?_
            first | refine SL.y (op_pickT rfl rfl) rfl rfl ?_ | refine SL.y (op_pickF rfl rfl) rfl rfl ?_ | refine SL.y (op_pickB rfl rfl rfl) rfl rfl ?_
            refine SL.y (op_assign rfl) rfl rfl ?_
            refine SL.nil ?_
            -- ret
            refine T.ret1 rfl (ResIs.tmp rfl) ?_
            rw [decide_eq_true (e.2 ⟨hk1, hk8⟩)]
          · refine Spec.enter Tryd.func66 rfl Tryd.ntmps66 rfl ?_
            intro w0 hw0
            refine T.seq ?_
            refine T.region ?_
            refine SL.x (op_box rfl) rfl rfl ?_
            rintro _ _ _ ⟨B1, rfl, rfl, rfl⟩
            refine SL.y (op_assign rfl) rfl rfl ?_
            refine SL.nil ?_
            refine T.seq ?_
            refine T.region ?_
            refine SL.y (op_fieldAddr fa34_2 rfl) rfl rfl ?_
            first | refine SL.y (op_load ty24 rfl (by repeat (first | exact AtO.here | apply AtO.there)) rfl) rfl rfl ?_ | refine SL.y (op_loadX ty24 rfl (by assumption) rfl) rfl rfl ?_
            refine SL.y (op_lenS Tryd.underlying24 rfl) rfl rfl ?_
            refine SL.y (op_assign rfl) rfl rfl ?_
            refine SL.nil ?_
            refine T.seq ?_
            refine T.seq ?_
            refine T.region ?_
            refine SL.y (op_fieldAddr fa34_0 rfl) rfl rfl ?_
            first | refine SL.y (op_load ty31 rfl (by repeat (first | exact AtO.here | apply AtO.there)) rfl) rfl rfl ?_ | refine SL.y (op_loadX ty31 rfl (by assumption) rfl) rfl rfl ?_
            refine SL.nil ?_
            refine T.block ?_
            refine T.seq ?_
            refine T.seq ?_
            refine T.region ?_
            first | refine SL.y (op_eqlT rfl rfl (by omega)) rfl rfl ?_ | refine SL.y (op_eqlF rfl rfl (by omega)) rfl rfl ?_ | refine SL.y (op_eql rfl rfl) rfl rfl ?_
            refine SL.y (op_assign rfl) rfl rfl ?_
            refine SL.nil ?_
            refine T.condF rfl ?_
            refine T.region ?_
            first | refine SL.y (op_eqlT rfl rfl (by omega)) rfl rfl ?_ | refine SL.y (op_eqlF rfl rfl (by omega)) rfl rfl ?_ | refine SL.y (op_eql rfl rfl) rfl rfl ?_
            refine SL.y (op_assign rfl) rfl rfl ?_
            refine SL.nil ?_
            refine T.condF rfl ?_
            refine T.seq ?_
            refine T.region ?_
            first | refine SL.y (op_eqlT rfl rfl (by omega)) rfl rfl ?_ | refine SL.y (op_eqlF rfl rfl (by omega)) rfl rfl ?_ | refine SL.y (op_eql rfl rfl) rfl rfl ?_
            refine SL.y (op_assign rfl) rfl rfl ?_
            refine SL.nil ?_
            refine T.condT rfl ?_
            refine T.seq ?_
            refine T.region ?_
            refine SL.y (op_move rfl) rfl rfl ?_
            first | refine SL.y (op_geqT rfl rfl (by omega)) rfl rfl ?_ | refine SL.y (op_geqF rfl rfl (by omega)) rfl rfl ?_ | refine SL.y (op_geq rfl rfl) rfl rfl ?_
            refine SL.y (op_move rfl) rfl rfl ?_
            first | refine SL.skip rfl rfl ?_ | refine SL.y (op_move rfl) rfl rfl ?_
            first | refine SL.skip rfl rfl ?_ | refine SL.y (op_leqT rfl rfl (by omega)) rfl rfl ?_ | refine SL.y (op_leqF rfl rfl (by omega)) rfl rfl ?_ | refine SL.y (op_leq rfl rfl) rfl rfl ?_
            first | refine SL.y (op_pickT rfl rfl) rfl rfl ?_ | refine SL.y (op_pickF rfl rfl) rfl rfl ?_ | refine SL.y (op_pickB rfl rfl rfl) rfl rfl ?_
            refine SL.y (op_assign rfl) rfl rfl ?_
            refine SL.nil ?_
            -- ret
            refine T.ret1 rfl (ResIs.tmp rfl) ?_
            rw [decide_eq_false fun h => hk8 (e.1 h).2]
        · refine Spec.enter Tryd.func66 rfl Tryd.ntmps66 rfl ?_
          intro w0 hw0
          refine T.seq ?_
          refine T.region ?_
          refine SL.x (op_box rfl) rfl rfl ?_
          rintro _ _ _ ⟨B1, rfl, rfl, rfl⟩
          refine SL.y (op_assign rfl) rfl rfl ?_
          refine SL.nil ?_
          refine T.seq ?_
          refine T.region ?_
          refine SL.y (op_fieldAddr fa34_2 rfl) rfl rfl ?_
          first | refine SL.y (op_load ty24 rfl (by repeat (first | exact AtO.here | apply AtO.there)) rfl) rfl rfl ?_ | refine SL.y (op_loadX ty24 rfl (by assumption) rfl) rfl rfl ?_
          refine SL.y (op_lenS Tryd.underlying24 rfl) rfl rfl ?_
          refine SL.y (op_assign rfl) rfl rfl ?_
          refine SL.nil ?_
          refine T.seq ?_
          refine T.seq ?_
          refine T.region ?_
          refine SL.y (op_fieldAddr fa34_0 rfl) rfl rfl ?_
          first | refine SL.y (op_load ty31 rfl (by repeat (first | exact AtO.here | apply AtO.there)) rfl) rfl rfl ?_ | refine SL.y (op_loadX ty31 rfl (by assumption) rfl) rfl rfl ?_
          refine SL.nil ?_
          refine T.block ?_
          refine T.seq ?_
          refine T.seq ?_
          refine T.region ?_
          first | refine SL.y (op_eqlT rfl rfl (by omega)) rfl rfl ?_ | refine SL.y (op_eqlF rfl rfl (by omega)) rfl rfl ?_ | refine SL.y (op_eql rfl rfl) rfl rfl ?_
          refine SL.y (op_assign rfl) rfl rfl ?_
          refine SL.nil ?_
          refine T.condF rfl ?_
          refine T.region ?_
          first | refine SL.y (op_eqlT rfl rfl (by omega)) rfl rfl ?_ | refine SL.y (op_eqlF rfl rfl (by omega)) rfl rfl ?_ | refine SL.y (op_eql rfl rfl) rfl rfl ?_
          refine SL.y (op_assign rfl) rfl rfl ?_
          refine SL.nil ?_
          refine T.condF rfl ?_
          refine T.seq ?_
          refine T.region ?_
          first | refine SL.y (op_eqlT rfl rfl (by omega)) rfl rfl ?_ | refine SL.y (op_eqlF rfl rfl (by omega)) rfl rfl ?_ | refine SL.y (op_eql rfl rfl) rfl rfl ?_
          refine SL.y (op_assign rfl) rfl rfl ?_
          refine SL.nil ?_
          refine T.condT rfl ?_
          refine T.seq ?_
          refine T.region ?_
          refine SL.y (op_move rfl) rfl rfl ?_
          first | refine SL.y (op_geqT rfl rfl (by omega)) rfl rfl ?_ | refine SL.y (op_geqF rfl rfl (by omega)) rfl rfl ?_ | refine SL.y (op_geq rfl rfl) rfl rfl ?_
          refine SL.y (op_move rfl) rfl rfl ?_
          first | refine SL.skip rfl rfl ?_ | refine SL.y (op_move rfl) rfl rfl ?_
          first | refine SL.skip rfl rfl ?_ | refine SL.y (op_leqT rfl rfl (by omega)) rfl rfl ?_ | refine SL.y (op_leqF rfl rfl (by omega)) rfl rfl ?_ | refine SL.y (op_leq rfl rfl) rfl rfl ?_
          first | refine SL.y (op_pickT rfl rfl) rfl rfl ?_ | refine SL.y (op_pickF rfl rfl) rfl rfl ?_ | refine SL.y (op_pickB rfl rfl rfl) rfl rfl ?_
          refine SL.y (op_assign rfl) rfl rfl ?_
          refine SL.nil ?_
          -- ret
          refine T.ret1 rfl (ResIs.tmp rfl) ?_
          rw [decide_eq_false fun h => hk1 (e.1 h).1]
      · have e : namN op k ↔ k = 0 := by simp [namN, h4, h5, h6]
        by_cases hk0 : k = 0
        · refine Spec.enter Tryd.func66 rfl Tryd.ntmps66 rfl ?_
          intro w0 hw0
          refine T.seq ?_
          refine T.region ?_
          refine SL.x (op_box rfl) rfl rfl ?_
          rintro _ _ _ ⟨B1, rfl, rfl, rfl⟩
          refine SL.y (op_assign rfl) rfl rfl ?_
          refine SL.nil ?_
          refine T.seq ?_
          refine T.region ?_
          refine SL.y (op_fieldAddr fa34_2 rfl) rfl rfl ?_
          first | refine SL.y (op_load ty24 rfl (by repeat (first | exact AtO.here | apply AtO.there)) rfl) rfl rfl ?_ | refine SL.y (op_loadX ty24 rfl (by assumption) rfl) rfl rfl ?_
          refine SL.y (op_lenS Tryd.underlying24 rfl) rfl rfl ?_
          refine SL.y (op_assign rfl) rfl rfl ?_
          refine SL.nil ?_
          refine T.seq ?_
          refine T.seq ?_
          refine T.region ?_
          refine SL.y (op_fieldAddr fa34_0 rfl) rfl rfl ?_
          first | refine SL.y (op_load ty31 rfl (by repeat (first | exact AtO.here | apply AtO.there)) rfl) rfl rfl ?_ | refine SL.y (op_loadX ty31 rfl (by assumption) rfl) rfl rfl ?_
          refine SL.nil ?_
          refine T.block ?_
          refine T.seq ?_
          refine T.seq ?_
          refine T.region ?_
          first | refine SL.y (op_eqlT rfl rfl (by omega)) rfl rfl ?_ | refine SL.y (op_eqlF rfl rfl (by omega)) rfl rfl ?_ | refine SL.y (op_eql rfl rfl) rfl rfl ?_
          refine SL.y (op_assign rfl) rfl rfl ?_
          refine SL.nil ?_
          refine T.condF rfl ?_
          refine T.region ?_
          first | refine SL.y (op_eqlT rfl rfl (by omega)) rfl rfl ?_ | refine SL.y (op_eqlF rfl rfl (by omega)) rfl rfl ?_ | refine SL.y (op_eql rfl rfl) rfl rfl ?_
          refine SL.y (op_assign rfl) rfl rfl ?_
          refine SL.nil ?_
          refine T.condF rfl ?_
          refine T.seq ?_
          refine T.region ?_
          first | refine SL.y (op_eqlT rfl rfl (by omega)) rfl rfl ?_ | refine SL.y (op_eqlF rfl rfl (by omega)) rfl rfl ?_ | refine SL.y (op_eql rfl rfl) rfl rfl ?_
          refine SL.y (op_assign rfl) rfl rfl ?_
          refine SL.nil ?_
          refine T.condF rfl ?_
          refine T.skip ?_
          refine T.blk ?_
          refine T.seq ?_
          refine T.region ?_
          refine SL.y (op_move rfl) rfl rfl ?_
          first | refine SL.y (op_eqlT rfl rfl (by omega)) rfl rfl ?_ | refine SL.y (op_eqlF rfl rfl (by omega)) rfl rfl ?_ | refine SL.y (op_eql rfl rfl) rfl rfl ?_
          refine SL.y (op_assign rfl) rfl rfl ?_
          refine SL.nil ?_
          -- ret
          refine T.ret1 rfl (ResIs.tmp rfl) ?_
          rw [decide_eq_true (e.2 hk0)]
        · refine Spec.enter Tryd.func66 rfl Tryd.ntmps66 rfl ?_
          intro w0 hw0
          refine T.seq ?_
          refine T.region ?_
          refine SL.x (op_box rfl) rfl rfl ?_
          rintro _ _ _ ⟨B1, rfl, rfl, rfl⟩
          refine SL.y (op_assign rfl) rfl rfl ?_
          refine SL.nil ?_
          refine T.seq ?_
          refine T.region ?_
          refine SL.y (op_fieldAddr fa34_2 rfl) rfl rfl ?_
          first | refine SL.y (op_load ty24 rfl (by repeat (first | exact AtO.here | apply AtO.there)) rfl) rfl rfl ?_ | refine SL.y (op_loadX ty24 rfl (by assumption) rfl) rfl rfl ?_
          refine SL.y (op_lenS Tryd.underlying24 rfl) rfl rfl ?_
          refine SL.y (op_assign rfl) rfl rfl ?_
          refine SL.nil ?_
          refine T.seq ?_
          refine T.seq ?_
          refine T.region ?_
          refine SL.y (op_fieldAddr fa34_0 rfl) rfl rfl ?_
          first | refine SL.y (op_load ty31 rfl (by repeat (first | exact AtO.here | apply AtO.there)) rfl) rfl rfl ?_ | refine SL.y (op_loadX ty31 rfl (by assumption) rfl) rfl rfl ?_
          refine SL.nil ?_
          refine T.block ?_
          refine T.seq ?_
          refine T.seq ?_
          refine T.region ?_
          first | refine SL.y (op_eqlT rfl rfl (by omega)) rfl rfl ?_ | refine SL.y (op_eqlF rfl rfl (by omega)) rfl rfl ?_ | refine SL.y (op_eql rfl rfl) rfl rfl ?_
          refine SL.y (op_assign rfl) rfl rfl ?_
          refine SL.nil ?_
          refine T.condF rfl ?_
          refine T.region ?_
          first | refine SL.y (op_eqlT rfl rfl (by omega)) rfl rfl ?_ | refine SL.y (op_eqlF rfl rfl (by omega)) rfl rfl ?_ | refine SL.y (op_eql rfl rfl) rfl rfl ?_
          refine SL.y (op_assign rfl) rfl rfl ?_
          refine SL.nil ?_
          refine T.condF rfl ?_
          refine T.seq ?_
          refine T.region ?_
          first | refine SL.y (op_eqlT rfl rfl (by omega)) rfl rfl ?_ | refine SL.y (op_eqlF rfl rfl (by omega)) rfl rfl ?_ | refine SL.y (op_eql rfl rfl) rfl rfl ?_
          refine SL.y (op_assign rfl) rfl rfl ?_
          refine SL.nil ?_
          refine T.condF rfl ?_
          refine T.skip ?_
          refine T.blk ?_
          refine T.seq ?_
          refine T.region ?_
          refine SL.y (op_move rfl) rfl rfl ?_
          first | refine SL.y (op_eqlT rfl rfl (by omega)) rfl rfl ?_ | refine SL.y (op_eqlF rfl rfl (by omega)) rfl rfl ?_ | refine SL.y (op_eql rfl rfl) rfl rfl ?_
          refine SL.y (op_assign rfl) rfl rfl ?_
          refine SL.nil ?_
          -- ret
          refine T.ret1 rfl (ResIs.tmp rfl) ?_
          rw [decide_eq_false fun h => hk0 (e.1 h)]
theorem inval_spec {X : PMap} {s : ByteArray} : Spec Tryd.prog 68 [.string s] X fun u _ => u = .bool (decide (¬validS s)) := by
  refine Spec.enter Tryd.func68 rfl Tryd.ntmps68 rfl ?_
  intro w0 hw0
  refine T.seq ?_
  refine T.region ?_
  refine SL.y (op_assign rfl) rfl rfl ?_
  refine SL.nil ?_
  refine T.seq ?_
  refine T.region ?_
  refine SL.y (op_move rfl) rfl rfl ?_
  -- op
  refine SL.x (op_callF en42 (vs := [_]) rfl (nvalid_spec)) rfl rfl ?_
  rintro _ _ X1 ⟨rfl, hX1, rfl⟩
  refine SL.y (op_not rfl) rfl rfl ?_
  refine SL.y (op_assign rfl) rfl rfl ?_
  refine SL.nil ?_
  -- ret
  refine T.ret1 rfl (ResIs.tmp rfl) ?_
  rw [decide_not]
theorem idxf_spec {X : PMap} {v : Value} {l : List ByteArray} (h : RowR strC X v l) (hl : l.length < 1000000000000) : Spec Tryd.prog 91 [v, .func (.func 68) #[] #[]] X fun u _ => ∃ k : Int, u = .int .i64 k ∧ (0 ≤ k ↔ ¬∀ s ∈ l, validS s) := by
  obtain ⟨A, cp, rfl⟩ := h.form
  refine Spec.enter Tryd.func91 rfl Tryd.ntmps91 rfl ?_
  intro w0 hw0
  refine T.seq ?_
  refine T.region ?_
  refine SL.y (op_assign (v := .int .i64 ((0 : Nat) : Int)) rfl) rfl rfl ?_
  refine SL.nil ?_
  refine T.seq ?_
  refine T.seq ?_
  refine T.region ?_
  refine SL.y (op_move rfl) rfl rfl ?_
  refine SL.y (op_lenS Tryd.underlying24 rfl) rfl rfl ?_
  refine SL.y (op_move (v := .int .i64 ((0 : Nat) : Int)) rfl) rfl rfl ?_
  refine SL.nil ?_
  refine T.block ?_
  -- loop live [0, 1, 4, 7, 8]
  refine T.loopW (fun m env own X' => ∃ i : Nat, m = l.length - i ∧ i ≤ l.length ∧ X.le X' ∧ (∀ q x, q < i → l[q]? = some x → validS x) ∧ env = [(0, .slice A l.length cp), (1, .func (.func 68) #[] #[]), (7, .int .i64 (l.length : Int)), (8, .int .i64 (i : Int))] ∧ own = []) l.length ⟨0, by simp, by omega, PMap.le_refl _, fun q x hq => absurd hq (by omega), rfl, rfl⟩ (by repeat (first | exact Sub.nil | refine Sub.cons rfl ?_)) ?_
  rintro m _ _ X1 ⟨i, rfl, hi, hX1, hne, rfl, rfl⟩
  rcases Nat.lt_or_ge i l.length with hil | hil
  · obtain ⟨x, hx⟩ : ∃ x, l[i]? = some x := ⟨_, List.getElem?_eq_getElem hil⟩
    obtain ⟨b, pre, rfl, hB⟩ := h.blk (by omega)
    refine T.seq ?_
    refine T.region ?_
    first | refine SL.y (op_lssT rfl rfl (by omega)) rfl rfl ?_ | refine SL.y (op_lssF rfl rfl (by omega)) rfl rfl ?_ | refine SL.y (op_lss rfl rfl) rfl rfl ?_
    refine SL.nil ?_
    refine T.seq ?_
    refine T.condT rfl ?_
    refine T.skip ?_
    refine T.seq ?_
    refine T.block ?_
    refine T.seq ?_
    refine T.region ?_
    refine SL.y (op_move rfl) rfl rfl ?_
    refine SL.y (op_assign rfl) rfl rfl ?_
    refine SL.nil ?_
    refine T.seq ?_
    refine T.region ?_
    refine SL.y (op_move rfl) rfl rfl ?_
    refine SL.y (op_move rfl) rfl rfl ?_
    refine SL.y (op_move rfl) rfl rfl ?_
    first | refine SL.y (op_indexN Tryd.underlying24 ty9 rfl rfl (by omega)) rfl rfl ?_ | refine SL.y (op_index Tryd.underlying24 ty9 rfl rfl (by omega) (by omega)) rfl rfl ?_
    -- to 15: op
    refine SL.y (op_loadX ty9 rfl (hB.mono hX1) (str_read hx (by omega))) rfl rfl ?_
    -- op
    refine SL.x (op_call en68 rfl (vs := [_]) rfl inval_spec) rfl rfl ?_
    rintro _ _ X2 ⟨rfl, hX2, rfl⟩
    by_cases hc : ¬validS x
    · rw [decide_eq_true hc]
      refine SL.nil ?_
      refine T.condT rfl ?_
      refine T.seq ?_
      refine T.region ?_
      refine SL.y (op_move rfl) rfl rfl ?_
      refine SL.y (op_assign rfl) rfl rfl ?_
      refine SL.nil ?_
      -- ret
      refine T.ret1 rfl (ResIs.tmp rfl) ?_
      exact ⟨_, rfl, fun _ hall => hc (hall x (List.mem_of_getElem? hx)), fun _ => by omega⟩
    · rw [decide_eq_false hc]
      refine SL.nil ?_
      refine T.condF rfl ?_
      refine T.skip ?_
      refine T.blk ?_
      refine T.region ?_
      first | refine SL.y (op_addN (q := 1) rfl rfl (by omega)) rfl rfl ?_ | refine SL.y (op_add rfl rfl (by omega) (by omega)) rfl rfl ?_ | refine SL.y (op_addW rfl rfl) rfl rfl ?_
      refine SL.y (op_move rfl) rfl rfl ?_
      refine SL.nil ?_
      -- cut
      have hne2 : ∀ (q : Nat) (y : ByteArray), q < i + 1 → l[q]? = some y → validS y := fun q y hq hy => by
        rcases Nat.lt_or_ge q i with h1 | h1
        · exact hne q y h1 hy
        · obtain rfl : q = i := by omega
          rw [hx] at hy; cases hy; exact Classical.not_not.1 hc
      exact T.backW (l.length - (i + 1)) (by omega) ⟨i + 1, rfl, by omega, hX1.trans' hX2, hne2, rfl, rfl⟩ (by repeat (first | exact Sub.nil | refine Sub.cons rfl ?_))
  · refine T.seq ?_
    refine T.region ?_
    first | refine SL.y (op_lssT rfl rfl (by omega)) rfl rfl ?_ | refine SL.y (op_lssF rfl rfl (by omega)) rfl rfl ?_ | refine SL.y (op_lss rfl rfl) rfl rfl ?_
    refine SL.nil ?_
    refine T.seq ?_
    refine T.condF rfl ?_
    refine T.exit (T.exitCode (T.exitCut (T.exitBlk ?_)))
    refine T.seq ?_
    refine T.region ?_
    refine SL.y (op_assign rfl) rfl rfl ?_
    refine SL.nil ?_
    -- ret
    refine T.ret1 rfl (ResIs.tmp rfl) ?_
    refine ⟨_, rfl, fun h => absurd h (by omega), fun hm => ?_⟩
    refine absurd (fun s hs => ?_) hm
    obtain ⟨q, hq⟩ := List.mem_iff_getElem?.1 hs
    have h1 := (List.getElem?_eq_some_iff.1 hq).1
    exact hne q s (by omega) hq
theorem contf_spec {X : PMap} {v : Value} {l : List ByteArray} (h : RowR strC X v l) (hl : l.length < 1000000000000) : Spec Tryd.prog 67 [v, .func (.func 68) #[] #[]] X fun u _ => ∃ b : Bool, u = .bool b ∧ (b = true ↔ ¬∀ s ∈ l, validS s) := by
  obtain ⟨A, cp, rfl⟩ := h.form
  refine Spec.enter Tryd.func67 rfl Tryd.ntmps67 rfl ?_
  intro w0 hw0
  refine T.seq ?_
  refine T.region ?_
  refine SL.y (op_assign rfl) rfl rfl ?_
  refine SL.nil ?_
  refine T.seq ?_
  refine T.region ?_
  refine SL.y (op_move rfl) rfl rfl ?_
  refine SL.y (op_move rfl) rfl rfl ?_
  -- op
  refine SL.x (op_callF en91 (vs := [_, _]) rfl (idxf_spec h hl)) rfl rfl ?_
  rintro _ _ X1 ⟨rfl, hX1, k, rfl, hk⟩
  -- to 8: op
  refine SL.y (op_geq rfl rfl) rfl rfl ?_
  refine SL.y (op_assign rfl) rfl rfl ?_
  refine SL.nil ?_
  -- ret
  refine T.ret1 rfl (ResIs.tmp rfl) ?_
  exact ⟨_, rfl, by rw [decide_eq_true_eq]; exact hk⟩
theorem nodeL_at {al : List Ex} {i : Nat} {a : Ex} (h0 : nodeL (al.take i) = 0) (ha : al[i]? = some a) (hz : nodeE a ≠ 0) : nodeL al = nodeE a := by
  obtain ⟨h1, h2⟩ := List.getElem?_eq_some_iff.1 ha
  have e : al = al.take i ++ a :: al.drop (i + 1) := by rw [← h2, ← List.drop_eq_getElem_cons h1, List.take_append_drop]
  rw [e, nodeL_app, if_neg (by simp [h0]), nodeL, if_pos hz]
theorem nodeL_snoc {al : List Ex} {i : Nat} {a : Ex} (h0 : nodeL (al.take i) = 0) (ha : al[i]? = some a) (hz : nodeE a = 0) : nodeL (al.take (i + 1)) = 0 := by
  rw [take_snoc ha, nodeL_app, if_neg (by simp [h0]), nodeL, if_neg (by simp [hz]), nodeL]
theorem node_spec (N : Nat) : ∀ {X : PMap} {e : Ex} {r : Row4}, wtE e ≤ N → N < 100000000 → ExR .u8 X e r → Spec Tryd.prog 38 [.agg #[r.1, r.2.1, r.2.2.1, r.2.2.2]] X fun u _ => u = .int .i64 (nodeE e) := by
  induction N with
  | zero => intro X e r h; cases e; rw [wtE] at h; omega
  | succ N ih =>
    intro X e r hN hB h
    cases h with
    | @mk op n ns al vn va rows hn ha hl hr =>
    obtain ⟨Aa, ca, rfl⟩ := ha.form
    obtain ⟨An, cn, rfl⟩ := hn.form
    have hlen := wtL_len al
    have hnl := wtS_len ns
    rw [wtE] at hN
    by_cases a1 : op < 1
    · have e := own1 (k := al.length) (n := n) (ns := ns) (.inl a1)
      refine Spec.enter Tryd.func38 rfl Tryd.ntmps38 rfl ?_
      intro w0 hw0
      refine T.seq ?_
      refine T.region ?_
      refine SL.x (op_box rfl) rfl rfl ?_
      rintro _ _ _ ⟨B1, rfl, rfl, rfl⟩
      refine SL.y (op_assign (v := .int .i64 ((0 : Nat) : Int)) rfl) rfl rfl ?_
      refine SL.nil ?_
      refine T.seq ?_
      refine T.block ?_
      refine T.seq ?_
      refine T.draw (by kernel_rfl) 18 [.t 0, .t 1, .t 2, .t 3, .t 4, .t 5, .t 6, .t 7, .t 8, .t 9, .t 10, .t 11, .t 12, .t 13, .r 14, .t 15, .t 16, .t 17] (by kernel_rfl) ?_
      refine SD.take rfl panicBody (op_fieldAddr fa34_0 rfl) rfl rfl ?_
      first | refine SD.take rfl panicBody (op_load ty31 rfl (by repeat (first | exact AtO.here | apply AtO.there)) rfl) rfl rfl ?_ | refine SD.take rfl panicBody (op_loadX ty31 rfl (by assumption) rfl) rfl rfl ?_
      first | refine SD.take rfl panicBody (op_lssT rfl rfl (by omega)) rfl rfl ?_ | refine SD.take rfl panicBody (op_lssF rfl rfl (by omega)) rfl rfl ?_ | refine SD.take rfl panicBody (op_lss rfl rfl) rfl rfl ?_
      refine SD.take rfl panicBody (op_move rfl) rfl rfl ?_
      first | refine SD.skip rfl panicBody rfl rfl ?_ | refine SD.take rfl panicBody (op_fieldAddr fa34_0 rfl) rfl rfl ?_
      first | refine SD.skip rfl panicBody rfl rfl ?_ | refine SD.take rfl panicBody (op_load ty31 rfl (by repeat (first | exact AtO.here | apply AtO.there)) rfl) rfl rfl ?_ | refine SD.take rfl panicBody (op_loadX ty31 rfl (by assumption) rfl) rfl rfl ?_
      first | refine SD.skip rfl panicBody rfl rfl ?_ | refine SD.take rfl panicBody (op_gtrT rfl rfl (by omega)) rfl rfl ?_ | refine SD.take rfl panicBody (op_gtrF rfl rfl (by omega)) rfl rfl ?_ | refine SD.take rfl panicBody (op_gtr rfl rfl) rfl rfl ?_
      first | refine SD.take rfl panicBody (op_pickT rfl rfl) rfl rfl ?_ | refine SD.take rfl panicBody (op_pickF rfl rfl) rfl rfl ?_ | refine SD.take rfl panicBody (op_pickB rfl rfl rfl) rfl rfl ?_
      refine SD.take rfl panicBody (op_move rfl) rfl rfl ?_
      first | refine SD.skip rfl panicBody rfl rfl ?_ | refine SD.take rfl panicBody (op_fieldAddr fa34_3 rfl) rfl rfl ?_
      first | refine SD.skip rfl panicBody rfl rfl ?_ | refine SD.take rfl panicBody (op_load ty32 rfl (by repeat (first | exact AtO.here | apply AtO.there)) rfl) rfl rfl ?_ | refine SD.take rfl panicBody (op_loadX ty32 rfl (by assumption) rfl) rfl rfl ?_
      first | refine SD.skip rfl panicBody rfl rfl ?_ | refine SD.take rfl panicBody (op_lenS Tryd.underlying32 rfl) rfl rfl ?_
      first | refine SD.skip rfl panicBody rfl rfl ?_ | refine SD.take rfl panicBody (op_fieldAddr fa34_0 rfl) rfl rfl ?_
      first | refine SD.skip rfl panicBody rfl rfl ?_ | refine SD.take rfl panicBody (op_load ty31 rfl (by repeat (first | exact AtO.here | apply AtO.there)) rfl) rfl rfl ?_ | refine SD.take rfl panicBody (op_loadX ty31 rfl (by assumption) rfl) rfl rfl ?_
      -- op
      refine SD.skipF rfl rfl rfl ?_
      first | refine SD.skip rfl panicBody rfl rfl ?_ | refine SD.take rfl panicBody (op_neqT rfl rfl (by omega)) rfl rfl ?_ | refine SD.take rfl panicBody (op_neqF rfl rfl (by omega)) rfl rfl ?_ | refine SD.take rfl panicBody (op_neq rfl rfl) rfl rfl ?_
      first | refine SD.take rfl panicBody (op_pickT rfl rfl) rfl rfl ?_ | refine SD.take rfl panicBody (op_pickF rfl rfl) rfl rfl ?_ | refine SD.take rfl panicBody (op_pickB rfl rfl rfl) rfl rfl ?_
      refine SD.take rfl panicBody (op_assign rfl) rfl rfl ?_
      refine SD.nil ?_
      show SL _ _ _ _ _ _ _ [] _ _ _
      refine SL.nil ?_
      refine T.condT rfl ?_
      refine T.seq ?_
      refine T.region ?_
      refine SL.y (op_assign (v := .int .i64 ((1 : Nat) : Int)) rfl) rfl rfl ?_
      refine SL.nil ?_
      -- ret
      refine T.ret1 rfl (ResIs.tmp rfl) ?_
      rw [node_own (by rw [e]; decide), e]; rfl
    by_cases a2 : 16 < op
    · have e := own1 (k := al.length) (n := n) (ns := ns) (.inr (.inl a2))
      refine Spec.enter Tryd.func38 rfl Tryd.ntmps38 rfl ?_
      intro w0 hw0
      refine T.seq ?_
      refine T.region ?_
      refine SL.x (op_box rfl) rfl rfl ?_
      rintro _ _ _ ⟨B1, rfl, rfl, rfl⟩
      refine SL.y (op_assign (v := .int .i64 ((0 : Nat) : Int)) rfl) rfl rfl ?_
      refine SL.nil ?_
      refine T.seq ?_
      refine T.block ?_
      refine T.seq ?_
      refine T.draw (by kernel_rfl) 18 [.t 0, .t 1, .t 2, .t 3, .t 4, .t 5, .t 6, .t 7, .t 8, .t 9, .t 10, .t 11, .t 12, .t 13, .r 14, .t 15, .t 16, .t 17] (by kernel_rfl) ?_
      refine SD.take rfl panicBody (op_fieldAddr fa34_0 rfl) rfl rfl ?_
      first | refine SD.take rfl panicBody (op_load ty31 rfl (by repeat (first | exact AtO.here | apply AtO.there)) rfl) rfl rfl ?_ | refine SD.take rfl panicBody (op_loadX ty31 rfl (by assumption) rfl) rfl rfl ?_
      first | refine SD.take rfl panicBody (op_lssT rfl rfl (by omega)) rfl rfl ?_ | refine SD.take rfl panicBody (op_lssF rfl rfl (by omega)) rfl rfl ?_ | refine SD.take rfl panicBody (op_lss rfl rfl) rfl rfl ?_
      refine SD.take rfl panicBody (op_move rfl) rfl rfl ?_
      first | refine SD.skip rfl panicBody rfl rfl ?_ | refine SD.take rfl panicBody (op_fieldAddr fa34_0 rfl) rfl rfl ?_
      first | refine SD.skip rfl panicBody rfl rfl ?_ | refine SD.take rfl panicBody (op_load ty31 rfl (by repeat (first | exact AtO.here | apply AtO.there)) rfl) rfl rfl ?_ | refine SD.take rfl panicBody (op_loadX ty31 rfl (by assumption) rfl) rfl rfl ?_
      first | refine SD.skip rfl panicBody rfl rfl ?_ | refine SD.take rfl panicBody (op_gtrT rfl rfl (by omega)) rfl rfl ?_ | refine SD.take rfl panicBody (op_gtrF rfl rfl (by omega)) rfl rfl ?_ | refine SD.take rfl panicBody (op_gtr rfl rfl) rfl rfl ?_
      first | refine SD.take rfl panicBody (op_pickT rfl rfl) rfl rfl ?_ | refine SD.take rfl panicBody (op_pickF rfl rfl) rfl rfl ?_ | refine SD.take rfl panicBody (op_pickB rfl rfl rfl) rfl rfl ?_
      refine SD.take rfl panicBody (op_move rfl) rfl rfl ?_
      first | refine SD.skip rfl panicBody rfl rfl ?_ | refine SD.take rfl panicBody (op_fieldAddr fa34_3 rfl) rfl rfl ?_
      first | refine SD.skip rfl panicBody rfl rfl ?_ | refine SD.take rfl panicBody (op_load ty32 rfl (by repeat (first | exact AtO.here | apply AtO.there)) rfl) rfl rfl ?_ | refine SD.take rfl panicBody (op_loadX ty32 rfl (by assumption) rfl) rfl rfl ?_
      first | refine SD.skip rfl panicBody rfl rfl ?_ | refine SD.take rfl panicBody (op_lenS Tryd.underlying32 rfl) rfl rfl ?_
      first | refine SD.skip rfl panicBody rfl rfl ?_ | refine SD.take rfl panicBody (op_fieldAddr fa34_0 rfl) rfl rfl ?_
      first | refine SD.skip rfl panicBody rfl rfl ?_ | refine SD.take rfl panicBody (op_load ty31 rfl (by repeat (first | exact AtO.here | apply AtO.there)) rfl) rfl rfl ?_ | refine SD.take rfl panicBody (op_loadX ty31 rfl (by assumption) rfl) rfl rfl ?_
      -- op
      refine SD.skipF rfl rfl rfl ?_
      first | refine SD.skip rfl panicBody rfl rfl ?_ | refine SD.take rfl panicBody (op_neqT rfl rfl (by omega)) rfl rfl ?_ | refine SD.take rfl panicBody (op_neqF rfl rfl (by omega)) rfl rfl ?_ | refine SD.take rfl panicBody (op_neq rfl rfl) rfl rfl ?_
      first | refine SD.take rfl panicBody (op_pickT rfl rfl) rfl rfl ?_ | refine SD.take rfl panicBody (op_pickF rfl rfl) rfl rfl ?_ | refine SD.take rfl panicBody (op_pickB rfl rfl rfl) rfl rfl ?_
      refine SD.take rfl panicBody (op_assign rfl) rfl rfl ?_
      refine SD.nil ?_
      show SL _ _ _ _ _ _ _ [] _ _ _
      refine SL.nil ?_
      refine T.condT rfl ?_
      refine T.seq ?_
      refine T.region ?_
      refine SL.y (op_assign (v := .int .i64 ((1 : Nat) : Int)) rfl) rfl rfl ?_
      refine SL.nil ?_
      -- ret
      refine T.ret1 rfl (ResIs.tmp rfl) ?_
      rw [node_own (by rw [e]; decide), e]; rfl
    by_cases a3 : al.length = argN op
    case neg =>
      have e := own1 (k := al.length) (op := op) (n := n) (ns := ns) (.inr (.inr a3))
      refine Spec.enter Tryd.func38 rfl Tryd.ntmps38 rfl ?_
      intro w0 hw0
      refine T.seq ?_
      refine T.region ?_
      refine SL.x (op_box rfl) rfl rfl ?_
      rintro _ _ _ ⟨B1, rfl, rfl, rfl⟩
      refine SL.y (op_assign (v := .int .i64 ((0 : Nat) : Int)) rfl) rfl rfl ?_
      refine SL.nil ?_
      refine T.seq ?_
      refine T.block ?_
      refine T.seq ?_
      refine T.draw (by kernel_rfl) 18 [.t 0, .t 1, .t 2, .t 3, .t 4, .t 5, .t 6, .t 7, .t 8, .t 9, .t 10, .t 11, .t 12, .t 13, .r 14, .t 15, .t 16, .t 17] (by kernel_rfl) ?_
      refine SD.take rfl panicBody (op_fieldAddr fa34_0 rfl) rfl rfl ?_
      first | refine SD.take rfl panicBody (op_load ty31 rfl (by repeat (first | exact AtO.here | apply AtO.there)) rfl) rfl rfl ?_ | refine SD.take rfl panicBody (op_loadX ty31 rfl (by assumption) rfl) rfl rfl ?_
      first | refine SD.take rfl panicBody (op_lssT rfl rfl (by omega)) rfl rfl ?_ | refine SD.take rfl panicBody (op_lssF rfl rfl (by omega)) rfl rfl ?_ | refine SD.take rfl panicBody (op_lss rfl rfl) rfl rfl ?_
      refine SD.take rfl panicBody (op_move rfl) rfl rfl ?_
      first | refine SD.skip rfl panicBody rfl rfl ?_ | refine SD.take rfl panicBody (op_fieldAddr fa34_0 rfl) rfl rfl ?_
      first | refine SD.skip rfl panicBody rfl rfl ?_ | refine SD.take rfl panicBody (op_load ty31 rfl (by repeat (first | exact AtO.here | apply AtO.there)) rfl) rfl rfl ?_ | refine SD.take rfl panicBody (op_loadX ty31 rfl (by assumption) rfl) rfl rfl ?_
      first | refine SD.skip rfl panicBody rfl rfl ?_ | refine SD.take rfl panicBody (op_gtrT rfl rfl (by omega)) rfl rfl ?_ | refine SD.take rfl panicBody (op_gtrF rfl rfl (by omega)) rfl rfl ?_ | refine SD.take rfl panicBody (op_gtr rfl rfl) rfl rfl ?_
      first | refine SD.take rfl panicBody (op_pickT rfl rfl) rfl rfl ?_ | refine SD.take rfl panicBody (op_pickF rfl rfl) rfl rfl ?_ | refine SD.take rfl panicBody (op_pickB rfl rfl rfl) rfl rfl ?_
      refine SD.take rfl panicBody (op_move rfl) rfl rfl ?_
      first | refine SD.skip rfl panicBody rfl rfl ?_ | refine SD.take rfl panicBody (op_fieldAddr fa34_3 rfl) rfl rfl ?_
      first | refine SD.skip rfl panicBody rfl rfl ?_ | refine SD.take rfl panicBody (op_load ty32 rfl (by repeat (first | exact AtO.here | apply AtO.there)) rfl) rfl rfl ?_ | refine SD.take rfl panicBody (op_loadX ty32 rfl (by assumption) rfl) rfl rfl ?_
      first | refine SD.skip rfl panicBody rfl rfl ?_ | refine SD.take rfl panicBody (op_lenS Tryd.underlying32 rfl) rfl rfl ?_
      first | refine SD.skip rfl panicBody rfl rfl ?_ | refine SD.take rfl panicBody (op_fieldAddr fa34_0 rfl) rfl rfl ?_
      first | refine SD.skip rfl panicBody rfl rfl ?_ | refine SD.take rfl panicBody (op_load ty31 rfl (by repeat (first | exact AtO.here | apply AtO.there)) rfl) rfl rfl ?_ | refine SD.take rfl panicBody (op_loadX ty31 rfl (by assumption) rfl) rfl rfl ?_
      -- op
      refine SD.run rfl (op_callF en65 (vs := [_]) rfl (argN_spec)) rfl rfl ?_
      rintro _ _ X1 ⟨rfl, hX1, rfl⟩
      rw [← hl] at a3
      first | refine SD.skip rfl panicBody rfl rfl ?_ | refine SD.take rfl panicBody (op_neqT rfl rfl (by omega)) rfl rfl ?_ | refine SD.take rfl panicBody (op_neqF rfl rfl (by omega)) rfl rfl ?_ | refine SD.take rfl panicBody (op_neq rfl rfl) rfl rfl ?_
      first | refine SD.take rfl panicBody (op_pickT rfl rfl) rfl rfl ?_ | refine SD.take rfl panicBody (op_pickF rfl rfl) rfl rfl ?_ | refine SD.take rfl panicBody (op_pickB rfl rfl rfl) rfl rfl ?_
      refine SD.take rfl panicBody (op_assign rfl) rfl rfl ?_
      refine SD.nil ?_
      show SL _ _ _ _ _ _ _ [] _ _ _
      refine SL.nil ?_
      refine T.condT rfl ?_
      refine T.seq ?_
      refine T.region ?_
      refine SL.y (op_assign (v := .int .i64 ((1 : Nat) : Int)) rfl) rfl rfl ?_
      refine SL.nil ?_
      -- ret
      refine T.ret1 rfl (ResIs.tmp rfl) ?_
      rw [node_own (by rw [e]; decide), e]; rfl
    have hA1 : ¬(op < 1 ∨ 16 < op ∨ al.length ≠ argN op) := fun h => by omega
    by_cases hNN : n ≠ 0 ∧ op ≠ 1
    · obtain ⟨b1, b2⟩ := hNN
      have e := own6 (n := n) (ns := ns) hA1 (.inl ⟨b1, b2⟩)
      refine Spec.enter Tryd.func38 rfl Tryd.ntmps38 rfl ?_
      intro w0 hw0
      refine T.seq ?_
      refine T.region ?_
      refine SL.x (op_box rfl) rfl rfl ?_
      rintro _ _ _ ⟨B1, rfl, rfl, rfl⟩
      refine SL.y (op_assign (v := .int .i64 ((0 : Nat) : Int)) rfl) rfl rfl ?_
      refine SL.nil ?_
      refine T.seq ?_
      refine T.block ?_
      refine T.seq ?_
      refine T.draw (by kernel_rfl) 18 [.t 0, .t 1, .t 2, .t 3, .t 4, .t 5, .t 6, .t 7, .t 8, .t 9, .t 10, .t 11, .t 12, .t 13, .r 14, .t 15, .t 16, .t 17] (by kernel_rfl) ?_
      refine SD.take rfl panicBody (op_fieldAddr fa34_0 rfl) rfl rfl ?_
      first | refine SD.take rfl panicBody (op_load ty31 rfl (by repeat (first | exact AtO.here | apply AtO.there)) rfl) rfl rfl ?_ | refine SD.take rfl panicBody (op_loadX ty31 rfl (by assumption) rfl) rfl rfl ?_
      first | refine SD.take rfl panicBody (op_lssT rfl rfl (by omega)) rfl rfl ?_ | refine SD.take rfl panicBody (op_lssF rfl rfl (by omega)) rfl rfl ?_ | refine SD.take rfl panicBody (op_lss rfl rfl) rfl rfl ?_
      refine SD.take rfl panicBody (op_move rfl) rfl rfl ?_
      first | refine SD.skip rfl panicBody rfl rfl ?_ | refine SD.take rfl panicBody (op_fieldAddr fa34_0 rfl) rfl rfl ?_
      first | refine SD.skip rfl panicBody rfl rfl ?_ | refine SD.take rfl panicBody (op_load ty31 rfl (by repeat (first | exact AtO.here | apply AtO.there)) rfl) rfl rfl ?_ | refine SD.take rfl panicBody (op_loadX ty31 rfl (by assumption) rfl) rfl rfl ?_
      first | refine SD.skip rfl panicBody rfl rfl ?_ | refine SD.take rfl panicBody (op_gtrT rfl rfl (by omega)) rfl rfl ?_ | refine SD.take rfl panicBody (op_gtrF rfl rfl (by omega)) rfl rfl ?_ | refine SD.take rfl panicBody (op_gtr rfl rfl) rfl rfl ?_
      first | refine SD.take rfl panicBody (op_pickT rfl rfl) rfl rfl ?_ | refine SD.take rfl panicBody (op_pickF rfl rfl) rfl rfl ?_ | refine SD.take rfl panicBody (op_pickB rfl rfl rfl) rfl rfl ?_
      refine SD.take rfl panicBody (op_move rfl) rfl rfl ?_
      first | refine SD.skip rfl panicBody rfl rfl ?_ | refine SD.take rfl panicBody (op_fieldAddr fa34_3 rfl) rfl rfl ?_
      first | refine SD.skip rfl panicBody rfl rfl ?_ | refine SD.take rfl panicBody (op_load ty32 rfl (by repeat (first | exact AtO.here | apply AtO.there)) rfl) rfl rfl ?_ | refine SD.take rfl panicBody (op_loadX ty32 rfl (by assumption) rfl) rfl rfl ?_
      first | refine SD.skip rfl panicBody rfl rfl ?_ | refine SD.take rfl panicBody (op_lenS Tryd.underlying32 rfl) rfl rfl ?_
      first | refine SD.skip rfl panicBody rfl rfl ?_ | refine SD.take rfl panicBody (op_fieldAddr fa34_0 rfl) rfl rfl ?_
      first | refine SD.skip rfl panicBody rfl rfl ?_ | refine SD.take rfl panicBody (op_load ty31 rfl (by repeat (first | exact AtO.here | apply AtO.there)) rfl) rfl rfl ?_ | refine SD.take rfl panicBody (op_loadX ty31 rfl (by assumption) rfl) rfl rfl ?_
      -- op
      refine SD.run rfl (op_callF en65 (vs := [_]) rfl (argN_spec)) rfl rfl ?_
      rintro _ _ X1 ⟨rfl, hX1, rfl⟩
      rw [← hl] at a3
      first | refine SD.skip rfl panicBody rfl rfl ?_ | refine SD.take rfl panicBody (op_neqT rfl rfl (by omega)) rfl rfl ?_ | refine SD.take rfl panicBody (op_neqF rfl rfl (by omega)) rfl rfl ?_ | refine SD.take rfl panicBody (op_neq rfl rfl) rfl rfl ?_
      first | refine SD.take rfl panicBody (op_pickT rfl rfl) rfl rfl ?_ | refine SD.take rfl panicBody (op_pickF rfl rfl) rfl rfl ?_ | refine SD.take rfl panicBody (op_pickB rfl rfl rfl) rfl rfl ?_
      refine SD.take rfl panicBody (op_assign rfl) rfl rfl ?_
      refine SD.nil ?_
      show SL _ _ _ _ _ _ _ [] _ _ _
      refine SL.nil ?_
      refine T.condF rfl ?_
      refine T.seq ?_
      refine T.seq ?_
      refine T.region ?_
      refine SL.y (op_fieldAddr fa34_1 rfl) rfl rfl ?_
      first | refine SL.y (op_load ty3 rfl (by repeat (first | exact AtO.here | apply AtO.there)) rfl) rfl rfl ?_ | refine SL.y (op_loadX ty3 rfl (by assumption) rfl) rfl rfl ?_
      first | refine SL.y (op_neqT rfl rfl (by omega)) rfl rfl ?_ | refine SL.y (op_neqF rfl rfl (by omega)) rfl rfl ?_ | refine SL.y (op_neq rfl rfl) rfl rfl ?_
      refine SL.y (op_move rfl) rfl rfl ?_
      first | refine SL.skip rfl rfl ?_ | refine SL.y (op_fieldAddr fa34_0 rfl) rfl rfl ?_
      first | refine SL.skip rfl rfl ?_ | refine SL.y (op_load ty31 rfl (by repeat (first | exact AtO.here | apply AtO.there)) rfl) rfl rfl ?_ | refine SL.y (op_loadX ty31 rfl (by assumption) rfl) rfl rfl ?_
      first | refine SL.skip rfl rfl ?_ | refine SL.y (op_neqT rfl rfl (by omega)) rfl rfl ?_ | refine SL.y (op_neqF rfl rfl (by omega)) rfl rfl ?_ | refine SL.y (op_neq rfl rfl) rfl rfl ?_
      first | refine SL.y (op_pickT rfl rfl) rfl rfl ?_ | refine SL.y (op_pickF rfl rfl) rfl rfl ?_ | refine SL.y (op_pickB rfl rfl rfl) rfl rfl ?_
      refine SL.y (op_assign rfl) rfl rfl ?_
      refine SL.nil ?_
      refine T.condT rfl ?_
      refine T.skip ?_
      refine T.condT rfl ?_
      refine T.seq ?_
      refine T.region ?_
      refine SL.y (op_assign (v := .int .i64 ((6 : Nat) : Int)) rfl) rfl rfl ?_
      refine SL.nil ?_
      -- ret
      refine T.ret1 rfl (ResIs.tmp rfl) ?_
      rw [node_own (by rw [e]; decide), e]; rfl
    by_cases b1 : n = 0
    · skip
      refine Spec.enter Tryd.func38 rfl Tryd.ntmps38 rfl ?_
      intro w0 hw0
      refine T.seq ?_
      refine T.region ?_
      refine SL.x (op_box rfl) rfl rfl ?_
      rintro _ _ _ ⟨B1, rfl, rfl, rfl⟩
      refine SL.y (op_assign (v := .int .i64 ((0 : Nat) : Int)) rfl) rfl rfl ?_
      refine SL.nil ?_
      refine T.seq ?_
      refine T.block ?_
      refine T.seq ?_
      refine T.draw (by kernel_rfl) 18 [.t 0, .t 1, .t 2, .t 3, .t 4, .t 5, .t 6, .t 7, .t 8, .t 9, .t 10, .t 11, .t 12, .t 13, .r 14, .t 15, .t 16, .t 17] (by kernel_rfl) ?_
      refine SD.take rfl panicBody (op_fieldAddr fa34_0 rfl) rfl rfl ?_
      first | refine SD.take rfl panicBody (op_load ty31 rfl (by repeat (first | exact AtO.here | apply AtO.there)) rfl) rfl rfl ?_ | refine SD.take rfl panicBody (op_loadX ty31 rfl (by assumption) rfl) rfl rfl ?_
      first | refine SD.take rfl panicBody (op_lssT rfl rfl (by omega)) rfl rfl ?_ | refine SD.take rfl panicBody (op_lssF rfl rfl (by omega)) rfl rfl ?_ | refine SD.take rfl panicBody (op_lss rfl rfl) rfl rfl ?_
      refine SD.take rfl panicBody (op_move rfl) rfl rfl ?_
      first | refine SD.skip rfl panicBody rfl rfl ?_ | refine SD.take rfl panicBody (op_fieldAddr fa34_0 rfl) rfl rfl ?_
      first | refine SD.skip rfl panicBody rfl rfl ?_ | refine SD.take rfl panicBody (op_load ty31 rfl (by repeat (first | exact AtO.here | apply AtO.there)) rfl) rfl rfl ?_ | refine SD.take rfl panicBody (op_loadX ty31 rfl (by assumption) rfl) rfl rfl ?_
      first | refine SD.skip rfl panicBody rfl rfl ?_ | refine SD.take rfl panicBody (op_gtrT rfl rfl (by omega)) rfl rfl ?_ | refine SD.take rfl panicBody (op_gtrF rfl rfl (by omega)) rfl rfl ?_ | refine SD.take rfl panicBody (op_gtr rfl rfl) rfl rfl ?_
      first | refine SD.take rfl panicBody (op_pickT rfl rfl) rfl rfl ?_ | refine SD.take rfl panicBody (op_pickF rfl rfl) rfl rfl ?_ | refine SD.take rfl panicBody (op_pickB rfl rfl rfl) rfl rfl ?_
      refine SD.take rfl panicBody (op_move rfl) rfl rfl ?_
      first | refine SD.skip rfl panicBody rfl rfl ?_ | refine SD.take rfl panicBody (op_fieldAddr fa34_3 rfl) rfl rfl ?_
      first | refine SD.skip rfl panicBody rfl rfl ?_ | refine SD.take rfl panicBody (op_load ty32 rfl (by repeat (first | exact AtO.here | apply AtO.there)) rfl) rfl rfl ?_ | refine SD.take rfl panicBody (op_loadX ty32 rfl (by assumption) rfl) rfl rfl ?_
      first | refine SD.skip rfl panicBody rfl rfl ?_ | refine SD.take rfl panicBody (op_lenS Tryd.underlying32 rfl) rfl rfl ?_
      first | refine SD.skip rfl panicBody rfl rfl ?_ | refine SD.take rfl panicBody (op_fieldAddr fa34_0 rfl) rfl rfl ?_
      first | refine SD.skip rfl panicBody rfl rfl ?_ | refine SD.take rfl panicBody (op_load ty31 rfl (by repeat (first | exact AtO.here | apply AtO.there)) rfl) rfl rfl ?_ | refine SD.take rfl panicBody (op_loadX ty31 rfl (by assumption) rfl) rfl rfl ?_
      -- op
      refine SD.run rfl (op_callF en65 (vs := [_]) rfl (argN_spec)) rfl rfl ?_
      rintro _ _ X1 ⟨rfl, hX1, rfl⟩
      rw [← hl] at a3
      first | refine SD.skip rfl panicBody rfl rfl ?_ | refine SD.take rfl panicBody (op_neqT rfl rfl (by omega)) rfl rfl ?_ | refine SD.take rfl panicBody (op_neqF rfl rfl (by omega)) rfl rfl ?_ | refine SD.take rfl panicBody (op_neq rfl rfl) rfl rfl ?_
      first | refine SD.take rfl panicBody (op_pickT rfl rfl) rfl rfl ?_ | refine SD.take rfl panicBody (op_pickF rfl rfl) rfl rfl ?_ | refine SD.take rfl panicBody (op_pickB rfl rfl rfl) rfl rfl ?_
      refine SD.take rfl panicBody (op_assign rfl) rfl rfl ?_
      refine SD.nil ?_
      show SL _ _ _ _ _ _ _ [] _ _ _
      refine SL.nil ?_
      refine T.condF rfl ?_
      refine T.seq ?_
      refine T.seq ?_
      refine T.region ?_
      refine SL.y (op_fieldAddr fa34_1 rfl) rfl rfl ?_
      first | refine SL.y (op_load ty3 rfl (by repeat (first | exact AtO.here | apply AtO.there)) rfl) rfl rfl ?_ | refine SL.y (op_loadX ty3 rfl (by assumption) rfl) rfl rfl ?_
      first | refine SL.y (op_neqT rfl rfl (by omega)) rfl rfl ?_ | refine SL.y (op_neqF rfl rfl (by omega)) rfl rfl ?_ | refine SL.y (op_neq rfl rfl) rfl rfl ?_
      refine SL.y (op_move rfl) rfl rfl ?_
      first | refine SL.skip rfl rfl ?_ | refine SL.y (op_fieldAddr fa34_0 rfl) rfl rfl ?_
      first | refine SL.skip rfl rfl ?_ | refine SL.y (op_load ty31 rfl (by repeat (first | exact AtO.here | apply AtO.there)) rfl) rfl rfl ?_ | refine SL.y (op_loadX ty31 rfl (by assumption) rfl) rfl rfl ?_
      first | refine SL.skip rfl rfl ?_ | refine SL.y (op_neqT rfl rfl (by omega)) rfl rfl ?_ | refine SL.y (op_neqF rfl rfl (by omega)) rfl rfl ?_ | refine SL.y (op_neq rfl rfl) rfl rfl ?_
      first | refine SL.y (op_pickT rfl rfl) rfl rfl ?_ | refine SL.y (op_pickF rfl rfl) rfl rfl ?_ | refine SL.y (op_pickB rfl rfl rfl) rfl rfl ?_
      refine SL.y (op_assign rfl) rfl rfl ?_
      refine SL.nil ?_
      refine T.condF rfl ?_
      refine T.region ?_
      first | refine SL.y (op_load ty34 rfl (by repeat (first | exact AtO.here | apply AtO.there)) rfl) rfl rfl ?_ | refine SL.y (op_loadX ty34 rfl (by assumption) rfl) rfl rfl ?_
      -- op
      refine SL.x (op_callF en66 (vs := [_]) rfl (named_spec (by omega))) rfl rfl ?_
      rintro _ _ X2 ⟨rfl, hX2, rfl⟩
      by_cases hnm : namN op ns.length
      case neg =>
        rw [decide_eq_false hnm]
        refine SL.y (op_not rfl) rfl rfl ?_
        refine SL.y (op_assign rfl) rfl rfl ?_
        refine SL.nil ?_
        refine T.condT rfl ?_
        refine T.seq ?_
        refine T.region ?_
        refine SL.y (op_assign (v := .int .i64 ((6 : Nat) : Int)) rfl) rfl rfl ?_
        refine SL.nil ?_
        -- ret
        refine T.ret1 rfl (ResIs.tmp rfl) ?_
        rw [node_own (by rw [own6 hA1 (.inr hnm)]; decide), own6 hA1 (.inr hnm)]; rfl
      rw [decide_eq_true hnm]
      have hA2 : ¬((n ≠ 0 ∧ op ≠ 1) ∨ ¬namN op ns.length) := fun h => h.elim (fun h => hNN h) (fun h => h hnm)
      refine SL.y (op_not rfl) rfl rfl ?_
      refine SL.y (op_assign rfl) rfl rfl ?_
      refine SL.nil ?_
      refine T.condF rfl ?_
      refine T.seq ?_
      refine T.region ?_
      refine SL.y (op_fieldAddr fa34_2 rfl) rfl rfl ?_
      first | refine SL.y (op_load ty24 rfl (by repeat (first | exact AtO.here | apply AtO.there)) rfl) rfl rfl ?_ | refine SL.y (op_loadX ty24 rfl (by assumption) rfl) rfl rfl ?_
      -- op
      refine SL.x (op_callF en67 (vs := [_, _]) rfl (contf_spec ((hn.mono hX1).mono hX2) (by omega))) rfl rfl ?_
      rintro _ _ X3 ⟨rfl, hX3, bv, rfl, hbv⟩
      cases bv with
      | true =>
        have hv := hbv.1 rfl
        refine SL.y (op_assign rfl) rfl rfl ?_
        refine SL.nil ?_
        refine T.condT rfl ?_
        refine T.seq ?_
        refine T.region ?_
        refine SL.y (op_assign (v := .int .i64 ((9 : Nat) : Int)) rfl) rfl rfl ?_
        refine SL.nil ?_
        -- ret
        refine T.ret1 rfl (ResIs.tmp rfl) ?_
        rw [node_own (by rw [own9 hA1 hA2 hv]; decide), own9 hA1 hA2 hv]; rfl
      | false =>
      have hv : ∀ s ∈ ns, validS s := Classical.not_not.1 fun h => by have := hbv.2 h; cases this
      by_cases h5 : op = 5
      · subst h5
        have h18 : 1 ≤ ns.length ∧ ns.length ≤ 8 := by simpa [namN] using hnm
        have eA : allE (.mk 0 0 ns []) = ns := by simp [allE, allL]
        have hE : ExR .u8 X3 (.mk 0 0 ns []) (.int .u8 ((0 : Nat) : Int), .int .i64 0, .slice An ns.length cn, .slice none 0 0) := .mk (rows := []) (((hn.mono hX1).mono hX2).mono hX3) (.inl ⟨rfl, _, _, rfl⟩) rfl (fun i a r h => by simp at h)
        have hwE : wtE (.mk 0 0 ns []) < 100000000 := by rw [wtE, wtL]; omega
        have hcall : Spec Tryd.prog 20 [.agg #[.int .u8 0, .int .i64 0, .slice An ns.length cn, .slice none 0 0]] X3 fun u X' => ∃ l' : List ByteArray, l'.Perm ns ∧ AscS l' ∧ RowR strC X' u (compactS l') := by
          have := names_spec hwE hE (by rw [eA]; omega) (by rw [eA]; omega)
          rw [eA] at this
          exact this
        refine SL.y (op_assign rfl) rfl rfl ?_
        refine SL.nil ?_
        refine T.condF rfl ?_
        refine T.seq ?_
        refine T.draw (by kernel_rfl) 15 [.t 0, .t 1, .t 2, .t 3, .t 4, .t 5, .t 6, .t 9, .t 10, .t 11, .r 7, .t 8, .t 12, .t 13, .t 14] (by kernel_rfl) ?_
        refine SD.take rfl panicBody (op_fieldAddr fa34_0 rfl) rfl rfl ?_
        first | refine SD.take rfl panicBody (op_load ty31 rfl (by repeat (first | exact AtO.here | apply AtO.there)) rfl) rfl rfl ?_ | refine SD.take rfl panicBody (op_loadX ty31 rfl (by assumption) rfl) rfl rfl ?_
        first | refine SD.take rfl panicBody (op_eqlT rfl rfl (by omega)) rfl rfl ?_ | refine SD.take rfl panicBody (op_eqlF rfl rfl (by omega)) rfl rfl ?_ | refine SD.take rfl panicBody (op_eql rfl rfl) rfl rfl ?_
        refine SD.take rfl panicBody (op_move rfl) rfl rfl ?_
        first | refine SD.skip rfl panicBody rfl rfl ?_ | refine SD.take rfl panicBody (op_fieldAddr fa34_2 rfl) rfl rfl ?_
        first | refine SD.skip rfl panicBody rfl rfl ?_ | refine SD.take rfl panicBody (op_load ty24 rfl (by repeat (first | exact AtO.here | apply AtO.there)) rfl) rfl rfl ?_ | refine SD.take rfl panicBody (op_loadX ty24 rfl (by assumption) rfl) rfl rfl ?_
        first | refine SD.skip rfl panicBody rfl rfl ?_ | refine SD.take rfl panicBody (op_build st34 (qs := [(2, _)]) rfl rfl) rfl rfl ?_
        first | refine SD.skip rfl panicBody rfl rfl ?_ | refine SD.take rfl panicBody (op_fieldAddr fa34_2 rfl) rfl rfl ?_
        first | refine SD.skip rfl panicBody rfl rfl ?_ | refine SD.take rfl panicBody (op_load ty24 rfl (by repeat (first | exact AtO.here | apply AtO.there)) rfl) rfl rfl ?_ | refine SD.take rfl panicBody (op_loadX ty24 rfl (by assumption) rfl) rfl rfl ?_
        first | refine SD.skip rfl panicBody rfl rfl ?_ | refine SD.take rfl panicBody (op_lenS Tryd.underlying24 rfl) rfl rfl ?_
        -- op
        refine SD.run rfl (op_callF en20 (vs := [_]) rfl (hcall)) rfl rfl ?_
        rintro u _ X4 ⟨rfl, hX4, l', hperm, hasc, hu⟩
        obtain ⟨Au, cu, rfl⟩ := hu.form
        have hcn := compact_nodup hasc
        have hcl := compact_len l'
        rw [hperm.nodup_iff, hperm.length_eq] at hcn
        rw [hperm.length_eq] at hcl
        by_cases hd : (compactS l').length < ns.length
        · have hnd : ¬ns.Nodup := fun h => by have := hcn.2 h; omega
          first | refine SD.skip rfl panicBody rfl rfl ?_ | refine SD.take rfl panicBody (op_lenS Tryd.underlying24 rfl) rfl rfl ?_
          first | refine SD.skip rfl panicBody rfl rfl ?_ | refine SD.take rfl panicBody (op_lssT rfl rfl (by omega)) rfl rfl ?_ | refine SD.take rfl panicBody (op_lssF rfl rfl (by omega)) rfl rfl ?_ | refine SD.take rfl panicBody (op_lss rfl rfl) rfl rfl ?_
          first | refine SD.take rfl panicBody (op_pickT rfl rfl) rfl rfl ?_ | refine SD.take rfl panicBody (op_pickF rfl rfl) rfl rfl ?_ | refine SD.take rfl panicBody (op_pickB rfl rfl rfl) rfl rfl ?_
          refine SD.take rfl panicBody (op_assign rfl) rfl rfl ?_
          refine SD.nil ?_
          show SL _ _ _ _ _ _ _ [] _ _ _
          refine SL.nil ?_
          refine T.condT rfl ?_
          refine T.seq ?_
          refine T.region ?_
          refine SL.y (op_assign (v := .int .i64 ((5 : Nat) : Int)) rfl) rfl rfl ?_
          refine SL.nil ?_
          -- ret
          refine T.ret1 rfl (ResIs.tmp rfl) ?_
          rw [node_own (by rw [own5 hA1 hA2 hv hnd]; decide), own5 hA1 hA2 hv hnd]; rfl
        have hnd : ns.Nodup := hcn.1 (by omega)
        have hown := own0' hA1 hA2 hv hnd (by omega)
        have hXB := (hX1.trans' (hX2.trans' hX3)).trans' hX4
        first | refine SD.skip rfl panicBody rfl rfl ?_ | refine SD.take rfl panicBody (op_lenS Tryd.underlying24 rfl) rfl rfl ?_
        first | refine SD.skip rfl panicBody rfl rfl ?_ | refine SD.take rfl panicBody (op_lssT rfl rfl (by omega)) rfl rfl ?_ | refine SD.take rfl panicBody (op_lssF rfl rfl (by omega)) rfl rfl ?_ | refine SD.take rfl panicBody (op_lss rfl rfl) rfl rfl ?_
        first | refine SD.take rfl panicBody (op_pickT rfl rfl) rfl rfl ?_ | refine SD.take rfl panicBody (op_pickF rfl rfl) rfl rfl ?_ | refine SD.take rfl panicBody (op_pickB rfl rfl rfl) rfl rfl ?_
        refine SD.take rfl panicBody (op_assign rfl) rfl rfl ?_
        refine SD.nil ?_
        show SL _ _ _ _ _ _ _ [] _ _ _
        refine SL.nil ?_
        refine T.condF rfl ?_
        refine T.seq ?_
        refine T.region ?_
        refine SL.y (op_fieldAddr fa34_1 rfl) rfl rfl ?_
        first | refine SL.y (op_load ty3 rfl (by repeat (first | exact AtO.here | apply AtO.there)) rfl) rfl rfl ?_ | refine SL.y (op_loadX ty3 rfl (by assumption) rfl) rfl rfl ?_
        first | refine SL.y (op_lssT rfl rfl (by omega)) rfl rfl ?_ | refine SL.y (op_lssF rfl rfl (by omega)) rfl rfl ?_ | refine SL.y (op_lss rfl rfl) rfl rfl ?_
        refine SL.y (op_move rfl) rfl rfl ?_
        first | refine SL.skip rfl rfl ?_ | refine SL.y (op_fieldAddr fa34_1 rfl) rfl rfl ?_
        first | refine SL.skip rfl rfl ?_ | refine SL.y (op_load ty3 rfl (by repeat (first | exact AtO.here | apply AtO.there)) rfl) rfl rfl ?_ | refine SL.y (op_loadX ty3 rfl (by assumption) rfl) rfl rfl ?_
        first | refine SL.skip rfl rfl ?_ | refine SL.y (op_gtrT rfl rfl (by omega)) rfl rfl ?_ | refine SL.y (op_gtrF rfl rfl (by omega)) rfl rfl ?_ | refine SL.y (op_gtr rfl rfl) rfl rfl ?_
        first | refine SL.y (op_pickT rfl rfl) rfl rfl ?_ | refine SL.y (op_pickF rfl rfl) rfl rfl ?_ | refine SL.y (op_pickB rfl rfl rfl) rfl rfl ?_
        refine SL.y (op_assign rfl) rfl rfl ?_
        refine SL.nil ?_
        refine T.condF rfl ?_
        refine T.skip ?_
        refine T.blk ?_
        refine T.seq ?_
        refine T.seq ?_
        refine T.region ?_
        refine SL.y (op_fieldAddr fa34_3 rfl) rfl rfl ?_
        first | refine SL.y (op_load ty32 rfl (by repeat (first | exact AtO.here | apply AtO.there)) rfl) rfl rfl ?_ | refine SL.y (op_loadX ty32 rfl (by assumption) rfl) rfl rfl ?_
        refine SL.y (op_lenS Tryd.underlying32 rfl) rfl rfl ?_
        refine SL.y (op_move (v := .int .i64 ((0 : Nat) : Int)) rfl) rfl rfl ?_
        refine SL.nil ?_
        refine T.block ?_
        -- loop live [2, 65, 66, 67]
        refine T.drop B1 (by repeat (first | exact AtO.here | apply AtO.there)) ?_
        refine T.loopW (fun m env own X' => ∃ i : Nat, m = rows.length - i ∧ i ≤ rows.length ∧ X4.le X' ∧ nodeL (al.take i) = 0 ∧ env = [(65, .slice Aa rows.length ca), (66, .int .i64 (rows.length : Int)), (67, .int .i64 (i : Int))] ∧ own = []) rows.length ⟨0, by simp, by omega, PMap.le_refl _, by simp [nodeL], rfl, rfl⟩ (by repeat (first | exact Sub.nil | refine Sub.cons rfl ?_)) ?_
        rintro m _ _ X5 ⟨i, rfl, hi, hX5, hz0, rfl, rfl⟩
        rcases Nat.lt_or_ge i rows.length with hil | hil
        · obtain ⟨r2, hr2⟩ : ∃ r2, rows[i]? = some r2 := ⟨_, List.getElem?_eq_getElem hil⟩
          obtain ⟨a, ha2⟩ : ∃ a, al[i]? = some a := ⟨_, List.getElem?_eq_getElem (by omega)⟩
          have hra := hr i a r2 ha2 hr2
          obtain ⟨bA, pre, rfl, hbA⟩ := ha.blk (by omega)
          obtain ⟨_, _, _, _, _, _, _, _, rfl⟩ := hra.form
          have hwa := wtL_mem (List.mem_of_getElem? ha2)
          refine T.seq ?_
          refine T.region ?_
          first | refine SL.y (op_lssT rfl rfl (by omega)) rfl rfl ?_ | refine SL.y (op_lssF rfl rfl (by omega)) rfl rfl ?_ | refine SL.y (op_lss rfl rfl) rfl rfl ?_
          refine SL.nil ?_
          refine T.seq ?_
          refine T.condT rfl ?_
          refine T.skip ?_
          refine T.seq ?_
          refine T.block ?_
          refine T.seq ?_
          refine T.region ?_
          first | refine SL.y (op_indexN Tryd.underlying32 ty34 rfl rfl (by omega)) rfl rfl ?_ | refine SL.y (op_index Tryd.underlying32 ty34 rfl rfl (by omega) (by omega)) rfl rfl ?_
          -- to 70: op
          refine SL.y (op_loadX ty34 rfl ((hbA.mono hXB).mono hX5) (row_read rc4_len hr2 (by omega))) rfl rfl ?_
          refine SL.x (op_alloc z34) rfl rfl ?_
          rintro _ _ _ ⟨B4, rfl, rfl, rfl⟩
          refine SL.x (op_store ty34 rfl rfl (by repeat (first | exact AtO.here | apply AtO.there)) rfl rfl rfl) rfl rfl ?_
          rintro _ _ _ ⟨rfl, rfl⟩
          refine SL.nil ?_
          refine T.seq ?_
          refine T.region ?_
          first | refine SL.y (op_load ty34 rfl (by repeat (first | exact AtO.here | apply AtO.there)) rfl) rfl rfl ?_ | refine SL.y (op_loadX ty34 rfl (by assumption) rfl) rfl rfl ?_
          -- op
          refine SL.x (op_callF en38 (vs := [_]) rfl (ih (by omega) (by omega) ((hra.mono hXB).mono hX5))) rfl rfl ?_
          rintro _ _ X6 ⟨rfl, hX6, rfl⟩
          by_cases hz : nodeE a = 0
          · skip
            refine SL.y (op_assign rfl) rfl rfl ?_
            refine SL.nil ?_
            refine T.seq ?_
            refine T.region ?_
            refine SL.y (op_move rfl) rfl rfl ?_
            first | refine SL.y (op_neqT rfl rfl (by omega)) rfl rfl ?_ | refine SL.y (op_neqF rfl rfl (by omega)) rfl rfl ?_ | refine SL.y (op_neq rfl rfl) rfl rfl ?_
            refine SL.nil ?_
            refine T.condF rfl ?_
            refine T.skip ?_
            refine T.blk ?_
            refine T.region ?_
            first | refine SL.y (op_addN (q := 1) rfl rfl (by omega)) rfl rfl ?_ | refine SL.y (op_add rfl rfl (by omega) (by omega)) rfl rfl ?_ | refine SL.y (op_addW rfl rfl) rfl rfl ?_
            refine SL.y (op_move rfl) rfl rfl ?_
            refine SL.nil ?_
            -- cut
            refine T.drop B4 (by repeat (first | exact AtO.here | apply AtO.there)) ?_
            exact T.backW (rows.length - (i + 1)) (by omega) ⟨i + 1, rfl, by omega, hX5.trans' hX6, nodeL_snoc hz0 ha2 hz, rfl, rfl⟩ (by repeat (first | exact Sub.nil | refine Sub.cons rfl ?_))
          · refine SL.y (op_assign rfl) rfl rfl ?_
            refine SL.nil ?_
            refine T.seq ?_
            refine T.region ?_
            refine SL.y (op_move rfl) rfl rfl ?_
            first | refine SL.y (op_neqT rfl rfl (by omega)) rfl rfl ?_ | refine SL.y (op_neqF rfl rfl (by omega)) rfl rfl ?_ | refine SL.y (op_neq rfl rfl) rfl rfl ?_
            refine SL.nil ?_
            refine T.condT rfl ?_
            refine T.seq ?_
            refine T.region ?_
            refine SL.y (op_move rfl) rfl rfl ?_
            refine SL.y (op_assign rfl) rfl rfl ?_
            refine SL.nil ?_
            -- ret
            refine T.ret1 rfl (ResIs.tmp rfl) ?_
            rw [node_args hown, nodeL_at hz0 ha2 hz]
        · obtain rfl : i = rows.length := by omega
          rw [show al.take rows.length = al from List.take_of_length_le (by omega)] at hz0
          refine T.seq ?_
          refine T.region ?_
          first | refine SL.y (op_lssT rfl rfl (by omega)) rfl rfl ?_ | refine SL.y (op_lssF rfl rfl (by omega)) rfl rfl ?_ | refine SL.y (op_lss rfl rfl) rfl rfl ?_
          refine SL.nil ?_
          refine T.seq ?_
          refine T.condF rfl ?_
          refine T.exit (T.exitCode (T.exitCut (T.exitBlk ?_)))
          refine T.seq ?_
          refine T.region ?_
          refine SL.y (op_assign (v := .int .i64 ((0 : Nat) : Int)) rfl) rfl rfl ?_
          refine SL.nil ?_
          -- ret
          refine T.ret1 rfl (ResIs.tmp rfl) ?_
          rw [node_args hown, hz0]; rfl
      · have hown := fun hnd => own0' (op := op) (n := n) (ns := ns) (k := al.length) hA1 hA2 hv hnd (by omega)
        have hXB := hX1.trans' (hX2.trans' hX3)
        have hnd : ns.Nodup := nodup_small (by simp only [namN, h5, if_false] at hnm; split at hnm <;> omega)
        have hown := hown hnd
        refine SL.y (op_assign rfl) rfl rfl ?_
        refine SL.nil ?_
        refine T.condF rfl ?_
        refine T.seq ?_
        refine T.draw (by kernel_rfl) 15 [.t 0, .t 1, .t 2, .t 3, .t 4, .t 5, .t 6, .t 9, .t 10, .t 11, .r 7, .t 8, .t 12, .t 13, .t 14] (by kernel_rfl) ?_
        refine SD.take rfl panicBody (op_fieldAddr fa34_0 rfl) rfl rfl ?_
        first | refine SD.take rfl panicBody (op_load ty31 rfl (by repeat (first | exact AtO.here | apply AtO.there)) rfl) rfl rfl ?_ | refine SD.take rfl panicBody (op_loadX ty31 rfl (by assumption) rfl) rfl rfl ?_
        first | refine SD.take rfl panicBody (op_eqlT rfl rfl (by omega)) rfl rfl ?_ | refine SD.take rfl panicBody (op_eqlF rfl rfl (by omega)) rfl rfl ?_ | refine SD.take rfl panicBody (op_eql rfl rfl) rfl rfl ?_
        refine SD.take rfl panicBody (op_move rfl) rfl rfl ?_
        first | refine SD.skip rfl panicBody rfl rfl ?_ | refine SD.take rfl panicBody (op_fieldAddr fa34_2 rfl) rfl rfl ?_
        first | refine SD.skip rfl panicBody rfl rfl ?_ | refine SD.take rfl panicBody (op_load ty24 rfl (by repeat (first | exact AtO.here | apply AtO.there)) rfl) rfl rfl ?_ | refine SD.take rfl panicBody (op_loadX ty24 rfl (by assumption) rfl) rfl rfl ?_
        first | refine SD.skip rfl panicBody rfl rfl ?_ | refine SD.take rfl panicBody (op_build st34 (qs := [(2, _)]) rfl rfl) rfl rfl ?_
        first | refine SD.skip rfl panicBody rfl rfl ?_ | refine SD.take rfl panicBody (op_fieldAddr fa34_2 rfl) rfl rfl ?_
        first | refine SD.skip rfl panicBody rfl rfl ?_ | refine SD.take rfl panicBody (op_load ty24 rfl (by repeat (first | exact AtO.here | apply AtO.there)) rfl) rfl rfl ?_ | refine SD.take rfl panicBody (op_loadX ty24 rfl (by assumption) rfl) rfl rfl ?_
        first | refine SD.skip rfl panicBody rfl rfl ?_ | refine SD.take rfl panicBody (op_lenS Tryd.underlying24 rfl) rfl rfl ?_
        -- op
        refine SD.skipF rfl rfl rfl ?_
        first | refine SD.skip rfl panicBody rfl rfl ?_ | refine SD.take rfl panicBody (op_lenS Tryd.underlying24 rfl) rfl rfl ?_
        first | refine SD.skip rfl panicBody rfl rfl ?_ | refine SD.take rfl panicBody (op_lssT rfl rfl (by omega)) rfl rfl ?_ | refine SD.take rfl panicBody (op_lssF rfl rfl (by omega)) rfl rfl ?_ | refine SD.take rfl panicBody (op_lss rfl rfl) rfl rfl ?_
        first | refine SD.take rfl panicBody (op_pickT rfl rfl) rfl rfl ?_ | refine SD.take rfl panicBody (op_pickF rfl rfl) rfl rfl ?_ | refine SD.take rfl panicBody (op_pickB rfl rfl rfl) rfl rfl ?_
        refine SD.take rfl panicBody (op_assign rfl) rfl rfl ?_
        refine SD.nil ?_
        show SL _ _ _ _ _ _ _ [] _ _ _
        refine SL.nil ?_
        refine T.condF rfl ?_
        refine T.seq ?_
        refine T.region ?_
        refine SL.y (op_fieldAddr fa34_1 rfl) rfl rfl ?_
        first | refine SL.y (op_load ty3 rfl (by repeat (first | exact AtO.here | apply AtO.there)) rfl) rfl rfl ?_ | refine SL.y (op_loadX ty3 rfl (by assumption) rfl) rfl rfl ?_
        first | refine SL.y (op_lssT rfl rfl (by omega)) rfl rfl ?_ | refine SL.y (op_lssF rfl rfl (by omega)) rfl rfl ?_ | refine SL.y (op_lss rfl rfl) rfl rfl ?_
        refine SL.y (op_move rfl) rfl rfl ?_
        first | refine SL.skip rfl rfl ?_ | refine SL.y (op_fieldAddr fa34_1 rfl) rfl rfl ?_
        first | refine SL.skip rfl rfl ?_ | refine SL.y (op_load ty3 rfl (by repeat (first | exact AtO.here | apply AtO.there)) rfl) rfl rfl ?_ | refine SL.y (op_loadX ty3 rfl (by assumption) rfl) rfl rfl ?_
        first | refine SL.skip rfl rfl ?_ | refine SL.y (op_gtrT rfl rfl (by omega)) rfl rfl ?_ | refine SL.y (op_gtrF rfl rfl (by omega)) rfl rfl ?_ | refine SL.y (op_gtr rfl rfl) rfl rfl ?_
        first | refine SL.y (op_pickT rfl rfl) rfl rfl ?_ | refine SL.y (op_pickF rfl rfl) rfl rfl ?_ | refine SL.y (op_pickB rfl rfl rfl) rfl rfl ?_
        refine SL.y (op_assign rfl) rfl rfl ?_
        refine SL.nil ?_
        refine T.condF rfl ?_
        refine T.skip ?_
        refine T.blk ?_
        refine T.seq ?_
        refine T.seq ?_
        refine T.region ?_
        refine SL.y (op_fieldAddr fa34_3 rfl) rfl rfl ?_
        first | refine SL.y (op_load ty32 rfl (by repeat (first | exact AtO.here | apply AtO.there)) rfl) rfl rfl ?_ | refine SL.y (op_loadX ty32 rfl (by assumption) rfl) rfl rfl ?_
        refine SL.y (op_lenS Tryd.underlying32 rfl) rfl rfl ?_
        refine SL.y (op_move (v := .int .i64 ((0 : Nat) : Int)) rfl) rfl rfl ?_
        refine SL.nil ?_
        refine T.block ?_
        -- loop live [2, 65, 66, 67]
        refine T.drop B1 (by repeat (first | exact AtO.here | apply AtO.there)) ?_
        refine T.loopW (fun m env own X' => ∃ i : Nat, m = rows.length - i ∧ i ≤ rows.length ∧ X3.le X' ∧ nodeL (al.take i) = 0 ∧ env = [(65, .slice Aa rows.length ca), (66, .int .i64 (rows.length : Int)), (67, .int .i64 (i : Int))] ∧ own = []) rows.length ⟨0, by simp, by omega, PMap.le_refl _, by simp [nodeL], rfl, rfl⟩ (by repeat (first | exact Sub.nil | refine Sub.cons rfl ?_)) ?_
        rintro m _ _ X5 ⟨i, rfl, hi, hX5, hz0, rfl, rfl⟩
        rcases Nat.lt_or_ge i rows.length with hil | hil
        · obtain ⟨r2, hr2⟩ : ∃ r2, rows[i]? = some r2 := ⟨_, List.getElem?_eq_getElem hil⟩
          obtain ⟨a, ha2⟩ : ∃ a, al[i]? = some a := ⟨_, List.getElem?_eq_getElem (by omega)⟩
          have hra := hr i a r2 ha2 hr2
          obtain ⟨bA, pre, rfl, hbA⟩ := ha.blk (by omega)
          obtain ⟨_, _, _, _, _, _, _, _, rfl⟩ := hra.form
          have hwa := wtL_mem (List.mem_of_getElem? ha2)
          refine T.seq ?_
          refine T.region ?_
          first | refine SL.y (op_lssT rfl rfl (by omega)) rfl rfl ?_ | refine SL.y (op_lssF rfl rfl (by omega)) rfl rfl ?_ | refine SL.y (op_lss rfl rfl) rfl rfl ?_
          refine SL.nil ?_
          refine T.seq ?_
          refine T.condT rfl ?_
          refine T.skip ?_
          refine T.seq ?_
          refine T.block ?_
          refine T.seq ?_
          refine T.region ?_
          first | refine SL.y (op_indexN Tryd.underlying32 ty34 rfl rfl (by omega)) rfl rfl ?_ | refine SL.y (op_index Tryd.underlying32 ty34 rfl rfl (by omega) (by omega)) rfl rfl ?_
          -- to 70: op
          refine SL.y (op_loadX ty34 rfl ((hbA.mono hXB).mono hX5) (row_read rc4_len hr2 (by omega))) rfl rfl ?_
          refine SL.x (op_alloc z34) rfl rfl ?_
          rintro _ _ _ ⟨B4, rfl, rfl, rfl⟩
          refine SL.x (op_store ty34 rfl rfl (by repeat (first | exact AtO.here | apply AtO.there)) rfl rfl rfl) rfl rfl ?_
          rintro _ _ _ ⟨rfl, rfl⟩
          refine SL.nil ?_
          refine T.seq ?_
          refine T.region ?_
          first | refine SL.y (op_load ty34 rfl (by repeat (first | exact AtO.here | apply AtO.there)) rfl) rfl rfl ?_ | refine SL.y (op_loadX ty34 rfl (by assumption) rfl) rfl rfl ?_
          -- op
          refine SL.x (op_callF en38 (vs := [_]) rfl (ih (by omega) (by omega) ((hra.mono hXB).mono hX5))) rfl rfl ?_
          rintro _ _ X6 ⟨rfl, hX6, rfl⟩
          by_cases hz : nodeE a = 0
          · skip
            refine SL.y (op_assign rfl) rfl rfl ?_
            refine SL.nil ?_
            refine T.seq ?_
            refine T.region ?_
            refine SL.y (op_move rfl) rfl rfl ?_
            first | refine SL.y (op_neqT rfl rfl (by omega)) rfl rfl ?_ | refine SL.y (op_neqF rfl rfl (by omega)) rfl rfl ?_ | refine SL.y (op_neq rfl rfl) rfl rfl ?_
            refine SL.nil ?_
            refine T.condF rfl ?_
            refine T.skip ?_
            refine T.blk ?_
            refine T.region ?_
            first | refine SL.y (op_addN (q := 1) rfl rfl (by omega)) rfl rfl ?_ | refine SL.y (op_add rfl rfl (by omega) (by omega)) rfl rfl ?_ | refine SL.y (op_addW rfl rfl) rfl rfl ?_
            refine SL.y (op_move rfl) rfl rfl ?_
            refine SL.nil ?_
            -- cut
            refine T.drop B4 (by repeat (first | exact AtO.here | apply AtO.there)) ?_
            exact T.backW (rows.length - (i + 1)) (by omega) ⟨i + 1, rfl, by omega, hX5.trans' hX6, nodeL_snoc hz0 ha2 hz, rfl, rfl⟩ (by repeat (first | exact Sub.nil | refine Sub.cons rfl ?_))
          · refine SL.y (op_assign rfl) rfl rfl ?_
            refine SL.nil ?_
            refine T.seq ?_
            refine T.region ?_
            refine SL.y (op_move rfl) rfl rfl ?_
            first | refine SL.y (op_neqT rfl rfl (by omega)) rfl rfl ?_ | refine SL.y (op_neqF rfl rfl (by omega)) rfl rfl ?_ | refine SL.y (op_neq rfl rfl) rfl rfl ?_
            refine SL.nil ?_
            refine T.condT rfl ?_
            refine T.seq ?_
            refine T.region ?_
            refine SL.y (op_move rfl) rfl rfl ?_
            refine SL.y (op_assign rfl) rfl rfl ?_
            refine SL.nil ?_
            -- ret
            refine T.ret1 rfl (ResIs.tmp rfl) ?_
            rw [node_args hown, nodeL_at hz0 ha2 hz]
        · obtain rfl : i = rows.length := by omega
          rw [show al.take rows.length = al from List.take_of_length_le (by omega)] at hz0
          refine T.seq ?_
          refine T.region ?_
          first | refine SL.y (op_lssT rfl rfl (by omega)) rfl rfl ?_ | refine SL.y (op_lssF rfl rfl (by omega)) rfl rfl ?_ | refine SL.y (op_lss rfl rfl) rfl rfl ?_
          refine SL.nil ?_
          refine T.seq ?_
          refine T.condF rfl ?_
          refine T.exit (T.exitCode (T.exitCut (T.exitBlk ?_)))
          refine T.seq ?_
          refine T.region ?_
          refine SL.y (op_assign (v := .int .i64 ((0 : Nat) : Int)) rfl) rfl rfl ?_
          refine SL.nil ?_
          -- ret
          refine T.ret1 rfl (ResIs.tmp rfl) ?_
          rw [node_args hown, hz0]; rfl
    · have hop : op = 1 := Decidable.not_not.1 fun h => hNN ⟨b1, h⟩
      refine Spec.enter Tryd.func38 rfl Tryd.ntmps38 rfl ?_
      intro w0 hw0
      refine T.seq ?_
      refine T.region ?_
      refine SL.x (op_box rfl) rfl rfl ?_
      rintro _ _ _ ⟨B1, rfl, rfl, rfl⟩
      refine SL.y (op_assign (v := .int .i64 ((0 : Nat) : Int)) rfl) rfl rfl ?_
      refine SL.nil ?_
      refine T.seq ?_
      refine T.block ?_
      refine T.seq ?_
      refine T.draw (by kernel_rfl) 18 [.t 0, .t 1, .t 2, .t 3, .t 4, .t 5, .t 6, .t 7, .t 8, .t 9, .t 10, .t 11, .t 12, .t 13, .r 14, .t 15, .t 16, .t 17] (by kernel_rfl) ?_
      refine SD.take rfl panicBody (op_fieldAddr fa34_0 rfl) rfl rfl ?_
      first | refine SD.take rfl panicBody (op_load ty31 rfl (by repeat (first | exact AtO.here | apply AtO.there)) rfl) rfl rfl ?_ | refine SD.take rfl panicBody (op_loadX ty31 rfl (by assumption) rfl) rfl rfl ?_
      first | refine SD.take rfl panicBody (op_lssT rfl rfl (by omega)) rfl rfl ?_ | refine SD.take rfl panicBody (op_lssF rfl rfl (by omega)) rfl rfl ?_ | refine SD.take rfl panicBody (op_lss rfl rfl) rfl rfl ?_
      refine SD.take rfl panicBody (op_move rfl) rfl rfl ?_
      first | refine SD.skip rfl panicBody rfl rfl ?_ | refine SD.take rfl panicBody (op_fieldAddr fa34_0 rfl) rfl rfl ?_
      first | refine SD.skip rfl panicBody rfl rfl ?_ | refine SD.take rfl panicBody (op_load ty31 rfl (by repeat (first | exact AtO.here | apply AtO.there)) rfl) rfl rfl ?_ | refine SD.take rfl panicBody (op_loadX ty31 rfl (by assumption) rfl) rfl rfl ?_
      first | refine SD.skip rfl panicBody rfl rfl ?_ | refine SD.take rfl panicBody (op_gtrT rfl rfl (by omega)) rfl rfl ?_ | refine SD.take rfl panicBody (op_gtrF rfl rfl (by omega)) rfl rfl ?_ | refine SD.take rfl panicBody (op_gtr rfl rfl) rfl rfl ?_
      first | refine SD.take rfl panicBody (op_pickT rfl rfl) rfl rfl ?_ | refine SD.take rfl panicBody (op_pickF rfl rfl) rfl rfl ?_ | refine SD.take rfl panicBody (op_pickB rfl rfl rfl) rfl rfl ?_
      refine SD.take rfl panicBody (op_move rfl) rfl rfl ?_
      first | refine SD.skip rfl panicBody rfl rfl ?_ | refine SD.take rfl panicBody (op_fieldAddr fa34_3 rfl) rfl rfl ?_
      first | refine SD.skip rfl panicBody rfl rfl ?_ | refine SD.take rfl panicBody (op_load ty32 rfl (by repeat (first | exact AtO.here | apply AtO.there)) rfl) rfl rfl ?_ | refine SD.take rfl panicBody (op_loadX ty32 rfl (by assumption) rfl) rfl rfl ?_
      first | refine SD.skip rfl panicBody rfl rfl ?_ | refine SD.take rfl panicBody (op_lenS Tryd.underlying32 rfl) rfl rfl ?_
      first | refine SD.skip rfl panicBody rfl rfl ?_ | refine SD.take rfl panicBody (op_fieldAddr fa34_0 rfl) rfl rfl ?_
      first | refine SD.skip rfl panicBody rfl rfl ?_ | refine SD.take rfl panicBody (op_load ty31 rfl (by repeat (first | exact AtO.here | apply AtO.there)) rfl) rfl rfl ?_ | refine SD.take rfl panicBody (op_loadX ty31 rfl (by assumption) rfl) rfl rfl ?_
      -- op
      refine SD.run rfl (op_callF en65 (vs := [_]) rfl (argN_spec)) rfl rfl ?_
      rintro _ _ X1 ⟨rfl, hX1, rfl⟩
      rw [← hl] at a3
      first | refine SD.skip rfl panicBody rfl rfl ?_ | refine SD.take rfl panicBody (op_neqT rfl rfl (by omega)) rfl rfl ?_ | refine SD.take rfl panicBody (op_neqF rfl rfl (by omega)) rfl rfl ?_ | refine SD.take rfl panicBody (op_neq rfl rfl) rfl rfl ?_
      first | refine SD.take rfl panicBody (op_pickT rfl rfl) rfl rfl ?_ | refine SD.take rfl panicBody (op_pickF rfl rfl) rfl rfl ?_ | refine SD.take rfl panicBody (op_pickB rfl rfl rfl) rfl rfl ?_
      refine SD.take rfl panicBody (op_assign rfl) rfl rfl ?_
      refine SD.nil ?_
      show SL _ _ _ _ _ _ _ [] _ _ _
      refine SL.nil ?_
      refine T.condF rfl ?_
      refine T.seq ?_
      refine T.seq ?_
      refine T.region ?_
      refine SL.y (op_fieldAddr fa34_1 rfl) rfl rfl ?_
      first | refine SL.y (op_load ty3 rfl (by repeat (first | exact AtO.here | apply AtO.there)) rfl) rfl rfl ?_ | refine SL.y (op_loadX ty3 rfl (by assumption) rfl) rfl rfl ?_
      first | refine SL.y (op_neqT rfl rfl (by omega)) rfl rfl ?_ | refine SL.y (op_neqF rfl rfl (by omega)) rfl rfl ?_ | refine SL.y (op_neq rfl rfl) rfl rfl ?_
      refine SL.y (op_move rfl) rfl rfl ?_
      first | refine SL.skip rfl rfl ?_ | refine SL.y (op_fieldAddr fa34_0 rfl) rfl rfl ?_
      first | refine SL.skip rfl rfl ?_ | refine SL.y (op_load ty31 rfl (by repeat (first | exact AtO.here | apply AtO.there)) rfl) rfl rfl ?_ | refine SL.y (op_loadX ty31 rfl (by assumption) rfl) rfl rfl ?_
      first | refine SL.skip rfl rfl ?_ | refine SL.y (op_neqT rfl rfl (by omega)) rfl rfl ?_ | refine SL.y (op_neqF rfl rfl (by omega)) rfl rfl ?_ | refine SL.y (op_neq rfl rfl) rfl rfl ?_
      first | refine SL.y (op_pickT rfl rfl) rfl rfl ?_ | refine SL.y (op_pickF rfl rfl) rfl rfl ?_ | refine SL.y (op_pickB rfl rfl rfl) rfl rfl ?_
      refine SL.y (op_assign rfl) rfl rfl ?_
      refine SL.nil ?_
      refine T.condF rfl ?_
      refine T.region ?_
      first | refine SL.y (op_load ty34 rfl (by repeat (first | exact AtO.here | apply AtO.there)) rfl) rfl rfl ?_ | refine SL.y (op_loadX ty34 rfl (by assumption) rfl) rfl rfl ?_
      -- op
      refine SL.x (op_callF en66 (vs := [_]) rfl (named_spec (by omega))) rfl rfl ?_
      rintro _ _ X2 ⟨rfl, hX2, rfl⟩
      by_cases hnm : namN op ns.length
      case neg =>
        rw [decide_eq_false hnm]
        refine SL.y (op_not rfl) rfl rfl ?_
        refine SL.y (op_assign rfl) rfl rfl ?_
        refine SL.nil ?_
        refine T.condT rfl ?_
        refine T.seq ?_
        refine T.region ?_
        refine SL.y (op_assign (v := .int .i64 ((6 : Nat) : Int)) rfl) rfl rfl ?_
        refine SL.nil ?_
        -- ret
        refine T.ret1 rfl (ResIs.tmp rfl) ?_
        rw [node_own (by rw [own6 hA1 (.inr hnm)]; decide), own6 hA1 (.inr hnm)]; rfl
      rw [decide_eq_true hnm]
      have hA2 : ¬((n ≠ 0 ∧ op ≠ 1) ∨ ¬namN op ns.length) := fun h => h.elim (fun h => hNN h) (fun h => h hnm)
      refine SL.y (op_not rfl) rfl rfl ?_
      refine SL.y (op_assign rfl) rfl rfl ?_
      refine SL.nil ?_
      refine T.condF rfl ?_
      refine T.seq ?_
      refine T.region ?_
      refine SL.y (op_fieldAddr fa34_2 rfl) rfl rfl ?_
      first | refine SL.y (op_load ty24 rfl (by repeat (first | exact AtO.here | apply AtO.there)) rfl) rfl rfl ?_ | refine SL.y (op_loadX ty24 rfl (by assumption) rfl) rfl rfl ?_
      -- op
      refine SL.x (op_callF en67 (vs := [_, _]) rfl (contf_spec ((hn.mono hX1).mono hX2) (by omega))) rfl rfl ?_
      rintro _ _ X3 ⟨rfl, hX3, bv, rfl, hbv⟩
      cases bv with
      | true =>
        have hv := hbv.1 rfl
        refine SL.y (op_assign rfl) rfl rfl ?_
        refine SL.nil ?_
        refine T.condT rfl ?_
        refine T.seq ?_
        refine T.region ?_
        refine SL.y (op_assign (v := .int .i64 ((9 : Nat) : Int)) rfl) rfl rfl ?_
        refine SL.nil ?_
        -- ret
        refine T.ret1 rfl (ResIs.tmp rfl) ?_
        rw [node_own (by rw [own9 hA1 hA2 hv]; decide), own9 hA1 hA2 hv]; rfl
      | false =>
      have hv : ∀ s ∈ ns, validS s := Classical.not_not.1 fun h => by have := hbv.2 h; cases this
      have hnd : ns.Nodup := nodup_small (by simp [namN, hop] at hnm; rw [hnm]; simp)
      have hXB := hX1.trans' (hX2.trans' hX3)
      by_cases hlo : n < 0
      · have e := own2 hA1 hA2 hv hnd (.inl hlo)
        refine SL.y (op_assign rfl) rfl rfl ?_
        refine SL.nil ?_
        refine T.condF rfl ?_
        refine T.seq ?_
        refine T.draw (by kernel_rfl) 15 [.t 0, .t 1, .t 2, .t 3, .t 4, .t 5, .t 6, .t 9, .t 10, .t 11, .r 7, .t 8, .t 12, .t 13, .t 14] (by kernel_rfl) ?_
        refine SD.take rfl panicBody (op_fieldAddr fa34_0 rfl) rfl rfl ?_
        first | refine SD.take rfl panicBody (op_load ty31 rfl (by repeat (first | exact AtO.here | apply AtO.there)) rfl) rfl rfl ?_ | refine SD.take rfl panicBody (op_loadX ty31 rfl (by assumption) rfl) rfl rfl ?_
        first | refine SD.take rfl panicBody (op_eqlT rfl rfl (by omega)) rfl rfl ?_ | refine SD.take rfl panicBody (op_eqlF rfl rfl (by omega)) rfl rfl ?_ | refine SD.take rfl panicBody (op_eql rfl rfl) rfl rfl ?_
        refine SD.take rfl panicBody (op_move rfl) rfl rfl ?_
        first | refine SD.skip rfl panicBody rfl rfl ?_ | refine SD.take rfl panicBody (op_fieldAddr fa34_2 rfl) rfl rfl ?_
        first | refine SD.skip rfl panicBody rfl rfl ?_ | refine SD.take rfl panicBody (op_load ty24 rfl (by repeat (first | exact AtO.here | apply AtO.there)) rfl) rfl rfl ?_ | refine SD.take rfl panicBody (op_loadX ty24 rfl (by assumption) rfl) rfl rfl ?_
        first | refine SD.skip rfl panicBody rfl rfl ?_ | refine SD.take rfl panicBody (op_build st34 (qs := [(2, _)]) rfl rfl) rfl rfl ?_
        first | refine SD.skip rfl panicBody rfl rfl ?_ | refine SD.take rfl panicBody (op_fieldAddr fa34_2 rfl) rfl rfl ?_
        first | refine SD.skip rfl panicBody rfl rfl ?_ | refine SD.take rfl panicBody (op_load ty24 rfl (by repeat (first | exact AtO.here | apply AtO.there)) rfl) rfl rfl ?_ | refine SD.take rfl panicBody (op_loadX ty24 rfl (by assumption) rfl) rfl rfl ?_
        first | refine SD.skip rfl panicBody rfl rfl ?_ | refine SD.take rfl panicBody (op_lenS Tryd.underlying24 rfl) rfl rfl ?_
        -- op
        refine SD.skipF rfl rfl rfl ?_
        first | refine SD.skip rfl panicBody rfl rfl ?_ | refine SD.take rfl panicBody (op_lenS Tryd.underlying24 rfl) rfl rfl ?_
        first | refine SD.skip rfl panicBody rfl rfl ?_ | refine SD.take rfl panicBody (op_lssT rfl rfl (by omega)) rfl rfl ?_ | refine SD.take rfl panicBody (op_lssF rfl rfl (by omega)) rfl rfl ?_ | refine SD.take rfl panicBody (op_lss rfl rfl) rfl rfl ?_
        first | refine SD.take rfl panicBody (op_pickT rfl rfl) rfl rfl ?_ | refine SD.take rfl panicBody (op_pickF rfl rfl) rfl rfl ?_ | refine SD.take rfl panicBody (op_pickB rfl rfl rfl) rfl rfl ?_
        refine SD.take rfl panicBody (op_assign rfl) rfl rfl ?_
        refine SD.nil ?_
        show SL _ _ _ _ _ _ _ [] _ _ _
        refine SL.nil ?_
        refine T.condF rfl ?_
        refine T.seq ?_
        refine T.region ?_
        refine SL.y (op_fieldAddr fa34_1 rfl) rfl rfl ?_
        first | refine SL.y (op_load ty3 rfl (by repeat (first | exact AtO.here | apply AtO.there)) rfl) rfl rfl ?_ | refine SL.y (op_loadX ty3 rfl (by assumption) rfl) rfl rfl ?_
        first | refine SL.y (op_lssT rfl rfl (by omega)) rfl rfl ?_ | refine SL.y (op_lssF rfl rfl (by omega)) rfl rfl ?_ | refine SL.y (op_lss rfl rfl) rfl rfl ?_
        refine SL.y (op_move rfl) rfl rfl ?_
        first | refine SL.skip rfl rfl ?_ | refine SL.y (op_fieldAddr fa34_1 rfl) rfl rfl ?_
        first | refine SL.skip rfl rfl ?_ | refine SL.y (op_load ty3 rfl (by repeat (first | exact AtO.here | apply AtO.there)) rfl) rfl rfl ?_ | refine SL.y (op_loadX ty3 rfl (by assumption) rfl) rfl rfl ?_
        first | refine SL.skip rfl rfl ?_ | refine SL.y (op_gtrT rfl rfl (by omega)) rfl rfl ?_ | refine SL.y (op_gtrF rfl rfl (by omega)) rfl rfl ?_ | refine SL.y (op_gtr rfl rfl) rfl rfl ?_
        first | refine SL.y (op_pickT rfl rfl) rfl rfl ?_ | refine SL.y (op_pickF rfl rfl) rfl rfl ?_ | refine SL.y (op_pickB rfl rfl rfl) rfl rfl ?_
        refine SL.y (op_assign rfl) rfl rfl ?_
        refine SL.nil ?_
        refine T.condT rfl ?_
        refine T.seq ?_
        refine T.region ?_
        refine SL.y (op_assign (v := .int .i64 ((2 : Nat) : Int)) rfl) rfl rfl ?_
        refine SL.nil ?_
        -- ret
        refine T.ret1 rfl (ResIs.tmp rfl) ?_
        rw [node_own (by rw [e]; decide), e]; rfl
      by_cases hhi : 999999 < n
      · have e := own2 hA1 hA2 hv hnd (.inr hhi)
        refine SL.y (op_assign rfl) rfl rfl ?_
        refine SL.nil ?_
        refine T.condF rfl ?_
        refine T.seq ?_
        refine T.draw (by kernel_rfl) 15 [.t 0, .t 1, .t 2, .t 3, .t 4, .t 5, .t 6, .t 9, .t 10, .t 11, .r 7, .t 8, .t 12, .t 13, .t 14] (by kernel_rfl) ?_
        refine SD.take rfl panicBody (op_fieldAddr fa34_0 rfl) rfl rfl ?_
        first | refine SD.take rfl panicBody (op_load ty31 rfl (by repeat (first | exact AtO.here | apply AtO.there)) rfl) rfl rfl ?_ | refine SD.take rfl panicBody (op_loadX ty31 rfl (by assumption) rfl) rfl rfl ?_
        first | refine SD.take rfl panicBody (op_eqlT rfl rfl (by omega)) rfl rfl ?_ | refine SD.take rfl panicBody (op_eqlF rfl rfl (by omega)) rfl rfl ?_ | refine SD.take rfl panicBody (op_eql rfl rfl) rfl rfl ?_
        refine SD.take rfl panicBody (op_move rfl) rfl rfl ?_
        first | refine SD.skip rfl panicBody rfl rfl ?_ | refine SD.take rfl panicBody (op_fieldAddr fa34_2 rfl) rfl rfl ?_
        first | refine SD.skip rfl panicBody rfl rfl ?_ | refine SD.take rfl panicBody (op_load ty24 rfl (by repeat (first | exact AtO.here | apply AtO.there)) rfl) rfl rfl ?_ | refine SD.take rfl panicBody (op_loadX ty24 rfl (by assumption) rfl) rfl rfl ?_
        first | refine SD.skip rfl panicBody rfl rfl ?_ | refine SD.take rfl panicBody (op_build st34 (qs := [(2, _)]) rfl rfl) rfl rfl ?_
        first | refine SD.skip rfl panicBody rfl rfl ?_ | refine SD.take rfl panicBody (op_fieldAddr fa34_2 rfl) rfl rfl ?_
        first | refine SD.skip rfl panicBody rfl rfl ?_ | refine SD.take rfl panicBody (op_load ty24 rfl (by repeat (first | exact AtO.here | apply AtO.there)) rfl) rfl rfl ?_ | refine SD.take rfl panicBody (op_loadX ty24 rfl (by assumption) rfl) rfl rfl ?_
        first | refine SD.skip rfl panicBody rfl rfl ?_ | refine SD.take rfl panicBody (op_lenS Tryd.underlying24 rfl) rfl rfl ?_
        -- op
        refine SD.skipF rfl rfl rfl ?_
        first | refine SD.skip rfl panicBody rfl rfl ?_ | refine SD.take rfl panicBody (op_lenS Tryd.underlying24 rfl) rfl rfl ?_
        first | refine SD.skip rfl panicBody rfl rfl ?_ | refine SD.take rfl panicBody (op_lssT rfl rfl (by omega)) rfl rfl ?_ | refine SD.take rfl panicBody (op_lssF rfl rfl (by omega)) rfl rfl ?_ | refine SD.take rfl panicBody (op_lss rfl rfl) rfl rfl ?_
        first | refine SD.take rfl panicBody (op_pickT rfl rfl) rfl rfl ?_ | refine SD.take rfl panicBody (op_pickF rfl rfl) rfl rfl ?_ | refine SD.take rfl panicBody (op_pickB rfl rfl rfl) rfl rfl ?_
        refine SD.take rfl panicBody (op_assign rfl) rfl rfl ?_
        refine SD.nil ?_
        show SL _ _ _ _ _ _ _ [] _ _ _
        refine SL.nil ?_
        refine T.condF rfl ?_
        refine T.seq ?_
        refine T.region ?_
        refine SL.y (op_fieldAddr fa34_1 rfl) rfl rfl ?_
        first | refine SL.y (op_load ty3 rfl (by repeat (first | exact AtO.here | apply AtO.there)) rfl) rfl rfl ?_ | refine SL.y (op_loadX ty3 rfl (by assumption) rfl) rfl rfl ?_
        first | refine SL.y (op_lssT rfl rfl (by omega)) rfl rfl ?_ | refine SL.y (op_lssF rfl rfl (by omega)) rfl rfl ?_ | refine SL.y (op_lss rfl rfl) rfl rfl ?_
        refine SL.y (op_move rfl) rfl rfl ?_
        first | refine SL.skip rfl rfl ?_ | refine SL.y (op_fieldAddr fa34_1 rfl) rfl rfl ?_
        first | refine SL.skip rfl rfl ?_ | refine SL.y (op_load ty3 rfl (by repeat (first | exact AtO.here | apply AtO.there)) rfl) rfl rfl ?_ | refine SL.y (op_loadX ty3 rfl (by assumption) rfl) rfl rfl ?_
        first | refine SL.skip rfl rfl ?_ | refine SL.y (op_gtrT rfl rfl (by omega)) rfl rfl ?_ | refine SL.y (op_gtrF rfl rfl (by omega)) rfl rfl ?_ | refine SL.y (op_gtr rfl rfl) rfl rfl ?_
        first | refine SL.y (op_pickT rfl rfl) rfl rfl ?_ | refine SL.y (op_pickF rfl rfl) rfl rfl ?_ | refine SL.y (op_pickB rfl rfl rfl) rfl rfl ?_
        refine SL.y (op_assign rfl) rfl rfl ?_
        refine SL.nil ?_
        refine T.condT rfl ?_
        refine T.seq ?_
        refine T.region ?_
        refine SL.y (op_assign (v := .int .i64 ((2 : Nat) : Int)) rfl) rfl rfl ?_
        refine SL.nil ?_
        -- ret
        refine T.ret1 rfl (ResIs.tmp rfl) ?_
        rw [node_own (by rw [e]; decide), e]; rfl
      have hown := own0' hA1 hA2 hv hnd (by omega)
      refine SL.y (op_assign rfl) rfl rfl ?_
      refine SL.nil ?_
      refine T.condF rfl ?_
      refine T.seq ?_
      refine T.draw (by kernel_rfl) 15 [.t 0, .t 1, .t 2, .t 3, .t 4, .t 5, .t 6, .t 9, .t 10, .t 11, .r 7, .t 8, .t 12, .t 13, .t 14] (by kernel_rfl) ?_
      refine SD.take rfl panicBody (op_fieldAddr fa34_0 rfl) rfl rfl ?_
      first | refine SD.take rfl panicBody (op_load ty31 rfl (by repeat (first | exact AtO.here | apply AtO.there)) rfl) rfl rfl ?_ | refine SD.take rfl panicBody (op_loadX ty31 rfl (by assumption) rfl) rfl rfl ?_
      first | refine SD.take rfl panicBody (op_eqlT rfl rfl (by omega)) rfl rfl ?_ | refine SD.take rfl panicBody (op_eqlF rfl rfl (by omega)) rfl rfl ?_ | refine SD.take rfl panicBody (op_eql rfl rfl) rfl rfl ?_
      refine SD.take rfl panicBody (op_move rfl) rfl rfl ?_
      first | refine SD.skip rfl panicBody rfl rfl ?_ | refine SD.take rfl panicBody (op_fieldAddr fa34_2 rfl) rfl rfl ?_
      first | refine SD.skip rfl panicBody rfl rfl ?_ | refine SD.take rfl panicBody (op_load ty24 rfl (by repeat (first | exact AtO.here | apply AtO.there)) rfl) rfl rfl ?_ | refine SD.take rfl panicBody (op_loadX ty24 rfl (by assumption) rfl) rfl rfl ?_
      first | refine SD.skip rfl panicBody rfl rfl ?_ | refine SD.take rfl panicBody (op_build st34 (qs := [(2, _)]) rfl rfl) rfl rfl ?_
      first | refine SD.skip rfl panicBody rfl rfl ?_ | refine SD.take rfl panicBody (op_fieldAddr fa34_2 rfl) rfl rfl ?_
      first | refine SD.skip rfl panicBody rfl rfl ?_ | refine SD.take rfl panicBody (op_load ty24 rfl (by repeat (first | exact AtO.here | apply AtO.there)) rfl) rfl rfl ?_ | refine SD.take rfl panicBody (op_loadX ty24 rfl (by assumption) rfl) rfl rfl ?_
      first | refine SD.skip rfl panicBody rfl rfl ?_ | refine SD.take rfl panicBody (op_lenS Tryd.underlying24 rfl) rfl rfl ?_
      -- op
      refine SD.skipF rfl rfl rfl ?_
      first | refine SD.skip rfl panicBody rfl rfl ?_ | refine SD.take rfl panicBody (op_lenS Tryd.underlying24 rfl) rfl rfl ?_
      first | refine SD.skip rfl panicBody rfl rfl ?_ | refine SD.take rfl panicBody (op_lssT rfl rfl (by omega)) rfl rfl ?_ | refine SD.take rfl panicBody (op_lssF rfl rfl (by omega)) rfl rfl ?_ | refine SD.take rfl panicBody (op_lss rfl rfl) rfl rfl ?_
      first | refine SD.take rfl panicBody (op_pickT rfl rfl) rfl rfl ?_ | refine SD.take rfl panicBody (op_pickF rfl rfl) rfl rfl ?_ | refine SD.take rfl panicBody (op_pickB rfl rfl rfl) rfl rfl ?_
      refine SD.take rfl panicBody (op_assign rfl) rfl rfl ?_
      refine SD.nil ?_
      show SL _ _ _ _ _ _ _ [] _ _ _
      refine SL.nil ?_
      refine T.condF rfl ?_
      refine T.seq ?_
      refine T.region ?_
      refine SL.y (op_fieldAddr fa34_1 rfl) rfl rfl ?_
      first | refine SL.y (op_load ty3 rfl (by repeat (first | exact AtO.here | apply AtO.there)) rfl) rfl rfl ?_ | refine SL.y (op_loadX ty3 rfl (by assumption) rfl) rfl rfl ?_
      first | refine SL.y (op_lssT rfl rfl (by omega)) rfl rfl ?_ | refine SL.y (op_lssF rfl rfl (by omega)) rfl rfl ?_ | refine SL.y (op_lss rfl rfl) rfl rfl ?_
      refine SL.y (op_move rfl) rfl rfl ?_
      first | refine SL.skip rfl rfl ?_ | refine SL.y (op_fieldAddr fa34_1 rfl) rfl rfl ?_
      first | refine SL.skip rfl rfl ?_ | refine SL.y (op_load ty3 rfl (by repeat (first | exact AtO.here | apply AtO.there)) rfl) rfl rfl ?_ | refine SL.y (op_loadX ty3 rfl (by assumption) rfl) rfl rfl ?_
      first | refine SL.skip rfl rfl ?_ | refine SL.y (op_gtrT rfl rfl (by omega)) rfl rfl ?_ | refine SL.y (op_gtrF rfl rfl (by omega)) rfl rfl ?_ | refine SL.y (op_gtr rfl rfl) rfl rfl ?_
      first | refine SL.y (op_pickT rfl rfl) rfl rfl ?_ | refine SL.y (op_pickF rfl rfl) rfl rfl ?_ | refine SL.y (op_pickB rfl rfl rfl) rfl rfl ?_
      refine SL.y (op_assign rfl) rfl rfl ?_
      refine SL.nil ?_
      refine T.condF rfl ?_
      refine T.skip ?_
      refine T.blk ?_
      refine T.seq ?_
      refine T.seq ?_
      refine T.region ?_
      refine SL.y (op_fieldAddr fa34_3 rfl) rfl rfl ?_
      first | refine SL.y (op_load ty32 rfl (by repeat (first | exact AtO.here | apply AtO.there)) rfl) rfl rfl ?_ | refine SL.y (op_loadX ty32 rfl (by assumption) rfl) rfl rfl ?_
      refine SL.y (op_lenS Tryd.underlying32 rfl) rfl rfl ?_
      refine SL.y (op_move (v := .int .i64 ((0 : Nat) : Int)) rfl) rfl rfl ?_
      refine SL.nil ?_
      refine T.block ?_
      -- loop live [2, 65, 66, 67]
      refine T.drop B1 (by repeat (first | exact AtO.here | apply AtO.there)) ?_
      refine T.loopW (fun m env own X' => ∃ i : Nat, m = rows.length - i ∧ i ≤ rows.length ∧ X3.le X' ∧ nodeL (al.take i) = 0 ∧ env = [(65, .slice Aa rows.length ca), (66, .int .i64 (rows.length : Int)), (67, .int .i64 (i : Int))] ∧ own = []) rows.length ⟨0, by simp, by omega, PMap.le_refl _, by simp [nodeL], rfl, rfl⟩ (by repeat (first | exact Sub.nil | refine Sub.cons rfl ?_)) ?_
      rintro m _ _ X5 ⟨i, rfl, hi, hX5, hz0, rfl, rfl⟩
      rcases Nat.lt_or_ge i rows.length with hil | hil
      · obtain ⟨r2, hr2⟩ : ∃ r2, rows[i]? = some r2 := ⟨_, List.getElem?_eq_getElem hil⟩
        obtain ⟨a, ha2⟩ : ∃ a, al[i]? = some a := ⟨_, List.getElem?_eq_getElem (by omega)⟩
        have hra := hr i a r2 ha2 hr2
        obtain ⟨bA, pre, rfl, hbA⟩ := ha.blk (by omega)
        obtain ⟨_, _, _, _, _, _, _, _, rfl⟩ := hra.form
        have hwa := wtL_mem (List.mem_of_getElem? ha2)
        refine T.seq ?_
        refine T.region ?_
        first | refine SL.y (op_lssT rfl rfl (by omega)) rfl rfl ?_ | refine SL.y (op_lssF rfl rfl (by omega)) rfl rfl ?_ | refine SL.y (op_lss rfl rfl) rfl rfl ?_
        refine SL.nil ?_
        refine T.seq ?_
        refine T.condT rfl ?_
        refine T.skip ?_
        refine T.seq ?_
        refine T.block ?_
        refine T.seq ?_
        refine T.region ?_
        first | refine SL.y (op_indexN Tryd.underlying32 ty34 rfl rfl (by omega)) rfl rfl ?_ | refine SL.y (op_index Tryd.underlying32 ty34 rfl rfl (by omega) (by omega)) rfl rfl ?_
        -- to 70: op
        refine SL.y (op_loadX ty34 rfl ((hbA.mono hXB).mono hX5) (row_read rc4_len hr2 (by omega))) rfl rfl ?_
        refine SL.x (op_alloc z34) rfl rfl ?_
        rintro _ _ _ ⟨B4, rfl, rfl, rfl⟩
        refine SL.x (op_store ty34 rfl rfl (by repeat (first | exact AtO.here | apply AtO.there)) rfl rfl rfl) rfl rfl ?_
        rintro _ _ _ ⟨rfl, rfl⟩
        refine SL.nil ?_
        refine T.seq ?_
        refine T.region ?_
        first | refine SL.y (op_load ty34 rfl (by repeat (first | exact AtO.here | apply AtO.there)) rfl) rfl rfl ?_ | refine SL.y (op_loadX ty34 rfl (by assumption) rfl) rfl rfl ?_
        -- op
        refine SL.x (op_callF en38 (vs := [_]) rfl (ih (by omega) (by omega) ((hra.mono hXB).mono hX5))) rfl rfl ?_
        rintro _ _ X6 ⟨rfl, hX6, rfl⟩
        by_cases hz : nodeE a = 0
        · skip
          refine SL.y (op_assign rfl) rfl rfl ?_
          refine SL.nil ?_
          refine T.seq ?_
          refine T.region ?_
          refine SL.y (op_move rfl) rfl rfl ?_
          first | refine SL.y (op_neqT rfl rfl (by omega)) rfl rfl ?_ | refine SL.y (op_neqF rfl rfl (by omega)) rfl rfl ?_ | refine SL.y (op_neq rfl rfl) rfl rfl ?_
          refine SL.nil ?_
          refine T.condF rfl ?_
          refine T.skip ?_
          refine T.blk ?_
          refine T.region ?_
          first | refine SL.y (op_addN (q := 1) rfl rfl (by omega)) rfl rfl ?_ | refine SL.y (op_add rfl rfl (by omega) (by omega)) rfl rfl ?_ | refine SL.y (op_addW rfl rfl) rfl rfl ?_
          refine SL.y (op_move rfl) rfl rfl ?_
          refine SL.nil ?_
          -- cut
          refine T.drop B4 (by repeat (first | exact AtO.here | apply AtO.there)) ?_
          exact T.backW (rows.length - (i + 1)) (by omega) ⟨i + 1, rfl, by omega, hX5.trans' hX6, nodeL_snoc hz0 ha2 hz, rfl, rfl⟩ (by repeat (first | exact Sub.nil | refine Sub.cons rfl ?_))
        · refine SL.y (op_assign rfl) rfl rfl ?_
          refine SL.nil ?_
          refine T.seq ?_
          refine T.region ?_
          refine SL.y (op_move rfl) rfl rfl ?_
          first | refine SL.y (op_neqT rfl rfl (by omega)) rfl rfl ?_ | refine SL.y (op_neqF rfl rfl (by omega)) rfl rfl ?_ | refine SL.y (op_neq rfl rfl) rfl rfl ?_
          refine SL.nil ?_
          refine T.condT rfl ?_
          refine T.seq ?_
          refine T.region ?_
          refine SL.y (op_move rfl) rfl rfl ?_
          refine SL.y (op_assign rfl) rfl rfl ?_
          refine SL.nil ?_
          -- ret
          refine T.ret1 rfl (ResIs.tmp rfl) ?_
          rw [node_args hown, nodeL_at hz0 ha2 hz]
      · obtain rfl : i = rows.length := by omega
        rw [show al.take rows.length = al from List.take_of_length_le (by omega)] at hz0
        refine T.seq ?_
        refine T.region ?_
        first | refine SL.y (op_lssT rfl rfl (by omega)) rfl rfl ?_ | refine SL.y (op_lssF rfl rfl (by omega)) rfl rfl ?_ | refine SL.y (op_lss rfl rfl) rfl rfl ?_
        refine SL.nil ?_
        refine T.seq ?_
        refine T.condF rfl ?_
        refine T.exit (T.exitCode (T.exitCut (T.exitBlk ?_)))
        refine T.seq ?_
        refine T.region ?_
        refine SL.y (op_assign (v := .int .i64 ((0 : Nat) : Int)) rfl) rfl rfl ?_
        refine SL.nil ?_
        -- ret
        refine T.ret1 rfl (ResIs.tmp rfl) ?_
        rw [node_args hown, hz0]; rfl
/-- The error of an expression. -/
theorem chk_spec {X : PMap} {e : Ex} {r : Row4} (hw : wtE e < 100000000) (h : ExR .u8 X e r) : Spec Tryd.prog 13 [.agg #[r.1, r.2.1, r.2.2.1, r.2.2.2]] X fun u _ => u = .int .i64 (chkE e) := by
  obtain ⟨_, _, _, _, _, _, _, _, rfl⟩ := h.form
  have hd := dep_wt e
  have hs := siz_wt e
  by_cases h1 : 10 < depE e
  · refine Spec.enter Tryd.func13 rfl Tryd.ntmps13 rfl ?_
    intro w0 hw0
    refine T.seq ?_
    refine T.region ?_
    refine SL.x (op_box rfl) rfl rfl ?_
    rintro _ _ _ ⟨B1, rfl, rfl, rfl⟩
    refine SL.y (op_assign (v := .int .i64 ((0 : Nat) : Int)) rfl) rfl rfl ?_
    refine SL.nil ?_
    refine T.seq ?_
    refine T.seq ?_
    refine T.region ?_
    first | refine SL.y (op_load ty34 rfl (by repeat (first | exact AtO.here | apply AtO.there)) rfl) rfl rfl ?_ | refine SL.y (op_loadX ty34 rfl (by assumption) rfl) rfl rfl ?_
    -- op
    refine SL.x (op_callF en22 (vs := [_]) rfl (depth_spec _ (Nat.le_refl _) (by omega) h)) rfl rfl ?_
    rintro _ _ X1 ⟨rfl, hX1, rfl⟩
    first | refine SL.y (op_gtrT rfl rfl (by omega)) rfl rfl ?_ | refine SL.y (op_gtrF rfl rfl (by omega)) rfl rfl ?_ | refine SL.y (op_gtr rfl rfl) rfl rfl ?_
    refine SL.y (op_move rfl) rfl rfl ?_
    first | refine SL.skip rfl rfl ?_ | refine SL.y (op_load ty34 rfl (by repeat (first | exact AtO.here | apply AtO.there)) rfl) rfl rfl ?_ | refine SL.y (op_loadX ty34 rfl (by assumption) rfl) rfl rfl ?_
    -- op
    refine SL.skip rfl rfl ?_
    first | refine SL.skip rfl rfl ?_ | refine SL.y (op_gtrT rfl rfl (by omega)) rfl rfl ?_ | refine SL.y (op_gtrF rfl rfl (by omega)) rfl rfl ?_ | refine SL.y (op_gtr rfl rfl) rfl rfl ?_
    first | refine SL.y (op_pickT rfl rfl) rfl rfl ?_ | refine SL.y (op_pickF rfl rfl) rfl rfl ?_ | refine SL.y (op_pickB rfl rfl rfl) rfl rfl ?_
    refine SL.nil ?_
    refine T.condT rfl ?_
    refine T.seq ?_
    refine T.region ?_
    refine SL.y (op_assign (v := .int .i64 ((3 : Nat) : Int)) rfl) rfl rfl ?_
    refine SL.nil ?_
    -- ret
    refine T.ret1 rfl (ResIs.tmp rfl) ?_
    rw [chkE, if_pos (.inl h1)]; rfl
  · by_cases h2 : 200 < sizE e
    · refine Spec.enter Tryd.func13 rfl Tryd.ntmps13 rfl ?_
      intro w0 hw0
      refine T.seq ?_
      refine T.region ?_
      refine SL.x (op_box rfl) rfl rfl ?_
      rintro _ _ _ ⟨B1, rfl, rfl, rfl⟩
      refine SL.y (op_assign (v := .int .i64 ((0 : Nat) : Int)) rfl) rfl rfl ?_
      refine SL.nil ?_
      refine T.seq ?_
      refine T.seq ?_
      refine T.region ?_
      first | refine SL.y (op_load ty34 rfl (by repeat (first | exact AtO.here | apply AtO.there)) rfl) rfl rfl ?_ | refine SL.y (op_loadX ty34 rfl (by assumption) rfl) rfl rfl ?_
      -- op
      refine SL.x (op_callF en22 (vs := [_]) rfl (depth_spec _ (Nat.le_refl _) (by omega) h)) rfl rfl ?_
      rintro _ _ X1 ⟨rfl, hX1, rfl⟩
      first | refine SL.y (op_gtrT rfl rfl (by omega)) rfl rfl ?_ | refine SL.y (op_gtrF rfl rfl (by omega)) rfl rfl ?_ | refine SL.y (op_gtr rfl rfl) rfl rfl ?_
      refine SL.y (op_move rfl) rfl rfl ?_
      first | refine SL.skip rfl rfl ?_ | refine SL.y (op_load ty34 rfl (by repeat (first | exact AtO.here | apply AtO.there)) rfl) rfl rfl ?_ | refine SL.y (op_loadX ty34 rfl (by assumption) rfl) rfl rfl ?_
      -- op
      refine SL.x (op_callF en24 (vs := [_]) rfl (size_spec _ (Nat.le_refl _) (by omega) (h.mono hX1))) rfl rfl ?_
      rintro _ _ X2 ⟨rfl, hX2, rfl⟩
      first | refine SL.skip rfl rfl ?_ | refine SL.y (op_gtrT rfl rfl (by omega)) rfl rfl ?_ | refine SL.y (op_gtrF rfl rfl (by omega)) rfl rfl ?_ | refine SL.y (op_gtr rfl rfl) rfl rfl ?_
      first | refine SL.y (op_pickT rfl rfl) rfl rfl ?_ | refine SL.y (op_pickF rfl rfl) rfl rfl ?_ | refine SL.y (op_pickB rfl rfl rfl) rfl rfl ?_
      refine SL.nil ?_
      refine T.condT rfl ?_
      refine T.seq ?_
      refine T.region ?_
      refine SL.y (op_assign (v := .int .i64 ((3 : Nat) : Int)) rfl) rfl rfl ?_
      refine SL.nil ?_
      -- ret
      refine T.ret1 rfl (ResIs.tmp rfl) ?_
      rw [chkE, if_pos (.inr h2)]; rfl
    · refine Spec.enter Tryd.func13 rfl Tryd.ntmps13 rfl ?_
      intro w0 hw0
      refine T.seq ?_
      refine T.region ?_
      refine SL.x (op_box rfl) rfl rfl ?_
      rintro _ _ _ ⟨B1, rfl, rfl, rfl⟩
      refine SL.y (op_assign (v := .int .i64 ((0 : Nat) : Int)) rfl) rfl rfl ?_
      refine SL.nil ?_
      refine T.seq ?_
      refine T.seq ?_
      refine T.region ?_
      first | refine SL.y (op_load ty34 rfl (by repeat (first | exact AtO.here | apply AtO.there)) rfl) rfl rfl ?_ | refine SL.y (op_loadX ty34 rfl (by assumption) rfl) rfl rfl ?_
      -- op
      refine SL.x (op_callF en22 (vs := [_]) rfl (depth_spec _ (Nat.le_refl _) (by omega) h)) rfl rfl ?_
      rintro _ _ X1 ⟨rfl, hX1, rfl⟩
      first | refine SL.y (op_gtrT rfl rfl (by omega)) rfl rfl ?_ | refine SL.y (op_gtrF rfl rfl (by omega)) rfl rfl ?_ | refine SL.y (op_gtr rfl rfl) rfl rfl ?_
      refine SL.y (op_move rfl) rfl rfl ?_
      first | refine SL.skip rfl rfl ?_ | refine SL.y (op_load ty34 rfl (by repeat (first | exact AtO.here | apply AtO.there)) rfl) rfl rfl ?_ | refine SL.y (op_loadX ty34 rfl (by assumption) rfl) rfl rfl ?_
      -- op
      refine SL.x (op_callF en24 (vs := [_]) rfl (size_spec _ (Nat.le_refl _) (by omega) (h.mono hX1))) rfl rfl ?_
      rintro _ _ X2 ⟨rfl, hX2, rfl⟩
      first | refine SL.skip rfl rfl ?_ | refine SL.y (op_gtrT rfl rfl (by omega)) rfl rfl ?_ | refine SL.y (op_gtrF rfl rfl (by omega)) rfl rfl ?_ | refine SL.y (op_gtr rfl rfl) rfl rfl ?_
      first | refine SL.y (op_pickT rfl rfl) rfl rfl ?_ | refine SL.y (op_pickF rfl rfl) rfl rfl ?_ | refine SL.y (op_pickB rfl rfl rfl) rfl rfl ?_
      refine SL.nil ?_
      refine T.condF rfl ?_
      refine T.skip ?_
      refine T.seq ?_
      refine T.region ?_
      first | refine SL.y (op_load ty34 rfl (by repeat (first | exact AtO.here | apply AtO.there)) rfl) rfl rfl ?_ | refine SL.y (op_loadX ty34 rfl (by assumption) rfl) rfl rfl ?_
      -- op
      refine SL.x (op_callF en38 (vs := [_]) rfl (node_spec _ (Nat.le_refl _) (by omega) ((h.mono hX1).mono hX2))) rfl rfl ?_
      rintro _ _ X3 ⟨rfl, hX3, rfl⟩
      refine SL.y (op_assign rfl) rfl rfl ?_
      refine SL.nil ?_
      -- ret
      refine T.ret1 rfl (ResIs.tmp rfl) ?_
      rw [chkE, if_neg (by omega)]
end Go.Proofs.YtaooojjhlngcmaaDoor
