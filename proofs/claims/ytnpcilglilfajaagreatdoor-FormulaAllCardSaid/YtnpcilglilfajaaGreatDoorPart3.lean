/- What the law's proof rests on: the engine, a small separation logic over the kit's walk, and contracts of the functions that the law reaches. Part 3. -/
import Derived.Test.YtnpcilglilfajaaGreatDoorPart1
import Derived.Test.YtnpcilglilfajaaGreatDoorPart2
namespace Go.Proofs.YtnpcilglilfajaaGreatDoor
section
set_option maxRecDepth 100000
theorem en123 : Enters Tryz.prog 123 := enters_mk Tryz.func123 (by kernel_rfl) rfl
theorem en163 : Enters Tryz.prog 163 := enters_mk Tryz.func163 (by kernel_rfl) rfl
theorem en164 : Enters Tryz.prog 164 := enters_mk Tryz.func164 (by kernel_rfl) rfl
theorem en165 : Enters Tryz.prog 165 := enters_mk Tryz.func165 (by kernel_rfl) rfl
theorem en166 : Enters Tryz.prog 166 := enters_mk Tryz.func166 (by kernel_rfl) rfl
theorem en193 : Enters Tryz.prog 193 := enters_mk Tryz.func193 (by kernel_rfl) rfl
theorem en35 : Enters Tryz.prog 35 := enters_mk Tryz.func35 (by kernel_rfl) rfl
theorem en94 : Enters Tryz.prog 94 := enters_mk Tryz.func94 (by kernel_rfl) rfl
theorem fa70_0 : FAdr Tryz.prog 70 0 0 := fadr_mk Tryz.underlying70 rfl rfl (by kernel_rfl)
theorem fa70_1 : FAdr Tryz.prog 70 1 1 := fadr_mk Tryz.underlying70 rfl rfl (by kernel_rfl)
theorem st70 : StT Tryz.prog 70 [(0, 1), (1, 1), (2, 1), (3, 1)] [.int .u8 0, .int .i64 0, .slice none 0 0, .slice none 0 0] := ⟨⟨_, Tryz.underlying70, fun _ => by kernel_rfl, z70⟩⟩
theorem ty33 : Ty Tryz.prog 33 false 1 := ⟨⟨_, Tryz.underlying33, rfl⟩, by kernel_rfl⟩
end
open Go.RowKit
section
variable {op k : Nat} {n : Int} {ns : List ByteArray}
theorem own1 (h : op < 1 ∨ 16 < op ∨ k ≠ argN op) : ownE op n ns k = 1 := by rw [ownE, if_pos h]
theorem own6 (h : ¬(op < 1 ∨ 16 < op ∨ k ≠ argN op)) (h2 : (n ≠ 0 ∧ op ≠ 1) ∨ ¬namN op ns.length) : ownE op n ns k = 6 := by rw [ownE, if_neg h, if_pos h2]
theorem own9 (h : ¬(op < 1 ∨ 16 < op ∨ k ≠ argN op)) (h2 : ¬((n ≠ 0 ∧ op ≠ 1) ∨ ¬namN op ns.length)) (h3 : ¬∀ s ∈ ns, validS s) : ownE op n ns k = 9 := by rw [ownE, if_neg h, if_neg h2, if_pos h3]
theorem own5 (h : ¬(op < 1 ∨ 16 < op ∨ k ≠ argN op)) (h2 : ¬((n ≠ 0 ∧ op ≠ 1) ∨ ¬namN op ns.length)) (h3 : ∀ s ∈ ns, validS s) (h4 : ¬ns.Nodup) : ownE op n ns k = 5 := by rw [ownE, if_neg h, if_neg h2, if_neg fun h => h h3, if_pos h4]
theorem own2 (h : ¬(op < 1 ∨ 16 < op ∨ k ≠ argN op)) (h2 : ¬((n ≠ 0 ∧ op ≠ 1) ∨ ¬namN op ns.length)) (h3 : ∀ s ∈ ns, validS s) (h4 : ns.Nodup) (h5 : n < 0 ∨ 999999 < n) : ownE op n ns k = 2 := by rw [ownE, if_neg h, if_neg h2, if_neg fun h => h h3, if_neg fun h => h h4, if_pos h5]
theorem own0' (h : ¬(op < 1 ∨ 16 < op ∨ k ≠ argN op)) (h2 : ¬((n ≠ 0 ∧ op ≠ 1) ∨ ¬namN op ns.length)) (h3 : ∀ s ∈ ns, validS s) (h4 : ns.Nodup) (h5 : ¬(n < 0 ∨ 999999 < n)) : ownE op n ns k = 0 := by rw [ownE, if_neg h, if_neg h2, if_neg fun h => h h3, if_neg fun h => h h4, if_neg h5]
theorem nodup_small (h : ns.length ≤ 1) : ns.Nodup := by
  match ns, h with
  | [], _ => exact List.nodup_nil
  | [a], _ => simp
theorem node_own {al : List Ex} (h : ownE op n ns al.length ≠ 0) : nodeE (.mk op n ns al) = ownE op n ns al.length := by rw [nodeE, if_pos h]
theorem node_args {al : List Ex} (h : ownE op n ns al.length = 0) : nodeE (.mk op n ns al) = nodeL al := by rw [nodeE, if_neg (by simp [h])]
end
theorem argN_spec {X : PMap} {op : Nat} : Spec Tryz.prog 163 [.int .u8 (op : Int)] X fun u _ => u = .int .i64 (argN op : Int) := by
  by_cases h1 : op < 7
  · refine Spec.enter Tryz.func163 rfl Tryz.ntmps163 rfl ?_
    intro w0 hw0
    refine T.seq <| T.region <| SL.v (op_assign (v := .int .i64 ((0 : Nat) : Int)) rfl) <| SL.nil <| T.seq <| T.block <| T.seq <| T.region <| SL.mv rfl <| SL.v (op_lssT rfl rfl (by omega)) ?_
    refine SL.as rfl <| SL.nil <| T.condT rfl <| T.seq <| T.region <| SL.v (op_assign (v := .int .i64 ((0 : Nat) : Int)) rfl) <| SL.nil <| T.ret1 rfl (ResIs.tmp rfl) ?_
    rw [argN, if_pos h1]
  · by_cases h2 : op = 7
    · refine Spec.enter Tryz.func163 rfl Tryz.ntmps163 rfl ?_
      intro w0 hw0
      refine T.seq <| T.region <| SL.v (op_assign (v := .int .i64 ((0 : Nat) : Int)) rfl) <| SL.nil <| T.seq <| T.block <| T.seq <| T.region <| SL.mv rfl <| SL.v (op_lssF rfl rfl (by omega)) ?_
      refine SL.as rfl <| SL.nil <| T.condF rfl <| T.seq <| T.region <| SL.mv rfl <| SL.v (op_eqlT rfl rfl (by omega)) ?_
      refine SL.as rfl <| SL.nil <| T.condT rfl <| T.seq <| T.region <| SL.v (op_assign (v := .int .i64 ((1 : Nat) : Int)) rfl) <| SL.nil <| T.ret1 rfl (ResIs.tmp rfl) ?_
      rw [argN, if_neg h1, if_pos h2]
    · refine Spec.enter Tryz.func163 rfl Tryz.ntmps163 rfl ?_
      intro w0 hw0
      refine T.seq <| T.region <| SL.v (op_assign (v := .int .i64 ((0 : Nat) : Int)) rfl) <| SL.nil <| T.seq <| T.block <| T.seq <| T.region <| SL.mv rfl <| SL.v (op_lssF rfl rfl (by omega)) ?_
      refine SL.as rfl <| SL.nil <| T.condF rfl <| T.seq <| T.region <| SL.mv rfl <| SL.v (op_eqlF rfl rfl (by omega)) ?_
      refine SL.as rfl <| SL.nil <| T.condF rfl <| T.skip <| T.blk <| T.seq <| T.region <| SL.v (op_assign (v := .int .i64 ((2 : Nat) : Int)) rfl) <| SL.nil <| T.ret1 rfl (ResIs.tmp rfl) ?_
      rw [argN, if_neg h1, if_neg h2]
theorem named_spec {X : PMap} {op : Nat} {n : Int} {A B : Option Addr} {k c l c' : Nat} (hk : k < 1000000000000) : Spec Tryz.prog 164 [.agg #[.int .u8 (op : Int), .int .i64 n, .slice A k c, .slice B l c']] X fun u _ => u = .bool (decide (namN op k)) := by
  by_cases h4 : op = 4
  · have e : namN op k ↔ k = 1 := by simp [namN, h4]
    by_cases hk1 : k = 1
    · refine Spec.enter Tryz.func164 rfl Tryz.ntmps164 rfl ?_
      intro w0 hw0
      refine T.seq <| T.region <| SL.w (op_box rfl) ?_
      rintro _ _ _ ⟨B1, rfl, rfl, rfl⟩
      refine SL.as rfl <| SL.nil <| T.seq <| T.region <| SL.v (op_fieldAddr fa70_2 rfl) <| SL.v (op_load ty59 rfl (by repeat constructor) rfl) ?_
      refine SL.v (op_lenS Tryz.underlying59 rfl) <| SL.as rfl <| SL.nil <| T.seq <| T.seq <| T.region <| SL.v (op_fieldAddr fa70_0 rfl) <| SL.v (op_load ty33 rfl (by repeat constructor) rfl) ?_
      refine SL.nil <| T.block <| T.seq <| T.seq <| T.region <| SL.v (op_eqlT rfl rfl (by omega)) ?_
      refine SL.as rfl <| SL.nil <| T.condT rfl <| T.skip <| T.condT rfl <| T.seq <| T.region <| SL.mv rfl <| SL.v (op_eqlT rfl rfl (by omega)) ?_
      refine SL.as rfl <| SL.nil <| T.ret1 rfl (ResIs.tmp rfl) ?_
      rw [decide_eq_true (e.2 hk1)]
    · refine Spec.enter Tryz.func164 rfl Tryz.ntmps164 rfl ?_
      intro w0 hw0
      refine T.seq <| T.region <| SL.w (op_box rfl) ?_
      rintro _ _ _ ⟨B1, rfl, rfl, rfl⟩
      refine SL.as rfl <| SL.nil <| T.seq <| T.region <| SL.v (op_fieldAddr fa70_2 rfl) <| SL.v (op_load ty59 rfl (by repeat constructor) rfl) ?_
      refine SL.v (op_lenS Tryz.underlying59 rfl) <| SL.as rfl <| SL.nil <| T.seq <| T.seq <| T.region <| SL.v (op_fieldAddr fa70_0 rfl) <| SL.v (op_load ty33 rfl (by repeat constructor) rfl) ?_
      refine SL.nil <| T.block <| T.seq <| T.seq <| T.region <| SL.v (op_eqlT rfl rfl (by omega)) ?_
      refine SL.as rfl <| SL.nil <| T.condT rfl <| T.skip <| T.condT rfl <| T.seq <| T.region <| SL.mv rfl <| SL.v (op_eqlF rfl rfl (by omega)) ?_
      refine SL.as rfl <| SL.nil <| T.ret1 rfl (ResIs.tmp rfl) ?_
      rw [decide_eq_false fun h => hk1 (e.1 h)]
  · by_cases h6 : op = 6
    · have e : namN op k ↔ k = 1 := by simp [namN, h6]
      by_cases hk1 : k = 1
      · refine Spec.enter Tryz.func164 rfl Tryz.ntmps164 rfl ?_
        intro w0 hw0
        refine T.seq <| T.region <| SL.w (op_box rfl) ?_
        rintro _ _ _ ⟨B1, rfl, rfl, rfl⟩
        refine SL.as rfl <| SL.nil <| T.seq <| T.region <| SL.v (op_fieldAddr fa70_2 rfl) <| SL.v (op_load ty59 rfl (by repeat constructor) rfl) ?_
        refine SL.v (op_lenS Tryz.underlying59 rfl) <| SL.as rfl <| SL.nil <| T.seq <| T.seq <| T.region <| SL.v (op_fieldAddr fa70_0 rfl) <| SL.v (op_load ty33 rfl (by repeat constructor) rfl) ?_
        refine SL.nil <| T.block <| T.seq <| T.seq <| T.region <| SL.v (op_eqlF rfl rfl (by omega)) ?_
        refine SL.as rfl <| SL.nil <| T.condF rfl <| T.region <| SL.v (op_eqlT rfl rfl (by omega)) ?_
        refine SL.as rfl <| SL.nil <| T.condT rfl <| T.seq <| T.region <| SL.mv rfl <| SL.v (op_eqlT rfl rfl (by omega)) ?_
        refine SL.as rfl <| SL.nil <| T.ret1 rfl (ResIs.tmp rfl) ?_
        rw [decide_eq_true (e.2 hk1)]
      · refine Spec.enter Tryz.func164 rfl Tryz.ntmps164 rfl ?_
        intro w0 hw0
        refine T.seq <| T.region <| SL.w (op_box rfl) ?_
        rintro _ _ _ ⟨B1, rfl, rfl, rfl⟩
        refine SL.as rfl <| SL.nil <| T.seq <| T.region <| SL.v (op_fieldAddr fa70_2 rfl) <| SL.v (op_load ty59 rfl (by repeat constructor) rfl) ?_
        refine SL.v (op_lenS Tryz.underlying59 rfl) <| SL.as rfl <| SL.nil <| T.seq <| T.seq <| T.region <| SL.v (op_fieldAddr fa70_0 rfl) <| SL.v (op_load ty33 rfl (by repeat constructor) rfl) ?_
        refine SL.nil <| T.block <| T.seq <| T.seq <| T.region <| SL.v (op_eqlF rfl rfl (by omega)) ?_
        refine SL.as rfl <| SL.nil <| T.condF rfl <| T.region <| SL.v (op_eqlT rfl rfl (by omega)) ?_
        refine SL.as rfl <| SL.nil <| T.condT rfl <| T.seq <| T.region <| SL.mv rfl <| SL.v (op_eqlF rfl rfl (by omega)) ?_
        refine SL.as rfl <| SL.nil <| T.ret1 rfl (ResIs.tmp rfl) ?_
        rw [decide_eq_false fun h => hk1 (e.1 h)]
    · by_cases h5 : op = 5
      · have e : namN op k ↔ 1 ≤ k ∧ k ≤ 8 := by simp [namN, h5]
        by_cases hk1 : 1 ≤ k
        · by_cases hk8 : k ≤ 8
          · refine Spec.enter Tryz.func164 rfl Tryz.ntmps164 rfl ?_
            intro w0 hw0
            refine T.seq <| T.region <| SL.w (op_box rfl) ?_
            rintro _ _ _ ⟨B1, rfl, rfl, rfl⟩
            refine SL.as rfl <| SL.nil <| T.seq <| T.region <| SL.v (op_fieldAddr fa70_2 rfl) <| SL.v (op_load ty59 rfl (by repeat constructor) rfl) ?_
            refine SL.v (op_lenS Tryz.underlying59 rfl) <| SL.as rfl <| SL.nil <| T.seq <| T.seq <| T.region <| SL.v (op_fieldAddr fa70_0 rfl) <| SL.v (op_load ty33 rfl (by repeat constructor) rfl) ?_
            refine SL.nil <| T.block <| T.seq <| T.seq <| T.region <| SL.v (op_eqlF rfl rfl (by omega)) ?_
            refine SL.as rfl <| SL.nil <| T.condF rfl <| T.region <| SL.v (op_eqlF rfl rfl (by omega)) ?_
            refine SL.as rfl <| SL.nil <| T.condF rfl <| T.seq <| T.region <| SL.v (op_eqlT rfl rfl (by omega)) ?_
            refine SL.as rfl <| SL.nil <| T.condT rfl <| T.seq <| T.region <| SL.mv rfl <| SL.v (op_geqT rfl rfl (by omega)) ?_
            refine SL.mv rfl <| SL.mv rfl <| SL.v (op_leqT rfl rfl (by omega)) ?_
            refine SL.v (op_pickT rfl rfl) <| SL.as rfl <| SL.nil <| T.ret1 rfl (ResIs.tmp rfl) ?_
            rw [decide_eq_true (e.2 ⟨hk1, hk8⟩)]
          · refine Spec.enter Tryz.func164 rfl Tryz.ntmps164 rfl ?_
            intro w0 hw0
            refine T.seq <| T.region <| SL.w (op_box rfl) ?_
            rintro _ _ _ ⟨B1, rfl, rfl, rfl⟩
            refine SL.as rfl <| SL.nil <| T.seq <| T.region <| SL.v (op_fieldAddr fa70_2 rfl) <| SL.v (op_load ty59 rfl (by repeat constructor) rfl) ?_
            refine SL.v (op_lenS Tryz.underlying59 rfl) <| SL.as rfl <| SL.nil <| T.seq <| T.seq <| T.region <| SL.v (op_fieldAddr fa70_0 rfl) <| SL.v (op_load ty33 rfl (by repeat constructor) rfl) ?_
            refine SL.nil <| T.block <| T.seq <| T.seq <| T.region <| SL.v (op_eqlF rfl rfl (by omega)) ?_
            refine SL.as rfl <| SL.nil <| T.condF rfl <| T.region <| SL.v (op_eqlF rfl rfl (by omega)) ?_
            refine SL.as rfl <| SL.nil <| T.condF rfl <| T.seq <| T.region <| SL.v (op_eqlT rfl rfl (by omega)) ?_
            refine SL.as rfl <| SL.nil <| T.condT rfl <| T.seq <| T.region <| SL.mv rfl <| SL.v (op_geqT rfl rfl (by omega)) ?_
            refine SL.mv rfl <| SL.mv rfl <| SL.v (op_leqF rfl rfl (by omega)) ?_
            refine SL.v (op_pickT rfl rfl) <| SL.as rfl <| SL.nil <| T.ret1 rfl (ResIs.tmp rfl) ?_
            rw [decide_eq_false fun h => hk8 (e.1 h).2]
        · refine Spec.enter Tryz.func164 rfl Tryz.ntmps164 rfl ?_
          intro w0 hw0
          refine T.seq <| T.region <| SL.w (op_box rfl) ?_
          rintro _ _ _ ⟨B1, rfl, rfl, rfl⟩
          refine SL.as rfl <| SL.nil <| T.seq <| T.region <| SL.v (op_fieldAddr fa70_2 rfl) <| SL.v (op_load ty59 rfl (by repeat constructor) rfl) ?_
          refine SL.v (op_lenS Tryz.underlying59 rfl) <| SL.as rfl <| SL.nil <| T.seq <| T.seq <| T.region <| SL.v (op_fieldAddr fa70_0 rfl) <| SL.v (op_load ty33 rfl (by repeat constructor) rfl) ?_
          refine SL.nil <| T.block <| T.seq <| T.seq <| T.region <| SL.v (op_eqlF rfl rfl (by omega)) ?_
          refine SL.as rfl <| SL.nil <| T.condF rfl <| T.region <| SL.v (op_eqlF rfl rfl (by omega)) ?_
          refine SL.as rfl <| SL.nil <| T.condF rfl <| T.seq <| T.region <| SL.v (op_eqlT rfl rfl (by omega)) ?_
          refine SL.as rfl <| SL.nil <| T.condT rfl <| T.seq <| T.region <| SL.mv rfl <| SL.v (op_geqF rfl rfl (by omega)) ?_
          refine SL.mv rfl <| SL.skip rfl rfl ?_
          refine SL.skip rfl rfl ?_
          refine SL.v (op_pickF rfl rfl) <| SL.as rfl <| SL.nil <| T.ret1 rfl (ResIs.tmp rfl) ?_
          rw [decide_eq_false fun h => hk1 (e.1 h).1]
      · have e : namN op k ↔ k = 0 := by simp [namN, h4, h5, h6]
        by_cases hk0 : k = 0
        · refine Spec.enter Tryz.func164 rfl Tryz.ntmps164 rfl ?_
          intro w0 hw0
          refine T.seq <| T.region <| SL.w (op_box rfl) ?_
          rintro _ _ _ ⟨B1, rfl, rfl, rfl⟩
          refine SL.as rfl <| SL.nil <| T.seq <| T.region <| SL.v (op_fieldAddr fa70_2 rfl) <| SL.v (op_load ty59 rfl (by repeat constructor) rfl) ?_
          refine SL.v (op_lenS Tryz.underlying59 rfl) <| SL.as rfl <| SL.nil <| T.seq <| T.seq <| T.region <| SL.v (op_fieldAddr fa70_0 rfl) <| SL.v (op_load ty33 rfl (by repeat constructor) rfl) ?_
          refine SL.nil <| T.block <| T.seq <| T.seq <| T.region <| SL.v (op_eqlF rfl rfl (by omega)) ?_
          refine SL.as rfl <| SL.nil <| T.condF rfl <| T.region <| SL.v (op_eqlF rfl rfl (by omega)) ?_
          refine SL.as rfl <| SL.nil <| T.condF rfl <| T.seq <| T.region <| SL.v (op_eqlF rfl rfl (by omega)) ?_
          refine SL.as rfl <| SL.nil <| T.condF rfl <| T.skip <| T.blk <| T.seq <| T.region <| SL.mv rfl <| SL.v (op_eqlT rfl rfl (by omega)) ?_
          refine SL.as rfl <| SL.nil <| T.ret1 rfl (ResIs.tmp rfl) ?_
          rw [decide_eq_true (e.2 hk0)]
        · refine Spec.enter Tryz.func164 rfl Tryz.ntmps164 rfl ?_
          intro w0 hw0
          refine T.seq <| T.region <| SL.w (op_box rfl) ?_
          rintro _ _ _ ⟨B1, rfl, rfl, rfl⟩
          refine SL.as rfl <| SL.nil <| T.seq <| T.region <| SL.v (op_fieldAddr fa70_2 rfl) <| SL.v (op_load ty59 rfl (by repeat constructor) rfl) ?_
          refine SL.v (op_lenS Tryz.underlying59 rfl) <| SL.as rfl <| SL.nil <| T.seq <| T.seq <| T.region <| SL.v (op_fieldAddr fa70_0 rfl) <| SL.v (op_load ty33 rfl (by repeat constructor) rfl) ?_
          refine SL.nil <| T.block <| T.seq <| T.seq <| T.region <| SL.v (op_eqlF rfl rfl (by omega)) ?_
          refine SL.as rfl <| SL.nil <| T.condF rfl <| T.region <| SL.v (op_eqlF rfl rfl (by omega)) ?_
          refine SL.as rfl <| SL.nil <| T.condF rfl <| T.seq <| T.region <| SL.v (op_eqlF rfl rfl (by omega)) ?_
          refine SL.as rfl <| SL.nil <| T.condF rfl <| T.skip <| T.blk <| T.seq <| T.region <| SL.mv rfl <| SL.v (op_eqlF rfl rfl (by omega)) ?_
          refine SL.as rfl <| SL.nil <| T.ret1 rfl (ResIs.tmp rfl) ?_
          rw [decide_eq_false fun h => hk0 (e.1 h)]
theorem inval_spec {X : PMap} {s : ByteArray} : Spec Tryz.prog 166 [.string s] X fun u _ => u = .bool (decide (¬validS s)) := by
  refine Spec.enter Tryz.func166 rfl Tryz.ntmps166 rfl ?_
  intro w0 hw0
  refine T.seq <| T.region <| SL.as rfl <| SL.nil <| T.seq <| T.region <| SL.mv rfl <| SL.w (op_callF en94 (vs := [_]) rfl (nvalid_spec)) ?_
  rintro _ _ X1 ⟨rfl, hX1, rfl⟩
  refine SL.v (op_not rfl) <| SL.as rfl <| SL.nil <| T.ret1 rfl (ResIs.tmp rfl) ?_
  rw [decide_not]
theorem idxf_spec {X : PMap} {v : Value} {l : List ByteArray} (h : RowR strC X v l) (hl : l.length < 1000000000000) : Spec Tryz.prog 193 [v, .func (.func 166) #[] #[]] X fun u _ => ∃ k : Int, u = .int .i64 k ∧ (0 ≤ k ↔ ¬∀ s ∈ l, validS s) := by
  obtain ⟨A, cp, rfl⟩ := h.form
  refine Spec.enter Tryz.func193 rfl Tryz.ntmps193 rfl ?_
  intro w0 hw0
  refine T.seq <| T.region <| SL.v (op_assign (v := .int .i64 ((0 : Nat) : Int)) rfl) <| SL.nil <| T.seq <| T.seq <| T.region <| SL.mv rfl <| SL.v (op_lenS Tryz.underlying59 rfl) <| SL.v (op_move (v := .int .i64 ((0 : Nat) : Int)) rfl) <| SL.nil <| T.block <| T.loopW (fun m env own X' => ∃ i : Nat, m = l.length - i ∧ i ≤ l.length ∧ X.le X' ∧ (∀ q x, q < i → l[q]? = some x → validS x) ∧ env = [(0, .slice A l.length cp), (1, .func (.func 166) #[] #[]), (7, .int .i64 (l.length : Int)), (8, .int .i64 (i : Int))] ∧ own = []) l.length ⟨0, by simp, by omega, PMap.le_refl _, fun q x hq => absurd hq (by omega), rfl, rfl⟩ (by repeat (first | exact Sub.nil | refine Sub.cons rfl ?_)) ?_
  rintro m _ _ X1 ⟨i, rfl, hi, hX1, hne, rfl, rfl⟩
  rcases Nat.lt_or_ge i l.length with hil | hil
  · obtain ⟨x, hx⟩ : ∃ x, l[i]? = some x := ⟨_, List.getElem?_eq_getElem hil⟩
    obtain ⟨b, pre, rfl, hB⟩ := h.blk (by omega)
    refine T.seq <| T.region <| SL.v (op_lssT rfl rfl (by omega)) ?_
    refine SL.nil <| T.seq <| T.condT rfl <| T.skip <| T.seq <| T.block <| T.seq <| T.region <| SL.mv rfl <| SL.as rfl <| SL.nil <| T.seq <| T.region <| SL.mv rfl <| SL.mv rfl ?_
    refine SL.mv rfl <| SL.v (op_indexN Tryz.underlying59 ty9 rfl rfl (by omega)) ?_
    refine SL.v (op_loadX ty9 rfl (hB.mono hX1) (str_read hx (by omega))) ?_
    refine SL.w (op_call en166 rfl (vs := [_]) rfl inval_spec) ?_
    rintro _ _ X2 ⟨rfl, hX2, rfl⟩
    by_cases hc : ¬validS x
    · rw [decide_eq_true hc]
      refine SL.nil <| T.condT rfl <| T.seq <| T.region <| SL.mv rfl <| SL.as rfl <| SL.nil <| T.ret1 rfl (ResIs.tmp rfl) ?_
      exact ⟨_, rfl, fun _ hall => hc (hall x (List.mem_of_getElem? hx)), fun _ => by omega⟩
    · rw [decide_eq_false hc]
      refine SL.nil <| T.condF rfl <| T.skip <| T.blk <| T.region <| SL.v (op_addN (q := 1) rfl rfl (by omega)) ?_
      refine SL.mv rfl <| SL.nil ?_
      have hne2 : ∀ (q : Nat) (y : ByteArray), q < i + 1 → l[q]? = some y → validS y := fun q y hq hy => by
        rcases Nat.lt_or_ge q i with h1 | h1
        · exact hne q y h1 hy
        · obtain rfl : q = i := by omega
          rw [hx] at hy; cases hy; exact Classical.not_not.1 hc
      exact T.backW (l.length - (i + 1)) (by omega) ⟨i + 1, rfl, by omega, hX1.trans' hX2, hne2, rfl, rfl⟩ (by repeat (first | exact Sub.nil | refine Sub.cons rfl ?_))
  · refine T.seq <| T.region <| SL.v (op_lssF rfl rfl (by omega)) ?_
    refine SL.nil <| T.seq <| T.condF rfl ?_
    refine T.exit (T.exitCode (T.exitCut (T.exitBlk ?_)))
    refine T.seq <| T.region <| SL.as rfl <| SL.nil <| T.ret1 rfl (ResIs.tmp rfl) ?_
    refine ⟨_, rfl, fun h => absurd h (by omega), fun hm => ?_⟩
    refine absurd (fun s hs => ?_) hm
    obtain ⟨q, hq⟩ := List.mem_iff_getElem?.1 hs
    have h1 := (List.getElem?_eq_some_iff.1 hq).1
    exact hne q s (by omega) hq
theorem contf_spec {X : PMap} {v : Value} {l : List ByteArray} (h : RowR strC X v l) (hl : l.length < 1000000000000) : Spec Tryz.prog 165 [v, .func (.func 166) #[] #[]] X fun u _ => ∃ b : Bool, u = .bool b ∧ (b = true ↔ ¬∀ s ∈ l, validS s) := by
  obtain ⟨A, cp, rfl⟩ := h.form
  refine Spec.enter Tryz.func165 rfl Tryz.ntmps165 rfl ?_
  intro w0 hw0
  refine T.seq <| T.region <| SL.as rfl <| SL.nil <| T.seq <| T.region <| SL.mv rfl <| SL.mv rfl <| SL.w (op_callF en193 (vs := [_, _]) rfl (idxf_spec h hl)) ?_
  rintro _ _ X1 ⟨rfl, hX1, k, rfl, hk⟩
  refine SL.v (op_geq rfl rfl) <| SL.as rfl <| SL.nil <| T.ret1 rfl (ResIs.tmp rfl) ?_
  exact ⟨_, rfl, by rw [decide_eq_true_eq]; exact hk⟩
theorem nodeL_at {al : List Ex} {i : Nat} {a : Ex} (h0 : nodeL (al.take i) = 0) (ha : al[i]? = some a) (hz : nodeE a ≠ 0) : nodeL al = nodeE a := by
  obtain ⟨h1, h2⟩ := List.getElem?_eq_some_iff.1 ha
  have e : al = al.take i ++ a :: al.drop (i + 1) := by rw [← h2, ← List.drop_eq_getElem_cons h1, List.take_append_drop]
  rw [e, nodeL_app, if_neg (by simp [h0]), nodeL, if_pos hz]
theorem nodeL_snoc {al : List Ex} {i : Nat} {a : Ex} (h0 : nodeL (al.take i) = 0) (ha : al[i]? = some a) (hz : nodeE a = 0) : nodeL (al.take (i + 1)) = 0 := by
  rw [take_snoc ha, nodeL_app, if_neg (by simp [h0]), nodeL, if_neg (by simp [hz]), nodeL]
theorem node_spec (N : Nat) : ∀ {X : PMap} {e : Ex} {r : Row4}, wtE e ≤ N → N < 100000000 → ExR .u8 X e r → Spec Tryz.prog 123 [.agg #[r.1, r.2.1, r.2.2.1, r.2.2.2]] X fun u _ => u = .int .i64 (nodeE e) := by
  induction N with
  | zero => intro X e r h; cases e; rw [wtE] at h; omega
  | succ N ih =>
    intro X e r hN hB h
    cases h with
    | @mk op n ns al vn va rows hn ha hl hr =>
    obtain ⟨Aa, ca, rfl⟩ := ha.form
    obtain ⟨An, cn, rfl⟩ := hn.form
    have hlen := wtL_len al
    have hnl := wtS_len ns
    rw [wtE] at hN
    by_cases a1 : op < 1
    · have e := own1 (k := al.length) (n := n) (ns := ns) (.inl a1)
      refine Spec.enter Tryz.func123 rfl Tryz.ntmps123 rfl ?_
      intro w0 hw0
      refine T.seq <| T.region <| SL.w (op_box rfl) ?_
      rintro _ _ _ ⟨B1, rfl, rfl, rfl⟩
      refine SL.v (op_assign (v := .int .i64 ((0 : Nat) : Int)) rfl) <| SL.nil <| T.seq <| T.block <| T.seq <| T.draw (by kernel_rfl) 18 [.t 0, .t 1, .t 2, .t 3, .t 4, .t 5, .t 6, .t 7, .t 8, .t 9, .t 10, .t 11, .t 12, .t 13, .r 14, .t 15, .t 16, .t 17] (by kernel_rfl) ?_
      refine SD.take rfl panicBody (op_fieldAddr fa70_0 rfl) rfl rfl ?_
      refine SD.take rfl panicBody (op_load ty33 rfl (by repeat constructor) rfl) rfl rfl ?_
      refine SD.take rfl panicBody (op_lssT rfl rfl (by omega)) rfl rfl ?_
      refine SD.take rfl panicBody (op_move rfl) rfl rfl ?_
      refine SD.skip rfl panicBody rfl rfl ?_
      refine SD.skip rfl panicBody rfl rfl ?_
      refine SD.skip rfl panicBody rfl rfl ?_
      refine SD.take rfl panicBody (op_pickT rfl rfl) rfl rfl ?_
      refine SD.take rfl panicBody (op_move rfl) rfl rfl ?_
      refine SD.skip rfl panicBody rfl rfl ?_
      refine SD.skip rfl panicBody rfl rfl ?_
      refine SD.skip rfl panicBody rfl rfl ?_
      refine SD.skip rfl panicBody rfl rfl ?_
      refine SD.skip rfl panicBody rfl rfl ?_
      refine SD.skipF rfl rfl rfl ?_
      refine SD.skip rfl panicBody rfl rfl ?_
      refine SD.take rfl panicBody (op_pickT rfl rfl) rfl rfl ?_
      refine SD.take rfl panicBody (op_assign rfl) rfl rfl ?_
      refine SD.nil ?_
      show SL _ _ _ _ _ _ _ [] _ _ _
      refine SL.nil <| T.condT rfl <| T.seq <| T.region <| SL.v (op_assign (v := .int .i64 ((1 : Nat) : Int)) rfl) <| SL.nil <| T.ret1 rfl (ResIs.tmp rfl) ?_
      rw [node_own (by rw [e]; decide), e]; rfl
    by_cases a2 : 16 < op
    · have e := own1 (k := al.length) (n := n) (ns := ns) (.inr (.inl a2))
      refine Spec.enter Tryz.func123 rfl Tryz.ntmps123 rfl ?_
      intro w0 hw0
      refine T.seq <| T.region <| SL.w (op_box rfl) ?_
      rintro _ _ _ ⟨B1, rfl, rfl, rfl⟩
      refine SL.v (op_assign (v := .int .i64 ((0 : Nat) : Int)) rfl) <| SL.nil <| T.seq <| T.block <| T.seq <| T.draw (by kernel_rfl) 18 [.t 0, .t 1, .t 2, .t 3, .t 4, .t 5, .t 6, .t 7, .t 8, .t 9, .t 10, .t 11, .t 12, .t 13, .r 14, .t 15, .t 16, .t 17] (by kernel_rfl) ?_
      refine SD.take rfl panicBody (op_fieldAddr fa70_0 rfl) rfl rfl ?_
      refine SD.take rfl panicBody (op_load ty33 rfl (by repeat constructor) rfl) rfl rfl ?_
      refine SD.take rfl panicBody (op_lssF rfl rfl (by omega)) rfl rfl ?_
      refine SD.take rfl panicBody (op_move rfl) rfl rfl ?_
      refine SD.take rfl panicBody (op_fieldAddr fa70_0 rfl) rfl rfl ?_
      refine SD.take rfl panicBody (op_load ty33 rfl (by repeat constructor) rfl) rfl rfl ?_
      refine SD.take rfl panicBody (op_gtrT rfl rfl (by omega)) rfl rfl ?_
      refine SD.take rfl panicBody (op_pickF rfl rfl) rfl rfl ?_
      refine SD.take rfl panicBody (op_move rfl) rfl rfl ?_
      refine SD.skip rfl panicBody rfl rfl ?_
      refine SD.skip rfl panicBody rfl rfl ?_
      refine SD.skip rfl panicBody rfl rfl ?_
      refine SD.skip rfl panicBody rfl rfl ?_
      refine SD.skip rfl panicBody rfl rfl ?_
      refine SD.skipF rfl rfl rfl ?_
      refine SD.skip rfl panicBody rfl rfl ?_
      refine SD.take rfl panicBody (op_pickT rfl rfl) rfl rfl ?_
      refine SD.take rfl panicBody (op_assign rfl) rfl rfl ?_
      refine SD.nil ?_
      show SL _ _ _ _ _ _ _ [] _ _ _
      refine SL.nil <| T.condT rfl <| T.seq <| T.region <| SL.v (op_assign (v := .int .i64 ((1 : Nat) : Int)) rfl) <| SL.nil <| T.ret1 rfl (ResIs.tmp rfl) ?_
      rw [node_own (by rw [e]; decide), e]; rfl
    by_cases a3 : al.length = argN op
    case neg =>
      have e := own1 (k := al.length) (op := op) (n := n) (ns := ns) (.inr (.inr a3))
      refine Spec.enter Tryz.func123 rfl Tryz.ntmps123 rfl ?_
      intro w0 hw0
      refine T.seq <| T.region <| SL.w (op_box rfl) ?_
      rintro _ _ _ ⟨B1, rfl, rfl, rfl⟩
      refine SL.v (op_assign (v := .int .i64 ((0 : Nat) : Int)) rfl) <| SL.nil <| T.seq <| T.block <| T.seq <| T.draw (by kernel_rfl) 18 [.t 0, .t 1, .t 2, .t 3, .t 4, .t 5, .t 6, .t 7, .t 8, .t 9, .t 10, .t 11, .t 12, .t 13, .r 14, .t 15, .t 16, .t 17] (by kernel_rfl) ?_
      refine SD.take rfl panicBody (op_fieldAddr fa70_0 rfl) rfl rfl ?_
      refine SD.take rfl panicBody (op_load ty33 rfl (by repeat constructor) rfl) rfl rfl ?_
      refine SD.take rfl panicBody (op_lssF rfl rfl (by omega)) rfl rfl ?_
      refine SD.take rfl panicBody (op_move rfl) rfl rfl ?_
      refine SD.take rfl panicBody (op_fieldAddr fa70_0 rfl) rfl rfl ?_
      refine SD.take rfl panicBody (op_load ty33 rfl (by repeat constructor) rfl) rfl rfl ?_
      refine SD.take rfl panicBody (op_gtrF rfl rfl (by omega)) rfl rfl ?_
      refine SD.take rfl panicBody (op_pickF rfl rfl) rfl rfl ?_
      refine SD.take rfl panicBody (op_move rfl) rfl rfl ?_
      refine SD.take rfl panicBody (op_fieldAddr fa70_3 rfl) rfl rfl ?_
      refine SD.take rfl panicBody (op_load ty68 rfl (by repeat constructor) rfl) rfl rfl ?_
      refine SD.take rfl panicBody (op_lenS Tryz.underlying68 rfl) rfl rfl ?_
      refine SD.take rfl panicBody (op_fieldAddr fa70_0 rfl) rfl rfl ?_
      refine SD.take rfl panicBody (op_load ty33 rfl (by repeat constructor) rfl) rfl rfl ?_
      refine SD.run rfl (op_callF en163 (vs := [_]) rfl (argN_spec)) rfl rfl ?_
      rintro _ _ X1 ⟨rfl, hX1, rfl⟩
      rw [← hl] at a3
      refine SD.take rfl panicBody (op_neqT rfl rfl (by omega)) rfl rfl ?_
      refine SD.take rfl panicBody (op_pickF rfl rfl) rfl rfl ?_
      refine SD.take rfl panicBody (op_assign rfl) rfl rfl ?_
      refine SD.nil ?_
      show SL _ _ _ _ _ _ _ [] _ _ _
      refine SL.nil <| T.condT rfl <| T.seq <| T.region <| SL.v (op_assign (v := .int .i64 ((1 : Nat) : Int)) rfl) <| SL.nil <| T.ret1 rfl (ResIs.tmp rfl) ?_
      rw [node_own (by rw [e]; decide), e]; rfl
    have hA1 : ¬(op < 1 ∨ 16 < op ∨ al.length ≠ argN op) := fun h => by omega
    by_cases hNN : n ≠ 0 ∧ op ≠ 1
    · obtain ⟨b1, b2⟩ := hNN
      have e := own6 (n := n) (ns := ns) hA1 (.inl ⟨b1, b2⟩)
      refine Spec.enter Tryz.func123 rfl Tryz.ntmps123 rfl ?_
      intro w0 hw0
      refine T.seq <| T.region <| SL.w (op_box rfl) ?_
      rintro _ _ _ ⟨B1, rfl, rfl, rfl⟩
      refine SL.v (op_assign (v := .int .i64 ((0 : Nat) : Int)) rfl) <| SL.nil <| T.seq <| T.block <| T.seq <| T.draw (by kernel_rfl) 18 [.t 0, .t 1, .t 2, .t 3, .t 4, .t 5, .t 6, .t 7, .t 8, .t 9, .t 10, .t 11, .t 12, .t 13, .r 14, .t 15, .t 16, .t 17] (by kernel_rfl) ?_
      refine SD.take rfl panicBody (op_fieldAddr fa70_0 rfl) rfl rfl ?_
      refine SD.take rfl panicBody (op_load ty33 rfl (by repeat constructor) rfl) rfl rfl ?_
      refine SD.take rfl panicBody (op_lssF rfl rfl (by omega)) rfl rfl ?_
      refine SD.take rfl panicBody (op_move rfl) rfl rfl ?_
      refine SD.take rfl panicBody (op_fieldAddr fa70_0 rfl) rfl rfl ?_
      refine SD.take rfl panicBody (op_load ty33 rfl (by repeat constructor) rfl) rfl rfl ?_
      refine SD.take rfl panicBody (op_gtrF rfl rfl (by omega)) rfl rfl ?_
      refine SD.take rfl panicBody (op_pickF rfl rfl) rfl rfl ?_
      refine SD.take rfl panicBody (op_move rfl) rfl rfl ?_
      refine SD.take rfl panicBody (op_fieldAddr fa70_3 rfl) rfl rfl ?_
      refine SD.take rfl panicBody (op_load ty68 rfl (by repeat constructor) rfl) rfl rfl ?_
      refine SD.take rfl panicBody (op_lenS Tryz.underlying68 rfl) rfl rfl ?_
      refine SD.take rfl panicBody (op_fieldAddr fa70_0 rfl) rfl rfl ?_
      refine SD.take rfl panicBody (op_load ty33 rfl (by repeat constructor) rfl) rfl rfl ?_
      refine SD.run rfl (op_callF en163 (vs := [_]) rfl (argN_spec)) rfl rfl ?_
      rintro _ _ X1 ⟨rfl, hX1, rfl⟩
      rw [← hl] at a3
      refine SD.take rfl panicBody (op_neqF rfl rfl (by omega)) rfl rfl ?_
      refine SD.take rfl panicBody (op_pickF rfl rfl) rfl rfl ?_
      refine SD.take rfl panicBody (op_assign rfl) rfl rfl ?_
      refine SD.nil ?_
      show SL _ _ _ _ _ _ _ [] _ _ _
      refine SL.nil <| T.condF rfl <| T.seq <| T.seq <| T.region <| SL.v (op_fieldAddr fa70_1 rfl) <| SL.v (op_load ty3 rfl (by repeat constructor) rfl) ?_
      refine SL.v (op_neqT rfl rfl (by omega)) ?_
      refine SL.mv rfl <| SL.v (op_fieldAddr fa70_0 rfl) <| SL.v (op_load ty33 rfl (by repeat constructor) rfl) ?_
      refine SL.v (op_neqT rfl rfl (by omega)) ?_
      refine SL.v (op_pickT rfl rfl) <| SL.as rfl <| SL.nil <| T.condT rfl <| T.skip <| T.condT rfl <| T.seq <| T.region <| SL.v (op_assign (v := .int .i64 ((6 : Nat) : Int)) rfl) <| SL.nil <| T.ret1 rfl (ResIs.tmp rfl) ?_
      rw [node_own (by rw [e]; decide), e]; rfl
    by_cases b1 : n = 0
    · skip
      refine Spec.enter Tryz.func123 rfl Tryz.ntmps123 rfl ?_
      intro w0 hw0
      refine T.seq <| T.region <| SL.w (op_box rfl) ?_
      rintro _ _ _ ⟨B1, rfl, rfl, rfl⟩
      refine SL.v (op_assign (v := .int .i64 ((0 : Nat) : Int)) rfl) <| SL.nil <| T.seq <| T.block <| T.seq <| T.draw (by kernel_rfl) 18 [.t 0, .t 1, .t 2, .t 3, .t 4, .t 5, .t 6, .t 7, .t 8, .t 9, .t 10, .t 11, .t 12, .t 13, .r 14, .t 15, .t 16, .t 17] (by kernel_rfl) ?_
      refine SD.take rfl panicBody (op_fieldAddr fa70_0 rfl) rfl rfl ?_
      refine SD.take rfl panicBody (op_load ty33 rfl (by repeat constructor) rfl) rfl rfl ?_
      refine SD.take rfl panicBody (op_lssF rfl rfl (by omega)) rfl rfl ?_
      refine SD.take rfl panicBody (op_move rfl) rfl rfl ?_
      refine SD.take rfl panicBody (op_fieldAddr fa70_0 rfl) rfl rfl ?_
      refine SD.take rfl panicBody (op_load ty33 rfl (by repeat constructor) rfl) rfl rfl ?_
      refine SD.take rfl panicBody (op_gtrF rfl rfl (by omega)) rfl rfl ?_
      refine SD.take rfl panicBody (op_pickF rfl rfl) rfl rfl ?_
      refine SD.take rfl panicBody (op_move rfl) rfl rfl ?_
      refine SD.take rfl panicBody (op_fieldAddr fa70_3 rfl) rfl rfl ?_
      refine SD.take rfl panicBody (op_load ty68 rfl (by repeat constructor) rfl) rfl rfl ?_
      refine SD.take rfl panicBody (op_lenS Tryz.underlying68 rfl) rfl rfl ?_
      refine SD.take rfl panicBody (op_fieldAddr fa70_0 rfl) rfl rfl ?_
      refine SD.take rfl panicBody (op_load ty33 rfl (by repeat constructor) rfl) rfl rfl ?_
      refine SD.run rfl (op_callF en163 (vs := [_]) rfl (argN_spec)) rfl rfl ?_
      rintro _ _ X1 ⟨rfl, hX1, rfl⟩
      rw [← hl] at a3
      refine SD.take rfl panicBody (op_neqF rfl rfl (by omega)) rfl rfl ?_
      refine SD.take rfl panicBody (op_pickF rfl rfl) rfl rfl ?_
      refine SD.take rfl panicBody (op_assign rfl) rfl rfl ?_
      refine SD.nil ?_
      show SL _ _ _ _ _ _ _ [] _ _ _
      refine SL.nil <| T.condF rfl <| T.seq <| T.seq <| T.region <| SL.v (op_fieldAddr fa70_1 rfl) <| SL.v (op_load ty3 rfl (by repeat constructor) rfl) ?_
      refine SL.v (op_neqF rfl rfl (by omega)) ?_
      refine SL.mv rfl <| SL.skip rfl rfl ?_
      refine SL.skip rfl rfl ?_
      refine SL.skip rfl rfl ?_
      refine SL.v (op_pickF rfl rfl) <| SL.as rfl <| SL.nil <| T.condF rfl <| T.region <| SL.v (op_load ty70 rfl (by repeat constructor) rfl) ?_
      refine SL.w (op_callF en164 (vs := [_]) rfl (named_spec (by omega))) ?_
      rintro _ _ X2 ⟨rfl, hX2, rfl⟩
      by_cases hnm : namN op ns.length
      case neg =>
        rw [decide_eq_false hnm]
        refine SL.v (op_not rfl) <| SL.as rfl <| SL.nil <| T.condT rfl <| T.seq <| T.region <| SL.v (op_assign (v := .int .i64 ((6 : Nat) : Int)) rfl) <| SL.nil <| T.ret1 rfl (ResIs.tmp rfl) ?_
        rw [node_own (by rw [own6 hA1 (.inr hnm)]; decide), own6 hA1 (.inr hnm)]; rfl
      rw [decide_eq_true hnm]
      have hA2 : ¬((n ≠ 0 ∧ op ≠ 1) ∨ ¬namN op ns.length) := fun h => h.elim (fun h => hNN h) (fun h => h hnm)
      refine SL.v (op_not rfl) <| SL.as rfl <| SL.nil <| T.condF rfl <| T.seq <| T.region <| SL.v (op_fieldAddr fa70_2 rfl) <| SL.v (op_load ty59 rfl (by repeat constructor) rfl) ?_
      refine SL.w (op_callF en165 (vs := [_, _]) rfl (contf_spec ((hn.mono hX1).mono hX2) (by omega))) ?_
      rintro _ _ X3 ⟨rfl, hX3, bv, rfl, hbv⟩
      cases bv with
      | true =>
        have hv := hbv.1 rfl
        refine SL.as rfl <| SL.nil <| T.condT rfl <| T.seq <| T.region <| SL.v (op_assign (v := .int .i64 ((9 : Nat) : Int)) rfl) <| SL.nil <| T.ret1 rfl (ResIs.tmp rfl) ?_
        rw [node_own (by rw [own9 hA1 hA2 hv]; decide), own9 hA1 hA2 hv]; rfl
      | false =>
      have hv : ∀ s ∈ ns, validS s := Classical.not_not.1 fun h => by have := hbv.2 h; cases this
      by_cases h5 : op = 5
      · subst h5
        have h18 : 1 ≤ ns.length ∧ ns.length ≤ 8 := by simpa [namN] using hnm
        have eA : allE (.mk 0 0 ns []) = ns := by simp [allE, allL]
        have hE : ExR .u8 X3 (.mk 0 0 ns []) (.int .u8 ((0 : Nat) : Int), .int .i64 0, .slice An ns.length cn, .slice none 0 0) := .mk (rows := []) (((hn.mono hX1).mono hX2).mono hX3) (.inl ⟨rfl, _, _, rfl⟩) rfl (fun i a r h => by simp at h)
        have hwE : wtE (.mk 0 0 ns []) < 100000000 := by rw [wtE, wtL]; omega
        have hcall : Spec Tryz.prog 35 [.agg #[.int .u8 0, .int .i64 0, .slice An ns.length cn, .slice none 0 0]] X3 fun u X' => ∃ l' : List ByteArray, l'.Perm ns ∧ AscS l' ∧ RowR strC X' u (compactS l') := by
          have := names_spec hwE hE (by rw [eA]; omega) (by rw [eA]; omega)
          rw [eA] at this
          exact this
        refine SL.as rfl <| SL.nil <| T.condF rfl <| T.seq <| T.draw (by kernel_rfl) 15 [.t 0, .t 1, .t 2, .t 3, .t 4, .t 5, .t 6, .t 9, .t 10, .t 11, .r 7, .t 8, .t 12, .t 13, .t 14] (by kernel_rfl) ?_
        refine SD.take rfl panicBody (op_fieldAddr fa70_0 rfl) rfl rfl ?_
        refine SD.take rfl panicBody (op_load ty33 rfl (by repeat constructor) rfl) rfl rfl ?_
        refine SD.take rfl panicBody (op_eqlT rfl rfl (by omega)) rfl rfl ?_
        refine SD.take rfl panicBody (op_move rfl) rfl rfl ?_
        refine SD.take rfl panicBody (op_fieldAddr fa70_2 rfl) rfl rfl ?_
        refine SD.take rfl panicBody (op_load ty59 rfl (by repeat constructor) rfl) rfl rfl ?_
        refine SD.take rfl panicBody (op_build st70 (qs := [(2, _)]) rfl rfl) rfl rfl ?_
        refine SD.take rfl panicBody (op_fieldAddr fa70_2 rfl) rfl rfl ?_
        refine SD.take rfl panicBody (op_load ty59 rfl (by repeat constructor) rfl) rfl rfl ?_
        refine SD.take rfl panicBody (op_lenS Tryz.underlying59 rfl) rfl rfl ?_
        refine SD.run rfl (op_callF en35 (vs := [_]) rfl (hcall)) rfl rfl ?_
        rintro u _ X4 ⟨rfl, hX4, l', hperm, hasc, hu⟩
        obtain ⟨Au, cu, rfl⟩ := hu.form
        have hcn := compact_nodup hasc
        have hcl := compact_len l'
        rw [hperm.nodup_iff, hperm.length_eq] at hcn
        rw [hperm.length_eq] at hcl
        by_cases hd : (compactS l').length < ns.length
        · have hnd : ¬ns.Nodup := fun h => by have := hcn.2 h; omega
          refine SD.take rfl panicBody (op_lenS Tryz.underlying59 rfl) rfl rfl ?_
          refine SD.take rfl panicBody (op_lssT rfl rfl (by omega)) rfl rfl ?_
          refine SD.take rfl panicBody (op_pickT rfl rfl) rfl rfl ?_
          refine SD.take rfl panicBody (op_assign rfl) rfl rfl ?_
          refine SD.nil ?_
          show SL _ _ _ _ _ _ _ [] _ _ _
          refine SL.nil <| T.condT rfl <| T.seq <| T.region <| SL.v (op_assign (v := .int .i64 ((5 : Nat) : Int)) rfl) <| SL.nil <| T.ret1 rfl (ResIs.tmp rfl) ?_
          rw [node_own (by rw [own5 hA1 hA2 hv hnd]; decide), own5 hA1 hA2 hv hnd]; rfl
        have hnd : ns.Nodup := hcn.1 (by omega)
        have hown := own0' hA1 hA2 hv hnd (by omega)
        have hXB := (hX1.trans' (hX2.trans' hX3)).trans' hX4
        refine SD.take rfl panicBody (op_lenS Tryz.underlying59 rfl) rfl rfl ?_
        refine SD.take rfl panicBody (op_lssF rfl rfl (by omega)) rfl rfl ?_
        refine SD.take rfl panicBody (op_pickT rfl rfl) rfl rfl ?_
        refine SD.take rfl panicBody (op_assign rfl) rfl rfl ?_
        refine SD.nil ?_
        show SL _ _ _ _ _ _ _ [] _ _ _
        refine SL.nil <| T.condF rfl <| T.seq <| T.region <| SL.v (op_fieldAddr fa70_1 rfl) <| SL.v (op_load ty3 rfl (by repeat constructor) rfl) ?_
        refine SL.v (op_lssF rfl rfl (by omega)) ?_
        refine SL.mv rfl <| SL.v (op_fieldAddr fa70_1 rfl) <| SL.v (op_load ty3 rfl (by repeat constructor) rfl) ?_
        refine SL.v (op_gtrF rfl rfl (by omega)) ?_
        refine SL.v (op_pickF rfl rfl) <| SL.as rfl <| SL.nil <| T.condF rfl <| T.skip <| T.blk <| T.seq <| T.seq <| T.region <| SL.v (op_fieldAddr fa70_3 rfl) <| SL.v (op_load ty68 rfl (by repeat constructor) rfl) ?_
        refine SL.v (op_lenS Tryz.underlying68 rfl) <| SL.v (op_move (v := .int .i64 ((0 : Nat) : Int)) rfl) <| SL.nil <| T.block <| T.drop B1 (by repeat constructor) ?_
        refine T.loopW (fun m env own X' => ∃ i : Nat, m = rows.length - i ∧ i ≤ rows.length ∧ X4.le X' ∧ nodeL (al.take i) = 0 ∧ env = [(65, .slice Aa rows.length ca), (66, .int .i64 (rows.length : Int)), (67, .int .i64 (i : Int))] ∧ own = []) rows.length ⟨0, by simp, by omega, PMap.le_refl _, by simp [nodeL], rfl, rfl⟩ (by repeat (first | exact Sub.nil | refine Sub.cons rfl ?_)) ?_
        rintro m _ _ X5 ⟨i, rfl, hi, hX5, hz0, rfl, rfl⟩
        rcases Nat.lt_or_ge i rows.length with hil | hil
        · obtain ⟨r2, hr2⟩ : ∃ r2, rows[i]? = some r2 := ⟨_, List.getElem?_eq_getElem hil⟩
          obtain ⟨a, ha2⟩ : ∃ a, al[i]? = some a := ⟨_, List.getElem?_eq_getElem (by omega)⟩
          have hra := hr i a r2 ha2 hr2
          obtain ⟨bA, pre, rfl, hbA⟩ := ha.blk (by omega)
          obtain ⟨_, _, _, _, _, _, _, _, rfl⟩ := hra.form
          have hwa := wtL_mem (List.mem_of_getElem? ha2)
          refine T.seq <| T.region <| SL.v (op_lssT rfl rfl (by omega)) ?_
          refine SL.nil <| T.seq <| T.condT rfl <| T.skip <| T.seq <| T.block <| T.seq <| T.region <| SL.v (op_indexN Tryz.underlying68 ty70 rfl rfl (by omega)) ?_
          refine SL.v (op_loadX ty70 rfl ((hbA.mono hXB).mono hX5) (row_read rc4_len hr2 (by omega))) ?_
          refine SL.w (op_alloc z70) ?_
          rintro _ _ _ ⟨B4, rfl, rfl, rfl⟩
          refine SL.w (op_store ty70 rfl rfl (by repeat constructor) rfl rfl rfl) ?_
          rintro _ _ _ ⟨rfl, rfl⟩
          refine SL.nil <| T.seq <| T.region <| SL.v (op_load ty70 rfl (by repeat constructor) rfl) ?_
          refine SL.w (op_callF en123 (vs := [_]) rfl (ih (by omega) (by omega) ((hra.mono hXB).mono hX5))) ?_
          rintro _ _ X6 ⟨rfl, hX6, rfl⟩
          by_cases hz : nodeE a = 0
          · skip
            refine SL.as rfl <| SL.nil <| T.seq <| T.region <| SL.mv rfl <| SL.v (op_neqF rfl rfl (by omega)) ?_
            refine SL.nil <| T.condF rfl <| T.skip <| T.blk <| T.region <| SL.v (op_addN (q := 1) rfl rfl (by omega)) ?_
            refine SL.mv rfl <| SL.nil <| T.drop B4 (by repeat constructor) ?_
            exact T.backW (rows.length - (i + 1)) (by omega) ⟨i + 1, rfl, by omega, hX5.trans' hX6, nodeL_snoc hz0 ha2 hz, rfl, rfl⟩ (by repeat (first | exact Sub.nil | refine Sub.cons rfl ?_))
          · refine SL.as rfl <| SL.nil <| T.seq <| T.region <| SL.mv rfl <| SL.v (op_neqT rfl rfl (by omega)) ?_
            refine SL.nil <| T.condT rfl <| T.seq <| T.region <| SL.mv rfl <| SL.as rfl <| SL.nil <| T.ret1 rfl (ResIs.tmp rfl) ?_
            rw [node_args hown, nodeL_at hz0 ha2 hz]
        · obtain rfl : i = rows.length := by omega
          rw [show al.take rows.length = al from List.take_of_length_le (by omega)] at hz0
          refine T.seq <| T.region <| SL.v (op_lssF rfl rfl (by omega)) ?_
          refine SL.nil <| T.seq <| T.condF rfl ?_
          refine T.exit (T.exitCode (T.exitCut (T.exitBlk ?_)))
          refine T.seq <| T.region <| SL.v (op_assign (v := .int .i64 ((0 : Nat) : Int)) rfl) <| SL.nil <| T.ret1 rfl (ResIs.tmp rfl) ?_
          rw [node_args hown, hz0]; rfl
      · have hown := fun hnd => own0' (op := op) (n := n) (ns := ns) (k := al.length) hA1 hA2 hv hnd (by omega)
        have hXB := hX1.trans' (hX2.trans' hX3)
        have hnd : ns.Nodup := nodup_small (by simp only [namN, h5, if_false] at hnm; split at hnm <;> omega)
        have hown := hown hnd
        refine SL.as rfl <| SL.nil <| T.condF rfl <| T.seq <| T.draw (by kernel_rfl) 15 [.t 0, .t 1, .t 2, .t 3, .t 4, .t 5, .t 6, .t 9, .t 10, .t 11, .r 7, .t 8, .t 12, .t 13, .t 14] (by kernel_rfl) ?_
        refine SD.take rfl panicBody (op_fieldAddr fa70_0 rfl) rfl rfl ?_
        refine SD.take rfl panicBody (op_load ty33 rfl (by repeat constructor) rfl) rfl rfl ?_
        refine SD.take rfl panicBody (op_eqlF rfl rfl (by omega)) rfl rfl ?_
        refine SD.take rfl panicBody (op_move rfl) rfl rfl ?_
        refine SD.skip rfl panicBody rfl rfl ?_
        refine SD.skip rfl panicBody rfl rfl ?_
        refine SD.skip rfl panicBody rfl rfl ?_
        refine SD.skip rfl panicBody rfl rfl ?_
        refine SD.skip rfl panicBody rfl rfl ?_
        refine SD.skip rfl panicBody rfl rfl ?_
        refine SD.skipF rfl rfl rfl ?_
        refine SD.skip rfl panicBody rfl rfl ?_
        refine SD.skip rfl panicBody rfl rfl ?_
        refine SD.take rfl panicBody (op_pickF rfl rfl) rfl rfl ?_
        refine SD.take rfl panicBody (op_assign rfl) rfl rfl ?_
        refine SD.nil ?_
        show SL _ _ _ _ _ _ _ [] _ _ _
        refine SL.nil <| T.condF rfl <| T.seq <| T.region <| SL.v (op_fieldAddr fa70_1 rfl) <| SL.v (op_load ty3 rfl (by repeat constructor) rfl) ?_
        refine SL.v (op_lssF rfl rfl (by omega)) ?_
        refine SL.mv rfl <| SL.v (op_fieldAddr fa70_1 rfl) <| SL.v (op_load ty3 rfl (by repeat constructor) rfl) ?_
        refine SL.v (op_gtrF rfl rfl (by omega)) ?_
        refine SL.v (op_pickF rfl rfl) <| SL.as rfl <| SL.nil <| T.condF rfl <| T.skip <| T.blk <| T.seq <| T.seq <| T.region <| SL.v (op_fieldAddr fa70_3 rfl) <| SL.v (op_load ty68 rfl (by repeat constructor) rfl) ?_
        refine SL.v (op_lenS Tryz.underlying68 rfl) <| SL.v (op_move (v := .int .i64 ((0 : Nat) : Int)) rfl) <| SL.nil <| T.block <| T.drop B1 (by repeat constructor) ?_
        refine T.loopW (fun m env own X' => ∃ i : Nat, m = rows.length - i ∧ i ≤ rows.length ∧ X3.le X' ∧ nodeL (al.take i) = 0 ∧ env = [(65, .slice Aa rows.length ca), (66, .int .i64 (rows.length : Int)), (67, .int .i64 (i : Int))] ∧ own = []) rows.length ⟨0, by simp, by omega, PMap.le_refl _, by simp [nodeL], rfl, rfl⟩ (by repeat (first | exact Sub.nil | refine Sub.cons rfl ?_)) ?_
        rintro m _ _ X5 ⟨i, rfl, hi, hX5, hz0, rfl, rfl⟩
        rcases Nat.lt_or_ge i rows.length with hil | hil
        · obtain ⟨r2, hr2⟩ : ∃ r2, rows[i]? = some r2 := ⟨_, List.getElem?_eq_getElem hil⟩
          obtain ⟨a, ha2⟩ : ∃ a, al[i]? = some a := ⟨_, List.getElem?_eq_getElem (by omega)⟩
          have hra := hr i a r2 ha2 hr2
          obtain ⟨bA, pre, rfl, hbA⟩ := ha.blk (by omega)
          obtain ⟨_, _, _, _, _, _, _, _, rfl⟩ := hra.form
          have hwa := wtL_mem (List.mem_of_getElem? ha2)
          refine T.seq <| T.region <| SL.v (op_lssT rfl rfl (by omega)) ?_
          refine SL.nil <| T.seq <| T.condT rfl <| T.skip <| T.seq <| T.block <| T.seq <| T.region <| SL.v (op_indexN Tryz.underlying68 ty70 rfl rfl (by omega)) ?_
          refine SL.v (op_loadX ty70 rfl ((hbA.mono hXB).mono hX5) (row_read rc4_len hr2 (by omega))) ?_
          refine SL.w (op_alloc z70) ?_
          rintro _ _ _ ⟨B4, rfl, rfl, rfl⟩
          refine SL.w (op_store ty70 rfl rfl (by repeat constructor) rfl rfl rfl) ?_
          rintro _ _ _ ⟨rfl, rfl⟩
          refine SL.nil <| T.seq <| T.region <| SL.v (op_load ty70 rfl (by repeat constructor) rfl) ?_
          refine SL.w (op_callF en123 (vs := [_]) rfl (ih (by omega) (by omega) ((hra.mono hXB).mono hX5))) ?_
          rintro _ _ X6 ⟨rfl, hX6, rfl⟩
          by_cases hz : nodeE a = 0
          · skip
            refine SL.as rfl <| SL.nil <| T.seq <| T.region <| SL.mv rfl <| SL.v (op_neqF rfl rfl (by omega)) ?_
            refine SL.nil <| T.condF rfl <| T.skip <| T.blk <| T.region <| SL.v (op_addN (q := 1) rfl rfl (by omega)) ?_
            refine SL.mv rfl <| SL.nil <| T.drop B4 (by repeat constructor) ?_
            exact T.backW (rows.length - (i + 1)) (by omega) ⟨i + 1, rfl, by omega, hX5.trans' hX6, nodeL_snoc hz0 ha2 hz, rfl, rfl⟩ (by repeat (first | exact Sub.nil | refine Sub.cons rfl ?_))
          · refine SL.as rfl <| SL.nil <| T.seq <| T.region <| SL.mv rfl <| SL.v (op_neqT rfl rfl (by omega)) ?_
            refine SL.nil <| T.condT rfl <| T.seq <| T.region <| SL.mv rfl <| SL.as rfl <| SL.nil <| T.ret1 rfl (ResIs.tmp rfl) ?_
            rw [node_args hown, nodeL_at hz0 ha2 hz]
        · obtain rfl : i = rows.length := by omega
          rw [show al.take rows.length = al from List.take_of_length_le (by omega)] at hz0
          refine T.seq <| T.region <| SL.v (op_lssF rfl rfl (by omega)) ?_
          refine SL.nil <| T.seq <| T.condF rfl ?_
          refine T.exit (T.exitCode (T.exitCut (T.exitBlk ?_)))
          refine T.seq <| T.region <| SL.v (op_assign (v := .int .i64 ((0 : Nat) : Int)) rfl) <| SL.nil <| T.ret1 rfl (ResIs.tmp rfl) ?_
          rw [node_args hown, hz0]; rfl
    · have hop : op = 1 := Decidable.not_not.1 fun h => hNN ⟨b1, h⟩
      refine Spec.enter Tryz.func123 rfl Tryz.ntmps123 rfl ?_
      intro w0 hw0
      refine T.seq <| T.region <| SL.w (op_box rfl) ?_
      rintro _ _ _ ⟨B1, rfl, rfl, rfl⟩
      refine SL.v (op_assign (v := .int .i64 ((0 : Nat) : Int)) rfl) <| SL.nil <| T.seq <| T.block <| T.seq <| T.draw (by kernel_rfl) 18 [.t 0, .t 1, .t 2, .t 3, .t 4, .t 5, .t 6, .t 7, .t 8, .t 9, .t 10, .t 11, .t 12, .t 13, .r 14, .t 15, .t 16, .t 17] (by kernel_rfl) ?_
      refine SD.take rfl panicBody (op_fieldAddr fa70_0 rfl) rfl rfl ?_
      refine SD.take rfl panicBody (op_load ty33 rfl (by repeat constructor) rfl) rfl rfl ?_
      refine SD.take rfl panicBody (op_lssF rfl rfl (by omega)) rfl rfl ?_
      refine SD.take rfl panicBody (op_move rfl) rfl rfl ?_
      refine SD.take rfl panicBody (op_fieldAddr fa70_0 rfl) rfl rfl ?_
      refine SD.take rfl panicBody (op_load ty33 rfl (by repeat constructor) rfl) rfl rfl ?_
      refine SD.take rfl panicBody (op_gtrF rfl rfl (by omega)) rfl rfl ?_
      refine SD.take rfl panicBody (op_pickF rfl rfl) rfl rfl ?_
      refine SD.take rfl panicBody (op_move rfl) rfl rfl ?_
      refine SD.take rfl panicBody (op_fieldAddr fa70_3 rfl) rfl rfl ?_
      refine SD.take rfl panicBody (op_load ty68 rfl (by repeat constructor) rfl) rfl rfl ?_
      refine SD.take rfl panicBody (op_lenS Tryz.underlying68 rfl) rfl rfl ?_
      refine SD.take rfl panicBody (op_fieldAddr fa70_0 rfl) rfl rfl ?_
      refine SD.take rfl panicBody (op_load ty33 rfl (by repeat constructor) rfl) rfl rfl ?_
      refine SD.run rfl (op_callF en163 (vs := [_]) rfl (argN_spec)) rfl rfl ?_
      rintro _ _ X1 ⟨rfl, hX1, rfl⟩
      rw [← hl] at a3
      refine SD.take rfl panicBody (op_neqF rfl rfl (by omega)) rfl rfl ?_
      refine SD.take rfl panicBody (op_pickF rfl rfl) rfl rfl ?_
      refine SD.take rfl panicBody (op_assign rfl) rfl rfl ?_
      refine SD.nil ?_
      show SL _ _ _ _ _ _ _ [] _ _ _
      refine SL.nil <| T.condF rfl <| T.seq <| T.seq <| T.region <| SL.v (op_fieldAddr fa70_1 rfl) <| SL.v (op_load ty3 rfl (by repeat constructor) rfl) ?_
      refine SL.v (op_neqT rfl rfl (by omega)) ?_
      refine SL.mv rfl <| SL.v (op_fieldAddr fa70_0 rfl) <| SL.v (op_load ty33 rfl (by repeat constructor) rfl) ?_
      refine SL.v (op_neqF rfl rfl (by omega)) ?_
      refine SL.v (op_pickT rfl rfl) <| SL.as rfl <| SL.nil <| T.condF rfl <| T.region <| SL.v (op_load ty70 rfl (by repeat constructor) rfl) ?_
      refine SL.w (op_callF en164 (vs := [_]) rfl (named_spec (by omega))) ?_
      rintro _ _ X2 ⟨rfl, hX2, rfl⟩
      by_cases hnm : namN op ns.length
      case neg =>
        rw [decide_eq_false hnm]
        refine SL.v (op_not rfl) <| SL.as rfl <| SL.nil <| T.condT rfl <| T.seq <| T.region <| SL.v (op_assign (v := .int .i64 ((6 : Nat) : Int)) rfl) <| SL.nil <| T.ret1 rfl (ResIs.tmp rfl) ?_
        rw [node_own (by rw [own6 hA1 (.inr hnm)]; decide), own6 hA1 (.inr hnm)]; rfl
      rw [decide_eq_true hnm]
      have hA2 : ¬((n ≠ 0 ∧ op ≠ 1) ∨ ¬namN op ns.length) := fun h => h.elim (fun h => hNN h) (fun h => h hnm)
      refine SL.v (op_not rfl) <| SL.as rfl <| SL.nil <| T.condF rfl <| T.seq <| T.region <| SL.v (op_fieldAddr fa70_2 rfl) <| SL.v (op_load ty59 rfl (by repeat constructor) rfl) ?_
      refine SL.w (op_callF en165 (vs := [_, _]) rfl (contf_spec ((hn.mono hX1).mono hX2) (by omega))) ?_
      rintro _ _ X3 ⟨rfl, hX3, bv, rfl, hbv⟩
      cases bv with
      | true =>
        have hv := hbv.1 rfl
        refine SL.as rfl <| SL.nil <| T.condT rfl <| T.seq <| T.region <| SL.v (op_assign (v := .int .i64 ((9 : Nat) : Int)) rfl) <| SL.nil <| T.ret1 rfl (ResIs.tmp rfl) ?_
        rw [node_own (by rw [own9 hA1 hA2 hv]; decide), own9 hA1 hA2 hv]; rfl
      | false =>
      have hv : ∀ s ∈ ns, validS s := Classical.not_not.1 fun h => by have := hbv.2 h; cases this
      have hnd : ns.Nodup := nodup_small (by simp [namN, hop] at hnm; rw [hnm]; simp)
      have hXB := hX1.trans' (hX2.trans' hX3)
      by_cases hlo : n < 0
      · have e := own2 hA1 hA2 hv hnd (.inl hlo)
        refine SL.as rfl <| SL.nil <| T.condF rfl <| T.seq <| T.draw (by kernel_rfl) 15 [.t 0, .t 1, .t 2, .t 3, .t 4, .t 5, .t 6, .t 9, .t 10, .t 11, .r 7, .t 8, .t 12, .t 13, .t 14] (by kernel_rfl) ?_
        refine SD.take rfl panicBody (op_fieldAddr fa70_0 rfl) rfl rfl ?_
        refine SD.take rfl panicBody (op_load ty33 rfl (by repeat constructor) rfl) rfl rfl ?_
        refine SD.take rfl panicBody (op_eqlF rfl rfl (by omega)) rfl rfl ?_
        refine SD.take rfl panicBody (op_move rfl) rfl rfl ?_
        refine SD.skip rfl panicBody rfl rfl ?_
        refine SD.skip rfl panicBody rfl rfl ?_
        refine SD.skip rfl panicBody rfl rfl ?_
        refine SD.skip rfl panicBody rfl rfl ?_
        refine SD.skip rfl panicBody rfl rfl ?_
        refine SD.skip rfl panicBody rfl rfl ?_
        refine SD.skipF rfl rfl rfl ?_
        refine SD.skip rfl panicBody rfl rfl ?_
        refine SD.skip rfl panicBody rfl rfl ?_
        refine SD.take rfl panicBody (op_pickF rfl rfl) rfl rfl ?_
        refine SD.take rfl panicBody (op_assign rfl) rfl rfl ?_
        refine SD.nil ?_
        show SL _ _ _ _ _ _ _ [] _ _ _
        refine SL.nil <| T.condF rfl <| T.seq <| T.region <| SL.v (op_fieldAddr fa70_1 rfl) <| SL.v (op_load ty3 rfl (by repeat constructor) rfl) ?_
        refine SL.v (op_lssT rfl rfl (by omega)) ?_
        refine SL.mv rfl <| SL.skip rfl rfl ?_
        refine SL.skip rfl rfl ?_
        refine SL.skip rfl rfl ?_
        refine SL.v (op_pickT rfl rfl) <| SL.as rfl <| SL.nil <| T.condT rfl <| T.seq <| T.region <| SL.v (op_assign (v := .int .i64 ((2 : Nat) : Int)) rfl) <| SL.nil <| T.ret1 rfl (ResIs.tmp rfl) ?_
        rw [node_own (by rw [e]; decide), e]; rfl
      by_cases hhi : 999999 < n
      · have e := own2 hA1 hA2 hv hnd (.inr hhi)
        refine SL.as rfl <| SL.nil <| T.condF rfl <| T.seq <| T.draw (by kernel_rfl) 15 [.t 0, .t 1, .t 2, .t 3, .t 4, .t 5, .t 6, .t 9, .t 10, .t 11, .r 7, .t 8, .t 12, .t 13, .t 14] (by kernel_rfl) ?_
        refine SD.take rfl panicBody (op_fieldAddr fa70_0 rfl) rfl rfl ?_
        refine SD.take rfl panicBody (op_load ty33 rfl (by repeat constructor) rfl) rfl rfl ?_
        refine SD.take rfl panicBody (op_eqlF rfl rfl (by omega)) rfl rfl ?_
        refine SD.take rfl panicBody (op_move rfl) rfl rfl ?_
        refine SD.skip rfl panicBody rfl rfl ?_
        refine SD.skip rfl panicBody rfl rfl ?_
        refine SD.skip rfl panicBody rfl rfl ?_
        refine SD.skip rfl panicBody rfl rfl ?_
        refine SD.skip rfl panicBody rfl rfl ?_
        refine SD.skip rfl panicBody rfl rfl ?_
        refine SD.skipF rfl rfl rfl ?_
        refine SD.skip rfl panicBody rfl rfl ?_
        refine SD.skip rfl panicBody rfl rfl ?_
        refine SD.take rfl panicBody (op_pickF rfl rfl) rfl rfl ?_
        refine SD.take rfl panicBody (op_assign rfl) rfl rfl ?_
        refine SD.nil ?_
        show SL _ _ _ _ _ _ _ [] _ _ _
        refine SL.nil <| T.condF rfl <| T.seq <| T.region <| SL.v (op_fieldAddr fa70_1 rfl) <| SL.v (op_load ty3 rfl (by repeat constructor) rfl) ?_
        refine SL.v (op_lssF rfl rfl (by omega)) ?_
        refine SL.mv rfl <| SL.v (op_fieldAddr fa70_1 rfl) <| SL.v (op_load ty3 rfl (by repeat constructor) rfl) ?_
        refine SL.v (op_gtrT rfl rfl (by omega)) ?_
        refine SL.v (op_pickF rfl rfl) <| SL.as rfl <| SL.nil <| T.condT rfl <| T.seq <| T.region <| SL.v (op_assign (v := .int .i64 ((2 : Nat) : Int)) rfl) <| SL.nil <| T.ret1 rfl (ResIs.tmp rfl) ?_
        rw [node_own (by rw [e]; decide), e]; rfl
      have hown := own0' hA1 hA2 hv hnd (by omega)
      refine SL.as rfl <| SL.nil <| T.condF rfl <| T.seq <| T.draw (by kernel_rfl) 15 [.t 0, .t 1, .t 2, .t 3, .t 4, .t 5, .t 6, .t 9, .t 10, .t 11, .r 7, .t 8, .t 12, .t 13, .t 14] (by kernel_rfl) ?_
      refine SD.take rfl panicBody (op_fieldAddr fa70_0 rfl) rfl rfl ?_
      refine SD.take rfl panicBody (op_load ty33 rfl (by repeat constructor) rfl) rfl rfl ?_
      refine SD.take rfl panicBody (op_eqlF rfl rfl (by omega)) rfl rfl ?_
      refine SD.take rfl panicBody (op_move rfl) rfl rfl ?_
      refine SD.skip rfl panicBody rfl rfl ?_
      refine SD.skip rfl panicBody rfl rfl ?_
      refine SD.skip rfl panicBody rfl rfl ?_
      refine SD.skip rfl panicBody rfl rfl ?_
      refine SD.skip rfl panicBody rfl rfl ?_
      refine SD.skip rfl panicBody rfl rfl ?_
      refine SD.skipF rfl rfl rfl ?_
      refine SD.skip rfl panicBody rfl rfl ?_
      refine SD.skip rfl panicBody rfl rfl ?_
      refine SD.take rfl panicBody (op_pickF rfl rfl) rfl rfl ?_
      refine SD.take rfl panicBody (op_assign rfl) rfl rfl ?_
      refine SD.nil ?_
      show SL _ _ _ _ _ _ _ [] _ _ _
      refine SL.nil <| T.condF rfl <| T.seq <| T.region <| SL.v (op_fieldAddr fa70_1 rfl) <| SL.v (op_load ty3 rfl (by repeat constructor) rfl) ?_
      refine SL.v (op_lssF rfl rfl (by omega)) ?_
      refine SL.mv rfl <| SL.v (op_fieldAddr fa70_1 rfl) <| SL.v (op_load ty3 rfl (by repeat constructor) rfl) ?_
      refine SL.v (op_gtrF rfl rfl (by omega)) ?_
      refine SL.v (op_pickF rfl rfl) <| SL.as rfl <| SL.nil <| T.condF rfl <| T.skip <| T.blk <| T.seq <| T.seq <| T.region <| SL.v (op_fieldAddr fa70_3 rfl) <| SL.v (op_load ty68 rfl (by repeat constructor) rfl) ?_
      refine SL.v (op_lenS Tryz.underlying68 rfl) <| SL.v (op_move (v := .int .i64 ((0 : Nat) : Int)) rfl) <| SL.nil <| T.block <| T.drop B1 (by repeat constructor) ?_
      refine T.loopW (fun m env own X' => ∃ i : Nat, m = rows.length - i ∧ i ≤ rows.length ∧ X3.le X' ∧ nodeL (al.take i) = 0 ∧ env = [(65, .slice Aa rows.length ca), (66, .int .i64 (rows.length : Int)), (67, .int .i64 (i : Int))] ∧ own = []) rows.length ⟨0, by simp, by omega, PMap.le_refl _, by simp [nodeL], rfl, rfl⟩ (by repeat (first | exact Sub.nil | refine Sub.cons rfl ?_)) ?_
      rintro m _ _ X5 ⟨i, rfl, hi, hX5, hz0, rfl, rfl⟩
      rcases Nat.lt_or_ge i rows.length with hil | hil
      · obtain ⟨r2, hr2⟩ : ∃ r2, rows[i]? = some r2 := ⟨_, List.getElem?_eq_getElem hil⟩
        obtain ⟨a, ha2⟩ : ∃ a, al[i]? = some a := ⟨_, List.getElem?_eq_getElem (by omega)⟩
        have hra := hr i a r2 ha2 hr2
        obtain ⟨bA, pre, rfl, hbA⟩ := ha.blk (by omega)
        obtain ⟨_, _, _, _, _, _, _, _, rfl⟩ := hra.form
        have hwa := wtL_mem (List.mem_of_getElem? ha2)
        refine T.seq <| T.region <| SL.v (op_lssT rfl rfl (by omega)) ?_
        refine SL.nil <| T.seq <| T.condT rfl <| T.skip <| T.seq <| T.block <| T.seq <| T.region <| SL.v (op_indexN Tryz.underlying68 ty70 rfl rfl (by omega)) ?_
        refine SL.v (op_loadX ty70 rfl ((hbA.mono hXB).mono hX5) (row_read rc4_len hr2 (by omega))) ?_
        refine SL.w (op_alloc z70) ?_
        rintro _ _ _ ⟨B4, rfl, rfl, rfl⟩
        refine SL.w (op_store ty70 rfl rfl (by repeat constructor) rfl rfl rfl) ?_
        rintro _ _ _ ⟨rfl, rfl⟩
        refine SL.nil <| T.seq <| T.region <| SL.v (op_load ty70 rfl (by repeat constructor) rfl) ?_
        refine SL.w (op_callF en123 (vs := [_]) rfl (ih (by omega) (by omega) ((hra.mono hXB).mono hX5))) ?_
        rintro _ _ X6 ⟨rfl, hX6, rfl⟩
        by_cases hz : nodeE a = 0
        · skip
          refine SL.as rfl <| SL.nil <| T.seq <| T.region <| SL.mv rfl <| SL.v (op_neqF rfl rfl (by omega)) ?_
          refine SL.nil <| T.condF rfl <| T.skip <| T.blk <| T.region <| SL.v (op_addN (q := 1) rfl rfl (by omega)) ?_
          refine SL.mv rfl <| SL.nil <| T.drop B4 (by repeat constructor) ?_
          exact T.backW (rows.length - (i + 1)) (by omega) ⟨i + 1, rfl, by omega, hX5.trans' hX6, nodeL_snoc hz0 ha2 hz, rfl, rfl⟩ (by repeat (first | exact Sub.nil | refine Sub.cons rfl ?_))
        · refine SL.as rfl <| SL.nil <| T.seq <| T.region <| SL.mv rfl <| SL.v (op_neqT rfl rfl (by omega)) ?_
          refine SL.nil <| T.condT rfl <| T.seq <| T.region <| SL.mv rfl <| SL.as rfl <| SL.nil <| T.ret1 rfl (ResIs.tmp rfl) ?_
          rw [node_args hown, nodeL_at hz0 ha2 hz]
      · obtain rfl : i = rows.length := by omega
        rw [show al.take rows.length = al from List.take_of_length_le (by omega)] at hz0
        refine T.seq <| T.region <| SL.v (op_lssF rfl rfl (by omega)) ?_
        refine SL.nil <| T.seq <| T.condF rfl ?_
        refine T.exit (T.exitCode (T.exitCut (T.exitBlk ?_)))
        refine T.seq <| T.region <| SL.v (op_assign (v := .int .i64 ((0 : Nat) : Int)) rfl) <| SL.nil <| T.ret1 rfl (ResIs.tmp rfl) ?_
        rw [node_args hown, hz0]; rfl
/-- The error of an expression. -/
theorem chk_spec {X : PMap} {e : Ex} {r : Row4} (hw : wtE e < 100000000) (h : ExR .u8 X e r) : Spec Tryz.prog 73 [.agg #[r.1, r.2.1, r.2.2.1, r.2.2.2]] X fun u _ => u = .int .i64 (chkE e) := by
  obtain ⟨_, _, _, _, _, _, _, _, rfl⟩ := h.form
  have hd := dep_wt e
  have hs := siz_wt e
  by_cases h1 : 10 < depE e
  · refine Spec.enter Tryz.func73 rfl Tryz.ntmps73 rfl ?_
    intro w0 hw0
    refine T.seq <| T.region <| SL.w (op_box rfl) ?_
    rintro _ _ _ ⟨B1, rfl, rfl, rfl⟩
    refine SL.v (op_assign (v := .int .i64 ((0 : Nat) : Int)) rfl) <| SL.nil <| T.seq <| T.seq <| T.region <| SL.v (op_load ty70 rfl (by repeat constructor) rfl) ?_
    refine SL.w (op_callF en121 (vs := [_]) rfl (depth_spec _ (Nat.le_refl _) (by omega) h)) ?_
    rintro _ _ X1 ⟨rfl, hX1, rfl⟩
    refine SL.v (op_gtrT rfl rfl (by omega)) ?_
    refine SL.mv rfl <| SL.skip rfl rfl ?_
    refine SL.skip rfl rfl ?_
    refine SL.skip rfl rfl ?_
    refine SL.v (op_pickT rfl rfl) <| SL.nil <| T.condT rfl <| T.seq <| T.region <| SL.v (op_assign (v := .int .i64 ((3 : Nat) : Int)) rfl) <| SL.nil <| T.ret1 rfl (ResIs.tmp rfl) ?_
    rw [chkE, if_pos (.inl h1)]; rfl
  · by_cases h2 : 200 < sizE e
    · refine Spec.enter Tryz.func73 rfl Tryz.ntmps73 rfl ?_
      intro w0 hw0
      refine T.seq <| T.region <| SL.w (op_box rfl) ?_
      rintro _ _ _ ⟨B1, rfl, rfl, rfl⟩
      refine SL.v (op_assign (v := .int .i64 ((0 : Nat) : Int)) rfl) <| SL.nil <| T.seq <| T.seq <| T.region <| SL.v (op_load ty70 rfl (by repeat constructor) rfl) ?_
      refine SL.w (op_callF en121 (vs := [_]) rfl (depth_spec _ (Nat.le_refl _) (by omega) h)) ?_
      rintro _ _ X1 ⟨rfl, hX1, rfl⟩
      refine SL.v (op_gtrF rfl rfl (by omega)) ?_
      refine SL.mv rfl <| SL.v (op_load ty70 rfl (by repeat constructor) rfl) ?_
      refine SL.w (op_callF en122 (vs := [_]) rfl (size_spec _ (Nat.le_refl _) (by omega) (h.mono hX1))) ?_
      rintro _ _ X2 ⟨rfl, hX2, rfl⟩
      refine SL.v (op_gtrT rfl rfl (by omega)) ?_
      refine SL.v (op_pickF rfl rfl) <| SL.nil <| T.condT rfl <| T.seq <| T.region <| SL.v (op_assign (v := .int .i64 ((3 : Nat) : Int)) rfl) <| SL.nil <| T.ret1 rfl (ResIs.tmp rfl) ?_
      rw [chkE, if_pos (.inr h2)]; rfl
    · refine Spec.enter Tryz.func73 rfl Tryz.ntmps73 rfl ?_
      intro w0 hw0
      refine T.seq <| T.region <| SL.w (op_box rfl) ?_
      rintro _ _ _ ⟨B1, rfl, rfl, rfl⟩
      refine SL.v (op_assign (v := .int .i64 ((0 : Nat) : Int)) rfl) <| SL.nil <| T.seq <| T.seq <| T.region <| SL.v (op_load ty70 rfl (by repeat constructor) rfl) ?_
      refine SL.w (op_callF en121 (vs := [_]) rfl (depth_spec _ (Nat.le_refl _) (by omega) h)) ?_
      rintro _ _ X1 ⟨rfl, hX1, rfl⟩
      refine SL.v (op_gtrF rfl rfl (by omega)) ?_
      refine SL.mv rfl <| SL.v (op_load ty70 rfl (by repeat constructor) rfl) ?_
      refine SL.w (op_callF en122 (vs := [_]) rfl (size_spec _ (Nat.le_refl _) (by omega) (h.mono hX1))) ?_
      rintro _ _ X2 ⟨rfl, hX2, rfl⟩
      refine SL.v (op_gtrF rfl rfl (by omega)) ?_
      refine SL.v (op_pickF rfl rfl) <| SL.nil <| T.condF rfl <| T.skip <| T.seq <| T.region <| SL.v (op_load ty70 rfl (by repeat constructor) rfl) ?_
      refine SL.w (op_callF en123 (vs := [_]) rfl (node_spec _ (Nat.le_refl _) (by omega) ((h.mono hX1).mono hX2))) ?_
      rintro _ _ X3 ⟨rfl, hX3, rfl⟩
      refine SL.as rfl <| SL.nil <| T.ret1 rfl (ResIs.tmp rfl) ?_
      rw [chkE, if_neg (by omega)]
end Go.Proofs.YtnpcilglilfajaaGreatDoor
namespace Go.Proofs.YtnpcilglilfajaaGreatDoor
section
set_option maxRecDepth 100000
theorem en186 : Enters Tryz.prog 186 := enters_mk Tryz.func186 (by kernel_rfl) rfl
end
open Go.RowKit
theorem rkeyws_spec {X : PMap} : Spec Tryz.prog 186 [] X fun u X' => RowR strC X' u keyws := by
  refine Spec.enter Tryz.func186 rfl Tryz.ntmps186 rfl ?_
  intro w0 hw0
  refine T.seq <| T.region <| SL.as rfl <| SL.nil <| T.seq <| T.region <| SL.w (op_buildSlice Tryz.underlying59 bs9 (qs := [(0, _), (1, _), (2, _), (3, _), (4, _), (5, _), (6, _), (7, _), (8, _), (9, _), (10, _), (11, _), (12, _), (13, _), (14, _), (15, _), (16, _), (17, _), (18, _), (19, _)]) rfl rfl rfl rfl rfl) ?_
  rintro _ _ _ ⟨B1, rfl, rfl, rfl⟩
  refine SL.as rfl <| SL.nil <| T.pub B1 (by repeat constructor) ?_
  intro X1 hX1 hB1 _
  refine T.ret1 rfl (ResIs.tmp rfl) ?_
  exact .inr ⟨by decide, _, _, [], rfl, hB1, by decide, by decide⟩
theorem rvalid_spec {X : PMap} {s : ByteArray} : Spec Tryz.prog 154 [.string s] X fun u _ => u = .bool (decide (validS s)) := by
  by_cases h1 : s.size = 0
  · refine Spec.enter Tryz.func154 rfl Tryz.ntmps154 rfl ?_
    intro w0 hw0
    refine T.seq <| T.region <| SL.as rfl <| SL.nil <| T.seq <| T.seq <| T.region <| SL.mv rfl <| SL.v (op_lenStr Tryz.underlying9 rfl) <| SL.v (op_eqlT rfl rfl (by omega)) ?_
    refine SL.mv rfl <| SL.skip rfl rfl ?_
    refine SL.skip rfl rfl ?_
    refine SL.skip rfl rfl ?_
    refine SL.v (op_pickT rfl rfl) <| SL.nil <| T.condT rfl <| T.seq <| T.region <| SL.as rfl <| SL.nil <| T.ret1 rfl (ResIs.tmp rfl) ?_
    rw [decide_eq_false fun h => h.1 h1]
  by_cases h2 : 12 < s.size
  · refine Spec.enter Tryz.func154 rfl Tryz.ntmps154 rfl ?_
    intro w0 hw0
    refine T.seq <| T.region <| SL.as rfl <| SL.nil <| T.seq <| T.seq <| T.region <| SL.mv rfl <| SL.v (op_lenStr Tryz.underlying9 rfl) <| SL.v (op_eqlF rfl rfl (by omega)) ?_
    refine SL.mv rfl <| SL.mv rfl <| SL.v (op_lenStr Tryz.underlying9 rfl) <| SL.v (op_gtrT rfl rfl (by omega)) ?_
    refine SL.v (op_pickF rfl rfl) <| SL.nil <| T.condT rfl <| T.seq <| T.region <| SL.as rfl <| SL.nil <| T.ret1 rfl (ResIs.tmp rfl) ?_
    rw [decide_eq_false fun h => by have := h.2.1; omega]
  refine Spec.enter Tryz.func154 rfl Tryz.ntmps154 rfl ?_
  intro w0 hw0
  refine T.seq <| T.region <| SL.as rfl <| SL.nil <| T.seq <| T.seq <| T.region <| SL.mv rfl <| SL.v (op_lenStr Tryz.underlying9 rfl) <| SL.v (op_eqlF rfl rfl (by omega)) ?_
  refine SL.mv rfl <| SL.mv rfl <| SL.v (op_lenStr Tryz.underlying9 rfl) <| SL.v (op_gtrF rfl rfl (by omega)) ?_
  refine SL.v (op_pickF rfl rfl) <| SL.nil <| T.condF rfl <| T.skip <| T.seq <| T.seq <| T.region <| SL.v (op_assign (v := .int .i64 ((0 : Nat) : Int)) rfl) <| SL.nil <| T.block <| T.loopW (fun m env own X' => ∃ i : Nat, m = s.size - i ∧ i ≤ s.size ∧ X.le X' ∧ (∀ q b, q < i → s[q]? = some b → innB b = true ∧ (q = 0 → letB b = true)) ∧ env = [(0, .string s), (3, .int .i64 (i : Int))] ∧ own = []) s.size ⟨0, by simp, by omega, PMap.le_refl _, fun q x hq => absurd hq (by omega), rfl, rfl⟩ (by repeat (first | exact Sub.nil | refine Sub.cons rfl ?_)) ?_
  rintro m _ _ X4 ⟨i, rfl, hi, hX4, hin, rfl, rfl⟩
  rcases Nat.lt_or_ge i s.size with hil | hil
  · obtain ⟨b, hb⟩ : ∃ b, s[i]? = some b := ⟨_, ByteArray.getElem?_lt' s i hil⟩
    have hgo : innB b = true → (i = 0 → letB b = true) → ∀ q b, q < i + 1 → s[q]? = some b → innB b = true ∧ (q = 0 → letB b = true) := fun g1 g2 q c hq hc => by
      rcases Nat.lt_or_ge q i with h | h
      · exact hin q c h hc
      · obtain rfl : q = i := by omega
        rw [hb] at hc; cases hc; exact ⟨g1, g2⟩
    have hbad : innB b = false ∨ (i = 0 ∧ letB b = false) → ¬validS s := fun hh h => by
      have := h.2.2.2 i b (by omega) hb
      rcases hh with h3 | ⟨h0, h3⟩
      · rw [this.1] at h3; cases h3
      · rw [this.2 h0] at h3; cases h3
    have hb8 : b.toNat < 256 := b.toNat_lt
    have ei : innB b = decide (97 ≤ b.toNat ∧ b.toNat ≤ 122 ∨ 48 ≤ b.toNat ∧ b.toNat ≤ 57 ∨ b.toNat = 95) := rfl
    have el : letB b = decide (97 ≤ b.toNat ∧ b.toNat ≤ 122) := rfl
    rcases (by omega : (97 ≤ b.toNat ∧ b.toNat ≤ 122) ∨ 122 < b.toNat ∨ (48 ≤ b.toNat ∧ b.toNat ≤ 57) ∨ b.toNat = 95 ∨ (57 < b.toNat ∧ b.toNat < 97 ∧ b.toNat ≠ 95) ∨ b.toNat < 48) with hc | hc | hc | hc | hc | hc
    · skip
      refine T.seq <| T.seq <| T.region <| SL.mv rfl <| SL.mv rfl <| SL.v (op_lenStr Tryz.underlying9 rfl) <| SL.v (op_lssT rfl rfl (by omega)) ?_
      refine SL.nil <| T.condT rfl <| T.skip <| T.seq <| T.block <| T.seq <| T.region <| SL.mv rfl <| SL.mv rfl <| SL.v (op_idxStr Tryz.underlying9 rfl rfl rfl (by assumption)) ?_
      refine SL.v (op_geqT rfl rfl (by omega)) ?_
      refine SL.mv rfl <| SL.mv rfl <| SL.mv rfl <| SL.v (op_idxStr Tryz.underlying9 rfl rfl rfl (by assumption)) ?_
      refine SL.v (op_leqT rfl rfl (by omega)) ?_
      refine SL.v (op_pickT rfl rfl) <| SL.as rfl <| SL.nil <| T.seq <| T.region <| SL.mv rfl <| SL.mv rfl <| SL.v (op_idxStr Tryz.underlying9 rfl rfl rfl (by assumption)) ?_
      refine SL.v (op_geqT rfl rfl (by omega)) ?_
      refine SL.mv rfl <| SL.mv rfl <| SL.mv rfl <| SL.v (op_idxStr Tryz.underlying9 rfl rfl rfl (by assumption)) ?_
      refine SL.v (op_leqF rfl rfl (by omega)) ?_
      refine SL.v (op_pickT rfl rfl) <| SL.mv rfl <| SL.mv rfl <| SL.mv rfl <| SL.v (op_idxStr Tryz.underlying9 rfl rfl rfl (by assumption)) ?_
      refine SL.v (op_eqlF rfl rfl (by omega)) ?_
      refine SL.v (op_pickF rfl rfl) <| SL.as rfl <| SL.nil <| T.seq <| T.region <| SL.mv rfl <| SL.v (op_not rfl) <| SL.mv rfl <| SL.skip rfl rfl ?_
      refine SL.skip rfl rfl ?_
      refine SL.skip rfl rfl ?_
      refine SL.skip rfl rfl ?_
      refine SL.skip rfl rfl ?_
      refine SL.skip rfl rfl ?_
      refine SL.v (op_pickF rfl rfl) <| SL.nil <| T.condF rfl <| T.skip <| T.blk <| T.region <| SL.mv rfl <| SL.v (op_addN (q := 1) rfl rfl (by omega)) ?_
      refine SL.as rfl <| SL.nil ?_
      exact T.backW (s.size - (i + 1)) (by omega) ⟨i + 1, rfl, by omega, hX4, hgo (by rw [ei]; exact decide_eq_true (by omega)) (fun _ => by rw [el]; exact decide_eq_true (by omega)), rfl, rfl⟩ (by repeat (first | exact Sub.nil | refine Sub.cons rfl ?_))
    · by_cases h0 : i = 0
      · skip
        refine T.seq <| T.seq <| T.region <| SL.mv rfl <| SL.mv rfl <| SL.v (op_lenStr Tryz.underlying9 rfl) <| SL.v (op_lssT rfl rfl (by omega)) ?_
        refine SL.nil <| T.condT rfl <| T.skip <| T.seq <| T.block <| T.seq <| T.region <| SL.mv rfl <| SL.mv rfl <| SL.v (op_idxStr Tryz.underlying9 rfl rfl rfl (by assumption)) ?_
        refine SL.v (op_geqT rfl rfl (by omega)) ?_
        refine SL.mv rfl <| SL.mv rfl <| SL.mv rfl <| SL.v (op_idxStr Tryz.underlying9 rfl rfl rfl (by assumption)) ?_
        refine SL.v (op_leqF rfl rfl (by omega)) ?_
        refine SL.v (op_pickT rfl rfl) <| SL.as rfl <| SL.nil <| T.seq <| T.region <| SL.mv rfl <| SL.mv rfl <| SL.v (op_idxStr Tryz.underlying9 rfl rfl rfl (by assumption)) ?_
        refine SL.v (op_geqT rfl rfl (by omega)) ?_
        refine SL.mv rfl <| SL.mv rfl <| SL.mv rfl <| SL.v (op_idxStr Tryz.underlying9 rfl rfl rfl (by assumption)) ?_
        refine SL.v (op_leqF rfl rfl (by omega)) ?_
        refine SL.v (op_pickT rfl rfl) <| SL.mv rfl <| SL.mv rfl <| SL.mv rfl <| SL.v (op_idxStr Tryz.underlying9 rfl rfl rfl (by assumption)) ?_
        refine SL.v (op_eqlF rfl rfl (by omega)) ?_
        refine SL.v (op_pickF rfl rfl) <| SL.as rfl <| SL.nil <| T.seq <| T.region <| SL.mv rfl <| SL.v (op_not rfl) <| SL.mv rfl <| SL.mv rfl <| SL.v (op_eqlT rfl rfl (by omega)) ?_
        refine SL.mv rfl <| SL.skip rfl rfl ?_
        refine SL.skip rfl rfl ?_
        refine SL.v (op_pickT rfl rfl) <| SL.v (op_pickT rfl rfl) <| SL.nil <| T.condT rfl <| T.seq <| T.region <| SL.as rfl <| SL.nil <| T.ret1 rfl (ResIs.tmp rfl) ?_
        rw [decide_eq_false (hbad (.inr ⟨h0, by rw [el]; exact decide_eq_false (by omega)⟩))]
      · skip
        refine T.seq <| T.seq <| T.region <| SL.mv rfl <| SL.mv rfl <| SL.v (op_lenStr Tryz.underlying9 rfl) <| SL.v (op_lssT rfl rfl (by omega)) ?_
        refine SL.nil <| T.condT rfl <| T.skip <| T.seq <| T.block <| T.seq <| T.region <| SL.mv rfl <| SL.mv rfl <| SL.v (op_idxStr Tryz.underlying9 rfl rfl rfl (by assumption)) ?_
        refine SL.v (op_geqT rfl rfl (by omega)) ?_
        refine SL.mv rfl <| SL.mv rfl <| SL.mv rfl <| SL.v (op_idxStr Tryz.underlying9 rfl rfl rfl (by assumption)) ?_
        refine SL.v (op_leqF rfl rfl (by omega)) ?_
        refine SL.v (op_pickT rfl rfl) <| SL.as rfl <| SL.nil <| T.seq <| T.region <| SL.mv rfl <| SL.mv rfl <| SL.v (op_idxStr Tryz.underlying9 rfl rfl rfl (by assumption)) ?_
        refine SL.v (op_geqT rfl rfl (by omega)) ?_
        refine SL.mv rfl <| SL.mv rfl <| SL.mv rfl <| SL.v (op_idxStr Tryz.underlying9 rfl rfl rfl (by assumption)) ?_
        refine SL.v (op_leqF rfl rfl (by omega)) ?_
        refine SL.v (op_pickT rfl rfl) <| SL.mv rfl <| SL.mv rfl <| SL.mv rfl <| SL.v (op_idxStr Tryz.underlying9 rfl rfl rfl (by assumption)) ?_
        refine SL.v (op_eqlF rfl rfl (by omega)) ?_
        refine SL.v (op_pickF rfl rfl) <| SL.as rfl <| SL.nil <| T.seq <| T.region <| SL.mv rfl <| SL.v (op_not rfl) <| SL.mv rfl <| SL.mv rfl <| SL.v (op_eqlF rfl rfl (by omega)) ?_
        refine SL.mv rfl <| SL.mv rfl <| SL.v (op_not rfl) <| SL.v (op_pickF rfl rfl) <| SL.v (op_pickT rfl rfl) <| SL.nil <| T.condT rfl <| T.seq <| T.region <| SL.as rfl <| SL.nil <| T.ret1 rfl (ResIs.tmp rfl) ?_
        rw [decide_eq_false (hbad (.inl (by rw [ei]; exact decide_eq_false (by omega))))]
    · by_cases h0 : i = 0
      · skip
        refine T.seq <| T.seq <| T.region <| SL.mv rfl <| SL.mv rfl <| SL.v (op_lenStr Tryz.underlying9 rfl) <| SL.v (op_lssT rfl rfl (by omega)) ?_
        refine SL.nil <| T.condT rfl <| T.skip <| T.seq <| T.block <| T.seq <| T.region <| SL.mv rfl <| SL.mv rfl <| SL.v (op_idxStr Tryz.underlying9 rfl rfl rfl (by assumption)) ?_
        refine SL.v (op_geqF rfl rfl (by omega)) ?_
        refine SL.mv rfl <| SL.skip rfl rfl ?_
        refine SL.skip rfl rfl ?_
        refine SL.skip rfl rfl ?_
        refine SL.skip rfl rfl ?_
        refine SL.v (op_pickF rfl rfl) <| SL.as rfl <| SL.nil <| T.seq <| T.region <| SL.mv rfl <| SL.mv rfl <| SL.v (op_idxStr Tryz.underlying9 rfl rfl rfl (by assumption)) ?_
        refine SL.v (op_geqT rfl rfl (by omega)) ?_
        refine SL.mv rfl <| SL.mv rfl <| SL.mv rfl <| SL.v (op_idxStr Tryz.underlying9 rfl rfl rfl (by assumption)) ?_
        refine SL.v (op_leqT rfl rfl (by omega)) ?_
        refine SL.v (op_pickT rfl rfl) <| SL.mv rfl <| SL.skip rfl rfl ?_
        refine SL.skip rfl rfl ?_
        refine SL.skip rfl rfl ?_
        refine SL.skip rfl rfl ?_
        refine SL.v (op_pickT rfl rfl) <| SL.as rfl <| SL.nil <| T.seq <| T.region <| SL.mv rfl <| SL.v (op_not rfl) <| SL.mv rfl <| SL.mv rfl <| SL.v (op_eqlT rfl rfl (by omega)) ?_
        refine SL.mv rfl <| SL.skip rfl rfl ?_
        refine SL.skip rfl rfl ?_
        refine SL.v (op_pickT rfl rfl) <| SL.v (op_pickT rfl rfl) <| SL.nil <| T.condT rfl <| T.seq <| T.region <| SL.as rfl <| SL.nil <| T.ret1 rfl (ResIs.tmp rfl) ?_
        rw [decide_eq_false (hbad (.inr ⟨h0, by rw [el]; exact decide_eq_false (by omega)⟩))]
      · skip
        refine T.seq <| T.seq <| T.region <| SL.mv rfl <| SL.mv rfl <| SL.v (op_lenStr Tryz.underlying9 rfl) <| SL.v (op_lssT rfl rfl (by omega)) ?_
        refine SL.nil <| T.condT rfl <| T.skip <| T.seq <| T.block <| T.seq <| T.region <| SL.mv rfl <| SL.mv rfl <| SL.v (op_idxStr Tryz.underlying9 rfl rfl rfl (by assumption)) ?_
        refine SL.v (op_geqF rfl rfl (by omega)) ?_
        refine SL.mv rfl <| SL.skip rfl rfl ?_
        refine SL.skip rfl rfl ?_
        refine SL.skip rfl rfl ?_
        refine SL.skip rfl rfl ?_
        refine SL.v (op_pickF rfl rfl) <| SL.as rfl <| SL.nil <| T.seq <| T.region <| SL.mv rfl <| SL.mv rfl <| SL.v (op_idxStr Tryz.underlying9 rfl rfl rfl (by assumption)) ?_
        refine SL.v (op_geqT rfl rfl (by omega)) ?_
        refine SL.mv rfl <| SL.mv rfl <| SL.mv rfl <| SL.v (op_idxStr Tryz.underlying9 rfl rfl rfl (by assumption)) ?_
        refine SL.v (op_leqT rfl rfl (by omega)) ?_
        refine SL.v (op_pickT rfl rfl) <| SL.mv rfl <| SL.skip rfl rfl ?_
        refine SL.skip rfl rfl ?_
        refine SL.skip rfl rfl ?_
        refine SL.skip rfl rfl ?_
        refine SL.v (op_pickT rfl rfl) <| SL.as rfl <| SL.nil <| T.seq <| T.region <| SL.mv rfl <| SL.v (op_not rfl) <| SL.mv rfl <| SL.mv rfl <| SL.v (op_eqlF rfl rfl (by omega)) ?_
        refine SL.mv rfl <| SL.mv rfl <| SL.v (op_not rfl) <| SL.v (op_pickF rfl rfl) <| SL.v (op_pickT rfl rfl) <| SL.nil <| T.condF rfl <| T.skip <| T.blk <| T.region <| SL.mv rfl <| SL.v (op_addN (q := 1) rfl rfl (by omega)) ?_
        refine SL.as rfl <| SL.nil ?_
        exact T.backW (s.size - (i + 1)) (by omega) ⟨i + 1, rfl, by omega, hX4, hgo (by rw [ei]; exact decide_eq_true (by omega)) (fun h => absurd h h0), rfl, rfl⟩ (by repeat (first | exact Sub.nil | refine Sub.cons rfl ?_))
    · by_cases h0 : i = 0
      · skip
        refine T.seq <| T.seq <| T.region <| SL.mv rfl <| SL.mv rfl <| SL.v (op_lenStr Tryz.underlying9 rfl) <| SL.v (op_lssT rfl rfl (by omega)) ?_
        refine SL.nil <| T.condT rfl <| T.skip <| T.seq <| T.block <| T.seq <| T.region <| SL.mv rfl <| SL.mv rfl <| SL.v (op_idxStr Tryz.underlying9 rfl rfl rfl (by assumption)) ?_
        refine SL.v (op_geqF rfl rfl (by omega)) ?_
        refine SL.mv rfl <| SL.skip rfl rfl ?_
        refine SL.skip rfl rfl ?_
        refine SL.skip rfl rfl ?_
        refine SL.skip rfl rfl ?_
        refine SL.v (op_pickF rfl rfl) <| SL.as rfl <| SL.nil <| T.seq <| T.region <| SL.mv rfl <| SL.mv rfl <| SL.v (op_idxStr Tryz.underlying9 rfl rfl rfl (by assumption)) ?_
        refine SL.v (op_geqT rfl rfl (by omega)) ?_
        refine SL.mv rfl <| SL.mv rfl <| SL.mv rfl <| SL.v (op_idxStr Tryz.underlying9 rfl rfl rfl (by assumption)) ?_
        refine SL.v (op_leqF rfl rfl (by omega)) ?_
        refine SL.v (op_pickT rfl rfl) <| SL.mv rfl <| SL.mv rfl <| SL.mv rfl <| SL.v (op_idxStr Tryz.underlying9 rfl rfl rfl (by assumption)) ?_
        refine SL.v (op_eqlT rfl rfl (by omega)) ?_
        refine SL.v (op_pickF rfl rfl) <| SL.as rfl <| SL.nil <| T.seq <| T.region <| SL.mv rfl <| SL.v (op_not rfl) <| SL.mv rfl <| SL.mv rfl <| SL.v (op_eqlT rfl rfl (by omega)) ?_
        refine SL.mv rfl <| SL.skip rfl rfl ?_
        refine SL.skip rfl rfl ?_
        refine SL.v (op_pickT rfl rfl) <| SL.v (op_pickT rfl rfl) <| SL.nil <| T.condT rfl <| T.seq <| T.region <| SL.as rfl <| SL.nil <| T.ret1 rfl (ResIs.tmp rfl) ?_
        rw [decide_eq_false (hbad (.inr ⟨h0, by rw [el]; exact decide_eq_false (by omega)⟩))]
      · skip
        refine T.seq <| T.seq <| T.region <| SL.mv rfl <| SL.mv rfl <| SL.v (op_lenStr Tryz.underlying9 rfl) <| SL.v (op_lssT rfl rfl (by omega)) ?_
        refine SL.nil <| T.condT rfl <| T.skip <| T.seq <| T.block <| T.seq <| T.region <| SL.mv rfl <| SL.mv rfl <| SL.v (op_idxStr Tryz.underlying9 rfl rfl rfl (by assumption)) ?_
        refine SL.v (op_geqF rfl rfl (by omega)) ?_
        refine SL.mv rfl <| SL.skip rfl rfl ?_
        refine SL.skip rfl rfl ?_
        refine SL.skip rfl rfl ?_
        refine SL.skip rfl rfl ?_
        refine SL.v (op_pickF rfl rfl) <| SL.as rfl <| SL.nil <| T.seq <| T.region <| SL.mv rfl <| SL.mv rfl <| SL.v (op_idxStr Tryz.underlying9 rfl rfl rfl (by assumption)) ?_
        refine SL.v (op_geqT rfl rfl (by omega)) ?_
        refine SL.mv rfl <| SL.mv rfl <| SL.mv rfl <| SL.v (op_idxStr Tryz.underlying9 rfl rfl rfl (by assumption)) ?_
        refine SL.v (op_leqF rfl rfl (by omega)) ?_
        refine SL.v (op_pickT rfl rfl) <| SL.mv rfl <| SL.mv rfl <| SL.mv rfl <| SL.v (op_idxStr Tryz.underlying9 rfl rfl rfl (by assumption)) ?_
        refine SL.v (op_eqlT rfl rfl (by omega)) ?_
        refine SL.v (op_pickF rfl rfl) <| SL.as rfl <| SL.nil <| T.seq <| T.region <| SL.mv rfl <| SL.v (op_not rfl) <| SL.mv rfl <| SL.mv rfl <| SL.v (op_eqlF rfl rfl (by omega)) ?_
        refine SL.mv rfl <| SL.mv rfl <| SL.v (op_not rfl) <| SL.v (op_pickF rfl rfl) <| SL.v (op_pickT rfl rfl) <| SL.nil <| T.condF rfl <| T.skip <| T.blk <| T.region <| SL.mv rfl <| SL.v (op_addN (q := 1) rfl rfl (by omega)) ?_
        refine SL.as rfl <| SL.nil ?_
        exact T.backW (s.size - (i + 1)) (by omega) ⟨i + 1, rfl, by omega, hX4, hgo (by rw [ei]; exact decide_eq_true (by omega)) (fun h => absurd h h0), rfl, rfl⟩ (by repeat (first | exact Sub.nil | refine Sub.cons rfl ?_))
    · by_cases h0 : i = 0
      · skip
        refine T.seq <| T.seq <| T.region <| SL.mv rfl <| SL.mv rfl <| SL.v (op_lenStr Tryz.underlying9 rfl) <| SL.v (op_lssT rfl rfl (by omega)) ?_
        refine SL.nil <| T.condT rfl <| T.skip <| T.seq <| T.block <| T.seq <| T.region <| SL.mv rfl <| SL.mv rfl <| SL.v (op_idxStr Tryz.underlying9 rfl rfl rfl (by assumption)) ?_
        refine SL.v (op_geqF rfl rfl (by omega)) ?_
        refine SL.mv rfl <| SL.skip rfl rfl ?_
        refine SL.skip rfl rfl ?_
        refine SL.skip rfl rfl ?_
        refine SL.skip rfl rfl ?_
        refine SL.v (op_pickF rfl rfl) <| SL.as rfl <| SL.nil <| T.seq <| T.region <| SL.mv rfl <| SL.mv rfl <| SL.v (op_idxStr Tryz.underlying9 rfl rfl rfl (by assumption)) ?_
        refine SL.v (op_geqT rfl rfl (by omega)) ?_
        refine SL.mv rfl <| SL.mv rfl <| SL.mv rfl <| SL.v (op_idxStr Tryz.underlying9 rfl rfl rfl (by assumption)) ?_
        refine SL.v (op_leqF rfl rfl (by omega)) ?_
        refine SL.v (op_pickT rfl rfl) <| SL.mv rfl <| SL.mv rfl <| SL.mv rfl <| SL.v (op_idxStr Tryz.underlying9 rfl rfl rfl (by assumption)) ?_
        refine SL.v (op_eqlF rfl rfl (by omega)) ?_
        refine SL.v (op_pickF rfl rfl) <| SL.as rfl <| SL.nil <| T.seq <| T.region <| SL.mv rfl <| SL.v (op_not rfl) <| SL.mv rfl <| SL.mv rfl <| SL.v (op_eqlT rfl rfl (by omega)) ?_
        refine SL.mv rfl <| SL.skip rfl rfl ?_
        refine SL.skip rfl rfl ?_
        refine SL.v (op_pickT rfl rfl) <| SL.v (op_pickT rfl rfl) <| SL.nil <| T.condT rfl <| T.seq <| T.region <| SL.as rfl <| SL.nil <| T.ret1 rfl (ResIs.tmp rfl) ?_
        rw [decide_eq_false (hbad (.inr ⟨h0, by rw [el]; exact decide_eq_false (by omega)⟩))]
      · skip
        refine T.seq <| T.seq <| T.region <| SL.mv rfl <| SL.mv rfl <| SL.v (op_lenStr Tryz.underlying9 rfl) <| SL.v (op_lssT rfl rfl (by omega)) ?_
        refine SL.nil <| T.condT rfl <| T.skip <| T.seq <| T.block <| T.seq <| T.region <| SL.mv rfl <| SL.mv rfl <| SL.v (op_idxStr Tryz.underlying9 rfl rfl rfl (by assumption)) ?_
        refine SL.v (op_geqF rfl rfl (by omega)) ?_
        refine SL.mv rfl <| SL.skip rfl rfl ?_
        refine SL.skip rfl rfl ?_
        refine SL.skip rfl rfl ?_
        refine SL.skip rfl rfl ?_
        refine SL.v (op_pickF rfl rfl) <| SL.as rfl <| SL.nil <| T.seq <| T.region <| SL.mv rfl <| SL.mv rfl <| SL.v (op_idxStr Tryz.underlying9 rfl rfl rfl (by assumption)) ?_
        refine SL.v (op_geqT rfl rfl (by omega)) ?_
        refine SL.mv rfl <| SL.mv rfl <| SL.mv rfl <| SL.v (op_idxStr Tryz.underlying9 rfl rfl rfl (by assumption)) ?_
        refine SL.v (op_leqF rfl rfl (by omega)) ?_
        refine SL.v (op_pickT rfl rfl) <| SL.mv rfl <| SL.mv rfl <| SL.mv rfl <| SL.v (op_idxStr Tryz.underlying9 rfl rfl rfl (by assumption)) ?_
        refine SL.v (op_eqlF rfl rfl (by omega)) ?_
        refine SL.v (op_pickF rfl rfl) <| SL.as rfl <| SL.nil <| T.seq <| T.region <| SL.mv rfl <| SL.v (op_not rfl) <| SL.mv rfl <| SL.mv rfl <| SL.v (op_eqlF rfl rfl (by omega)) ?_
        refine SL.mv rfl <| SL.mv rfl <| SL.v (op_not rfl) <| SL.v (op_pickF rfl rfl) <| SL.v (op_pickT rfl rfl) <| SL.nil <| T.condT rfl <| T.seq <| T.region <| SL.as rfl <| SL.nil <| T.ret1 rfl (ResIs.tmp rfl) ?_
        rw [decide_eq_false (hbad (.inl (by rw [ei]; exact decide_eq_false (by omega))))]
    · by_cases h0 : i = 0
      · skip
        refine T.seq <| T.seq <| T.region <| SL.mv rfl <| SL.mv rfl <| SL.v (op_lenStr Tryz.underlying9 rfl) <| SL.v (op_lssT rfl rfl (by omega)) ?_
        refine SL.nil <| T.condT rfl <| T.skip <| T.seq <| T.block <| T.seq <| T.region <| SL.mv rfl <| SL.mv rfl <| SL.v (op_idxStr Tryz.underlying9 rfl rfl rfl (by assumption)) ?_
        refine SL.v (op_geqF rfl rfl (by omega)) ?_
        refine SL.mv rfl <| SL.skip rfl rfl ?_
        refine SL.skip rfl rfl ?_
        refine SL.skip rfl rfl ?_
        refine SL.skip rfl rfl ?_
        refine SL.v (op_pickF rfl rfl) <| SL.as rfl <| SL.nil <| T.seq <| T.region <| SL.mv rfl <| SL.mv rfl <| SL.v (op_idxStr Tryz.underlying9 rfl rfl rfl (by assumption)) ?_
        refine SL.v (op_geqF rfl rfl (by omega)) ?_
        refine SL.mv rfl <| SL.skip rfl rfl ?_
        refine SL.skip rfl rfl ?_
        refine SL.skip rfl rfl ?_
        refine SL.skip rfl rfl ?_
        refine SL.v (op_pickF rfl rfl) <| SL.mv rfl <| SL.mv rfl <| SL.mv rfl <| SL.v (op_idxStr Tryz.underlying9 rfl rfl rfl (by assumption)) ?_
        refine SL.v (op_eqlF rfl rfl (by omega)) ?_
        refine SL.v (op_pickF rfl rfl) <| SL.as rfl <| SL.nil <| T.seq <| T.region <| SL.mv rfl <| SL.v (op_not rfl) <| SL.mv rfl <| SL.mv rfl <| SL.v (op_eqlT rfl rfl (by omega)) ?_
        refine SL.mv rfl <| SL.skip rfl rfl ?_
        refine SL.skip rfl rfl ?_
        refine SL.v (op_pickT rfl rfl) <| SL.v (op_pickT rfl rfl) <| SL.nil <| T.condT rfl <| T.seq <| T.region <| SL.as rfl <| SL.nil <| T.ret1 rfl (ResIs.tmp rfl) ?_
        rw [decide_eq_false (hbad (.inr ⟨h0, by rw [el]; exact decide_eq_false (by omega)⟩))]
      · refine T.seq <| T.seq <| T.region <| SL.mv rfl <| SL.mv rfl <| SL.v (op_lenStr Tryz.underlying9 rfl) <| SL.v (op_lssT rfl rfl (by omega)) ?_
        refine SL.nil <| T.condT rfl <| T.skip <| T.seq <| T.block <| T.seq <| T.region <| SL.mv rfl <| SL.mv rfl <| SL.v (op_idxStr Tryz.underlying9 rfl rfl rfl (by assumption)) ?_
        refine SL.v (op_geqF rfl rfl (by omega)) ?_
        refine SL.mv rfl <| SL.skip rfl rfl ?_
        refine SL.skip rfl rfl ?_
        refine SL.skip rfl rfl ?_
        refine SL.skip rfl rfl ?_
        refine SL.v (op_pickF rfl rfl) <| SL.as rfl <| SL.nil <| T.seq <| T.region <| SL.mv rfl <| SL.mv rfl <| SL.v (op_idxStr Tryz.underlying9 rfl rfl rfl (by assumption)) ?_
        refine SL.v (op_geqF rfl rfl (by omega)) ?_
        refine SL.mv rfl <| SL.skip rfl rfl ?_
        refine SL.skip rfl rfl ?_
        refine SL.skip rfl rfl ?_
        refine SL.skip rfl rfl ?_
        refine SL.v (op_pickF rfl rfl) <| SL.mv rfl <| SL.mv rfl <| SL.mv rfl <| SL.v (op_idxStr Tryz.underlying9 rfl rfl rfl (by assumption)) ?_
        refine SL.v (op_eqlF rfl rfl (by omega)) ?_
        refine SL.v (op_pickF rfl rfl) <| SL.as rfl <| SL.nil <| T.seq <| T.region <| SL.mv rfl <| SL.v (op_not rfl) <| SL.mv rfl <| SL.mv rfl <| SL.v (op_eqlF rfl rfl (by omega)) ?_
        refine SL.mv rfl <| SL.mv rfl <| SL.v (op_not rfl) <| SL.v (op_pickF rfl rfl) <| SL.v (op_pickT rfl rfl) <| SL.nil <| T.condT rfl <| T.seq <| T.region <| SL.as rfl <| SL.nil <| T.ret1 rfl (ResIs.tmp rfl) ?_
        rw [decide_eq_false (hbad (.inl (by rw [ei]; exact decide_eq_false (by omega))))]
  · have hform : formB s 0 := fun k b _ hb => hin k b (by have := ByteArray.getElem?_ge' s k; rcases Nat.lt_or_ge k s.size with h | h; omega; rw [this (by omega)] at hb; cases hb) hb
    refine T.seq <| T.seq <| T.region <| SL.mv rfl <| SL.mv rfl <| SL.v (op_lenStr Tryz.underlying9 rfl) <| SL.v (op_lssF rfl rfl (by omega)) ?_
    refine SL.nil <| T.condF rfl ?_
    refine T.exit (T.exitCode (T.exitCut (T.exitBlk ?_)))
    refine T.seq <| T.seq <| T.region <| SL.w (op_callF en186 (vs := []) rfl (rkeyws_spec)) ?_
    rintro kv _ X5 ⟨rfl, hX5, hkv⟩
    obtain ⟨Ak, ck, rfl⟩ := hkv.form
    have hkl : keyws.length = 20 := rfl
    refine SL.v (op_lenS Tryz.underlying59 rfl) <| SL.v (op_move (v := .int .i64 ((0 : Nat) : Int)) rfl) <| SL.nil <| T.block <| T.loopW (fun m env own X' => ∃ j : Nat, m = keyws.length - j ∧ j ≤ keyws.length ∧ X5.le X' ∧ (∀ q x, q < j → keyws[q]? = some x → x ≠ s) ∧ env = [(0, .string s), (58, .slice Ak keyws.length ck), (59, .int .i64 (keyws.length : Int)), (60, .int .i64 (j : Int))] ∧ own = []) keyws.length ⟨0, by simp, by omega, PMap.le_refl _, fun q x hq => absurd hq (by omega), rfl, rfl⟩ (by repeat (first | exact Sub.nil | refine Sub.cons rfl ?_)) ?_
    rintro m _ _ X6 ⟨j, rfl, hj, hX6, hne, rfl, rfl⟩
    rcases Nat.lt_or_ge j keyws.length with hjl | hjl
    · obtain ⟨x, hx⟩ : ∃ x, keyws[j]? = some x := ⟨_, List.getElem?_eq_getElem hjl⟩
      obtain ⟨bk, pre, rfl, hB⟩ := hkv.blk (by omega)
      refine T.seq <| T.region <| SL.v (op_lssT rfl rfl (by omega)) ?_
      refine SL.nil <| T.seq <| T.condT rfl <| T.skip <| T.seq <| T.block <| T.seq <| T.region <| SL.v (op_indexN Tryz.underlying59 ty9 rfl rfl (by omega)) ?_
      refine SL.v (op_loadX ty9 rfl (hB.mono hX6) (str_read hx (by omega))) ?_
      refine SL.as rfl <| SL.nil <| T.seq <| T.region <| SL.mv rfl <| SL.mv rfl <| SL.v (op_eqlStrD rfl rfl) <| SL.nil ?_
      by_cases hc : x = s
      · rw [decide_eq_true hc]
        refine T.condT rfl <| T.seq <| T.region <| SL.as rfl <| SL.nil <| T.ret1 rfl (ResIs.tmp rfl) ?_
        rw [decide_eq_false fun h => h.2.2.1 (hc ▸ List.mem_of_getElem? hx)]
      · rw [decide_eq_false hc]
        refine T.condF rfl <| T.skip <| T.blk <| T.region <| SL.v (op_addN (q := 1) rfl rfl (by omega)) ?_
        refine SL.mv rfl <| SL.nil ?_
        have hne2 : ∀ (q : Nat) (y : ByteArray), q < j + 1 → keyws[q]? = some y → y ≠ s := fun q y hq hy => by
          rcases Nat.lt_or_ge q j with h1 | h1
          · exact hne q y h1 hy
          · obtain rfl : q = j := by omega
            rw [hx] at hy; cases hy; exact hc
        exact T.backW (keyws.length - (j + 1)) (by omega) ⟨j + 1, rfl, by omega, hX6, hne2, rfl, rfl⟩ (by repeat (first | exact Sub.nil | refine Sub.cons rfl ?_))
    · refine T.seq <| T.region <| SL.v (op_lssF rfl rfl (by omega)) ?_
      refine SL.nil <| T.seq <| T.condF rfl ?_
      refine T.exit (T.exitCode (T.exitCut (T.exitBlk ?_)))
      refine T.seq <| T.region <| SL.as rfl <| SL.nil <| T.ret1 rfl (ResIs.tmp rfl) ?_
      rw [decide_eq_true (show validS s from ⟨h1, by omega, fun hm => by
        obtain ⟨q, hq⟩ := List.mem_iff_getElem?.1 hm
        have h1 := (List.getElem?_eq_some_iff.1 hq).1
        exact absurd rfl (hne q s (by omega) hq), hform⟩)]
theorem number_spec8 {X : PMap} {v : Value} {l : List ByteArray} {s : ByteArray} (h : RowR strC X v l) (hl : l.length < 1000000000) : Spec Tryz.prog 128 [v, .string s] X fun u _ => ∃ k : Int, u = .int .i64 k ∧ (0 < k ↔ s ∈ l) ∧ 0 ≤ k := by
  obtain ⟨A, cp, rfl⟩ := h.form
  refine Spec.enter Tryz.func128 rfl Tryz.ntmps128 rfl ?_
  intro w0 hw0
  refine T.seq <| T.region <| SL.v (op_assign (v := .int .i64 ((0 : Nat) : Int)) rfl) <| SL.nil <| T.seq <| T.seq <| T.region <| SL.mv rfl <| SL.v (op_lenS Tryz.underlying59 rfl) <| SL.v (op_move (v := .int .i64 ((0 : Nat) : Int)) rfl) <| SL.nil <| T.block <| T.loopW (fun m env own X' => ∃ i : Nat, m = l.length - i ∧ i ≤ l.length ∧ X.le X' ∧ (∀ q x, q < i → l[q]? = some x → x ≠ s) ∧ env = [(1, .string s), (7, .slice A l.length cp), (8, .int .i64 (l.length : Int)), (9, .int .i64 (i : Int))] ∧ own = []) l.length ⟨0, by simp, by omega, PMap.le_refl _, fun q x hq => absurd hq (by omega), rfl, rfl⟩ (by repeat (first | exact Sub.nil | refine Sub.cons rfl ?_)) ?_
  rintro m _ _ X1 ⟨i, rfl, hi, hX1, hne, rfl, rfl⟩
  rcases Nat.lt_or_ge i l.length with hil | hil
  · obtain ⟨x, hx⟩ : ∃ x, l[i]? = some x := ⟨_, List.getElem?_eq_getElem hil⟩
    obtain ⟨b, pre, rfl, hB⟩ := h.blk (by omega)
    refine T.seq <| T.region <| SL.v (op_lssT rfl rfl (by omega)) ?_
    refine SL.nil <| T.seq <| T.condT rfl <| T.skip <| T.seq <| T.block <| T.seq <| T.region <| SL.mv rfl <| SL.v (op_indexN Tryz.underlying59 ty9 rfl rfl (by omega)) ?_
    refine SL.v (op_loadX ty9 rfl (hB.mono hX1) (str_read hx (by omega))) ?_
    refine SL.as rfl <| SL.as rfl <| SL.nil <| T.seq <| T.region <| SL.mv rfl <| SL.mv rfl <| SL.v (op_eqlStrD rfl rfl) <| SL.nil ?_
    by_cases hc : x = s
    · rw [decide_eq_true hc]
      refine T.condT rfl <| T.seq <| T.region <| SL.mv rfl <| SL.v (op_addN (q := 1) rfl rfl (by omega)) ?_
      refine SL.as rfl <| SL.nil <| T.ret1 rfl (ResIs.tmp rfl) ?_
      exact ⟨_, rfl, ⟨fun _ => hc ▸ List.mem_of_getElem? hx, fun _ => by omega⟩, by omega⟩
    · rw [decide_eq_false hc]
      refine T.condF rfl <| T.skip <| T.blk <| T.region <| SL.v (op_addN (q := 1) rfl rfl (by omega)) ?_
      refine SL.mv rfl <| SL.nil ?_
      have hne2 : ∀ (q : Nat) (y : ByteArray), q < i + 1 → l[q]? = some y → y ≠ s := fun q y hq hy => by
        rcases Nat.lt_or_ge q i with h1 | h1
        · exact hne q y h1 hy
        · obtain rfl : q = i := by omega
          rw [hx] at hy; cases hy; exact hc
      exact T.backW (l.length - (i + 1)) (by omega) ⟨i + 1, rfl, by omega, hX1, hne2, rfl, rfl⟩ (by repeat (first | exact Sub.nil | refine Sub.cons rfl ?_))
  · refine T.seq <| T.region <| SL.v (op_lssF rfl rfl (by omega)) ?_
    refine SL.nil <| T.seq <| T.condF rfl ?_
    refine T.exit (T.exitCode (T.exitCut (T.exitBlk ?_)))
    refine T.seq <| T.region <| SL.v (op_assign (v := .int .i64 ((0 : Nat) : Int)) rfl) <| SL.nil <| T.ret1 rfl (ResIs.tmp rfl) ?_
    refine ⟨_, rfl, ⟨fun h => absurd h (by omega), fun hm => ?_⟩, by omega⟩
    obtain ⟨q, hq⟩ := List.mem_iff_getElem?.1 hm
    have h1 := (List.getElem?_eq_some_iff.1 hq).1
    exact absurd rfl (hne q s (by omega) hq)
end Go.Proofs.YtnpcilglilfajaaGreatDoor
namespace Go.Proofs.YtnpcilglilfajaaGreatDoor
section
set_option maxRecDepth 100000
theorem en118 : Enters Tryz.prog 118 := enters_mk Tryz.func118 (by kernel_rfl) rfl
theorem en127 : Enters Tryz.prog 127 := enters_mk Tryz.func127 (by kernel_rfl) rfl
theorem en128 : Enters Tryz.prog 128 := enters_mk Tryz.func128 (by kernel_rfl) rfl
theorem en154 : Enters Tryz.prog 154 := enters_mk Tryz.func154 (by kernel_rfl) rfl
theorem en167 : Enters Tryz.prog 167 := enters_mk Tryz.func167 (by kernel_rfl) rfl
theorem fa62_0 : FAdr Tryz.prog 62 0 0 := fadr_mk Tryz.underlying62 rfl rfl (by kernel_rfl)
theorem fa62_1 : FAdr Tryz.prog 62 1 1 := fadr_mk Tryz.underlying62 rfl rfl (by kernel_rfl)
theorem fa62_2 : FAdr Tryz.prog 62 2 2 := fadr_mk Tryz.underlying62 rfl rfl (by kernel_rfl)
end
open Go.RowKit
theorem rargN_spec {X : PMap} {op : Nat} : Spec Tryz.prog 118 [.int .i64 (op : Int)] X fun u _ => u = .int .i64 (argN op : Int) := by
  by_cases h1 : 8 ≤ op
  · refine Spec.enter Tryz.func118 rfl Tryz.ntmps118 rfl ?_
    intro w0 hw0
    refine T.seq <| T.region <| SL.v (op_assign (v := .int .i64 ((0 : Nat) : Int)) rfl) <| SL.nil <| T.seq <| T.seq <| T.region <| SL.mv rfl <| SL.v (op_geqT rfl rfl (by omega)) ?_
    refine SL.nil <| T.condT rfl <| T.seq <| T.region <| SL.v (op_assign (v := .int .i64 ((2 : Nat) : Int)) rfl) <| SL.nil <| T.ret1 rfl (ResIs.tmp rfl) ?_
    rw [argN, if_neg (by omega), if_neg (by omega)]
  · by_cases h2 : op = 7
    · refine Spec.enter Tryz.func118 rfl Tryz.ntmps118 rfl ?_
      intro w0 hw0
      refine T.seq <| T.region <| SL.v (op_assign (v := .int .i64 ((0 : Nat) : Int)) rfl) <| SL.nil <| T.seq <| T.seq <| T.region <| SL.mv rfl <| SL.v (op_geqF rfl rfl (by omega)) ?_
      refine SL.nil <| T.condF rfl <| T.skip <| T.seq <| T.seq <| T.region <| SL.mv rfl <| SL.v (op_eqlT rfl rfl (by omega)) ?_
      refine SL.nil <| T.condT rfl <| T.seq <| T.region <| SL.v (op_assign (v := .int .i64 ((1 : Nat) : Int)) rfl) <| SL.nil <| T.ret1 rfl (ResIs.tmp rfl) ?_
      rw [argN, if_neg (by omega), if_pos h2]
    · refine Spec.enter Tryz.func118 rfl Tryz.ntmps118 rfl ?_
      intro w0 hw0
      refine T.seq <| T.region <| SL.v (op_assign (v := .int .i64 ((0 : Nat) : Int)) rfl) <| SL.nil <| T.seq <| T.seq <| T.region <| SL.mv rfl <| SL.v (op_geqF rfl rfl (by omega)) ?_
      refine SL.nil <| T.condF rfl <| T.skip <| T.seq <| T.seq <| T.region <| SL.mv rfl <| SL.v (op_eqlF rfl rfl (by omega)) ?_
      refine SL.nil <| T.condF rfl <| T.skip <| T.seq <| T.region <| SL.v (op_assign (v := .int .i64 ((0 : Nat) : Int)) rfl) <| SL.nil <| T.ret1 rfl (ResIs.tmp rfl) ?_
      rw [argN, if_pos (by omega)]
theorem rnode_spec {X : PMap} {op : Nat} {n : Int} {ns : List ByteArray} {k ca cn : Nat} {An Aa : Option Addr} (_hk : k < 1000000000) (hnl : ns.length < 1000000000) (hn : RowR strC X (.slice An ns.length cn) ns) : Spec Tryz.prog 167 [.agg #[.int .i64 (op : Int), .int .i64 n, .slice An ns.length cn, .slice Aa k ca]] X fun u _ => u = .int .i64 (ownE op n ns k) := by
  have hcn : ns.length ≤ cn := by
    rcases Nat.eq_zero_or_pos ns.length with h0 | h0
    · omega
    · exact (hn.cap h0).1
  by_cases a1 : op < 1
  · refine Spec.enter Tryz.func167 rfl Tryz.ntmps167 rfl ?_
    intro w0 hw0
    refine T.seq <| T.region <| SL.w (op_box rfl) ?_
    rintro _ _ _ ⟨B1, rfl, rfl, rfl⟩
    refine SL.v (op_assign (v := .int .i64 ((0 : Nat) : Int)) rfl) <| SL.nil <| T.seq <| T.seq <| T.draw (by kernel_rfl) 17 [.t 0, .t 1, .t 2, .t 3, .t 4, .t 5, .t 6, .t 7, .t 8, .t 9, .t 10, .t 11, .t 12, .t 13, .r 14, .t 15, .t 16] (by kernel_rfl) ?_
    refine SD.take rfl panicBody (op_fieldAddr fa62_0 rfl) rfl rfl ?_
    refine SD.take rfl panicBody (op_load ty3 rfl (by repeat constructor) rfl) rfl rfl ?_
    refine SD.take rfl panicBody (op_lssT rfl rfl (by omega)) rfl rfl ?_
    refine SD.take rfl panicBody (op_move rfl) rfl rfl ?_
    refine SD.skip rfl panicBody rfl rfl ?_
    refine SD.skip rfl panicBody rfl rfl ?_
    refine SD.skip rfl panicBody rfl rfl ?_
    refine SD.take rfl panicBody (op_pickT rfl rfl) rfl rfl ?_
    refine SD.take rfl panicBody (op_move rfl) rfl rfl ?_
    refine SD.skip rfl panicBody rfl rfl ?_
    refine SD.skip rfl panicBody rfl rfl ?_
    refine SD.skip rfl panicBody rfl rfl ?_
    refine SD.skip rfl panicBody rfl rfl ?_
    refine SD.skip rfl panicBody rfl rfl ?_
    refine SD.skipF rfl rfl rfl ?_
    refine SD.skip rfl panicBody rfl rfl ?_
    refine SD.take rfl panicBody (op_pickT rfl rfl) rfl rfl ?_
    refine SD.nil ?_
    show SL _ _ _ _ _ _ _ [] _ _ _
    refine SL.nil <| T.condT rfl <| T.seq <| T.region <| SL.v (op_assign (v := .int .i64 ((1 : Nat) : Int)) rfl) <| SL.nil <| T.ret1 rfl (ResIs.tmp rfl) ?_
    rw [own1 (.inl a1)]; rfl
  by_cases a2 : 16 < op
  · refine Spec.enter Tryz.func167 rfl Tryz.ntmps167 rfl ?_
    intro w0 hw0
    refine T.seq <| T.region <| SL.w (op_box rfl) ?_
    rintro _ _ _ ⟨B1, rfl, rfl, rfl⟩
    refine SL.v (op_assign (v := .int .i64 ((0 : Nat) : Int)) rfl) <| SL.nil <| T.seq <| T.seq <| T.draw (by kernel_rfl) 17 [.t 0, .t 1, .t 2, .t 3, .t 4, .t 5, .t 6, .t 7, .t 8, .t 9, .t 10, .t 11, .t 12, .t 13, .r 14, .t 15, .t 16] (by kernel_rfl) ?_
    refine SD.take rfl panicBody (op_fieldAddr fa62_0 rfl) rfl rfl ?_
    refine SD.take rfl panicBody (op_load ty3 rfl (by repeat constructor) rfl) rfl rfl ?_
    refine SD.take rfl panicBody (op_lssF rfl rfl (by omega)) rfl rfl ?_
    refine SD.take rfl panicBody (op_move rfl) rfl rfl ?_
    refine SD.take rfl panicBody (op_fieldAddr fa62_0 rfl) rfl rfl ?_
    refine SD.take rfl panicBody (op_load ty3 rfl (by repeat constructor) rfl) rfl rfl ?_
    refine SD.take rfl panicBody (op_gtrT rfl rfl (by omega)) rfl rfl ?_
    refine SD.take rfl panicBody (op_pickF rfl rfl) rfl rfl ?_
    refine SD.take rfl panicBody (op_move rfl) rfl rfl ?_
    refine SD.skip rfl panicBody rfl rfl ?_
    refine SD.skip rfl panicBody rfl rfl ?_
    refine SD.skip rfl panicBody rfl rfl ?_
    refine SD.skip rfl panicBody rfl rfl ?_
    refine SD.skip rfl panicBody rfl rfl ?_
    refine SD.skipF rfl rfl rfl ?_
    refine SD.skip rfl panicBody rfl rfl ?_
    refine SD.take rfl panicBody (op_pickT rfl rfl) rfl rfl ?_
    refine SD.nil ?_
    show SL _ _ _ _ _ _ _ [] _ _ _
    refine SL.nil <| T.condT rfl <| T.seq <| T.region <| SL.v (op_assign (v := .int .i64 ((1 : Nat) : Int)) rfl) <| SL.nil <| T.ret1 rfl (ResIs.tmp rfl) ?_
    rw [own1 (.inr (.inl a2))]; rfl
  by_cases a3 : k = argN op
  case neg =>
    refine Spec.enter Tryz.func167 rfl Tryz.ntmps167 rfl ?_
    intro w0 hw0
    refine T.seq <| T.region <| SL.w (op_box rfl) ?_
    rintro _ _ _ ⟨B1, rfl, rfl, rfl⟩
    refine SL.v (op_assign (v := .int .i64 ((0 : Nat) : Int)) rfl) <| SL.nil <| T.seq <| T.seq <| T.draw (by kernel_rfl) 17 [.t 0, .t 1, .t 2, .t 3, .t 4, .t 5, .t 6, .t 7, .t 8, .t 9, .t 10, .t 11, .t 12, .t 13, .r 14, .t 15, .t 16] (by kernel_rfl) ?_
    refine SD.take rfl panicBody (op_fieldAddr fa62_0 rfl) rfl rfl ?_
    refine SD.take rfl panicBody (op_load ty3 rfl (by repeat constructor) rfl) rfl rfl ?_
    refine SD.take rfl panicBody (op_lssF rfl rfl (by omega)) rfl rfl ?_
    refine SD.take rfl panicBody (op_move rfl) rfl rfl ?_
    refine SD.take rfl panicBody (op_fieldAddr fa62_0 rfl) rfl rfl ?_
    refine SD.take rfl panicBody (op_load ty3 rfl (by repeat constructor) rfl) rfl rfl ?_
    refine SD.take rfl panicBody (op_gtrF rfl rfl (by omega)) rfl rfl ?_
    refine SD.take rfl panicBody (op_pickF rfl rfl) rfl rfl ?_
    refine SD.take rfl panicBody (op_move rfl) rfl rfl ?_
    refine SD.take rfl panicBody (op_fieldAddr fa62_3 rfl) rfl rfl ?_
    refine SD.take rfl panicBody (op_load ty60 rfl (by repeat constructor) rfl) rfl rfl ?_
    refine SD.take rfl panicBody (op_lenS Tryz.underlying60 rfl) rfl rfl ?_
    refine SD.take rfl panicBody (op_fieldAddr fa62_0 rfl) rfl rfl ?_
    refine SD.take rfl panicBody (op_load ty3 rfl (by repeat constructor) rfl) rfl rfl ?_
    refine SD.run rfl (op_callF en118 (vs := [_]) rfl (rargN_spec)) rfl rfl ?_
    rintro _ _ X1 ⟨rfl, hX1, rfl⟩
    refine SD.take rfl panicBody (op_neqT rfl rfl (by omega)) rfl rfl ?_
    refine SD.take rfl panicBody (op_pickF rfl rfl) rfl rfl ?_
    refine SD.nil ?_
    show SL _ _ _ _ _ _ _ [] _ _ _
    refine SL.nil <| T.condT rfl <| T.seq <| T.region <| SL.v (op_assign (v := .int .i64 ((1 : Nat) : Int)) rfl) <| SL.nil <| T.ret1 rfl (ResIs.tmp rfl) ?_
    rw [own1 (.inr (.inr a3))]; rfl
  have hA1 : ¬(op < 1 ∨ 16 < op ∨ k ≠ argN op) := fun h => by omega
  by_cases hNN : n ≠ 0 ∧ op ≠ 1
  · obtain ⟨b1, b2⟩ := hNN
    by_cases h4 : op = 4
    · refine Spec.enter Tryz.func167 rfl Tryz.ntmps167 rfl ?_
      intro w0 hw0
      refine T.seq <| T.region <| SL.w (op_box rfl) ?_
      rintro _ _ _ ⟨B1, rfl, rfl, rfl⟩
      refine SL.v (op_assign (v := .int .i64 ((0 : Nat) : Int)) rfl) <| SL.nil <| T.seq <| T.seq <| T.draw (by kernel_rfl) 17 [.t 0, .t 1, .t 2, .t 3, .t 4, .t 5, .t 6, .t 7, .t 8, .t 9, .t 10, .t 11, .t 12, .t 13, .r 14, .t 15, .t 16] (by kernel_rfl) ?_
      refine SD.take rfl panicBody (op_fieldAddr fa62_0 rfl) rfl rfl ?_
      refine SD.take rfl panicBody (op_load ty3 rfl (by repeat constructor) rfl) rfl rfl ?_
      refine SD.take rfl panicBody (op_lssF rfl rfl (by omega)) rfl rfl ?_
      refine SD.take rfl panicBody (op_move rfl) rfl rfl ?_
      refine SD.take rfl panicBody (op_fieldAddr fa62_0 rfl) rfl rfl ?_
      refine SD.take rfl panicBody (op_load ty3 rfl (by repeat constructor) rfl) rfl rfl ?_
      refine SD.take rfl panicBody (op_gtrF rfl rfl (by omega)) rfl rfl ?_
      refine SD.take rfl panicBody (op_pickF rfl rfl) rfl rfl ?_
      refine SD.take rfl panicBody (op_move rfl) rfl rfl ?_
      refine SD.take rfl panicBody (op_fieldAddr fa62_3 rfl) rfl rfl ?_
      refine SD.take rfl panicBody (op_load ty60 rfl (by repeat constructor) rfl) rfl rfl ?_
      refine SD.take rfl panicBody (op_lenS Tryz.underlying60 rfl) rfl rfl ?_
      refine SD.take rfl panicBody (op_fieldAddr fa62_0 rfl) rfl rfl ?_
      refine SD.take rfl panicBody (op_load ty3 rfl (by repeat constructor) rfl) rfl rfl ?_
      refine SD.run rfl (op_callF en118 (vs := [_]) rfl (rargN_spec)) rfl rfl ?_
      rintro _ _ X1 ⟨rfl, hX1, rfl⟩
      refine SD.take rfl panicBody (op_neqF rfl rfl (by omega)) rfl rfl ?_
      refine SD.take rfl panicBody (op_pickF rfl rfl) rfl rfl ?_
      refine SD.nil ?_
      show SL _ _ _ _ _ _ _ [] _ _ _
      refine SL.nil <| T.condF rfl <| T.skip <| T.seq <| T.region <| SL.v (op_assign (v := .int .i64 ((0 : Nat) : Int)) rfl) <| SL.v (op_assign (v := .int .i64 ((0 : Nat) : Int)) rfl) <| SL.nil <| T.seq <| T.seq <| T.region <| SL.v (op_fieldAddr fa62_0 rfl) <| SL.v (op_load ty3 rfl (by repeat constructor) rfl) ?_
      refine SL.v (op_eqlT rfl rfl (by omega)) ?_
      refine SL.mv rfl <| SL.skip rfl rfl ?_
      refine SL.skip rfl rfl ?_
      refine SL.skip rfl rfl ?_
      refine SL.v (op_pickT rfl rfl) <| SL.nil <| T.condT rfl <| T.region <| SL.v (op_assign (v := .int .i64 ((1 : Nat) : Int)) rfl) <| SL.v (op_assign (v := .int .i64 ((1 : Nat) : Int)) rfl) <| SL.nil <| T.seq <| T.seq <| T.region <| SL.v (op_fieldAddr fa62_0 rfl) <| SL.v (op_load ty3 rfl (by repeat constructor) rfl) ?_
      refine SL.v (op_eqlF rfl rfl (by omega)) ?_
      refine SL.nil <| T.condF rfl <| T.skip <| T.seq <| T.seq <| T.region <| SL.v (op_fieldAddr fa62_0 rfl) <| SL.v (op_load ty3 rfl (by repeat constructor) rfl) ?_
      refine SL.v (op_neqT rfl rfl (by omega)) ?_
      refine SL.mv rfl <| SL.v (op_fieldAddr fa62_1 rfl) <| SL.v (op_load ty3 rfl (by repeat constructor) rfl) ?_
      refine SL.v (op_neqT rfl rfl (by omega)) ?_
      refine SL.v (op_pickT rfl rfl) <| SL.mv rfl <| SL.skip rfl rfl ?_
      refine SL.skip rfl rfl ?_
      refine SL.skip rfl rfl ?_
      refine SL.skip rfl rfl ?_
      refine SL.skip rfl rfl ?_
      refine SL.v (op_pickT rfl rfl) <| SL.mv rfl <| SL.skip rfl rfl ?_
      refine SL.skip rfl rfl ?_
      refine SL.skip rfl rfl ?_
      refine SL.skip rfl rfl ?_
      refine SL.skip rfl rfl ?_
      refine SL.v (op_pickT rfl rfl) <| SL.nil <| T.condT rfl <| T.seq <| T.region <| SL.v (op_assign (v := .int .i64 ((6 : Nat) : Int)) rfl) <| SL.nil <| T.ret1 rfl (ResIs.tmp rfl) ?_
      rw [own6 hA1 (.inl ⟨b1, b2⟩)]; rfl
    by_cases h6 : op = 6
    · refine Spec.enter Tryz.func167 rfl Tryz.ntmps167 rfl ?_
      intro w0 hw0
      refine T.seq <| T.region <| SL.w (op_box rfl) ?_
      rintro _ _ _ ⟨B1, rfl, rfl, rfl⟩
      refine SL.v (op_assign (v := .int .i64 ((0 : Nat) : Int)) rfl) <| SL.nil <| T.seq <| T.seq <| T.draw (by kernel_rfl) 17 [.t 0, .t 1, .t 2, .t 3, .t 4, .t 5, .t 6, .t 7, .t 8, .t 9, .t 10, .t 11, .t 12, .t 13, .r 14, .t 15, .t 16] (by kernel_rfl) ?_
      refine SD.take rfl panicBody (op_fieldAddr fa62_0 rfl) rfl rfl ?_
      refine SD.take rfl panicBody (op_load ty3 rfl (by repeat constructor) rfl) rfl rfl ?_
      refine SD.take rfl panicBody (op_lssF rfl rfl (by omega)) rfl rfl ?_
      refine SD.take rfl panicBody (op_move rfl) rfl rfl ?_
      refine SD.take rfl panicBody (op_fieldAddr fa62_0 rfl) rfl rfl ?_
      refine SD.take rfl panicBody (op_load ty3 rfl (by repeat constructor) rfl) rfl rfl ?_
      refine SD.take rfl panicBody (op_gtrF rfl rfl (by omega)) rfl rfl ?_
      refine SD.take rfl panicBody (op_pickF rfl rfl) rfl rfl ?_
      refine SD.take rfl panicBody (op_move rfl) rfl rfl ?_
      refine SD.take rfl panicBody (op_fieldAddr fa62_3 rfl) rfl rfl ?_
      refine SD.take rfl panicBody (op_load ty60 rfl (by repeat constructor) rfl) rfl rfl ?_
      refine SD.take rfl panicBody (op_lenS Tryz.underlying60 rfl) rfl rfl ?_
      refine SD.take rfl panicBody (op_fieldAddr fa62_0 rfl) rfl rfl ?_
      refine SD.take rfl panicBody (op_load ty3 rfl (by repeat constructor) rfl) rfl rfl ?_
      refine SD.run rfl (op_callF en118 (vs := [_]) rfl (rargN_spec)) rfl rfl ?_
      rintro _ _ X1 ⟨rfl, hX1, rfl⟩
      refine SD.take rfl panicBody (op_neqF rfl rfl (by omega)) rfl rfl ?_
      refine SD.take rfl panicBody (op_pickF rfl rfl) rfl rfl ?_
      refine SD.nil ?_
      show SL _ _ _ _ _ _ _ [] _ _ _
      refine SL.nil <| T.condF rfl <| T.skip <| T.seq <| T.region <| SL.v (op_assign (v := .int .i64 ((0 : Nat) : Int)) rfl) <| SL.v (op_assign (v := .int .i64 ((0 : Nat) : Int)) rfl) <| SL.nil <| T.seq <| T.seq <| T.region <| SL.v (op_fieldAddr fa62_0 rfl) <| SL.v (op_load ty3 rfl (by repeat constructor) rfl) ?_
      refine SL.v (op_eqlF rfl rfl (by omega)) ?_
      refine SL.mv rfl <| SL.v (op_fieldAddr fa62_0 rfl) <| SL.v (op_load ty3 rfl (by repeat constructor) rfl) ?_
      refine SL.v (op_eqlT rfl rfl (by omega)) ?_
      refine SL.v (op_pickF rfl rfl) <| SL.nil <| T.condT rfl <| T.region <| SL.v (op_assign (v := .int .i64 ((1 : Nat) : Int)) rfl) <| SL.v (op_assign (v := .int .i64 ((1 : Nat) : Int)) rfl) <| SL.nil <| T.seq <| T.seq <| T.region <| SL.v (op_fieldAddr fa62_0 rfl) <| SL.v (op_load ty3 rfl (by repeat constructor) rfl) ?_
      refine SL.v (op_eqlF rfl rfl (by omega)) ?_
      refine SL.nil <| T.condF rfl <| T.skip <| T.seq <| T.seq <| T.region <| SL.v (op_fieldAddr fa62_0 rfl) <| SL.v (op_load ty3 rfl (by repeat constructor) rfl) ?_
      refine SL.v (op_neqT rfl rfl (by omega)) ?_
      refine SL.mv rfl <| SL.v (op_fieldAddr fa62_1 rfl) <| SL.v (op_load ty3 rfl (by repeat constructor) rfl) ?_
      refine SL.v (op_neqT rfl rfl (by omega)) ?_
      refine SL.v (op_pickT rfl rfl) <| SL.mv rfl <| SL.skip rfl rfl ?_
      refine SL.skip rfl rfl ?_
      refine SL.skip rfl rfl ?_
      refine SL.skip rfl rfl ?_
      refine SL.skip rfl rfl ?_
      refine SL.v (op_pickT rfl rfl) <| SL.mv rfl <| SL.skip rfl rfl ?_
      refine SL.skip rfl rfl ?_
      refine SL.skip rfl rfl ?_
      refine SL.skip rfl rfl ?_
      refine SL.skip rfl rfl ?_
      refine SL.v (op_pickT rfl rfl) <| SL.nil <| T.condT rfl <| T.seq <| T.region <| SL.v (op_assign (v := .int .i64 ((6 : Nat) : Int)) rfl) <| SL.nil <| T.ret1 rfl (ResIs.tmp rfl) ?_
      rw [own6 hA1 (.inl ⟨b1, b2⟩)]; rfl
    by_cases h5 : op = 5
    · refine Spec.enter Tryz.func167 rfl Tryz.ntmps167 rfl ?_
      intro w0 hw0
      refine T.seq <| T.region <| SL.w (op_box rfl) ?_
      rintro _ _ _ ⟨B1, rfl, rfl, rfl⟩
      refine SL.v (op_assign (v := .int .i64 ((0 : Nat) : Int)) rfl) <| SL.nil <| T.seq <| T.seq <| T.draw (by kernel_rfl) 17 [.t 0, .t 1, .t 2, .t 3, .t 4, .t 5, .t 6, .t 7, .t 8, .t 9, .t 10, .t 11, .t 12, .t 13, .r 14, .t 15, .t 16] (by kernel_rfl) ?_
      refine SD.take rfl panicBody (op_fieldAddr fa62_0 rfl) rfl rfl ?_
      refine SD.take rfl panicBody (op_load ty3 rfl (by repeat constructor) rfl) rfl rfl ?_
      refine SD.take rfl panicBody (op_lssF rfl rfl (by omega)) rfl rfl ?_
      refine SD.take rfl panicBody (op_move rfl) rfl rfl ?_
      refine SD.take rfl panicBody (op_fieldAddr fa62_0 rfl) rfl rfl ?_
      refine SD.take rfl panicBody (op_load ty3 rfl (by repeat constructor) rfl) rfl rfl ?_
      refine SD.take rfl panicBody (op_gtrF rfl rfl (by omega)) rfl rfl ?_
      refine SD.take rfl panicBody (op_pickF rfl rfl) rfl rfl ?_
      refine SD.take rfl panicBody (op_move rfl) rfl rfl ?_
      refine SD.take rfl panicBody (op_fieldAddr fa62_3 rfl) rfl rfl ?_
      refine SD.take rfl panicBody (op_load ty60 rfl (by repeat constructor) rfl) rfl rfl ?_
      refine SD.take rfl panicBody (op_lenS Tryz.underlying60 rfl) rfl rfl ?_
      refine SD.take rfl panicBody (op_fieldAddr fa62_0 rfl) rfl rfl ?_
      refine SD.take rfl panicBody (op_load ty3 rfl (by repeat constructor) rfl) rfl rfl ?_
      refine SD.run rfl (op_callF en118 (vs := [_]) rfl (rargN_spec)) rfl rfl ?_
      rintro _ _ X1 ⟨rfl, hX1, rfl⟩
      refine SD.take rfl panicBody (op_neqF rfl rfl (by omega)) rfl rfl ?_
      refine SD.take rfl panicBody (op_pickF rfl rfl) rfl rfl ?_
      refine SD.nil ?_
      show SL _ _ _ _ _ _ _ [] _ _ _
      refine SL.nil <| T.condF rfl <| T.skip <| T.seq <| T.region <| SL.v (op_assign (v := .int .i64 ((0 : Nat) : Int)) rfl) <| SL.v (op_assign (v := .int .i64 ((0 : Nat) : Int)) rfl) <| SL.nil <| T.seq <| T.seq <| T.region <| SL.v (op_fieldAddr fa62_0 rfl) <| SL.v (op_load ty3 rfl (by repeat constructor) rfl) ?_
      refine SL.v (op_eqlF rfl rfl (by omega)) ?_
      refine SL.mv rfl <| SL.v (op_fieldAddr fa62_0 rfl) <| SL.v (op_load ty3 rfl (by repeat constructor) rfl) ?_
      refine SL.v (op_eqlF rfl rfl (by omega)) ?_
      refine SL.v (op_pickF rfl rfl) <| SL.nil <| T.condF rfl <| T.skip <| T.seq <| T.seq <| T.region <| SL.v (op_fieldAddr fa62_0 rfl) <| SL.v (op_load ty3 rfl (by repeat constructor) rfl) ?_
      refine SL.v (op_eqlT rfl rfl (by omega)) ?_
      refine SL.nil <| T.condT rfl <| T.region <| SL.v (op_assign (v := .int .i64 ((1 : Nat) : Int)) rfl) <| SL.v (op_assign (v := .int .i64 ((8 : Nat) : Int)) rfl) <| SL.nil <| T.seq <| T.seq <| T.region <| SL.v (op_fieldAddr fa62_0 rfl) <| SL.v (op_load ty3 rfl (by repeat constructor) rfl) ?_
      refine SL.v (op_neqT rfl rfl (by omega)) ?_
      refine SL.mv rfl <| SL.v (op_fieldAddr fa62_1 rfl) <| SL.v (op_load ty3 rfl (by repeat constructor) rfl) ?_
      refine SL.v (op_neqT rfl rfl (by omega)) ?_
      refine SL.v (op_pickT rfl rfl) <| SL.mv rfl <| SL.skip rfl rfl ?_
      refine SL.skip rfl rfl ?_
      refine SL.skip rfl rfl ?_
      refine SL.skip rfl rfl ?_
      refine SL.skip rfl rfl ?_
      refine SL.v (op_pickT rfl rfl) <| SL.mv rfl <| SL.skip rfl rfl ?_
      refine SL.skip rfl rfl ?_
      refine SL.skip rfl rfl ?_
      refine SL.skip rfl rfl ?_
      refine SL.skip rfl rfl ?_
      refine SL.v (op_pickT rfl rfl) <| SL.nil <| T.condT rfl <| T.seq <| T.region <| SL.v (op_assign (v := .int .i64 ((6 : Nat) : Int)) rfl) <| SL.nil <| T.ret1 rfl (ResIs.tmp rfl) ?_
      rw [own6 hA1 (.inl ⟨b1, b2⟩)]; rfl
    refine Spec.enter Tryz.func167 rfl Tryz.ntmps167 rfl ?_
    intro w0 hw0
    refine T.seq <| T.region <| SL.w (op_box rfl) ?_
    rintro _ _ _ ⟨B1, rfl, rfl, rfl⟩
    refine SL.v (op_assign (v := .int .i64 ((0 : Nat) : Int)) rfl) <| SL.nil <| T.seq <| T.seq <| T.draw (by kernel_rfl) 17 [.t 0, .t 1, .t 2, .t 3, .t 4, .t 5, .t 6, .t 7, .t 8, .t 9, .t 10, .t 11, .t 12, .t 13, .r 14, .t 15, .t 16] (by kernel_rfl) ?_
    refine SD.take rfl panicBody (op_fieldAddr fa62_0 rfl) rfl rfl ?_
    refine SD.take rfl panicBody (op_load ty3 rfl (by repeat constructor) rfl) rfl rfl ?_
    refine SD.take rfl panicBody (op_lssF rfl rfl (by omega)) rfl rfl ?_
    refine SD.take rfl panicBody (op_move rfl) rfl rfl ?_
    refine SD.take rfl panicBody (op_fieldAddr fa62_0 rfl) rfl rfl ?_
    refine SD.take rfl panicBody (op_load ty3 rfl (by repeat constructor) rfl) rfl rfl ?_
    refine SD.take rfl panicBody (op_gtrF rfl rfl (by omega)) rfl rfl ?_
    refine SD.take rfl panicBody (op_pickF rfl rfl) rfl rfl ?_
    refine SD.take rfl panicBody (op_move rfl) rfl rfl ?_
    refine SD.take rfl panicBody (op_fieldAddr fa62_3 rfl) rfl rfl ?_
    refine SD.take rfl panicBody (op_load ty60 rfl (by repeat constructor) rfl) rfl rfl ?_
    refine SD.take rfl panicBody (op_lenS Tryz.underlying60 rfl) rfl rfl ?_
    refine SD.take rfl panicBody (op_fieldAddr fa62_0 rfl) rfl rfl ?_
    refine SD.take rfl panicBody (op_load ty3 rfl (by repeat constructor) rfl) rfl rfl ?_
    refine SD.run rfl (op_callF en118 (vs := [_]) rfl (rargN_spec)) rfl rfl ?_
    rintro _ _ X1 ⟨rfl, hX1, rfl⟩
    refine SD.take rfl panicBody (op_neqF rfl rfl (by omega)) rfl rfl ?_
    refine SD.take rfl panicBody (op_pickF rfl rfl) rfl rfl ?_
    refine SD.nil ?_
    show SL _ _ _ _ _ _ _ [] _ _ _
    refine SL.nil <| T.condF rfl <| T.skip <| T.seq <| T.region <| SL.v (op_assign (v := .int .i64 ((0 : Nat) : Int)) rfl) <| SL.v (op_assign (v := .int .i64 ((0 : Nat) : Int)) rfl) <| SL.nil <| T.seq <| T.seq <| T.region <| SL.v (op_fieldAddr fa62_0 rfl) <| SL.v (op_load ty3 rfl (by repeat constructor) rfl) ?_
    refine SL.v (op_eqlF rfl rfl (by omega)) ?_
    refine SL.mv rfl <| SL.v (op_fieldAddr fa62_0 rfl) <| SL.v (op_load ty3 rfl (by repeat constructor) rfl) ?_
    refine SL.v (op_eqlF rfl rfl (by omega)) ?_
    refine SL.v (op_pickF rfl rfl) <| SL.nil <| T.condF rfl <| T.skip <| T.seq <| T.seq <| T.region <| SL.v (op_fieldAddr fa62_0 rfl) <| SL.v (op_load ty3 rfl (by repeat constructor) rfl) ?_
    refine SL.v (op_eqlF rfl rfl (by omega)) ?_
    refine SL.nil <| T.condF rfl <| T.skip <| T.seq <| T.seq <| T.region <| SL.v (op_fieldAddr fa62_0 rfl) <| SL.v (op_load ty3 rfl (by repeat constructor) rfl) ?_
    refine SL.v (op_neqT rfl rfl (by omega)) ?_
    refine SL.mv rfl <| SL.v (op_fieldAddr fa62_1 rfl) <| SL.v (op_load ty3 rfl (by repeat constructor) rfl) ?_
    refine SL.v (op_neqT rfl rfl (by omega)) ?_
    refine SL.v (op_pickT rfl rfl) <| SL.mv rfl <| SL.skip rfl rfl ?_
    refine SL.skip rfl rfl ?_
    refine SL.skip rfl rfl ?_
    refine SL.skip rfl rfl ?_
    refine SL.skip rfl rfl ?_
    refine SL.v (op_pickT rfl rfl) <| SL.mv rfl <| SL.skip rfl rfl ?_
    refine SL.skip rfl rfl ?_
    refine SL.skip rfl rfl ?_
    refine SL.skip rfl rfl ?_
    refine SL.skip rfl rfl ?_
    refine SL.v (op_pickT rfl rfl) <| SL.nil <| T.condT rfl <| T.seq <| T.region <| SL.v (op_assign (v := .int .i64 ((6 : Nat) : Int)) rfl) <| SL.nil <| T.ret1 rfl (ResIs.tmp rfl) ?_
    rw [own6 hA1 (.inl ⟨b1, b2⟩)]; rfl
  by_cases h1 : op = 1
  · by_cases hl0 : 0 < ns.length
    · have hnm : ¬namN op ns.length := by
        have hq : ∀ q : Nat, 0 < q → ¬namN op q := fun q hq h => by simp [namN, h1] at h; omega
        exact hq _ (by omega)
      refine Spec.enter Tryz.func167 rfl Tryz.ntmps167 rfl ?_
      intro w0 hw0
      refine T.seq <| T.region <| SL.w (op_box rfl) ?_
      rintro _ _ _ ⟨B1, rfl, rfl, rfl⟩
      refine SL.v (op_assign (v := .int .i64 ((0 : Nat) : Int)) rfl) <| SL.nil <| T.seq <| T.seq <| T.draw (by kernel_rfl) 17 [.t 0, .t 1, .t 2, .t 3, .t 4, .t 5, .t 6, .t 7, .t 8, .t 9, .t 10, .t 11, .t 12, .t 13, .r 14, .t 15, .t 16] (by kernel_rfl) ?_
      refine SD.take rfl panicBody (op_fieldAddr fa62_0 rfl) rfl rfl ?_
      refine SD.take rfl panicBody (op_load ty3 rfl (by repeat constructor) rfl) rfl rfl ?_
      refine SD.take rfl panicBody (op_lssF rfl rfl (by omega)) rfl rfl ?_
      refine SD.take rfl panicBody (op_move rfl) rfl rfl ?_
      refine SD.take rfl panicBody (op_fieldAddr fa62_0 rfl) rfl rfl ?_
      refine SD.take rfl panicBody (op_load ty3 rfl (by repeat constructor) rfl) rfl rfl ?_
      refine SD.take rfl panicBody (op_gtrF rfl rfl (by omega)) rfl rfl ?_
      refine SD.take rfl panicBody (op_pickF rfl rfl) rfl rfl ?_
      refine SD.take rfl panicBody (op_move rfl) rfl rfl ?_
      refine SD.take rfl panicBody (op_fieldAddr fa62_3 rfl) rfl rfl ?_
      refine SD.take rfl panicBody (op_load ty60 rfl (by repeat constructor) rfl) rfl rfl ?_
      refine SD.take rfl panicBody (op_lenS Tryz.underlying60 rfl) rfl rfl ?_
      refine SD.take rfl panicBody (op_fieldAddr fa62_0 rfl) rfl rfl ?_
      refine SD.take rfl panicBody (op_load ty3 rfl (by repeat constructor) rfl) rfl rfl ?_
      refine SD.run rfl (op_callF en118 (vs := [_]) rfl (rargN_spec)) rfl rfl ?_
      rintro _ _ X1 ⟨rfl, hX1, rfl⟩
      refine SD.take rfl panicBody (op_neqF rfl rfl (by omega)) rfl rfl ?_
      refine SD.take rfl panicBody (op_pickF rfl rfl) rfl rfl ?_
      refine SD.nil ?_
      show SL _ _ _ _ _ _ _ [] _ _ _
      refine SL.nil <| T.condF rfl <| T.skip <| T.seq <| T.region <| SL.v (op_assign (v := .int .i64 ((0 : Nat) : Int)) rfl) <| SL.v (op_assign (v := .int .i64 ((0 : Nat) : Int)) rfl) <| SL.nil <| T.seq <| T.seq <| T.region <| SL.v (op_fieldAddr fa62_0 rfl) <| SL.v (op_load ty3 rfl (by repeat constructor) rfl) ?_
      refine SL.v (op_eqlF rfl rfl (by omega)) ?_
      refine SL.mv rfl <| SL.v (op_fieldAddr fa62_0 rfl) <| SL.v (op_load ty3 rfl (by repeat constructor) rfl) ?_
      refine SL.v (op_eqlF rfl rfl (by omega)) ?_
      refine SL.v (op_pickF rfl rfl) <| SL.nil <| T.condF rfl <| T.skip <| T.seq <| T.seq <| T.region <| SL.v (op_fieldAddr fa62_0 rfl) <| SL.v (op_load ty3 rfl (by repeat constructor) rfl) ?_
      refine SL.v (op_eqlF rfl rfl (by omega)) ?_
      refine SL.nil <| T.condF rfl <| T.skip <| T.seq <| T.seq <| T.region <| SL.v (op_fieldAddr fa62_0 rfl) <| SL.v (op_load ty3 rfl (by repeat constructor) rfl) ?_
      refine SL.v (op_neqF rfl rfl (by omega)) ?_
      refine SL.mv rfl <| SL.skip rfl rfl ?_
      refine SL.skip rfl rfl ?_
      refine SL.skip rfl rfl ?_
      refine SL.v (op_pickF rfl rfl) <| SL.mv rfl <| SL.v (op_fieldAddr fa62_2 rfl) <| SL.v (op_load ty59 rfl (by repeat constructor) rfl) ?_
      refine SL.v (op_lenS Tryz.underlying59 rfl) <| SL.mv rfl <| SL.v (op_lssF rfl rfl (by omega)) ?_
      refine SL.v (op_pickF rfl rfl) <| SL.mv rfl <| SL.v (op_fieldAddr fa62_2 rfl) <| SL.v (op_load ty59 rfl (by repeat constructor) rfl) ?_
      refine SL.v (op_lenS Tryz.underlying59 rfl) <| SL.mv rfl <| SL.v (op_gtrT rfl rfl (by omega)) ?_
      refine SL.v (op_pickF rfl rfl) <| SL.nil <| T.condT rfl <| T.seq <| T.region <| SL.v (op_assign (v := .int .i64 ((6 : Nat) : Int)) rfl) <| SL.nil <| T.ret1 rfl (ResIs.tmp rfl) ?_
      rw [own6 hA1 (.inr hnm)]; rfl

    have hnm : namN op ns.length := by
      have hq : ∀ q : Nat, 0 ≤ q ∧ q ≤ 0 → namN op q := fun q hq => by simp [namN, h1]; omega
      exact hq _ (by omega)
    have hA2 : ¬((n ≠ 0 ∧ op ≠ 1) ∨ ¬namN op ns.length) := fun h => h.elim (fun h => hNN h) (fun h => h hnm)
    refine Spec.enter Tryz.func167 rfl Tryz.ntmps167 rfl ?_
    intro w0 hw0
    refine T.seq <| T.region <| SL.w (op_box rfl) ?_
    rintro _ _ _ ⟨B1, rfl, rfl, rfl⟩
    refine SL.v (op_assign (v := .int .i64 ((0 : Nat) : Int)) rfl) <| SL.nil <| T.seq <| T.seq <| T.draw (by kernel_rfl) 17 [.t 0, .t 1, .t 2, .t 3, .t 4, .t 5, .t 6, .t 7, .t 8, .t 9, .t 10, .t 11, .t 12, .t 13, .r 14, .t 15, .t 16] (by kernel_rfl) ?_
    refine SD.take rfl panicBody (op_fieldAddr fa62_0 rfl) rfl rfl ?_
    refine SD.take rfl panicBody (op_load ty3 rfl (by repeat constructor) rfl) rfl rfl ?_
    refine SD.take rfl panicBody (op_lssF rfl rfl (by omega)) rfl rfl ?_
    refine SD.take rfl panicBody (op_move rfl) rfl rfl ?_
    refine SD.take rfl panicBody (op_fieldAddr fa62_0 rfl) rfl rfl ?_
    refine SD.take rfl panicBody (op_load ty3 rfl (by repeat constructor) rfl) rfl rfl ?_
    refine SD.take rfl panicBody (op_gtrF rfl rfl (by omega)) rfl rfl ?_
    refine SD.take rfl panicBody (op_pickF rfl rfl) rfl rfl ?_
    refine SD.take rfl panicBody (op_move rfl) rfl rfl ?_
    refine SD.take rfl panicBody (op_fieldAddr fa62_3 rfl) rfl rfl ?_
    refine SD.take rfl panicBody (op_load ty60 rfl (by repeat constructor) rfl) rfl rfl ?_
    refine SD.take rfl panicBody (op_lenS Tryz.underlying60 rfl) rfl rfl ?_
    refine SD.take rfl panicBody (op_fieldAddr fa62_0 rfl) rfl rfl ?_
    refine SD.take rfl panicBody (op_load ty3 rfl (by repeat constructor) rfl) rfl rfl ?_
    refine SD.run rfl (op_callF en118 (vs := [_]) rfl (rargN_spec)) rfl rfl ?_
    rintro _ _ X1 ⟨rfl, hX1, rfl⟩
    refine SD.take rfl panicBody (op_neqF rfl rfl (by omega)) rfl rfl ?_
    refine SD.take rfl panicBody (op_pickF rfl rfl) rfl rfl ?_
    refine SD.nil ?_
    show SL _ _ _ _ _ _ _ [] _ _ _
    refine SL.nil <| T.condF rfl <| T.skip <| T.seq <| T.region <| SL.v (op_assign (v := .int .i64 ((0 : Nat) : Int)) rfl) <| SL.v (op_assign (v := .int .i64 ((0 : Nat) : Int)) rfl) <| SL.nil <| T.seq <| T.seq <| T.region <| SL.v (op_fieldAddr fa62_0 rfl) <| SL.v (op_load ty3 rfl (by repeat constructor) rfl) ?_
    refine SL.v (op_eqlF rfl rfl (by omega)) ?_
    refine SL.mv rfl <| SL.v (op_fieldAddr fa62_0 rfl) <| SL.v (op_load ty3 rfl (by repeat constructor) rfl) ?_
    refine SL.v (op_eqlF rfl rfl (by omega)) ?_
    refine SL.v (op_pickF rfl rfl) <| SL.nil <| T.condF rfl <| T.skip <| T.seq <| T.seq <| T.region <| SL.v (op_fieldAddr fa62_0 rfl) <| SL.v (op_load ty3 rfl (by repeat constructor) rfl) ?_
    refine SL.v (op_eqlF rfl rfl (by omega)) ?_
    refine SL.nil <| T.condF rfl <| T.skip <| T.seq <| T.seq <| T.region <| SL.v (op_fieldAddr fa62_0 rfl) <| SL.v (op_load ty3 rfl (by repeat constructor) rfl) ?_
    refine SL.v (op_neqF rfl rfl (by omega)) ?_
    refine SL.mv rfl <| SL.skip rfl rfl ?_
    refine SL.skip rfl rfl ?_
    refine SL.skip rfl rfl ?_
    refine SL.v (op_pickF rfl rfl) <| SL.mv rfl <| SL.v (op_fieldAddr fa62_2 rfl) <| SL.v (op_load ty59 rfl (by repeat constructor) rfl) ?_
    refine SL.v (op_lenS Tryz.underlying59 rfl) <| SL.mv rfl <| SL.v (op_lssF rfl rfl (by omega)) ?_
    refine SL.v (op_pickF rfl rfl) <| SL.mv rfl <| SL.v (op_fieldAddr fa62_2 rfl) <| SL.v (op_load ty59 rfl (by repeat constructor) rfl) ?_
    refine SL.v (op_lenS Tryz.underlying59 rfl) <| SL.mv rfl <| SL.v (op_gtrF rfl rfl (by omega)) ?_
    refine SL.v (op_pickF rfl rfl) <| SL.nil <| T.condF rfl <| T.skip <| T.seq <| T.seq <| T.region <| SL.v (op_fieldAddr fa62_2 rfl) <| SL.v (op_load ty59 rfl (by repeat constructor) rfl) ?_
    refine SL.v (op_lenS Tryz.underlying59 rfl) <| SL.v (op_move (v := .int .i64 ((0 : Nat) : Int)) rfl) <| SL.nil <| T.block <| T.loopW (fun m env own X' => ∃ i : Nat, m = ns.length - i ∧ i ≤ ns.length ∧ X1.le X' ∧ (∀ q x, q < i → ns[q]? = some x → validS x) ∧ env = [(1, .pointer (some ⟨B1, 0, none⟩)), (60, .slice An ns.length cn), (61, .int .i64 (ns.length : Int)), (62, .int .i64 (i : Int))] ∧ own = [⟨B1, [.int .i64 (op : Int), .int .i64 n, .slice An ns.length cn, .slice Aa k ca], 62, 4⟩]) ns.length ⟨0, by simp, by omega, PMap.le_refl _, fun q x hq => absurd hq (by omega), rfl, rfl⟩ (by repeat (first | exact Sub.nil | refine Sub.cons rfl ?_)) ?_
    rintro m _ _ X2 ⟨i, rfl, hi, hX2, hne, rfl, rfl⟩
    have hil : ns.length ≤ i := by omega
    have hv : ∀ s ∈ ns, validS s := fun s hs => by
      obtain ⟨q, hq⟩ := List.mem_iff_getElem?.1 hs
      have h1 := (List.getElem?_eq_some_iff.1 hq).1
      exact hne q s (by omega) hq
    refine T.seq <| T.region <| SL.v (op_lssF rfl rfl (by omega)) ?_
    refine SL.nil <| T.seq <| T.condF rfl ?_
    refine T.exit (T.exitCode (T.exitCut (T.exitBlk ?_)))
    refine T.seq <| T.seq <| T.region <| SL.v (op_fieldAddr fa62_2 rfl) <| SL.v (op_load ty59 rfl (by repeat constructor) rfl) ?_
    refine SL.v (op_lenS Tryz.underlying59 rfl) <| SL.v (op_move (v := .int .i64 ((0 : Nat) : Int)) rfl) <| SL.nil <| T.block <| T.loopW (fun m env own X' => ∃ i : Nat, m = ns.length - i ∧ i ≤ ns.length ∧ X2.le X' ∧ (ns.take i).Nodup ∧ env = [(1, .pointer (some ⟨B1, 0, none⟩)), (71, .slice An ns.length cn), (72, .int .i64 (ns.length : Int)), (73, .int .i64 (i : Int))] ∧ own = [⟨B1, [.int .i64 (op : Int), .int .i64 n, .slice An ns.length cn, .slice Aa k ca], 62, 4⟩]) ns.length ⟨0, by simp, by omega, PMap.le_refl _, by simp, rfl, rfl⟩ (by repeat (first | exact Sub.nil | refine Sub.cons rfl ?_)) ?_
    rintro m _ _ X4 ⟨j, rfl, hj, hX4, hnd, rfl, rfl⟩
    have hjl : ns.length ≤ j := by omega
    rw [List.take_of_length_le (by omega)] at hnd
    by_cases hlo : n < 0
    · skip
      refine T.seq <| T.region <| SL.v (op_lssF rfl rfl (by omega)) ?_
      refine SL.nil <| T.seq <| T.condF rfl ?_
      refine T.exit (T.exitCode (T.exitCut (T.exitBlk ?_)))
      refine T.seq <| T.seq <| T.region <| SL.v (op_fieldAddr fa62_1 rfl) <| SL.v (op_load ty3 rfl (by repeat constructor) rfl) ?_
      refine SL.v (op_lssT rfl rfl (by omega)) ?_
      refine SL.mv rfl <| SL.skip rfl rfl ?_
      refine SL.skip rfl rfl ?_
      refine SL.skip rfl rfl ?_
      refine SL.v (op_pickT rfl rfl) <| SL.nil <| T.condT rfl <| T.seq <| T.region <| SL.v (op_assign (v := .int .i64 ((2 : Nat) : Int)) rfl) <| SL.nil <| T.ret1 rfl (ResIs.tmp rfl) ?_
      rw [own2 hA1 hA2 hv hnd (.inl hlo)]; rfl
    by_cases hhi : 999999 < n
    · skip
      refine T.seq <| T.region <| SL.v (op_lssF rfl rfl (by omega)) ?_
      refine SL.nil <| T.seq <| T.condF rfl ?_
      refine T.exit (T.exitCode (T.exitCut (T.exitBlk ?_)))
      refine T.seq <| T.seq <| T.region <| SL.v (op_fieldAddr fa62_1 rfl) <| SL.v (op_load ty3 rfl (by repeat constructor) rfl) ?_
      refine SL.v (op_lssF rfl rfl (by omega)) ?_
      refine SL.mv rfl <| SL.v (op_fieldAddr fa62_1 rfl) <| SL.v (op_load ty3 rfl (by repeat constructor) rfl) ?_
      refine SL.v (op_gtrT rfl rfl (by omega)) ?_
      refine SL.v (op_pickF rfl rfl) <| SL.nil <| T.condT rfl <| T.seq <| T.region <| SL.v (op_assign (v := .int .i64 ((2 : Nat) : Int)) rfl) <| SL.nil <| T.ret1 rfl (ResIs.tmp rfl) ?_
      rw [own2 hA1 hA2 hv hnd (.inr hhi)]; rfl
    refine T.seq <| T.region <| SL.v (op_lssF rfl rfl (by omega)) ?_
    refine SL.nil <| T.seq <| T.condF rfl ?_
    refine T.exit (T.exitCode (T.exitCut (T.exitBlk ?_)))
    refine T.seq <| T.seq <| T.region <| SL.v (op_fieldAddr fa62_1 rfl) <| SL.v (op_load ty3 rfl (by repeat constructor) rfl) ?_
    refine SL.v (op_lssF rfl rfl (by omega)) ?_
    refine SL.mv rfl <| SL.v (op_fieldAddr fa62_1 rfl) <| SL.v (op_load ty3 rfl (by repeat constructor) rfl) ?_
    refine SL.v (op_gtrF rfl rfl (by omega)) ?_
    refine SL.v (op_pickF rfl rfl) <| SL.nil <| T.condF rfl <| T.skip <| T.seq <| T.region <| SL.v (op_assign (v := .int .i64 ((0 : Nat) : Int)) rfl) <| SL.nil <| T.ret1 rfl (ResIs.tmp rfl) ?_
    rw [own0' hA1 hA2 hv hnd (by omega)]; rfl
  have b1 : n = 0 := Decidable.not_not.1 fun h => hNN ⟨h, h1⟩
  by_cases h4 : op = 4
  · by_cases hl0 : ns.length < 1
    · have hnm : ¬namN op ns.length := by
        have hq : ∀ q : Nat, q < 1 → ¬namN op q := fun q hq h => by simp [namN, h4] at h; omega
        exact hq _ (by omega)
      refine Spec.enter Tryz.func167 rfl Tryz.ntmps167 rfl ?_
      intro w0 hw0
      refine T.seq <| T.region <| SL.w (op_box rfl) ?_
      rintro _ _ _ ⟨B1, rfl, rfl, rfl⟩
      refine SL.v (op_assign (v := .int .i64 ((0 : Nat) : Int)) rfl) <| SL.nil <| T.seq <| T.seq <| T.draw (by kernel_rfl) 17 [.t 0, .t 1, .t 2, .t 3, .t 4, .t 5, .t 6, .t 7, .t 8, .t 9, .t 10, .t 11, .t 12, .t 13, .r 14, .t 15, .t 16] (by kernel_rfl) ?_
      refine SD.take rfl panicBody (op_fieldAddr fa62_0 rfl) rfl rfl ?_
      refine SD.take rfl panicBody (op_load ty3 rfl (by repeat constructor) rfl) rfl rfl ?_
      refine SD.take rfl panicBody (op_lssF rfl rfl (by omega)) rfl rfl ?_
      refine SD.take rfl panicBody (op_move rfl) rfl rfl ?_
      refine SD.take rfl panicBody (op_fieldAddr fa62_0 rfl) rfl rfl ?_
      refine SD.take rfl panicBody (op_load ty3 rfl (by repeat constructor) rfl) rfl rfl ?_
      refine SD.take rfl panicBody (op_gtrF rfl rfl (by omega)) rfl rfl ?_
      refine SD.take rfl panicBody (op_pickF rfl rfl) rfl rfl ?_
      refine SD.take rfl panicBody (op_move rfl) rfl rfl ?_
      refine SD.take rfl panicBody (op_fieldAddr fa62_3 rfl) rfl rfl ?_
      refine SD.take rfl panicBody (op_load ty60 rfl (by repeat constructor) rfl) rfl rfl ?_
      refine SD.take rfl panicBody (op_lenS Tryz.underlying60 rfl) rfl rfl ?_
      refine SD.take rfl panicBody (op_fieldAddr fa62_0 rfl) rfl rfl ?_
      refine SD.take rfl panicBody (op_load ty3 rfl (by repeat constructor) rfl) rfl rfl ?_
      refine SD.run rfl (op_callF en118 (vs := [_]) rfl (rargN_spec)) rfl rfl ?_
      rintro _ _ X1 ⟨rfl, hX1, rfl⟩
      refine SD.take rfl panicBody (op_neqF rfl rfl (by omega)) rfl rfl ?_
      refine SD.take rfl panicBody (op_pickF rfl rfl) rfl rfl ?_
      refine SD.nil ?_
      show SL _ _ _ _ _ _ _ [] _ _ _
      refine SL.nil <| T.condF rfl <| T.skip <| T.seq <| T.region <| SL.v (op_assign (v := .int .i64 ((0 : Nat) : Int)) rfl) <| SL.v (op_assign (v := .int .i64 ((0 : Nat) : Int)) rfl) <| SL.nil <| T.seq <| T.seq <| T.region <| SL.v (op_fieldAddr fa62_0 rfl) <| SL.v (op_load ty3 rfl (by repeat constructor) rfl) ?_
      refine SL.v (op_eqlT rfl rfl (by omega)) ?_
      refine SL.mv rfl <| SL.skip rfl rfl ?_
      refine SL.skip rfl rfl ?_
      refine SL.skip rfl rfl ?_
      refine SL.v (op_pickT rfl rfl) <| SL.nil <| T.condT rfl <| T.region <| SL.v (op_assign (v := .int .i64 ((1 : Nat) : Int)) rfl) <| SL.v (op_assign (v := .int .i64 ((1 : Nat) : Int)) rfl) <| SL.nil <| T.seq <| T.seq <| T.region <| SL.v (op_fieldAddr fa62_0 rfl) <| SL.v (op_load ty3 rfl (by repeat constructor) rfl) ?_
      refine SL.v (op_eqlF rfl rfl (by omega)) ?_
      refine SL.nil <| T.condF rfl <| T.skip <| T.seq <| T.seq <| T.region <| SL.v (op_fieldAddr fa62_0 rfl) <| SL.v (op_load ty3 rfl (by repeat constructor) rfl) ?_
      refine SL.v (op_neqT rfl rfl (by omega)) ?_
      refine SL.mv rfl <| SL.v (op_fieldAddr fa62_1 rfl) <| SL.v (op_load ty3 rfl (by repeat constructor) rfl) ?_
      refine SL.v (op_neqF rfl rfl (by omega)) ?_
      refine SL.v (op_pickT rfl rfl) <| SL.mv rfl <| SL.v (op_fieldAddr fa62_2 rfl) <| SL.v (op_load ty59 rfl (by repeat constructor) rfl) ?_
      refine SL.v (op_lenS Tryz.underlying59 rfl) <| SL.mv rfl <| SL.v (op_lssT rfl rfl (by omega)) ?_
      refine SL.v (op_pickF rfl rfl) <| SL.mv rfl <| SL.skip rfl rfl ?_
      refine SL.skip rfl rfl ?_
      refine SL.skip rfl rfl ?_
      refine SL.skip rfl rfl ?_
      refine SL.skip rfl rfl ?_
      refine SL.v (op_pickT rfl rfl) <| SL.nil <| T.condT rfl <| T.seq <| T.region <| SL.v (op_assign (v := .int .i64 ((6 : Nat) : Int)) rfl) <| SL.nil <| T.ret1 rfl (ResIs.tmp rfl) ?_
      rw [own6 hA1 (.inr hnm)]; rfl

    by_cases hl323 : 1 < ns.length
    · have hnm : ¬namN op ns.length := by
        have hq : ∀ q : Nat, 1 < q → ¬namN op q := fun q hq h => by simp [namN, h4] at h; omega
        exact hq _ (by omega)
      refine Spec.enter Tryz.func167 rfl Tryz.ntmps167 rfl ?_
      intro w0 hw0
      refine T.seq <| T.region <| SL.w (op_box rfl) ?_
      rintro _ _ _ ⟨B1, rfl, rfl, rfl⟩
      refine SL.v (op_assign (v := .int .i64 ((0 : Nat) : Int)) rfl) <| SL.nil <| T.seq <| T.seq <| T.draw (by kernel_rfl) 17 [.t 0, .t 1, .t 2, .t 3, .t 4, .t 5, .t 6, .t 7, .t 8, .t 9, .t 10, .t 11, .t 12, .t 13, .r 14, .t 15, .t 16] (by kernel_rfl) ?_
      refine SD.take rfl panicBody (op_fieldAddr fa62_0 rfl) rfl rfl ?_
      refine SD.take rfl panicBody (op_load ty3 rfl (by repeat constructor) rfl) rfl rfl ?_
      refine SD.take rfl panicBody (op_lssF rfl rfl (by omega)) rfl rfl ?_
      refine SD.take rfl panicBody (op_move rfl) rfl rfl ?_
      refine SD.take rfl panicBody (op_fieldAddr fa62_0 rfl) rfl rfl ?_
      refine SD.take rfl panicBody (op_load ty3 rfl (by repeat constructor) rfl) rfl rfl ?_
      refine SD.take rfl panicBody (op_gtrF rfl rfl (by omega)) rfl rfl ?_
      refine SD.take rfl panicBody (op_pickF rfl rfl) rfl rfl ?_
      refine SD.take rfl panicBody (op_move rfl) rfl rfl ?_
      refine SD.take rfl panicBody (op_fieldAddr fa62_3 rfl) rfl rfl ?_
      refine SD.take rfl panicBody (op_load ty60 rfl (by repeat constructor) rfl) rfl rfl ?_
      refine SD.take rfl panicBody (op_lenS Tryz.underlying60 rfl) rfl rfl ?_
      refine SD.take rfl panicBody (op_fieldAddr fa62_0 rfl) rfl rfl ?_
      refine SD.take rfl panicBody (op_load ty3 rfl (by repeat constructor) rfl) rfl rfl ?_
      refine SD.run rfl (op_callF en118 (vs := [_]) rfl (rargN_spec)) rfl rfl ?_
      rintro _ _ X1 ⟨rfl, hX1, rfl⟩
      refine SD.take rfl panicBody (op_neqF rfl rfl (by omega)) rfl rfl ?_
      refine SD.take rfl panicBody (op_pickF rfl rfl) rfl rfl ?_
      refine SD.nil ?_
      show SL _ _ _ _ _ _ _ [] _ _ _
      refine SL.nil <| T.condF rfl <| T.skip <| T.seq <| T.region <| SL.v (op_assign (v := .int .i64 ((0 : Nat) : Int)) rfl) <| SL.v (op_assign (v := .int .i64 ((0 : Nat) : Int)) rfl) <| SL.nil <| T.seq <| T.seq <| T.region <| SL.v (op_fieldAddr fa62_0 rfl) <| SL.v (op_load ty3 rfl (by repeat constructor) rfl) ?_
      refine SL.v (op_eqlT rfl rfl (by omega)) ?_
      refine SL.mv rfl <| SL.skip rfl rfl ?_
      refine SL.skip rfl rfl ?_
      refine SL.skip rfl rfl ?_
      refine SL.v (op_pickT rfl rfl) <| SL.nil <| T.condT rfl <| T.region <| SL.v (op_assign (v := .int .i64 ((1 : Nat) : Int)) rfl) <| SL.v (op_assign (v := .int .i64 ((1 : Nat) : Int)) rfl) <| SL.nil <| T.seq <| T.seq <| T.region <| SL.v (op_fieldAddr fa62_0 rfl) <| SL.v (op_load ty3 rfl (by repeat constructor) rfl) ?_
      refine SL.v (op_eqlF rfl rfl (by omega)) ?_
      refine SL.nil <| T.condF rfl <| T.skip <| T.seq <| T.seq <| T.region <| SL.v (op_fieldAddr fa62_0 rfl) <| SL.v (op_load ty3 rfl (by repeat constructor) rfl) ?_
      refine SL.v (op_neqT rfl rfl (by omega)) ?_
      refine SL.mv rfl <| SL.v (op_fieldAddr fa62_1 rfl) <| SL.v (op_load ty3 rfl (by repeat constructor) rfl) ?_
      refine SL.v (op_neqF rfl rfl (by omega)) ?_
      refine SL.v (op_pickT rfl rfl) <| SL.mv rfl <| SL.v (op_fieldAddr fa62_2 rfl) <| SL.v (op_load ty59 rfl (by repeat constructor) rfl) ?_
      refine SL.v (op_lenS Tryz.underlying59 rfl) <| SL.mv rfl <| SL.v (op_lssF rfl rfl (by omega)) ?_
      refine SL.v (op_pickF rfl rfl) <| SL.mv rfl <| SL.v (op_fieldAddr fa62_2 rfl) <| SL.v (op_load ty59 rfl (by repeat constructor) rfl) ?_
      refine SL.v (op_lenS Tryz.underlying59 rfl) <| SL.mv rfl <| SL.v (op_gtrT rfl rfl (by omega)) ?_
      refine SL.v (op_pickF rfl rfl) <| SL.nil <| T.condT rfl <| T.seq <| T.region <| SL.v (op_assign (v := .int .i64 ((6 : Nat) : Int)) rfl) <| SL.nil <| T.ret1 rfl (ResIs.tmp rfl) ?_
      rw [own6 hA1 (.inr hnm)]; rfl

    have hnm : namN op ns.length := by
      have hq : ∀ q : Nat, 1 ≤ q ∧ q ≤ 1 → namN op q := fun q hq => by simp [namN, h4]; omega
      exact hq _ (by omega)
    have hA2 : ¬((n ≠ 0 ∧ op ≠ 1) ∨ ¬namN op ns.length) := fun h => h.elim (fun h => hNN h) (fun h => h hnm)
    refine Spec.enter Tryz.func167 rfl Tryz.ntmps167 rfl ?_
    intro w0 hw0
    refine T.seq <| T.region <| SL.w (op_box rfl) ?_
    rintro _ _ _ ⟨B1, rfl, rfl, rfl⟩
    refine SL.v (op_assign (v := .int .i64 ((0 : Nat) : Int)) rfl) <| SL.nil <| T.seq <| T.seq <| T.draw (by kernel_rfl) 17 [.t 0, .t 1, .t 2, .t 3, .t 4, .t 5, .t 6, .t 7, .t 8, .t 9, .t 10, .t 11, .t 12, .t 13, .r 14, .t 15, .t 16] (by kernel_rfl) ?_
    refine SD.take rfl panicBody (op_fieldAddr fa62_0 rfl) rfl rfl ?_
    refine SD.take rfl panicBody (op_load ty3 rfl (by repeat constructor) rfl) rfl rfl ?_
    refine SD.take rfl panicBody (op_lssF rfl rfl (by omega)) rfl rfl ?_
    refine SD.take rfl panicBody (op_move rfl) rfl rfl ?_
    refine SD.take rfl panicBody (op_fieldAddr fa62_0 rfl) rfl rfl ?_
    refine SD.take rfl panicBody (op_load ty3 rfl (by repeat constructor) rfl) rfl rfl ?_
    refine SD.take rfl panicBody (op_gtrF rfl rfl (by omega)) rfl rfl ?_
    refine SD.take rfl panicBody (op_pickF rfl rfl) rfl rfl ?_
    refine SD.take rfl panicBody (op_move rfl) rfl rfl ?_
    refine SD.take rfl panicBody (op_fieldAddr fa62_3 rfl) rfl rfl ?_
    refine SD.take rfl panicBody (op_load ty60 rfl (by repeat constructor) rfl) rfl rfl ?_
    refine SD.take rfl panicBody (op_lenS Tryz.underlying60 rfl) rfl rfl ?_
    refine SD.take rfl panicBody (op_fieldAddr fa62_0 rfl) rfl rfl ?_
    refine SD.take rfl panicBody (op_load ty3 rfl (by repeat constructor) rfl) rfl rfl ?_
    refine SD.run rfl (op_callF en118 (vs := [_]) rfl (rargN_spec)) rfl rfl ?_
    rintro _ _ X1 ⟨rfl, hX1, rfl⟩
    refine SD.take rfl panicBody (op_neqF rfl rfl (by omega)) rfl rfl ?_
    refine SD.take rfl panicBody (op_pickF rfl rfl) rfl rfl ?_
    refine SD.nil ?_
    show SL _ _ _ _ _ _ _ [] _ _ _
    refine SL.nil <| T.condF rfl <| T.skip <| T.seq <| T.region <| SL.v (op_assign (v := .int .i64 ((0 : Nat) : Int)) rfl) <| SL.v (op_assign (v := .int .i64 ((0 : Nat) : Int)) rfl) <| SL.nil <| T.seq <| T.seq <| T.region <| SL.v (op_fieldAddr fa62_0 rfl) <| SL.v (op_load ty3 rfl (by repeat constructor) rfl) ?_
    refine SL.v (op_eqlT rfl rfl (by omega)) ?_
    refine SL.mv rfl <| SL.skip rfl rfl ?_
    refine SL.skip rfl rfl ?_
    refine SL.skip rfl rfl ?_
    refine SL.v (op_pickT rfl rfl) <| SL.nil <| T.condT rfl <| T.region <| SL.v (op_assign (v := .int .i64 ((1 : Nat) : Int)) rfl) <| SL.v (op_assign (v := .int .i64 ((1 : Nat) : Int)) rfl) <| SL.nil <| T.seq <| T.seq <| T.region <| SL.v (op_fieldAddr fa62_0 rfl) <| SL.v (op_load ty3 rfl (by repeat constructor) rfl) ?_
    refine SL.v (op_eqlF rfl rfl (by omega)) ?_
    refine SL.nil <| T.condF rfl <| T.skip <| T.seq <| T.seq <| T.region <| SL.v (op_fieldAddr fa62_0 rfl) <| SL.v (op_load ty3 rfl (by repeat constructor) rfl) ?_
    refine SL.v (op_neqT rfl rfl (by omega)) ?_
    refine SL.mv rfl <| SL.v (op_fieldAddr fa62_1 rfl) <| SL.v (op_load ty3 rfl (by repeat constructor) rfl) ?_
    refine SL.v (op_neqF rfl rfl (by omega)) ?_
    refine SL.v (op_pickT rfl rfl) <| SL.mv rfl <| SL.v (op_fieldAddr fa62_2 rfl) <| SL.v (op_load ty59 rfl (by repeat constructor) rfl) ?_
    refine SL.v (op_lenS Tryz.underlying59 rfl) <| SL.mv rfl <| SL.v (op_lssF rfl rfl (by omega)) ?_
    refine SL.v (op_pickF rfl rfl) <| SL.mv rfl <| SL.v (op_fieldAddr fa62_2 rfl) <| SL.v (op_load ty59 rfl (by repeat constructor) rfl) ?_
    refine SL.v (op_lenS Tryz.underlying59 rfl) <| SL.mv rfl <| SL.v (op_gtrF rfl rfl (by omega)) ?_
    refine SL.v (op_pickF rfl rfl) <| SL.nil <| T.condF rfl <| T.skip <| T.seq <| T.seq <| T.region <| SL.v (op_fieldAddr fa62_2 rfl) <| SL.v (op_load ty59 rfl (by repeat constructor) rfl) ?_
    refine SL.v (op_lenS Tryz.underlying59 rfl) <| SL.v (op_move (v := .int .i64 ((0 : Nat) : Int)) rfl) <| SL.nil <| T.block <| T.loopW (fun m env own X' => ∃ i : Nat, m = ns.length - i ∧ i ≤ ns.length ∧ X1.le X' ∧ (∀ q x, q < i → ns[q]? = some x → validS x) ∧ env = [(1, .pointer (some ⟨B1, 0, none⟩)), (60, .slice An ns.length cn), (61, .int .i64 (ns.length : Int)), (62, .int .i64 (i : Int))] ∧ own = [⟨B1, [.int .i64 (op : Int), .int .i64 n, .slice An ns.length cn, .slice Aa k ca], 62, 4⟩]) ns.length ⟨0, by simp, by omega, PMap.le_refl _, fun q x hq => absurd hq (by omega), rfl, rfl⟩ (by repeat (first | exact Sub.nil | refine Sub.cons rfl ?_)) ?_
    rintro m _ _ X2 ⟨i, rfl, hi, hX2, hne, rfl, rfl⟩
    rcases Nat.lt_or_ge i ns.length with hil | hil
    · obtain ⟨x, hx⟩ : ∃ x, ns[i]? = some x := ⟨_, List.getElem?_eq_getElem hil⟩
      obtain ⟨b, pre, rfl, hB⟩ := hn.blk (by omega)
      refine T.seq <| T.region <| SL.v (op_lssT rfl rfl (by omega)) ?_
      refine SL.nil <| T.seq <| T.condT rfl <| T.skip <| T.seq <| T.block <| T.seq <| T.region <| SL.v (op_indexN Tryz.underlying59 ty9 rfl rfl (by omega)) ?_
      refine SL.v (op_loadX ty9 rfl ((hB.mono hX1).mono hX2) (str_read hx (by omega))) ?_
      refine SL.as rfl <| SL.nil <| T.seq <| T.region <| SL.mv rfl <| SL.w (op_callF en154 (vs := [_]) rfl (rvalid_spec)) ?_
      rintro _ _ X3 ⟨rfl, hX3, rfl⟩
      by_cases hc : validS x
      · rw [decide_eq_true hc]
        refine SL.v (op_not rfl) <| SL.nil <| T.condF rfl <| T.skip <| T.blk <| T.region <| SL.v (op_addN (q := 1) rfl rfl (by omega)) ?_
        refine SL.mv rfl <| SL.nil ?_
        have hne2 : ∀ (q : Nat) (y : ByteArray), q < i + 1 → ns[q]? = some y → validS y := fun q y hq hy => by
          rcases Nat.lt_or_ge q i with h1 | h1
          · exact hne q y h1 hy
          · obtain rfl : q = i := by omega
            rw [hx] at hy; cases hy; exact hc
        exact T.backW (ns.length - (i + 1)) (by omega) ⟨i + 1, rfl, by omega, hX2.trans' hX3, hne2, rfl, rfl⟩ (by repeat (first | exact Sub.nil | refine Sub.cons rfl ?_))
      · rw [decide_eq_false hc]
        refine SL.v (op_not rfl) <| SL.nil <| T.condT rfl <| T.seq <| T.region <| SL.v (op_assign (v := .int .i64 ((9 : Nat) : Int)) rfl) <| SL.nil <| T.ret1 rfl (ResIs.tmp rfl) ?_
        rw [own9 hA1 hA2 fun h => hc (h x (List.mem_of_getElem? hx))]; rfl
    · have hv : ∀ s ∈ ns, validS s := fun s hs => by
        obtain ⟨q, hq⟩ := List.mem_iff_getElem?.1 hs
        have h1 := (List.getElem?_eq_some_iff.1 hq).1
        exact hne q s (by omega) hq
      refine T.seq <| T.region <| SL.v (op_lssF rfl rfl (by omega)) ?_
      refine SL.nil <| T.seq <| T.condF rfl ?_
      refine T.exit (T.exitCode (T.exitCut (T.exitBlk ?_)))
      refine T.seq <| T.seq <| T.region <| SL.v (op_fieldAddr fa62_2 rfl) <| SL.v (op_load ty59 rfl (by repeat constructor) rfl) ?_
      refine SL.v (op_lenS Tryz.underlying59 rfl) <| SL.v (op_move (v := .int .i64 ((0 : Nat) : Int)) rfl) <| SL.nil <| T.block <| T.loopW (fun m env own X' => ∃ i : Nat, m = ns.length - i ∧ i ≤ ns.length ∧ X2.le X' ∧ (ns.take i).Nodup ∧ env = [(1, .pointer (some ⟨B1, 0, none⟩)), (71, .slice An ns.length cn), (72, .int .i64 (ns.length : Int)), (73, .int .i64 (i : Int))] ∧ own = [⟨B1, [.int .i64 (op : Int), .int .i64 n, .slice An ns.length cn, .slice Aa k ca], 62, 4⟩]) ns.length ⟨0, by simp, by omega, PMap.le_refl _, by simp, rfl, rfl⟩ (by repeat (first | exact Sub.nil | refine Sub.cons rfl ?_)) ?_
      rintro m _ _ X4 ⟨j, rfl, hj, hX4, hnd, rfl, rfl⟩
      rcases Nat.lt_or_ge j ns.length with hjl | hjl
      · obtain ⟨x, hx⟩ : ∃ x, ns[j]? = some x := ⟨_, List.getElem?_eq_getElem hjl⟩
        have htk := hn.take (sz := 1) (k := j) (by omega)
        obtain ⟨b, pre, rfl, hB⟩ := hn.blk (by omega)
        have hX14 := hX1.trans' (hX2.trans' hX4)
        refine T.seq <| T.region <| SL.v (op_lssT rfl rfl (by omega)) ?_
        refine SL.nil <| T.seq <| T.condT rfl <| T.skip <| T.seq <| T.block <| T.seq <| T.region <| SL.mv rfl <| SL.v (op_indexN Tryz.underlying59 ty9 rfl rfl (by omega)) ?_
        refine SL.v (op_loadX ty9 rfl (hB.mono hX14) (str_read hx (by omega))) ?_
        refine SL.as rfl <| SL.as rfl <| SL.nil <| T.seq <| T.region <| SL.v (op_fieldAddr fa62_2 rfl) <| SL.v (op_load ty59 rfl (by repeat constructor) rfl) ?_
        refine SL.mv rfl <| SL.v (op_sliceHi (l := j) Tryz.underlying59 ty9 rfl rfl (by omega)) ?_
        refine SL.mv rfl ?_
        have hcall := number_spec8 (s := x) (htk.mono hX14) (by rw [List.length_take]; omega)
        refine SL.w (op_callF en128 (vs := [_, _]) rfl (hcall)) ?_
        rintro _ _ X5 ⟨rfl, hX5, z, rfl, hz1, hz2⟩
        by_cases hc : x ∈ ns.take j
        · have hz := hz1.2 hc
          refine SL.v (op_gtrT rfl rfl (by omega)) ?_
          refine SL.nil <| T.condT rfl <| T.seq <| T.region <| SL.v (op_assign (v := .int .i64 ((5 : Nat) : Int)) rfl) <| SL.nil <| T.ret1 rfl (ResIs.tmp rfl) ?_
          rw [own5 hA1 hA2 hv fun h => by
            have h2 := h.sublist (List.take_sublist (j + 1) ns)
            rw [take_snoc hx, List.nodup_append] at h2
            exact h2.2.2 x hc x (by simp) rfl]; rfl
        · have hz : ¬0 < z := fun h => hc (hz1.1 h)
          refine SL.v (op_gtrF rfl rfl (by omega)) ?_
          refine SL.nil <| T.condF rfl <| T.skip <| T.blk <| T.region <| SL.v (op_addN (q := 1) rfl rfl (by omega)) ?_
          refine SL.mv rfl <| SL.nil ?_
          have hnd2 : (ns.take (j + 1)).Nodup := by
            rw [take_snoc hx, List.nodup_append]
            exact ⟨hnd, by simp, fun a ha b hb => by
              obtain rfl := List.mem_singleton.1 hb
              exact fun h => hc (h ▸ ha)⟩
          exact T.backW (ns.length - (j + 1)) (by omega) ⟨j + 1, rfl, by omega, hX4.trans' hX5, hnd2, rfl, rfl⟩ (by repeat (first | exact Sub.nil | refine Sub.cons rfl ?_))
      · rw [List.take_of_length_le (by omega)] at hnd
        refine T.seq <| T.region <| SL.v (op_lssF rfl rfl (by omega)) ?_
        refine SL.nil <| T.seq <| T.condF rfl ?_
        refine T.exit (T.exitCode (T.exitCut (T.exitBlk ?_)))
        refine T.seq <| T.seq <| T.region <| SL.v (op_fieldAddr fa62_1 rfl) <| SL.v (op_load ty3 rfl (by repeat constructor) rfl) ?_
        refine SL.v (op_lssF rfl rfl (by omega)) ?_
        refine SL.mv rfl <| SL.v (op_fieldAddr fa62_1 rfl) <| SL.v (op_load ty3 rfl (by repeat constructor) rfl) ?_
        refine SL.v (op_gtrF rfl rfl (by omega)) ?_
        refine SL.v (op_pickF rfl rfl) <| SL.nil <| T.condF rfl <| T.skip <| T.seq <| T.region <| SL.v (op_assign (v := .int .i64 ((0 : Nat) : Int)) rfl) <| SL.nil <| T.ret1 rfl (ResIs.tmp rfl) ?_
        rw [own0' hA1 hA2 hv hnd (by omega)]; rfl
  by_cases h6 : op = 6
  · by_cases hl0 : ns.length < 1
    · have hnm : ¬namN op ns.length := by
        have hq : ∀ q : Nat, q < 1 → ¬namN op q := fun q hq h => by simp [namN, h6] at h; omega
        exact hq _ (by omega)
      refine Spec.enter Tryz.func167 rfl Tryz.ntmps167 rfl ?_
      intro w0 hw0
      refine T.seq <| T.region <| SL.w (op_box rfl) ?_
      rintro _ _ _ ⟨B1, rfl, rfl, rfl⟩
      refine SL.v (op_assign (v := .int .i64 ((0 : Nat) : Int)) rfl) <| SL.nil <| T.seq <| T.seq <| T.draw (by kernel_rfl) 17 [.t 0, .t 1, .t 2, .t 3, .t 4, .t 5, .t 6, .t 7, .t 8, .t 9, .t 10, .t 11, .t 12, .t 13, .r 14, .t 15, .t 16] (by kernel_rfl) ?_
      refine SD.take rfl panicBody (op_fieldAddr fa62_0 rfl) rfl rfl ?_
      refine SD.take rfl panicBody (op_load ty3 rfl (by repeat constructor) rfl) rfl rfl ?_
      refine SD.take rfl panicBody (op_lssF rfl rfl (by omega)) rfl rfl ?_
      refine SD.take rfl panicBody (op_move rfl) rfl rfl ?_
      refine SD.take rfl panicBody (op_fieldAddr fa62_0 rfl) rfl rfl ?_
      refine SD.take rfl panicBody (op_load ty3 rfl (by repeat constructor) rfl) rfl rfl ?_
      refine SD.take rfl panicBody (op_gtrF rfl rfl (by omega)) rfl rfl ?_
      refine SD.take rfl panicBody (op_pickF rfl rfl) rfl rfl ?_
      refine SD.take rfl panicBody (op_move rfl) rfl rfl ?_
      refine SD.take rfl panicBody (op_fieldAddr fa62_3 rfl) rfl rfl ?_
      refine SD.take rfl panicBody (op_load ty60 rfl (by repeat constructor) rfl) rfl rfl ?_
      refine SD.take rfl panicBody (op_lenS Tryz.underlying60 rfl) rfl rfl ?_
      refine SD.take rfl panicBody (op_fieldAddr fa62_0 rfl) rfl rfl ?_
      refine SD.take rfl panicBody (op_load ty3 rfl (by repeat constructor) rfl) rfl rfl ?_
      refine SD.run rfl (op_callF en118 (vs := [_]) rfl (rargN_spec)) rfl rfl ?_
      rintro _ _ X1 ⟨rfl, hX1, rfl⟩
      refine SD.take rfl panicBody (op_neqF rfl rfl (by omega)) rfl rfl ?_
      refine SD.take rfl panicBody (op_pickF rfl rfl) rfl rfl ?_
      refine SD.nil ?_
      show SL _ _ _ _ _ _ _ [] _ _ _
      refine SL.nil <| T.condF rfl <| T.skip <| T.seq <| T.region <| SL.v (op_assign (v := .int .i64 ((0 : Nat) : Int)) rfl) <| SL.v (op_assign (v := .int .i64 ((0 : Nat) : Int)) rfl) <| SL.nil <| T.seq <| T.seq <| T.region <| SL.v (op_fieldAddr fa62_0 rfl) <| SL.v (op_load ty3 rfl (by repeat constructor) rfl) ?_
      refine SL.v (op_eqlF rfl rfl (by omega)) ?_
      refine SL.mv rfl <| SL.v (op_fieldAddr fa62_0 rfl) <| SL.v (op_load ty3 rfl (by repeat constructor) rfl) ?_
      refine SL.v (op_eqlT rfl rfl (by omega)) ?_
      refine SL.v (op_pickF rfl rfl) <| SL.nil <| T.condT rfl <| T.region <| SL.v (op_assign (v := .int .i64 ((1 : Nat) : Int)) rfl) <| SL.v (op_assign (v := .int .i64 ((1 : Nat) : Int)) rfl) <| SL.nil <| T.seq <| T.seq <| T.region <| SL.v (op_fieldAddr fa62_0 rfl) <| SL.v (op_load ty3 rfl (by repeat constructor) rfl) ?_
      refine SL.v (op_eqlF rfl rfl (by omega)) ?_
      refine SL.nil <| T.condF rfl <| T.skip <| T.seq <| T.seq <| T.region <| SL.v (op_fieldAddr fa62_0 rfl) <| SL.v (op_load ty3 rfl (by repeat constructor) rfl) ?_
      refine SL.v (op_neqT rfl rfl (by omega)) ?_
      refine SL.mv rfl <| SL.v (op_fieldAddr fa62_1 rfl) <| SL.v (op_load ty3 rfl (by repeat constructor) rfl) ?_
      refine SL.v (op_neqF rfl rfl (by omega)) ?_
      refine SL.v (op_pickT rfl rfl) <| SL.mv rfl <| SL.v (op_fieldAddr fa62_2 rfl) <| SL.v (op_load ty59 rfl (by repeat constructor) rfl) ?_
      refine SL.v (op_lenS Tryz.underlying59 rfl) <| SL.mv rfl <| SL.v (op_lssT rfl rfl (by omega)) ?_
      refine SL.v (op_pickF rfl rfl) <| SL.mv rfl <| SL.skip rfl rfl ?_
      refine SL.skip rfl rfl ?_
      refine SL.skip rfl rfl ?_
      refine SL.skip rfl rfl ?_
      refine SL.skip rfl rfl ?_
      refine SL.v (op_pickT rfl rfl) <| SL.nil <| T.condT rfl <| T.seq <| T.region <| SL.v (op_assign (v := .int .i64 ((6 : Nat) : Int)) rfl) <| SL.nil <| T.ret1 rfl (ResIs.tmp rfl) ?_
      rw [own6 hA1 (.inr hnm)]; rfl

    by_cases hl323 : 1 < ns.length
    · have hnm : ¬namN op ns.length := by
        have hq : ∀ q : Nat, 1 < q → ¬namN op q := fun q hq h => by simp [namN, h6] at h; omega
        exact hq _ (by omega)
      refine Spec.enter Tryz.func167 rfl Tryz.ntmps167 rfl ?_
      intro w0 hw0
      refine T.seq <| T.region <| SL.w (op_box rfl) ?_
      rintro _ _ _ ⟨B1, rfl, rfl, rfl⟩
      refine SL.v (op_assign (v := .int .i64 ((0 : Nat) : Int)) rfl) <| SL.nil <| T.seq <| T.seq <| T.draw (by kernel_rfl) 17 [.t 0, .t 1, .t 2, .t 3, .t 4, .t 5, .t 6, .t 7, .t 8, .t 9, .t 10, .t 11, .t 12, .t 13, .r 14, .t 15, .t 16] (by kernel_rfl) ?_
      refine SD.take rfl panicBody (op_fieldAddr fa62_0 rfl) rfl rfl ?_
      refine SD.take rfl panicBody (op_load ty3 rfl (by repeat constructor) rfl) rfl rfl ?_
      refine SD.take rfl panicBody (op_lssF rfl rfl (by omega)) rfl rfl ?_
      refine SD.take rfl panicBody (op_move rfl) rfl rfl ?_
      refine SD.take rfl panicBody (op_fieldAddr fa62_0 rfl) rfl rfl ?_
      refine SD.take rfl panicBody (op_load ty3 rfl (by repeat constructor) rfl) rfl rfl ?_
      refine SD.take rfl panicBody (op_gtrF rfl rfl (by omega)) rfl rfl ?_
      refine SD.take rfl panicBody (op_pickF rfl rfl) rfl rfl ?_
      refine SD.take rfl panicBody (op_move rfl) rfl rfl ?_
      refine SD.take rfl panicBody (op_fieldAddr fa62_3 rfl) rfl rfl ?_
      refine SD.take rfl panicBody (op_load ty60 rfl (by repeat constructor) rfl) rfl rfl ?_
      refine SD.take rfl panicBody (op_lenS Tryz.underlying60 rfl) rfl rfl ?_
      refine SD.take rfl panicBody (op_fieldAddr fa62_0 rfl) rfl rfl ?_
      refine SD.take rfl panicBody (op_load ty3 rfl (by repeat constructor) rfl) rfl rfl ?_
      refine SD.run rfl (op_callF en118 (vs := [_]) rfl (rargN_spec)) rfl rfl ?_
      rintro _ _ X1 ⟨rfl, hX1, rfl⟩
      refine SD.take rfl panicBody (op_neqF rfl rfl (by omega)) rfl rfl ?_
      refine SD.take rfl panicBody (op_pickF rfl rfl) rfl rfl ?_
      refine SD.nil ?_
      show SL _ _ _ _ _ _ _ [] _ _ _
      refine SL.nil <| T.condF rfl <| T.skip <| T.seq <| T.region <| SL.v (op_assign (v := .int .i64 ((0 : Nat) : Int)) rfl) <| SL.v (op_assign (v := .int .i64 ((0 : Nat) : Int)) rfl) <| SL.nil <| T.seq <| T.seq <| T.region <| SL.v (op_fieldAddr fa62_0 rfl) <| SL.v (op_load ty3 rfl (by repeat constructor) rfl) ?_
      refine SL.v (op_eqlF rfl rfl (by omega)) ?_
      refine SL.mv rfl <| SL.v (op_fieldAddr fa62_0 rfl) <| SL.v (op_load ty3 rfl (by repeat constructor) rfl) ?_
      refine SL.v (op_eqlT rfl rfl (by omega)) ?_
      refine SL.v (op_pickF rfl rfl) <| SL.nil <| T.condT rfl <| T.region <| SL.v (op_assign (v := .int .i64 ((1 : Nat) : Int)) rfl) <| SL.v (op_assign (v := .int .i64 ((1 : Nat) : Int)) rfl) <| SL.nil <| T.seq <| T.seq <| T.region <| SL.v (op_fieldAddr fa62_0 rfl) <| SL.v (op_load ty3 rfl (by repeat constructor) rfl) ?_
      refine SL.v (op_eqlF rfl rfl (by omega)) ?_
      refine SL.nil <| T.condF rfl <| T.skip <| T.seq <| T.seq <| T.region <| SL.v (op_fieldAddr fa62_0 rfl) <| SL.v (op_load ty3 rfl (by repeat constructor) rfl) ?_
      refine SL.v (op_neqT rfl rfl (by omega)) ?_
      refine SL.mv rfl <| SL.v (op_fieldAddr fa62_1 rfl) <| SL.v (op_load ty3 rfl (by repeat constructor) rfl) ?_
      refine SL.v (op_neqF rfl rfl (by omega)) ?_
      refine SL.v (op_pickT rfl rfl) <| SL.mv rfl <| SL.v (op_fieldAddr fa62_2 rfl) <| SL.v (op_load ty59 rfl (by repeat constructor) rfl) ?_
      refine SL.v (op_lenS Tryz.underlying59 rfl) <| SL.mv rfl <| SL.v (op_lssF rfl rfl (by omega)) ?_
      refine SL.v (op_pickF rfl rfl) <| SL.mv rfl <| SL.v (op_fieldAddr fa62_2 rfl) <| SL.v (op_load ty59 rfl (by repeat constructor) rfl) ?_
      refine SL.v (op_lenS Tryz.underlying59 rfl) <| SL.mv rfl <| SL.v (op_gtrT rfl rfl (by omega)) ?_
      refine SL.v (op_pickF rfl rfl) <| SL.nil <| T.condT rfl <| T.seq <| T.region <| SL.v (op_assign (v := .int .i64 ((6 : Nat) : Int)) rfl) <| SL.nil <| T.ret1 rfl (ResIs.tmp rfl) ?_
      rw [own6 hA1 (.inr hnm)]; rfl

    have hnm : namN op ns.length := by
      have hq : ∀ q : Nat, 1 ≤ q ∧ q ≤ 1 → namN op q := fun q hq => by simp [namN, h6]; omega
      exact hq _ (by omega)
    have hA2 : ¬((n ≠ 0 ∧ op ≠ 1) ∨ ¬namN op ns.length) := fun h => h.elim (fun h => hNN h) (fun h => h hnm)
    refine Spec.enter Tryz.func167 rfl Tryz.ntmps167 rfl ?_
    intro w0 hw0
    refine T.seq <| T.region <| SL.w (op_box rfl) ?_
    rintro _ _ _ ⟨B1, rfl, rfl, rfl⟩
    refine SL.v (op_assign (v := .int .i64 ((0 : Nat) : Int)) rfl) <| SL.nil <| T.seq <| T.seq <| T.draw (by kernel_rfl) 17 [.t 0, .t 1, .t 2, .t 3, .t 4, .t 5, .t 6, .t 7, .t 8, .t 9, .t 10, .t 11, .t 12, .t 13, .r 14, .t 15, .t 16] (by kernel_rfl) ?_
    refine SD.take rfl panicBody (op_fieldAddr fa62_0 rfl) rfl rfl ?_
    refine SD.take rfl panicBody (op_load ty3 rfl (by repeat constructor) rfl) rfl rfl ?_
    refine SD.take rfl panicBody (op_lssF rfl rfl (by omega)) rfl rfl ?_
    refine SD.take rfl panicBody (op_move rfl) rfl rfl ?_
    refine SD.take rfl panicBody (op_fieldAddr fa62_0 rfl) rfl rfl ?_
    refine SD.take rfl panicBody (op_load ty3 rfl (by repeat constructor) rfl) rfl rfl ?_
    refine SD.take rfl panicBody (op_gtrF rfl rfl (by omega)) rfl rfl ?_
    refine SD.take rfl panicBody (op_pickF rfl rfl) rfl rfl ?_
    refine SD.take rfl panicBody (op_move rfl) rfl rfl ?_
    refine SD.take rfl panicBody (op_fieldAddr fa62_3 rfl) rfl rfl ?_
    refine SD.take rfl panicBody (op_load ty60 rfl (by repeat constructor) rfl) rfl rfl ?_
    refine SD.take rfl panicBody (op_lenS Tryz.underlying60 rfl) rfl rfl ?_
    refine SD.take rfl panicBody (op_fieldAddr fa62_0 rfl) rfl rfl ?_
    refine SD.take rfl panicBody (op_load ty3 rfl (by repeat constructor) rfl) rfl rfl ?_
    refine SD.run rfl (op_callF en118 (vs := [_]) rfl (rargN_spec)) rfl rfl ?_
    rintro _ _ X1 ⟨rfl, hX1, rfl⟩
    refine SD.take rfl panicBody (op_neqF rfl rfl (by omega)) rfl rfl ?_
    refine SD.take rfl panicBody (op_pickF rfl rfl) rfl rfl ?_
    refine SD.nil ?_
    show SL _ _ _ _ _ _ _ [] _ _ _
    refine SL.nil <| T.condF rfl <| T.skip <| T.seq <| T.region <| SL.v (op_assign (v := .int .i64 ((0 : Nat) : Int)) rfl) <| SL.v (op_assign (v := .int .i64 ((0 : Nat) : Int)) rfl) <| SL.nil <| T.seq <| T.seq <| T.region <| SL.v (op_fieldAddr fa62_0 rfl) <| SL.v (op_load ty3 rfl (by repeat constructor) rfl) ?_
    refine SL.v (op_eqlF rfl rfl (by omega)) ?_
    refine SL.mv rfl <| SL.v (op_fieldAddr fa62_0 rfl) <| SL.v (op_load ty3 rfl (by repeat constructor) rfl) ?_
    refine SL.v (op_eqlT rfl rfl (by omega)) ?_
    refine SL.v (op_pickF rfl rfl) <| SL.nil <| T.condT rfl <| T.region <| SL.v (op_assign (v := .int .i64 ((1 : Nat) : Int)) rfl) <| SL.v (op_assign (v := .int .i64 ((1 : Nat) : Int)) rfl) <| SL.nil <| T.seq <| T.seq <| T.region <| SL.v (op_fieldAddr fa62_0 rfl) <| SL.v (op_load ty3 rfl (by repeat constructor) rfl) ?_
    refine SL.v (op_eqlF rfl rfl (by omega)) ?_
    refine SL.nil <| T.condF rfl <| T.skip <| T.seq <| T.seq <| T.region <| SL.v (op_fieldAddr fa62_0 rfl) <| SL.v (op_load ty3 rfl (by repeat constructor) rfl) ?_
    refine SL.v (op_neqT rfl rfl (by omega)) ?_
    refine SL.mv rfl <| SL.v (op_fieldAddr fa62_1 rfl) <| SL.v (op_load ty3 rfl (by repeat constructor) rfl) ?_
    refine SL.v (op_neqF rfl rfl (by omega)) ?_
    refine SL.v (op_pickT rfl rfl) <| SL.mv rfl <| SL.v (op_fieldAddr fa62_2 rfl) <| SL.v (op_load ty59 rfl (by repeat constructor) rfl) ?_
    refine SL.v (op_lenS Tryz.underlying59 rfl) <| SL.mv rfl <| SL.v (op_lssF rfl rfl (by omega)) ?_
    refine SL.v (op_pickF rfl rfl) <| SL.mv rfl <| SL.v (op_fieldAddr fa62_2 rfl) <| SL.v (op_load ty59 rfl (by repeat constructor) rfl) ?_
    refine SL.v (op_lenS Tryz.underlying59 rfl) <| SL.mv rfl <| SL.v (op_gtrF rfl rfl (by omega)) ?_
    refine SL.v (op_pickF rfl rfl) <| SL.nil <| T.condF rfl <| T.skip <| T.seq <| T.seq <| T.region <| SL.v (op_fieldAddr fa62_2 rfl) <| SL.v (op_load ty59 rfl (by repeat constructor) rfl) ?_
    refine SL.v (op_lenS Tryz.underlying59 rfl) <| SL.v (op_move (v := .int .i64 ((0 : Nat) : Int)) rfl) <| SL.nil <| T.block <| T.loopW (fun m env own X' => ∃ i : Nat, m = ns.length - i ∧ i ≤ ns.length ∧ X1.le X' ∧ (∀ q x, q < i → ns[q]? = some x → validS x) ∧ env = [(1, .pointer (some ⟨B1, 0, none⟩)), (60, .slice An ns.length cn), (61, .int .i64 (ns.length : Int)), (62, .int .i64 (i : Int))] ∧ own = [⟨B1, [.int .i64 (op : Int), .int .i64 n, .slice An ns.length cn, .slice Aa k ca], 62, 4⟩]) ns.length ⟨0, by simp, by omega, PMap.le_refl _, fun q x hq => absurd hq (by omega), rfl, rfl⟩ (by repeat (first | exact Sub.nil | refine Sub.cons rfl ?_)) ?_
    rintro m _ _ X2 ⟨i, rfl, hi, hX2, hne, rfl, rfl⟩
    rcases Nat.lt_or_ge i ns.length with hil | hil
    · obtain ⟨x, hx⟩ : ∃ x, ns[i]? = some x := ⟨_, List.getElem?_eq_getElem hil⟩
      obtain ⟨b, pre, rfl, hB⟩ := hn.blk (by omega)
      refine T.seq <| T.region <| SL.v (op_lssT rfl rfl (by omega)) ?_
      refine SL.nil <| T.seq <| T.condT rfl <| T.skip <| T.seq <| T.block <| T.seq <| T.region <| SL.v (op_indexN Tryz.underlying59 ty9 rfl rfl (by omega)) ?_
      refine SL.v (op_loadX ty9 rfl ((hB.mono hX1).mono hX2) (str_read hx (by omega))) ?_
      refine SL.as rfl <| SL.nil <| T.seq <| T.region <| SL.mv rfl <| SL.w (op_callF en154 (vs := [_]) rfl (rvalid_spec)) ?_
      rintro _ _ X3 ⟨rfl, hX3, rfl⟩
      by_cases hc : validS x
      · rw [decide_eq_true hc]
        refine SL.v (op_not rfl) <| SL.nil <| T.condF rfl <| T.skip <| T.blk <| T.region <| SL.v (op_addN (q := 1) rfl rfl (by omega)) ?_
        refine SL.mv rfl <| SL.nil ?_
        have hne2 : ∀ (q : Nat) (y : ByteArray), q < i + 1 → ns[q]? = some y → validS y := fun q y hq hy => by
          rcases Nat.lt_or_ge q i with h1 | h1
          · exact hne q y h1 hy
          · obtain rfl : q = i := by omega
            rw [hx] at hy; cases hy; exact hc
        exact T.backW (ns.length - (i + 1)) (by omega) ⟨i + 1, rfl, by omega, hX2.trans' hX3, hne2, rfl, rfl⟩ (by repeat (first | exact Sub.nil | refine Sub.cons rfl ?_))
      · rw [decide_eq_false hc]
        refine SL.v (op_not rfl) <| SL.nil <| T.condT rfl <| T.seq <| T.region <| SL.v (op_assign (v := .int .i64 ((9 : Nat) : Int)) rfl) <| SL.nil <| T.ret1 rfl (ResIs.tmp rfl) ?_
        rw [own9 hA1 hA2 fun h => hc (h x (List.mem_of_getElem? hx))]; rfl
    · have hv : ∀ s ∈ ns, validS s := fun s hs => by
        obtain ⟨q, hq⟩ := List.mem_iff_getElem?.1 hs
        have h1 := (List.getElem?_eq_some_iff.1 hq).1
        exact hne q s (by omega) hq
      refine T.seq <| T.region <| SL.v (op_lssF rfl rfl (by omega)) ?_
      refine SL.nil <| T.seq <| T.condF rfl ?_
      refine T.exit (T.exitCode (T.exitCut (T.exitBlk ?_)))
      refine T.seq <| T.seq <| T.region <| SL.v (op_fieldAddr fa62_2 rfl) <| SL.v (op_load ty59 rfl (by repeat constructor) rfl) ?_
      refine SL.v (op_lenS Tryz.underlying59 rfl) <| SL.v (op_move (v := .int .i64 ((0 : Nat) : Int)) rfl) <| SL.nil <| T.block <| T.loopW (fun m env own X' => ∃ i : Nat, m = ns.length - i ∧ i ≤ ns.length ∧ X2.le X' ∧ (ns.take i).Nodup ∧ env = [(1, .pointer (some ⟨B1, 0, none⟩)), (71, .slice An ns.length cn), (72, .int .i64 (ns.length : Int)), (73, .int .i64 (i : Int))] ∧ own = [⟨B1, [.int .i64 (op : Int), .int .i64 n, .slice An ns.length cn, .slice Aa k ca], 62, 4⟩]) ns.length ⟨0, by simp, by omega, PMap.le_refl _, by simp, rfl, rfl⟩ (by repeat (first | exact Sub.nil | refine Sub.cons rfl ?_)) ?_
      rintro m _ _ X4 ⟨j, rfl, hj, hX4, hnd, rfl, rfl⟩
      rcases Nat.lt_or_ge j ns.length with hjl | hjl
      · obtain ⟨x, hx⟩ : ∃ x, ns[j]? = some x := ⟨_, List.getElem?_eq_getElem hjl⟩
        have htk := hn.take (sz := 1) (k := j) (by omega)
        obtain ⟨b, pre, rfl, hB⟩ := hn.blk (by omega)
        have hX14 := hX1.trans' (hX2.trans' hX4)
        refine T.seq <| T.region <| SL.v (op_lssT rfl rfl (by omega)) ?_
        refine SL.nil <| T.seq <| T.condT rfl <| T.skip <| T.seq <| T.block <| T.seq <| T.region <| SL.mv rfl <| SL.v (op_indexN Tryz.underlying59 ty9 rfl rfl (by omega)) ?_
        refine SL.v (op_loadX ty9 rfl (hB.mono hX14) (str_read hx (by omega))) ?_
        refine SL.as rfl <| SL.as rfl <| SL.nil <| T.seq <| T.region <| SL.v (op_fieldAddr fa62_2 rfl) <| SL.v (op_load ty59 rfl (by repeat constructor) rfl) ?_
        refine SL.mv rfl <| SL.v (op_sliceHi (l := j) Tryz.underlying59 ty9 rfl rfl (by omega)) ?_
        refine SL.mv rfl ?_
        have hcall := number_spec8 (s := x) (htk.mono hX14) (by rw [List.length_take]; omega)
        refine SL.w (op_callF en128 (vs := [_, _]) rfl (hcall)) ?_
        rintro _ _ X5 ⟨rfl, hX5, z, rfl, hz1, hz2⟩
        by_cases hc : x ∈ ns.take j
        · have hz := hz1.2 hc
          refine SL.v (op_gtrT rfl rfl (by omega)) ?_
          refine SL.nil <| T.condT rfl <| T.seq <| T.region <| SL.v (op_assign (v := .int .i64 ((5 : Nat) : Int)) rfl) <| SL.nil <| T.ret1 rfl (ResIs.tmp rfl) ?_
          rw [own5 hA1 hA2 hv fun h => by
            have h2 := h.sublist (List.take_sublist (j + 1) ns)
            rw [take_snoc hx, List.nodup_append] at h2
            exact h2.2.2 x hc x (by simp) rfl]; rfl
        · have hz : ¬0 < z := fun h => hc (hz1.1 h)
          refine SL.v (op_gtrF rfl rfl (by omega)) ?_
          refine SL.nil <| T.condF rfl <| T.skip <| T.blk <| T.region <| SL.v (op_addN (q := 1) rfl rfl (by omega)) ?_
          refine SL.mv rfl <| SL.nil ?_
          have hnd2 : (ns.take (j + 1)).Nodup := by
            rw [take_snoc hx, List.nodup_append]
            exact ⟨hnd, by simp, fun a ha b hb => by
              obtain rfl := List.mem_singleton.1 hb
              exact fun h => hc (h ▸ ha)⟩
          exact T.backW (ns.length - (j + 1)) (by omega) ⟨j + 1, rfl, by omega, hX4.trans' hX5, hnd2, rfl, rfl⟩ (by repeat (first | exact Sub.nil | refine Sub.cons rfl ?_))
      · rw [List.take_of_length_le (by omega)] at hnd
        refine T.seq <| T.region <| SL.v (op_lssF rfl rfl (by omega)) ?_
        refine SL.nil <| T.seq <| T.condF rfl ?_
        refine T.exit (T.exitCode (T.exitCut (T.exitBlk ?_)))
        refine T.seq <| T.seq <| T.region <| SL.v (op_fieldAddr fa62_1 rfl) <| SL.v (op_load ty3 rfl (by repeat constructor) rfl) ?_
        refine SL.v (op_lssF rfl rfl (by omega)) ?_
        refine SL.mv rfl <| SL.v (op_fieldAddr fa62_1 rfl) <| SL.v (op_load ty3 rfl (by repeat constructor) rfl) ?_
        refine SL.v (op_gtrF rfl rfl (by omega)) ?_
        refine SL.v (op_pickF rfl rfl) <| SL.nil <| T.condF rfl <| T.skip <| T.seq <| T.region <| SL.v (op_assign (v := .int .i64 ((0 : Nat) : Int)) rfl) <| SL.nil <| T.ret1 rfl (ResIs.tmp rfl) ?_
        rw [own0' hA1 hA2 hv hnd (by omega)]; rfl
  by_cases h5 : op = 5
  · by_cases hl0 : ns.length < 1
    · have hnm : ¬namN op ns.length := by
        have hq : ∀ q : Nat, q < 1 → ¬namN op q := fun q hq h => by simp [namN, h5] at h; omega
        exact hq _ (by omega)
      refine Spec.enter Tryz.func167 rfl Tryz.ntmps167 rfl ?_
      intro w0 hw0
      refine T.seq <| T.region <| SL.w (op_box rfl) ?_
      rintro _ _ _ ⟨B1, rfl, rfl, rfl⟩
      refine SL.v (op_assign (v := .int .i64 ((0 : Nat) : Int)) rfl) <| SL.nil <| T.seq <| T.seq <| T.draw (by kernel_rfl) 17 [.t 0, .t 1, .t 2, .t 3, .t 4, .t 5, .t 6, .t 7, .t 8, .t 9, .t 10, .t 11, .t 12, .t 13, .r 14, .t 15, .t 16] (by kernel_rfl) ?_
      refine SD.take rfl panicBody (op_fieldAddr fa62_0 rfl) rfl rfl ?_
      refine SD.take rfl panicBody (op_load ty3 rfl (by repeat constructor) rfl) rfl rfl ?_
      refine SD.take rfl panicBody (op_lssF rfl rfl (by omega)) rfl rfl ?_
      refine SD.take rfl panicBody (op_move rfl) rfl rfl ?_
      refine SD.take rfl panicBody (op_fieldAddr fa62_0 rfl) rfl rfl ?_
      refine SD.take rfl panicBody (op_load ty3 rfl (by repeat constructor) rfl) rfl rfl ?_
      refine SD.take rfl panicBody (op_gtrF rfl rfl (by omega)) rfl rfl ?_
      refine SD.take rfl panicBody (op_pickF rfl rfl) rfl rfl ?_
      refine SD.take rfl panicBody (op_move rfl) rfl rfl ?_
      refine SD.take rfl panicBody (op_fieldAddr fa62_3 rfl) rfl rfl ?_
      refine SD.take rfl panicBody (op_load ty60 rfl (by repeat constructor) rfl) rfl rfl ?_
      refine SD.take rfl panicBody (op_lenS Tryz.underlying60 rfl) rfl rfl ?_
      refine SD.take rfl panicBody (op_fieldAddr fa62_0 rfl) rfl rfl ?_
      refine SD.take rfl panicBody (op_load ty3 rfl (by repeat constructor) rfl) rfl rfl ?_
      refine SD.run rfl (op_callF en118 (vs := [_]) rfl (rargN_spec)) rfl rfl ?_
      rintro _ _ X1 ⟨rfl, hX1, rfl⟩
      refine SD.take rfl panicBody (op_neqF rfl rfl (by omega)) rfl rfl ?_
      refine SD.take rfl panicBody (op_pickF rfl rfl) rfl rfl ?_
      refine SD.nil ?_
      show SL _ _ _ _ _ _ _ [] _ _ _
      refine SL.nil <| T.condF rfl <| T.skip <| T.seq <| T.region <| SL.v (op_assign (v := .int .i64 ((0 : Nat) : Int)) rfl) <| SL.v (op_assign (v := .int .i64 ((0 : Nat) : Int)) rfl) <| SL.nil <| T.seq <| T.seq <| T.region <| SL.v (op_fieldAddr fa62_0 rfl) <| SL.v (op_load ty3 rfl (by repeat constructor) rfl) ?_
      refine SL.v (op_eqlF rfl rfl (by omega)) ?_
      refine SL.mv rfl <| SL.v (op_fieldAddr fa62_0 rfl) <| SL.v (op_load ty3 rfl (by repeat constructor) rfl) ?_
      refine SL.v (op_eqlF rfl rfl (by omega)) ?_
      refine SL.v (op_pickF rfl rfl) <| SL.nil <| T.condF rfl <| T.skip <| T.seq <| T.seq <| T.region <| SL.v (op_fieldAddr fa62_0 rfl) <| SL.v (op_load ty3 rfl (by repeat constructor) rfl) ?_
      refine SL.v (op_eqlT rfl rfl (by omega)) ?_
      refine SL.nil <| T.condT rfl <| T.region <| SL.v (op_assign (v := .int .i64 ((1 : Nat) : Int)) rfl) <| SL.v (op_assign (v := .int .i64 ((8 : Nat) : Int)) rfl) <| SL.nil <| T.seq <| T.seq <| T.region <| SL.v (op_fieldAddr fa62_0 rfl) <| SL.v (op_load ty3 rfl (by repeat constructor) rfl) ?_
      refine SL.v (op_neqT rfl rfl (by omega)) ?_
      refine SL.mv rfl <| SL.v (op_fieldAddr fa62_1 rfl) <| SL.v (op_load ty3 rfl (by repeat constructor) rfl) ?_
      refine SL.v (op_neqF rfl rfl (by omega)) ?_
      refine SL.v (op_pickT rfl rfl) <| SL.mv rfl <| SL.v (op_fieldAddr fa62_2 rfl) <| SL.v (op_load ty59 rfl (by repeat constructor) rfl) ?_
      refine SL.v (op_lenS Tryz.underlying59 rfl) <| SL.mv rfl <| SL.v (op_lssT rfl rfl (by omega)) ?_
      refine SL.v (op_pickF rfl rfl) <| SL.mv rfl <| SL.skip rfl rfl ?_
      refine SL.skip rfl rfl ?_
      refine SL.skip rfl rfl ?_
      refine SL.skip rfl rfl ?_
      refine SL.skip rfl rfl ?_
      refine SL.v (op_pickT rfl rfl) <| SL.nil <| T.condT rfl <| T.seq <| T.region <| SL.v (op_assign (v := .int .i64 ((6 : Nat) : Int)) rfl) <| SL.nil <| T.ret1 rfl (ResIs.tmp rfl) ?_
      rw [own6 hA1 (.inr hnm)]; rfl

    by_cases hl323 : 8 < ns.length
    · have hnm : ¬namN op ns.length := by
        have hq : ∀ q : Nat, 8 < q → ¬namN op q := fun q hq h => by simp [namN, h5] at h; omega
        exact hq _ (by omega)
      refine Spec.enter Tryz.func167 rfl Tryz.ntmps167 rfl ?_
      intro w0 hw0
      refine T.seq <| T.region <| SL.w (op_box rfl) ?_
      rintro _ _ _ ⟨B1, rfl, rfl, rfl⟩
      refine SL.v (op_assign (v := .int .i64 ((0 : Nat) : Int)) rfl) <| SL.nil <| T.seq <| T.seq <| T.draw (by kernel_rfl) 17 [.t 0, .t 1, .t 2, .t 3, .t 4, .t 5, .t 6, .t 7, .t 8, .t 9, .t 10, .t 11, .t 12, .t 13, .r 14, .t 15, .t 16] (by kernel_rfl) ?_
      refine SD.take rfl panicBody (op_fieldAddr fa62_0 rfl) rfl rfl ?_
      refine SD.take rfl panicBody (op_load ty3 rfl (by repeat constructor) rfl) rfl rfl ?_
      refine SD.take rfl panicBody (op_lssF rfl rfl (by omega)) rfl rfl ?_
      refine SD.take rfl panicBody (op_move rfl) rfl rfl ?_
      refine SD.take rfl panicBody (op_fieldAddr fa62_0 rfl) rfl rfl ?_
      refine SD.take rfl panicBody (op_load ty3 rfl (by repeat constructor) rfl) rfl rfl ?_
      refine SD.take rfl panicBody (op_gtrF rfl rfl (by omega)) rfl rfl ?_
      refine SD.take rfl panicBody (op_pickF rfl rfl) rfl rfl ?_
      refine SD.take rfl panicBody (op_move rfl) rfl rfl ?_
      refine SD.take rfl panicBody (op_fieldAddr fa62_3 rfl) rfl rfl ?_
      refine SD.take rfl panicBody (op_load ty60 rfl (by repeat constructor) rfl) rfl rfl ?_
      refine SD.take rfl panicBody (op_lenS Tryz.underlying60 rfl) rfl rfl ?_
      refine SD.take rfl panicBody (op_fieldAddr fa62_0 rfl) rfl rfl ?_
      refine SD.take rfl panicBody (op_load ty3 rfl (by repeat constructor) rfl) rfl rfl ?_
      refine SD.run rfl (op_callF en118 (vs := [_]) rfl (rargN_spec)) rfl rfl ?_
      rintro _ _ X1 ⟨rfl, hX1, rfl⟩
      refine SD.take rfl panicBody (op_neqF rfl rfl (by omega)) rfl rfl ?_
      refine SD.take rfl panicBody (op_pickF rfl rfl) rfl rfl ?_
      refine SD.nil ?_
      show SL _ _ _ _ _ _ _ [] _ _ _
      refine SL.nil <| T.condF rfl <| T.skip <| T.seq <| T.region <| SL.v (op_assign (v := .int .i64 ((0 : Nat) : Int)) rfl) <| SL.v (op_assign (v := .int .i64 ((0 : Nat) : Int)) rfl) <| SL.nil <| T.seq <| T.seq <| T.region <| SL.v (op_fieldAddr fa62_0 rfl) <| SL.v (op_load ty3 rfl (by repeat constructor) rfl) ?_
      refine SL.v (op_eqlF rfl rfl (by omega)) ?_
      refine SL.mv rfl <| SL.v (op_fieldAddr fa62_0 rfl) <| SL.v (op_load ty3 rfl (by repeat constructor) rfl) ?_
      refine SL.v (op_eqlF rfl rfl (by omega)) ?_
      refine SL.v (op_pickF rfl rfl) <| SL.nil <| T.condF rfl <| T.skip <| T.seq <| T.seq <| T.region <| SL.v (op_fieldAddr fa62_0 rfl) <| SL.v (op_load ty3 rfl (by repeat constructor) rfl) ?_
      refine SL.v (op_eqlT rfl rfl (by omega)) ?_
      refine SL.nil <| T.condT rfl <| T.region <| SL.v (op_assign (v := .int .i64 ((1 : Nat) : Int)) rfl) <| SL.v (op_assign (v := .int .i64 ((8 : Nat) : Int)) rfl) <| SL.nil <| T.seq <| T.seq <| T.region <| SL.v (op_fieldAddr fa62_0 rfl) <| SL.v (op_load ty3 rfl (by repeat constructor) rfl) ?_
      refine SL.v (op_neqT rfl rfl (by omega)) ?_
      refine SL.mv rfl <| SL.v (op_fieldAddr fa62_1 rfl) <| SL.v (op_load ty3 rfl (by repeat constructor) rfl) ?_
      refine SL.v (op_neqF rfl rfl (by omega)) ?_
      refine SL.v (op_pickT rfl rfl) <| SL.mv rfl <| SL.v (op_fieldAddr fa62_2 rfl) <| SL.v (op_load ty59 rfl (by repeat constructor) rfl) ?_
      refine SL.v (op_lenS Tryz.underlying59 rfl) <| SL.mv rfl <| SL.v (op_lssF rfl rfl (by omega)) ?_
      refine SL.v (op_pickF rfl rfl) <| SL.mv rfl <| SL.v (op_fieldAddr fa62_2 rfl) <| SL.v (op_load ty59 rfl (by repeat constructor) rfl) ?_
      refine SL.v (op_lenS Tryz.underlying59 rfl) <| SL.mv rfl <| SL.v (op_gtrT rfl rfl (by omega)) ?_
      refine SL.v (op_pickF rfl rfl) <| SL.nil <| T.condT rfl <| T.seq <| T.region <| SL.v (op_assign (v := .int .i64 ((6 : Nat) : Int)) rfl) <| SL.nil <| T.ret1 rfl (ResIs.tmp rfl) ?_
      rw [own6 hA1 (.inr hnm)]; rfl

    have hnm : namN op ns.length := by
      have hq : ∀ q : Nat, 1 ≤ q ∧ q ≤ 8 → namN op q := fun q hq => by simp [namN, h5]; omega
      exact hq _ (by omega)
    have hA2 : ¬((n ≠ 0 ∧ op ≠ 1) ∨ ¬namN op ns.length) := fun h => h.elim (fun h => hNN h) (fun h => h hnm)
    refine Spec.enter Tryz.func167 rfl Tryz.ntmps167 rfl ?_
    intro w0 hw0
    refine T.seq <| T.region <| SL.w (op_box rfl) ?_
    rintro _ _ _ ⟨B1, rfl, rfl, rfl⟩
    refine SL.v (op_assign (v := .int .i64 ((0 : Nat) : Int)) rfl) <| SL.nil <| T.seq <| T.seq <| T.draw (by kernel_rfl) 17 [.t 0, .t 1, .t 2, .t 3, .t 4, .t 5, .t 6, .t 7, .t 8, .t 9, .t 10, .t 11, .t 12, .t 13, .r 14, .t 15, .t 16] (by kernel_rfl) ?_
    refine SD.take rfl panicBody (op_fieldAddr fa62_0 rfl) rfl rfl ?_
    refine SD.take rfl panicBody (op_load ty3 rfl (by repeat constructor) rfl) rfl rfl ?_
    refine SD.take rfl panicBody (op_lssF rfl rfl (by omega)) rfl rfl ?_
    refine SD.take rfl panicBody (op_move rfl) rfl rfl ?_
    refine SD.take rfl panicBody (op_fieldAddr fa62_0 rfl) rfl rfl ?_
    refine SD.take rfl panicBody (op_load ty3 rfl (by repeat constructor) rfl) rfl rfl ?_
    refine SD.take rfl panicBody (op_gtrF rfl rfl (by omega)) rfl rfl ?_
    refine SD.take rfl panicBody (op_pickF rfl rfl) rfl rfl ?_
    refine SD.take rfl panicBody (op_move rfl) rfl rfl ?_
    refine SD.take rfl panicBody (op_fieldAddr fa62_3 rfl) rfl rfl ?_
    refine SD.take rfl panicBody (op_load ty60 rfl (by repeat constructor) rfl) rfl rfl ?_
    refine SD.take rfl panicBody (op_lenS Tryz.underlying60 rfl) rfl rfl ?_
    refine SD.take rfl panicBody (op_fieldAddr fa62_0 rfl) rfl rfl ?_
    refine SD.take rfl panicBody (op_load ty3 rfl (by repeat constructor) rfl) rfl rfl ?_
    refine SD.run rfl (op_callF en118 (vs := [_]) rfl (rargN_spec)) rfl rfl ?_
    rintro _ _ X1 ⟨rfl, hX1, rfl⟩
    refine SD.take rfl panicBody (op_neqF rfl rfl (by omega)) rfl rfl ?_
    refine SD.take rfl panicBody (op_pickF rfl rfl) rfl rfl ?_
    refine SD.nil ?_
    show SL _ _ _ _ _ _ _ [] _ _ _
    refine SL.nil <| T.condF rfl <| T.skip <| T.seq <| T.region <| SL.v (op_assign (v := .int .i64 ((0 : Nat) : Int)) rfl) <| SL.v (op_assign (v := .int .i64 ((0 : Nat) : Int)) rfl) <| SL.nil <| T.seq <| T.seq <| T.region <| SL.v (op_fieldAddr fa62_0 rfl) <| SL.v (op_load ty3 rfl (by repeat constructor) rfl) ?_
    refine SL.v (op_eqlF rfl rfl (by omega)) ?_
    refine SL.mv rfl <| SL.v (op_fieldAddr fa62_0 rfl) <| SL.v (op_load ty3 rfl (by repeat constructor) rfl) ?_
    refine SL.v (op_eqlF rfl rfl (by omega)) ?_
    refine SL.v (op_pickF rfl rfl) <| SL.nil <| T.condF rfl <| T.skip <| T.seq <| T.seq <| T.region <| SL.v (op_fieldAddr fa62_0 rfl) <| SL.v (op_load ty3 rfl (by repeat constructor) rfl) ?_
    refine SL.v (op_eqlT rfl rfl (by omega)) ?_
    refine SL.nil <| T.condT rfl <| T.region <| SL.v (op_assign (v := .int .i64 ((1 : Nat) : Int)) rfl) <| SL.v (op_assign (v := .int .i64 ((8 : Nat) : Int)) rfl) <| SL.nil <| T.seq <| T.seq <| T.region <| SL.v (op_fieldAddr fa62_0 rfl) <| SL.v (op_load ty3 rfl (by repeat constructor) rfl) ?_
    refine SL.v (op_neqT rfl rfl (by omega)) ?_
    refine SL.mv rfl <| SL.v (op_fieldAddr fa62_1 rfl) <| SL.v (op_load ty3 rfl (by repeat constructor) rfl) ?_
    refine SL.v (op_neqF rfl rfl (by omega)) ?_
    refine SL.v (op_pickT rfl rfl) <| SL.mv rfl <| SL.v (op_fieldAddr fa62_2 rfl) <| SL.v (op_load ty59 rfl (by repeat constructor) rfl) ?_
    refine SL.v (op_lenS Tryz.underlying59 rfl) <| SL.mv rfl <| SL.v (op_lssF rfl rfl (by omega)) ?_
    refine SL.v (op_pickF rfl rfl) <| SL.mv rfl <| SL.v (op_fieldAddr fa62_2 rfl) <| SL.v (op_load ty59 rfl (by repeat constructor) rfl) ?_
    refine SL.v (op_lenS Tryz.underlying59 rfl) <| SL.mv rfl <| SL.v (op_gtrF rfl rfl (by omega)) ?_
    refine SL.v (op_pickF rfl rfl) <| SL.nil <| T.condF rfl <| T.skip <| T.seq <| T.seq <| T.region <| SL.v (op_fieldAddr fa62_2 rfl) <| SL.v (op_load ty59 rfl (by repeat constructor) rfl) ?_
    refine SL.v (op_lenS Tryz.underlying59 rfl) <| SL.v (op_move (v := .int .i64 ((0 : Nat) : Int)) rfl) <| SL.nil <| T.block <| T.loopW (fun m env own X' => ∃ i : Nat, m = ns.length - i ∧ i ≤ ns.length ∧ X1.le X' ∧ (∀ q x, q < i → ns[q]? = some x → validS x) ∧ env = [(1, .pointer (some ⟨B1, 0, none⟩)), (60, .slice An ns.length cn), (61, .int .i64 (ns.length : Int)), (62, .int .i64 (i : Int))] ∧ own = [⟨B1, [.int .i64 (op : Int), .int .i64 n, .slice An ns.length cn, .slice Aa k ca], 62, 4⟩]) ns.length ⟨0, by simp, by omega, PMap.le_refl _, fun q x hq => absurd hq (by omega), rfl, rfl⟩ (by repeat (first | exact Sub.nil | refine Sub.cons rfl ?_)) ?_
    rintro m _ _ X2 ⟨i, rfl, hi, hX2, hne, rfl, rfl⟩
    rcases Nat.lt_or_ge i ns.length with hil | hil
    · obtain ⟨x, hx⟩ : ∃ x, ns[i]? = some x := ⟨_, List.getElem?_eq_getElem hil⟩
      obtain ⟨b, pre, rfl, hB⟩ := hn.blk (by omega)
      refine T.seq <| T.region <| SL.v (op_lssT rfl rfl (by omega)) ?_
      refine SL.nil <| T.seq <| T.condT rfl <| T.skip <| T.seq <| T.block <| T.seq <| T.region <| SL.v (op_indexN Tryz.underlying59 ty9 rfl rfl (by omega)) ?_
      refine SL.v (op_loadX ty9 rfl ((hB.mono hX1).mono hX2) (str_read hx (by omega))) ?_
      refine SL.as rfl <| SL.nil <| T.seq <| T.region <| SL.mv rfl <| SL.w (op_callF en154 (vs := [_]) rfl (rvalid_spec)) ?_
      rintro _ _ X3 ⟨rfl, hX3, rfl⟩
      by_cases hc : validS x
      · rw [decide_eq_true hc]
        refine SL.v (op_not rfl) <| SL.nil <| T.condF rfl <| T.skip <| T.blk <| T.region <| SL.v (op_addN (q := 1) rfl rfl (by omega)) ?_
        refine SL.mv rfl <| SL.nil ?_
        have hne2 : ∀ (q : Nat) (y : ByteArray), q < i + 1 → ns[q]? = some y → validS y := fun q y hq hy => by
          rcases Nat.lt_or_ge q i with h1 | h1
          · exact hne q y h1 hy
          · obtain rfl : q = i := by omega
            rw [hx] at hy; cases hy; exact hc
        exact T.backW (ns.length - (i + 1)) (by omega) ⟨i + 1, rfl, by omega, hX2.trans' hX3, hne2, rfl, rfl⟩ (by repeat (first | exact Sub.nil | refine Sub.cons rfl ?_))
      · rw [decide_eq_false hc]
        refine SL.v (op_not rfl) <| SL.nil <| T.condT rfl <| T.seq <| T.region <| SL.v (op_assign (v := .int .i64 ((9 : Nat) : Int)) rfl) <| SL.nil <| T.ret1 rfl (ResIs.tmp rfl) ?_
        rw [own9 hA1 hA2 fun h => hc (h x (List.mem_of_getElem? hx))]; rfl
    · have hv : ∀ s ∈ ns, validS s := fun s hs => by
        obtain ⟨q, hq⟩ := List.mem_iff_getElem?.1 hs
        have h1 := (List.getElem?_eq_some_iff.1 hq).1
        exact hne q s (by omega) hq
      refine T.seq <| T.region <| SL.v (op_lssF rfl rfl (by omega)) ?_
      refine SL.nil <| T.seq <| T.condF rfl ?_
      refine T.exit (T.exitCode (T.exitCut (T.exitBlk ?_)))
      refine T.seq <| T.seq <| T.region <| SL.v (op_fieldAddr fa62_2 rfl) <| SL.v (op_load ty59 rfl (by repeat constructor) rfl) ?_
      refine SL.v (op_lenS Tryz.underlying59 rfl) <| SL.v (op_move (v := .int .i64 ((0 : Nat) : Int)) rfl) <| SL.nil <| T.block <| T.loopW (fun m env own X' => ∃ i : Nat, m = ns.length - i ∧ i ≤ ns.length ∧ X2.le X' ∧ (ns.take i).Nodup ∧ env = [(1, .pointer (some ⟨B1, 0, none⟩)), (71, .slice An ns.length cn), (72, .int .i64 (ns.length : Int)), (73, .int .i64 (i : Int))] ∧ own = [⟨B1, [.int .i64 (op : Int), .int .i64 n, .slice An ns.length cn, .slice Aa k ca], 62, 4⟩]) ns.length ⟨0, by simp, by omega, PMap.le_refl _, by simp, rfl, rfl⟩ (by repeat (first | exact Sub.nil | refine Sub.cons rfl ?_)) ?_
      rintro m _ _ X4 ⟨j, rfl, hj, hX4, hnd, rfl, rfl⟩
      rcases Nat.lt_or_ge j ns.length with hjl | hjl
      · obtain ⟨x, hx⟩ : ∃ x, ns[j]? = some x := ⟨_, List.getElem?_eq_getElem hjl⟩
        have htk := hn.take (sz := 1) (k := j) (by omega)
        obtain ⟨b, pre, rfl, hB⟩ := hn.blk (by omega)
        have hX14 := hX1.trans' (hX2.trans' hX4)
        refine T.seq <| T.region <| SL.v (op_lssT rfl rfl (by omega)) ?_
        refine SL.nil <| T.seq <| T.condT rfl <| T.skip <| T.seq <| T.block <| T.seq <| T.region <| SL.mv rfl <| SL.v (op_indexN Tryz.underlying59 ty9 rfl rfl (by omega)) ?_
        refine SL.v (op_loadX ty9 rfl (hB.mono hX14) (str_read hx (by omega))) ?_
        refine SL.as rfl <| SL.as rfl <| SL.nil <| T.seq <| T.region <| SL.v (op_fieldAddr fa62_2 rfl) <| SL.v (op_load ty59 rfl (by repeat constructor) rfl) ?_
        refine SL.mv rfl <| SL.v (op_sliceHi (l := j) Tryz.underlying59 ty9 rfl rfl (by omega)) ?_
        refine SL.mv rfl ?_
        have hcall := number_spec8 (s := x) (htk.mono hX14) (by rw [List.length_take]; omega)
        refine SL.w (op_callF en128 (vs := [_, _]) rfl (hcall)) ?_
        rintro _ _ X5 ⟨rfl, hX5, z, rfl, hz1, hz2⟩
        by_cases hc : x ∈ ns.take j
        · have hz := hz1.2 hc
          refine SL.v (op_gtrT rfl rfl (by omega)) ?_
          refine SL.nil <| T.condT rfl <| T.seq <| T.region <| SL.v (op_assign (v := .int .i64 ((5 : Nat) : Int)) rfl) <| SL.nil <| T.ret1 rfl (ResIs.tmp rfl) ?_
          rw [own5 hA1 hA2 hv fun h => by
            have h2 := h.sublist (List.take_sublist (j + 1) ns)
            rw [take_snoc hx, List.nodup_append] at h2
            exact h2.2.2 x hc x (by simp) rfl]; rfl
        · have hz : ¬0 < z := fun h => hc (hz1.1 h)
          refine SL.v (op_gtrF rfl rfl (by omega)) ?_
          refine SL.nil <| T.condF rfl <| T.skip <| T.blk <| T.region <| SL.v (op_addN (q := 1) rfl rfl (by omega)) ?_
          refine SL.mv rfl <| SL.nil ?_
          have hnd2 : (ns.take (j + 1)).Nodup := by
            rw [take_snoc hx, List.nodup_append]
            exact ⟨hnd, by simp, fun a ha b hb => by
              obtain rfl := List.mem_singleton.1 hb
              exact fun h => hc (h ▸ ha)⟩
          exact T.backW (ns.length - (j + 1)) (by omega) ⟨j + 1, rfl, by omega, hX4.trans' hX5, hnd2, rfl, rfl⟩ (by repeat (first | exact Sub.nil | refine Sub.cons rfl ?_))
      · rw [List.take_of_length_le (by omega)] at hnd
        refine T.seq <| T.region <| SL.v (op_lssF rfl rfl (by omega)) ?_
        refine SL.nil <| T.seq <| T.condF rfl ?_
        refine T.exit (T.exitCode (T.exitCut (T.exitBlk ?_)))
        refine T.seq <| T.seq <| T.region <| SL.v (op_fieldAddr fa62_1 rfl) <| SL.v (op_load ty3 rfl (by repeat constructor) rfl) ?_
        refine SL.v (op_lssF rfl rfl (by omega)) ?_
        refine SL.mv rfl <| SL.v (op_fieldAddr fa62_1 rfl) <| SL.v (op_load ty3 rfl (by repeat constructor) rfl) ?_
        refine SL.v (op_gtrF rfl rfl (by omega)) ?_
        refine SL.v (op_pickF rfl rfl) <| SL.nil <| T.condF rfl <| T.skip <| T.seq <| T.region <| SL.v (op_assign (v := .int .i64 ((0 : Nat) : Int)) rfl) <| SL.nil <| T.ret1 rfl (ResIs.tmp rfl) ?_
        rw [own0' hA1 hA2 hv hnd (by omega)]; rfl
  by_cases hl0 : 0 < ns.length
  · have hnm : ¬namN op ns.length := by
      have hq : ∀ q : Nat, 0 < q → ¬namN op q := fun q hq h => by simp [namN, h4, h5, h6] at h; omega
      exact hq _ (by omega)
    refine Spec.enter Tryz.func167 rfl Tryz.ntmps167 rfl ?_
    intro w0 hw0
    refine T.seq <| T.region <| SL.w (op_box rfl) ?_
    rintro _ _ _ ⟨B1, rfl, rfl, rfl⟩
    refine SL.v (op_assign (v := .int .i64 ((0 : Nat) : Int)) rfl) <| SL.nil <| T.seq <| T.seq <| T.draw (by kernel_rfl) 17 [.t 0, .t 1, .t 2, .t 3, .t 4, .t 5, .t 6, .t 7, .t 8, .t 9, .t 10, .t 11, .t 12, .t 13, .r 14, .t 15, .t 16] (by kernel_rfl) ?_
    refine SD.take rfl panicBody (op_fieldAddr fa62_0 rfl) rfl rfl ?_
    refine SD.take rfl panicBody (op_load ty3 rfl (by repeat constructor) rfl) rfl rfl ?_
    refine SD.take rfl panicBody (op_lssF rfl rfl (by omega)) rfl rfl ?_
    refine SD.take rfl panicBody (op_move rfl) rfl rfl ?_
    refine SD.take rfl panicBody (op_fieldAddr fa62_0 rfl) rfl rfl ?_
    refine SD.take rfl panicBody (op_load ty3 rfl (by repeat constructor) rfl) rfl rfl ?_
    refine SD.take rfl panicBody (op_gtrF rfl rfl (by omega)) rfl rfl ?_
    refine SD.take rfl panicBody (op_pickF rfl rfl) rfl rfl ?_
    refine SD.take rfl panicBody (op_move rfl) rfl rfl ?_
    refine SD.take rfl panicBody (op_fieldAddr fa62_3 rfl) rfl rfl ?_
    refine SD.take rfl panicBody (op_load ty60 rfl (by repeat constructor) rfl) rfl rfl ?_
    refine SD.take rfl panicBody (op_lenS Tryz.underlying60 rfl) rfl rfl ?_
    refine SD.take rfl panicBody (op_fieldAddr fa62_0 rfl) rfl rfl ?_
    refine SD.take rfl panicBody (op_load ty3 rfl (by repeat constructor) rfl) rfl rfl ?_
    refine SD.run rfl (op_callF en118 (vs := [_]) rfl (rargN_spec)) rfl rfl ?_
    rintro _ _ X1 ⟨rfl, hX1, rfl⟩
    refine SD.take rfl panicBody (op_neqF rfl rfl (by omega)) rfl rfl ?_
    refine SD.take rfl panicBody (op_pickF rfl rfl) rfl rfl ?_
    refine SD.nil ?_
    show SL _ _ _ _ _ _ _ [] _ _ _
    refine SL.nil <| T.condF rfl <| T.skip <| T.seq <| T.region <| SL.v (op_assign (v := .int .i64 ((0 : Nat) : Int)) rfl) <| SL.v (op_assign (v := .int .i64 ((0 : Nat) : Int)) rfl) <| SL.nil <| T.seq <| T.seq <| T.region <| SL.v (op_fieldAddr fa62_0 rfl) <| SL.v (op_load ty3 rfl (by repeat constructor) rfl) ?_
    refine SL.v (op_eqlF rfl rfl (by omega)) ?_
    refine SL.mv rfl <| SL.v (op_fieldAddr fa62_0 rfl) <| SL.v (op_load ty3 rfl (by repeat constructor) rfl) ?_
    refine SL.v (op_eqlF rfl rfl (by omega)) ?_
    refine SL.v (op_pickF rfl rfl) <| SL.nil <| T.condF rfl <| T.skip <| T.seq <| T.seq <| T.region <| SL.v (op_fieldAddr fa62_0 rfl) <| SL.v (op_load ty3 rfl (by repeat constructor) rfl) ?_
    refine SL.v (op_eqlF rfl rfl (by omega)) ?_
    refine SL.nil <| T.condF rfl <| T.skip <| T.seq <| T.seq <| T.region <| SL.v (op_fieldAddr fa62_0 rfl) <| SL.v (op_load ty3 rfl (by repeat constructor) rfl) ?_
    refine SL.v (op_neqT rfl rfl (by omega)) ?_
    refine SL.mv rfl <| SL.v (op_fieldAddr fa62_1 rfl) <| SL.v (op_load ty3 rfl (by repeat constructor) rfl) ?_
    refine SL.v (op_neqF rfl rfl (by omega)) ?_
    refine SL.v (op_pickT rfl rfl) <| SL.mv rfl <| SL.v (op_fieldAddr fa62_2 rfl) <| SL.v (op_load ty59 rfl (by repeat constructor) rfl) ?_
    refine SL.v (op_lenS Tryz.underlying59 rfl) <| SL.mv rfl <| SL.v (op_lssF rfl rfl (by omega)) ?_
    refine SL.v (op_pickF rfl rfl) <| SL.mv rfl <| SL.v (op_fieldAddr fa62_2 rfl) <| SL.v (op_load ty59 rfl (by repeat constructor) rfl) ?_
    refine SL.v (op_lenS Tryz.underlying59 rfl) <| SL.mv rfl <| SL.v (op_gtrT rfl rfl (by omega)) ?_
    refine SL.v (op_pickF rfl rfl) <| SL.nil <| T.condT rfl <| T.seq <| T.region <| SL.v (op_assign (v := .int .i64 ((6 : Nat) : Int)) rfl) <| SL.nil <| T.ret1 rfl (ResIs.tmp rfl) ?_
    rw [own6 hA1 (.inr hnm)]; rfl

  have hnm : namN op ns.length := by
    have hq : ∀ q : Nat, 0 ≤ q ∧ q ≤ 0 → namN op q := fun q hq => by simp [namN, h4, h5, h6]; omega
    exact hq _ (by omega)
  have hA2 : ¬((n ≠ 0 ∧ op ≠ 1) ∨ ¬namN op ns.length) := fun h => h.elim (fun h => hNN h) (fun h => h hnm)
  refine Spec.enter Tryz.func167 rfl Tryz.ntmps167 rfl ?_
  intro w0 hw0
  refine T.seq <| T.region <| SL.w (op_box rfl) ?_
  rintro _ _ _ ⟨B1, rfl, rfl, rfl⟩
  refine SL.v (op_assign (v := .int .i64 ((0 : Nat) : Int)) rfl) <| SL.nil <| T.seq <| T.seq <| T.draw (by kernel_rfl) 17 [.t 0, .t 1, .t 2, .t 3, .t 4, .t 5, .t 6, .t 7, .t 8, .t 9, .t 10, .t 11, .t 12, .t 13, .r 14, .t 15, .t 16] (by kernel_rfl) ?_
  refine SD.take rfl panicBody (op_fieldAddr fa62_0 rfl) rfl rfl ?_
  refine SD.take rfl panicBody (op_load ty3 rfl (by repeat constructor) rfl) rfl rfl ?_
  refine SD.take rfl panicBody (op_lssF rfl rfl (by omega)) rfl rfl ?_
  refine SD.take rfl panicBody (op_move rfl) rfl rfl ?_
  refine SD.take rfl panicBody (op_fieldAddr fa62_0 rfl) rfl rfl ?_
  refine SD.take rfl panicBody (op_load ty3 rfl (by repeat constructor) rfl) rfl rfl ?_
  refine SD.take rfl panicBody (op_gtrF rfl rfl (by omega)) rfl rfl ?_
  refine SD.take rfl panicBody (op_pickF rfl rfl) rfl rfl ?_
  refine SD.take rfl panicBody (op_move rfl) rfl rfl ?_
  refine SD.take rfl panicBody (op_fieldAddr fa62_3 rfl) rfl rfl ?_
  refine SD.take rfl panicBody (op_load ty60 rfl (by repeat constructor) rfl) rfl rfl ?_
  refine SD.take rfl panicBody (op_lenS Tryz.underlying60 rfl) rfl rfl ?_
  refine SD.take rfl panicBody (op_fieldAddr fa62_0 rfl) rfl rfl ?_
  refine SD.take rfl panicBody (op_load ty3 rfl (by repeat constructor) rfl) rfl rfl ?_
  refine SD.run rfl (op_callF en118 (vs := [_]) rfl (rargN_spec)) rfl rfl ?_
  rintro _ _ X1 ⟨rfl, hX1, rfl⟩
  refine SD.take rfl panicBody (op_neqF rfl rfl (by omega)) rfl rfl ?_
  refine SD.take rfl panicBody (op_pickF rfl rfl) rfl rfl ?_
  refine SD.nil ?_
  show SL _ _ _ _ _ _ _ [] _ _ _
  refine SL.nil <| T.condF rfl <| T.skip <| T.seq <| T.region <| SL.v (op_assign (v := .int .i64 ((0 : Nat) : Int)) rfl) <| SL.v (op_assign (v := .int .i64 ((0 : Nat) : Int)) rfl) <| SL.nil <| T.seq <| T.seq <| T.region <| SL.v (op_fieldAddr fa62_0 rfl) <| SL.v (op_load ty3 rfl (by repeat constructor) rfl) ?_
  refine SL.v (op_eqlF rfl rfl (by omega)) ?_
  refine SL.mv rfl <| SL.v (op_fieldAddr fa62_0 rfl) <| SL.v (op_load ty3 rfl (by repeat constructor) rfl) ?_
  refine SL.v (op_eqlF rfl rfl (by omega)) ?_
  refine SL.v (op_pickF rfl rfl) <| SL.nil <| T.condF rfl <| T.skip <| T.seq <| T.seq <| T.region <| SL.v (op_fieldAddr fa62_0 rfl) <| SL.v (op_load ty3 rfl (by repeat constructor) rfl) ?_
  refine SL.v (op_eqlF rfl rfl (by omega)) ?_
  refine SL.nil <| T.condF rfl <| T.skip <| T.seq <| T.seq <| T.region <| SL.v (op_fieldAddr fa62_0 rfl) <| SL.v (op_load ty3 rfl (by repeat constructor) rfl) ?_
  refine SL.v (op_neqT rfl rfl (by omega)) ?_
  refine SL.mv rfl <| SL.v (op_fieldAddr fa62_1 rfl) <| SL.v (op_load ty3 rfl (by repeat constructor) rfl) ?_
  refine SL.v (op_neqF rfl rfl (by omega)) ?_
  refine SL.v (op_pickT rfl rfl) <| SL.mv rfl <| SL.v (op_fieldAddr fa62_2 rfl) <| SL.v (op_load ty59 rfl (by repeat constructor) rfl) ?_
  refine SL.v (op_lenS Tryz.underlying59 rfl) <| SL.mv rfl <| SL.v (op_lssF rfl rfl (by omega)) ?_
  refine SL.v (op_pickF rfl rfl) <| SL.mv rfl <| SL.v (op_fieldAddr fa62_2 rfl) <| SL.v (op_load ty59 rfl (by repeat constructor) rfl) ?_
  refine SL.v (op_lenS Tryz.underlying59 rfl) <| SL.mv rfl <| SL.v (op_gtrF rfl rfl (by omega)) ?_
  refine SL.v (op_pickF rfl rfl) <| SL.nil <| T.condF rfl <| T.skip <| T.seq <| T.seq <| T.region <| SL.v (op_fieldAddr fa62_2 rfl) <| SL.v (op_load ty59 rfl (by repeat constructor) rfl) ?_
  refine SL.v (op_lenS Tryz.underlying59 rfl) <| SL.v (op_move (v := .int .i64 ((0 : Nat) : Int)) rfl) <| SL.nil <| T.block <| T.loopW (fun m env own X' => ∃ i : Nat, m = ns.length - i ∧ i ≤ ns.length ∧ X1.le X' ∧ (∀ q x, q < i → ns[q]? = some x → validS x) ∧ env = [(1, .pointer (some ⟨B1, 0, none⟩)), (60, .slice An ns.length cn), (61, .int .i64 (ns.length : Int)), (62, .int .i64 (i : Int))] ∧ own = [⟨B1, [.int .i64 (op : Int), .int .i64 n, .slice An ns.length cn, .slice Aa k ca], 62, 4⟩]) ns.length ⟨0, by simp, by omega, PMap.le_refl _, fun q x hq => absurd hq (by omega), rfl, rfl⟩ (by repeat (first | exact Sub.nil | refine Sub.cons rfl ?_)) ?_
  rintro m _ _ X2 ⟨i, rfl, hi, hX2, hne, rfl, rfl⟩
  have hil : ns.length ≤ i := by omega
  have hv : ∀ s ∈ ns, validS s := fun s hs => by
    obtain ⟨q, hq⟩ := List.mem_iff_getElem?.1 hs
    have h1 := (List.getElem?_eq_some_iff.1 hq).1
    exact hne q s (by omega) hq
  refine T.seq <| T.region <| SL.v (op_lssF rfl rfl (by omega)) ?_
  refine SL.nil <| T.seq <| T.condF rfl ?_
  refine T.exit (T.exitCode (T.exitCut (T.exitBlk ?_)))
  refine T.seq <| T.seq <| T.region <| SL.v (op_fieldAddr fa62_2 rfl) <| SL.v (op_load ty59 rfl (by repeat constructor) rfl) ?_
  refine SL.v (op_lenS Tryz.underlying59 rfl) <| SL.v (op_move (v := .int .i64 ((0 : Nat) : Int)) rfl) <| SL.nil <| T.block <| T.loopW (fun m env own X' => ∃ i : Nat, m = ns.length - i ∧ i ≤ ns.length ∧ X2.le X' ∧ (ns.take i).Nodup ∧ env = [(1, .pointer (some ⟨B1, 0, none⟩)), (71, .slice An ns.length cn), (72, .int .i64 (ns.length : Int)), (73, .int .i64 (i : Int))] ∧ own = [⟨B1, [.int .i64 (op : Int), .int .i64 n, .slice An ns.length cn, .slice Aa k ca], 62, 4⟩]) ns.length ⟨0, by simp, by omega, PMap.le_refl _, by simp, rfl, rfl⟩ (by repeat (first | exact Sub.nil | refine Sub.cons rfl ?_)) ?_
  rintro m _ _ X4 ⟨j, rfl, hj, hX4, hnd, rfl, rfl⟩
  have hjl : ns.length ≤ j := by omega
  rw [List.take_of_length_le (by omega)] at hnd
  refine T.seq <| T.region <| SL.v (op_lssF rfl rfl (by omega)) ?_
  refine SL.nil <| T.seq <| T.condF rfl ?_
  refine T.exit (T.exitCode (T.exitCut (T.exitBlk ?_)))
  refine T.seq <| T.seq <| T.region <| SL.v (op_fieldAddr fa62_1 rfl) <| SL.v (op_load ty3 rfl (by repeat constructor) rfl) ?_
  refine SL.v (op_lssF rfl rfl (by omega)) ?_
  refine SL.mv rfl <| SL.v (op_fieldAddr fa62_1 rfl) <| SL.v (op_load ty3 rfl (by repeat constructor) rfl) ?_
  refine SL.v (op_gtrF rfl rfl (by omega)) ?_
  refine SL.v (op_pickF rfl rfl) <| SL.nil <| T.condF rfl <| T.skip <| T.seq <| T.region <| SL.v (op_assign (v := .int .i64 ((0 : Nat) : Int)) rfl) <| SL.nil <| T.ret1 rfl (ResIs.tmp rfl) ?_
  rw [own0' hA1 hA2 hv hnd (by omega)]; rfl
theorem inside_spec (N : Nat) : ∀ {X : PMap} {e : Ex} {r : Row4}, wtE e ≤ N → N < 100000000 → ExR .i64 X e r → Spec Tryz.prog 127 [.agg #[r.1, r.2.1, r.2.2.1, r.2.2.2]] X fun u _ => u = .int .i64 (nodeE e) := by
  induction N with
  | zero => intro X e r h; cases e; rw [wtE] at h; omega
  | succ N ih =>
    intro X e r hN hB h
    cases h with
    | @mk op n ns al vn va rows hn ha hl hr =>
    obtain ⟨Aa, ca, rfl⟩ := ha.form
    obtain ⟨An, cn, rfl⟩ := hn.form
    have hlen := wtL_len al
    have hnl := wtS_len ns
    rw [wtE] at hN
    refine Spec.enter Tryz.func127 rfl Tryz.ntmps127 rfl ?_
    intro w0 hw0
    refine T.seq <| T.region <| SL.w (op_box rfl) ?_
    rintro _ _ _ ⟨B1, rfl, rfl, rfl⟩
    refine SL.v (op_assign (v := .int .i64 ((0 : Nat) : Int)) rfl) <| SL.nil <| T.seq <| T.region <| SL.v (op_load ty62 rfl (by repeat constructor) rfl) ?_
    have hcall := rnode_spec (op := op) (n := n) (k := rows.length) (ca := ca) (Aa := Aa) (by omega) (by omega) hn
    refine SL.w (op_callF en167 (vs := [_]) rfl (hcall)) ?_
    rintro _ _ X1 ⟨rfl, hX1, rfl⟩
    rw [show ownE op n ns rows.length = ownE op n ns al.length by rw [hl]]
    by_cases hown : ownE op n ns al.length = 0
    case neg =>
      refine SL.as rfl <| SL.nil <| T.seq <| T.seq <| T.region <| SL.mv rfl <| SL.v (op_neqT rfl rfl (by omega)) ?_
      refine SL.nil <| T.condT rfl <| T.seq <| T.region <| SL.mv rfl <| SL.as rfl <| SL.nil <| T.ret1 rfl (ResIs.tmp rfl) ?_
      rw [node_own hown]
    rw [hown]
    refine SL.as rfl <| SL.nil <| T.seq <| T.seq <| T.region <| SL.mv rfl <| SL.v (op_neqF rfl rfl (by omega)) ?_
    refine SL.nil <| T.condF rfl <| T.skip <| T.seq <| T.seq <| T.region <| SL.v (op_fieldAddr fa62_3 rfl) <| SL.v (op_load ty60 rfl (by repeat constructor) rfl) ?_
    refine SL.v (op_lenS Tryz.underlying60 rfl) <| SL.v (op_move (v := .int .i64 ((0 : Nat) : Int)) rfl) <| SL.nil <| T.block <| T.drop B1 (by repeat constructor) ?_
    refine T.loopW (fun m env own X' => ∃ i : Nat, m = rows.length - i ∧ i ≤ rows.length ∧ X1.le X' ∧ nodeL (al.take i) = 0 ∧ env = [(12, .slice Aa rows.length ca), (13, .int .i64 (rows.length : Int)), (14, .int .i64 (i : Int))] ∧ own = []) rows.length ⟨0, by simp, by omega, PMap.le_refl _, by simp [nodeL], rfl, rfl⟩ (by repeat (first | exact Sub.nil | refine Sub.cons rfl ?_)) ?_
    rintro m _ _ X5 ⟨i, rfl, hi, hX5, hz0, rfl, rfl⟩
    rcases Nat.lt_or_ge i rows.length with hil | hil
    · obtain ⟨r2, hr2⟩ : ∃ r2, rows[i]? = some r2 := ⟨_, List.getElem?_eq_getElem hil⟩
      obtain ⟨a, ha2⟩ : ∃ a, al[i]? = some a := ⟨_, List.getElem?_eq_getElem (by omega)⟩
      have hra := hr i a r2 ha2 hr2
      obtain ⟨bA, pre, rfl, hbA⟩ := ha.blk (by omega)
      obtain ⟨_, _, _, _, _, _, _, _, rfl⟩ := hra.form
      have hwa := wtL_mem (List.mem_of_getElem? ha2)
      refine T.seq <| T.region <| SL.v (op_lssT rfl rfl (by omega)) ?_
      refine SL.nil <| T.seq <| T.condT rfl <| T.skip <| T.seq <| T.block <| T.seq <| T.region <| SL.v (op_indexN Tryz.underlying60 ty62 rfl rfl (by omega)) ?_
      refine SL.v (op_loadX ty62 rfl ((hbA.mono hX1).mono hX5) (row_read rc4_len hr2 (by omega))) ?_
      refine SL.w (op_alloc z62) ?_
      rintro _ _ _ ⟨B5, rfl, rfl, rfl⟩
      refine SL.w (op_store ty62 rfl rfl (by repeat constructor) rfl rfl rfl) ?_
      rintro _ _ _ ⟨rfl, rfl⟩
      refine SL.nil <| T.seq <| T.region <| SL.v (op_load ty62 rfl (by repeat constructor) rfl) ?_
      refine SL.w (op_callF en127 (vs := [_]) rfl (ih (by omega) (by omega) ((hra.mono hX1).mono hX5))) ?_
      rintro _ _ X6 ⟨rfl, hX6, rfl⟩
      by_cases hz : nodeE a = 0
      · skip
        refine SL.as rfl <| SL.nil <| T.seq <| T.region <| SL.mv rfl <| SL.v (op_neqF rfl rfl (by omega)) ?_
        refine SL.nil <| T.condF rfl <| T.skip <| T.blk <| T.region <| SL.v (op_addN (q := 1) rfl rfl (by omega)) ?_
        refine SL.mv rfl <| SL.nil <| T.drop B5 (by repeat constructor) ?_
        exact T.backW (rows.length - (i + 1)) (by omega) ⟨i + 1, rfl, by omega, hX5.trans' hX6, nodeL_snoc hz0 ha2 hz, rfl, rfl⟩ (by repeat (first | exact Sub.nil | refine Sub.cons rfl ?_))
      · refine SL.as rfl <| SL.nil <| T.seq <| T.region <| SL.mv rfl <| SL.v (op_neqT rfl rfl (by omega)) ?_
        refine SL.nil <| T.condT rfl <| T.seq <| T.region <| SL.mv rfl <| SL.as rfl <| SL.nil <| T.ret1 rfl (ResIs.tmp rfl) ?_
        rw [node_args hown, nodeL_at hz0 ha2 hz]
    · obtain rfl : i = rows.length := by omega
      rw [show al.take rows.length = al from List.take_of_length_le (by omega)] at hz0
      refine T.seq <| T.region <| SL.v (op_lssF rfl rfl (by omega)) ?_
      refine SL.nil <| T.seq <| T.condF rfl ?_
      refine T.exit (T.exitCode (T.exitCut (T.exitBlk ?_)))
      refine T.seq <| T.region <| SL.v (op_assign (v := .int .i64 ((0 : Nat) : Int)) rfl) <| SL.nil <| T.ret1 rfl (ResIs.tmp rfl) ?_
      rw [node_args hown, hz0]; rfl
theorem rchk_spec {X : PMap} {e : Ex} {r : Row4} (hw : wtE e < 100000000) (h : ExR .i64 X e r) : Spec Tryz.prog 75 [.agg #[r.1, r.2.1, r.2.2.1, r.2.2.2]] X fun u _ => u = .int .i64 (chkE e) := by
  obtain ⟨_, _, _, _, _, _, _, _, rfl⟩ := h.form
  have hd := dep_wt e
  have hs := siz_wt e
  by_cases h1 : 10 < depE e
  · refine Spec.enter Tryz.func75 rfl Tryz.ntmps75 rfl ?_
    intro w0 hw0
    refine T.seq <| T.region <| SL.w (op_box rfl) ?_
    rintro _ _ _ ⟨B1, rfl, rfl, rfl⟩
    refine SL.v (op_assign (v := .int .i64 ((0 : Nat) : Int)) rfl) <| SL.nil <| T.seq <| T.seq <| T.region <| SL.v (op_load ty62 rfl (by repeat constructor) rfl) ?_
    refine SL.w (op_callF en125 (vs := [_]) rfl (rdepth_spec _ (Nat.le_refl _) (by omega) h)) ?_
    rintro _ _ X1 ⟨rfl, hX1, rfl⟩
    refine SL.v (op_gtrT rfl rfl (by omega)) ?_
    refine SL.mv rfl <| SL.skip rfl rfl ?_
    refine SL.skip rfl rfl ?_
    refine SL.skip rfl rfl ?_
    refine SL.v (op_pickT rfl rfl) <| SL.nil <| T.condT rfl <| T.seq <| T.region <| SL.v (op_assign (v := .int .i64 ((3 : Nat) : Int)) rfl) <| SL.nil <| T.ret1 rfl (ResIs.tmp rfl) ?_
    rw [chkE, if_pos (.inl h1)]; rfl
  · by_cases h2 : 200 < sizE e
    · refine Spec.enter Tryz.func75 rfl Tryz.ntmps75 rfl ?_
      intro w0 hw0
      refine T.seq <| T.region <| SL.w (op_box rfl) ?_
      rintro _ _ _ ⟨B1, rfl, rfl, rfl⟩
      refine SL.v (op_assign (v := .int .i64 ((0 : Nat) : Int)) rfl) <| SL.nil <| T.seq <| T.seq <| T.region <| SL.v (op_load ty62 rfl (by repeat constructor) rfl) ?_
      refine SL.w (op_callF en125 (vs := [_]) rfl (rdepth_spec _ (Nat.le_refl _) (by omega) h)) ?_
      rintro _ _ X1 ⟨rfl, hX1, rfl⟩
      refine SL.v (op_gtrF rfl rfl (by omega)) ?_
      refine SL.mv rfl <| SL.v (op_load ty62 rfl (by repeat constructor) rfl) ?_
      refine SL.w (op_callF en126 (vs := [_]) rfl (rsize_spec _ (Nat.le_refl _) (by omega) (h.mono hX1))) ?_
      rintro _ _ X2 ⟨rfl, hX2, rfl⟩
      refine SL.v (op_gtrT rfl rfl (by omega)) ?_
      refine SL.v (op_pickF rfl rfl) <| SL.nil <| T.condT rfl <| T.seq <| T.region <| SL.v (op_assign (v := .int .i64 ((3 : Nat) : Int)) rfl) <| SL.nil <| T.ret1 rfl (ResIs.tmp rfl) ?_
      rw [chkE, if_pos (.inr h2)]; rfl
    · refine Spec.enter Tryz.func75 rfl Tryz.ntmps75 rfl ?_
      intro w0 hw0
      refine T.seq <| T.region <| SL.w (op_box rfl) ?_
      rintro _ _ _ ⟨B1, rfl, rfl, rfl⟩
      refine SL.v (op_assign (v := .int .i64 ((0 : Nat) : Int)) rfl) <| SL.nil <| T.seq <| T.seq <| T.region <| SL.v (op_load ty62 rfl (by repeat constructor) rfl) ?_
      refine SL.w (op_callF en125 (vs := [_]) rfl (rdepth_spec _ (Nat.le_refl _) (by omega) h)) ?_
      rintro _ _ X1 ⟨rfl, hX1, rfl⟩
      refine SL.v (op_gtrF rfl rfl (by omega)) ?_
      refine SL.mv rfl <| SL.v (op_load ty62 rfl (by repeat constructor) rfl) ?_
      refine SL.w (op_callF en126 (vs := [_]) rfl (rsize_spec _ (Nat.le_refl _) (by omega) (h.mono hX1))) ?_
      rintro _ _ X2 ⟨rfl, hX2, rfl⟩
      refine SL.v (op_gtrF rfl rfl (by omega)) ?_
      refine SL.v (op_pickF rfl rfl) <| SL.nil <| T.condF rfl <| T.skip <| T.seq <| T.region <| SL.v (op_load ty62 rfl (by repeat constructor) rfl) ?_
      refine SL.w (op_callF en127 (vs := [_]) rfl (inside_spec _ (Nat.le_refl _) (by omega) ((h.mono hX1).mono hX2))) ?_
      rintro _ _ X3 ⟨rfl, hX3, rfl⟩
      refine SL.as rfl <| SL.nil <| T.ret1 rfl (ResIs.tmp rfl) ?_
      rw [chkE, if_neg (by omega)]
end Go.Proofs.YtnpcilglilfajaaGreatDoor
namespace Go.Proofs.YtnpcilglilfajaaGreatDoor
section
set_option maxRecDepth 100000
theorem bs62 : ∃ i z, Tryz.prog.info? 62 = some i ∧ i.size = 4 ∧ i.zero = some z ∧ z.cells = ([.int .i64 0, .int .i64 0, .slice none 0 0, .slice none 0 0] : List Value).toArray := bs_of (by kernel_rfl)
theorem en102 : Enters Tryz.prog 102 := enters_mk Tryz.func102 (by kernel_rfl) rfl
theorem en117 : Enters Tryz.prog 117 := enters_mk Tryz.func117 (by kernel_rfl) rfl
theorem en71 : Enters Tryz.prog 71 := enters_mk Tryz.func71 (by kernel_rfl) rfl
theorem en86 : Enters Tryz.prog 86 := enters_mk Tryz.func86 (by kernel_rfl) rfl
theorem fa145_0 : FAdr Tryz.prog 145 0 0 := fadr_mk Tryz.underlying145 rfl rfl (by kernel_rfl)
theorem fa208_0 : FAdr Tryz.prog 208 0 0 := fadr_mk Tryz.underlying208 rfl rfl (by kernel_rfl)
theorem fa208_1 : FAdr Tryz.prog 208 1 1 := fadr_mk Tryz.underlying208 rfl rfl (by kernel_rfl)
theorem fa208_2 : FAdr Tryz.prog 208 2 2 := fadr_mk Tryz.underlying208 rfl rfl (by kernel_rfl)
theorem fa208_3 : FAdr Tryz.prog 208 3 3 := fadr_mk Tryz.underlying208 rfl rfl (by kernel_rfl)
theorem sl60 : SlT Tryz.prog 60 62 4 64 := ⟨Tryz.underlying60, sl_of (by kernel_rfl) (by decide)⟩
theorem z145 : Zero Tryz.prog 145 [.slice none 0 0] := ⟨zero_of (by kernel_rfl)⟩
theorem st145 : StT Tryz.prog 145 [(0, 1)] [.slice none 0 0] := ⟨⟨_, Tryz.underlying145, fun _ => by kernel_rfl, z145⟩⟩
theorem z208 : Zero Tryz.prog 208 [.int .u8 0, .int .u8 0, .int .u8 0, .int .i64 0] := ⟨zero_of (by kernel_rfl)⟩
theorem st208 : StT Tryz.prog 208 [(0, 1), (1, 1), (2, 1), (3, 1)] [.int .u8 0, .int .u8 0, .int .u8 0, .int .i64 0] := ⟨⟨_, Tryz.underlying208, fun _ => by kernel_rfl, z208⟩⟩
theorem st62 : StT Tryz.prog 62 [(0, 1), (1, 1), (2, 1), (3, 1)] [.int .i64 0, .int .i64 0, .slice none 0 0, .slice none 0 0] := ⟨⟨_, Tryz.underlying62, fun _ => by kernel_rfl, z62⟩⟩
theorem ty208 : Ty Tryz.prog 208 true 4 := ⟨⟨_, Tryz.underlying208, rfl⟩, by kernel_rfl⟩
theorem ty57 : Ty Tryz.prog 57 false 1 := ⟨⟨_, Tryz.underlying57, rfl⟩, by kernel_rfl⟩
end
open Go.RowKit
theorem word6_spec {X : PMap} {n : Nat} (hn : n < 256) : Spec Tryz.prog 86 [.int .u8 (n : Int)] X fun u _ => u = .string (word6 n) := by
  have h6 : n % 6 < 6 := Nat.mod_lt _ (by omega)
  have hw := strsC_at (word6_at n)
  refine Spec.enter Tryz.func86 rfl Tryz.ntmps86 rfl ?_
  intro w0 hw0
  refine T.seq <| T.region <| SL.as rfl <| SL.nil <| T.seq <| T.region <| SL.w (op_buildSlice Tryz.underlying59 bs9 (qs := [(0, _), (1, _), (2, _), (3, _), (4, _), (5, _)]) rfl rfl rfl rfl rfl) ?_
  rintro _ _ _ ⟨B4, rfl, rfl, rfl⟩
  refine SL.as rfl <| SL.nil <| T.seq <| T.region <| SL.mv rfl <| SL.mv rfl <| SL.v (op_convI64 Tryz.underlying5 Tryz.underlying3 rfl (by omega) (by omega)) ?_
  refine SL.mv rfl <| SL.v (op_lenS Tryz.underlying59 rfl) <| SL.v (op_remN (q := 6) rfl rfl rfl (by omega)) ?_
  refine SL.v (op_indexN Tryz.underlying59 ty9 rfl rfl (by omega)) ?_
  refine SL.v (op_load ty9 rfl (by repeat constructor) (cread1k' hw (by omega))) ?_
  refine SL.as rfl <| SL.nil <| T.ret1 rfl (ResIs.tmp rfl) ?_
  rfl
theorem word20_spec {X : PMap} {n : Nat} (hn : n < 256) : Spec Tryz.prog 102 [.int .u8 (n : Int)] X fun u _ => u = .string (word20 n) := by
  have h6 : n % 20 < 20 := Nat.mod_lt _ (by omega)
  have hw := strsC_at (word20_at n)
  refine Spec.enter Tryz.func102 rfl Tryz.ntmps102 rfl ?_
  intro w0 hw0
  refine T.seq <| T.region <| SL.as rfl <| SL.nil <| T.seq <| T.region <| SL.w (op_buildSlice Tryz.underlying59 bs9 (qs := [(0, _), (1, _), (2, _), (3, _), (4, _), (5, _), (6, _), (7, _), (8, _), (9, _), (10, _), (11, _), (12, _), (13, _), (14, _), (15, _), (16, _), (17, _), (18, _), (19, _)]) rfl rfl rfl rfl rfl) ?_
  rintro _ _ _ ⟨B4, rfl, rfl, rfl⟩
  refine SL.as rfl <| SL.nil <| T.seq <| T.region <| SL.mv rfl <| SL.mv rfl <| SL.v (op_convI64 Tryz.underlying5 Tryz.underlying3 rfl (by omega) (by omega)) ?_
  refine SL.mv rfl <| SL.v (op_lenS Tryz.underlying59 rfl) <| SL.v (op_remN (q := 20) rfl rfl rfl (by omega)) ?_
  refine SL.v (op_indexN Tryz.underlying59 ty9 rfl rfl (by omega)) ?_
  refine SL.v (op_load ty9 rfl (by repeat constructor) (cread1k' hw (by omega))) ?_
  refine SL.as rfl <| SL.nil <| T.ret1 rfl (ResIs.tmp rfl) ?_
  rfl
abbrev BdO (b : Nat) (A : Option Addr) (l c : Nat) : Ow := ⟨b, [.slice A l c], 145, 1⟩
theorem take_spec {X : PMap} {b cp : Nat} {A : Option Addr} {l : List Nd} (h : RowR ndC X (.slice A l.length cp) l) : SpecM Tryz.prog 117 [.pointer (some ⟨b, 0, none⟩)] X [BdO b A l.length cp] fun u L' _ => u = .agg #[.int .u8 ((takeN l).1.op : Int), .int .u8 ((takeN l).1.name : Int), .int .u8 ((takeN l).1.odd : Int), .int .i64 (takeN l).1.num] ∧ ∃ A' cp', L' = [BdO b A' (takeN l).2.length cp'] ∧ RowR ndC X (.slice A' (takeN l).2.length cp') (takeN l).2 := by
  match l, h with
  | [], h =>
    refine SpecM.enter Tryz.func117 rfl Tryz.ntmps117 rfl ?_
    intro w0 X0 own0
    refine T.seq <| T.region <| SL.w (op_alloc z208) ?_
    rintro _ _ _ ⟨B2, rfl, rfl, rfl⟩
    refine SL.nil <| T.seq <| T.seq <| T.region <| SL.mv rfl <| SL.v (op_nil rfl) <| SL.v (op_fieldAddr fa145_0 rfl) <| SL.v (op_load ty57 rfl (by repeat constructor) rfl) ?_
    refine SL.v (op_lenS Tryz.underlying57 rfl) <| SL.v (op_eql rfl rfl) <| SL.nil <| T.condT rfl <| T.seq <| T.region <| SL.v (op_build st208 (qs := [(0, _)]) rfl rfl) <| SL.w (op_store ty208 rfl rfl (by repeat constructor) rfl rfl rfl) ?_
    rintro _ _ _ ⟨rfl, rfl⟩
    refine SL.nil <| T.retM1S [_] _ rfl (ResIs.cell rfl ty208 (by repeat constructor) rfl) (List.sublist_cons_self _ _) (List.Perm.refl _) ?_
    exact ⟨PMap.le_refl _, rfl, A, cp, rfl, .inl ⟨rfl, _, _, rfl⟩⟩
  | x :: l, h =>
    have hd := h.drop (sz := 4) ndC_len (k := 1) (by simp)
    obtain ⟨bn, pre, rfl, hB⟩ := h.blk (by simp)
    have hcap := h.cap (by simp)
    rw [List.length_cons] at *
    refine SpecM.enter Tryz.func117 rfl Tryz.ntmps117 rfl ?_
    intro w0 X0 own0
    refine T.seq <| T.region <| SL.w (op_alloc z208) ?_
    rintro _ _ _ ⟨B2, rfl, rfl, rfl⟩
    refine SL.nil <| T.seq <| T.seq <| T.region <| SL.mv rfl <| SL.v (op_nil rfl) <| SL.v (op_fieldAddr fa145_0 rfl) <| SL.v (op_load ty57 rfl (by repeat constructor) rfl) ?_
    refine SL.v (op_lenS Tryz.underlying57 rfl) <| SL.v (op_eqlF rfl rfl (by omega)) ?_
    refine SL.nil <| T.condF rfl <| T.skip <| T.seq <| T.region <| SL.mv rfl <| SL.v (op_nil rfl) <| SL.v (op_fieldAddr fa145_0 rfl) <| SL.v (op_load ty57 rfl (by repeat constructor) rfl) ?_
    refine SL.v (op_index Tryz.underlying57 ty208 rfl rfl (by omega) (by omega)) ?_
    refine SL.v (op_loadX ty208 rfl hB (row_read ndC_len (rs := x :: l) (k := 0) rfl (by omega))) ?_
    refine SL.w (op_alloc z208) ?_
    rintro _ _ _ ⟨B3, rfl, rfl, rfl⟩
    refine SL.w (op_store ty208 rfl rfl (by repeat constructor) rfl rfl rfl) ?_
    rintro _ _ _ ⟨rfl, rfl⟩
    refine SL.nil <| T.seq <| T.region <| SL.mv rfl <| SL.mv rfl <| SL.v (op_nil rfl) <| SL.v (op_fieldAddr fa145_0 rfl) <| SL.v (op_load ty57 rfl (by repeat constructor) rfl) ?_
    refine SL.v (op_sliceLo (l := 1) Tryz.underlying57 ty208 rfl rfl (by omega) (by omega)) ?_
    refine SL.v (op_nil rfl) <| SL.v (op_fieldAddr fa145_0 rfl) <| SL.w (op_store ty57 rfl rfl (by repeat constructor) rfl rfl rfl) ?_
    rintro _ _ _ ⟨rfl, rfl⟩
    refine SL.nil <| T.seq <| T.region <| SL.v (op_load ty208 rfl (by repeat constructor) rfl) ?_
    refine SL.w (op_store ty208 rfl rfl (by repeat constructor) rfl rfl rfl) ?_
    rintro _ _ _ ⟨rfl, rfl⟩
    refine SL.nil <| T.retM1S [_] _ rfl (ResIs.cell rfl ty208 (by repeat constructor) rfl) (List.Sublist.cons _ (List.sublist_cons_self _ _)) (List.Perm.refl _) ?_
    refine ⟨PMap.le_refl _, rfl, _, _, rfl, ?_⟩
    exact hd
theorem build_eq (d : Nat) (l : List Nd) : buildE d l = (oddE (takeN l).1 (opN d (takeN l).1.op) (manyN (buildE (d - 1)) (argN (opN d (takeN l).1.op)) (takeN l).2).1, (manyN (buildE (d - 1)) (argN (opN d (takeN l).1.op)) (takeN l).2).2) := by
  cases d with
  | zero =>
    have : argN (opN 0 (takeN l).1.op) = 0 := by
      by_cases hc : 0 < argN (takeN l).1.op
      · rw [opN, if_pos ⟨rfl, hc⟩]; rfl
      · rw [opN, if_neg fun h => hc h.2]; exact Nat.eq_zero_of_not_pos hc
    rw [this, buildE]; rfl
  | succ d => rw [buildE, show opN (d + 1) (takeN l).1.op = (takeN l).1.op from if_neg (by omega)]; rfl
abbrev E6 (b : Nat) (op : Nat) (n : Int) (vn va : Value) : Ow := ⟨b, [.int .i64 (op : Int), .int .i64 n, vn, va], 62, 4⟩
abbrev N5 (b : Nat) (x : Nd) : Ow := ⟨b, ndC x, 208, 4⟩
theorem wrapU8a (p : Nat) : IntKind.u8.wrap ((p : Int) + 1) = (((p + 1) % 256 : Nat) : Int) := by simp [IntKind.wrap, IntKind.signed, IntKind.bits]
theorem wrapU8c (p : Nat) : IntKind.u8.wrap ((p : Int) + 3) = (((p + 3) % 256 : Nat) : Int) := by simp [IntKind.wrap, IntKind.signed, IntKind.bits]
theorem perm5 {a b c d e : Ow} {G O : Own} : (a :: b :: c :: d :: e :: (G ++ O)).Perm ((a :: b :: c :: d :: e :: O) ++ G) := .cons _ (.cons _ (.cons _ (.cons _ (.cons _ (show (G ++ O).Perm (O ++ G) from List.perm_append_comm)))))
theorem perm4 {a b c d : Ow} {G O : Own} : (a :: b :: c :: d :: (G ++ O)).Perm ((a :: b :: c :: d :: O) ++ G) := .cons _ (.cons _ (.cons _ (.cons _ (show (G ++ O).Perm (O ++ G) from List.perm_append_comm))))
theorem permG {G H O : Own} : (G ++ (H ++ O)).Perm ((G ++ O) ++ H) := by
  rw [List.append_assoc]
  exact List.Perm.append_left G List.perm_append_comm
theorem perm4G {a b c d : Ow} {G H O : Own} : (a :: b :: c :: d :: (G ++ (H ++ O))).Perm ((a :: b :: c :: d :: (G ++ O)) ++ H) := .cons _ (.cons _ (.cons _ (.cons _ (show (G ++ (H ++ O)).Perm ((G ++ O) ++ H) from permG))))
theorem perm5G {a b c d e : Ow} {G H O : Own} : (a :: b :: c :: d :: e :: (G ++ (H ++ O))).Perm ((a :: b :: c :: d :: e :: (G ++ O)) ++ H) := .cons _ perm4G
theorem grow1 {e : TypeId} {b : Nat} {cs : List Value} {size : Nat} (h : cs.length = size) (hm : 1 ≤ maxLen) : GrowS e size (.slice (some ⟨b, 0, none⟩) 1 1) 1 cs [⟨b, cs, e, 1 * size⟩] := .inr ⟨b, 1, rfl, rfl, Nat.le_refl _, hm, by omega⟩
theorem build_spec (d : Nat) : ∀ {X : PMap} {b cp : Nat} {A : Option Addr} {l : List Nd}, RowR ndC X (.slice A l.length cp) l → (∀ x ∈ l, ndOk x) → d ≤ 11 → SpecM Tryz.prog 71 [.pointer (some ⟨b, 0, none⟩), .int .i64 (d : Int)] X [BdO b A l.length cp] fun u L' X' => ∃ (r : Row4) (A' : Option Addr) (cp' : Nat), u = .agg #[r.1, r.2.1, r.2.2.1, r.2.2.2] ∧ ExR .i64 X' (buildE d l).1 r ∧ L' = [BdO b A' (buildE d l).2.length cp'] ∧ RowR ndC X' (.slice A' (buildE d l).2.length cp') (buildE d l).2 := by
  induction d using Nat.strongRecOn with
  | _ d ih =>
  intro X b cp A l h hok hd
  have hmx : maxLen = 9223372036854775807 := rfl
  rw [build_eq]
  obtain ⟨⟨g1, g2, g3⟩, hok1⟩ := takeN_ok hok
  have hok2 := manyN_ok (build_ok (d - 1)) hok1
  refine SpecM.enter Tryz.func71 rfl Tryz.ntmps71 rfl ?_
  intro w0 X0 own0
  refine T.seq <| T.region <| SL.w (op_alloc z62) ?_
  rintro _ _ _ ⟨B4, rfl, rfl, rfl⟩
  refine SL.nil <| T.seq <| T.region <| SL.mv rfl <| SL.perm (own' := [BdO b A l.length cp] ++ (_ :: own0)) (List.Perm.swap _ _ _) ?_
  refine SL.w (op_callM en117 (vs := [_]) rfl (take_spec h) rfl) ?_
  rintro _ _ X1 ⟨_, rfl, hX1, rfl, A1, cp1, rfl, h1⟩
  generalize (takeN l).1 = x at *
  generalize (takeN l).2 = l1 at *
  refine SL.w (op_alloc z208) ?_
  rintro _ _ _ ⟨B5, rfl, rfl, rfl⟩
  refine SL.w (op_store ty208 rfl rfl (by repeat constructor) rfl rfl rfl) ?_
  rintro _ _ _ ⟨rfl, rfl⟩
  refine SL.nil <| T.seq <| T.region <| SL.v (op_fieldAddr fa208_0 rfl) <| SL.v (op_load ty5 rfl (by repeat constructor) rfl) ?_
  refine SL.v (op_convI64 Tryz.underlying5 Tryz.underlying3 rfl (by omega) (by omega)) ?_
  refine SL.v (op_build st62 (qs := [(0, _)]) rfl rfl) <| SL.w (op_alloc z62) ?_
  rintro _ _ _ ⟨B6, rfl, rfl, rfl⟩
  refine SL.w (op_store ty62 rfl rfl (by repeat constructor) rfl rfl rfl) ?_
  rintro _ _ _ ⟨rfl, rfl⟩
  refine SL.nil <| T.seq <| T.meet (fun _ env own X' => X1.le X' ∧ env = [(0, .pointer (some ⟨b, 0, none⟩)), (1, .int .i64 (d : Int)), (4, .pointer (some ⟨B4, 0, none⟩)), (5, .pointer (some ⟨B5, 0, none⟩)), (6, .pointer (some ⟨B6, 0, none⟩))] ∧ own = E6 B6 (opN d x.op) 0 (.slice none 0 0) (.slice none 0 0) :: N5 B5 x :: BdO b A1 l1.length cp1 :: E6 B4 0 0 (.slice none 0 0) (.slice none 0 0) :: own0) ?_ ?_
  · rcases Nat.eq_zero_or_pos d with hd0 | hd0
    · by_cases hc : 0 < argN x.op
      · have ho : opN d x.op = 4 := if_pos ⟨hd0, hc⟩
        refine T.seq <| T.region <| SL.mv rfl <| SL.v (op_leqT rfl rfl (by omega)) ?_
        refine SL.mv rfl <| SL.v (op_fieldAddr fa62_0 rfl) <| SL.v (op_load ty3 rfl (by repeat constructor) rfl) ?_
        refine SL.w (op_callF en118 (vs := [_]) rfl (rargN_spec (op := x.op))) ?_
        rintro _ _ X2 ⟨rfl, hX2, rfl⟩
        refine SL.v (op_gtrT rfl rfl (by omega)) ?_
        refine SL.v (op_pickT rfl rfl) <| SL.nil <| T.condT rfl <| T.region <| SL.v (op_fieldAddr fa62_0 rfl) <| SL.w (op_store ty3 rfl rfl (by repeat constructor) rfl rfl rfl) ?_
        rintro _ _ _ ⟨rfl, rfl⟩
        refine SL.nil ?_
        rw [ho]
        exact T.backW 0 (by omega) ⟨hX2, rfl, rfl⟩ (by repeat (first | exact Sub.nil | refine Sub.cons rfl ?_))
      · have ho : opN d x.op = x.op := if_neg fun h => hc h.2
        refine T.seq <| T.region <| SL.mv rfl <| SL.v (op_leqT rfl rfl (by omega)) ?_
        refine SL.mv rfl <| SL.v (op_fieldAddr fa62_0 rfl) <| SL.v (op_load ty3 rfl (by repeat constructor) rfl) ?_
        refine SL.w (op_callF en118 (vs := [_]) rfl (rargN_spec (op := x.op))) ?_
        rintro _ _ X2 ⟨rfl, hX2, rfl⟩
        refine SL.v (op_gtrF rfl rfl (by omega)) ?_
        refine SL.v (op_pickT rfl rfl) <| SL.nil <| T.condF rfl <| T.skip ?_
        rw [ho]
        exact T.backW 0 (by omega) ⟨hX2, rfl, rfl⟩ (by repeat (first | exact Sub.nil | refine Sub.cons rfl ?_))
    · have ho : opN d x.op = x.op := if_neg fun h => by omega
      refine T.seq <| T.region <| SL.mv rfl <| SL.v (op_leqF rfl rfl (by omega)) ?_
      refine SL.mv rfl <| SL.skip rfl rfl ?_
      refine SL.skip rfl rfl ?_
      refine SL.skip rfl rfl ?_
      refine SL.skip rfl rfl ?_
      refine SL.v (op_pickF rfl rfl) <| SL.nil <| T.condF rfl <| T.skip ?_
      rw [ho]
      exact T.backW 0 (by omega) ⟨PMap.le_refl _, rfl, rfl⟩ (by repeat (first | exact Sub.nil | refine Sub.cons rfl ?_))
  rintro _ _ _ X2 ⟨hX2, rfl, rfl⟩
  have hop : opN d x.op < 256 := by unfold opN; split <;> omega
  have hd00 : d = 0 → argN (opN d x.op) = 0 := fun h => by
    by_cases hc : 0 < argN x.op
    · rw [opN, if_pos ⟨h, hc⟩]; rfl
    · rw [opN, if_neg fun h => hc h.2]; exact Nat.eq_zero_of_not_pos hc
  generalize opN d x.op = op at *
  refine T.seq <| T.meet (fun _ env own X' => X2.le X' ∧ env = [(0, .pointer (some ⟨b, 0, none⟩)), (1, .int .i64 (d : Int)), (4, .pointer (some ⟨B4, 0, none⟩)), (5, .pointer (some ⟨B5, 0, none⟩)), (6, .pointer (some ⟨B6, 0, none⟩))] ∧ own = E6 B6 op (if op = 1 then x.num else 0) (.slice none 0 0) (.slice none 0 0) :: N5 B5 x :: BdO b A1 l1.length cp1 :: E6 B4 0 0 (.slice none 0 0) (.slice none 0 0) :: own0) ?_ ?_
  · by_cases ho : op = 1
    · rw [if_pos ho]
      refine T.seq <| T.region <| SL.v (op_fieldAddr fa62_0 rfl) <| SL.v (op_load ty3 rfl (by repeat constructor) rfl) ?_
      refine SL.v (op_eqlT rfl rfl (by omega)) ?_
      refine SL.nil <| T.condT rfl <| T.region <| SL.v (op_fieldAddr fa208_3 rfl) <| SL.v (op_load ty3 rfl (by repeat constructor) rfl) ?_
      refine SL.v (op_fieldAddr fa62_1 rfl) <| SL.w (op_store ty3 rfl rfl (by repeat constructor) rfl rfl rfl) ?_
      rintro _ _ _ ⟨rfl, rfl⟩
      refine SL.nil ?_
      exact T.backW 0 (by omega) ⟨PMap.le_refl _, rfl, rfl⟩ (by repeat (first | exact Sub.nil | refine Sub.cons rfl ?_))
    · rw [if_neg ho]
      refine T.seq <| T.region <| SL.v (op_fieldAddr fa62_0 rfl) <| SL.v (op_load ty3 rfl (by repeat constructor) rfl) ?_
      refine SL.v (op_eqlF rfl rfl (by omega)) ?_
      refine SL.nil <| T.condF rfl <| T.skip ?_
      exact T.backW 0 (by omega) ⟨PMap.le_refl _, rfl, rfl⟩ (by repeat (first | exact Sub.nil | refine Sub.cons rfl ?_))
  rintro _ _ _ X3 ⟨hX3, rfl, rfl⟩
  have hn0 : (if op = 1 then x.num else 0) = (if op = 1 then x.num else 0) := rfl
  generalize hnn : (if op = 1 then x.num else 0) = n0 at *
  refine T.seq <| T.meet (fun _ env own X' => ∃ (vn : Value) (Gn : Own), X3.le X' ∧ GrowS 9 1 vn (if 4 ≤ op ∧ op ≤ 6 then [word6 x.name] else []).length (strsC (if 4 ≤ op ∧ op ≤ 6 then [word6 x.name] else [])) Gn ∧ env = [(0, .pointer (some ⟨b, 0, none⟩)), (1, .int .i64 (d : Int)), (4, .pointer (some ⟨B4, 0, none⟩)), (5, .pointer (some ⟨B5, 0, none⟩)), (6, .pointer (some ⟨B6, 0, none⟩))] ∧ own = E6 B6 op n0 vn (.slice none 0 0) :: N5 B5 x :: BdO b A1 l1.length cp1 :: E6 B4 0 0 (.slice none 0 0) (.slice none 0 0) :: (Gn ++ own0)) ?_ ?_
  · by_cases ho : 4 ≤ op ∧ op ≤ 6
    · rw [if_pos ho]
      refine T.seq <| T.region <| SL.v (op_fieldAddr fa62_0 rfl) <| SL.v (op_load ty3 rfl (by repeat constructor) rfl) ?_
      refine SL.v (op_geqT rfl rfl (by omega)) ?_
      refine SL.mv rfl <| SL.v (op_fieldAddr fa62_0 rfl) <| SL.v (op_load ty3 rfl (by repeat constructor) rfl) ?_
      refine SL.v (op_leqT rfl rfl (by omega)) ?_
      refine SL.v (op_pickT rfl rfl) <| SL.nil <| T.condT rfl <| T.region <| SL.v (op_fieldAddr fa208_1 rfl) <| SL.v (op_load ty5 rfl (by repeat constructor) rfl) ?_
      refine SL.w (op_callF en86 (vs := [_]) rfl (word6_spec g2)) ?_
      rintro _ _ X4 ⟨rfl, hX4, rfl⟩
      refine SL.w (op_buildSlice Tryz.underlying59 bs9 (qs := [(0, _)]) rfl rfl rfl rfl rfl) ?_
      rintro _ _ _ ⟨B40, rfl, rfl, rfl⟩
      refine SL.v (op_fieldAddr fa62_2 rfl) <| SL.w (op_store ty59 rfl rfl (by repeat constructor) rfl rfl rfl) ?_
      rintro _ _ _ ⟨rfl, rfl⟩
      refine SL.nil <| T.perm (List.perm_middle (l₁ := [_, _, _, _])).symm ?_
      exact T.backW 0 (by omega) ⟨_, _, hX4, grow1 rfl (by omega), rfl, rfl⟩ (by repeat (first | exact Sub.nil | refine Sub.cons rfl ?_))
    · rw [if_neg ho]
      by_cases ho4 : 4 ≤ op
      · skip
        refine T.seq <| T.region <| SL.v (op_fieldAddr fa62_0 rfl) <| SL.v (op_load ty3 rfl (by repeat constructor) rfl) ?_
        refine SL.v (op_geqT rfl rfl (by omega)) ?_
        refine SL.mv rfl <| SL.v (op_fieldAddr fa62_0 rfl) <| SL.v (op_load ty3 rfl (by repeat constructor) rfl) ?_
        refine SL.v (op_leqF rfl rfl (by omega)) ?_
        refine SL.v (op_pickT rfl rfl) <| SL.nil <| T.condF rfl <| T.skip ?_
        exact T.backW 0 (by omega) ⟨_, [], PMap.le_refl _, GrowS.nil, rfl, rfl⟩ (by repeat (first | exact Sub.nil | refine Sub.cons rfl ?_))
      · refine T.seq <| T.region <| SL.v (op_fieldAddr fa62_0 rfl) <| SL.v (op_load ty3 rfl (by repeat constructor) rfl) ?_
        refine SL.v (op_geqF rfl rfl (by omega)) ?_
        refine SL.mv rfl <| SL.skip rfl rfl ?_
        refine SL.skip rfl rfl ?_
        refine SL.skip rfl rfl ?_
        refine SL.v (op_pickF rfl rfl) <| SL.nil <| T.condF rfl <| T.skip ?_
        exact T.backW 0 (by omega) ⟨_, [], PMap.le_refl _, GrowS.nil, rfl, rfl⟩ (by repeat (first | exact Sub.nil | refine Sub.cons rfl ?_))
  rintro _ _ _ X4 ⟨vn4, Gn4, hX4, hGn4, rfl, rfl⟩
  refine T.seq <| T.meet (fun _ env own X' => ∃ (vn : Value) (Gn : Own), X4.le X' ∧ GrowS 9 1 vn (namesN op x.name).length (strsC (namesN op x.name)) Gn ∧ env = [(0, .pointer (some ⟨b, 0, none⟩)), (1, .int .i64 (d : Int)), (4, .pointer (some ⟨B4, 0, none⟩)), (5, .pointer (some ⟨B5, 0, none⟩)), (6, .pointer (some ⟨B6, 0, none⟩))] ∧ own = E6 B6 op n0 vn (.slice none 0 0) :: N5 B5 x :: BdO b A1 l1.length cp1 :: E6 B4 0 0 (.slice none 0 0) (.slice none 0 0) :: (Gn ++ own0)) ?_ ?_
  · by_cases ho : op = 5
    · have hq : x.name % 3 < 3 := Nat.mod_lt _ (by omega)
      by_cases h3 : 0 < x.name % 3
      · rw [show namesN op x.name = [word6 x.name, word6 ((x.name + 1) % 256), word6 ((x.name + 3) % 256)] from if_pos ⟨ho, h3⟩]
        rw [if_pos (by omega)] at hGn4
        refine T.seq <| T.region <| SL.v (op_fieldAddr fa62_0 rfl) <| SL.v (op_load ty3 rfl (by repeat constructor) rfl) ?_
        refine SL.v (op_eqlT rfl rfl (by omega)) ?_
        refine SL.mv rfl <| SL.v (op_fieldAddr fa208_1 rfl) <| SL.v (op_load ty5 rfl (by repeat constructor) rfl) ?_
        refine SL.v (op_remN (q := 3) rfl rfl rfl (by omega)) ?_
        refine SL.v (op_gtrT rfl rfl (by omega)) ?_
        refine SL.v (op_pickT rfl rfl) <| SL.nil <| T.condT rfl <| T.drawG (own0 := [_, _]) (by kernel_rfl) 11 [.t 0, .t 1, .t 2, .t 3, .t 4, .t 6, .t 7, .t 8, .r 5, .r 9, .r 10] (by kernel_rfl) ?_
        refine SD.take rfl panicBody (op_fieldAddr fa62_2 rfl) rfl rfl ?_
        refine SD.take rfl panicBody (op_load ty59 rfl (by repeat constructor) rfl) rfl rfl ?_
        refine SD.take rfl panicBody (op_fieldAddr fa208_1 rfl) rfl rfl ?_
        refine SD.take rfl panicBody (op_load ty5 rfl (by repeat constructor) rfl) rfl rfl ?_
        refine SD.take rfl panicBody (op_addW rfl rfl) rfl rfl ?_
        refine SD.take rfl panicBody (op_fieldAddr fa208_1 rfl) rfl rfl ?_
        refine SD.take rfl panicBody (op_load ty5 rfl (by repeat constructor) rfl) rfl rfl ?_
        refine SD.take rfl panicBody (op_addW rfl rfl) rfl rfl ?_
        rw [wrapU8a]
        refine SD.run rfl (op_callF en86 (vs := [_]) rfl (word6_spec (Nat.mod_lt _ (by omega)))) rfl rfl ?_
        rintro _ _ X5 ⟨rfl, hX5, rfl⟩
        rw [wrapU8c]
        refine SD.run rfl (op_callF en86 (vs := [_]) rfl (word6_spec (Nat.mod_lt _ (by omega)))) rfl rfl ?_
        rintro _ _ X6 ⟨rfl, hX6, rfl⟩
        refine SD.run rfl (op_buildSlice Tryz.underlying59 bs9 (qs := [(0, _), (1, _)]) rfl rfl rfl rfl rfl) rfl rfl ?_
        rintro _ _ _ ⟨B61, rfl, rfl, rfl⟩
        refine SD.nil ?_
        show SL _ _ _ _ _ _ _ [_, _, _] _ _ _
        refine SL.perm perm5 ?_
        refine SL.w (op_appendGA (own0 := _ :: _ :: _ :: _ :: _ :: own0) (m := 2) sl59 rfl hGn4 rfl (Src.ofOwn0 AtO.here rfl) (by intro y hy; have hy : y ∈ [Value.string _, Value.string _] := hy; simp only [List.mem_cons, List.not_mem_nil, or_false] at hy; rcases hy with rfl | rfl <;> rfl) (by simp; omega) (by simp)) ?_
        rintro vn5 _ _ ⟨Gn5, rfl, rfl, hGn5⟩
        obtain ⟨_, _, rfl⟩ := hGn5.form
        refine SL.v (op_fieldAddr fa62_2 rfl) <| SL.w (op_store ty59 rfl rfl (by repeat constructor) rfl rfl rfl) ?_
        rintro _ _ _ ⟨rfl, rfl⟩
        refine SL.nil <| T.less (List.sublist_cons_self _ _) ?_
        refine T.perm perm4.symm ?_
        exact T.backW 0 (by omega) ⟨_, _, hX5.trans' hX6, hGn5, rfl, rfl⟩ (by repeat (first | exact Sub.nil | refine Sub.cons rfl ?_))
      · rw [show namesN op x.name = (if 4 ≤ op ∧ op ≤ 6 then [word6 x.name] else []) from if_neg fun h => h3 h.2]
        refine T.seq <| T.region <| SL.v (op_fieldAddr fa62_0 rfl) <| SL.v (op_load ty3 rfl (by repeat constructor) rfl) ?_
        refine SL.v (op_eqlT rfl rfl (by omega)) ?_
        refine SL.mv rfl <| SL.v (op_fieldAddr fa208_1 rfl) <| SL.v (op_load ty5 rfl (by repeat constructor) rfl) ?_
        refine SL.v (op_remN (q := 3) rfl rfl rfl (by omega)) ?_
        refine SL.v (op_gtrF rfl rfl (by omega)) ?_
        refine SL.v (op_pickT rfl rfl) <| SL.nil <| T.condF rfl <| T.skip ?_
        exact T.backW 0 (by omega) ⟨_, _, PMap.le_refl _, hGn4, rfl, rfl⟩ (by repeat (first | exact Sub.nil | refine Sub.cons rfl ?_))
    · rw [show namesN op x.name = (if 4 ≤ op ∧ op ≤ 6 then [word6 x.name] else []) from if_neg fun h => ho h.1]
      refine T.seq <| T.region <| SL.v (op_fieldAddr fa62_0 rfl) <| SL.v (op_load ty3 rfl (by repeat constructor) rfl) ?_
      refine SL.v (op_eqlF rfl rfl (by omega)) ?_
      refine SL.mv rfl <| SL.skip rfl rfl ?_
      refine SL.skip rfl rfl ?_
      refine SL.skip rfl rfl ?_
      refine SL.skip rfl rfl ?_
      refine SL.v (op_pickF rfl rfl) <| SL.nil <| T.condF rfl <| T.skip ?_
      exact T.backW 0 (by omega) ⟨_, _, PMap.le_refl _, hGn4, rfl, rfl⟩ (by repeat (first | exact Sub.nil | refine Sub.cons rfl ?_))
  rintro _ _ _ X5 ⟨vn5, Gn5, hX5, hGn5, rfl, rfl⟩
  have hX15 := ((hX2.trans' hX3).trans' hX4).trans' hX5
  have hk2 := argN_le op
  refine T.seq <| T.seq <| T.region <| SL.v (op_assign (v := .int .i64 ((0 : Nat) : Int)) rfl) <| SL.nil <| T.block <| T.perm (own' := E6 B6 op n0 vn5 (.slice none 0 0) :: N5 B5 x :: E6 B4 0 0 (.slice none 0 0) (.slice none 0 0) :: BdO b A1 l1.length cp1 :: (Gn5 ++ ([] ++ own0))) (.cons _ (.cons _ (.swap _ _ _))) ?_
  have hmw := fun k => manyN_len (buildE (d - 1)) l1 k
  refine T.loopW (fun m env own X' => ∃ (k : Nat) (A' : Option Addr) (cp' : Nat) (va : Value) (Ga : Own) (rows : List Row4), m = argN op - k ∧ k ≤ argN op ∧ X5.le X' ∧ rows.length = k ∧ GrowS 62 4 va rows.length (rows.map rc4).flatten Ga ∧ (∀ (i : Nat) (a : Ex) (r : Row4), (manyN (buildE (d - 1)) k l1).1[i]? = some a → rows[i]? = some r → ExR .i64 X' a r) ∧ RowR ndC X' (.slice A' (manyN (buildE (d - 1)) k l1).2.length cp') (manyN (buildE (d - 1)) k l1).2 ∧ env = [(0, .pointer (some ⟨b, 0, none⟩)), (1, .int .i64 (d : Int)), (4, .pointer (some ⟨B4, 0, none⟩)), (5, .pointer (some ⟨B5, 0, none⟩)), (6, .pointer (some ⟨B6, 0, none⟩)), (7, .int .i64 (k : Int))] ∧ own = E6 B6 op n0 vn5 va :: N5 B5 x :: E6 B4 0 0 (.slice none 0 0) (.slice none 0 0) :: BdO b A' (manyN (buildE (d - 1)) k l1).2.length cp' :: (Gn5 ++ (Ga ++ own0))) (argN op) ⟨0, _, _, _, [], [], by simp, by omega, PMap.le_refl _, rfl, GrowS.nil, fun i a r h => by simp [manyN] at h, h1.mono (hX1.trans' hX15), rfl, rfl⟩ (by repeat (first | exact Sub.nil | refine Sub.cons rfl ?_)) ?_
  rintro m _ _ X6 ⟨k, A6, cp6, va6, Ga6, rows, rfl, hk, hX6, hrl, hGa6, hrows, hb6, rfl, rfl⟩
  refine T.seq <| T.seq <| T.region <| SL.mv rfl <| SL.v (op_fieldAddr fa62_0 rfl) <| SL.v (op_load ty3 rfl (by repeat constructor) rfl) ?_
  refine SL.w (op_callF en118 (vs := [_]) rfl (rargN_spec (op := op))) ?_
  rintro _ _ X7 ⟨rfl, hX7, rfl⟩
  rcases Nat.lt_or_ge k (argN op) with hkl | hkl
  · have hd0 : 0 < d := Nat.pos_of_ne_zero fun h => by have := hd00 h; omega
    refine SL.v (op_lssT rfl rfl (by omega)) ?_
    refine SL.nil <| T.condT rfl <| T.skip <| T.seq <| T.block <| T.drawG (own0 := [_, _, _]) (by kernel_rfl) 7 [.t 0, .t 1, .t 2, .t 3, .t 4, .r 5, .r 6] (by kernel_rfl) ?_
    refine SD.take rfl panicBody (op_fieldAddr fa62_3 rfl) rfl rfl ?_
    refine SD.take rfl panicBody (op_load ty60 rfl (by repeat constructor) rfl) rfl rfl ?_
    refine SD.take rfl panicBody (op_move rfl) rfl rfl ?_
    refine SD.take rfl panicBody (op_move rfl) rfl rfl ?_
    refine SD.take rfl panicBody (op_subN (q := 1) rfl rfl (by omega) (by omega)) rfl rfl ?_
    refine SD.perm (own' := [BdO b A6 (manyN (buildE (d - 1)) k l1).2.length cp6] ++ (E6 B6 op n0 vn5 va6 :: N5 B5 x :: E6 B4 0 0 (.slice none 0 0) (.slice none 0 0) :: (Gn5 ++ (Ga6 ++ own0)))) (List.perm_middle (l₁ := [_, _, _])) ?_
    refine SD.runK rfl (op_callM en71 (vs := [_, _]) rfl (ih (d - 1) (by omega) (hb6.mono hX7) (hok2 k) (by omega)) rfl) (by rintro _ _ _ ⟨L', rfl, hX, _⟩; exact ⟨fun p hp => List.mem_append_right _ (show p ∈ [_, _, _] ++ _ from List.mem_append_left _ hp), hX⟩) rfl rfl ?_
    rintro _ _ X8 ⟨_, rfl, hX8, r8, A8, cp8, rfl, hr8, rfl, hb8⟩
    obtain ⟨o8, n8, a8, b8, l8, c8, l9, c9, rfl⟩ := hr8.form
    refine SD.run rfl (op_buildSlice Tryz.underlying60 bs62 (qs := [(0, _)]) rfl rfl rfl rfl rfl) rfl rfl ?_
    rintro _ _ _ ⟨B77, rfl, rfl, rfl⟩
    refine SD.nil ?_
    show SL _ _ _ _ _ _ _ [_, _, _] _ _ _
    refine SL.perm perm5G ?_
    refine SL.w (op_appendGA (own0 := _ :: _ :: _ :: _ :: _ :: (Gn5 ++ own0)) (m := 1) sl60 rfl hGa6 rfl (Src.ofOwn0 AtO.here rfl) (by intro y hy; have hy : y ∈ [Value.int _ _, Value.int _ _, Value.slice _ _ _, Value.slice _ _ _] := hy; simp only [List.mem_cons, List.not_mem_nil, or_false] at hy; rcases hy with rfl | rfl | rfl | rfl <;> rfl) (by omega) (by omega)) ?_
    rintro va9 _ _ ⟨Ga9, rfl, rfl, hGa9⟩
    obtain ⟨Aa9, ca9, rfl⟩ := hGa9.form
    refine SL.v (op_fieldAddr fa62_3 rfl) <| SL.w (op_store ty60 rfl rfl (by repeat constructor) rfl rfl rfl) ?_
    rintro _ _ _ ⟨rfl, rfl⟩
    refine SL.nil <| T.blk <| T.region <| SL.mv rfl <| SL.v (op_addN (q := 1) rfl rfl (by omega)) ?_
    refine SL.as rfl <| SL.nil <| T.less (List.sublist_cons_self _ _) ?_
    refine T.perm perm4G.symm ?_
    refine T.perm (List.perm_middle (l₁ := [_, _, _])).symm ?_
    have hGa10 : GrowS 62 4 (.slice Aa9 (rows.length + 1) ca9) (rows ++ [((.int .i64 (o8 : Int), .int .i64 n8, .slice a8 l8 c8, .slice b8 l9 c9) : Row4)]).length (((rows ++ [((.int .i64 (o8 : Int), .int .i64 n8, .slice a8 l8 c8, .slice b8 l9 c9) : Row4)]).map rc4).flatten) Ga9 := by
      rw [List.length_append, List.map_append, List.flatten_append]
      exact hGa9
    have hrows2 : ∀ (i : Nat) (a : Ex) (r : Row4), (manyN (buildE (d - 1)) (k + 1) l1).1[i]? = some a → (rows ++ [((.int .i64 (o8 : Int), .int .i64 n8, .slice a8 l8 c8, .slice b8 l9 c9) : Row4)])[i]? = some r → ExR .i64 X8 a r := by
      intro i a r hi hr
      rcases Nat.lt_or_ge i k with hik | hik
      · rw [manyN, List.getElem?_append_left (by rw [hmw]; exact hik)] at hi
        rw [List.getElem?_append_left (by omega)] at hr
        exact ((hrows i a r hi hr).mono hX7).mono hX8
      · have hik2 : i = k := by
          have := (List.getElem?_eq_some_iff.1 hr).1
          rw [List.length_append] at this; simp at this; omega
        subst hik2
        rw [manyN, List.getElem?_append_right (by rw [hmw]; omega), hmw, Nat.sub_self] at hi
        rw [List.getElem?_append_right (by omega), hrl, Nat.sub_self] at hr
        simp only [List.getElem?_cons_zero, Option.some.injEq] at hi hr
        subst hi hr
        exact hr8
    exact T.backW (argN op - (k + 1)) (by omega) ⟨k + 1, _, _, _, _, rows ++ [(.int .i64 (o8 : Int), .int .i64 n8, .slice a8 l8 c8, .slice b8 l9 c9)], rfl, by omega, (hX6.trans' hX7).trans' hX8, by rw [List.length_append, hrl]; rfl, hGa10, hrows2, hb8, rfl, rfl⟩ (by repeat (first | exact Sub.nil | refine Sub.cons rfl ?_))
  · obtain rfl : k = argN op := by omega
    have hX17 := hX15.trans' (hX6.trans' hX7)
    generalize hmn : manyN (buildE (d - 1)) (argN op) l1 = z at *
    obtain ⟨al0, l2⟩ := z
    simp only at *
    have hal : rows.length = al0.length := by have := hmw (argN op); rw [hmn] at this; simp only at this; omega
    refine SL.v (op_lssF rfl rfl (by omega)) ?_
    refine SL.nil <| T.condF rfl ?_
    refine T.exit (T.exitCode (T.exitCut (T.exitBlk ?_)))
    refine T.seq <| T.meet (fun _ env own X' => ∃ (op' : Nat) (n' : Int) (ns : List ByteArray) (al : List Ex) (vn va : Value) (Gn Ga : Own) (rs : List Row4), oddE x op al0 = .mk op' n' ns al ∧ X7.le X' ∧ GrowS 9 1 vn ns.length (strsC ns) Gn ∧ GrowS 62 4 va rs.length (rs.map rc4).flatten Ga ∧ rs.length = al.length ∧ (∀ (i : Nat) (a : Ex) (r : Row4), al[i]? = some a → rs[i]? = some r → ExR .i64 X' a r) ∧ env = [(4, .pointer (some ⟨B4, 0, none⟩)), (5, .pointer (some ⟨B5, 0, none⟩)), (6, .pointer (some ⟨B6, 0, none⟩))] ∧ own = E6 B6 op' n' vn va :: N5 B5 x :: E6 B4 0 0 (.slice none 0 0) (.slice none 0 0) :: BdO b A6 l2.length cp6 :: (Gn ++ (Ga ++ own0))) ?_ ?_
    · have hrow7 : ∀ (i : Nat) (a : Ex) (r : Row4), al0[i]? = some a → rows[i]? = some r → ExR .i64 X7 a r := fun i a r h1 h2 => (hrows i a r h1 h2).mono hX7
      have hn5 := namesN_wt op x.name
      have hn6 := wtS_len (namesN op x.name)
      by_cases o1 : x.odd = 1
      · have e : oddE x op al0 = .mk op n0 (namesN op x.name) (al0 ++ [.mk 2 0 [] []]) := by simp only [oddE, if_pos o1, hnn]
        refine T.seq <| T.region <| SL.v (op_fieldAddr fa208_2 rfl) <| SL.v (op_load ty5 rfl (by repeat constructor) rfl) ?_
        refine SL.nil <| T.block <| T.seq <| T.region <| SL.v (op_eqlT rfl rfl (by omega)) ?_
        refine SL.as rfl <| SL.nil <| T.condT rfl <| T.region <| SL.v (op_fieldAddr fa62_3 rfl) <| SL.v (op_load ty60 rfl (by repeat constructor) rfl) ?_
        refine SL.v (op_build st62 (qs := [(0, _)]) rfl rfl) <| SL.w (op_buildSlice Tryz.underlying60 bs62 (qs := [(0, _)]) rfl rfl rfl rfl rfl) ?_
        rintro _ _ _ ⟨B87, rfl, rfl, rfl⟩
        refine SL.perm perm5G ?_
        refine SL.w (op_appendGA (own0 := _ :: _ :: _ :: _ :: _ :: (Gn5 ++ own0)) (m := 1) sl60 rfl hGa6 rfl (Src.ofOwn0 AtO.here rfl) (by intro y hy; have hy : y ∈ [Value.int _ _, Value.int _ _, Value.slice _ _ _, Value.slice _ _ _] := hy; simp only [List.mem_cons, List.not_mem_nil, or_false] at hy; rcases hy with rfl | rfl | rfl | rfl <;> rfl) (by omega) (by omega)) ?_
        rintro va9 _ _ ⟨Ga9, rfl, rfl, hGa9⟩
        obtain ⟨Aa9, ca9, rfl⟩ := hGa9.form
        refine SL.v (op_fieldAddr fa62_3 rfl) <| SL.w (op_store ty60 rfl rfl (by repeat constructor) rfl rfl rfl) ?_
        rintro _ _ _ ⟨rfl, rfl⟩
        refine SL.nil <| T.blk <| T.less (List.sublist_cons_self _ _) ?_
        refine T.perm perm4G.symm ?_
        have hGa10 : GrowS 62 4 (.slice Aa9 (rows.length + 1) ca9) (rows ++ [((.int .i64 2, .int .i64 0, .slice none 0 0, .slice none 0 0) : Row4)]).length (((rows ++ [((.int .i64 2, .int .i64 0, .slice none 0 0, .slice none 0 0) : Row4)]).map rc4).flatten) Ga9 := by
          rw [List.length_append, List.map_append, List.flatten_append]
          exact hGa9
        have hrows2 : ∀ (i : Nat) (a : Ex) (r : Row4), (al0 ++ [.mk 2 0 [] []])[i]? = some a → (rows ++ [((.int .i64 2, .int .i64 0, .slice none 0 0, .slice none 0 0) : Row4)])[i]? = some r → ExR .i64 X7 a r := by
          intro i a r hi hr
          rcases Nat.lt_or_ge i al0.length with hik | hik
          · rw [List.getElem?_append_left hik] at hi
            rw [List.getElem?_append_left (by omega)] at hr
            exact hrow7 i a r hi hr
          · have hik2 : i = al0.length := by
              have := (List.getElem?_eq_some_iff.1 hi).1
              rw [List.length_append] at this; simp at this; omega
            subst hik2
            rw [List.getElem?_append_right (by omega), Nat.sub_self] at hi
            rw [List.getElem?_append_right (by omega), hal, Nat.sub_self] at hr
            simp only [List.getElem?_cons_zero, Option.some.injEq] at hi hr
            subst hi hr
            exact .mk (rows := []) (.inl ⟨rfl, _, _, rfl⟩) (.inl ⟨rfl, _, _, rfl⟩) rfl (fun i a r h => by simp at h)
        exact T.backW 0 (by omega) ⟨_, _, _, _, _, _, _, _, _, e, PMap.le_refl _, hGn5, hGa10, by rw [List.length_append, List.length_append, hal]; rfl, hrows2, rfl, rfl⟩ (by repeat (first | exact Sub.nil | refine Sub.cons rfl ?_))
      by_cases o2 : x.odd = 2
      · have e : oddE x op al0 = .mk op n0 (namesN op x.name) [] := by simp only [oddE, if_neg o1, if_pos o2, hnn]
        refine T.seq <| T.region <| SL.v (op_fieldAddr fa208_2 rfl) <| SL.v (op_load ty5 rfl (by repeat constructor) rfl) ?_
        refine SL.nil <| T.block <| T.seq <| T.region <| SL.v (op_eqlF rfl rfl (by omega)) ?_
        refine SL.as rfl <| SL.nil <| T.condF rfl <| T.seq <| T.region <| SL.v (op_eqlT rfl rfl (by omega)) ?_
        refine SL.as rfl <| SL.nil <| T.condT rfl <| T.region <| SL.v (op_fieldAddr fa62_3 rfl) <| SL.w (op_store ty60 rfl rfl (by repeat constructor) rfl rfl rfl) ?_
        rintro _ _ _ ⟨rfl, rfl⟩
        refine SL.nil <| T.blk <| T.less (own' := _ :: _ :: _ :: _ :: (Gn5 ++ ([] ++ own0))) (.cons_cons _ (.cons_cons _ (.cons_cons _ (.cons_cons _ (List.Sublist.append_left (List.sublist_append_right Ga6 own0) Gn5))))) ?_
        exact T.backW 0 (by omega) ⟨_, _, _, _, _, _, _, [], [], e, PMap.le_refl _, hGn5, GrowS.nil, rfl, fun i a r h => by simp at h, rfl, rfl⟩ (by repeat (first | exact Sub.nil | refine Sub.cons rfl ?_))
      by_cases o3 : x.odd = 3
      · have e : oddE x op al0 = .mk op n0 (namesN op x.name ++ [word6 x.name]) al0 := by simp only [oddE, if_neg o1, if_neg o2, if_pos o3, hnn]
        refine T.seq <| T.region <| SL.v (op_fieldAddr fa208_2 rfl) <| SL.v (op_load ty5 rfl (by repeat constructor) rfl) ?_
        refine SL.nil <| T.block <| T.seq <| T.region <| SL.v (op_eqlF rfl rfl (by omega)) ?_
        refine SL.as rfl <| SL.nil <| T.condF rfl <| T.seq <| T.region <| SL.v (op_eqlF rfl rfl (by omega)) ?_
        refine SL.as rfl <| SL.nil <| T.condF rfl <| T.seq <| T.region <| SL.v (op_eqlT rfl rfl (by omega)) ?_
        refine SL.as rfl <| SL.nil <| T.condT rfl <| T.drawG (own0 := [_, _, _]) (by kernel_rfl) 6 [.t 0, .t 1, .t 2, .t 3, .r 4, .r 5] (by kernel_rfl) ?_
        refine SD.take rfl panicBody (op_fieldAddr fa62_2 rfl) rfl rfl ?_
        refine SD.take rfl panicBody (op_load ty59 rfl (by repeat constructor) rfl) rfl rfl ?_
        refine SD.take rfl panicBody (op_fieldAddr fa208_1 rfl) rfl rfl ?_
        refine SD.take rfl panicBody (op_load ty5 rfl (by repeat constructor) rfl) rfl rfl ?_
        refine SD.run rfl (op_callF en86 (vs := [_]) rfl (word6_spec g2)) rfl rfl ?_
        rintro _ _ X8 ⟨rfl, hX8, rfl⟩
        refine SD.run rfl (op_buildSlice Tryz.underlying59 bs9 (qs := [(0, _)]) rfl rfl rfl rfl rfl) rfl rfl ?_
        rintro _ _ _ ⟨B100, rfl, rfl, rfl⟩
        refine SD.nil ?_
        show SL _ _ _ _ _ _ _ [_, _, _] _ _ _
        refine SL.perm perm5 ?_
        refine SL.w (op_appendGA (own0 := _ :: _ :: _ :: _ :: _ :: (Ga6 ++ own0)) (m := 1) sl59 rfl hGn5 rfl (Src.ofOwn0 AtO.here rfl) (by intro y hy; have hy : y ∈ [Value.string _] := hy; simp only [List.mem_cons, List.not_mem_nil, or_false] at hy; subst hy; rfl) (by omega) (by omega)) ?_
        rintro vn9 _ _ ⟨Gn9, rfl, rfl, hGn9⟩
        obtain ⟨An9, cn9, rfl⟩ := hGn9.form
        refine SL.v (op_fieldAddr fa62_2 rfl) <| SL.w (op_store ty59 rfl rfl (by repeat constructor) rfl rfl rfl) ?_
        rintro _ _ _ ⟨rfl, rfl⟩
        refine SL.nil <| T.blk <| T.less (List.sublist_cons_self _ _) ?_
        refine T.perm perm4.symm ?_
        have hGn10 : GrowS 9 1 (.slice An9 ((namesN op x.name).length + 1) cn9) (namesN op x.name ++ [word6 x.name]).length (strsC (namesN op x.name ++ [word6 x.name])) Gn9 := by
          rw [List.length_append, strsC_app]
          exact hGn9
        exact T.backW 0 (by omega) ⟨_, _, _, _, _, _, _, _, _, e, hX8, hGn10, hGa6, hal, fun i a r h1 h2 => (hrow7 i a r h1 h2).mono hX8, rfl, rfl⟩ (by repeat (first | exact Sub.nil | refine Sub.cons rfl ?_))
      by_cases o4 : x.odd = 4
      · have e : oddE x op al0 = .mk op x.num (namesN op x.name) al0 := by simp only [oddE, if_neg o1, if_neg o2, if_neg o3, if_pos o4]
        refine T.seq <| T.region <| SL.v (op_fieldAddr fa208_2 rfl) <| SL.v (op_load ty5 rfl (by repeat constructor) rfl) ?_
        refine SL.nil <| T.block <| T.seq <| T.region <| SL.v (op_eqlF rfl rfl (by omega)) ?_
        refine SL.as rfl <| SL.nil <| T.condF rfl <| T.seq <| T.region <| SL.v (op_eqlF rfl rfl (by omega)) ?_
        refine SL.as rfl <| SL.nil <| T.condF rfl <| T.seq <| T.region <| SL.v (op_eqlF rfl rfl (by omega)) ?_
        refine SL.as rfl <| SL.nil <| T.condF rfl <| T.seq <| T.region <| SL.v (op_eqlT rfl rfl (by omega)) ?_
        refine SL.as rfl <| SL.nil <| T.condT rfl <| T.region <| SL.v (op_fieldAddr fa208_3 rfl) <| SL.v (op_load ty3 rfl (by repeat constructor) rfl) ?_
        refine SL.v (op_fieldAddr fa62_1 rfl) <| SL.w (op_store ty3 rfl rfl (by repeat constructor) rfl rfl rfl) ?_
        rintro _ _ _ ⟨rfl, rfl⟩
        refine SL.nil <| T.blk ?_
        exact T.backW 0 (by omega) ⟨_, _, _, _, _, _, _, _, _, e, PMap.le_refl _, hGn5, hGa6, hal, hrow7, rfl, rfl⟩ (by repeat (first | exact Sub.nil | refine Sub.cons rfl ?_))
      by_cases o5 : x.odd = 5
      · have e : oddE x op al0 = .mk op n0 [word20 x.name] al0 := by simp only [oddE, if_neg o1, if_neg o2, if_neg o3, if_neg o4, if_pos o5, hnn]
        refine T.seq <| T.region <| SL.v (op_fieldAddr fa208_2 rfl) <| SL.v (op_load ty5 rfl (by repeat constructor) rfl) ?_
        refine SL.nil <| T.block <| T.seq <| T.region <| SL.v (op_eqlF rfl rfl (by omega)) ?_
        refine SL.as rfl <| SL.nil <| T.condF rfl <| T.seq <| T.region <| SL.v (op_eqlF rfl rfl (by omega)) ?_
        refine SL.as rfl <| SL.nil <| T.condF rfl <| T.seq <| T.region <| SL.v (op_eqlF rfl rfl (by omega)) ?_
        refine SL.as rfl <| SL.nil <| T.condF rfl <| T.seq <| T.region <| SL.v (op_eqlF rfl rfl (by omega)) ?_
        refine SL.as rfl <| SL.nil <| T.condF rfl <| T.seq <| T.region <| SL.v (op_eqlT rfl rfl (by omega)) ?_
        refine SL.as rfl <| SL.nil <| T.condT rfl <| T.region <| SL.v (op_fieldAddr fa208_1 rfl) <| SL.v (op_load ty5 rfl (by repeat constructor) rfl) ?_
        refine SL.w (op_callF en102 (vs := [_]) rfl (word20_spec g2)) ?_
        rintro _ _ X8 ⟨rfl, hX8, rfl⟩
        refine SL.w (op_buildSlice Tryz.underlying59 bs9 (qs := [(0, _)]) rfl rfl rfl rfl rfl) ?_
        rintro _ _ _ ⟨B113, rfl, rfl, rfl⟩
        refine SL.v (op_fieldAddr fa62_2 rfl) <| SL.w (op_store ty59 rfl rfl (by repeat constructor) rfl rfl rfl) ?_
        rintro _ _ _ ⟨rfl, rfl⟩
        refine SL.nil <| T.blk <| T.less (own' := _ :: _ :: _ :: _ :: _ :: (Ga6 ++ own0)) (.cons_cons _ (.cons_cons _ (.cons_cons _ (.cons_cons _ (.cons_cons _ (List.sublist_append_right Gn5 (Ga6 ++ own0))))))) ?_
        refine T.perm (List.perm_middle (l₁ := [_, _, _, _])).symm ?_
        exact T.backW 0 (by omega) ⟨_, _, _, _, _, _, _, _, _, e, hX8, grow1 rfl (by omega), hGa6, hal, fun i a r h1 h2 => (hrow7 i a r h1 h2).mono hX8, rfl, rfl⟩ (by repeat (first | exact Sub.nil | refine Sub.cons rfl ?_))
      have e : oddE x op al0 = .mk op n0 (namesN op x.name) al0 := by simp only [oddE, if_neg o1, if_neg o2, if_neg o3, if_neg o4, if_neg o5, hnn]
      refine T.seq <| T.region <| SL.v (op_fieldAddr fa208_2 rfl) <| SL.v (op_load ty5 rfl (by repeat constructor) rfl) ?_
      refine SL.nil <| T.block <| T.seq <| T.region <| SL.v (op_eqlF rfl rfl (by omega)) ?_
      refine SL.as rfl <| SL.nil <| T.condF rfl <| T.seq <| T.region <| SL.v (op_eqlF rfl rfl (by omega)) ?_
      refine SL.as rfl <| SL.nil <| T.condF rfl <| T.seq <| T.region <| SL.v (op_eqlF rfl rfl (by omega)) ?_
      refine SL.as rfl <| SL.nil <| T.condF rfl <| T.seq <| T.region <| SL.v (op_eqlF rfl rfl (by omega)) ?_
      refine SL.as rfl <| SL.nil <| T.condF rfl <| T.seq <| T.region <| SL.v (op_eqlF rfl rfl (by omega)) ?_
      refine SL.as rfl <| SL.nil <| T.condF rfl <| T.skip <| T.blk ?_
      exact T.backW 0 (by omega) ⟨_, _, _, _, _, _, _, _, _, e, PMap.le_refl _, hGn5, hGa6, hal, hrow7, rfl, rfl⟩ (by repeat (first | exact Sub.nil | refine Sub.cons rfl ?_))
    rintro _ _ _ X8 ⟨op', n', ns, al, vn, va, Gn, Ga, rs, hodd, hX8, hGn, hGa, hrsl, hrs, rfl, rfl⟩
    obtain ⟨An8, cn8, rfl⟩ := hGn.form
    obtain ⟨Aa8, ca8, rfl⟩ := hGa.form
    refine T.seq <| T.region <| SL.v (op_load ty62 rfl (by repeat constructor) rfl) ?_
    refine SL.w (op_store ty62 rfl rfl (by repeat constructor) rfl rfl rfl) ?_
    rintro _ _ _ ⟨rfl, rfl⟩
    refine SL.nil <| T.perm perm4G ?_
    refine T.pubG (own0 := _ :: _ :: _ :: _ :: (Gn ++ own0)) hGa ?_
    intro X9 hX9 hS9
    refine T.perm perm4 ?_
    refine T.pubG (own0 := _ :: _ :: _ :: _ :: own0) hGn ?_
    intro X10 hX10 hS10
    refine T.retM1S [_] _ rfl (ResIs.cell rfl ty62 (by repeat constructor) rfl) (.cons _ (.cons _ (.cons _ (.refl _)))) (List.Perm.refl _) ?_
    rw [hodd]
    have hN : RowR strC X10 (.slice An8 ns.length cn8) ns := RowR.ofG (by rw [strsC_flat]; exact hGn) (by rw [strsC_flat]; exact hS10)
    have hA : RowR rc4 X10 (.slice Aa8 rs.length ca8) rs := (RowR.ofG hGa hS9).mono hX10
    exact ⟨((((hX1.trans' hX17).trans' hX8).trans' hX9).trans' hX10), (.int .i64 (op' : Int), .int .i64 n', .slice An8 ns.length cn8, .slice Aa8 rs.length ca8), A6, cp6, rfl, .mk hN hA hrsl (fun i a r h1 h2 => ((hrs i a r h1 h2).mono hX9).mono hX10), rfl, (((hb6.mono hX7).mono hX8).mono hX9).mono hX10⟩
/-- Build. -/
theorem built_spec {X : PMap} {v : Value} {l : List Nd} (h : RowR ndC X v l) (hok : ∀ x ∈ l, ndOk x) : Spec Tryz.prog 23 [v] X fun u X' => ∃ r : Row4, u = .agg #[r.1, r.2.1, r.2.2.1, r.2.2.2] ∧ ExR .i64 X' (builtE l) r := by
  obtain ⟨A, cp, rfl⟩ := h.form
  have hok2 : ∀ x ∈ l.take 60, ndOk x := fun x hx => hok x (List.mem_of_mem_take hx)
  by_cases hc : 60 < l.length
  · have ht := h.take (sz := 4) (k := 60) (by omega)
    have hcap := h.cap (by omega)
    have e60 : (l.take 60).length = 60 := by rw [List.length_take]; omega
    have hb := fun (b : Nat) => build_spec 11 (b := b) (A := slA A cp 0 4) (cp := cp) (l := l.take 60) (by rw [e60]; exact ht) hok2 (by omega)
    rw [e60] at hb
    refine Spec.enter Tryz.func23 rfl Tryz.ntmps23 rfl ?_
    intro w0 hw0
    refine T.seq <| T.region <| SL.w (op_alloc z62) ?_
    rintro _ _ _ ⟨B2, rfl, rfl, rfl⟩
    refine SL.nil <| T.seq <| T.seq <| T.region <| SL.mv rfl <| SL.v (op_lenS Tryz.underlying57 rfl) <| SL.v (op_gtrT rfl rfl (by omega)) ?_
    refine SL.nil <| T.condT rfl <| T.region <| SL.mv rfl <| SL.v (op_sliceHi (l := 60) Tryz.underlying57 ty208 rfl rfl (by omega)) ?_
    refine SL.as rfl <| SL.nil <| T.seq <| T.region <| SL.mv rfl <| SL.v (op_build st145 (qs := [(0, _)]) rfl rfl) <| SL.w (op_box rfl) ?_
    rintro _ _ _ ⟨B11, rfl, rfl, rfl⟩
    refine SL.as rfl <| SL.nil <| T.seq <| T.region <| SL.mv rfl <| SL.w (op_callM en71 (vs := [_, _]) rfl (hb _) rfl) ?_
    rintro _ _ X1 ⟨_, rfl, hX1, r, A1, cp1, rfl, hr, rfl, _⟩
    obtain ⟨_, _, _, _, _, _, _, _, rfl⟩ := hr.form
    refine SL.w (op_store ty62 rfl rfl (by repeat constructor) rfl rfl rfl) ?_
    rintro _ _ _ ⟨rfl, rfl⟩
    refine SL.nil <| T.ret1 rfl (ResIs.cell rfl ty62 (by repeat constructor) rfl) ?_
    exact ⟨_, rfl, hr⟩
  · have hb := fun (b : Nat) => build_spec 11 (b := b) h hok (by omega)
    have e : l.take 60 = l := List.take_of_length_le (by omega)
    refine Spec.enter Tryz.func23 rfl Tryz.ntmps23 rfl ?_
    intro w0 hw0
    refine T.seq <| T.region <| SL.w (op_alloc z62) ?_
    rintro _ _ _ ⟨B2, rfl, rfl, rfl⟩
    refine SL.nil <| T.seq <| T.seq <| T.region <| SL.mv rfl <| SL.v (op_lenS Tryz.underlying57 rfl) <| SL.v (op_gtrF rfl rfl (by omega)) ?_
    refine SL.nil <| T.condF rfl <| T.skip <| T.seq <| T.region <| SL.mv rfl <| SL.v (op_build st145 (qs := [(0, _)]) rfl rfl) <| SL.w (op_box rfl) ?_
    rintro _ _ _ ⟨B11, rfl, rfl, rfl⟩
    refine SL.as rfl <| SL.nil <| T.seq <| T.region <| SL.mv rfl <| SL.w (op_callM en71 (vs := [_, _]) rfl (hb _) rfl) ?_
    rintro _ _ X1 ⟨_, rfl, hX1, r, A1, cp1, rfl, hr, rfl, _⟩
    obtain ⟨_, _, _, _, _, _, _, _, rfl⟩ := hr.form
    refine SL.w (op_store ty62 rfl rfl (by repeat constructor) rfl rfl rfl) ?_
    rintro _ _ _ ⟨rfl, rfl⟩
    refine SL.nil <| T.ret1 rfl (ResIs.cell rfl ty62 (by repeat constructor) rfl) ?_
    exact ⟨_, rfl, by rw [builtE, e]; exact hr⟩
end Go.Proofs.YtnpcilglilfajaaGreatDoor
namespace Go.Proofs.YtnpcilglilfajaaGreatDoor
section
set_option maxRecDepth 100000
theorem bs70 : ∃ i z, Tryz.prog.info? 70 = some i ∧ i.size = 4 ∧ i.zero = some z ∧ z.cells = ([.int .u8 0, .int .i64 0, .slice none 0 0, .slice none 0 0] : List Value).toArray := bs_of (by kernel_rfl)
theorem en26 : Enters Tryz.prog 26 := enters_mk Tryz.func26 (by kernel_rfl) rfl
theorem sl68 : SlT Tryz.prog 68 70 4 64 := ⟨Tryz.underlying68, sl_of (by kernel_rfl) (by decide)⟩
end
open Go.RowKit
mutual
def opsE : Ex → Prop
  | .mk op _ _ al => op < 256 ∧ opsL al
def opsL : List Ex → Prop
  | [] => True
  | a :: al => opsE a ∧ opsL al
end
theorem opsL_mem {a : Ex} : ∀ {l : List Ex}, opsL l → a ∈ l → opsE a
  | x :: l, h, hm => by
    rw [opsL] at h
    rcases List.mem_cons.1 hm with rfl | hm
    · exact h.1
    · exact opsL_mem h.2 hm
theorem opsL_app : ∀ {l m : List Ex}, opsL l → opsL m → opsL (l ++ m)
  | [], _, _, h => h
  | x :: l, m, h1, h2 => by rw [opsL] at h1; exact (show opsE x ∧ opsL (l ++ m) from ⟨h1.1, opsL_app h1.2 h2⟩)
theorem opN_lt {d op : Nat} (h : op < 256) : opN d op < 256 := by unfold opN; split <;> omega
theorem oddE_ops {x : Nd} {op : Nat} {al : List Ex} (h : op < 256) (ha : opsL al) : opsE (oddE x op al) := by
  simp only [oddE]
  split
  · exact ⟨h, opsL_app ha ⟨⟨by omega, trivial⟩, trivial⟩⟩
  · split
    · exact ⟨h, trivial⟩
    · split
      · exact ⟨h, ha⟩
      · split
        · exact ⟨h, ha⟩
        · split <;> exact ⟨h, ha⟩
theorem manyN_ops {f : List Nd → Ex × List Nd} (hf : ∀ l, (∀ x ∈ l, ndOk x) → opsE (f l).1 ∧ ∀ x ∈ (f l).2, ndOk x) {l : List Nd} (h : ∀ x ∈ l, ndOk x) : ∀ k, opsL (manyN f k l).1 ∧ ∀ x ∈ (manyN f k l).2, ndOk x
  | 0 => ⟨trivial, h⟩
  | k + 1 => by
    obtain ⟨h1, h2⟩ := manyN_ops hf h k
    obtain ⟨h3, h4⟩ := hf _ h2
    exact ⟨opsL_app h1 ⟨h3, trivial⟩, h4⟩
theorem build_ops : ∀ (d : Nat) (l : List Nd), (∀ x ∈ l, ndOk x) → opsE (buildE d l).1 ∧ ∀ x ∈ (buildE d l).2, ndOk x
  | 0, l, h => ⟨oddE_ops (opN_lt (takeN_ok h).1.1) trivial, (takeN_ok h).2⟩
  | d + 1, l, h => by
    obtain ⟨h1, h2⟩ := manyN_ops (build_ops d) (takeN_ok h).2 (argN (takeN l).1.op)
    exact ⟨oddE_ops (opN_lt (takeN_ok h).1.1) h1, h2⟩
theorem built_ops {l : List Nd} (h : ∀ x ∈ l, ndOk x) : opsE (builtE l) := (build_ops 11 _ fun x hx => h x (List.mem_of_mem_take hx)).1
abbrev S3 (b : Nat) (op : Nat) (n : Int) (vn va : Value) : Ow := ⟨b, [.int .u8 (op : Int), .int .i64 n, vn, va], 70, 4⟩
theorem expr_spec (N : Nat) : ∀ {X : PMap} {e : Ex} {r : Row4}, wtE e ≤ N → N < 100000000 → opsE e → ExR .i64 X e r → Spec Tryz.prog 26 [.agg #[r.1, r.2.1, r.2.2.1, r.2.2.2]] X fun u X' => ∃ r' : Row4, u = .agg #[r'.1, r'.2.1, r'.2.2.1, r'.2.2.2] ∧ ExR .u8 X' e r' := by
  induction N with
  | zero => intro X e r h; cases e; rw [wtE] at h; omega
  | succ N ih =>
    intro X e r hN hB hops h
    have hmx : maxLen = 9223372036854775807 := rfl
    cases h with
    | @mk op n ns al vn va rows hn ha hl hr =>
    obtain ⟨Aa, ca, rfl⟩ := ha.form
    obtain ⟨An, cn, rfl⟩ := hn.form
    have hlen := wtL_len al
    have hnl := wtS_len ns
    rw [wtE] at hN
    obtain ⟨hop, hops2⟩ : op < 256 ∧ opsL al := hops
    have hsrc := fun (own : Own) => Src.ofRow (own := own) strC_len hn
    simp only [strsC_flat] at hsrc
    refine Spec.enter Tryz.func26 rfl Tryz.ntmps26 rfl ?_
    intro w0 hw0
    refine T.seq <| T.region <| SL.w (op_box rfl) ?_
    rintro _ _ _ ⟨B1, rfl, rfl, rfl⟩
    refine SL.w (op_alloc z70) ?_
    rintro _ _ _ ⟨B2, rfl, rfl, rfl⟩
    refine SL.nil <| T.seq <| T.draw (by kernel_rfl) 11 [.t 0, .t 1, .t 2, .t 3, .t 4, .t 6, .t 7, .g 5 8 9 10] (by kernel_rfl) ?_
    refine SD.take rfl panicBody (op_fieldAddr fa62_0 rfl) rfl rfl ?_
    refine SD.take rfl panicBody (op_load ty3 rfl (by repeat constructor) rfl) rfl rfl ?_
    refine SD.take rfl panicBody (op_convU8 Tryz.underlying3 Tryz.underlying33 rfl (by omega) (by omega)) rfl rfl ?_
    refine SD.take rfl panicBody (op_fieldAddr fa62_1 rfl) rfl rfl ?_
    refine SD.take rfl panicBody (op_load ty3 rfl (by repeat constructor) rfl) rfl rfl ?_
    refine SD.take rfl panicBody (op_fieldAddr fa62_2 rfl) rfl rfl ?_
    refine SD.take rfl panicBody (op_load ty59 rfl (by repeat constructor) rfl) rfl rfl ?_
    refine SD.fork3 rfl rfl rfl rfl rfl rfl (K := (fun _ vj vk own' X' => ∃ (b1 c1 b3 : Nat), vj = .slice (some ⟨b1, 0, none⟩) ns.length c1 ∧ vk = .pointer (some ⟨b3, 0, none⟩) ∧ own' = [⟨b3, [.int .u8 0, .int .i64 0, .slice none 0 0, .slice none 0 0], 70, 4⟩, ⟨b1, strsC ns, 9, c1 * 1⟩, ⟨B2, [.int .u8 0, .int .i64 0, .slice none 0 0, .slice none 0 0], 70, 4⟩, ⟨B1, [.int .i64 (op : Int), .int .i64 n, .slice An ns.length cn, .slice Aa rows.length ca], 62, 4⟩] ∧ X = X' ∧ ns.length ≤ c1 ∧ c1 ≤ maxLen)) (vp := (fun _ vj => .agg #[.int .u8 (op : Int), .int .i64 n, vj, .slice none 0 0])) ((op_build0 (size := 1) Tryz.underlying59 bs9 rfl).mono fun _ _ _ h => (by obtain ⟨b0, rfl, rfl, rfl⟩ := h; exact ⟨⟨fun p hp => List.mem_cons_of_mem _ hp, PMap.le_refl _⟩, (op_append0 (size := 1) sl59 rfl rfl AtO.here (hsrc _) (strsC_one ns) (by omega) (by omega)).mono fun _ _ _ h => (by obtain ⟨b1, c1, rfl, rfl, rfl, h1, h2⟩ := h; exact ⟨⟨fun p hp => List.mem_cons_of_mem _ hp, PMap.le_refl _⟩, op_build st70 (qs := [(0, _), (1, _), (2, _)]) rfl rfl, (op_alloc z70).mono fun _ _ _ h => (by obtain ⟨b3, rfl, rfl, rfl⟩ := h; exact ⟨⟨fun p hp => List.mem_cons_of_mem _ (List.mem_cons_of_mem _ hp), PMap.le_refl _⟩, _, .refl _, b1, c1, b3, rfl, rfl, rfl, rfl, h1, h2⟩), (op_alloc z70).mono fun _ _ _ h => (by obtain ⟨b3, rfl, rfl, rfl⟩ := h; exact ⟨⟨fun p hp => List.mem_cons_of_mem _ (List.mem_cons_of_mem _ hp), PMap.le_refl _⟩, _, .refl _, b1, c1, b3, rfl, rfl, rfl, rfl, h1, h2⟩)⟩), (op_alloc z70).mono fun _ _ _ h => (by obtain ⟨b3, rfl, rfl, rfl⟩ := h; exact ⟨⟨fun p hp => List.mem_cons_of_mem _ (List.mem_cons_of_mem _ hp), PMap.le_refl _⟩, (op_append0 (size := 1) sl59 rfl rfl (AtO.there AtO.here) (hsrc _) (strsC_one ns) (by omega) (by omega)).mono fun _ _ _ h => (by obtain ⟨b1, c1, rfl, rfl, rfl, h1, h2⟩ := h; exact ⟨⟨fun p hp => List.mem_cons_of_mem _ (List.mem_cons_of_mem _ hp), PMap.le_refl _⟩, _, .refl _, b1, c1, b3, rfl, rfl, rfl, rfl, h1, h2⟩)⟩)⟩)) ((op_alloc z70).mono fun _ _ _ h => (by obtain ⟨b3, rfl, rfl, rfl⟩ := h; exact ⟨⟨fun p hp => List.mem_cons_of_mem _ hp, PMap.le_refl _⟩, (op_build0 (size := 1) Tryz.underlying59 bs9 rfl).mono fun _ _ _ h => (by obtain ⟨b0, rfl, rfl, rfl⟩ := h; exact ⟨⟨fun p hp => List.mem_cons_of_mem _ (List.mem_cons_of_mem _ hp), PMap.le_refl _⟩, (op_append0 (size := 1) sl59 rfl rfl AtO.here (hsrc _) (strsC_one ns) (by omega) (by omega)).mono fun _ _ _ h => (by obtain ⟨b1, c1, rfl, rfl, rfl, h1, h2⟩ := h; exact ⟨⟨fun p hp => List.mem_cons_of_mem _ (List.mem_cons_of_mem _ hp), PMap.le_refl _⟩, _, .swap _ _ _, b1, c1, b3, rfl, rfl, rfl, rfl, h1, h2⟩)⟩)⟩)) (fun vi vj vk _ _ h => (by obtain ⟨b1, c1, b3, rfl, rfl, rfl, rfl, h1, h2⟩ := h; exact op_build st70 (qs := [(0, _), (1, _), (2, _)]) rfl rfl)) ?_
    rintro _ _ _ _ _ ⟨b1, c1, b3, rfl, rfl, rfl, rfl, hc1, hc2⟩
    refine SD.nil ?_
    show SL _ _ _ _ _ _ _ [_] _ _ _
    refine SL.w (op_store ty70 rfl rfl (by repeat constructor) rfl rfl rfl) ?_
    rintro _ _ _ ⟨rfl, rfl⟩
    refine SL.nil <| T.seq <| T.seq <| T.region <| SL.v (op_fieldAddr fa62_3 rfl) <| SL.v (op_load ty60 rfl (by repeat constructor) rfl) ?_
    refine SL.v (op_lenS Tryz.underlying60 rfl) <| SL.v (op_move (v := .int .i64 ((0 : Nat) : Int)) rfl) <| SL.nil <| T.block <| T.pub b1 (by repeat constructor) ?_
    intro Y1 hY1 hB1 _
    have hN : RowR strC Y1 (.slice (some ⟨b1, 0, none⟩) ns.length c1) ns := by
      rcases Nat.eq_zero_or_pos ns.length with h0 | h0
      · exact .inl ⟨List.eq_nil_of_length_eq_zero h0, _, _, by rw [h0]⟩
      · exact .inr ⟨h0, b1, c1, [], rfl, by rw [strsC_flat]; exact hB1, hc1, hc2⟩
    generalize Value.slice (some ⟨b1, 0, none⟩) ns.length c1 = vn at *
    obtain ⟨An1, cn1, rfl⟩ := hN.form
    refine T.drop B1 (by repeat constructor) ?_
    refine T.loopW (fun m env own X' => ∃ (i : Nat) (va : Value) (Ga : Own) (rs : List Row4), m = rows.length - i ∧ i ≤ rows.length ∧ Y1.le X' ∧ rs.length = i ∧ GrowS 70 4 va rs.length (rs.map rc4).flatten Ga ∧ (∀ (q : Nat) (a : Ex) (r : Row4), al[q]? = some a → rs[q]? = some r → ExR .u8 X' a r) ∧ env = [(2, .pointer (some ⟨B2, 0, none⟩)), (3, .pointer (some ⟨b3, 0, none⟩)), (17, .slice Aa rows.length ca), (18, .int .i64 (rows.length : Int)), (19, .int .i64 (i : Int))] ∧ own = S3 b3 op n (.slice An1 ns.length cn1) va :: S3 B2 0 0 (.slice none 0 0) (.slice none 0 0) :: Ga) rows.length ⟨0, _, [], [], by simp, by omega, PMap.le_refl _, rfl, GrowS.nil, fun q a r _ h => by simp at h, rfl, rfl⟩ (by repeat (first | exact Sub.nil | refine Sub.cons rfl ?_)) ?_
    rintro m _ _ X1 ⟨i, va, Ga, rs, rfl, hi, hX1, hrsl, hGa, hrs, rfl, rfl⟩
    rcases Nat.lt_or_ge i rows.length with hil | hil
    · obtain ⟨r2, hr2⟩ : ∃ r2, rows[i]? = some r2 := ⟨_, List.getElem?_eq_getElem hil⟩
      obtain ⟨a, ha2⟩ : ∃ a, al[i]? = some a := ⟨_, List.getElem?_eq_getElem (by omega)⟩
      have hra := hr i a r2 ha2 hr2
      obtain ⟨bA, pre, rfl, hbA⟩ := ha.blk (by omega)
      obtain ⟨_, _, _, _, _, _, _, _, rfl⟩ := hra.form
      have hma := List.mem_of_getElem? ha2
      have hwa := wtL_mem hma
      refine T.seq <| T.region <| SL.v (op_lssT rfl rfl (by omega)) ?_
      refine SL.nil <| T.seq <| T.condT rfl <| T.skip <| T.seq <| T.block <| T.seq <| T.region <| SL.v (op_indexN Tryz.underlying60 ty62 rfl rfl (by omega)) ?_
      refine SL.v (op_loadX ty62 rfl ((hbA.mono hY1).mono hX1) (row_read rc4_len hr2 (by omega))) ?_
      refine SL.w (op_alloc z62) ?_
      rintro _ _ _ ⟨B5, rfl, rfl, rfl⟩
      refine SL.w (op_store ty62 rfl rfl (by repeat constructor) rfl rfl rfl) ?_
      rintro _ _ _ ⟨rfl, rfl⟩
      refine SL.nil <| T.drawG (own0 := [_, _, _]) (by kernel_rfl) 5 [.t 0, .t 1, .t 2, .r 3, .r 4] (by kernel_rfl) ?_
      refine SD.take rfl panicBody (op_fieldAddr fa70_3 rfl) rfl rfl ?_
      refine SD.take rfl panicBody (op_load ty68 rfl (by repeat constructor) rfl) rfl rfl ?_
      refine SD.take rfl panicBody (op_load ty62 rfl (by repeat constructor) rfl) rfl rfl ?_
      refine SD.run rfl (op_callF en26 (vs := [_]) rfl (ih (by omega) (by omega) (opsL_mem hops2 hma) ((hra.mono hY1).mono hX1))) rfl rfl ?_
      rintro _ _ X2 ⟨rfl, hX2, r8, rfl, hr8⟩
      obtain ⟨o8, n8, a8, b8, l8, c8, l9, c9, rfl⟩ := hr8.form
      refine SD.run rfl (op_buildSlice Tryz.underlying68 bs70 (qs := [(0, _)]) rfl rfl rfl rfl rfl) rfl rfl ?_
      rintro _ _ _ ⟨B27, rfl, rfl, rfl⟩
      refine SD.nil ?_
      show SL _ _ _ _ _ _ _ [_, _, _] _ _ _
      refine SL.w (op_appendGA (own0 := [_, _, _, _]) (m := 1) sl68 rfl hGa rfl (Src.ofOwn0 AtO.here rfl) (by intro y hy; have hy : y ∈ [Value.int _ _, Value.int _ _, Value.slice _ _ _, Value.slice _ _ _] := hy; simp only [List.mem_cons, List.not_mem_nil, or_false] at hy; rcases hy with rfl | rfl | rfl | rfl <;> rfl) (by omega) (by omega)) ?_
      rintro va9 _ _ ⟨Ga9, rfl, rfl, hGa9⟩
      obtain ⟨Aa9, ca9, rfl⟩ := hGa9.form
      refine SL.v (op_fieldAddr fa70_3 rfl) <| SL.w (op_store ty68 rfl rfl (by repeat constructor) rfl rfl rfl) ?_
      rintro _ _ _ ⟨rfl, rfl⟩
      refine SL.nil <| T.blk <| T.region <| SL.v (op_addN (q := 1) rfl rfl (by omega)) ?_
      refine SL.mv rfl <| SL.nil <| T.less (List.sublist_cons_self _ _) ?_
      refine T.less (List.sublist_cons_self _ _) ?_
      have hGa10 : GrowS 70 4 (.slice Aa9 (rs.length + 1) ca9) (rs ++ [((.int .u8 (o8 : Int), .int .i64 n8, .slice a8 l8 c8, .slice b8 l9 c9) : Row4)]).length (((rs ++ [((.int .u8 (o8 : Int), .int .i64 n8, .slice a8 l8 c8, .slice b8 l9 c9) : Row4)]).map rc4).flatten) Ga9 := by
        rw [List.length_append, List.map_append, List.flatten_append]
        exact hGa9
      have hrows2 : ∀ (q : Nat) (a : Ex) (r : Row4), al[q]? = some a → (rs ++ [((.int .u8 (o8 : Int), .int .i64 n8, .slice a8 l8 c8, .slice b8 l9 c9) : Row4)])[q]? = some r → ExR .u8 X2 a r := by
        intro q a' r hq hr'
        rcases Nat.lt_or_ge q i with hik | hik
        · rw [List.getElem?_append_left (by omega)] at hr'
          exact (hrs q a' r hq hr').mono hX2
        · have hik2 : q = i := by
            have := (List.getElem?_eq_some_iff.1 hr').1
            rw [List.length_append] at this; simp at this; omega
          subst hik2
          rw [List.getElem?_append_right (by omega), hrsl, Nat.sub_self] at hr'
          simp only [List.getElem?_cons_zero, Option.some.injEq] at hr'
          rw [ha2] at hq
          cases hq
          subst hr'
          exact hr8
      exact T.backW (rows.length - (i + 1)) (by omega) ⟨i + 1, _, _, rs ++ [(.int .u8 (o8 : Int), .int .i64 n8, .slice a8 l8 c8, .slice b8 l9 c9)], rfl, by omega, hX1.trans' hX2, by rw [List.length_append, hrsl]; rfl, hGa10, hrows2, rfl, rfl⟩ (by repeat (first | exact Sub.nil | refine Sub.cons rfl ?_))
    · obtain rfl : i = rows.length := by omega
      obtain ⟨Aa8, ca8, rfl⟩ := hGa.form
      refine T.seq <| T.region <| SL.v (op_lssF rfl rfl (by omega)) ?_
      refine SL.nil <| T.seq <| T.condF rfl ?_
      refine T.exit (T.exitCode (T.exitCut (T.exitBlk ?_)))
      refine T.seq <| T.region <| SL.v (op_load ty70 rfl (by repeat constructor) rfl) ?_
      refine SL.w (op_store ty70 rfl rfl (by repeat constructor) rfl rfl rfl) ?_
      rintro _ _ _ ⟨rfl, rfl⟩
      refine SL.nil <| T.pubG (own0 := [_, _]) hGa ?_
      intro X9 hX9 hS9
      refine T.ret1 rfl (ResIs.cell rfl ty70 (by repeat constructor) rfl) ?_
      have hA : RowR rc4 X9 (.slice Aa8 rs.length ca8) rs := RowR.ofG hGa hS9
      exact ⟨(.int .u8 (op : Int), .int .i64 n, .slice An1 ns.length cn1, .slice Aa8 rs.length ca8), rfl, .mk ((hN.mono hX1).mono hX9) hA (hrsl.trans hl) (fun q a r h1 h2 => (hrs q a r h1 h2).mono hX9)⟩
end Go.Proofs.YtnpcilglilfajaaGreatDoor
