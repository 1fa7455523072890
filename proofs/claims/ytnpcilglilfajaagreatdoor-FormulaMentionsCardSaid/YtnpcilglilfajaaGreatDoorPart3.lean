/- What the law's proof rests on: the engine, a small separation logic over the kit's walk, and contracts of the functions that the law reaches. Part 3. -/
import Derived.Lib.MakeNoZero
import Derived.Laws.IdiomStrings
import Derived.Test.YtnpcilglilfajaaGreatDoorProg
import Derived.WalkKit
import Derived.OpenShut
import Derived.Lib.SmallJoins
import Derived.Laws.IdiomArrays
import Derived.ChangeArms
import Derived.Laws.Externs
import Derived.MapKept
import Derived.Test.YtnpcilglilfajaaGreatDoorPart1
import Derived.Test.YtnpcilglilfajaaGreatDoorPart2
namespace Go.Proofs.YtnpcilglilfajaaGreatDoor
section
set_option maxRecDepth 100000
theorem en123 : Enters Tryz.prog 123 := enters_mk Tryz.func123 (by kernel_rfl) rfl
theorem en163 : Enters Tryz.prog 163 := enters_mk Tryz.func163 (by kernel_rfl) rfl
theorem en164 : Enters Tryz.prog 164 := enters_mk Tryz.func164 (by kernel_rfl) rfl
theorem en165 : Enters Tryz.prog 165 := enters_mk Tryz.func165 (by kernel_rfl) rfl
theorem en166 : Enters Tryz.prog 166 := enters_mk Tryz.func166 (by kernel_rfl) rfl
theorem en193 : Enters Tryz.prog 193 := enters_mk Tryz.func193 (by kernel_rfl) rfl
theorem en35 : Enters Tryz.prog 35 := enters_mk Tryz.func35 (by kernel_rfl) rfl
theorem en94 : Enters Tryz.prog 94 := enters_mk Tryz.func94 (by kernel_rfl) rfl
theorem fa70_0 : FAdr Tryz.prog 70 0 0 := fadr_mk Tryz.underlying70 rfl rfl (by kernel_rfl)
theorem fa70_1 : FAdr Tryz.prog 70 1 1 := fadr_mk Tryz.underlying70 rfl rfl (by kernel_rfl)
theorem st70 : StT Tryz.prog 70 [(0, 1), (1, 1), (2, 1), (3, 1)] [.int .u8 0, .int .i64 0, .slice none 0 0, .slice none 0 0] := ⟨⟨_, Tryz.underlying70, fun _ => by kernel_rfl, z70⟩⟩
theorem ty33 : Ty Tryz.prog 33 false 1 := ⟨⟨_, Tryz.underlying33, rfl⟩, by kernel_rfl⟩
end
open Go.RowKit
section
variable {op k : Nat} {n : Int} {ns : List ByteArray}
theorem own1 (h : op < 1 ∨ 16 < op ∨ k ≠ argN op) : ownE op n ns k = 1 := by rw [ownE, if_pos h]
theorem own6 (h : ¬(op < 1 ∨ 16 < op ∨ k ≠ argN op)) (h2 : (n ≠ 0 ∧ op ≠ 1) ∨ ¬namN op ns.length) : ownE op n ns k = 6 := by rw [ownE, if_neg h, if_pos h2]
theorem own9 (h : ¬(op < 1 ∨ 16 < op ∨ k ≠ argN op)) (h2 : ¬((n ≠ 0 ∧ op ≠ 1) ∨ ¬namN op ns.length)) (h3 : ¬∀ s ∈ ns, validS s) : ownE op n ns k = 9 := by rw [ownE, if_neg h, if_neg h2, if_pos h3]
theorem own5 (h : ¬(op < 1 ∨ 16 < op ∨ k ≠ argN op)) (h2 : ¬((n ≠ 0 ∧ op ≠ 1) ∨ ¬namN op ns.length)) (h3 : ∀ s ∈ ns, validS s) (h4 : ¬ns.Nodup) : ownE op n ns k = 5 := by rw [ownE, if_neg h, if_neg h2, if_neg fun h => h h3, if_pos h4]
theorem own2 (h : ¬(op < 1 ∨ 16 < op ∨ k ≠ argN op)) (h2 : ¬((n ≠ 0 ∧ op ≠ 1) ∨ ¬namN op ns.length)) (h3 : ∀ s ∈ ns, validS s) (h4 : ns.Nodup) (h5 : n < 0 ∨ 999999 < n) : ownE op n ns k = 2 := by rw [ownE, if_neg h, if_neg h2, if_neg fun h => h h3, if_neg fun h => h h4, if_pos h5]
theorem own0' (h : ¬(op < 1 ∨ 16 < op ∨ k ≠ argN op)) (h2 : ¬((n ≠ 0 ∧ op ≠ 1) ∨ ¬namN op ns.length)) (h3 : ∀ s ∈ ns, validS s) (h4 : ns.Nodup) (h5 : ¬(n < 0 ∨ 999999 < n)) : ownE op n ns k = 0 := by rw [ownE, if_neg h, if_neg h2, if_neg fun h => h h3, if_neg fun h => h h4, if_neg h5]
theorem nodup_small (h : ns.length ≤ 1) : ns.Nodup := by
  match ns, h with
  | [], _ => exact List.nodup_nil
  | [a], _ => simp
theorem node_own {al : List Ex} (h : ownE op n ns al.length ≠ 0) : nodeE (.mk op n ns al) = ownE op n ns al.length := by rw [nodeE, if_pos h]
theorem node_args {al : List Ex} (h : ownE op n ns al.length = 0) : nodeE (.mk op n ns al) = nodeL al := by rw [nodeE, if_neg (by simp [h])]
end
theorem argN_spec {X : PMap} {op : Nat} : Spec Tryz.prog 163 [.int .u8 (op : Int)] X fun u _ => u = .int .i64 (argN op : Int) := by
  by_cases h1 : op < 7
  · refine Spec.enter Tryz.func163 rfl Tryz.ntmps163 rfl ?_
    intro w0 hw0
    refine T.seq <| T.region <| SL.v (op_assign (v := .int .i64 ((0 : Nat) : Int)) rfl) <| SL.nil <| T.seq <| T.block <| T.seq <| T.region <| SL.mv rfl <| SL.v (op_lssT rfl rfl (by omega)) ?_
    refine SL.as rfl <| SL.nil <| T.condT rfl <| T.seq <| T.region <| SL.v (op_assign (v := .int .i64 ((0 : Nat) : Int)) rfl) <| SL.nil <| T.ret1 rfl (ResIs.tmp rfl) ?_
    rw [argN, if_pos h1]
  · by_cases h2 : op = 7
    · refine Spec.enter Tryz.func163 rfl Tryz.ntmps163 rfl ?_
      intro w0 hw0
      refine T.seq <| T.region <| SL.v (op_assign (v := .int .i64 ((0 : Nat) : Int)) rfl) <| SL.nil <| T.seq <| T.block <| T.seq <| T.region <| SL.mv rfl <| SL.v (op_lssF rfl rfl (by omega)) ?_
      refine SL.as rfl <| SL.nil <| T.condF rfl <| T.seq <| T.region <| SL.mv rfl <| SL.v (op_eqlT rfl rfl (by omega)) ?_
      refine SL.as rfl <| SL.nil <| T.condT rfl <| T.seq <| T.region <| SL.v (op_assign (v := .int .i64 ((1 : Nat) : Int)) rfl) <| SL.nil <| T.ret1 rfl (ResIs.tmp rfl) ?_
      rw [argN, if_neg h1, if_pos h2]
    · refine Spec.enter Tryz.func163 rfl Tryz.ntmps163 rfl ?_
      intro w0 hw0
      refine T.seq <| T.region <| SL.v (op_assign (v := .int .i64 ((0 : Nat) : Int)) rfl) <| SL.nil <| T.seq <| T.block <| T.seq <| T.region <| SL.mv rfl <| SL.v (op_lssF rfl rfl (by omega)) ?_
      refine SL.as rfl <| SL.nil <| T.condF rfl <| T.seq <| T.region <| SL.mv rfl <| SL.v (op_eqlF rfl rfl (by omega)) ?_
      refine SL.as rfl <| SL.nil <| T.condF rfl <| T.skip <| T.blk <| T.seq <| T.region <| SL.v (op_assign (v := .int .i64 ((2 : Nat) : Int)) rfl) <| SL.nil <| T.ret1 rfl (ResIs.tmp rfl) ?_
      rw [argN, if_neg h1, if_neg h2]
theorem named_spec {X : PMap} {op : Nat} {n : Int} {A B : Option Addr} {k c l c' : Nat} (hk : k < 1000000000000) : Spec Tryz.prog 164 [.agg #[.int .u8 (op : Int), .int .i64 n, .slice A k c, .slice B l c']] X fun u _ => u = .bool (decide (namN op k)) := by
  by_cases h4 : op = 4
  · have e : namN op k ↔ k = 1 := by simp [namN, h4]
    by_cases hk1 : k = 1
    · refine Spec.enter Tryz.func164 rfl Tryz.ntmps164 rfl ?_
      intro w0 hw0
      refine T.seq <| T.region <| SL.w (op_box rfl) ?_
      rintro _ _ _ ⟨B1, rfl, rfl, rfl⟩
      refine SL.as rfl <| SL.nil <| T.seq <| T.region <| SL.v (op_fieldAddr fa70_2 rfl) <| SL.v (op_load ty59 rfl (by repeat constructor) rfl) ?_
      refine SL.v (op_lenS Tryz.underlying59 rfl) <| SL.as rfl <| SL.nil <| T.seq <| T.seq <| T.region <| SL.v (op_fieldAddr fa70_0 rfl) <| SL.v (op_load ty33 rfl (by repeat constructor) rfl) ?_
      refine SL.nil <| T.block <| T.seq <| T.seq <| T.region <| SL.v (op_eqlT rfl rfl (by omega)) ?_
      refine SL.as rfl <| SL.nil <| T.condT rfl <| T.skip <| T.condT rfl <| T.seq <| T.region <| SL.mv rfl <| SL.v (op_eqlT rfl rfl (by omega)) ?_
      refine SL.as rfl <| SL.nil <| T.ret1 rfl (ResIs.tmp rfl) ?_
      rw [decide_eq_true (e.2 hk1)]
    · refine Spec.enter Tryz.func164 rfl Tryz.ntmps164 rfl ?_
      intro w0 hw0
      refine T.seq <| T.region <| SL.w (op_box rfl) ?_
      rintro _ _ _ ⟨B1, rfl, rfl, rfl⟩
      refine SL.as rfl <| SL.nil <| T.seq <| T.region <| SL.v (op_fieldAddr fa70_2 rfl) <| SL.v (op_load ty59 rfl (by repeat constructor) rfl) ?_
      refine SL.v (op_lenS Tryz.underlying59 rfl) <| SL.as rfl <| SL.nil <| T.seq <| T.seq <| T.region <| SL.v (op_fieldAddr fa70_0 rfl) <| SL.v (op_load ty33 rfl (by repeat constructor) rfl) ?_
      refine SL.nil <| T.block <| T.seq <| T.seq <| T.region <| SL.v (op_eqlT rfl rfl (by omega)) ?_
      refine SL.as rfl <| SL.nil <| T.condT rfl <| T.skip <| T.condT rfl <| T.seq <| T.region <| SL.mv rfl <| SL.v (op_eqlF rfl rfl (by omega)) ?_
      refine SL.as rfl <| SL.nil <| T.ret1 rfl (ResIs.tmp rfl) ?_
      rw [decide_eq_false fun h => hk1 (e.1 h)]
  · by_cases h6 : op = 6
    · have e : namN op k ↔ k = 1 := by simp [namN, h6]
      by_cases hk1 : k = 1
      · refine Spec.enter Tryz.func164 rfl Tryz.ntmps164 rfl ?_
        intro w0 hw0
        refine T.seq <| T.region <| SL.w (op_box rfl) ?_
        rintro _ _ _ ⟨B1, rfl, rfl, rfl⟩
        refine SL.as rfl <| SL.nil <| T.seq <| T.region <| SL.v (op_fieldAddr fa70_2 rfl) <| SL.v (op_load ty59 rfl (by repeat constructor) rfl) ?_
        refine SL.v (op_lenS Tryz.underlying59 rfl) <| SL.as rfl <| SL.nil <| T.seq <| T.seq <| T.region <| SL.v (op_fieldAddr fa70_0 rfl) <| SL.v (op_load ty33 rfl (by repeat constructor) rfl) ?_
        refine SL.nil <| T.block <| T.seq <| T.seq <| T.region <| SL.v (op_eqlF rfl rfl (by omega)) ?_
        refine SL.as rfl <| SL.nil <| T.condF rfl <| T.region <| SL.v (op_eqlT rfl rfl (by omega)) ?_
        refine SL.as rfl <| SL.nil <| T.condT rfl <| T.seq <| T.region <| SL.mv rfl <| SL.v (op_eqlT rfl rfl (by omega)) ?_
        refine SL.as rfl <| SL.nil <| T.ret1 rfl (ResIs.tmp rfl) ?_
        rw [decide_eq_true (e.2 hk1)]
      · refine Spec.enter Tryz.func164 rfl Tryz.ntmps164 rfl ?_
        intro w0 hw0
        refine T.seq <| T.region <| SL.w (op_box rfl) ?_
        rintro _ _ _ ⟨B1, rfl, rfl, rfl⟩
        refine SL.as rfl <| SL.nil <| T.seq <| T.region <| SL.v (op_fieldAddr fa70_2 rfl) <| SL.v (op_load ty59 rfl (by repeat constructor) rfl) ?_
        refine SL.v (op_lenS Tryz.underlying59 rfl) <| SL.as rfl <| SL.nil <| T.seq <| T.seq <| T.region <| SL.v (op_fieldAddr fa70_0 rfl) <| SL.v (op_load ty33 rfl (by repeat constructor) rfl) ?_
        refine SL.nil <| T.block <| T.seq <| T.seq <| T.region <| SL.v (op_eqlF rfl rfl (by omega)) ?_
        refine SL.as rfl <| SL.nil <| T.condF rfl <| T.region <| SL.v (op_eqlT rfl rfl (by omega)) ?_
        refine SL.as rfl <| SL.nil <| T.condT rfl <| T.seq <| T.region <| SL.mv rfl <| SL.v (op_eqlF rfl rfl (by omega)) ?_
        refine SL.as rfl <| SL.nil <| T.ret1 rfl (ResIs.tmp rfl) ?_
        rw [decide_eq_false fun h => hk1 (e.1 h)]
    · by_cases h5 : op = 5
      · have e : namN op k ↔ 1 ≤ k ∧ k ≤ 8 := by simp [namN, h5]
        by_cases hk1 : 1 ≤ k
        · by_cases hk8 : k ≤ 8
          · refine Spec.enter Tryz.func164 rfl Tryz.ntmps164 rfl ?_
            intro w0 hw0
            refine T.seq <| T.region <| SL.w (op_box rfl) ?_
            rintro _ _ _ ⟨B1, rfl, rfl, rfl⟩
            refine SL.as rfl <| SL.nil <| T.seq <| T.region <| SL.v (op_fieldAddr fa70_2 rfl) <| SL.v (op_load ty59 rfl (by repeat constructor) rfl) ?_
            refine SL.v (op_lenS Tryz.underlying59 rfl) <| SL.as rfl <| SL.nil <| T.seq <| T.seq <| T.region <| SL.v (op_fieldAddr fa70_0 rfl) <| SL.v (op_load ty33 rfl (by repeat constructor) rfl) ?_
            refine SL.nil <| T.block <| T.seq <| T.seq <| T.region <| SL.v (op_eqlF rfl rfl (by omega)) ?_
            refine SL.as rfl <| SL.nil <| T.condF rfl <| T.region <| SL.v (op_eqlF rfl rfl (by omega)) ?_
            refine SL.as rfl <| SL.nil <| T.condF rfl <| T.seq <| T.region <| SL.v (op_eqlT rfl rfl (by omega)) ?_
            refine SL.as rfl <| SL.nil <| T.condT rfl <| T.seq <| T.region <| SL.mv rfl <| SL.v (op_geqT rfl rfl (by omega)) ?_
            refine SL.mv rfl <| SL.mv rfl <| SL.v (op_leqT rfl rfl (by omega)) ?_
            refine SL.v (op_pickT rfl rfl) <| SL.as rfl <| SL.nil <| T.ret1 rfl (ResIs.tmp rfl) ?_
            rw [decide_eq_true (e.2 ⟨hk1, hk8⟩)]
          · refine Spec.enter Tryz.func164 rfl Tryz.ntmps164 rfl ?_
            intro w0 hw0
            refine T.seq <| T.region <| SL.w (op_box rfl) ?_
            rintro _ _ _ ⟨B1, rfl, rfl, rfl⟩
            refine SL.as rfl <| SL.nil <| T.seq <| T.region <| SL.v (op_fieldAddr fa70_2 rfl) <| SL.v (op_load ty59 rfl (by repeat constructor) rfl) ?_
            refine SL.v (op_lenS Tryz.underlying59 rfl) <| SL.as rfl <| SL.nil <| T.seq <| T.seq <| T.region <| SL.v (op_fieldAddr fa70_0 rfl) <| SL.v (op_load ty33 rfl (by repeat constructor) rfl) ?_
            refine SL.nil <| T.block <| T.seq <| T.seq <| T.region <| SL.v (op_eqlF rfl rfl (by omega)) ?_
            refine SL.as rfl <| SL.nil <| T.condF rfl <| T.region <| SL.v (op_eqlF rfl rfl (by omega)) ?_
            refine SL.as rfl <| SL.nil <| T.condF rfl <| T.seq <| T.region <| SL.v (op_eqlT rfl rfl (by omega)) ?_
            refine SL.as rfl <| SL.nil <| T.condT rfl <| T.seq <| T.region <| SL.mv rfl <| SL.v (op_geqT rfl rfl (by omega)) ?_
            refine SL.mv rfl <| SL.mv rfl <| SL.v (op_leqF rfl rfl (by omega)) ?_
            refine SL.v (op_pickT rfl rfl) <| SL.as rfl <| SL.nil <| T.ret1 rfl (ResIs.tmp rfl) ?_
            rw [decide_eq_false fun h => hk8 (e.1 h).2]
        · refine Spec.enter Tryz.func164 rfl Tryz.ntmps164 rfl ?_
          intro w0 hw0
          refine T.seq <| T.region <| SL.w (op_box rfl) ?_
          rintro _ _ _ ⟨B1, rfl, rfl, rfl⟩
          refine SL.as rfl <| SL.nil <| T.seq <| T.region <| SL.v (op_fieldAddr fa70_2 rfl) <| SL.v (op_load ty59 rfl (by repeat constructor) rfl) ?_
          refine SL.v (op_lenS Tryz.underlying59 rfl) <| SL.as rfl <| SL.nil <| T.seq <| T.seq <| T.region <| SL.v (op_fieldAddr fa70_0 rfl) <| SL.v (op_load ty33 rfl (by repeat constructor) rfl) ?_
          refine SL.nil <| T.block <| T.seq <| T.seq <| T.region <| SL.v (op_eqlF rfl rfl (by omega)) ?_
          refine SL.as rfl <| SL.nil <| T.condF rfl <| T.region <| SL.v (op_eqlF rfl rfl (by omega)) ?_
          refine SL.as rfl <| SL.nil <| T.condF rfl <| T.seq <| T.region <| SL.v (op_eqlT rfl rfl (by omega)) ?_
          refine SL.as rfl <| SL.nil <| T.condT rfl <| T.seq <| T.region <| SL.mv rfl <| SL.v (op_geqF rfl rfl (by omega)) ?_
          refine SL.mv rfl <| SL.skip rfl rfl ?_
          refine SL.skip rfl rfl ?_
          refine SL.v (op_pickF rfl rfl) <| SL.as rfl <| SL.nil <| T.ret1 rfl (ResIs.tmp rfl) ?_
          rw [decide_eq_false fun h => hk1 (e.1 h).1]
      · have e : namN op k ↔ k = 0 := by simp [namN, h4, h5, h6]
        by_cases hk0 : k = 0
        · refine Spec.enter Tryz.func164 rfl Tryz.ntmps164 rfl ?_
          intro w0 hw0
          refine T.seq <| T.region <| SL.w (op_box rfl) ?_
          rintro _ _ _ ⟨B1, rfl, rfl, rfl⟩
          refine SL.as rfl <| SL.nil <| T.seq <| T.region <| SL.v (op_fieldAddr fa70_2 rfl) <| SL.v (op_load ty59 rfl (by repeat constructor) rfl) ?_
          refine SL.v (op_lenS Tryz.underlying59 rfl) <| SL.as rfl <| SL.nil <| T.seq <| T.seq <| T.region <| SL.v (op_fieldAddr fa70_0 rfl) <| SL.v (op_load ty33 rfl (by repeat constructor) rfl) ?_
          refine SL.nil <| T.block <| T.seq <| T.seq <| T.region <| SL.v (op_eqlF rfl rfl (by omega)) ?_
          refine SL.as rfl <| SL.nil <| T.condF rfl <| T.region <| SL.v (op_eqlF rfl rfl (by omega)) ?_
          refine SL.as rfl <| SL.nil <| T.condF rfl <| T.seq <| T.region <| SL.v (op_eqlF rfl rfl (by omega)) ?_
          refine SL.as rfl <| SL.nil <| T.condF rfl <| T.skip <| T.blk <| T.seq <| T.region <| SL.mv rfl <| SL.v (op_eqlT rfl rfl (by omega)) ?_
          refine SL.as rfl <| SL.nil <| T.ret1 rfl (ResIs.tmp rfl) ?_
          rw [decide_eq_true (e.2 hk0)]
        · refine Spec.enter Tryz.func164 rfl Tryz.ntmps164 rfl ?_
          intro w0 hw0
          refine T.seq <| T.region <| SL.w (op_box rfl) ?_
          rintro _ _ _ ⟨B1, rfl, rfl, rfl⟩
          refine SL.as rfl <| SL.nil <| T.seq <| T.region <| SL.v (op_fieldAddr fa70_2 rfl) <| SL.v (op_load ty59 rfl (by repeat constructor) rfl) ?_
          refine SL.v (op_lenS Tryz.underlying59 rfl) <| SL.as rfl <| SL.nil <| T.seq <| T.seq <| T.region <| SL.v (op_fieldAddr fa70_0 rfl) <| SL.v (op_load ty33 rfl (by repeat constructor) rfl) ?_
          refine SL.nil <| T.block <| T.seq <| T.seq <| T.region <| SL.v (op_eqlF rfl rfl (by omega)) ?_
          refine SL.as rfl <| SL.nil <| T.condF rfl <| T.region <| SL.v (op_eqlF rfl rfl (by omega)) ?_
          refine SL.as rfl <| SL.nil <| T.condF rfl <| T.seq <| T.region <| SL.v (op_eqlF rfl rfl (by omega)) ?_
          refine SL.as rfl <| SL.nil <| T.condF rfl <| T.skip <| T.blk <| T.seq <| T.region <| SL.mv rfl <| SL.v (op_eqlF rfl rfl (by omega)) ?_
          refine SL.as rfl <| SL.nil <| T.ret1 rfl (ResIs.tmp rfl) ?_
          rw [decide_eq_false fun h => hk0 (e.1 h)]
theorem inval_spec {X : PMap} {s : ByteArray} : Spec Tryz.prog 166 [.string s] X fun u _ => u = .bool (decide (¬validS s)) := by
  refine Spec.enter Tryz.func166 rfl Tryz.ntmps166 rfl ?_
  intro w0 hw0
  refine T.seq <| T.region <| SL.as rfl <| SL.nil <| T.seq <| T.region <| SL.mv rfl <| SL.w (op_callF en94 (vs := [_]) rfl (nvalid_spec)) ?_
  rintro _ _ X1 ⟨rfl, hX1, rfl⟩
  refine SL.v (op_not rfl) <| SL.as rfl <| SL.nil <| T.ret1 rfl (ResIs.tmp rfl) ?_
  rw [decide_not]
theorem idxf_spec {X : PMap} {v : Value} {l : List ByteArray} (h : RowR strC X v l) (hl : l.length < 1000000000000) : Spec Tryz.prog 193 [v, .func (.func 166) #[] #[]] X fun u _ => ∃ k : Int, u = .int .i64 k ∧ (0 ≤ k ↔ ¬∀ s ∈ l, validS s) := by
  obtain ⟨A, cp, rfl⟩ := h.form
  refine Spec.enter Tryz.func193 rfl Tryz.ntmps193 rfl ?_
  intro w0 hw0
  refine T.seq <| T.region <| SL.v (op_assign (v := .int .i64 ((0 : Nat) : Int)) rfl) <| SL.nil <| T.seq <| T.seq <| T.region <| SL.mv rfl <| SL.v (op_lenS Tryz.underlying59 rfl) <| SL.v (op_move (v := .int .i64 ((0 : Nat) : Int)) rfl) <| SL.nil <| T.block <| T.loopW (fun m env own X' => ∃ i : Nat, m = l.length - i ∧ i ≤ l.length ∧ X.le X' ∧ (∀ q x, q < i → l[q]? = some x → validS x) ∧ env = [(0, .slice A l.length cp), (1, .func (.func 166) #[] #[]), (7, .int .i64 (l.length : Int)), (8, .int .i64 (i : Int))] ∧ own = []) l.length ⟨0, by simp, by omega, PMap.le_refl _, fun q x hq => absurd hq (by omega), rfl, rfl⟩ (by repeat (first | exact Sub.nil | refine Sub.cons rfl ?_)) ?_
  rintro m _ _ X1 ⟨i, rfl, hi, hX1, hne, rfl, rfl⟩
  rcases Nat.lt_or_ge i l.length with hil | hil
  · obtain ⟨x, hx⟩ : ∃ x, l[i]? = some x := ⟨_, List.getElem?_eq_getElem hil⟩
    obtain ⟨b, pre, rfl, hB⟩ := h.blk (by omega)
    refine T.seq <| T.region <| SL.v (op_lssT rfl rfl (by omega)) ?_
    refine SL.nil <| T.seq <| T.condT rfl <| T.skip <| T.seq <| T.block <| T.seq <| T.region <| SL.mv rfl <| SL.as rfl <| SL.nil <| T.seq <| T.region <| SL.mv rfl <| SL.mv rfl ?_
    refine SL.mv rfl <| SL.v (op_indexN Tryz.underlying59 ty9 rfl rfl (by omega)) ?_
    refine SL.v (op_loadX ty9 rfl (hB.mono hX1) (str_read hx (by omega))) ?_
    refine SL.w (op_call en166 rfl (vs := [_]) rfl inval_spec) ?_
    rintro _ _ X2 ⟨rfl, hX2, rfl⟩
    by_cases hc : ¬validS x
    · rw [decide_eq_true hc]
      refine SL.nil <| T.condT rfl <| T.seq <| T.region <| SL.mv rfl <| SL.as rfl <| SL.nil <| T.ret1 rfl (ResIs.tmp rfl) ?_
      exact ⟨_, rfl, fun _ hall => hc (hall x (List.mem_of_getElem? hx)), fun _ => by omega⟩
    · rw [decide_eq_false hc]
      refine SL.nil <| T.condF rfl <| T.skip <| T.blk <| T.region <| SL.v (op_addN (q := 1) rfl rfl (by omega)) ?_
      refine SL.mv rfl <| SL.nil ?_
      have hne2 : ∀ (q : Nat) (y : ByteArray), q < i + 1 → l[q]? = some y → validS y := fun q y hq hy => by
        rcases Nat.lt_or_ge q i with h1 | h1
        · exact hne q y h1 hy
        · obtain rfl : q = i := by omega
          rw [hx] at hy; cases hy; exact Classical.not_not.1 hc
      exact T.backW (l.length - (i + 1)) (by omega) ⟨i + 1, rfl, by omega, hX1.trans' hX2, hne2, rfl, rfl⟩ (by repeat (first | exact Sub.nil | refine Sub.cons rfl ?_))
  · refine T.seq <| T.region <| SL.v (op_lssF rfl rfl (by omega)) ?_
    refine SL.nil <| T.seq <| T.condF rfl ?_
    refine T.exit (T.exitCode (T.exitCut (T.exitBlk ?_)))
    refine T.seq <| T.region <| SL.as rfl <| SL.nil <| T.ret1 rfl (ResIs.tmp rfl) ?_
    refine ⟨_, rfl, fun h => absurd h (by omega), fun hm => ?_⟩
    refine absurd (fun s hs => ?_) hm
    obtain ⟨q, hq⟩ := List.mem_iff_getElem?.1 hs
    have h1 := (List.getElem?_eq_some_iff.1 hq).1
    exact hne q s (by omega) hq
theorem contf_spec {X : PMap} {v : Value} {l : List ByteArray} (h : RowR strC X v l) (hl : l.length < 1000000000000) : Spec Tryz.prog 165 [v, .func (.func 166) #[] #[]] X fun u _ => ∃ b : Bool, u = .bool b ∧ (b = true ↔ ¬∀ s ∈ l, validS s) := by
  obtain ⟨A, cp, rfl⟩ := h.form
  refine Spec.enter Tryz.func165 rfl Tryz.ntmps165 rfl ?_
  intro w0 hw0
  refine T.seq <| T.region <| SL.as rfl <| SL.nil <| T.seq <| T.region <| SL.mv rfl <| SL.mv rfl <| SL.w (op_callF en193 (vs := [_, _]) rfl (idxf_spec h hl)) ?_
  rintro _ _ X1 ⟨rfl, hX1, k, rfl, hk⟩
  refine SL.v (op_geq rfl rfl) <| SL.as rfl <| SL.nil <| T.ret1 rfl (ResIs.tmp rfl) ?_
  exact ⟨_, rfl, by rw [decide_eq_true_eq]; exact hk⟩
theorem nodeL_at {al : List Ex} {i : Nat} {a : Ex} (h0 : nodeL (al.take i) = 0) (ha : al[i]? = some a) (hz : nodeE a ≠ 0) : nodeL al = nodeE a := by
  obtain ⟨h1, h2⟩ := List.getElem?_eq_some_iff.1 ha
  have e : al = al.take i ++ a :: al.drop (i + 1) := by rw [← h2, ← List.drop_eq_getElem_cons h1, List.take_append_drop]
  rw [e, nodeL_app, if_neg (by simp [h0]), nodeL, if_pos hz]
theorem nodeL_snoc {al : List Ex} {i : Nat} {a : Ex} (h0 : nodeL (al.take i) = 0) (ha : al[i]? = some a) (hz : nodeE a = 0) : nodeL (al.take (i + 1)) = 0 := by
  rw [take_snoc ha, nodeL_app, if_neg (by simp [h0]), nodeL, if_neg (by simp [hz]), nodeL]
theorem node_spec (N : Nat) : ∀ {X : PMap} {e : Ex} {r : Row4}, wtE e ≤ N → N < 100000000 → ExR .u8 X e r → Spec Tryz.prog 123 [.agg #[r.1, r.2.1, r.2.2.1, r.2.2.2]] X fun u _ => u = .int .i64 (nodeE e) := by
  induction N with
  | zero => intro X e r h; cases e; rw [wtE] at h; omega
  | succ N ih =>
    intro X e r hN hB h
    cases h with
    | @mk op n ns al vn va rows hn ha hl hr =>
    obtain ⟨Aa, ca, rfl⟩ := ha.form
    obtain ⟨An, cn, rfl⟩ := hn.form
    have hlen := wtL_len al
    have hnl := wtS_len ns
    rw [wtE] at hN
    by_cases a1 : op < 1
    · have e := own1 (k := al.length) (n := n) (ns := ns) (.inl a1)
      refine Spec.enter Tryz.func123 rfl Tryz.ntmps123 rfl ?_
      intro w0 hw0
      refine T.seq <| T.region <| SL.w (op_box rfl) ?_
      rintro _ _ _ ⟨B1, rfl, rfl, rfl⟩
      refine SL.v (op_assign (v := .int .i64 ((0 : Nat) : Int)) rfl) <| SL.nil <| T.seq <| T.block <| T.seq <| T.draw (by kernel_rfl) 18 [.t 0, .t 1, .t 2, .t 3, .t 4, .t 5, .t 6, .t 7, .t 8, .t 9, .t 10, .t 11, .t 12, .t 13, .r 14, .t 15, .t 16, .t 17] (by kernel_rfl) ?_
      refine SD.take rfl panicBody (op_fieldAddr fa70_0 rfl) rfl rfl ?_
      refine SD.take rfl panicBody (op_load ty33 rfl (by repeat constructor) rfl) rfl rfl ?_
      refine SD.take rfl panicBody (op_lssT rfl rfl (by omega)) rfl rfl ?_
      refine SD.take rfl panicBody (op_move rfl) rfl rfl ?_
      refine SD.skip rfl panicBody rfl rfl ?_
      refine SD.skip rfl panicBody rfl rfl ?_
      refine SD.skip rfl panicBody rfl rfl ?_
      refine SD.take rfl panicBody (op_pickT rfl rfl) rfl rfl ?_
      refine SD.take rfl panicBody (op_move rfl) rfl rfl ?_
      refine SD.skip rfl panicBody rfl rfl ?_
      refine SD.skip rfl panicBody rfl rfl ?_
      refine SD.skip rfl panicBody rfl rfl ?_
      refine SD.skip rfl panicBody rfl rfl ?_
      refine SD.skip rfl panicBody rfl rfl ?_
      refine SD.skipF rfl rfl rfl ?_
      refine SD.skip rfl panicBody rfl rfl ?_
      refine SD.take rfl panicBody (op_pickT rfl rfl) rfl rfl ?_
      refine SD.take rfl panicBody (op_assign rfl) rfl rfl ?_
      refine SD.nil ?_
      show SL _ _ _ _ _ _ _ [] _ _ _
      refine SL.nil <| T.condT rfl <| T.seq <| T.region <| SL.v (op_assign (v := .int .i64 ((1 : Nat) : Int)) rfl) <| SL.nil <| T.ret1 rfl (ResIs.tmp rfl) ?_
      rw [node_own (by rw [e]; decide), e]; rfl
    by_cases a2 : 16 < op
    · have e := own1 (k := al.length) (n := n) (ns := ns) (.inr (.inl a2))
      refine Spec.enter Tryz.func123 rfl Tryz.ntmps123 rfl ?_
      intro w0 hw0
      refine T.seq <| T.region <| SL.w (op_box rfl) ?_
      rintro _ _ _ ⟨B1, rfl, rfl, rfl⟩
      refine SL.v (op_assign (v := .int .i64 ((0 : Nat) : Int)) rfl) <| SL.nil <| T.seq <| T.block <| T.seq <| T.draw (by kernel_rfl) 18 [.t 0, .t 1, .t 2, .t 3, .t 4, .t 5, .t 6, .t 7, .t 8, .t 9, .t 10, .t 11, .t 12, .t 13, .r 14, .t 15, .t 16, .t 17] (by kernel_rfl) ?_
      refine SD.take rfl panicBody (op_fieldAddr fa70_0 rfl) rfl rfl ?_
      refine SD.take rfl panicBody (op_load ty33 rfl (by repeat constructor) rfl) rfl rfl ?_
      refine SD.take rfl panicBody (op_lssF rfl rfl (by omega)) rfl rfl ?_
      refine SD.take rfl panicBody (op_move rfl) rfl rfl ?_
      refine SD.take rfl panicBody (op_fieldAddr fa70_0 rfl) rfl rfl ?_
      refine SD.take rfl panicBody (op_load ty33 rfl (by repeat constructor) rfl) rfl rfl ?_
      refine SD.take rfl panicBody (op_gtrT rfl rfl (by omega)) rfl rfl ?_
      refine SD.take rfl panicBody (op_pickF rfl rfl) rfl rfl ?_
      refine SD.take rfl panicBody (op_move rfl) rfl rfl ?_
      refine SD.skip rfl panicBody rfl rfl ?_
      refine SD.skip rfl panicBody rfl rfl ?_
      refine SD.skip rfl panicBody rfl rfl ?_
      refine SD.skip rfl panicBody rfl rfl ?_
      refine SD.skip rfl panicBody rfl rfl ?_
      refine SD.skipF rfl rfl rfl ?_
      refine SD.skip rfl panicBody rfl rfl ?_
      refine SD.take rfl panicBody (op_pickT rfl rfl) rfl rfl ?_
      refine SD.take rfl panicBody (op_assign rfl) rfl rfl ?_
      refine SD.nil ?_
      show SL _ _ _ _ _ _ _ [] _ _ _
      refine SL.nil <| T.condT rfl <| T.seq <| T.region <| SL.v (op_assign (v := .int .i64 ((1 : Nat) : Int)) rfl) <| SL.nil <| T.ret1 rfl (ResIs.tmp rfl) ?_
      rw [node_own (by rw [e]; decide), e]; rfl
    by_cases a3 : al.length = argN op
    case neg =>
      have e := own1 (k := al.length) (op := op) (n := n) (ns := ns) (.inr (.inr a3))
      refine Spec.enter Tryz.func123 rfl Tryz.ntmps123 rfl ?_
      intro w0 hw0
      refine T.seq <| T.region <| SL.w (op_box rfl) ?_
      rintro _ _ _ ⟨B1, rfl, rfl, rfl⟩
      refine SL.v (op_assign (v := .int .i64 ((0 : Nat) : Int)) rfl) <| SL.nil <| T.seq <| T.block <| T.seq <| T.draw (by kernel_rfl) 18 [.t 0, .t 1, .t 2, .t 3, .t 4, .t 5, .t 6, .t 7, .t 8, .t 9, .t 10, .t 11, .t 12, .t 13, .r 14, .t 15, .t 16, .t 17] (by kernel_rfl) ?_
      refine SD.take rfl panicBody (op_fieldAddr fa70_0 rfl) rfl rfl ?_
      refine SD.take rfl panicBody (op_load ty33 rfl (by repeat constructor) rfl) rfl rfl ?_
      refine SD.take rfl panicBody (op_lssF rfl rfl (by omega)) rfl rfl ?_
      refine SD.take rfl panicBody (op_move rfl) rfl rfl ?_
      refine SD.take rfl panicBody (op_fieldAddr fa70_0 rfl) rfl rfl ?_
      refine SD.take rfl panicBody (op_load ty33 rfl (by repeat constructor) rfl) rfl rfl ?_
      refine SD.take rfl panicBody (op_gtrF rfl rfl (by omega)) rfl rfl ?_
      refine SD.take rfl panicBody (op_pickF rfl rfl) rfl rfl ?_
      refine SD.take rfl panicBody (op_move rfl) rfl rfl ?_
      refine SD.take rfl panicBody (op_fieldAddr fa70_3 rfl) rfl rfl ?_
      refine SD.take rfl panicBody (op_load ty68 rfl (by repeat constructor) rfl) rfl rfl ?_
      refine SD.take rfl panicBody (op_lenS Tryz.underlying68 rfl) rfl rfl ?_
      refine SD.take rfl panicBody (op_fieldAddr fa70_0 rfl) rfl rfl ?_
      refine SD.take rfl panicBody (op_load ty33 rfl (by repeat constructor) rfl) rfl rfl ?_
      refine SD.run rfl (op_callF en163 (vs := [_]) rfl (argN_spec)) rfl rfl ?_
      rintro _ _ X1 ⟨rfl, hX1, rfl⟩
      rw [← hl] at a3
      refine SD.take rfl panicBody (op_neqT rfl rfl (by omega)) rfl rfl ?_
      refine SD.take rfl panicBody (op_pickF rfl rfl) rfl rfl ?_
      refine SD.take rfl panicBody (op_assign rfl) rfl rfl ?_
      refine SD.nil ?_
      show SL _ _ _ _ _ _ _ [] _ _ _
      refine SL.nil <| T.condT rfl <| T.seq <| T.region <| SL.v (op_assign (v := .int .i64 ((1 : Nat) : Int)) rfl) <| SL.nil <| T.ret1 rfl (ResIs.tmp rfl) ?_
      rw [node_own (by rw [e]; decide), e]; rfl
    have hA1 : ¬(op < 1 ∨ 16 < op ∨ al.length ≠ argN op) := fun h => by omega
    by_cases hNN : n ≠ 0 ∧ op ≠ 1
    · obtain ⟨b1, b2⟩ := hNN
      have e := own6 (n := n) (ns := ns) hA1 (.inl ⟨b1, b2⟩)
      refine Spec.enter Tryz.func123 rfl Tryz.ntmps123 rfl ?_
      intro w0 hw0
      refine T.seq <| T.region <| SL.w (op_box rfl) ?_
      rintro _ _ _ ⟨B1, rfl, rfl, rfl⟩
      refine SL.v (op_assign (v := .int .i64 ((0 : Nat) : Int)) rfl) <| SL.nil <| T.seq <| T.block <| T.seq <| T.draw (by kernel_rfl) 18 [.t 0, .t 1, .t 2, .t 3, .t 4, .t 5, .t 6, .t 7, .t 8, .t 9, .t 10, .t 11, .t 12, .t 13, .r 14, .t 15, .t 16, .t 17] (by kernel_rfl) ?_
      refine SD.take rfl panicBody (op_fieldAddr fa70_0 rfl) rfl rfl ?_
      refine SD.take rfl panicBody (op_load ty33 rfl (by repeat constructor) rfl) rfl rfl ?_
      refine SD.take rfl panicBody (op_lssF rfl rfl (by omega)) rfl rfl ?_
      refine SD.take rfl panicBody (op_move rfl) rfl rfl ?_
      refine SD.take rfl panicBody (op_fieldAddr fa70_0 rfl) rfl rfl ?_
      refine SD.take rfl panicBody (op_load ty33 rfl (by repeat constructor) rfl) rfl rfl ?_
      refine SD.take rfl panicBody (op_gtrF rfl rfl (by omega)) rfl rfl ?_
      refine SD.take rfl panicBody (op_pickF rfl rfl) rfl rfl ?_
      refine SD.take rfl panicBody (op_move rfl) rfl rfl ?_
      refine SD.take rfl panicBody (op_fieldAddr fa70_3 rfl) rfl rfl ?_
      refine SD.take rfl panicBody (op_load ty68 rfl (by repeat constructor) rfl) rfl rfl ?_
      refine SD.take rfl panicBody (op_lenS Tryz.underlying68 rfl) rfl rfl ?_
      refine SD.take rfl panicBody (op_fieldAddr fa70_0 rfl) rfl rfl ?_
      refine SD.take rfl panicBody (op_load ty33 rfl (by repeat constructor) rfl) rfl rfl ?_
      refine SD.run rfl (op_callF en163 (vs := [_]) rfl (argN_spec)) rfl rfl ?_
      rintro _ _ X1 ⟨rfl, hX1, rfl⟩
      rw [← hl] at a3
      refine SD.take rfl panicBody (op_neqF rfl rfl (by omega)) rfl rfl ?_
      refine SD.take rfl panicBody (op_pickF rfl rfl) rfl rfl ?_
      refine SD.take rfl panicBody (op_assign rfl) rfl rfl ?_
      refine SD.nil ?_
      show SL _ _ _ _ _ _ _ [] _ _ _
      refine SL.nil <| T.condF rfl <| T.seq <| T.seq <| T.region <| SL.v (op_fieldAddr fa70_1 rfl) <| SL.v (op_load ty3 rfl (by repeat constructor) rfl) ?_
      refine SL.v (op_neqT rfl rfl (by omega)) ?_
      refine SL.mv rfl <| SL.v (op_fieldAddr fa70_0 rfl) <| SL.v (op_load ty33 rfl (by repeat constructor) rfl) ?_
      refine SL.v (op_neqT rfl rfl (by omega)) ?_
      refine SL.v (op_pickT rfl rfl) <| SL.as rfl <| SL.nil <| T.condT rfl <| T.skip <| T.condT rfl <| T.seq <| T.region <| SL.v (op_assign (v := .int .i64 ((6 : Nat) : Int)) rfl) <| SL.nil <| T.ret1 rfl (ResIs.tmp rfl) ?_
      rw [node_own (by rw [e]; decide), e]; rfl
    by_cases b1 : n = 0
    · skip
      refine Spec.enter Tryz.func123 rfl Tryz.ntmps123 rfl ?_
      intro w0 hw0
      refine T.seq <| T.region <| SL.w (op_box rfl) ?_
      rintro _ _ _ ⟨B1, rfl, rfl, rfl⟩
      refine SL.v (op_assign (v := .int .i64 ((0 : Nat) : Int)) rfl) <| SL.nil <| T.seq <| T.block <| T.seq <| T.draw (by kernel_rfl) 18 [.t 0, .t 1, .t 2, .t 3, .t 4, .t 5, .t 6, .t 7, .t 8, .t 9, .t 10, .t 11, .t 12, .t 13, .r 14, .t 15, .t 16, .t 17] (by kernel_rfl) ?_
      refine SD.take rfl panicBody (op_fieldAddr fa70_0 rfl) rfl rfl ?_
      refine SD.take rfl panicBody (op_load ty33 rfl (by repeat constructor) rfl) rfl rfl ?_
      refine SD.take rfl panicBody (op_lssF rfl rfl (by omega)) rfl rfl ?_
      refine SD.take rfl panicBody (op_move rfl) rfl rfl ?_
      refine SD.take rfl panicBody (op_fieldAddr fa70_0 rfl) rfl rfl ?_
      refine SD.take rfl panicBody (op_load ty33 rfl (by repeat constructor) rfl) rfl rfl ?_
      refine SD.take rfl panicBody (op_gtrF rfl rfl (by omega)) rfl rfl ?_
      refine SD.take rfl panicBody (op_pickF rfl rfl) rfl rfl ?_
      refine SD.take rfl panicBody (op_move rfl) rfl rfl ?_
      refine SD.take rfl panicBody (op_fieldAddr fa70_3 rfl) rfl rfl ?_
      refine SD.take rfl panicBody (op_load ty68 rfl (by repeat constructor) rfl) rfl rfl ?_
      refine SD.take rfl panicBody (op_lenS Tryz.underlying68 rfl) rfl rfl ?_
      refine SD.take rfl panicBody (op_fieldAddr fa70_0 rfl) rfl rfl ?_
      refine SD.take rfl panicBody (op_load ty33 rfl (by repeat constructor) rfl) rfl rfl ?_
      refine SD.run rfl (op_callF en163 (vs := [_]) rfl (argN_spec)) rfl rfl ?_
      rintro _ _ X1 ⟨rfl, hX1, rfl⟩
      rw [← hl] at a3
      refine SD.take rfl panicBody (op_neqF rfl rfl (by omega)) rfl rfl ?_
      refine SD.take rfl panicBody (op_pickF rfl rfl) rfl rfl ?_
      refine SD.take rfl panicBody (op_assign rfl) rfl rfl ?_
      refine SD.nil ?_
      show SL _ _ _ _ _ _ _ [] _ _ _
      refine SL.nil <| T.condF rfl <| T.seq <| T.seq <| T.region <| SL.v (op_fieldAddr fa70_1 rfl) <| SL.v (op_load ty3 rfl (by repeat constructor) rfl) ?_
      refine SL.v (op_neqF rfl rfl (by omega)) ?_
      refine SL.mv rfl <| SL.skip rfl rfl ?_
      refine SL.skip rfl rfl ?_
      refine SL.skip rfl rfl ?_
      refine SL.v (op_pickF rfl rfl) <| SL.as rfl <| SL.nil <| T.condF rfl <| T.region <| SL.v (op_load ty70 rfl (by repeat constructor) rfl) ?_
      refine SL.w (op_callF en164 (vs := [_]) rfl (named_spec (by omega))) ?_
      rintro _ _ X2 ⟨rfl, hX2, rfl⟩
      by_cases hnm : namN op ns.length
      case neg =>
        rw [decide_eq_false hnm]
        refine SL.v (op_not rfl) <| SL.as rfl <| SL.nil <| T.condT rfl <| T.seq <| T.region <| SL.v (op_assign (v := .int .i64 ((6 : Nat) : Int)) rfl) <| SL.nil <| T.ret1 rfl (ResIs.tmp rfl) ?_
        rw [node_own (by rw [own6 hA1 (.inr hnm)]; decide), own6 hA1 (.inr hnm)]; rfl
      rw [decide_eq_true hnm]
      have hA2 : ¬((n ≠ 0 ∧ op ≠ 1) ∨ ¬namN op ns.length) := fun h => h.elim (fun h => hNN h) (fun h => h hnm)
      refine SL.v (op_not rfl) <| SL.as rfl <| SL.nil <| T.condF rfl <| T.seq <| T.region <| SL.v (op_fieldAddr fa70_2 rfl) <| SL.v (op_load ty59 rfl (by repeat constructor) rfl) ?_
      refine SL.w (op_callF en165 (vs := [_, _]) rfl (contf_spec ((hn.mono hX1).mono hX2) (by omega))) ?_
      rintro _ _ X3 ⟨rfl, hX3, bv, rfl, hbv⟩
      cases bv with
      | true =>
        have hv := hbv.1 rfl
        refine SL.as rfl <| SL.nil <| T.condT rfl <| T.seq <| T.region <| SL.v (op_assign (v := .int .i64 ((9 : Nat) : Int)) rfl) <| SL.nil <| T.ret1 rfl (ResIs.tmp rfl) ?_
        rw [node_own (by rw [own9 hA1 hA2 hv]; decide), own9 hA1 hA2 hv]; rfl
      | false =>
      have hv : ∀ s ∈ ns, validS s := Classical.not_not.1 fun h => by have := hbv.2 h; cases this
      by_cases h5 : op = 5
      · subst h5
        have h18 : 1 ≤ ns.length ∧ ns.length ≤ 8 := by simpa [namN] using hnm
        have eA : allE (.mk 0 0 ns []) = ns := by simp [allE, allL]
        have hE : ExR .u8 X3 (.mk 0 0 ns []) (.int .u8 ((0 : Nat) : Int), .int .i64 0, .slice An ns.length cn, .slice none 0 0) := .mk (rows := []) (((hn.mono hX1).mono hX2).mono hX3) (.inl ⟨rfl, _, _, rfl⟩) rfl (fun i a r h => by simp at h)
        have hwE : wtE (.mk 0 0 ns []) < 100000000 := by rw [wtE, wtL]; omega
        have hcall : Spec Tryz.prog 35 [.agg #[.int .u8 0, .int .i64 0, .slice An ns.length cn, .slice none 0 0]] X3 fun u X' => ∃ l' : List ByteArray, l'.Perm ns ∧ AscS l' ∧ RowR strC X' u (compactS l') := by
          have := names_spec hwE hE (by rw [eA]; omega) (by rw [eA]; omega)
          rw [eA] at this
          exact this
        refine SL.as rfl <| SL.nil <| T.condF rfl <| T.seq <| T.draw (by kernel_rfl) 15 [.t 0, .t 1, .t 2, .t 3, .t 4, .t 5, .t 6, .t 9, .t 10, .t 11, .r 7, .t 8, .t 12, .t 13, .t 14] (by kernel_rfl) ?_
        refine SD.take rfl panicBody (op_fieldAddr fa70_0 rfl) rfl rfl ?_
        refine SD.take rfl panicBody (op_load ty33 rfl (by repeat constructor) rfl) rfl rfl ?_
        refine SD.take rfl panicBody (op_eqlT rfl rfl (by omega)) rfl rfl ?_
        refine SD.take rfl panicBody (op_move rfl) rfl rfl ?_
        refine SD.take rfl panicBody (op_fieldAddr fa70_2 rfl) rfl rfl ?_
        refine SD.take rfl panicBody (op_load ty59 rfl (by repeat constructor) rfl) rfl rfl ?_
        refine SD.take rfl panicBody (op_build st70 (qs := [(2, _)]) rfl rfl) rfl rfl ?_
        refine SD.take rfl panicBody (op_fieldAddr fa70_2 rfl) rfl rfl ?_
        refine SD.take rfl panicBody (op_load ty59 rfl (by repeat constructor) rfl) rfl rfl ?_
        refine SD.take rfl panicBody (op_lenS Tryz.underlying59 rfl) rfl rfl ?_
        refine SD.run rfl (op_callF en35 (vs := [_]) rfl (hcall)) rfl rfl ?_
        rintro u _ X4 ⟨rfl, hX4, l', hperm, hasc, hu⟩
        obtain ⟨Au, cu, rfl⟩ := hu.form
        have hcn := compact_nodup hasc
        have hcl := compact_len l'
        rw [hperm.nodup_iff, hperm.length_eq] at hcn
        rw [hperm.length_eq] at hcl
        by_cases hd : (compactS l').length < ns.length
        · have hnd : ¬ns.Nodup := fun h => by have := hcn.2 h; omega
          refine SD.take rfl panicBody (op_lenS Tryz.underlying59 rfl) rfl rfl ?_
          refine SD.take rfl panicBody (op_lssT rfl rfl (by omega)) rfl rfl ?_
          refine SD.take rfl panicBody (op_pickT rfl rfl) rfl rfl ?_
          refine SD.take rfl panicBody (op_assign rfl) rfl rfl ?_
          refine SD.nil ?_
          show SL _ _ _ _ _ _ _ [] _ _ _
          refine SL.nil <| T.condT rfl <| T.seq <| T.region <| SL.v (op_assign (v := .int .i64 ((5 : Nat) : Int)) rfl) <| SL.nil <| T.ret1 rfl (ResIs.tmp rfl) ?_
          rw [node_own (by rw [own5 hA1 hA2 hv hnd]; decide), own5 hA1 hA2 hv hnd]; rfl
        have hnd : ns.Nodup := hcn.1 (by omega)
        have hown := own0' hA1 hA2 hv hnd (by omega)
        have hXB := (hX1.trans' (hX2.trans' hX3)).trans' hX4
        refine SD.take rfl panicBody (op_lenS Tryz.underlying59 rfl) rfl rfl ?_
        refine SD.take rfl panicBody (op_lssF rfl rfl (by omega)) rfl rfl ?_
        refine SD.take rfl panicBody (op_pickT rfl rfl) rfl rfl ?_
        refine SD.take rfl panicBody (op_assign rfl) rfl rfl ?_
        refine SD.nil ?_
        show SL _ _ _ _ _ _ _ [] _ _ _
        refine SL.nil <| T.condF rfl <| T.seq <| T.region <| SL.v (op_fieldAddr fa70_1 rfl) <| SL.v (op_load ty3 rfl (by repeat constructor) rfl) ?_
        refine SL.v (op_lssF rfl rfl (by omega)) ?_
        refine SL.mv rfl <| SL.v (op_fieldAddr fa70_1 rfl) <| SL.v (op_load ty3 rfl (by repeat constructor) rfl) ?_
        refine SL.v (op_gtrF rfl rfl (by omega)) ?_
        refine SL.v (op_pickF rfl rfl) <| SL.as rfl <| SL.nil <| T.condF rfl <| T.skip <| T.blk <| T.seq <| T.seq <| T.region <| SL.v (op_fieldAddr fa70_3 rfl) <| SL.v (op_load ty68 rfl (by repeat constructor) rfl) ?_
        refine SL.v (op_lenS Tryz.underlying68 rfl) <| SL.v (op_move (v := .int .i64 ((0 : Nat) : Int)) rfl) <| SL.nil <| T.block <| T.drop B1 (by repeat constructor) ?_
        refine T.loopW (fun m env own X' => ∃ i : Nat, m = rows.length - i ∧ i ≤ rows.length ∧ X4.le X' ∧ nodeL (al.take i) = 0 ∧ env = [(65, .slice Aa rows.length ca), (66, .int .i64 (rows.length : Int)), (67, .int .i64 (i : Int))] ∧ own = []) rows.length ⟨0, by simp, by omega, PMap.le_refl _, by simp [nodeL], rfl, rfl⟩ (by repeat (first | exact Sub.nil | refine Sub.cons rfl ?_)) ?_
        rintro m _ _ X5 ⟨i, rfl, hi, hX5, hz0, rfl, rfl⟩
        rcases Nat.lt_or_ge i rows.length with hil | hil
        · obtain ⟨r2, hr2⟩ : ∃ r2, rows[i]? = some r2 := ⟨_, List.getElem?_eq_getElem hil⟩
          obtain ⟨a, ha2⟩ : ∃ a, al[i]? = some a := ⟨_, List.getElem?_eq_getElem (by omega)⟩
          have hra := hr i a r2 ha2 hr2
          obtain ⟨bA, pre, rfl, hbA⟩ := ha.blk (by omega)
          obtain ⟨_, _, _, _, _, _, _, _, rfl⟩ := hra.form
          have hwa := wtL_mem (List.mem_of_getElem? ha2)
          refine T.seq <| T.region <| SL.v (op_lssT rfl rfl (by omega)) ?_
          refine SL.nil <| T.seq <| T.condT rfl <| T.skip <| T.seq <| T.block <| T.seq <| T.region <| SL.v (op_indexN Tryz.underlying68 ty70 rfl rfl (by omega)) ?_
          refine SL.v (op_loadX ty70 rfl ((hbA.mono hXB).mono hX5) (row_read rc4_len hr2 (by omega))) ?_
          refine SL.w (op_alloc z70) ?_
          rintro _ _ _ ⟨B4, rfl, rfl, rfl⟩
          refine SL.w (op_store ty70 rfl rfl (by repeat constructor) rfl rfl rfl) ?_
          rintro _ _ _ ⟨rfl, rfl⟩
          refine SL.nil <| T.seq <| T.region <| SL.v (op_load ty70 rfl (by repeat constructor) rfl) ?_
          refine SL.w (op_callF en123 (vs := [_]) rfl (ih (by omega) (by omega) ((hra.mono hXB).mono hX5))) ?_
          rintro _ _ X6 ⟨rfl, hX6, rfl⟩
          by_cases hz : nodeE a = 0
          · skip
            refine SL.as rfl <| SL.nil <| T.seq <| T.region <| SL.mv rfl <| SL.v (op_neqF rfl rfl (by omega)) ?_
            refine SL.nil <| T.condF rfl <| T.skip <| T.blk <| T.region <| SL.v (op_addN (q := 1) rfl rfl (by omega)) ?_
            refine SL.mv rfl <| SL.nil <| T.drop B4 (by repeat constructor) ?_
            exact T.backW (rows.length - (i + 1)) (by omega) ⟨i + 1, rfl, by omega, hX5.trans' hX6, nodeL_snoc hz0 ha2 hz, rfl, rfl⟩ (by repeat (first | exact Sub.nil | refine Sub.cons rfl ?_))
          · refine SL.as rfl <| SL.nil <| T.seq <| T.region <| SL.mv rfl <| SL.v (op_neqT rfl rfl (by omega)) ?_
            refine SL.nil <| T.condT rfl <| T.seq <| T.region <| SL.mv rfl <| SL.as rfl <| SL.nil <| T.ret1 rfl (ResIs.tmp rfl) ?_
            rw [node_args hown, nodeL_at hz0 ha2 hz]
        · obtain rfl : i = rows.length := by omega
          rw [show al.take rows.length = al from List.take_of_length_le (by omega)] at hz0
          refine T.seq <| T.region <| SL.v (op_lssF rfl rfl (by omega)) ?_
          refine SL.nil <| T.seq <| T.condF rfl ?_
          refine T.exit (T.exitCode (T.exitCut (T.exitBlk ?_)))
          refine T.seq <| T.region <| SL.v (op_assign (v := .int .i64 ((0 : Nat) : Int)) rfl) <| SL.nil <| T.ret1 rfl (ResIs.tmp rfl) ?_
          rw [node_args hown, hz0]; rfl
      · have hown := fun hnd => own0' (op := op) (n := n) (ns := ns) (k := al.length) hA1 hA2 hv hnd (by omega)
        have hXB := hX1.trans' (hX2.trans' hX3)
        have hnd : ns.Nodup := nodup_small (by simp only [namN, h5, if_false] at hnm; split at hnm <;> omega)
        have hown := hown hnd
        refine SL.as rfl <| SL.nil <| T.condF rfl <| T.seq <| T.draw (by kernel_rfl) 15 [.t 0, .t 1, .t 2, .t 3, .t 4, .t 5, .t 6, .t 9, .t 10, .t 11, .r 7, .t 8, .t 12, .t 13, .t 14] (by kernel_rfl) ?_
        refine SD.take rfl panicBody (op_fieldAddr fa70_0 rfl) rfl rfl ?_
        refine SD.take rfl panicBody (op_load ty33 rfl (by repeat constructor) rfl) rfl rfl ?_
        refine SD.take rfl panicBody (op_eqlF rfl rfl (by omega)) rfl rfl ?_
        refine SD.take rfl panicBody (op_move rfl) rfl rfl ?_
        refine SD.skip rfl panicBody rfl rfl ?_
        refine SD.skip rfl panicBody rfl rfl ?_
        refine SD.skip rfl panicBody rfl rfl ?_
        refine SD.skip rfl panicBody rfl rfl ?_
        refine SD.skip rfl panicBody rfl rfl ?_
        refine SD.skip rfl panicBody rfl rfl ?_
        refine SD.skipF rfl rfl rfl ?_
        refine SD.skip rfl panicBody rfl rfl ?_
        refine SD.skip rfl panicBody rfl rfl ?_
        refine SD.take rfl panicBody (op_pickF rfl rfl) rfl rfl ?_
        refine SD.take rfl panicBody (op_assign rfl) rfl rfl ?_
        refine SD.nil ?_
        show SL _ _ _ _ _ _ _ [] _ _ _
        refine SL.nil <| T.condF rfl <| T.seq <| T.region <| SL.v (op_fieldAddr fa70_1 rfl) <| SL.v (op_load ty3 rfl (by repeat constructor) rfl) ?_
        refine SL.v (op_lssF rfl rfl (by omega)) ?_
        refine SL.mv rfl <| SL.v (op_fieldAddr fa70_1 rfl) <| SL.v (op_load ty3 rfl (by repeat constructor) rfl) ?_
        refine SL.v (op_gtrF rfl rfl (by omega)) ?_
        refine SL.v (op_pickF rfl rfl) <| SL.as rfl <| SL.nil <| T.condF rfl <| T.skip <| T.blk <| T.seq <| T.seq <| T.region <| SL.v (op_fieldAddr fa70_3 rfl) <| SL.v (op_load ty68 rfl (by repeat constructor) rfl) ?_
        refine SL.v (op_lenS Tryz.underlying68 rfl) <| SL.v (op_move (v := .int .i64 ((0 : Nat) : Int)) rfl) <| SL.nil <| T.block <| T.drop B1 (by repeat constructor) ?_
        refine T.loopW (fun m env own X' => ∃ i : Nat, m = rows.length - i ∧ i ≤ rows.length ∧ X3.le X' ∧ nodeL (al.take i) = 0 ∧ env = [(65, .slice Aa rows.length ca), (66, .int .i64 (rows.length : Int)), (67, .int .i64 (i : Int))] ∧ own = []) rows.length ⟨0, by simp, by omega, PMap.le_refl _, by simp [nodeL], rfl, rfl⟩ (by repeat (first | exact Sub.nil | refine Sub.cons rfl ?_)) ?_
        rintro m _ _ X5 ⟨i, rfl, hi, hX5, hz0, rfl, rfl⟩
        rcases Nat.lt_or_ge i rows.length with hil | hil
        · obtain ⟨r2, hr2⟩ : ∃ r2, rows[i]? = some r2 := ⟨_, List.getElem?_eq_getElem hil⟩
          obtain ⟨a, ha2⟩ : ∃ a, al[i]? = some a := ⟨_, List.getElem?_eq_getElem (by omega)⟩
          have hra := hr i a r2 ha2 hr2
          obtain ⟨bA, pre, rfl, hbA⟩ := ha.blk (by omega)
          obtain ⟨_, _, _, _, _, _, _, _, rfl⟩ := hra.form
          have hwa := wtL_mem (List.mem_of_getElem? ha2)
          refine T.seq <| T.region <| SL.v (op_lssT rfl rfl (by omega)) ?_
          refine SL.nil <| T.seq <| T.condT rfl <| T.skip <| T.seq <| T.block <| T.seq <| T.region <| SL.v (op_indexN Tryz.underlying68 ty70 rfl rfl (by omega)) ?_
          refine SL.v (op_loadX ty70 rfl ((hbA.mono hXB).mono hX5) (row_read rc4_len hr2 (by omega))) ?_
          refine SL.w (op_alloc z70) ?_
          rintro _ _ _ ⟨B4, rfl, rfl, rfl⟩
          refine SL.w (op_store ty70 rfl rfl (by repeat constructor) rfl rfl rfl) ?_
          rintro _ _ _ ⟨rfl, rfl⟩
          refine SL.nil <| T.seq <| T.region <| SL.v (op_load ty70 rfl (by repeat constructor) rfl) ?_
          refine SL.w (op_callF en123 (vs := [_]) rfl (ih (by omega) (by omega) ((hra.mono hXB).mono hX5))) ?_
          rintro _ _ X6 ⟨rfl, hX6, rfl⟩
          by_cases hz : nodeE a = 0
          · skip
            refine SL.as rfl <| SL.nil <| T.seq <| T.region <| SL.mv rfl <| SL.v (op_neqF rfl rfl (by omega)) ?_
            refine SL.nil <| T.condF rfl <| T.skip <| T.blk <| T.region <| SL.v (op_addN (q := 1) rfl rfl (by omega)) ?_
            refine SL.mv rfl <| SL.nil <| T.drop B4 (by repeat constructor) ?_
            exact T.backW (rows.length - (i + 1)) (by omega) ⟨i + 1, rfl, by omega, hX5.trans' hX6, nodeL_snoc hz0 ha2 hz, rfl, rfl⟩ (by repeat (first | exact Sub.nil | refine Sub.cons rfl ?_))
          · refine SL.as rfl <| SL.nil <| T.seq <| T.region <| SL.mv rfl <| SL.v (op_neqT rfl rfl (by omega)) ?_
            refine SL.nil <| T.condT rfl <| T.seq <| T.region <| SL.mv rfl <| SL.as rfl <| SL.nil <| T.ret1 rfl (ResIs.tmp rfl) ?_
            rw [node_args hown, nodeL_at hz0 ha2 hz]
        · obtain rfl : i = rows.length := by omega
          rw [show al.take rows.length = al from List.take_of_length_le (by omega)] at hz0
          refine T.seq <| T.region <| SL.v (op_lssF rfl rfl (by omega)) ?_
          refine SL.nil <| T.seq <| T.condF rfl ?_
          refine T.exit (T.exitCode (T.exitCut (T.exitBlk ?_)))
          refine T.seq <| T.region <| SL.v (op_assign (v := .int .i64 ((0 : Nat) : Int)) rfl) <| SL.nil <| T.ret1 rfl (ResIs.tmp rfl) ?_
          rw [node_args hown, hz0]; rfl
    · have hop : op = 1 := Decidable.not_not.1 fun h => hNN ⟨b1, h⟩
      refine Spec.enter Tryz.func123 rfl Tryz.ntmps123 rfl ?_
      intro w0 hw0
      refine T.seq <| T.region <| SL.w (op_box rfl) ?_
      rintro _ _ _ ⟨B1, rfl, rfl, rfl⟩
      refine SL.v (op_assign (v := .int .i64 ((0 : Nat) : Int)) rfl) <| SL.nil <| T.seq <| T.block <| T.seq <| T.draw (by kernel_rfl) 18 [.t 0, .t 1, .t 2, .t 3, .t 4, .t 5, .t 6, .t 7, .t 8, .t 9, .t 10, .t 11, .t 12, .t 13, .r 14, .t 15, .t 16, .t 17] (by kernel_rfl) ?_
      refine SD.take rfl panicBody (op_fieldAddr fa70_0 rfl) rfl rfl ?_
      refine SD.take rfl panicBody (op_load ty33 rfl (by repeat constructor) rfl) rfl rfl ?_
      refine SD.take rfl panicBody (op_lssF rfl rfl (by omega)) rfl rfl ?_
      refine SD.take rfl panicBody (op_move rfl) rfl rfl ?_
      refine SD.take rfl panicBody (op_fieldAddr fa70_0 rfl) rfl rfl ?_
      refine SD.take rfl panicBody (op_load ty33 rfl (by repeat constructor) rfl) rfl rfl ?_
      refine SD.take rfl panicBody (op_gtrF rfl rfl (by omega)) rfl rfl ?_
      refine SD.take rfl panicBody (op_pickF rfl rfl) rfl rfl ?_
      refine SD.take rfl panicBody (op_move rfl) rfl rfl ?_
      refine SD.take rfl panicBody (op_fieldAddr fa70_3 rfl) rfl rfl ?_
      refine SD.take rfl panicBody (op_load ty68 rfl (by repeat constructor) rfl) rfl rfl ?_
      refine SD.take rfl panicBody (op_lenS Tryz.underlying68 rfl) rfl rfl ?_
      refine SD.take rfl panicBody (op_fieldAddr fa70_0 rfl) rfl rfl ?_
      refine SD.take rfl panicBody (op_load ty33 rfl (by repeat constructor) rfl) rfl rfl ?_
      refine SD.run rfl (op_callF en163 (vs := [_]) rfl (argN_spec)) rfl rfl ?_
      rintro _ _ X1 ⟨rfl, hX1, rfl⟩
      rw [← hl] at a3
      refine SD.take rfl panicBody (op_neqF rfl rfl (by omega)) rfl rfl ?_
      refine SD.take rfl panicBody (op_pickF rfl rfl) rfl rfl ?_
      refine SD.take rfl panicBody (op_assign rfl) rfl rfl ?_
      refine SD.nil ?_
      show SL _ _ _ _ _ _ _ [] _ _ _
      refine SL.nil <| T.condF rfl <| T.seq <| T.seq <| T.region <| SL.v (op_fieldAddr fa70_1 rfl) <| SL.v (op_load ty3 rfl (by repeat constructor) rfl) ?_
      refine SL.v (op_neqT rfl rfl (by omega)) ?_
      refine SL.mv rfl <| SL.v (op_fieldAddr fa70_0 rfl) <| SL.v (op_load ty33 rfl (by repeat constructor) rfl) ?_
      refine SL.v (op_neqF rfl rfl (by omega)) ?_
      refine SL.v (op_pickT rfl rfl) <| SL.as rfl <| SL.nil <| T.condF rfl <| T.region <| SL.v (op_load ty70 rfl (by repeat constructor) rfl) ?_
      refine SL.w (op_callF en164 (vs := [_]) rfl (named_spec (by omega))) ?_
      rintro _ _ X2 ⟨rfl, hX2, rfl⟩
      by_cases hnm : namN op ns.length
      case neg =>
        rw [decide_eq_false hnm]
        refine SL.v (op_not rfl) <| SL.as rfl <| SL.nil <| T.condT rfl <| T.seq <| T.region <| SL.v (op_assign (v := .int .i64 ((6 : Nat) : Int)) rfl) <| SL.nil <| T.ret1 rfl (ResIs.tmp rfl) ?_
        rw [node_own (by rw [own6 hA1 (.inr hnm)]; decide), own6 hA1 (.inr hnm)]; rfl
      rw [decide_eq_true hnm]
      have hA2 : ¬((n ≠ 0 ∧ op ≠ 1) ∨ ¬namN op ns.length) := fun h => h.elim (fun h => hNN h) (fun h => h hnm)
      refine SL.v (op_not rfl) <| SL.as rfl <| SL.nil <| T.condF rfl <| T.seq <| T.region <| SL.v (op_fieldAddr fa70_2 rfl) <| SL.v (op_load ty59 rfl (by repeat constructor) rfl) ?_
      refine SL.w (op_callF en165 (vs := [_, _]) rfl (contf_spec ((hn.mono hX1).mono hX2) (by omega))) ?_
      rintro _ _ X3 ⟨rfl, hX3, bv, rfl, hbv⟩
      cases bv with
      | true =>
        have hv := hbv.1 rfl
        refine SL.as rfl <| SL.nil <| T.condT rfl <| T.seq <| T.region <| SL.v (op_assign (v := .int .i64 ((9 : Nat) : Int)) rfl) <| SL.nil <| T.ret1 rfl (ResIs.tmp rfl) ?_
        rw [node_own (by rw [own9 hA1 hA2 hv]; decide), own9 hA1 hA2 hv]; rfl
      | false =>
      have hv : ∀ s ∈ ns, validS s := Classical.not_not.1 fun h => by have := hbv.2 h; cases this
      have hnd : ns.Nodup := nodup_small (by simp [namN, hop] at hnm; rw [hnm]; simp)
      have hXB := hX1.trans' (hX2.trans' hX3)
      by_cases hlo : n < 0
      · have e := own2 hA1 hA2 hv hnd (.inl hlo)
        refine SL.as rfl <| SL.nil <| T.condF rfl <| T.seq <| T.draw (by kernel_rfl) 15 [.t 0, .t 1, .t 2, .t 3, .t 4, .t 5, .t 6, .t 9, .t 10, .t 11, .r 7, .t 8, .t 12, .t 13, .t 14] (by kernel_rfl) ?_
        refine SD.take rfl panicBody (op_fieldAddr fa70_0 rfl) rfl rfl ?_
        refine SD.take rfl panicBody (op_load ty33 rfl (by repeat constructor) rfl) rfl rfl ?_
        refine SD.take rfl panicBody (op_eqlF rfl rfl (by omega)) rfl rfl ?_
        refine SD.take rfl panicBody (op_move rfl) rfl rfl ?_
        refine SD.skip rfl panicBody rfl rfl ?_
        refine SD.skip rfl panicBody rfl rfl ?_
        refine SD.skip rfl panicBody rfl rfl ?_
        refine SD.skip rfl panicBody rfl rfl ?_
        refine SD.skip rfl panicBody rfl rfl ?_
        refine SD.skip rfl panicBody rfl rfl ?_
        refine SD.skipF rfl rfl rfl ?_
        refine SD.skip rfl panicBody rfl rfl ?_
        refine SD.skip rfl panicBody rfl rfl ?_
        refine SD.take rfl panicBody (op_pickF rfl rfl) rfl rfl ?_
        refine SD.take rfl panicBody (op_assign rfl) rfl rfl ?_
        refine SD.nil ?_
        show SL _ _ _ _ _ _ _ [] _ _ _
        refine SL.nil <| T.condF rfl <| T.seq <| T.region <| SL.v (op_fieldAddr fa70_1 rfl) <| SL.v (op_load ty3 rfl (by repeat constructor) rfl) ?_
        refine SL.v (op_lssT rfl rfl (by omega)) ?_
        refine SL.mv rfl <| SL.skip rfl rfl ?_
        refine SL.skip rfl rfl ?_
        refine SL.skip rfl rfl ?_
        refine SL.v (op_pickT rfl rfl) <| SL.as rfl <| SL.nil <| T.condT rfl <| T.seq <| T.region <| SL.v (op_assign (v := .int .i64 ((2 : Nat) : Int)) rfl) <| SL.nil <| T.ret1 rfl (ResIs.tmp rfl) ?_
        rw [node_own (by rw [e]; decide), e]; rfl
      by_cases hhi : 999999 < n
      · have e := own2 hA1 hA2 hv hnd (.inr hhi)
        refine SL.as rfl <| SL.nil <| T.condF rfl <| T.seq <| T.draw (by kernel_rfl) 15 [.t 0, .t 1, .t 2, .t 3, .t 4, .t 5, .t 6, .t 9, .t 10, .t 11, .r 7, .t 8, .t 12, .t 13, .t 14] (by kernel_rfl) ?_
        refine SD.take rfl panicBody (op_fieldAddr fa70_0 rfl) rfl rfl ?_
        refine SD.take rfl panicBody (op_load ty33 rfl (by repeat constructor) rfl) rfl rfl ?_
        refine SD.take rfl panicBody (op_eqlF rfl rfl (by omega)) rfl rfl ?_
        refine SD.take rfl panicBody (op_move rfl) rfl rfl ?_
        refine SD.skip rfl panicBody rfl rfl ?_
        refine SD.skip rfl panicBody rfl rfl ?_
        refine SD.skip rfl panicBody rfl rfl ?_
        refine SD.skip rfl panicBody rfl rfl ?_
        refine SD.skip rfl panicBody rfl rfl ?_
        refine SD.skip rfl panicBody rfl rfl ?_
        refine SD.skipF rfl rfl rfl ?_
        refine SD.skip rfl panicBody rfl rfl ?_
        refine SD.skip rfl panicBody rfl rfl ?_
        refine SD.take rfl panicBody (op_pickF rfl rfl) rfl rfl ?_
        refine SD.take rfl panicBody (op_assign rfl) rfl rfl ?_
        refine SD.nil ?_
        show SL _ _ _ _ _ _ _ [] _ _ _
        refine SL.nil <| T.condF rfl <| T.seq <| T.region <| SL.v (op_fieldAddr fa70_1 rfl) <| SL.v (op_load ty3 rfl (by repeat constructor) rfl) ?_
        refine SL.v (op_lssF rfl rfl (by omega)) ?_
        refine SL.mv rfl <| SL.v (op_fieldAddr fa70_1 rfl) <| SL.v (op_load ty3 rfl (by repeat constructor) rfl) ?_
        refine SL.v (op_gtrT rfl rfl (by omega)) ?_
        refine SL.v (op_pickF rfl rfl) <| SL.as rfl <| SL.nil <| T.condT rfl <| T.seq <| T.region <| SL.v (op_assign (v := .int .i64 ((2 : Nat) : Int)) rfl) <| SL.nil <| T.ret1 rfl (ResIs.tmp rfl) ?_
        rw [node_own (by rw [e]; decide), e]; rfl
      have hown := own0' hA1 hA2 hv hnd (by omega)
      refine SL.as rfl <| SL.nil <| T.condF rfl <| T.seq <| T.draw (by kernel_rfl) 15 [.t 0, .t 1, .t 2, .t 3, .t 4, .t 5, .t 6, .t 9, .t 10, .t 11, .r 7, .t 8, .t 12, .t 13, .t 14] (by kernel_rfl) ?_
      refine SD.take rfl panicBody (op_fieldAddr fa70_0 rfl) rfl rfl ?_
      refine SD.take rfl panicBody (op_load ty33 rfl (by repeat constructor) rfl) rfl rfl ?_
      refine SD.take rfl panicBody (op_eqlF rfl rfl (by omega)) rfl rfl ?_
      refine SD.take rfl panicBody (op_move rfl) rfl rfl ?_
      refine SD.skip rfl panicBody rfl rfl ?_
      refine SD.skip rfl panicBody rfl rfl ?_
      refine SD.skip rfl panicBody rfl rfl ?_
      refine SD.skip rfl panicBody rfl rfl ?_
      refine SD.skip rfl panicBody rfl rfl ?_
      refine SD.skip rfl panicBody rfl rfl ?_
      refine SD.skipF rfl rfl rfl ?_
      refine SD.skip rfl panicBody rfl rfl ?_
      refine SD.skip rfl panicBody rfl rfl ?_
      refine SD.take rfl panicBody (op_pickF rfl rfl) rfl rfl ?_
      refine SD.take rfl panicBody (op_assign rfl) rfl rfl ?_
      refine SD.nil ?_
      show SL _ _ _ _ _ _ _ [] _ _ _
      refine SL.nil <| T.condF rfl <| T.seq <| T.region <| SL.v (op_fieldAddr fa70_1 rfl) <| SL.v (op_load ty3 rfl (by repeat constructor) rfl) ?_
      refine SL.v (op_lssF rfl rfl (by omega)) ?_
      refine SL.mv rfl <| SL.v (op_fieldAddr fa70_1 rfl) <| SL.v (op_load ty3 rfl (by repeat constructor) rfl) ?_
      refine SL.v (op_gtrF rfl rfl (by omega)) ?_
      refine SL.v (op_pickF rfl rfl) <| SL.as rfl <| SL.nil <| T.condF rfl <| T.skip <| T.blk <| T.seq <| T.seq <| T.region <| SL.v (op_fieldAddr fa70_3 rfl) <| SL.v (op_load ty68 rfl (by repeat constructor) rfl) ?_
      refine SL.v (op_lenS Tryz.underlying68 rfl) <| SL.v (op_move (v := .int .i64 ((0 : Nat) : Int)) rfl) <| SL.nil <| T.block <| T.drop B1 (by repeat constructor) ?_
      refine T.loopW (fun m env own X' => ∃ i : Nat, m = rows.length - i ∧ i ≤ rows.length ∧ X3.le X' ∧ nodeL (al.take i) = 0 ∧ env = [(65, .slice Aa rows.length ca), (66, .int .i64 (rows.length : Int)), (67, .int .i64 (i : Int))] ∧ own = []) rows.length ⟨0, by simp, by omega, PMap.le_refl _, by simp [nodeL], rfl, rfl⟩ (by repeat (first | exact Sub.nil | refine Sub.cons rfl ?_)) ?_
      rintro m _ _ X5 ⟨i, rfl, hi, hX5, hz0, rfl, rfl⟩
      rcases Nat.lt_or_ge i rows.length with hil | hil
      · obtain ⟨r2, hr2⟩ : ∃ r2, rows[i]? = some r2 := ⟨_, List.getElem?_eq_getElem hil⟩
        obtain ⟨a, ha2⟩ : ∃ a, al[i]? = some a := ⟨_, List.getElem?_eq_getElem (by omega)⟩
        have hra := hr i a r2 ha2 hr2
        obtain ⟨bA, pre, rfl, hbA⟩ := ha.blk (by omega)
        obtain ⟨_, _, _, _, _, _, _, _, rfl⟩ := hra.form
        have hwa := wtL_mem (List.mem_of_getElem? ha2)
        refine T.seq <| T.region <| SL.v (op_lssT rfl rfl (by omega)) ?_
        refine SL.nil <| T.seq <| T.condT rfl <| T.skip <| T.seq <| T.block <| T.seq <| T.region <| SL.v (op_indexN Tryz.underlying68 ty70 rfl rfl (by omega)) ?_
        refine SL.v (op_loadX ty70 rfl ((hbA.mono hXB).mono hX5) (row_read rc4_len hr2 (by omega))) ?_
        refine SL.w (op_alloc z70) ?_
        rintro _ _ _ ⟨B4, rfl, rfl, rfl⟩
        refine SL.w (op_store ty70 rfl rfl (by repeat constructor) rfl rfl rfl) ?_
        rintro _ _ _ ⟨rfl, rfl⟩
        refine SL.nil <| T.seq <| T.region <| SL.v (op_load ty70 rfl (by repeat constructor) rfl) ?_
        refine SL.w (op_callF en123 (vs := [_]) rfl (ih (by omega) (by omega) ((hra.mono hXB).mono hX5))) ?_
        rintro _ _ X6 ⟨rfl, hX6, rfl⟩
        by_cases hz : nodeE a = 0
        · skip
          refine SL.as rfl <| SL.nil <| T.seq <| T.region <| SL.mv rfl <| SL.v (op_neqF rfl rfl (by omega)) ?_
          refine SL.nil <| T.condF rfl <| T.skip <| T.blk <| T.region <| SL.v (op_addN (q := 1) rfl rfl (by omega)) ?_
          refine SL.mv rfl <| SL.nil <| T.drop B4 (by repeat constructor) ?_
          exact T.backW (rows.length - (i + 1)) (by omega) ⟨i + 1, rfl, by omega, hX5.trans' hX6, nodeL_snoc hz0 ha2 hz, rfl, rfl⟩ (by repeat (first | exact Sub.nil | refine Sub.cons rfl ?_))
        · refine SL.as rfl <| SL.nil <| T.seq <| T.region <| SL.mv rfl <| SL.v (op_neqT rfl rfl (by omega)) ?_
          refine SL.nil <| T.condT rfl <| T.seq <| T.region <| SL.mv rfl <| SL.as rfl <| SL.nil <| T.ret1 rfl (ResIs.tmp rfl) ?_
          rw [node_args hown, nodeL_at hz0 ha2 hz]
      · obtain rfl : i = rows.length := by omega
        rw [show al.take rows.length = al from List.take_of_length_le (by omega)] at hz0
        refine T.seq <| T.region <| SL.v (op_lssF rfl rfl (by omega)) ?_
        refine SL.nil <| T.seq <| T.condF rfl ?_
        refine T.exit (T.exitCode (T.exitCut (T.exitBlk ?_)))
        refine T.seq <| T.region <| SL.v (op_assign (v := .int .i64 ((0 : Nat) : Int)) rfl) <| SL.nil <| T.ret1 rfl (ResIs.tmp rfl) ?_
        rw [node_args hown, hz0]; rfl
/-- The error of an expression. -/
theorem chk_spec {X : PMap} {e : Ex} {r : Row4} (hw : wtE e < 100000000) (h : ExR .u8 X e r) : Spec Tryz.prog 73 [.agg #[r.1, r.2.1, r.2.2.1, r.2.2.2]] X fun u _ => u = .int .i64 (chkE e) := by
  obtain ⟨_, _, _, _, _, _, _, _, rfl⟩ := h.form
  have hd := dep_wt e
  have hs := siz_wt e
  by_cases h1 : 10 < depE e
  · refine Spec.enter Tryz.func73 rfl Tryz.ntmps73 rfl ?_
    intro w0 hw0
    refine T.seq <| T.region <| SL.w (op_box rfl) ?_
    rintro _ _ _ ⟨B1, rfl, rfl, rfl⟩
    refine SL.v (op_assign (v := .int .i64 ((0 : Nat) : Int)) rfl) <| SL.nil <| T.seq <| T.seq <| T.region <| SL.v (op_load ty70 rfl (by repeat constructor) rfl) ?_
    refine SL.w (op_callF en121 (vs := [_]) rfl (depth_spec _ (Nat.le_refl _) (by omega) h)) ?_
    rintro _ _ X1 ⟨rfl, hX1, rfl⟩
    refine SL.v (op_gtrT rfl rfl (by omega)) ?_
    refine SL.mv rfl <| SL.skip rfl rfl ?_
    refine SL.skip rfl rfl ?_
    refine SL.skip rfl rfl ?_
    refine SL.v (op_pickT rfl rfl) <| SL.nil <| T.condT rfl <| T.seq <| T.region <| SL.v (op_assign (v := .int .i64 ((3 : Nat) : Int)) rfl) <| SL.nil <| T.ret1 rfl (ResIs.tmp rfl) ?_
    rw [chkE, if_pos (.inl h1)]; rfl
  · by_cases h2 : 200 < sizE e
    · refine Spec.enter Tryz.func73 rfl Tryz.ntmps73 rfl ?_
      intro w0 hw0
      refine T.seq <| T.region <| SL.w (op_box rfl) ?_
      rintro _ _ _ ⟨B1, rfl, rfl, rfl⟩
      refine SL.v (op_assign (v := .int .i64 ((0 : Nat) : Int)) rfl) <| SL.nil <| T.seq <| T.seq <| T.region <| SL.v (op_load ty70 rfl (by repeat constructor) rfl) ?_
      refine SL.w (op_callF en121 (vs := [_]) rfl (depth_spec _ (Nat.le_refl _) (by omega) h)) ?_
      rintro _ _ X1 ⟨rfl, hX1, rfl⟩
      refine SL.v (op_gtrF rfl rfl (by omega)) ?_
      refine SL.mv rfl <| SL.v (op_load ty70 rfl (by repeat constructor) rfl) ?_
      refine SL.w (op_callF en122 (vs := [_]) rfl (size_spec _ (Nat.le_refl _) (by omega) (h.mono hX1))) ?_
      rintro _ _ X2 ⟨rfl, hX2, rfl⟩
      refine SL.v (op_gtrT rfl rfl (by omega)) ?_
      refine SL.v (op_pickF rfl rfl) <| SL.nil <| T.condT rfl <| T.seq <| T.region <| SL.v (op_assign (v := .int .i64 ((3 : Nat) : Int)) rfl) <| SL.nil <| T.ret1 rfl (ResIs.tmp rfl) ?_
      rw [chkE, if_pos (.inr h2)]; rfl
    · refine Spec.enter Tryz.func73 rfl Tryz.ntmps73 rfl ?_
      intro w0 hw0
      refine T.seq <| T.region <| SL.w (op_box rfl) ?_
      rintro _ _ _ ⟨B1, rfl, rfl, rfl⟩
      refine SL.v (op_assign (v := .int .i64 ((0 : Nat) : Int)) rfl) <| SL.nil <| T.seq <| T.seq <| T.region <| SL.v (op_load ty70 rfl (by repeat constructor) rfl) ?_
      refine SL.w (op_callF en121 (vs := [_]) rfl (depth_spec _ (Nat.le_refl _) (by omega) h)) ?_
      rintro _ _ X1 ⟨rfl, hX1, rfl⟩
      refine SL.v (op_gtrF rfl rfl (by omega)) ?_
      refine SL.mv rfl <| SL.v (op_load ty70 rfl (by repeat constructor) rfl) ?_
      refine SL.w (op_callF en122 (vs := [_]) rfl (size_spec _ (Nat.le_refl _) (by omega) (h.mono hX1))) ?_
      rintro _ _ X2 ⟨rfl, hX2, rfl⟩
      refine SL.v (op_gtrF rfl rfl (by omega)) ?_
      refine SL.v (op_pickF rfl rfl) <| SL.nil <| T.condF rfl <| T.skip <| T.seq <| T.region <| SL.v (op_load ty70 rfl (by repeat constructor) rfl) ?_
      refine SL.w (op_callF en123 (vs := [_]) rfl (node_spec _ (Nat.le_refl _) (by omega) ((h.mono hX1).mono hX2))) ?_
      rintro _ _ X3 ⟨rfl, hX3, rfl⟩
      refine SL.as rfl <| SL.nil <| T.ret1 rfl (ResIs.tmp rfl) ?_
      rw [chkE, if_neg (by omega)]
end Go.Proofs.YtnpcilglilfajaaGreatDoor
namespace Go.Proofs.YtnpcilglilfajaaGreatDoor
open Go.RowKit
end Go.Proofs.YtnpcilglilfajaaGreatDoor
namespace Go.Proofs.YtnpcilglilfajaaGreatDoor
open Go.RowKit
end Go.Proofs.YtnpcilglilfajaaGreatDoor
namespace Go.Proofs.YtnpcilglilfajaaGreatDoor
open Go.RowKit
theorem perm5 {a b c d e : Ow} {G O : Own} : (a :: b :: c :: d :: e :: (G ++ O)).Perm ((a :: b :: c :: d :: e :: O) ++ G) := .cons _ (.cons _ (.cons _ (.cons _ (.cons _ (show (G ++ O).Perm (O ++ G) from List.perm_append_comm)))))
theorem perm4 {a b c d : Ow} {G O : Own} : (a :: b :: c :: d :: (G ++ O)).Perm ((a :: b :: c :: d :: O) ++ G) := .cons _ (.cons _ (.cons _ (.cons _ (show (G ++ O).Perm (O ++ G) from List.perm_append_comm))))
theorem permG {G H O : Own} : (G ++ (H ++ O)).Perm ((G ++ O) ++ H) := by
  rw [List.append_assoc]
  exact List.Perm.append_left G List.perm_append_comm
theorem perm4G {a b c d : Ow} {G H O : Own} : (a :: b :: c :: d :: (G ++ (H ++ O))).Perm ((a :: b :: c :: d :: (G ++ O)) ++ H) := .cons _ (.cons _ (.cons _ (.cons _ (show (G ++ (H ++ O)).Perm ((G ++ O) ++ H) from permG))))
theorem perm5G {a b c d e : Ow} {G H O : Own} : (a :: b :: c :: d :: e :: (G ++ (H ++ O))).Perm ((a :: b :: c :: d :: e :: (G ++ O)) ++ H) := .cons _ perm4G
theorem grow1 {e : TypeId} {b : Nat} {cs : List Value} {size : Nat} (h : cs.length = size) (hm : 1 ≤ maxLen) : GrowS e size (.slice (some ⟨b, 0, none⟩) 1 1) 1 cs [⟨b, cs, e, 1 * size⟩] := .inr ⟨b, 1, rfl, rfl, Nat.le_refl _, hm, by omega⟩
end Go.Proofs.YtnpcilglilfajaaGreatDoor
namespace Go.Proofs.YtnpcilglilfajaaGreatDoor
section
set_option maxRecDepth 100000
theorem bs70 : ∃ i z, Tryz.prog.info? 70 = some i ∧ i.size = 4 ∧ i.zero = some z ∧ z.cells = ([.int .u8 0, .int .i64 0, .slice none 0 0, .slice none 0 0] : List Value).toArray := bs_of (by kernel_rfl)
theorem sl68 : SlT Tryz.prog 68 70 4 64 := ⟨Tryz.underlying68, sl_of (by kernel_rfl) (by decide)⟩
end
open Go.RowKit
mutual
def opsE : Ex → Prop
  | .mk op _ _ al => op < 256 ∧ opsL al
def opsL : List Ex → Prop
  | [] => True
  | a :: al => opsE a ∧ opsL al
end
end Go.Proofs.YtnpcilglilfajaaGreatDoor
namespace Go.Proofs.YtnpcilglilfajaaGreatDoor
section
set_option maxRecDepth 100000
theorem en157 : Enters Tryz.prog 157 := enters_mk Tryz.func157 (by kernel_rfl) rfl
theorem en189 : Enters Tryz.prog 189 := enters_mk Tryz.func189 (by kernel_rfl) rfl
theorem en207 : Enters Tryz.prog 207 := enters_mk Tryz.func207 (by kernel_rfl) rfl
theorem fa192_0 : FAdr Tryz.prog 192 0 0 := fadr_mk Tryz.underlying192 rfl rfl (by kernel_rfl)
theorem ty190 : Ty Tryz.prog 190 false 1 := ⟨⟨_, Tryz.underlying190, rfl⟩, by kernel_rfl⟩
end
open Go.RowKit
section
variable {ro : Option Nat} {P : Program} {n : NM} {w0 : Base} {X0 X : PMap} {own : Own} {env : Env}
/-- A part of a string. -/
theorem op_sliceStr {t : TypeId} {x lo hi : Operand} {s : ByteArray} {l h : Nat} {k k' : IntKind} (ht : P.underlying t = some .string) (hx : eev env x = some (.string s)) (hl : eev env lo = some (.int k (l : Int))) (hh : eev env hi = some (.int k' (h : Int))) (h1 : l ≤ h) (h2 : h ≤ s.size) :
    OpY P n env own X (.slice t x (some lo) (some hi) none) (.string (s.extract l h)) := by
  intro a W oper hop ha _
  have hb : (Instr.sliceBounds false s.size s.size (some (.int k (l : Int))) (some (.int k' (h : Int))) none).run P W = .ok (l, h, s.size) W := by
    simp [Instr.sliceBounds, Instr.sliceBound, asIntOf, h2, h1]
  have : (Instr.sliceAt t (.string s) (some (.int k (l : Int))) (some (.int k' (h : Int))) none).run P W = .ok (.string (s.extract l h)) W := by
    simp only [Instr.sliceAt, Sem.run_bind, run_underlying ht, Result.andThen_ok, Instr.slice]
    simp [hb]
  simp [execOp, hop, ha.eval hx, ha.eval hl, ha.eval hh, this]
theorem op_eqlStr {t t' : TypeId} {x y : Operand} {s s' : ByteArray} (_ht : P.underlying t = some .string) (hx : eev env x = some (.string s)) (hy : eev env y = some (.string s')) : OpY P n env own X (.binOp .eql t x y t') (.bool (s.toList == s'.toList)) := by
  intro a W oper hop ha _
  have h0 : ∀ (e : BinOp) (u v : Operand), eqGuard e t u v (.string s) (.string s') = pure () := fun e u v => by cases e <;> rfl
  have h2 : (Op.stringOp .eql s s').run P W = .ok (.bool (s.toList == s'.toList)) W := by simp [Op.stringOp]
  simp only [execOp, hop, ha.eval hx, ha.eval hy, binOp, h0, Sem.run_bind, Sem.run_pure, Result.andThen_ok, h2]
end
theorem small_spec {X : PMap} (i : Nat) (hi : i < 10) : Spec Tryz.prog 207 [.int .i64 (i : Int)] X fun u _ => u = .string ⟨#[UInt8.ofNat (48 + i)]⟩ := by
  refine Spec.enter Tryz.func207 rfl Tryz.ntmps207 rfl ?_
  intro w0 hw0
  refine T.seq <| T.region <| SL.as rfl <| SL.nil <| T.seq <| T.seq <| T.region <| SL.mv rfl <| SL.v (op_lssT rfl rfl (by omega)) ?_
  refine SL.nil <| T.condT rfl <| T.seq <| T.region <| SL.mv rfl <| SL.mv rfl <| SL.v (op_addN (q := 1) rfl rfl (by omega)) ?_
  refine SL.v (op_sliceStr (l := i) (h := i + 1) Tryz.underlying9 rfl rfl rfl (by omega) (by show i + 1 ≤ 36; omega)) ?_
  refine SL.as rfl <| SL.nil <| T.ret1 rfl (ResIs.tmp rfl) ?_
  congr 1
  match i, hi with
  | 0, _ => rfl
  | 1, _ => rfl
  | 2, _ => rfl
  | 3, _ => rfl
  | 4, _ => rfl
  | 5, _ => rfl
  | 6, _ => rfl
  | 7, _ => rfl
  | 8, _ => rfl
  | 9, _ => rfl
theorem fmtInt_spec {X : PMap} (i : Nat) (hi : i < 10) : Spec Tryz.prog 189 [.int .i64 (i : Int), .int .i64 10] X fun u _ => u = .string ⟨#[UInt8.ofNat (48 + i)]⟩ := by
  refine Spec.enter Tryz.func189 rfl Tryz.ntmps189 rfl ?_
  intro w0 hw0
  refine T.seq <| T.region <| SL.as rfl <| SL.nil <| T.seq <| T.seq <| T.region <| SL.mv rfl <| SL.v (op_eqlT rfl rfl (by omega)) ?_
  refine SL.nil <| T.condT rfl <| T.seq <| T.seq <| T.region <| SL.mv rfl <| SL.v (op_leqT rfl rfl (by omega)) ?_
  refine SL.mv rfl <| SL.mv rfl <| SL.v (op_lssT rfl rfl (by omega)) ?_
  refine SL.v (op_pickT rfl rfl) <| SL.nil <| T.condT rfl <| T.seq <| T.region <| SL.mv rfl <| SL.w (op_callF en207 (vs := [_]) rfl (small_spec i hi)) ?_
  rintro _ _ X1 ⟨rfl, hX1, rfl⟩
  refine SL.as rfl <| SL.nil <| T.ret1 rfl (ResIs.tmp rfl) ?_
  rfl
theorem itoaI_spec {X : PMap} (i : Nat) (hi : i < 10) : Spec Tryz.prog 157 [.int .i64 (i : Int)] X fun u _ => u = .string ⟨#[UInt8.ofNat (48 + i)]⟩ := by
  refine Spec.enter Tryz.func157 rfl Tryz.ntmps157 rfl ?_
  intro w0 hw0
  refine T.seq <| T.region <| SL.as rfl <| SL.nil <| T.seq <| T.region <| SL.mv rfl <| SL.w (op_callF en189 (vs := [_, _]) rfl (fmtInt_spec i hi)) ?_
  rintro _ _ X1 ⟨rfl, hX1, rfl⟩
  refine SL.as rfl <| SL.nil <| T.ret1 rfl (ResIs.tmp rfl) ?_
  rfl
theorem itoa_spec {X : PMap} (i : Nat) (hi : i < 10) : Spec Tryz.prog 109 [.int .i64 (i : Int)] X fun u _ => u = .string ⟨#[UInt8.ofNat (48 + i)]⟩ := by
  refine Spec.enter Tryz.func109 rfl Tryz.ntmps109 rfl ?_
  intro w0 hw0
  refine T.seq <| T.region <| SL.as rfl <| SL.nil <| T.seq <| T.region <| SL.mv rfl <| SL.w (op_callF en157 (vs := [_]) rfl (itoaI_spec i hi)) ?_
  rintro _ _ X1 ⟨rfl, hX1, rfl⟩
  refine SL.as rfl <| SL.nil <| T.ret1 rfl (ResIs.tmp rfl) ?_
  rfl
/-- A builder. -/
abbrev BldO (b : Nat) (p s : Value) : Ow := ⟨b, [p, s], 192, 2⟩
theorem copyCheck_spec {X : PMap} {b : Nat} {p s : Value} (hp : p = .pointer none ∨ p = .pointer (some ⟨b, 0, none⟩)) : SpecM Tryz.prog 156 [.pointer (some ⟨b, 0, none⟩)] X [BldO b p s] fun u L' _ => u = .tuple #[] ∧ L' = [BldO b (.pointer (some ⟨b, 0, none⟩)) s] := by
  rcases hp with rfl | rfl
  · refine SpecM.enter Tryz.func156 rfl Tryz.ntmps156 rfl ?_
    intro w0 X0 own0
    refine T.seq <| T.region <| SL.mv rfl <| SL.v (op_nil rfl) <| SL.v (op_fieldAddr fa192_0 rfl) <| SL.v (op_load ty190 rfl (by repeat constructor) rfl) ?_
    refine SL.v (op_eqlNil Tryz.underlying190 rfl rfl) <| SL.nil <| T.condT rfl <| T.region <| SL.mv rfl <| SL.mv rfl <| SL.v (op_toUns (size := 1) Tryz.underlying190 Tryz.underlying260 (by kernel_rfl) rfl AtO.here (by omega)) ?_
    refine SL.v (op_noEsc Tryz.func188 (by kernel_rfl) (by kernel_rfl) (by kernel_rfl) (by kernel_rfl) rfl) ?_
    refine SL.v (op_fromUns (size := 2) Tryz.underlying260 Tryz.underlying190 (by kernel_rfl) rfl AtO.here (by kernel_rfl)) ?_
    refine SL.v (op_nil rfl) <| SL.v (op_fieldAddr fa192_0 rfl) <| SL.w (op_store ty190 rfl rfl (by repeat constructor) rfl rfl rfl) ?_
    rintro _ _ _ ⟨rfl, rfl⟩
    refine SL.nil <| T.doneM0 [BldO b (.pointer (some ⟨b, 0, none⟩)) s] rfl (List.Perm.refl _) ?_
    exact ⟨PMap.le_refl _, rfl, rfl⟩
  · refine SpecM.enter Tryz.func156 rfl Tryz.ntmps156 rfl ?_
    intro w0 X0 own0
    refine T.seq <| T.region <| SL.mv rfl <| SL.v (op_nil rfl) <| SL.v (op_fieldAddr fa192_0 rfl) <| SL.v (op_load ty190 rfl (by repeat constructor) rfl) ?_
    refine SL.v (op_eqlNil Tryz.underlying190 rfl rfl) <| SL.nil <| T.condF rfl <| T.seq <| T.region <| SL.mv rfl <| SL.v (op_nil rfl) <| SL.v (op_fieldAddr fa192_0 rfl) <| SL.v (op_load ty190 rfl (by repeat constructor) rfl) ?_
    refine SL.mv rfl <| SL.v (op_neqSame (size := 2) Tryz.underlying190 (by kernel_rfl) rfl rfl) ?_
    refine SL.nil <| T.condF rfl <| T.skip <| T.doneM0 [BldO b (.pointer (some ⟨b, 0, none⟩)) s] rfl (List.Perm.refl _) ?_
    exact ⟨PMap.le_refl _, rfl, rfl⟩
end Go.Proofs.YtnpcilglilfajaaGreatDoor
namespace Go.Proofs.YtnpcilglilfajaaGreatDoor
section
set_option maxRecDepth 100000
theorem en106 : Enters Tryz.prog 106 := enters_mk Tryz.func106 (by kernel_rfl) rfl
theorem en107 : Enters Tryz.prog 107 := enters_mk Tryz.func107 (by kernel_rfl) rfl
theorem en108 : Enters Tryz.prog 108 := enters_mk Tryz.func108 (by kernel_rfl) rfl
theorem en109 : Enters Tryz.prog 109 := enters_mk Tryz.func109 (by kernel_rfl) rfl
theorem en110 : Enters Tryz.prog 110 := enters_mk Tryz.func110 (by kernel_rfl) rfl
theorem en156 : Enters Tryz.prog 156 := enters_mk Tryz.func156 (by kernel_rfl) rfl
theorem fa192_1 : FAdr Tryz.prog 192 1 1 := fadr_mk Tryz.underlying192 rfl rfl (by kernel_rfl)
theorem ty44 : Ty Tryz.prog 44 false 1 := ⟨⟨_, Tryz.underlying44, rfl⟩, by kernel_rfl⟩
theorem z192 : Zero Tryz.prog 192 [.pointer none, .slice none 0 0] := ⟨zero_of (by kernel_rfl)⟩
end
open Go.RowKit
/-- The builder's bytes. -/
def BufG (l : List UInt8) (s : Value) (G : Own) : Prop := GrowS 5 1 s l.length (Lib.byteCells l) G
theorem bufg_snoc {l : List UInt8} {c : UInt8} {s : Value} {G : Own} (h : GrowS 5 1 s (l.length + 1) (Lib.byteCells l ++ [.int .u8 (c.toNat : Int)]) G) : BufG (l ++ [c]) s G := by
  unfold BufG
  simpa [Lib.byteCells] using h
theorem writeByte_spec {X : PMap} {b : Nat} {p s : Value} {G : Own} {l : List UInt8} (c : UInt8) (hp : p = .pointer none ∨ p = .pointer (some ⟨b, 0, none⟩)) (hG : BufG l s G) (hl : l.length < 1000000000) :
    SpecM Tryz.prog 106 [.pointer (some ⟨b, 0, none⟩), .int .u8 (c.toNat : Int)] X (BldO b p s :: G) fun u L' _ => u = .nilIface ∧ ∃ s' G', L' = BldO b (.pointer (some ⟨b, 0, none⟩)) s' :: G' ∧ BufG (l ++ [c]) s' G' := by
  obtain ⟨As, cps, rfl⟩ := GrowS.form hG
  refine SpecM.enter Tryz.func106 rfl Tryz.ntmps106 rfl ?_
  intro w0 X0 own0
  show T _ _ _ _ _ _ _ _ _ (BldO b p _ :: (G ++ own0)) _
  refine T.seq <| T.region <| SL.as rfl <| SL.nil <| T.seq <| T.region <| SL.mv rfl <| SL.w (op_callM en156 (vs := [_]) rfl (copyCheck_spec hp) rfl) ?_
  rintro _ _ X1 ⟨_, rfl, hX1, rfl, rfl⟩
  refine SL.nil <| T.seq <| T.region <| SL.mv rfl <| SL.mv rfl <| SL.v (op_nil rfl) <| SL.v (op_fieldAddr fa192_1 rfl) <| SL.v (op_load ty44 rfl (by repeat constructor) rfl) ?_
  refine SL.mv rfl <| SL.w (op_buildSlice Tryz.underlying44 bs5 (qs := [(0, _)]) rfl rfl rfl rfl rfl) ?_
  rintro _ _ _ ⟨B13, rfl, rfl, rfl⟩
  refine SL.perm (own' := ⟨B13, [.int .u8 (c.toNat : Int)], 5, 1⟩ :: ((BldO b (.pointer (some ⟨b, 0, none⟩)) (.slice As l.length cps) :: own0) ++ G)) permL ?_
  refine SL.w (op_appendG (own0 := BldO b (.pointer (some ⟨b, 0, none⟩)) (.slice As l.length cps) :: own0) sl44 rfl hG rfl rfl rfl (by (have : maxLen = 9223372036854775807 := rfl); omega) (by omega)) ?_
  rintro s' _ _ ⟨G', rfl, rfl, hG'⟩
  obtain ⟨As', cps', rfl⟩ := hG'.form
  refine SL.v (op_nil rfl) <| SL.v (op_fieldAddr fa192_1 rfl) <| SL.w (op_store ty44 rfl rfl (by repeat constructor) rfl rfl rfl) ?_
  rintro _ _ _ ⟨rfl, rfl⟩
  refine SL.nil <| T.seq <| T.region <| SL.as rfl <| SL.nil <| T.retM1 (BldO b (.pointer (some ⟨b, 0, none⟩)) _ :: G') rfl (ResIs.tmp rfl) permD ?_
  exact ⟨hX1, rfl, _, G', rfl, bufg_snoc hG'⟩
theorem builderLen_spec {X : PMap} {b : Nat} {p s : Value} {G : Own} {l : List UInt8} (hG : BufG l s G) :
    SpecM Tryz.prog 107 [.pointer (some ⟨b, 0, none⟩)] X [BldO b p s] fun u L' _ => u = .int .i64 (l.length : Int) ∧ L' = [BldO b p s] := by
  obtain ⟨As, cps, rfl⟩ := GrowS.form hG
  refine SpecM.enter Tryz.func107 rfl Tryz.ntmps107 rfl ?_
  intro w0 X0 own0
  refine T.seq <| T.region <| SL.v (op_assign (v := .int .i64 ((0 : Nat) : Int)) rfl) <| SL.nil <| T.seq <| T.region <| SL.mv rfl <| SL.v (op_nil rfl) <| SL.v (op_fieldAddr fa192_1 rfl) <| SL.v (op_load ty44 rfl (by repeat constructor) rfl) ?_
  refine SL.v (op_lenS Tryz.underlying44 rfl) <| SL.as rfl <| SL.nil <| T.retM1 [BldO b p (.slice As l.length cps)] rfl (ResIs.tmp rfl) (List.Perm.refl _) ?_
  exact ⟨PMap.le_refl _, rfl, rfl⟩
theorem writeString_spec {X : PMap} {b : Nat} {p s : Value} {G : Own} {l : List UInt8} (t : List UInt8) (hp : p = .pointer none ∨ p = .pointer (some ⟨b, 0, none⟩)) (hG : BufG l s G) (h0 : l ≠ []) (hl : l.length < 1000000000) (ht : t.length < 1000000000) :
    SpecM Tryz.prog 108 [.pointer (some ⟨b, 0, none⟩), .string ⟨t.toArray⟩] X (BldO b p s :: G) fun u L' _ => u = .tuple #[.int .i64 (t.length : Int), .nilIface] ∧ ∃ s' G', L' = BldO b (.pointer (some ⟨b, 0, none⟩)) s' :: G' ∧ BufG (l ++ t) s' G' := by
  rcases hG with ⟨hz, _⟩ | ⟨g, cap, rfl, rfl, hc1, hc2, hc3⟩
  · exact absurd (List.eq_nil_of_length_eq_zero hz) h0
  refine SpecM.enter Tryz.func108 rfl Tryz.ntmps108 rfl ?_
  intro w0 X0 own0
  show T _ _ _ _ _ _ _ _ _ (BldO b p _ :: ([_] ++ own0)) _
  refine T.seq <| T.region <| SL.v (op_assign (v := .int .i64 ((0 : Nat) : Int)) rfl) <| SL.as rfl <| SL.nil <| T.seq <| T.region <| SL.mv rfl <| SL.w (op_callM en156 (vs := [_]) rfl (copyCheck_spec hp) rfl) ?_
  rintro _ _ X1 ⟨_, rfl, hX1, rfl, rfl⟩
  refine SL.nil <| T.seq <| T.region <| SL.mv rfl <| SL.mv rfl <| SL.v (op_nil rfl) <| SL.v (op_fieldAddr fa192_1 rfl) <| SL.v (op_load ty44 rfl (by repeat constructor) rfl) ?_
  refine SL.mv rfl <| SL.perm (own' := (BldO b (.pointer (some ⟨b, 0, none⟩)) (.slice (some ⟨g, 0, none⟩) l.length cap) :: own0) ++ [⟨g, Lib.byteCells l, 5, cap * 1⟩]) (permA (G := [_])) ?_
  refine SL.w (op_appendStr (own := BldO b (.pointer (some ⟨b, 0, none⟩)) (.slice (some ⟨g, 0, none⟩) l.length cap) :: own0) Tryz.underlying44 Tryz.underlying9 (infoStr_of (by kernel_rfl)) rfl rfl hc1 hc2 hc3 (by show l.length + t.length ≤ _; omega)) ?_
  rintro s' _ _ ⟨G', rfl, rfl, hG', _⟩
  obtain ⟨As', cps', rfl⟩ := hG'.form
  refine SL.v (op_nil rfl) <| SL.v (op_fieldAddr fa192_1 rfl) <| SL.w (op_store ty44 rfl rfl (by repeat constructor) rfl rfl rfl) ?_
  rintro _ _ _ ⟨rfl, rfl⟩
  refine SL.nil <| T.seq <| T.region <| SL.mv rfl <| SL.v (op_lenStr Tryz.underlying9 rfl) <| SL.as rfl <| SL.as rfl <| SL.nil <| T.retM2 (BldO b (.pointer (some ⟨b, 0, none⟩)) _ :: G') rfl (ResIs.tmp rfl) (ResIs.tmp rfl) permD ?_
  refine ⟨hX1, rfl, _, G', rfl, ?_⟩
  have e : Lib.byteCells (l ++ t) = Lib.byteCells l ++ Lib.strCells ⟨t.toArray⟩ := by rw [Lib.byteCells_append]; rfl
  rw [BufG, e, List.length_append]
  exact hG'
theorem builderString_spec {X : PMap} {b : Nat} {p s : Value} {G : Own} {l : List UInt8} (hG : BufG l s G) (h0 : l ≠ []) (hl : l.length < 1000000000) :
    SpecM Tryz.prog 110 [.pointer (some ⟨b, 0, none⟩)] X (BldO b p s :: G) fun u L' _ => u = .string ⟨l.toArray⟩ ∧ L' = [BldO b p s] := by
  rcases hG with ⟨hz, _⟩ | ⟨g, cap, rfl, rfl, hc1, hc2, hc3⟩
  · exact absurd (List.eq_nil_of_length_eq_zero hz) h0
  have hpos : 0 < l.length := List.length_pos_iff.2 h0
  refine SpecM.enter Tryz.func110 rfl Tryz.ntmps110 rfl ?_
  intro w0 X0 own0
  refine T.perm (own' := (BldO b p (.slice (some ⟨g, 0, none⟩) l.length cap) :: own0) ++ [⟨g, Lib.byteCells l, 5, cap * 1⟩]) permC ?_
  refine T.seq <| T.region <| SL.as rfl <| SL.nil <| T.seq <| T.drawG (own0 := BldO b p (.slice (some ⟨g, 0, none⟩) l.length cap) :: own0) (by kernel_rfl) 12 [.t 0, .t 1, .t 2, .t 3, .t 4, .t 5, .t 6, .t 7, .t 8, .t 9, .r 10, .t 11] (by kernel_rfl) ?_
  refine SD.take rfl panicBody (op_move rfl) rfl rfl ?_
  refine SD.take rfl panicBody (op_nil rfl) rfl rfl ?_
  refine SD.take rfl panicBody (op_fieldAddr fa192_1 rfl) rfl rfl ?_
  refine SD.take rfl panicBody (op_load ty44 rfl (by repeat constructor) rfl) rfl rfl ?_
  refine SD.take rfl panicBody (op_sliceData rfl (by omega)) rfl rfl ?_
  refine SD.take rfl panicBody (op_move rfl) rfl rfl ?_
  refine SD.take rfl panicBody (op_nil rfl) rfl rfl ?_
  refine SD.take rfl panicBody (op_fieldAddr fa192_1 rfl) rfl rfl ?_
  refine SD.take rfl panicBody (op_load ty44 rfl (by repeat constructor) rfl) rfl rfl ?_
  refine SD.take rfl panicBody (op_lenS Tryz.underlying44 rfl) rfl rfl ?_
  refine SD.runK rfl (op_unsafeStr Tryz.underlying238 (by kernel_rfl) rfl rfl h0 hc1 hc2) (by rintro _ _ _ ⟨rfl, rfl, rfl⟩; exact ⟨fun p hp => hp, PMap.le_refl _⟩) rfl rfl ?_
  rintro _ _ _ ⟨rfl, rfl, rfl⟩
  refine SD.take rfl panicBody (op_assign rfl) rfl rfl ?_
  refine SD.nil ?_
  show SL _ _ _ _ _ _ _ [] _ _ _
  refine SL.nil <| T.retM1 [BldO b p (.slice (some ⟨g, 0, none⟩) l.length cap)] rfl (ResIs.tmp rfl) (List.Perm.refl _) ?_
  exact ⟨PMap.le_refl _, rfl, rfl⟩
/-- The text of a set of digits, without its last byte. -/
def txtOf (l : List Nat) : List UInt8 := l.foldl (fun acc i => (if 1 < acc.length then acc ++ [32] else acc) ++ [UInt8.ofNat (48 + i)]) [123]
theorem txtOf_succ (l : List Nat) (i : Nat) (h : i < l.length) : txtOf (l.take (i + 1)) = (if 1 < (txtOf (l.take i)).length then txtOf (l.take i) ++ [32] else txtOf (l.take i)) ++ [UInt8.ofNat (48 + l[i])] := by
  unfold txtOf
  rw [List.take_succ_eq_append_getElem h, List.foldl_append]
  rfl
theorem txtOf_len (l : List Nat) : 1 ≤ (txtOf l).length ∧ (txtOf l).length ≤ 1 + 2 * l.length := by
  have key : ∀ (l : List Nat) (acc : List UInt8), 1 ≤ acc.length → 1 ≤ (l.foldl (fun acc i => (if 1 < acc.length then acc ++ [32] else acc) ++ [UInt8.ofNat (48 + i)]) acc).length ∧ (l.foldl (fun acc i => (if 1 < acc.length then acc ++ [32] else acc) ++ [UInt8.ofNat (48 + i)]) acc).length ≤ acc.length + 2 * l.length := by
    intro l
    induction l with
    | nil => intro acc h; simpa using h
    | cons i l ih =>
      intro acc h
      rw [List.foldl_cons]
      have := ih ((if 1 < acc.length then acc ++ [32] else acc) ++ [UInt8.ofNat (48 + i)]) (by simp)
      refine ⟨this.1, Nat.le_trans this.2 ?_⟩
      split <;> simp <;> omega
  have := key l [123] (by simp)
  simpa [txtOf] using this
theorem ints_len_take (l : List Nat) : l.take (ints l).length = l := by simp [ints]
theorem text_spec {X : PMap} (hT : Tab X) {v : Value} {m : Nat} (h : SetR X v m) (hd : ∀ i ∈ mem64 m, i < 10) : Spec Tryz.prog 57 [v] X fun u _ => u = .string ⟨(txtOf (mem64 m) ++ [125]).toArray⟩ := by
  obtain ⟨A, l, c, rfl⟩ := h.form
  have h64 := mem64_length m
  refine Spec.enter Tryz.func57 rfl Tryz.ntmps57 rfl ?_
  intro w0 hw0
  refine T.seq <| T.region <| SL.w (op_box rfl) ?_
  rintro _ _ _ ⟨B1, rfl, rfl, rfl⟩
  refine SL.as rfl <| SL.nil <| T.seq <| T.region <| SL.w (op_alloc z192) ?_
  rintro _ _ _ ⟨B3, rfl, rfl, rfl⟩
  refine SL.nil <| T.seq <| T.region <| SL.w (op_callM en106 (vs := [_, _]) rfl (writeByte_spec (G := []) (l := []) 123 (.inl rfl) GrowS.nil (by simp)) rfl) ?_
  rintro _ _ X1 ⟨_, rfl, hX1, rfl, s1, G1, rfl, hG1⟩
  refine SL.nil <| T.seq <| T.seq <| T.region <| SL.v (op_load ty53 rfl ((AtO.here (l := [])).append (BldO B3 _ s1 :: G1)) rfl) <| SL.w (op_callF en85 (vs := [_]) rfl (all_spec)) ?_
  rintro _ _ X2 ⟨rfl, hX2, B7, rfl, hB7⟩
  refine SL.nil <| T.block <| T.rangeFunc (xs := (ints (mem64 m))) rfl en132 rfl rfl (all_seq ((hT.mono hX1).mono hX2) ((h.mono hX1).mono hX2) hB7) (fun i own' X' => X2.le X' ∧ ∃ s G, BufG (txtOf ((mem64 m).take i)) s G ∧ own' = BldO B3 (.pointer (some ⟨B3, 0, none⟩)) s :: (G ++ [⟨B1, [.slice A l c], 53, 1⟩])) ⟨PMap.le_refl _, s1, G1, hG1, rfl⟩ (fun i own' X' h => h.1) ?_ ?_
  · rintro i x _ X' l' r D hx ⟨hX', s, G, hG, rfl⟩
    obtain ⟨hi, rfl⟩ := ints_some hx
    have hlen := txtOf_len ((mem64 m).take i)
    have hlt : ((mem64 m).take i).length ≤ 64 := by rw [List.length_take]; omega
    have hdi := hd _ (List.getElem_mem hi)
    have hself : (Value.pointer (some ⟨B3, 0, none⟩) = .pointer none ∨ Value.pointer (some ⟨B3, 0, none⟩) = .pointer (some ⟨B3, 0, none⟩)) := .inr rfl
    by_cases h1 : 1 < (txtOf ((mem64 m).take i)).length
    · skip
      refine T.block <| T.seq <| T.seq <| T.region <| SL.w (op_callM en107 (vs := [_]) rfl (builderLen_spec hG) rfl) ?_
      rintro _ _ X3 ⟨_, rfl, hX3, rfl, rfl⟩
      refine SL.v (op_gtrT rfl rfl (by omega)) ?_
      refine SL.nil <| T.condT rfl <| T.region <| SL.w (op_callM en106 (vs := [_, _]) rfl (writeByte_spec 32 hself hG (by omega)) rfl) ?_
      rintro _ _ X4 ⟨_, rfl, hX4, rfl, s4, G4, rfl, hG4⟩
      refine SL.nil <| T.region <| SL.mv rfl <| SL.w (op_callF en109 (vs := [_]) rfl (itoa_spec (mem64 m)[i] hdi)) ?_
      rintro _ _ X5 ⟨rfl, hX5, rfl⟩
      refine SL.w (op_callM en108 (vs := [_, _]) rfl (writeString_spec [UInt8.ofNat (48 + (mem64 m)[i])] hself hG4 (by simp) (by simp; omega) (by simp)) rfl) ?_
      rintro _ _ X6 ⟨_, rfl, hX6, rfl, s6, G6, rfl, hG6⟩
      refine SL.nil <| T.blk ?_
      exact T.roundEnd ⟨(((hX'.trans' hX3).trans' hX4).trans' hX5).trans' hX6, s6, G6, by rw [txtOf_succ _ _ hi, if_pos h1]; exact hG6, rfl⟩
    · refine T.block <| T.seq <| T.seq <| T.region <| SL.w (op_callM en107 (vs := [_]) rfl (builderLen_spec hG) rfl) ?_
      rintro _ _ X3 ⟨_, rfl, hX3, rfl, rfl⟩
      refine SL.v (op_gtrF rfl rfl (by omega)) ?_
      refine SL.nil <| T.condF rfl <| T.skip <| T.region <| SL.mv rfl <| SL.w (op_callF en109 (vs := [_]) rfl (itoa_spec (mem64 m)[i] hdi)) ?_
      rintro _ _ X5 ⟨rfl, hX5, rfl⟩
      refine SL.w (op_callM en108 (vs := [_, _]) rfl (writeString_spec [UInt8.ofNat (48 + (mem64 m)[i])] hself hG (fun e => by rw [e] at hlen; simp at hlen) (by omega) (by simp)) rfl) ?_
      rintro _ _ X6 ⟨_, rfl, hX6, rfl, s6, G6, rfl, hG6⟩
      refine SL.nil <| T.blk ?_
      exact T.roundEnd ⟨((hX'.trans' hX3).trans' hX5).trans' hX6, s6, G6, by rw [txtOf_succ _ _ hi, if_neg h1]; exact hG6, rfl⟩
  · rintro D _ X3 ⟨hX3, s, G, hG, rfl⟩
    rw [ints_len_take] at hG
    have hlen := txtOf_len (mem64 m)
    refine T.blk <| T.seq <| T.region <| SL.w (op_callM en106 (vs := [_, _]) rfl (writeByte_spec 125 (.inr rfl) hG (by omega)) rfl) ?_
    rintro _ _ X4 ⟨_, rfl, hX4, rfl, s4, G4, rfl, hG4⟩
    refine SL.nil <| T.seq <| T.region <| SL.w (op_callM en110 (vs := [_]) rfl (builderString_spec hG4 (by simp) (by simp; omega)) rfl) ?_
    rintro _ _ X5 ⟨_, rfl, hX5, rfl, rfl⟩
    refine SL.as rfl <| SL.nil <| T.ret1 rfl (ResIs.tmp rfl) ?_
    rfl
theorem op_eqlStrT {P : Program} {n : NM} {own : Own} {X : PMap} {env : Env} {t t' : TypeId} {x y : Operand} {s : ByteArray} (ht : P.underlying t = some .string) (hx : eev env x = some (.string s)) (hy : eev env y = some (.string s)) : OpY P n env own X (.binOp .eql t x y t') (.bool true) := by
  have := op_eqlStr (P := P) (n := n) (own := own) (X := X) (t' := t') ht hx hy
  rwa [beq_self_eq_true] at this
end Go.Proofs.YtnpcilglilfajaaGreatDoor
namespace Go.Proofs.YtnpcilglilfajaaGreatDoor
open Go.RowKit
end Go.Proofs.YtnpcilglilfajaaGreatDoor
namespace Go.Proofs.YtnpcilglilfajaaGreatDoor
open Go.RowKit
/-- strconv.Itoa of numbers below M. -/
def ItoaOk (M : Nat) (X : PMap) : Prop := ∀ X' : PMap, X.le X' → ∀ v : Nat, v < M → Spec Tryz.prog 109 [.int .i64 (v : Int)] X' fun u _ => u = .string (decB v)
theorem ItoaOk.mono {M : Nat} {X X' : PMap} (h : ItoaOk M X) (hX : X.le X') : ItoaOk M X' := fun X1 h' v hv => h X1 (hX.trans' h') v hv
end Go.Proofs.YtnpcilglilfajaaGreatDoor
namespace Go.Proofs.YtnpcilglilfajaaGreatDoor
section
set_option maxRecDepth 100000
theorem ty4 : Ty Tryz.prog 4 false 1 := ⟨⟨_, Tryz.underlying4, rfl⟩, by kernel_rfl⟩
theorem ty41 : Ty Tryz.prog 41 false 1 := ⟨⟨_, Tryz.underlying41, rfl⟩, by kernel_rfl⟩
end
open Go.RowKit
structure Con where
  enf : Bool
  kind : Nat
  name : ByteArray
  ex : Ex
abbrev Row7 := Bool × Nat × ByteArray × Row4
def rc7 (r : Row7) : List Value := [.bool r.1, .int .u8 (r.2.1 : Int), .string r.2.2.1, r.2.2.2.1, r.2.2.2.2.1, r.2.2.2.2.2.1, r.2.2.2.2.2.2]
def ConR (X : PMap) (c : Con) (r : Row7) : Prop := r.1 = c.enf ∧ r.2.1 = c.kind ∧ r.2.2.1 = c.name ∧ ExR .u8 X c.ex r.2.2.2
theorem ConR.mono {X X' : PMap} {c : Con} {r : Row7} (h : ConR X c r) (hX : X.le X') : ConR X' c r := ⟨h.1, h.2.1, h.2.2.1, h.2.2.2.mono hX⟩
theorem ConR.form {X : PMap} {c : Con} {r : Row7} (h : ConR X c r) : ∃ (o : Nat) (n : Int) (A B : Option Addr) (l c1 l' c' : Nat), r = (c.enf, c.kind, c.name, .int .u8 (o : Int), .int .i64 n, .slice A l c1, .slice B l' c') := by
  obtain ⟨e, k, s, r4⟩ := r
  obtain ⟨h1, h2, h3, h4⟩ := h
  simp only at h1 h2 h3 h4
  subst h1 h2 h3
  obtain ⟨o, n, A, B, l, c1, l', c', rfl⟩ := h4.form
  exact ⟨_, _, _, _, _, _, _, _, rfl⟩
def ConsR (X : PMap) (v : Value) (cs : List Con) : Prop := ∃ rows : List Row7, RowR rc7 X v rows ∧ rows.length = cs.length ∧ ∀ (i : Nat) (c : Con) (r : Row7), cs[i]? = some c → rows[i]? = some r → ConR X c r
theorem ConsR.mono {X X' : PMap} {v : Value} {cs : List Con} (h : ConsR X v cs) (hX : X.le X') : ConsR X' v cs :=
  let ⟨rows, h1, h2, h3⟩ := h
  ⟨rows, h1.mono hX, h2, fun i c r a b => (h3 i c r a b).mono hX⟩
end Go.Proofs.YtnpcilglilfajaaGreatDoor
namespace Go.Proofs.YtnpcilglilfajaaGreatDoor
open Go.RowKit
section
variable {P : Program} {n : NM} {w0 : Base} {X0 X : PMap} {own : Own} {env : Env}
/-- string(b) of bytes that are known. -/
theorem op_strBytes {src dst e : TypeId} {x : Operand} {a : Addr} {cap : Nat} {l : List UInt8} (hs : P.underlying src = some (.slice e)) (he : P.underlying e = some (.int .u8)) (hd : P.underlying dst = some .string)
    (hx : eev env x = some (.slice (some a) l.length cap)) (hc : ∀ W, Stab own X W → ∀ j (hj : j < l.length), W.cell? (a.add j) = some (.int .u8 (l[j].toNat : Int))) : OpY P n env own X (.convert src dst x) (.string ⟨l.toArray⟩) := by
  intro A W oper hop ha hst
  have hr := run_convert_bytes_back (P := P) W src dst e a cap l hs he hd (hc W hst)
  simp only [execOp, hop, ha.eval hx, Sem.run_bind, Sem.run_pure, Result.andThen_ok, hr]
end
end Go.Proofs.YtnpcilglilfajaaGreatDoor
namespace Go.Proofs.YtnpcilglilfajaaGreatDoor
open Go.RowKit
end Go.Proofs.YtnpcilglilfajaaGreatDoor
namespace Go.Proofs.YtnpcilglilfajaaGreatDoor
open Go.RowKit
structure Itm where
  enf : Bool
  kind : Nat
  name : Nat
  nodes : List Nd
abbrev RowI := Bool × Nat × Nat × Value
def itC (r : RowI) : List Value := [.bool r.1, .int .u8 (r.2.1 : Int), .int .u8 (r.2.2.1 : Int), r.2.2.2]
def ItR (X : PMap) (x : Itm) (r : RowI) : Prop := r.1 = x.enf ∧ r.2.1 = x.kind ∧ r.2.2.1 = x.name ∧ RowR ndC X r.2.2.2 x.nodes
def ItsR (X : PMap) (v : Value) (l : List Itm) : Prop := ∃ rows : List RowI, RowR itC X v rows ∧ rows.length = l.length ∧ ∀ (i : Nat) (x : Itm) (r : RowI), l[i]? = some x → rows[i]? = some r → ItR X x r
theorem ItsR.mono {X X' : PMap} {v : Value} {l : List Itm} (h : ItsR X v l) (hX : X.le X') : ItsR X' v l :=
  let ⟨rows, h1, h2, h3⟩ := h
  ⟨rows, h1.mono hX, h2, fun i x r a b => let ⟨p, q, s, t⟩ := h3 i x r a b; ⟨p, q, s, t.mono hX⟩⟩
/-- The specification's constraints in memory. -/
def rc7i (r : Row7) : List Value := [.bool r.1, .int .i64 (r.2.1 : Int), .string r.2.2.1, r.2.2.2.1, r.2.2.2.2.1, r.2.2.2.2.2.1, r.2.2.2.2.2.2]
def ConRi (X : PMap) (c : Con) (r : Row7) : Prop := r.1 = c.enf ∧ r.2.1 = c.kind ∧ r.2.2.1 = c.name ∧ ExR .i64 X c.ex r.2.2.2
theorem ConRi.mono {X X' : PMap} {c : Con} {r : Row7} (h : ConRi X c r) (hX : X.le X') : ConRi X' c r := ⟨h.1, h.2.1, h.2.2.1, h.2.2.2.mono hX⟩
theorem ConRi.form {X : PMap} {c : Con} {r : Row7} (h : ConRi X c r) : ∃ (o : Nat) (n : Int) (A B : Option Addr) (l c1 l' c' : Nat), r = (c.enf, c.kind, c.name, .int .i64 (o : Int), .int .i64 n, .slice A l c1, .slice B l' c') := by
  obtain ⟨e, k, s, r4⟩ := r
  obtain ⟨h1, h2, h3, h4⟩ := h
  simp only at h1 h2 h3 h4
  subst h1 h2 h3
  obtain ⟨o, n, A, B, l, c1, l', c', rfl⟩ := h4.form
  exact ⟨_, _, _, _, _, _, _, _, rfl⟩
def ConsRi (X : PMap) (v : Value) (cs : List Con) : Prop := ∃ rows : List Row7, RowR rc7i X v rows ∧ rows.length = cs.length ∧ ∀ (i : Nat) (c : Con) (r : Row7), cs[i]? = some c → rows[i]? = some r → ConRi X c r
theorem ConsRi.mono {X X' : PMap} {v : Value} {cs : List Con} (h : ConsRi X v cs) (hX : X.le X') : ConsRi X' v cs :=
  let ⟨rows, h1, h2, h3⟩ := h
  ⟨rows, h1.mono hX, h2, fun i c r a b => (h3 i c r a b).mono hX⟩
end Go.Proofs.YtnpcilglilfajaaGreatDoor
namespace Go.Proofs.YtnpcilglilfajaaGreatDoor
open Go.ChangeShapes Go.WideShapes Go.ChangeAt Go.RowKit Go.Joins Go.Deep
theorem u8_of {z : Int} (h : (Lit.int .u8 z).wf = true) : ∃ b : Nat, z = (b : Int) ∧ b < 256 := by
  simp only [Lit.wf, Bool.and_eq_true, decide_eq_true_eq] at h
  obtain ⟨h1, h2⟩ : (0 : Int) ≤ z ∧ z ≤ 255 := h
  obtain ⟨b, rfl⟩ := Int.eq_ofNat_of_zero_le h1
  exact ⟨b, rfl, by omega⟩
theorem okWide_slice {P : Program} {W : World} {base : Nat} {t e : TypeId} {v : Value} (ht : P.underlying t = some (.slice e)) (h : Value.okWide P W .any base t v) : ∃ A len cap, v = .slice A len cap := by
  simp only [Value.okWide, Cell.okWide, ht] at h
  simp only [Cell.ok, ht] at h
  cases v <;> simp_all
section
variable {H : Type} {enc : TypeId × Value → H} {W : World}
/-- A slice in a field, opened. -/
theorem open_field {α : Type} {rc : α → List Value} {ok : α → Prop} {t e : TypeId} {sz n : Nat} {c : Value} {y : DataW H × List MemPlace} (ht : Tryz.prog.underlying t = some (.slice e)) (hc : Tryz.prog.cellsOf e = sz) (h0 : 0 < sz) (hrc : ∀ x, (rc x).length = sz)
    (hel : ∀ {n : Nat} {cs : List Value} {y : DataW H × List MemPlace}, cs.length = sz → DataW.trod enc Tryz.prog W 0 (fun _ => true) true n e cs = some y → ∃ x, cs = rc x ∧ ok x) (h : DataW.trod enc Tryz.prog W 0 (fun _ => true) true n t [c] = some y) : ∃ (rs : List α), (∀ r ∈ rs, ok r) ∧ RowR rc (heapX W) c rs := by
  have hform : ∃ A len cap, c = .slice A len cap := by
    rcases open_slice ht h with ⟨h1, _⟩ | ⟨a, len, cap, _, _, _, _, h1, _⟩
    · exact ⟨none, 0, 0, by simpa using h1⟩
    · exact ⟨some a, len, cap, by simpa using h1⟩
  obtain ⟨A, len, cap, rfl⟩ := hform
  exact open_rows (d := y.1) (p := y.2) ht hc h0 hrc hel ⟨A, len, cap, rfl⟩ ⟨n, h⟩
end
end Go.Proofs.YtnpcilglilfajaaGreatDoor
namespace Go.Proofs.YtnpcilglilfajaaGreatDoor
open Go.ChangeShapes Go.WideShapes Go.ChangeAt Go.RowKit Go.Joins
end Go.Proofs.YtnpcilglilfajaaGreatDoor
namespace Go.Proofs.YtnpcilglilfajaaGreatDoor
open Go.RowKit
def dig : List Nat → Nat
  | [] => 0
  | b :: l => 256 * dig l + b
def pop8 (b : Nat) : Nat := (List.range 8).countP fun i => b.testBit i
def g1 (b : Nat) : Nat := ((b / 2) &&& 85) + (b &&& 85)
def g2 (b : Nat) : Nat := ((b / 4) &&& 51) + (b &&& 51)
def g3 (b : Nat) : Nat := (b / 16 + b) &&& 15
def msk8 (d : Nat) : Nat → Nat
  | 0 => 0
  | n + 1 => 256 * msk8 d n + d
theorem and_byte (a c : Nat) {b d : Nat} (hb : b < 256) (hd : d < 256) : (256 * a + b) &&& (256 * c + d) = 256 * (a &&& c) + (b &&& d) := by
  have hbd : b &&& d < 2 ^ 8 := Nat.lt_of_le_of_lt Nat.and_le_left hb
  apply Nat.eq_of_testBit_eq
  intro i
  rw [show 256 = 2 ^ 8 from rfl, Nat.testBit_and, Nat.testBit_two_pow_mul_add a (show b < 2 ^ 8 from hb), Nat.testBit_two_pow_mul_add c (show d < 2 ^ 8 from hd), Nat.testBit_two_pow_mul_add (a &&& c) hbd]
  split
  · rw [Nat.testBit_and]
  · rw [Nat.testBit_and]
theorem bytes_all {P : Nat → Bool} (h : (List.range 256).all P = true) {b : Nat} (hb : b < 256) : P b = true := List.all_eq_true.1 h b (List.mem_range.2 hb)
theorem t1 {b t : Nat} (hb : b < 256) (ht : t < 2) : 128 * t + b / 2 < 256 ∧ (128 * t + b / 2) &&& 85 = (b / 2) &&& 85 := by
  have h := bytes_all (P := fun b => (List.range 2).all fun t => decide (128 * t + b / 2 < 256 ∧ (128 * t + b / 2) &&& 85 = (b / 2) &&& 85)) (by decide +kernel) hb
  exact of_decide_eq_true (List.all_eq_true.1 h t (List.mem_range.2 ht))
theorem t2 {b t : Nat} (hb : b < 256) (ht : t < 4) : 64 * t + b / 4 < 256 ∧ (64 * t + b / 4) &&& 51 = (b / 4) &&& 51 := by
  have h := bytes_all (P := fun b => (List.range 4).all fun t => decide (64 * t + b / 4 < 256 ∧ (64 * t + b / 4) &&& 51 = (b / 4) &&& 51)) (by decide +kernel) hb
  exact of_decide_eq_true (List.all_eq_true.1 h t (List.mem_range.2 ht))
def nib (b : Nat) : Prop := b % 16 ≤ 4 ∧ b / 16 ≤ 4
instance (b : Nat) : Decidable (nib b) := inferInstanceAs (Decidable (_ ∧ _))
theorem t3 {b t : Nat} (hb : b < 256) (hn : nib b) (ht : t < 5) : 16 * t + b / 16 + b < 256 ∧ (16 * t + b / 16 + b) &&& 15 = g3 b := by
  have h := bytes_all (P := fun b => (List.range 5).all fun t => decide (nib b → 16 * t + b / 16 + b < 256 ∧ (16 * t + b / 16 + b) &&& 15 = g3 b)) (by decide +kernel) hb
  exact of_decide_eq_true (List.all_eq_true.1 h t (List.mem_range.2 ht)) hn
theorem g1_lt {b : Nat} (hb : b < 256) : g1 b < 256 := of_decide_eq_true (bytes_all (P := fun b => decide (g1 b < 256)) (by decide +kernel) hb)
theorem g2_nib {b : Nat} (hb : b < 256) : g2 (g1 b) < 256 ∧ nib (g2 (g1 b)) := of_decide_eq_true (bytes_all (P := fun b => decide (g2 (g1 b) < 256 ∧ nib (g2 (g1 b)))) (by decide +kernel) hb)
theorem g3_pop {b : Nat} (hb : b < 256) : g3 (g2 (g1 b)) = pop8 b ∧ pop8 b ≤ 8 := of_decide_eq_true (bytes_all (P := fun b => decide (g3 (g2 (g1 b)) = pop8 b ∧ pop8 b ≤ 8)) (by decide +kernel) hb)
theorem f1_dig : ∀ {l : List Nat}, (∀ b ∈ l, b < 256) → ((dig l / 2) &&& msk8 85 l.length) + (dig l &&& msk8 85 l.length) = dig (l.map g1)
  | [], _ => by simp [dig, msk8]
  | b :: l, h => by
    have hb := h b (by simp)
    have ih := f1_dig (l := l) fun c hc => h c (by simp [hc])
    obtain ⟨h1, h2⟩ := t1 hb (show dig l % 2 < 2 from Nat.mod_lt _ (by omega))
    have e : dig (b :: l) / 2 = 256 * (dig l / 2) + (128 * (dig l % 2) + b / 2) := by rw [dig]; omega
    rw [e, List.length_cons, msk8, and_byte _ _ h1 (by omega), h2, dig, and_byte _ _ hb (by omega), List.map_cons, dig, ← ih]
    unfold g1
    omega
theorem f2_dig : ∀ {l : List Nat}, (∀ b ∈ l, b < 256) → ((dig l / 4) &&& msk8 51 l.length) + (dig l &&& msk8 51 l.length) = dig (l.map g2)
  | [], _ => by simp [dig, msk8]
  | b :: l, h => by
    have hb := h b (by simp)
    have ih := f2_dig (l := l) fun c hc => h c (by simp [hc])
    obtain ⟨h1, h2⟩ := t2 hb (show dig l % 4 < 4 from Nat.mod_lt _ (by omega))
    have e : dig (b :: l) / 4 = 256 * (dig l / 4) + (64 * (dig l % 4) + b / 4) := by rw [dig]; omega
    rw [e, List.length_cons, msk8, and_byte _ _ h1 (by omega), h2, dig, and_byte _ _ hb (by omega), List.map_cons, dig, ← ih]
    unfold g2
    omega
theorem dig_mod : ∀ {l : List Nat}, (∀ b ∈ l, b < 256 ∧ nib b) → dig l % 16 < 5
  | [], _ => by simp [dig]
  | b :: l, h => by
    obtain ⟨h1, h2, h3⟩ := h b (by simp)
    rw [dig]; omega
theorem f3_dig : ∀ {l : List Nat}, (∀ b ∈ l, b < 256 ∧ nib b) → (dig l / 16 + dig l) &&& msk8 15 l.length = dig (l.map g3)
  | [], _ => by simp [dig, msk8]
  | b :: l, h => by
    obtain ⟨hb, hn⟩ := h b (by simp)
    have ih := f3_dig (l := l) fun c hc => h c (by simp [hc])
    obtain ⟨h1, h2⟩ := t3 hb hn (dig_mod (l := l) fun c hc => h c (by simp [hc]))
    have e : dig (b :: l) / 16 + dig (b :: l) = 256 * (dig l / 16 + dig l) + (16 * (dig l % 16) + b / 16 + b) := by rw [dig]; omega
    rw [e, List.length_cons, msk8, and_byte _ _ h1 (by omega), h2, ih, List.map_cons, dig]
def cntB (n m : Nat) : Nat := (List.range n).countP fun i => m.testBit i
theorem cnt_dig : ∀ {l : List Nat}, (∀ b ∈ l, b < 256) → cntB (8 * l.length) (dig l) = (l.map pop8).sum
  | [], _ => rfl
  | b :: l, h => by
    have hb := h b (by simp)
    have ih := cnt_dig (l := l) fun c hc => h c (by simp [hc])
    have e1 : ∀ i, (dig (b :: l)).testBit i = if i < 8 then b.testBit i else (dig l).testBit (i - 8) := fun i => by
      rw [dig, show 256 = 2 ^ 8 from rfl, Nat.testBit_two_pow_mul_add _ (show b < 2 ^ 8 from hb)]
    rw [List.length_cons, List.map_cons, List.sum_cons, ← ih, cntB, show 8 * (l.length + 1) = 8 + 8 * l.length by omega, List.range_add, List.countP_append, List.countP_map]
    congr 1
    · rw [pop8]
      refine List.countP_congr fun i hi => ?_
      rw [e1, if_pos (List.mem_range.1 hi)]
    · rw [cntB]
      refine List.countP_congr fun i _ => ?_
      show (dig (b :: l)).testBit (8 + i) = true ↔ _
      rw [e1, if_neg (by omega), Nat.add_sub_cancel_left]
/-- The bytes of a word. -/
def bytesN : Nat → Nat → List Nat
  | 0, _ => []
  | n + 1, m => m % 256 :: bytesN n (m / 256)
theorem bytesN_lt : ∀ (n m : Nat), ∀ b ∈ bytesN n m, b < 256
  | 0, _, _, h => by cases h
  | n + 1, m, b, h => by
    rcases List.mem_cons.1 h with rfl | h
    · exact Nat.mod_lt _ (by omega)
    · exact bytesN_lt n _ b h
theorem bytesN_dig : ∀ (n m : Nat), m < 256 ^ n → dig (bytesN n m) = m
  | 0, m, h => by simp at h; simp [bytesN, dig, h]
  | n + 1, m, h => by
    rw [bytesN, dig, bytesN_dig n (m / 256) (Nat.div_lt_of_lt_mul (by rw [Nat.pow_succ] at h; omega))]
    omega
theorem dig_lt : ∀ {l : List Nat} {k : Nat}, l.length = k → (∀ b ∈ l, b < 256) → dig l < 256 ^ k
  | [], k, e, _ => by subst e; decide
  | b :: l, k, e, h => by
    subst e
    have h1 := dig_lt (l := l) rfl fun c hc => h c (by simp [hc])
    have h2 := h b (by simp)
    rw [dig, List.length_cons, Nat.pow_succ]; omega
theorem div_lo {x lo hi k : Nat} (h : x = lo + k * hi) (hl : lo < k) : x / k = hi := by
  subst h
  rw [Nat.add_mul_div_left _ _ (Nat.zero_lt_of_lt hl), Nat.div_eq_of_lt hl, Nat.zero_add]
/-- The sum of eight small bytes. -/
theorem sum8 {a0 a1 a2 a3 a4 a5 a6 a7 c c1 c2 c3 c4 c5 c6 : Nat} (b0 : a0 ≤ 8) (b1 : a1 ≤ 8) (b2 : a2 ≤ 8) (b3 : a3 ≤ 8) (b4 : a4 ≤ 8) (b5 : a5 ≤ 8) (b6 : a6 ≤ 8) (b7 : a7 ≤ 8) (h6 : c6 = a6 + 256 * a7) (h5 : c5 = a5 + 256 * c6) (h4 : c4 = a4 + 256 * c5) (h3 : c3 = a3 + 256 * c4) (h2 : c2 = a2 + 256 * c3) (h1 : c1 = a1 + 256 * c2) (hc : c = a0 + 256 * c1) :
    c + c / 256 < 18446744073709551616 ∧ (c + c / 256) + (c + c / 256) / 65536 < 18446744073709551616 ∧ ((c + c / 256) + (c + c / 256) / 65536) + ((c + c / 256) + (c + c / 256) / 65536) / 4294967296 < 9223372036854775808 ∧ (((c + c / 256) + (c + c / 256) / 65536) + ((c + c / 256) + (c + c / 256) / 65536) / 4294967296) % 128 = a0 + (a1 + (a2 + (a3 + (a4 + (a5 + (a6 + a7)))))) := by
  have hb : c ≤ 578721382704613384 := by
    have q6 : c6 ≤ 2056 := by omega
    have q5 : c5 ≤ 526344 := by clear h4 h3 h2 h1 hc; omega
    have q4 : c4 ≤ 134744072 := by clear h6 h3 h2 h1 hc; omega
    have q3 : c3 ≤ 34494482440 := by clear h6 h5 h2 h1 hc; omega
    have q2 : c2 ≤ 8830587504648 := by clear h6 h5 h4 h1 hc; omega
    have q1 : c1 ≤ 2260630401189896 := by clear h6 h5 h4 h3 hc; omega
    clear h6 h5 h4 h3 h2 h1; omega
  have e1 : c / 256 = c1 := div_lo (lo := a0) hc (by omega)
  have e2 : (c + c1) / 65536 = c2 + c3 := div_lo (lo := (a0 + a1) + 256 * (a1 + a2)) (by clear b0 b1 b2 b3 b4 b5 b6 b7 h6 h5 h4 hb e1; omega) (by omega)
  have e3 : ((c + c1) + (c2 + c3)) / 4294967296 = (c4 + c5) + (c6 + a7) := div_lo (lo := (a0 + a1 + a2 + a3) + 256 * (a1 + a2 + a3 + a4) + 65536 * (a2 + a3 + a4 + a5) + 16777216 * (a3 + a4 + a5 + a6)) (by clear b0 b1 b2 b3 b4 b5 b6 b7 hb e1 e2; omega) (by clear h6 h5 h4 h3 h2 h1 hc hb e1 e2; omega)
  rw [e1, e2, e3]
  have i1 : c1 ≤ c := by clear h6 h5 h4 h3 h2 h1 e1 e2 e3 hb; omega
  have i2 : c2 ≤ c1 := by clear h6 h5 h4 h3 h2 hc e1 e2 e3 hb; omega
  have i3 : c3 ≤ c2 := by clear h6 h5 h4 h3 h1 hc e1 e2 e3 hb; omega
  have i4 : c4 ≤ c3 := by clear h6 h5 h4 h2 h1 hc e1 e2 e3 hb; omega
  have i5 : c5 ≤ c4 := by clear h6 h5 h3 h2 h1 hc e1 e2 e3 hb; omega
  have i6 : c6 ≤ c5 := by clear h6 h4 h3 h2 h1 hc e1 e2 e3 hb; omega
  have i7 : a7 ≤ c6 := by clear h5 h4 h3 h2 h1 hc e1 e2 e3 hb; omega
  refine ⟨by clear h6 h5 h4 h3 h2 h1 hc e1 e2 e3; omega, by clear h6 h5 h4 h3 h2 h1 hc e1 e2 e3; omega, by clear h6 h5 h4 h3 h2 h1 hc e1 e2 e3; omega, ?_⟩
  have hs : ((c + c1) + (c2 + c3)) + ((c4 + c5) + (c6 + a7)) = (a0 + (a1 + (a2 + (a3 + (a4 + (a5 + (a6 + a7))))))) + 128 * (2 * ((c1 + c2) + (c3 + c4) + (c5 + c6) + a7)) := by
    clear b0 b1 b2 b3 b4 b5 b6 b7 hb e1 e2 e3 i1 i2 i3 i4 i5 i6 i7; omega
  rw [hs, Nat.add_mul_mod_self_left, Nat.mod_eq_of_lt]
  clear h6 h5 h4 h3 h2 h1 hc e1 e2 e3 hb i1 i2 i3 i4 i5 i6 i7 hs; omega
theorem dig_nib : ∀ {l : List Nat} {k : Nat}, l.length = k → (∀ b ∈ l, b < 256 ∧ nib b) → 255 * dig l ≤ 68 * (256 ^ k - 1)
  | [], k, e, _ => by subst e; decide
  | b :: l, k, e, h => by
    subst e
    have h1 := dig_nib (l := l) rfl fun c hc => h c (by simp [hc])
    obtain ⟨h2, h3, h4⟩ := h b (by simp)
    have hp : 0 < 256 ^ l.length := Nat.pow_pos (by omega)
    rw [dig, List.length_cons, Nat.pow_succ]
    omega
/-- The three masks, the three sums. -/
theorem swar {m : Nat} (hm : m < 18446744073709551616) : ∃ a b c : Nat, (m >>> 1 &&& 6148914691236517205) + (m &&& 6148914691236517205) = a ∧ a < 18446744073709551616 ∧ (a >>> 2 &&& 3689348814741910323) + (a &&& 3689348814741910323) = b ∧ b < 18446744073709551616 ∧ b >>> 4 + b < 18446744073709551616 ∧ (b >>> 4 + b) &&& 1085102592571150095 = c ∧ c + c >>> 8 < 18446744073709551616 ∧
    (c + c >>> 8) + (c + c >>> 8) >>> 16 < 18446744073709551616 ∧ ((c + c >>> 8) + (c + c >>> 8) >>> 16) + ((c + c >>> 8) + (c + c >>> 8) >>> 16) >>> 32 < 9223372036854775808 ∧ (((c + c >>> 8) + (c + c >>> 8) >>> 16) + ((c + c >>> 8) + (c + c >>> 8) >>> 16) >>> 32) % 128 = cntB 64 m ∧ cntB 64 m ≤ 64 := by
  have hb := bytesN_lt 8 m
  have hd := bytesN_dig 8 m hm
  have hl : (bytesN 8 m).length = 8 := rfl
  generalize bytesN 8 m = l at *
  subst hd
  have e1 := f1_dig hb
  have hb1 : ∀ b ∈ l.map g1, b < 256 := fun b h => by obtain ⟨c, hc, rfl⟩ := List.mem_map.1 h; exact g1_lt (hb c hc)
  have e2 := f2_dig hb1
  have hb2 : ∀ b ∈ (l.map g1).map g2, b < 256 ∧ nib b := fun b h => by
    obtain ⟨d, hd, rfl⟩ := List.mem_map.1 h
    obtain ⟨c, hc, rfl⟩ := List.mem_map.1 hd
    exact g2_nib (hb c hc)
  have e3 := f3_dig hb2
  have hc := cnt_dig hb
  have q1 := dig_lt (k := 8) (by rw [List.length_map, hl]) hb1
  have q2 := dig_lt (l := (l.map g1).map g2) (k := 8) (by rw [List.length_map, List.length_map, hl]) fun b h => (hb2 b h).1
  rw [List.length_map, hl] at e2
  rw [List.length_map, List.length_map, hl] at e3
  rw [hl] at e1 hc
  have k1 : msk8 85 8 = 6148914691236517205 := by decide +kernel
  have k2 : msk8 51 8 = 3689348814741910323 := by decide +kernel
  have k3 : msk8 15 8 = 1085102592571150095 := by decide +kernel
  rw [k1] at e1
  rw [k2] at e2
  rw [k3] at e3
  have hpop : ((l.map g1).map g2).map g3 = l.map pop8 := by
    rw [List.map_map, List.map_map]
    exact List.map_congr_left fun b h => (g3_pop (hb b h)).1
  rw [hpop] at e3
  have hpl : (l.map pop8).length = 8 := by rw [List.length_map, hl]
  have hp8 : ∀ p ∈ l.map pop8, p ≤ 8 := fun p h => by obtain ⟨c, hc, rfl⟩ := List.mem_map.1 h; exact (g3_pop (hb c hc)).2
  refine ⟨dig (l.map g1), dig ((l.map g1).map g2), dig (l.map pop8), by rw [Nat.shiftRight_eq_div_pow]; exact e1, q1, by rw [Nat.shiftRight_eq_div_pow]; exact e2, q2, ?_, by rw [Nat.shiftRight_eq_div_pow]; exact e3, ?_⟩
  · have hm68 := dig_nib (l := (l.map g1).map g2) (k := 8) (by rw [List.length_map, List.length_map, hl]) fun b h => hb2 b h
    rw [Nat.shiftRight_eq_div_pow]
    omega
  · rw [show (64 : Nat) = 8 * 8 from rfl, hc]
    generalize l.map pop8 = p at *
    match p, hpl with
    | [a0, a1, a2, a3, a4, a5, a6, a7], _ =>
      have b0 := hp8 a0 (by simp)
      have b1 := hp8 a1 (by simp)
      have b2 := hp8 a2 (by simp)
      have b3 := hp8 a3 (by simp)
      have b4 := hp8 a4 (by simp)
      have b5 := hp8 a5 (by simp)
      have b6 := hp8 a6 (by simp)
      have b7 := hp8 a7 (by simp)
      obtain ⟨s1, s2, s3, s4⟩ := sum8 (c := dig [a0, a1, a2, a3, a4, a5, a6, a7]) (c1 := dig [a1, a2, a3, a4, a5, a6, a7]) (c2 := dig [a2, a3, a4, a5, a6, a7]) (c3 := dig [a3, a4, a5, a6, a7]) (c4 := dig [a4, a5, a6, a7]) (c5 := dig [a5, a6, a7]) (c6 := dig [a6, a7]) b0 b1 b2 b3 b4 b5 b6 b7 (by simp [dig]; omega) (by rw [dig, Nat.add_comm]) (by rw [dig, Nat.add_comm]) (by rw [dig, Nat.add_comm]) (by rw [dig, Nat.add_comm]) (by rw [dig, Nat.add_comm]) (by rw [dig, Nat.add_comm])
      have e8 : ∀ x : Nat, x >>> 8 = x / 256 := fun x => by rw [Nat.shiftRight_eq_div_pow]
      have e16 : ∀ x : Nat, x >>> 16 = x / 65536 := fun x => by rw [Nat.shiftRight_eq_div_pow]
      have e32 : ∀ x : Nat, x >>> 32 = x / 4294967296 := fun x => by rw [Nat.shiftRight_eq_div_pow]
      rw [e8, e16, e32]
      have hs : [a0, a1, a2, a3, a4, a5, a6, a7].sum = a0 + (a1 + (a2 + (a3 + (a4 + (a5 + (a6 + a7)))))) := by simp
      rw [hs]
      exact ⟨s1, s2, s3, s4, by omega⟩
theorem cnt_le (m : Nat) : cntB 64 m ≤ 64 := Nat.le_trans List.countP_le_length (by rw [List.length_range]; exact Nat.le_refl _)
end Go.Proofs.YtnpcilglilfajaaGreatDoor
namespace Go.Proofs.YtnpcilglilfajaaGreatDoor
open Go.RowKit
inductive Fm where
  | mk (op : Nat) (n : Int) (rs : List Nat) (al : List Fm)
def Fm.op : Fm → Nat
  | .mk op _ _ _ => op
def Fm.al : Fm → List Fm
  | .mk _ _ _ al => al
mutual
def depF : Fm → Nat
  | .mk _ _ _ al => depFL al + 1
def depFL : List Fm → Nat
  | [] => 0
  | a :: al => max (depF a) (depFL al)
end
mutual
def sizF : Fm → Nat
  | .mk _ _ _ al => sizFL al + 1
def sizFL : List Fm → Nat
  | [] => 0
  | a :: al => sizF a + sizFL al
end
mutual
/-- Room in memory. -/
def wtF : Fm → Nat
  | .mk _ _ rs al => rs.length + wtFL al + 1
def wtFL : List Fm → Nat
  | [] => 0
  | a :: al => wtF a + wtFL al
end
theorem depFL_snoc (a : Fm) : ∀ l : List Fm, depFL (l ++ [a]) = max (depFL l) (depF a)
  | [] => by simp [depFL]
  | b :: l => by rw [List.cons_append, depFL, depFL, depFL_snoc a l]; omega
theorem sizFL_snoc (a : Fm) : ∀ l : List Fm, sizFL (l ++ [a]) = sizFL l + sizF a
  | [] => by simp [sizFL]
  | b :: l => by rw [List.cons_append, sizFL, sizFL, sizFL_snoc a l]; omega
theorem wtFL_app (b : List Fm) : ∀ l : List Fm, wtFL (l ++ b) = wtFL l + wtFL b
  | [] => by simp [wtFL]
  | a :: l => by rw [List.cons_append, wtFL, wtFL, wtFL_app b l]; omega
theorem wtFL_snoc (a : Fm) (l : List Fm) : wtFL (l ++ [a]) = wtFL l + wtF a := by rw [wtFL_app]; simp [wtFL]
theorem wtFL_mem {a : Fm} : ∀ {l : List Fm}, a ∈ l → wtF a ≤ wtFL l
  | b :: l, h => by
    rw [wtFL]
    rcases List.mem_cons.1 h with rfl | h
    · omega
    · have := wtFL_mem h; omega
theorem wtF_pos (f : Fm) : 1 ≤ wtF f := by cases f; rw [wtF]; omega
theorem wtFL_len : ∀ l : List Fm, l.length ≤ wtFL l
  | [] => Nat.zero_le _
  | a :: l => by rw [wtFL, List.length_cons]; have := wtFL_len l; have := wtF_pos a; omega
mutual
theorem dep_wtF : ∀ f : Fm, depF f ≤ wtF f
  | .mk _ _ _ al => by rw [depF, wtF]; have := dep_wtFL al; omega
theorem dep_wtFL : ∀ l : List Fm, depFL l ≤ wtFL l
  | [] => Nat.zero_le _
  | a :: l => by rw [depFL, wtFL]; have := dep_wtF a; have := dep_wtFL l; omega
end
mutual
theorem siz_wtF : ∀ f : Fm, sizF f ≤ wtF f
  | .mk _ _ _ al => by rw [sizF, wtF]; have := siz_wtFL al; omega
theorem siz_wtFL : ∀ l : List Fm, sizFL l ≤ wtFL l
  | [] => Nat.zero_le _
  | a :: l => by rw [sizFL, wtFL]; have := siz_wtF a; have := siz_wtFL l; omega
end
def argF (op : Nat) : Nat := if op < 7 then 0 else if op = 7 then 1 else 2
def leaF (op : Nat) : Nat := if op = 4 ∨ op = 5 ∨ op = 6 then 1 else 0
def mosF (op : Nat) : Nat := if op = 4 ∨ op = 6 then 1 else if op = 5 then 8 else 0
/-- The error of an operator without its operands. -/
def ownF (op : Nat) (n : Int) (rs : List Nat) (k : Nat) : Int :=
  if op < 1 ∨ 16 < op ∨ k ≠ argF op then 1 else if (op ≠ 1 ∧ n ≠ 0) ∨ rs.length < leaF op ∨ mosF op < rs.length then 6 else if n < 0 ∨ 999999 < n then 2 else if ∃ r ∈ rs, r < 1 ∨ 63 < r then 2 else if ¬rs.Nodup then 5 else 0
/-- Operators that a kind does not take; 0: any kind. -/
def kinF (kind op : Nat) : Prop := (kind = 3 ∧ (op = 4 ∨ op = 5)) ∨ (kind ≠ 0 ∧ kind ≠ 3 ∧ op = 6)
instance (kind op : Nat) : Decidable (kinF kind op) := inferInstanceAs (Decidable (_ ∨ _))
mutual
/-- The first error of the operators. -/
def insF (kind : Nat) : Fm → Int
  | .mk op n rs al => if ownF op n rs al.length ≠ 0 then ownF op n rs al.length else if kinF kind op then 10 else insFL kind al
def insFL (kind : Nat) : List Fm → Int
  | [] => 0
  | a :: al => if insF kind a ≠ 0 then insF kind a else insFL kind al
end
def resT (op : Nat) : Nat := if op = 1 ∨ op = 5 ∨ op = 6 ∨ op = 16 then 2 else 1
def wanT (op : Nat) : Nat := if 11 ≤ op then 2 else 1
mutual
/-- Whether all operands have the types that their operators need. -/
def fitF : Fm → Bool
  | .mk op _ _ al => fitFL (wanT op) al
def fitFL (w : Nat) : List Fm → Bool
  | [] => true
  | a :: al => decide (resT a.op = w) && fitF a && fitFL w al
end
def lookF (kind : Nat) (f : Fm) : Int := if 10 < depF f ∨ 200 < sizF f then 3 else insF kind f
def typF (f : Fm) : Nat × Int := if lookF 0 f ≠ 0 then (0, lookF 0 f) else if fitF f = false then (0, 10) else (resT f.op, 0)
/-- The numbers of a list, as a set. -/
def mskF (l : List Nat) : Nat := l.foldl (fun m i => m ||| 2 ^ i) 0
mutual
def menF : Fm → Nat
  | .mk _ _ rs al => mskF rs ||| menFL al
def menFL : List Fm → Nat
  | [] => 0
  | a :: al => menF a ||| menFL al
end
def chkF (kind : Nat) (f : Fm) : Int := if kind < 1 ∨ 3 < kind then 1 else if lookF kind f ≠ 0 then lookF kind f else if fitF f = false ∨ resT f.op ≠ 1 then 10 else if kind ≠ 3 ∧ 8 < cntB 64 (menF f) then 3 else 0
theorem insFL_app (kind : Nat) (b : List Fm) : ∀ l : List Fm, insFL kind (l ++ b) = if insFL kind l ≠ 0 then insFL kind l else insFL kind b
  | [] => by simp [insFL]
  | a :: l => by
    rw [List.cons_append, insFL, insFL, insFL_app kind b l]
    by_cases h : insF kind a ≠ 0
    · rw [if_pos h, if_pos h, if_pos h]
    · rw [if_neg h, if_neg h]
theorem fitFL_app (w : Nat) (b : List Fm) : ∀ l : List Fm, fitFL w (l ++ b) = (fitFL w l && fitFL w b)
  | [] => by simp [fitFL]
  | a :: l => by rw [List.cons_append, fitFL, fitFL, fitFL_app w b l]; simp only [Bool.and_assoc]
theorem menFL_app (b : List Fm) : ∀ l : List Fm, menFL (l ++ b) = menFL l ||| menFL b
  | [] => by simp [menFL]
  | a :: l => by rw [List.cons_append, menFL, menFL, menFL_app b l, Nat.or_assoc]
/-- The bit of a set. -/
theorem mskF_bit (l : List Nat) (j : Nat) : (mskF l).testBit j = decide (j ∈ l) := by
  have key : ∀ (l : List Nat) (m : Nat), (l.foldl (fun m i => m ||| 2 ^ i) m).testBit j = (m.testBit j || decide (j ∈ l)) := by
    intro l
    induction l with
    | nil => intro m; simp
    | cons i l ih =>
      intro m
      rw [List.foldl_cons, ih, Nat.testBit_or, Nat.testBit_two_pow]
      by_cases h : i = j
      · subst h; simp
      · have h' : j ≠ i := fun e => h e.symm
        simp [h, h']
  rw [mskF, key]
  simp
/-- As many members as numbers: exactly if no number stands twice. -/
theorem cnt_msk {l : List Nat} (h : ∀ r ∈ l, r < 64) : cntB 64 (mskF l) = l.length ↔ l.Nodup := by
  have e : cntB 64 (mskF l) = ((List.range 64).filter fun i => decide (i ∈ l)).length := by
    rw [cntB, List.countP_eq_length_filter]
    congr 2
    funext i
    exact mskF_bit l i
  rw [e]
  have hn : ((List.range 64).filter fun i => decide (i ∈ l)).Nodup := List.Pairwise.filter _ List.nodup_range
  have hsub : ∀ i ∈ (List.range 64).filter (fun i => decide (i ∈ l)), i ∈ l := fun i hi => by simpa using (List.mem_filter.1 hi).2
  have hsup : ∀ i ∈ l, i ∈ (List.range 64).filter (fun i => decide (i ∈ l)) := fun i hi => List.mem_filter.2 ⟨List.mem_range.2 (h i hi), by simpa using hi⟩
  generalize (List.range 64).filter (fun i => decide (i ∈ l)) = q at *
  clear e
  constructor
  · intro hlen
    clear h
    induction l generalizing q with
    | nil => exact List.nodup_nil
    | cons a l ih =>
      have ha := hsup a (by simp)
      have hql : (q.erase a).length = l.length := by
        have := List.length_erase_of_mem ha
        rw [List.length_cons] at hlen; omega
      have h1 : ∀ i ∈ q.erase a, i ∈ l := fun i hi => by
        obtain ⟨h1, h2⟩ := hn.mem_erase_iff.1 hi
        rcases List.mem_cons.1 (hsub i h2) with e | e
        · exact absurd e h1
        · exact e
      have hal : a ∉ l := fun hal => by
        have hpig : ∀ (q l : List Nat), q.Nodup → (∀ i ∈ q, i ∈ l) → q.length ≤ l.length := by
          intro q
          induction q with
          | nil => intro l _ _; exact Nat.zero_le _
          | cons b q ihq =>
            intro l hn hs
            have hb := hs b (by simp)
            have := ihq (l.erase b) (List.nodup_cons.1 hn).2 fun i hi => (List.mem_erase_of_ne (fun e => (List.nodup_cons.1 hn).1 (by rw [← e]; exact hi))).2 (hs i (by simp [hi]))
            rw [List.length_erase_of_mem hb] at this
            have := List.length_pos_of_mem hb
            rw [List.length_cons]; omega
        have := hpig q l hn fun i hi => by
          rcases List.mem_cons.1 (hsub i hi) with e | e
          · exact e ▸ hal
          · exact e
        rw [List.length_cons] at hlen; omega
      have h2 : ∀ i ∈ l, i ∈ q.erase a := fun i hi => (List.mem_erase_of_ne (fun e => hal (by rw [← e]; exact hi))).2 (hsup i (by simp [hi]))
      exact List.nodup_cons.2 ⟨hal, ih (q.erase a) (hn.erase a) h1 h2 hql⟩
  · intro hl
    have hperm : ∀ (q l : List Nat), q.Nodup → l.Nodup → (∀ i ∈ q, i ∈ l) → q.length ≤ l.length := by
      intro q
      induction q with
      | nil => intro l _ _ _; exact Nat.zero_le _
      | cons b q ihq =>
        intro l hn hl hs
        have hb := hs b (by simp)
        have := ihq (l.erase b) (List.nodup_cons.1 hn).2 (hl.erase b) fun i hi => (List.mem_erase_of_ne (fun e => (List.nodup_cons.1 hn).1 (by rw [← e]; exact hi))).2 (hs i (by simp [hi]))
        rw [List.length_erase_of_mem hb] at this
        have := List.length_pos_of_mem hb
        rw [List.length_cons]; omega
    have a1 := hperm q l hn hl hsub
    have a2 := hperm l q hl hn hsup
    omega
theorem ownF_ok {op k : Nat} {n : Int} {rs : List Nat} (h : ownF op n rs k = 0) : 1 ≤ op ∧ op ≤ 16 ∧ k = argF op ∧ (op ≠ 1 → n = 0) ∧ leaF op ≤ rs.length ∧ rs.length ≤ mosF op ∧ 0 ≤ n ∧ n ≤ 999999 ∧ (∀ r ∈ rs, 1 ≤ r ∧ r ≤ 63) ∧ rs.Nodup := by
  unfold ownF at h
  split at h
  · cases h
  · rename_i c1
    split at h
    · cases h
    · rename_i c2
      split at h
      · cases h
      · rename_i c3
        split at h
        · cases h
        · rename_i c4
          split at h
          · cases h
          · rename_i c5
            refine ⟨by omega, by omega, by omega, fun ho => ?_, by omega, by omega, by omega, by omega, fun r hr => ?_, Classical.not_not.1 c5⟩
            · rcases Classical.em (n = 0) with hn | hn
              · exact hn
              · exact absurd (.inl ⟨ho, hn⟩) c2
            · have h7 : ¬(r < 1 ∨ 63 < r) := fun hh => c4 ⟨r, hr, hh⟩
              omega
theorem insF_ok {kind op : Nat} {n : Int} {rs : List Nat} {al : List Fm} (h : insF kind (.mk op n rs al) = 0) : ownF op n rs al.length = 0 ∧ ¬kinF kind op ∧ insFL kind al = 0 := by
  rw [insF] at h
  split at h
  · rename_i hc; exact absurd h hc
  · rename_i hc
    split at h
    · cases h
    · rename_i hk; exact ⟨Classical.not_not.1 hc, hk, h⟩
theorem insFL_zero {kind : Nat} : ∀ {l : List Fm}, insFL kind l = 0 → ∀ a ∈ l, insF kind a = 0
  | b :: l, h, a, ha => by
    rw [insFL] at h
    split at h
    · rename_i hc; exact absurd h hc
    · rename_i hc
      rcases List.mem_cons.1 ha with rfl | ha
      · exact Classical.not_not.1 hc
      · exact insFL_zero h a ha
end Go.Proofs.YtnpcilglilfajaaGreatDoor
namespace Go.Proofs.YtnpcilglilfajaaGreatDoor
open Go.RowKit
structure Nf where
  op : Nat
  args : Nat
  role : Nat
  many : Bool
  num : Int
def nfC (x : Nf) : List Value := [.int .u8 (x.op : Int), .int .u8 (x.args : Int), .int .u8 (x.role : Int), .bool x.many, .int .i64 x.num]
theorem nfC_len (x : Nf) : (nfC x).length = 5 := rfl
def nfOk (x : Nf) : Prop := x.op < 256 ∧ x.args < 256 ∧ x.role < 256
def opB18 (x : Nf) : Nat := x.op % 18
def numB18 (x : Nf) : Int := if x.num < 0 ∧ -20 < x.num ∧ x.op % 18 ≠ 1 then 0 else x.num
def cntA (x : Nf) : Nat := if 250 ≤ x.args then x.args - 250 else argF (x.op % 18)
def rol1 (x : Nf) : List Nat := if x.op % 18 = 4 ∨ x.op % 18 = 6 ∨ x.op % 18 = 5 ∨ 200 ≤ x.role then [x.role % 66] else []
def rolB (x : Nf) : List Nat := if x.many = true then rol1 x ++ [1 + x.role % 7, 2 + x.role % 5] else rol1 x
/-- k formulas, one after the other. -/
def manyF (f : List Nf → Fm × List Nf) : Nat → List Nf → List Fm × List Nf
  | 0, l => ([], l)
  | k + 1, l => ((manyF f k l).1 ++ [(f (manyF f k l).2).1], (f (manyF f k l).2).2)
def bldF : Nat → List Nf → Fm × List Nf
  | 0, l => (.mk 2 0 [] [], l)
  | _ + 1, [] => (.mk 2 0 [] [], [])
  | d + 1, x :: l => (.mk (opB18 x) (numB18 x) (rolB x) (manyF (bldF d) (cntA x) l).1, (manyF (bldF d) (cntA x) l).2)
theorem manyF_len (f : List Nf → Fm × List Nf) (l : List Nf) : ∀ k, (manyF f k l).1.length = k
  | 0 => rfl
  | k + 1 => by rw [manyF, List.length_append, manyF_len f l k]; rfl
theorem manyF_ok {f : List Nf → Fm × List Nf} (hf : ∀ l, (∀ x ∈ l, nfOk x) → ∀ x ∈ (f l).2, nfOk x) {l : List Nf} (h : ∀ x ∈ l, nfOk x) : ∀ k, ∀ x ∈ (manyF f k l).2, nfOk x
  | 0 => h
  | k + 1 => hf _ (manyF_ok hf h k)
theorem bldF_ok : ∀ (d : Nat) (l : List Nf), (∀ x ∈ l, nfOk x) → ∀ x ∈ (bldF d l).2, nfOk x
  | 0, _, h => h
  | _ + 1, [], h => h
  | d + 1, _ :: _, h => manyF_ok (bldF_ok d) (fun y hy => h y (by simp [hy])) _
theorem cntA_le {x : Nf} (h : nfOk x) : cntA x ≤ 5 := by
  have := h.2.1
  unfold cntA argF
  split
  · omega
  · split <;> (try split) <;> omega
theorem rol1_len (x : Nf) : (rol1 x).length ≤ 1 := by unfold rol1; split <;> simp
theorem rolB_len (x : Nf) : (rolB x).length ≤ 3 := by
  have := rol1_len x
  unfold rolB
  split
  · rw [List.length_append]; simp; omega
  · omega
theorem manyF_wt {f : List Nf → Fm × List Nf} (hf : ∀ l, (∀ x ∈ l, nfOk x) → (f l).2.length ≤ l.length ∧ wtF (f l).1 + 24 * (f l).2.length ≤ 24 * l.length + 1 ∧ ∀ x ∈ (f l).2, nfOk x) {l : List Nf} (h : ∀ x ∈ l, nfOk x) : ∀ k, (manyF f k l).2.length ≤ l.length ∧ wtFL (manyF f k l).1 + 24 * (manyF f k l).2.length ≤ 24 * l.length + k ∧ ∀ x ∈ (manyF f k l).2, nfOk x
  | 0 => ⟨Nat.le_refl _, by simp [manyF, wtFL], h⟩
  | k + 1 => by
    obtain ⟨h1, h2, h3⟩ := manyF_wt hf h k
    obtain ⟨g1, g2, g3⟩ := hf _ h3
    rw [manyF, wtFL_snoc]
    exact ⟨by simp only; omega, by simp only; omega, g3⟩
theorem bldF_wt : ∀ (d : Nat) (l : List Nf), (∀ x ∈ l, nfOk x) → (bldF d l).2.length ≤ l.length ∧ wtF (bldF d l).1 + 24 * (bldF d l).2.length ≤ 24 * l.length + 1 ∧ ∀ x ∈ (bldF d l).2, nfOk x
  | 0, l, h => ⟨Nat.le_refl _, by simp [bldF, wtF, wtFL]; omega, h⟩
  | _ + 1, [], h => ⟨Nat.le_refl _, by simp [bldF, wtF, wtFL], h⟩
  | d + 1, x :: l, h => by
    obtain ⟨h1, h2, h3⟩ := manyF_wt (bldF_wt d) (fun y hy => h y (by simp [hy]) : ∀ y ∈ l, nfOk y) (cntA x)
    have h4 := cntA_le (h x (by simp))
    have h5 := rolB_len x
    rw [bldF, wtF, List.length_cons]
    exact ⟨by simp only; omega, by simp only; omega, h3⟩
/-- The formula of at most 40 nodes. -/
def blt18 (l : List Nf) : Fm := (bldF 12 (l.take 40)).1
theorem blt18_wt {l : List Nf} (h : ∀ x ∈ l, nfOk x) : wtF (blt18 l) ≤ 961 := by
  obtain ⟨_, h2, _⟩ := bldF_wt 12 (l.take 40) fun x hx => h x (List.mem_of_mem_take hx)
  have : (l.take 40).length ≤ 40 := by rw [List.length_take]; omega
  unfold blt18
  omega
mutual
/-- Operators of a byte. -/
def opsF : Fm → Prop
  | .mk op _ _ al => op < 256 ∧ opsFL al
def opsFL : List Fm → Prop
  | [] => True
  | a :: al => opsF a ∧ opsFL al
end
theorem opsFL_mem {a : Fm} : ∀ {l : List Fm}, opsFL l → a ∈ l → opsF a
  | b :: l, h, ha => by
    rw [opsFL] at h
    rcases List.mem_cons.1 ha with rfl | ha
    · exact h.1
    · exact opsFL_mem h.2 ha
theorem opsFL_app : ∀ {l m : List Fm}, opsFL l → opsFL m → opsFL (l ++ m)
  | [], _, _, h => h
  | _ :: l, m, h, h' => by rw [opsFL] at h; rw [List.cons_append, opsFL]; exact ⟨h.1, opsFL_app h.2 h'⟩
theorem manyF_ops {f : List Nf → Fm × List Nf} (hf : ∀ l, opsF (f l).1) (l : List Nf) : ∀ k, opsFL (manyF f k l).1
  | 0 => by rw [manyF, opsFL]; trivial
  | k + 1 => by rw [manyF]; exact opsFL_app (manyF_ops hf l k) (by rw [opsFL, opsFL]; exact ⟨hf _, trivial⟩)
theorem bldF_ops : ∀ (d : Nat) (l : List Nf), opsF (bldF d l).1
  | 0, l => by rw [bldF, opsF, opsFL]; exact ⟨by omega, trivial⟩
  | _ + 1, [] => by rw [bldF, opsF, opsFL]; exact ⟨by omega, trivial⟩
  | d + 1, x :: l => by rw [bldF, opsF]; exact ⟨by unfold opB18; omega, manyF_ops (bldF_ops d) l _⟩
theorem blt18_ops (l : List Nf) : opsF (blt18 l) := bldF_ops 12 _
end Go.Proofs.YtnpcilglilfajaaGreatDoor
namespace Go.Proofs.YtnpcilglilfajaaGreatDoor
open Go.RowKit
def numGo (v k : Nat) : List Nat → Nat × Nat
  | [] => (0, 0)
  | b :: bs => if k = 0 ∧ b = 128 ∨ 144115188075855871 < v then (0, 0) else if b < 128 then (v * 128 + b % 128, k + 1) else numGo (v * 128 + b % 128) (k + 1) bs
def numR (bs : List Nat) : Nat × Nat := numGo 0 0 bs
/-- What is read is the encoding of the number. -/
theorem numGo_enc : ∀ (bs : List Nat) (v k : Nat), (∀ b ∈ bs, b < 256) → (k = 0 → v = 0) → (0 < k → 0 < v) → (numGo v k bs).2 ≠ 0 → k < (numGo v k bs).2 ∧ (numGo v k bs).2 - k ≤ bs.length ∧ numHi v ++ bs.take ((numGo v k bs).2 - k) = numB (numGo v k bs).1
  | [], _, _, _, _, _, h => by simp [numGo] at h
  | b :: bs, v, k, hb, h0, h1, h => by
    rw [numGo] at h ⊢
    by_cases hc : k = 0 ∧ b = 128 ∨ 144115188075855871 < v
    · rw [if_pos hc] at h; simp at h
    · rw [if_neg hc] at h ⊢
      have hb0 := hb b (by simp)
      by_cases hl : b < 128
      · rw [if_pos hl]
        refine ⟨by simp, by simp, ?_⟩
        simp only [Nat.add_sub_cancel_left, List.take_succ_cons, List.take_zero]
        rw [numB, show (v * 128 + b % 128) / 128 = v by omega, show (v * 128 + b % 128) % 128 = b by omega]
      · rw [if_neg hl] at h ⊢
        have hv' : v * 128 + b % 128 ≠ 0 := by
          rcases Nat.eq_zero_or_pos k with hk | hk
          · have := h0 hk; omega
          · have := h1 hk; omega
        obtain ⟨g1, g2, g3⟩ := numGo_enc bs (v * 128 + b % 128) (k + 1) (fun x hx => hb x (by simp [hx])) (by omega) (by omega) h
        refine ⟨by omega, by simp only [List.length_cons]; omega, ?_⟩
        rw [← g3, numHi_pos hv', show (v * 128 + b % 128) / 128 = v by omega, show 128 + (v * 128 + b % 128) % 128 = b by omega]
        obtain ⟨d, hd⟩ : ∃ d, (numGo (v * 128 + b % 128) (k + 1) bs).2 - k = d + 1 := ⟨(numGo (v * 128 + b % 128) (k + 1) bs).2 - k - 1, by omega⟩
        rw [hd, List.take_succ_cons, show (numGo (v * 128 + b % 128) (k + 1) bs).2 - (k + 1) = d by omega]
        simp
theorem numR_enc {bs : List Nat} (hb : ∀ b ∈ bs, b < 256) (h : (numR bs).2 ≠ 0) : (numR bs).2 ≤ bs.length ∧ bs.take (numR bs).2 = numB (numR bs).1 := by
  obtain ⟨_, h2, h3⟩ := numGo_enc bs 0 0 hb (fun _ => rfl) (fun h => by omega) h
  rw [numHi_zero, List.nil_append, Nat.sub_zero] at h3
  exact ⟨by simpa [numR] using h2, h3⟩
end Go.Proofs.YtnpcilglilfajaaGreatDoor
namespace Go.Proofs.YtnpcilglilfajaaGreatDoor
section
set_option maxRecDepth 100000
theorem en134 : Enters Tryz.prog 134 := enters_mk Tryz.func134 (by kernel_rfl) rfl
theorem z222 : Zero Tryz.prog 222 [.slice none 0 0, .int .i64 0] := ⟨zero_of (by kernel_rfl)⟩
end
open Go.RowKit
theorem BytesR.take {X : PMap} {A : Option Addr} {cp : Nat} {bs : List Nat} (h : BytesR X (.slice A bs.length cp) bs) (hc : bs.length ≤ cp) {k : Nat} (hk : k ≤ bs.length) : BytesR X (.slice (slA A cp 0 1) k cp) (bs.take k) := by
  rcases Nat.eq_zero_or_pos k with rfl | h0
  · exact .inl ⟨by simp, _, _, rfl⟩
  · obtain ⟨b, pre, rfl, hB⟩ := h.blk (by omega)
    refine .inr ⟨by simp; omega, b, cp, pre, ?_, ?_⟩
    · rw [slA, if_neg (by omega), List.length_take, Nat.min_eq_left hk]; simp [Addr.add]
    · obtain ⟨rest, ty, fr, hx⟩ := hB
      refine ⟨bytesC (bs.drop k) ++ rest, ty, fr, ?_⟩
      have e : bytesC bs = bytesC (bs.take k) ++ bytesC (bs.drop k) := by rw [← bytesC_append, List.take_append_drop]
      rw [hx, e]
      simp
theorem BytesR.drop {X : PMap} {A : Option Addr} {cp : Nat} {bs : List Nat} (h : BytesR X (.slice A bs.length cp) bs) (hc : bs.length ≤ cp) {k : Nat} (hk : k ≤ bs.length) : BytesR X (.slice (slA A cp k 1) (bs.length - k) (cp - k)) (bs.drop k) := by
  rcases Nat.eq_or_lt_of_le hk with rfl | h0
  · exact .inl ⟨by simp, _, _, by rw [Nat.sub_self]⟩
  · obtain ⟨b, pre, rfl, hB⟩ := h.blk (by omega)
    refine .inr ⟨by simp; omega, b, cp - k, pre ++ bytesC (bs.take k), ?_, ?_⟩
    · rw [slA, if_neg (by omega), List.length_append, bytesC_len, List.length_take, Nat.min_eq_left hk, List.length_drop]; simp [Addr.add]
    · rwa [List.append_assoc, ← bytesC_append, List.take_append_drop]
/-- A slice of bytes that can be cut. -/
def CutR (X : PMap) (v : Value) (bs : List Nat) : Prop := BytesR X v bs ∧ (∃ A cp, v = .slice A bs.length cp ∧ bs.length ≤ cp) ∧ ∀ b ∈ bs, b < 256
theorem CutR.mono {X X' : PMap} {v : Value} {bs : List Nat} (h : CutR X v bs) (hX : X.le X') : CutR X' v bs := ⟨h.1.mono hX, h.2⟩
section
variable {X : PMap} {b : Nat} {sv : Value} {e : Int}
theorem CutR.len {X : PMap} {v : Value} {bs : List Nat} (_ : CutR X v bs) {k : Nat} (h : (numR bs).2 ≠ 0) (hk : k = (numR bs).2) (hb : ∀ b ∈ bs, b < 256) : k ≤ bs.length := by subst hk; exact (numR_enc hb h).1
end
end Go.Proofs.YtnpcilglilfajaaGreatDoor
namespace Go.Proofs.YtnpcilglilfajaaGreatDoor
open Go.ChangeShapes Go.WideShapes Go.ChangeAt Go.RowKit Go.Joins Go.Deep
section
variable {H : Type} {enc : TypeId × Value → H} {W : World}
theorem nf_cells : Tryz.prog.cellsOf 199 = 5 := by kernel_rfl
set_option maxRecDepth 100000 in
theorem nf_el {n : Nat} {cs : List Value} {y : DataW H × List MemPlace} (hl : cs.length = 5) (h : DataW.trod enc Tryz.prog W 0 (fun _ => true) true n 199 cs = some y) : ∃ x : Nf, cs = nfC x ∧ nfOk x := by
  obtain ⟨xs, m, _, rfl, _, hlen, hf⟩ := DataW.trod_struct Tryz.underlying199 h
  match cs, hl with
  | [a, b, c, d, e], _ =>
    have f0 : DataW.trod enc Tryz.prog W 0 (fun _ => true) true m 5 (List.take (Tryz.prog.cellsOf 5) (List.drop 0 [a, b, c, d, e])) = xs[0]? := hf 0 _ rfl
    have f1 : DataW.trod enc Tryz.prog W 0 (fun _ => true) true m 5 (List.take (Tryz.prog.cellsOf 5) (List.drop 1 [a, b, c, d, e])) = xs[1]? := hf 1 _ rfl
    have f2 : DataW.trod enc Tryz.prog W 0 (fun _ => true) true m 5 (List.take (Tryz.prog.cellsOf 5) (List.drop 2 [a, b, c, d, e])) = xs[2]? := hf 2 _ rfl
    have f3 : DataW.trod enc Tryz.prog W 0 (fun _ => true) true m 4 (List.take (Tryz.prog.cellsOf 4) (List.drop 3 [a, b, c, d, e])) = xs[3]? := hf 3 _ rfl
    have f4 : DataW.trod enc Tryz.prog W 0 (fun _ => true) true m 3 (List.take (Tryz.prog.cellsOf 3) (List.drop 4 [a, b, c, d, e])) = xs[4]? := hf 4 _ rfl
    rw [cells5] at f0 f1 f2
    rw [show Tryz.prog.cellsOf 4 = 1 by kernel_rfl] at f3
    rw [show Tryz.prog.cellsOf 3 = 1 by kernel_rfl] at f4
    match xs, hlen with
    | [x0, x1, x2, x3, x4], _ =>
      obtain ⟨za, e0, _, w0⟩ := DataW.trod_int Tryz.underlying5 f0
      obtain ⟨zb, e1, _, w1⟩ := DataW.trod_int Tryz.underlying5 f1
      obtain ⟨zc, e2, _, w2⟩ := DataW.trod_int Tryz.underlying5 f2
      obtain ⟨zd, e3, _⟩ := DataW.trod_bool Tryz.underlying4 f3
      obtain ⟨ze, e4, _, w4⟩ := DataW.trod_int Tryz.underlying3 f4
      obtain ⟨na, rfl, ha⟩ := u8_of w0
      obtain ⟨nb, rfl, hb⟩ := u8_of w1
      obtain ⟨nc, rfl, hc⟩ := u8_of w2
      refine ⟨⟨na, nb, nc, zd, ze⟩, ?_, ha, hb, hc⟩
      simp at e0 e1 e2 e3 e4
      subst e0 e1 e2 e3 e4
      rfl
set_option maxRecDepth 100000 in
theorem open_nfs {base : Nat} {v : Value} {d : DataW H} {p : List MemPlace} (hval : Value.okWide Tryz.prog W .any base 22 v) (h : DataW.Trod enc Tryz.prog W 0 (fun _ => true) true 22 v d p) : ∃ rs : List Nf, (∀ x ∈ rs, nfOk x) ∧ RowR nfC (heapX W) v rs :=
  open_rows (rc := nfC) Tryz.underlying22 nf_cells (by omega) (fun _ => rfl) (fun hl h => nf_el hl h) (okWide_slice Tryz.underlying22 hval) h
theorem okWide_struct {P : Program} {W : World} {base : Nat} {t : TypeId} {fs : Array Field} {v : Value} (ht : P.underlying t = some (.struct fs)) (h : Value.okWide P W .any base t v) : ∃ cs : Array Value, v = .agg cs ∧ cs.size = P.cellsOf t := by
  simp only [Value.okWide, ht] at h
  obtain ⟨cs, h1, h2, _⟩ := h
  exact ⟨cs, h1, h2⟩
theorem u8_flat : ∀ bs : List Nat, (bs.map fun (b : Nat) => [Value.int .u8 (b : Int)]).flatten = bytesC bs
  | [] => rfl
  | b :: bs => by rw [List.map_cons, List.flatten_cons, u8_flat bs]; rfl
set_option maxRecDepth 100000 in
theorem u8_el {n : Nat} {cs : List Value} {y : DataW H × List MemPlace} (h : DataW.trod enc Tryz.prog W 0 (fun _ => true) true n 5 cs = some y) : ∃ b : Nat, cs = [.int .u8 (b : Int)] ∧ b < 256 := by
  obtain ⟨z, e, _, w⟩ := DataW.trod_int Tryz.underlying5 h
  obtain ⟨b, rfl, hb⟩ := u8_of w
  exact ⟨b, e, hb⟩
theorem cut_row {X : PMap} {c : Value} {rs : List Nat} (h1 : ∀ b ∈ rs, b < 256) (h2 : RowR (fun b : Nat => [Value.int .u8 (b : Int)]) X c rs) : CutR X c rs := by
  rcases h2 with ⟨rfl, A, c, rfl⟩ | ⟨h0, b, c, pre, rfl, hB, hc, _⟩
  · exact ⟨.inl ⟨rfl, _, _, rfl⟩, ⟨_, _, rfl, by simp⟩, fun _ h => by cases h⟩
  · rw [u8_flat] at hB
    exact ⟨.inr ⟨h0, b, c, pre, rfl, hB⟩, ⟨_, _, rfl, hc⟩, h1⟩
theorem rw18_cells : Tryz.prog.cellsOf 46 = 2 := by kernel_rfl
set_option maxRecDepth 100000 in
theorem rw18_el {n : Nat} {cs : List Value} {y : DataW H × List MemPlace} (hl : cs.length = 2) (h : DataW.trod enc Tryz.prog W 0 (fun _ => true) true n 46 cs = some y) : ∃ (w : Value) (bs : List Nat) (k : Nat), cs = [w, .int .u8 (k : Int)] ∧ CutR (heapX W) w bs ∧ k < 256 := by
  obtain ⟨xs, m, _, rfl, _, hlen, hf⟩ := DataW.trod_struct Tryz.underlying46 h
  match cs, hl with
  | [a, b], _ =>
    have f0 : DataW.trod enc Tryz.prog W 0 (fun _ => true) true m 44 (List.take (Tryz.prog.cellsOf 44) (List.drop 0 [a, b])) = xs[0]? := hf 0 _ rfl
    have f1 : DataW.trod enc Tryz.prog W 0 (fun _ => true) true m 5 (List.take (Tryz.prog.cellsOf 5) (List.drop 1 [a, b])) = xs[1]? := hf 1 _ rfl
    rw [cells5] at f1
    rw [show Tryz.prog.cellsOf 44 = 1 by kernel_rfl] at f0
    match xs, hlen with
    | [x0, x1], _ =>
      obtain ⟨zb, e1, _, w1⟩ := DataW.trod_int Tryz.underlying5 f1
      obtain ⟨nb, rfl, hb⟩ := u8_of w1
      obtain ⟨rs, hok, hr⟩ := open_field (rc := fun b : Nat => [.int .u8 (b : Int)]) (ok := fun b => b < 256) (c := a) Tryz.underlying44 cells5 (by omega) (fun _ => rfl) (fun _ h => u8_el h) f0
      simp at e1
      subst e1
      exact ⟨a, rs, nb, rfl, cut_row hok hr, hb⟩
set_option maxRecDepth 100000 in
theorem open_rw18 {base : Nat} {v : Value} {d : DataW H} {p : List MemPlace} (hval : Value.okWide Tryz.prog W .any base 46 v) (h : DataW.Trod enc Tryz.prog W 0 (fun _ => true) true 46 v d p) : ∃ (w : Value) (bs : List Nat) (k : Nat), v = .agg #[w, .int .u8 (k : Int)] ∧ CutR (heapX W) w bs ∧ k < 256 := by
  obtain ⟨cs, rfl, hsz⟩ := okWide_struct Tryz.underlying46 hval
  obtain ⟨fuel, hf⟩ := h
  obtain ⟨w, bs, k, hx, h1, h2⟩ := rw18_el (cs := cs.toList) (by simp [hsz, rw18_cells]) (by simpa [Value.cells] using hf)
  refine ⟨w, bs, k, ?_, h1, h2⟩
  congr 1
  apply Array.ext'
  exact hx
end
end Go.Proofs.YtnpcilglilfajaaGreatDoor
namespace Go.Proofs.YtnpcilglilfajaaGreatDoor
open Go.RowKit Go.MapKept
section
variable {P : Program} {n : NM} {w0 : Base} {X0 X : PMap} {own : Own} {env : Env}
theorem PMap.add_at {b : Nat} {o : Obj} : X.add b o b = some o := by simp [PMap.add]
theorem PMap.add_ne {b k : Nat} {o : Obj} (h : k ≠ b) : X.add b o k = X k := by simp [PMap.add, h]
theorem PMap.le_add {b : Nat} {o : Obj} {Y : PMap} (h : Y.le X) (hb : Y b = none) : Y.le (X.add b o) := fun k q hk => by
  have hne : k ≠ b := fun e => by rw [e, hb] at hk; cases hk
  rw [PMap.add_ne hne]; exact h k q hk
/-- A new block of any kind, public at once. -/
theorem Sat.lay {W : World} (h : Sat w0 X0 own X W) (o : Obj) : Sat w0 X0 own (X.add W.heap.size o) (W.alloc o) := by
  refine h.call ((Below.refl _ W).alloc (Nat.le_refl _) _) (fun k q hk => ?_) fun k hk => PMap.add_ne (Nat.ne_of_lt hk)
  by_cases e : k = W.heap.size
  · subst e; rw [PMap.add_at] at hk; cases hk; exact (heap_alloc W _).1
  · rw [PMap.add_ne e] at hk; exact (Grow.alloc W _).pin h.stab.pers k q hk
/-- A block of no own cells, new since the call began, is written anew. -/
theorem Sat.rewrite {W : World} (h : Sat w0 X0 own X W) {b : Nat} {o : Obj} (hb : X b = some o) (hn : w0.w.heap.size ≤ b) (o' : Obj) : Sat w0 X0 own (X.add b o') { W with heap := W.heap.setIfInBounds b o' } := by
  have hin := h.stab.pers b o hb
  obtain ⟨k1, k2⟩ := heap_set (o' := o') hin
  have hne : ∀ p ∈ own, p.b ≠ b := fun p hp e => by have := h.apart p hp; rw [e, hb] at this; cases this
  refine ⟨⟨⟨h.below.os, h.below.tape, h.below.output, by simpa using h.below.size, fun k hk => (k2 k (by omega)).trans (h.below.block k hk)⟩, fun k hk => (PMap.add_ne (by omega)).trans (h.old k hk), ⟨fun p hp => ?_, fun k q hk => ?_⟩, h.new, fun p hp => (PMap.add_ne (hne p hp)).trans (h.apart p hp), h.nodup⟩, fun p hp => ?_⟩
  · obtain ⟨r, h1, h2⟩ := h.stab.own p hp
    exact ⟨r, (k2 _ (hne p hp)).trans h1, h2⟩
  · by_cases e : k = b
    · subst e; rw [PMap.add_at] at hk; cases hk; exact k1
    · rw [PMap.add_ne e] at hk; exact (k2 k e).trans (h.stab.pers k q hk)
  · obtain ⟨g1, g2, g3, g4⟩ := h.res p hp
    have e : p.1 ≠ b := fun e => by rw [e, hb] at g2; cases g2
    exact ⟨(k2 _ e).trans g1, (PMap.add_ne e).trans g2, g3, g4⟩
/-- make of a map. -/
theorem op_makeMap {t : TypeId} : OpX P n w0 X0 env own X (.makeMap t none) true fun u own' X' => ∃ b, u = .map (some b) ∧ own = own' ∧ X b = none ∧ w0.w.heap.size ≤ b ∧ X' = X.add b (.map #[] 0) := by
  intro a W oper K Q ro hop ha hs hK
  have hex : (execOp a.eval oper).run P W = .ok (.value (.map (some W.heap.size))) (W.alloc (.map #[] 0)) := by
    simp [execOp, hop, Instr.makeMap, newObj, Sem.run, World.alloc_eq]
  exact wp_value (noDefer_spec (by rw [hop]; rfl)) hex (hK _ _ _ _ ⟨_, rfl, rfl, hs.stab.pers.fresh, hs.below.size, rfl⟩ (hs.lay _) fun _ => Grow.alloc W _)
/-- A map against nil. -/
theorem op_eqlMapNil {t t' k e : TypeId} {x y : Operand} {o : Option Nat} (ht : P.underlying t = some (.map k e)) (hx : eev env x = some (.map o)) (hy : eev env y = some (.map none)) : OpY P n env own X (.binOp .eql t x y t') (.bool o.isNone) := by
  intro a W oper hop ha _
  have h0 : ∀ (e : BinOp) (u v : Operand), eqGuard e t u v (.map o) (.map none) = pure () := fun e u v => by cases e <;> rfl
  have h1 : (Op.equal t (.map o) (.map none)).run P W = .ok o.isNone W := by
    have h : ∀ d : Nat, (Op.equalIn (d + 1) t (.map o) (.map none)).run P W = .ok o.isNone W := fun d => by cases o <;> simp [Op.equalIn, run_underlying ht]
    exact h 9999
  simp only [execOp, hop, ha.eval hx, ha.eval hy, binOp, h0, Sem.run_bind, Sem.run_pure, Result.andThen_ok, h1]
theorem op_makeIface {t : TypeId} {x : Operand} {v : Value} {d : TypeDesc} (ht : P.underlying t = some d) (hd : ∀ m, d ≠ .interface m) (hx : eev env x = some v) : OpY P n env own X (.makeInterface t x) (.iface t v) := by
  intro a W oper hop ha _
  have h1 : (Instr.makeInterface t v).run P W = .ok (.iface t v) W := by
    cases d <;> simp_all [Instr.makeInterface, run_underlying ht]
  simp [execOp, hop, ha.eval hx, h1]
theorem op_assertMap {t xT k e : TypeId} {x : Operand} {v : Value} (ht : P.underlying t = some (.map k e)) (hx : eev env x = some (.iface t v)) : OpY P n env own X (.typeAssert x xT t false) v := by
  intro a W oper hop ha _
  have h1 : (Instr.typeAssert (.iface t v) xT t false).run P W = .ok v W := by simp [Instr.typeAssert, run_underlying ht, Result.andThen]
  simp [execOp, hop, ha.eval hx, h1]
/-- maps.clone: a new block with the same entries. -/
theorem op_cloneMap {f : FuncId} {gn : Func} {x : Operand} {ts : Array TypeId} {t : TypeId} {b : Nat} {es : Array MapEntry} {clk : Nat} (hf : P.funcs[f]? = some gn) (h1 : (gn.name == "runtime.NumGoroutine") = false) (h2 : gn.body.isNone = true) (h3 : Extern.findNext gn = none) (h4 : Extern.find gn = some Extern.MapsClone.clone)
    (hx : eev env x = some (.iface t (.map (some b)))) (hb : X b = some (.map es clk)) :
    OpX P n w0 X0 env own X (.call { callee := .value (.func f), args := #[x], argTypes := ts }) true fun u own' X' => ∃ b', u = .iface t (.map (some b')) ∧ own = own' ∧ X b' = none ∧ w0.w.heap.size ≤ b' ∧ X' = X.add b' (.map es clk) := by
  intro a W oper K Q ro hop ha hs hK
  have hc : a.eval (.func f) = .func (.func f) #[] #[] := ha.eval rfl
  have hr2 := run_callFunc_extern hf h1 h2 h3 h4 #[.iface t (.map (some b))] W
  have hcl : (Extern.MapsClone.clone #[.iface t (.map (some b))]).run P W = .ok (.iface t (.map (some W.heap.size))) (W.alloc (.map es clk)) := by
    show (Sem.getObj b Sem.pure >>= fun o => match o with
        | .map entries clock => (newObj (.map entries clock) >>= fun n => pure (.iface t (.map (some n))))
        | _ => stuck "maps.clone: a map expected" : Sem Value).run P W = _
    have hg := hs.stab.pers _ _ hb
    rw [Sem.run_bind, show (Sem.getObj b Sem.pure).run P W = .ok (.map es clk) W from MapKept.run_getObj_map hg]
    simp [Result.andThen, newObj, Sem.run, World.alloc_eq]
  rw [hcl] at hr2
  have hex : (execOp a.eval oper).run P W = .ok (.value (.iface t (.map (some W.heap.size)))) (W.alloc (.map es clk)) := by
    simp only [execOp, hop, resolve, hc, Deferred.ofValue, invoke, Sem.run_bind, Sem.run_pure, Result.andThen_ok]
    simpa [ha.eval hx] using hr2
  exact wp_value (noDefer_spec (by rw [hop]; rfl)) hex (hK _ _ _ _ ⟨_, rfl, rfl, hs.stab.pers.fresh, hs.below.size, rfl⟩ (hs.lay _) fun _ => Grow.alloc W _)
/-- A call, and what is new in it. -/
theorem op_callN {f : FuncId} {xs : Array Operand} {ts : Array TypeId} {vs : List Value} {Φ : Value → PMap → Prop} (he : Enters P f) (hx : xs.toList.map (eev env) = vs.map some)
    (h : Spec P f vs X Φ) : OpX P n w0 X0 env own X (.call { callee := .value (.func f), args := xs, argTypes := ts }) true fun v own' X' => own = own' ∧ X.le X' ∧ (∀ k, X k = none → X' k ≠ none → w0.w.heap.size ≤ k) ∧ Φ v X' := by
  intro a W oper K Q ro hop ha hs hK
  have all : ∀ (xs : List Operand) (vs : List Value), xs.map (eev env) = vs.map some → xs.map a.eval = vs := by
    intro xs
    induction xs with
    | nil => intro vs h; cases vs <;> simp_all
    | cons x xs ih =>
      intro vs h
      cases vs with
      | nil => simp at h
      | cons v vs =>
        simp only [List.map_cons, List.cons.injEq] at h
        simp [ha.eval h.1, ih vs h.2]
  have h1 : xs.map a.eval = vs.toArray := by apply Array.toList_inj.1; simp [all _ _ hx]
  have hc : a.eval (.func f) = .func (.func f) #[] #[] := ha.eval rfl
  have hex : (execOp a.eval oper).run P W = .ok (.enter f vs.toArray) W := by
    simp only [execOp, hop, resolve, hc, h1, Deferred.ofValue, invoke, Sem.run_bind, Sem.run_pure, Result.andThen_ok]
    simpa using he vs.toArray W
  refine wp_enters (noDefer_spec (by rw [hop]; rfl)) hex ((h W hs.stab.pers).mono fun e w' hfin => ?_)
  obtain ⟨v, X', rfl, hb, hp, hk, hΦ⟩ := hfin
  refine ⟨v, rfl, ?_⟩
  refine hK v own X' w' ⟨rfl, fun q o hq => (hk q (hs.stab.pers.lt hq)).trans hq, fun k h1 h2 => ?_, hΦ⟩ (hs.call hb hp hk) fun _ => Grow.of_below hb
  rcases Nat.lt_or_ge k W.heap.size with h3 | h3
  · exact absurd ((hk k h3).trans h1) h2
  · exact Nat.le_trans hs.below.size h3
/-- The entries of names in a row, numbered from 1. -/
def entsOf (ns : List ByteArray) : List MapEntry := (List.range ns.length).map fun (i : Nat) => ⟨.string ((ns[i]?).getD ⟨#[]⟩), .int .i64 ((i : Int) + 1), i⟩
def MapObj (ns : List ByteArray) : Obj := .map (entsOf ns).toArray ns.length
/-- The number of a name, from 1; 0: it is not there. -/
def posN (s : ByteArray) : List ByteArray → Nat
  | [] => 0
  | t :: l => if s = t then 1 else if posN s l = 0 then 0 else posN s l + 1
def MapAt (X : PMap) (ns : List ByteArray) : Option Nat → Prop
  | none => ns = []
  | some b => X b = some (MapObj ns)
theorem posN_pos {s : ByteArray} : ∀ {ns : List ByteArray}, 0 < posN s ns ↔ s ∈ ns
  | [] => by simp [posN]
  | t :: l => by
    have ih := posN_pos (s := s) (ns := l)
    rw [posN]
    by_cases h : s = t
    · rw [if_pos h]; simp [h]
    · rw [if_neg h]
      by_cases h0 : posN s l = 0
      · rw [if_pos h0]
        have : s ∉ l := fun hm => by have := ih.2 hm; omega
        simp [h, this]
      · rw [if_neg h0]
        have : s ∈ l := ih.1 (by omega)
        simp [this]
theorem posN_le {s : ByteArray} : ∀ {ns : List ByteArray}, posN s ns ≤ ns.length
  | [] => by simp [posN]
  | t :: l => by
    have ih := posN_le (s := s) (ns := l)
    rw [posN, List.length_cons]
    split
    · omega
    · split <;> omega
theorem entsOf_snoc (ns : List ByteArray) (s : ByteArray) : entsOf (ns ++ [s]) = entsOf ns ++ [⟨.string s, .int .i64 ((ns.length : Int) + 1), ns.length⟩] := by
  unfold entsOf
  rw [List.length_append, List.length_singleton, List.range_succ, List.map_append, List.map_singleton]
  congr 1
  · refine List.map_congr_left fun i hi => ?_
    rw [List.getElem?_append_left (List.mem_range.1 hi)]
  · simp
/-- What findNow finds. -/
theorem findNow_pos (s : ByteArray) : ∀ (ns : List ByteArray) (f : Nat → Value) (g : Nat → Nat) (i : Nat), ∃ r, Instr.findNow .string (.string s) ((List.range ns.length).map fun q => ⟨.string ((ns[q]?).getD ⟨#[]⟩), f q, g q⟩) i = some r ∧ (posN s ns = 0 → r = none) ∧ (∀ k, posN s ns = k + 1 → ∃ q, r = some (q, f k))
  | [], f, g, i => ⟨none, rfl, fun _ => rfl, fun k h => by cases h⟩
  | t :: ns, f, g, i => by
    have e : (List.range (t :: ns).length).map (fun q => (⟨.string (((t :: ns)[q]?).getD ⟨#[]⟩), f q, g q⟩ : MapEntry)) = ⟨.string t, f 0, g 0⟩ :: (List.range ns.length).map (fun q => (⟨.string ((ns[q]?).getD ⟨#[]⟩), f (q + 1), g (q + 1)⟩ : MapEntry)) := by
      rw [List.length_cons, List.range_succ_eq_map, List.map_cons, List.map_map]
      congr 1
    rw [e]
    by_cases h : s = t
    · subst h
      have hp : posN s (s :: ns) = 1 := by rw [posN, if_pos rfl]
      refine ⟨some (i, f 0), ?_, fun h => absurd (hp.symm.trans h) (by decide), fun k hk => ⟨i, ?_⟩⟩
      case refine_2 =>
        have hk' := hp.symm.trans hk
        obtain rfl : k = 0 := by omega
        rfl
      have : (s == s) = true := (bytes_beq s s).2 rfl
      simp [Instr.findNow, Instr.sameNow, this]
    · obtain ⟨r, h1, h2, h3⟩ := findNow_pos s ns (fun q => f (q + 1)) (fun q => g (q + 1)) (i + 1)
      have hb : (s == t) = false := by
        cases hq : (s == t) with
        | false => rfl
        | true => exact absurd ((bytes_beq s t).1 hq) h
      refine ⟨r, ?_, ?_, ?_⟩
      · simp only [Instr.findNow, Instr.sameNow, hb]; exact h1
      · rw [posN, if_neg h]; intro hp; split at hp
        · rename_i h0; exact h2 h0
        · cases hp
      · intro k hk
        rw [posN, if_neg h] at hk
        split at hk
        · cases hk
        · obtain ⟨q, hq⟩ : ∃ q, posN s ns = q + 1 := ⟨posN s ns - 1, by omega⟩
          obtain rfl : k = q + 1 := by omega
          exact h3 q hq
/-- The number of a name in a map of names. -/
theorem op_lookupN {xT kt et : TypeId} {x y : Operand} {om : Option Nat} {ns : List ByteArray} {s : ByteArray} (ht : P.underlying xT = some (.map kt et)) (hk : P.underlying kt = some .string) (hz : (P.info? et).bind (·.zero) = some (.int .i64 0))
    (hx : eev env x = some (.map om)) (hy : eev env y = some (.string s)) (hm : MapAt X ns om) :
    OpY P n env own X (.lookup xT x y false) (.int .i64 (posN s ns : Int)) := by
  intro a W oper hop ha hst
  obtain ⟨i, hi, hiz⟩ := Option.bind_eq_some_iff.1 hz
  have hzr : (zeroValue et).run P W = .ok (.int .i64 0) W := by simp [zeroValue, typeInfo, hi, hiz]
  obtain ⟨r, h1, h2, h3⟩ := findNow_pos s ns (fun q => .int .i64 ((q : Int) + 1)) (fun q => q) 0
  have hf : (Instr.findKey kt (.string s) (entsOf ns)).run P W = .ok r W := MapKept.run_findKey hk h1
  have hck : ∀ e, (Instr.checkKey e 10000 kt (.string s)).run P W = .ok () W := fun e => MapKept.run_checkKey hk (by trivial) e 9999
  have hl : (Instr.lookup xT (.map om) (.string s) false).run P W = .ok (.int .i64 (posN s ns : Int)) W := by
    have key : ∀ es : Array MapEntry, es.toList = entsOf ns → (om = none → es = #[]) → (∀ b, om = some b → ∃ clk, W.heap[b]? = some (.map es clk)) → (Instr.lookup xT (.map om) (.string s) false).run P W = .ok (.int .i64 (posN s ns : Int)) W := by
      intro es he ho hb
      rw [← he] at hf
      rcases Nat.eq_zero_or_pos (posN s ns) with h0 | h0
      · obtain rfl := h2 h0
        cases om with
        | none => have ho : es = #[] := ho rfl; subst ho; simp [Instr.lookup, run_underlying ht, hck, hf, hzr, h0, Result.andThen]
        | some b => obtain ⟨clk, hb⟩ := hb b rfl; simp [Instr.lookup, run_underlying ht, MapKept.run_getObj_map hb, hck, hf, hzr, h0, Result.andThen]
      · obtain ⟨k, hk'⟩ : ∃ k, posN s ns = k + 1 := ⟨posN s ns - 1, by omega⟩
        obtain ⟨q, rfl⟩ := h3 k hk'
        cases om with
        | none => have ho : es = #[] := ho rfl; subst ho; simp [Instr.lookup, run_underlying ht, hck, hf, hk', Result.andThen]
        | some b => obtain ⟨clk, hb⟩ := hb b rfl; simp [Instr.lookup, run_underlying ht, MapKept.run_getObj_map hb, hck, hf, hk', Result.andThen]
    cases om with
    | none => have hm : ns = [] := hm; subst hm; exact key #[] rfl (fun _ => rfl) (fun _ h => by cases h)
    | some b => exact key (entsOf ns).toArray rfl (fun h => by cases h) (fun b' h => by cases h; exact ⟨_, hst.pers b _ hm⟩)
  simp [execOp, hop, ha.eval hx, ha.eval hy, hl]
/-- A new name is put into a map of this call's own. -/
theorem op_putN {xT kt et : TypeId} {x y z : Operand} {b : Nat} {ns : List ByteArray} {s : ByteArray} (ht : P.underlying xT = some (.map kt et)) (hk : P.underlying kt = some .string)
    (hx : eev env x = some (.map (some b))) (hy : eev env y = some (.string s)) (hz : eev env z = some (.int .i64 ((ns ++ [s]).length : Int))) (hb : X b = some (MapObj ns)) (hn : w0.w.heap.size ≤ b) (hs : s ∉ ns) :
    OpX P n w0 X0 env own X (.mapUpdate xT x y z) false fun _ own' X' => own = own' ∧ X' = X.add b (MapObj (ns ++ [s])) := by
  have hz : eev env z = some (.int .i64 ((ns.length : Int) + 1)) := by rw [hz]; simp
  intro a W oper K Q ro hop ha hsat hK
  obtain ⟨r, h1, h2, _⟩ := findNow_pos s ns (fun q => .int .i64 ((q : Int) + 1)) (fun q => q) 0
  obtain rfl := h2 (Nat.eq_zero_of_not_pos fun h => hs (posN_pos.1 h))
  have hb' := hsat.stab.pers b _ hb
  simp only [MapObj] at hb'
  have hf : (Instr.findKey kt (.string s) (entsOf ns)).run P W = .ok none W := MapKept.run_findKey hk h1
  have hck : ∀ e, (Instr.checkKey e 10000 kt (.string s)).run P W = .ok () W := fun e => MapKept.run_checkKey hk (by trivial) e 9999
  have hl : (Instr.mapUpdate xT (.map (some b)) (.string s) (.int .i64 ((ns.length : Int) + 1))).run P W = .ok () { W with heap := W.heap.setIfInBounds b (MapObj (ns ++ [s])) } := by
    have e : MapObj (ns ++ [s]) = .map ((entsOf ns).toArray.push { key := .string s, val := .int .i64 ((ns.length : Int) + 1), born := ns.length }) (ns.length + 1) := by
      simp [MapObj, entsOf_snoc]
    rw [e]
    simp [Instr.mapUpdate, run_underlying ht, MapKept.run_getObj_map hb', hck, hf, MapKept.run_setObj_map _ hb', Result.andThen]
  have hex : (execOp a.eval oper).run P W = .ok .skip { W with heap := W.heap.setIfInBounds b (MapObj (ns ++ [s])) } := by
    simp [execOp, hop, ha.eval hx, ha.eval hy, ha.eval hz, hl]
  exact wp_skipped (noDefer_spec (by rw [hop]; rfl)) hex (hK _ _ _ _ ⟨rfl, rfl⟩ (hsat.rewrite hb hn _) fun h => by cases h)
end
end Go.Proofs.YtnpcilglilfajaaGreatDoor
namespace Go.Proofs.YtnpcilglilfajaaGreatDoor
section
set_option maxRecDepth 100000
theorem en119 : Enters Tryz.prog 119 := enters_mk Tryz.func119 (by kernel_rfl) rfl
theorem en120 : Enters Tryz.prog 120 := enters_mk Tryz.func120 (by kernel_rfl) rfl
theorem en161 : Enters Tryz.prog 161 := enters_mk Tryz.func161 (by kernel_rfl) rfl
theorem en162 : Enters Tryz.prog 162 := enters_mk Tryz.func162 (by kernel_rfl) rfl
theorem fa166_0 : FAdr Tryz.prog 166 0 0 := fadr_mk Tryz.underlying166 rfl rfl (by kernel_rfl)
theorem fa166_1 : FAdr Tryz.prog 166 1 1 := fadr_mk Tryz.underlying166 rfl rfl (by kernel_rfl)
theorem z166 : Zero Tryz.prog 166 [.slice none 0 0, .map none] := ⟨zero_of (by kernel_rfl)⟩
theorem st166 : StT Tryz.prog 166 [(0, 1), (1, 1)] [.slice none 0 0, .map none] := ⟨⟨_, Tryz.underlying166, fun _ => by kernel_rfl, z166⟩⟩
theorem ty164 : Ty Tryz.prog 164 false 1 := ⟨⟨_, Tryz.underlying164, rfl⟩, by kernel_rfl⟩
end
open Go.RowKit
theorem MapAt.mono {X X' : PMap} {ns : List ByteArray} {om : Option Nat} (h : MapAt X ns om) (hX : X.le X') : MapAt X' ns om := by
  cases om with
  | none => exact h
  | some b => exact hX _ _ h
/-- A table of these names. -/
def TabR (X : PMap) (v : Value) (ns : List ByteArray) : Prop := ∃ (b : Nat) (vs : Value) (om : Option Nat), v = .pointer (some ⟨b, 0, none⟩) ∧ Blk X b [vs, .map om] ∧ RowR strC X vs ns ∧ MapAt X ns om
theorem TabR.mono {X X' : PMap} {v : Value} {ns : List ByteArray} (h : TabR X v ns) (hX : X.le X') : TabR X' v ns :=
  let ⟨b, vs, om, h1, h2, h3, h4⟩ := h
  ⟨b, vs, om, h1, h2.mono hX, h3.mono hX, h4.mono hX⟩
theorem new_spec {X : PMap} : Spec Tryz.prog 119 [] X fun u X' => TabR X' u [] := by
  refine Spec.enter Tryz.func119 rfl Tryz.ntmps119 rfl ?_
  intro w0 hw0
  refine T.seq <| T.region <| SL.as rfl <| SL.nil <| T.seq <| T.region <| SL.v (op_build st166 (qs := []) rfl rfl) <| SL.w (op_box rfl) ?_
  rintro _ _ _ ⟨B2, rfl, rfl, rfl⟩
  refine SL.as rfl <| SL.nil <| T.pub B2 (by repeat constructor) ?_
  intro X1 hX1 hB1 _
  refine T.ret1 rfl (ResIs.tmp rfl) ?_
  exact ⟨B2, _, none, rfl, hB1, .inl ⟨rfl, _, _, rfl⟩, rfl⟩
theorem tlen_spec {X : PMap} {v : Value} {ns : List ByteArray} (h : TabR X v ns) : Spec Tryz.prog 168 [v] X fun u _ => u = .int .i64 (ns.length : Int) := by
  obtain ⟨b, vs, om, rfl, hB, hR, hM⟩ := h
  obtain ⟨A, cp, rfl⟩ := hR.form
  refine Spec.enter Tryz.func168 rfl Tryz.ntmps168 rfl ?_
  intro w0 hw0
  refine T.seq <| T.region <| SL.v (op_assign (v := .int .i64 ((0 : Nat) : Int)) rfl) <| SL.nil <| T.seq <| T.seq <| T.region <| SL.mv rfl <| SL.v (op_eqlNil Tryz.underlying64 rfl rfl) <| SL.nil <| T.condF rfl <| T.skip <| T.seq <| T.region <| SL.mv rfl ?_
  refine SL.v (op_nil rfl) <| SL.v (op_fieldAddr fa166_0 rfl) <| SL.v (op_loadX ty59 rfl (by assumption) rfl) ?_
  refine SL.v (op_lenS Tryz.underlying59 rfl) <| SL.as rfl <| SL.nil <| T.ret1 rfl (ResIs.tmp rfl) ?_
  rfl
theorem mclone_spec {X : PMap} {ns : List ByteArray} {om : Option Nat} (h : MapAt X ns om) : Spec Tryz.prog 162 [.map om] X fun u X' => (om = none ∧ u = .map none) ∨ ∃ b, u = .map (some b) ∧ X b = none ∧ X' b = some (MapObj ns) := by
  cases om with
  | none =>
    refine Spec.enter Tryz.func162 rfl Tryz.ntmps162 rfl ?_
    intro w0 hw0
    refine T.seq <| T.region <| SL.as rfl <| SL.nil <| T.seq <| T.seq <| T.region <| SL.mv rfl <| SL.v (op_eqlMapNil Tryz.underlying164 rfl rfl) <| SL.nil <| T.condT rfl <| T.seq <| T.region <| SL.as rfl <| SL.nil ?_
    refine T.ret1 rfl (ResIs.tmp rfl) ?_
    exact .inl ⟨rfl, rfl⟩
  | some b0 =>
    refine Spec.enter Tryz.func162 rfl Tryz.ntmps162 rfl ?_
    intro w0 hw0
    refine T.seq <| T.region <| SL.as rfl <| SL.nil <| T.seq <| T.seq <| T.region <| SL.mv rfl <| SL.v (op_eqlMapNil Tryz.underlying164 rfl rfl) <| SL.nil <| T.condF rfl <| T.skip <| T.seq <| T.region <| SL.mv rfl ?_
    refine SL.v (op_makeIface Tryz.underlying164 (fun _ h => by cases h) rfl) ?_
    refine SL.w (op_cloneMap Tryz.func192 (by kernel_rfl) (by kernel_rfl) (by kernel_rfl) (by kernel_rfl) rfl h) ?_
    rintro _ _ _ ⟨b, rfl, rfl, hb0, hb1, rfl⟩
    refine SL.v (op_assertMap Tryz.underlying164 rfl) <| SL.as rfl <| SL.nil <| T.ret1 rfl (ResIs.tmp rfl) ?_
    exact .inr ⟨b, rfl, hb0, PMap.add_at⟩
theorem sclone_spec {X : PMap} {v : Value} {l : List ByteArray} (h : RowR strC X v l) (hl : l.length < 100000) : SpecO Tryz.prog 161 [v] X fun u own1 _ => GrowS 9 1 u l.length (strsC l) own1 := by
  obtain ⟨A, cp, rfl⟩ := h.form
  rcases A with _ | ad
  · have hn : l = [] := by
      rcases h with ⟨h1, _⟩ | ⟨_, b, c, pre, hv, _⟩
      · exact h1
      · cases hv
    subst hn
    refine SpecO.enter Tryz.func161 rfl Tryz.ntmps161 rfl ?_
    intro w0 hw0
    refine T.seq <| T.region <| SL.as rfl <| SL.nil <| T.seq <| T.seq <| T.region <| SL.mv rfl <| SL.v (op_eqlSNil Tryz.underlying59 rfl rfl) <| SL.nil <| T.condT rfl <| T.seq <| T.region <| SL.as rfl <| SL.nil ?_
    refine T.retO1 rfl (ResIs.tmp rfl) ?_
    exact .inl ⟨rfl, rfl, rfl, rfl⟩
  · refine SpecO.enter Tryz.func161 rfl Tryz.ntmps161 rfl ?_
    intro w0 hw0
    refine T.seq <| T.region <| SL.as rfl <| SL.nil <| T.seq <| T.seq <| T.region <| SL.mv rfl <| SL.v (op_eqlSNil Tryz.underlying59 rfl rfl) <| SL.nil <| T.condF rfl <| T.skip <| T.seq <| T.region <| SL.w (op_buildSlice Tryz.underlying59 bs9 (qs := []) rfl rfl rfl rfl rfl) ?_
    rintro _ _ _ ⟨B5, rfl, rfl, rfl⟩
    refine SL.mv rfl <| SL.w (op_append (m := l.length) (news := strsC l) sl59 rfl rfl (by repeat constructor) rfl rfl (Nat.le_refl _) (by decide) (by rw [← strsC_flat]; exact Src.ofRow strC_len h) (strsC_one l) (by (have : maxLen = 9223372036854775807 := rfl); omega) (by omega)) ?_
    rintro _ _ _ ⟨b7, cap7, rfl, rfl, rfl, hc7, hm7⟩
    refine SL.as rfl <| SL.nil <| T.retO1 rfl (ResIs.tmp rfl) ?_
    exact .inr ⟨b7, cap7, by rw [Nat.zero_add], rfl, by omega, hm7, by rw [Nat.mul_one]; exact strsC_len l⟩
/-- What is wrong with one more name. -/
noncomputable def errA (ns : List ByteArray) (s : ByteArray) (n : Nat) : Int := if ¬validS s then 9 else if s ∈ ns then 5 else if n ≤ ns.length ∨ 256 ≤ ns.length then 14 else 0
theorem add_spec {X : PMap} {v : Value} {ns : List ByteArray} {s : ByteArray} {n : Nat} (h : TabR X v ns) (hl : ns.length ≤ 256) : Spec Tryz.prog 120 [v, .string s, .int .i64 (n : Int)] X fun u X' => if errA ns s n = 0 then ∃ v', u = .tuple #[v', .int .i64 ((ns ++ [s]).length : Int), .int .i64 0] ∧ TabR X' v' (ns ++ [s]) else u = .tuple #[.pointer none, .int .i64 0, .int .i64 (errA ns s n)] := by
  obtain ⟨b, vs, om, rfl, hB, hR, hM⟩ := h
  obtain ⟨A, cp, rfl⟩ := hR.form
  refine Spec.enter Tryz.func120 rfl Tryz.ntmps120 rfl ?_
  intro w0 hw0
  refine T.seq <| T.region <| SL.as rfl <| SL.v (op_assign (v := .int .i64 ((0 : Nat) : Int)) rfl) <| SL.v (op_assign (v := .int .i64 ((0 : Nat) : Int)) rfl) <| SL.nil <| T.seq <| T.block <| T.seq <| T.region <| SL.mv rfl <| SL.v (op_eqlNil Tryz.underlying64 rfl rfl) <| SL.as rfl <| SL.nil <| T.condF rfl ?_
  refine T.seq <| T.region <| SL.mv rfl <| SL.w (op_callF en94 (vs := [_]) rfl (nvalid_spec)) ?_
  rintro _ _ X1 ⟨rfl, hX1, rfl⟩
  have hB := hB.mono hX1
  by_cases hv : validS s
  case neg =>
    have he : errA ns s n = 9 := by rw [errA, if_pos hv]
    rw [decide_eq_false hv]
    refine SL.v (op_not rfl) <| SL.as rfl <| SL.nil <| T.condT rfl <| T.seq <| T.region <| SL.as rfl <| SL.v (op_assign (v := .int .i64 ((0 : Nat) : Int)) rfl) <| SL.v (op_assign (v := .int .i64 ((9 : Nat) : Int)) rfl) <| SL.nil <| T.ret3 rfl rfl rfl rfl ?_
    rw [he, if_neg (by decide)]
    rfl
  rw [decide_eq_true hv]
  refine SL.v (op_not rfl) <| SL.as rfl <| SL.nil <| T.condF rfl <| T.seq <| T.region <| SL.mv rfl <| SL.v (op_nil rfl) <| SL.v (op_fieldAddr fa166_1 rfl) <| SL.v (op_loadX ty164 rfl (by assumption) rfl) ?_
  refine SL.mv rfl <| SL.v (op_lookupN (s := s) Tryz.underlying164 Tryz.underlying9 (by kernel_rfl) rfl rfl (hM.mono hX1)) ?_
  by_cases hm : s ∈ ns
  case pos =>
    have he : errA ns s n = 5 := by rw [errA, if_neg (by simpa using hv), if_pos hm]
    have hp := posN_pos.2 hm
    refine SL.v (op_gtrT rfl rfl (by omega)) ?_
    refine SL.as rfl <| SL.nil <| T.condT rfl <| T.seq <| T.region <| SL.as rfl <| SL.v (op_assign (v := .int .i64 ((0 : Nat) : Int)) rfl) <| SL.v (op_assign (v := .int .i64 ((5 : Nat) : Int)) rfl) <| SL.nil <| T.ret3 rfl rfl rfl rfl ?_
    rw [he, if_neg (by decide)]
    rfl
  have hp : posN s ns = 0 := Nat.eq_zero_of_not_pos fun h => hm (posN_pos.1 h)
  rw [hp]
  by_cases h1 : n ≤ ns.length
  · have he : errA ns s n = 14 := by rw [errA, if_neg (by simpa using hv), if_neg hm, if_pos (.inl h1)]
    refine SL.v (op_gtrF rfl rfl (by omega)) ?_
    refine SL.as rfl <| SL.nil <| T.condF rfl <| T.seq <| T.region <| SL.mv rfl <| SL.v (op_nil rfl) <| SL.v (op_fieldAddr fa166_0 rfl) <| SL.v (op_loadX ty59 rfl (by assumption) rfl) ?_
    refine SL.v (op_lenS Tryz.underlying59 rfl) <| SL.mv rfl <| SL.v (op_geqT rfl rfl (by omega)) ?_
    refine SL.mv rfl <| SL.skip rfl rfl ?_
    refine SL.skip rfl rfl ?_
    refine SL.skip rfl rfl ?_
    refine SL.skip rfl rfl ?_
    refine SL.skip rfl rfl ?_
    refine SL.skip rfl rfl ?_
    refine SL.v (op_pickT rfl rfl) <| SL.as rfl <| SL.nil <| T.condT rfl <| T.seq <| T.region <| SL.as rfl <| SL.v (op_assign (v := .int .i64 ((0 : Nat) : Int)) rfl) <| SL.v (op_assign (v := .int .i64 ((14 : Nat) : Int)) rfl) <| SL.nil <| T.ret3 rfl rfl rfl rfl ?_
    rw [he, if_neg (by decide)]
    rfl
  by_cases h2 : 256 ≤ ns.length
  · have he : errA ns s n = 14 := by rw [errA, if_neg (by simpa using hv), if_neg hm, if_pos (.inr h2)]
    refine SL.v (op_gtrF rfl rfl (by omega)) ?_
    refine SL.as rfl <| SL.nil <| T.condF rfl <| T.seq <| T.region <| SL.mv rfl <| SL.v (op_nil rfl) <| SL.v (op_fieldAddr fa166_0 rfl) <| SL.v (op_loadX ty59 rfl (by assumption) rfl) ?_
    refine SL.v (op_lenS Tryz.underlying59 rfl) <| SL.mv rfl <| SL.v (op_geqF rfl rfl (by omega)) ?_
    refine SL.mv rfl <| SL.mv rfl <| SL.v (op_nil rfl) <| SL.v (op_fieldAddr fa166_0 rfl) <| SL.v (op_loadX ty59 rfl (by assumption) rfl) ?_
    refine SL.v (op_lenS Tryz.underlying59 rfl) <| SL.v (op_geqT rfl rfl (by omega)) ?_
    refine SL.v (op_pickF rfl rfl) <| SL.as rfl <| SL.nil <| T.condT rfl <| T.seq <| T.region <| SL.as rfl <| SL.v (op_assign (v := .int .i64 ((0 : Nat) : Int)) rfl) <| SL.v (op_assign (v := .int .i64 ((14 : Nat) : Int)) rfl) <| SL.nil <| T.ret3 rfl rfl rfl rfl ?_
    rw [he, if_neg (by decide)]
    rfl
  have he : errA ns s n = 0 := by rw [errA, if_neg (by simpa using hv), if_neg hm, if_neg (by omega)]
  rw [he]
  refine SL.v (op_gtrF rfl rfl (by omega)) ?_
  refine SL.as rfl <| SL.nil <| T.condF rfl <| T.seq <| T.region <| SL.mv rfl <| SL.v (op_nil rfl) <| SL.v (op_fieldAddr fa166_0 rfl) <| SL.v (op_loadX ty59 rfl (by assumption) rfl) ?_
  refine SL.v (op_lenS Tryz.underlying59 rfl) <| SL.mv rfl <| SL.v (op_geqF rfl rfl (by omega)) ?_
  refine SL.mv rfl <| SL.mv rfl <| SL.v (op_nil rfl) <| SL.v (op_fieldAddr fa166_0 rfl) <| SL.v (op_loadX ty59 rfl (by assumption) rfl) ?_
  refine SL.v (op_lenS Tryz.underlying59 rfl) <| SL.v (op_geqF rfl rfl (by omega)) ?_
  refine SL.v (op_pickF rfl rfl) <| SL.as rfl <| SL.nil <| T.condF rfl <| T.skip <| T.blk <| T.seq <| T.draw (by kernel_rfl) 12 [.t 0, .t 1, .t 2, .t 3, .t 5, .t 8, .t 9, .t 10, .t 11, .f 4 6, .r 7] (by kernel_rfl) ?_
  refine SD.take rfl panicBody (op_move rfl) rfl rfl ?_
  refine SD.take rfl panicBody (op_nil rfl) rfl rfl ?_
  refine SD.take rfl panicBody (op_fieldAddr fa166_0 rfl) rfl rfl ?_
  refine SD.take rfl panicBody (op_loadX ty59 rfl (by assumption) rfl) rfl rfl ?_
  refine SD.take rfl panicBody (op_move rfl) rfl rfl ?_
  refine SD.take rfl panicBody (op_move rfl) rfl rfl ?_
  refine SD.take rfl panicBody (op_nil rfl) rfl rfl ?_
  refine SD.take rfl panicBody (op_fieldAddr fa166_1 rfl) rfl rfl ?_
  refine SD.take rfl panicBody (op_loadX ty164 rfl (by assumption) rfl) rfl rfl ?_
  have hR := hR.mono hX1
  have hM := hM.mono hX1
  refine SD.fork rfl rfl (K := (fun v1 v2 own' X' => ∃ (G : Own) (bb : Nat), v2 = .slice (some ⟨bb, 0, none⟩) 1 1 ∧ own' = ⟨bb, [.string s], 9, 1⟩ :: ([] ++ G) ∧ GrowS 9 1 v1 ns.length (strsC ns) G ∧ X1.le X')) ((op_callO (vs := [_]) en161 rfl (sclone_spec hR (by omega))).mono (by rintro v own' X' ⟨G, rfl, hX2, hG⟩; exact (op_buildSlice Tryz.underlying59 bs9 (qs := [(0, _)]) rfl rfl rfl rfl rfl).mono (by rintro v2 own2 X2 ⟨bb, rfl, rfl, rfl⟩; exact ⟨G, bb, rfl, by rw [List.append_nil]; rfl, hG, hX2⟩))) ((op_buildSlice Tryz.underlying59 bs9 (qs := [(0, _)]) rfl rfl rfl rfl rfl).mono (by rintro v2 own2 X2 ⟨bb, rfl, rfl, rfl⟩; exact (op_callO (vs := [_]) en161 rfl (sclone_spec hR (by omega))).mono (by rintro v own' X' ⟨G, rfl, hX2, hG⟩; exact ⟨_, List.perm_append_singleton _ _, G, bb, rfl, rfl, hG, hX2⟩))) rfl (fun _ => rfl) rfl (fun _ => rfl) rfl rfl rfl ?_
  rintro v1 _ _ X2 ⟨G, bb, rfl, rfl, hG, hX2⟩
  refine SD.runK rfl (op_appendG (own0 := []) sl59 rfl hG rfl rfl rfl (by (have : maxLen = 9223372036854775807 := rfl); omega) (by omega)) (by rintro _ _ _ ⟨G2, rfl, rfl, hG2⟩; exact ⟨fun p hp => (by cases hp), hX2⟩) rfl rfl ?_
  rintro v3 G2 _ ⟨_, rfl, rfl, hG2⟩
  refine SD.nil ?_
  show SL _ _ _ _ _ _ _ [_, _, _, _] _ _ _
  have hG2 : GrowS 9 1 v3 (ns ++ [s]).length (strsC (ns ++ [s])) G2 := by rw [List.length_append, strsC_app]; exact hG2
  obtain ⟨A3, c3, rfl⟩ := hG2.form
  refine SL.w (op_callN (vs := [_]) en162 rfl (mclone_spec (hM.mono hX2))) ?_
  rintro v4 _ X3 ⟨rfl, hX3, hnew, hcl⟩
  rcases hcl with ⟨rfl, rfl⟩ | ⟨bm, rfl, hb0, hb1⟩
  · have hns : ns = [] := hM
    subst hns
    refine SL.v (op_build st166 (qs := [(0, _), (1, _)]) rfl rfl) <| SL.w (op_box rfl) ?_
    rintro _ _ _ ⟨B55, rfl, rfl, rfl⟩
    refine SL.as rfl <| SL.nil <| T.seq <| T.seq <| T.region <| SL.mv rfl <| SL.v (op_nil rfl) <| SL.v (op_fieldAddr fa166_1 rfl) <| SL.v (op_load ty164 rfl (by repeat constructor) rfl) ?_
    refine SL.v (op_eqlMapNil Tryz.underlying164 rfl rfl) <| SL.nil <| T.condT rfl <| T.region <| SL.mv rfl <| SL.x op_makeMap rfl rfl ?_
    rintro _ _ _ ⟨bm, rfl, rfl, hb0, hb1, rfl⟩
    refine SL.v (op_nil rfl) <| SL.v (op_fieldAddr fa166_1 rfl) <| SL.w (op_store ty164 rfl rfl (by repeat constructor) rfl rfl rfl) ?_
    rintro _ _ _ ⟨rfl, rfl⟩
    refine SL.nil <| T.seq <| T.draw (by kernel_rfl) 10 [.t 0, .t 1, .t 2, .t 3, .t 4, .t 5, .t 6, .t 7, .t 8, .t 9] (by kernel_rfl) ?_
    refine SD.take rfl panicBody (op_move rfl) rfl rfl ?_
    refine SD.take rfl panicBody (op_nil rfl) rfl rfl ?_
    refine SD.take rfl panicBody (op_fieldAddr fa166_1 rfl) rfl rfl ?_
    refine SD.take rfl panicBody (op_load ty164 rfl (by repeat constructor) rfl) rfl rfl ?_
    refine SD.take rfl panicBody (op_move rfl) rfl rfl ?_
    refine SD.take rfl panicBody (op_move rfl) rfl rfl ?_
    refine SD.take rfl panicBody (op_nil rfl) rfl rfl ?_
    refine SD.take rfl panicBody (op_fieldAddr fa166_0 rfl) rfl rfl ?_
    refine SD.take rfl panicBody (op_load ty59 rfl (by repeat constructor) rfl) rfl rfl ?_
    refine SD.take rfl panicBody (op_lenS Tryz.underlying59 rfl) rfl rfl ?_
    refine SD.nil ?_
    show SL _ _ _ _ _ _ _ [_] _ _ _
    refine SL.w (op_putN (ns := []) (s := s) Tryz.underlying164 Tryz.underlying9 rfl rfl rfl PMap.add_at hb1 hm) ?_
    rintro _ _ _ ⟨rfl, rfl⟩
    refine SL.nil <| T.seq <| T.draw (by kernel_rfl) 9 [.t 0, .t 1, .t 2, .t 3, .t 4, .t 5, .t 6, .t 7, .t 8] (by kernel_rfl) ?_
    refine SD.take rfl panicBody (op_move rfl) rfl rfl ?_
    refine SD.take rfl panicBody (op_move rfl) rfl rfl ?_
    refine SD.take rfl panicBody (op_nil rfl) rfl rfl ?_
    refine SD.take rfl panicBody (op_fieldAddr fa166_0 rfl) rfl rfl ?_
    refine SD.take rfl panicBody (op_load ty59 rfl (by repeat constructor) rfl) rfl rfl ?_
    refine SD.take rfl panicBody (op_lenS Tryz.underlying59 rfl) rfl rfl ?_
    refine SD.take rfl panicBody (op_assign rfl) rfl rfl ?_
    refine SD.take rfl panicBody (op_assign rfl) rfl rfl ?_
    refine SD.take rfl panicBody (op_assign (v := .int .i64 ((0 : Nat) : Int)) rfl) rfl rfl ?_
    refine SD.nil ?_
    show SL _ _ _ _ _ _ _ [] _ _ _
    refine SL.nil <| T.pub B55 (by repeat constructor) ?_
    intro X8 hX8 hB55 _
    refine T.pubG (own0 := []) hG2 ?_
    intro X9 hX9 hS9
    refine T.ret3 rfl rfl rfl rfl ?_
    exact ⟨_, rfl, B55, _, some bm, rfl, hB55.mono hX9, RowR.ofG (rc := strC) (by rw [strsC_flat]; exact hG2) (by rw [strsC_flat]; exact hS9), hX9 _ _ (hX8 _ _ PMap.add_at)⟩
  · refine SL.v (op_build st166 (qs := [(0, _), (1, _)]) rfl rfl) <| SL.w (op_box rfl) ?_
    rintro _ _ _ ⟨B55, rfl, rfl, rfl⟩
    refine SL.as rfl <| SL.nil <| T.seq <| T.seq <| T.region <| SL.mv rfl <| SL.v (op_nil rfl) <| SL.v (op_fieldAddr fa166_1 rfl) <| SL.v (op_load ty164 rfl (by repeat constructor) rfl) ?_
    refine SL.v (op_eqlMapNil Tryz.underlying164 rfl rfl) <| SL.nil <| T.condF rfl <| T.skip <| T.seq <| T.draw (by kernel_rfl) 10 [.t 0, .t 1, .t 2, .t 3, .t 4, .t 5, .t 6, .t 7, .t 8, .t 9] (by kernel_rfl) ?_
    refine SD.take rfl panicBody (op_move rfl) rfl rfl ?_
    refine SD.take rfl panicBody (op_nil rfl) rfl rfl ?_
    refine SD.take rfl panicBody (op_fieldAddr fa166_1 rfl) rfl rfl ?_
    refine SD.take rfl panicBody (op_load ty164 rfl (by repeat constructor) rfl) rfl rfl ?_
    refine SD.take rfl panicBody (op_move rfl) rfl rfl ?_
    refine SD.take rfl panicBody (op_move rfl) rfl rfl ?_
    refine SD.take rfl panicBody (op_nil rfl) rfl rfl ?_
    refine SD.take rfl panicBody (op_fieldAddr fa166_0 rfl) rfl rfl ?_
    refine SD.take rfl panicBody (op_load ty59 rfl (by repeat constructor) rfl) rfl rfl ?_
    refine SD.take rfl panicBody (op_lenS Tryz.underlying59 rfl) rfl rfl ?_
    refine SD.nil ?_
    show SL _ _ _ _ _ _ _ [_] _ _ _
    refine SL.w (op_putN (ns := ns) (s := s) Tryz.underlying164 Tryz.underlying9 rfl rfl rfl hb1 (hnew bm hb0 (by rw [hb1]; simp)) hm) ?_
    rintro _ _ _ ⟨rfl, rfl⟩
    refine SL.nil <| T.seq <| T.draw (by kernel_rfl) 9 [.t 0, .t 1, .t 2, .t 3, .t 4, .t 5, .t 6, .t 7, .t 8] (by kernel_rfl) ?_
    refine SD.take rfl panicBody (op_move rfl) rfl rfl ?_
    refine SD.take rfl panicBody (op_move rfl) rfl rfl ?_
    refine SD.take rfl panicBody (op_nil rfl) rfl rfl ?_
    refine SD.take rfl panicBody (op_fieldAddr fa166_0 rfl) rfl rfl ?_
    refine SD.take rfl panicBody (op_load ty59 rfl (by repeat constructor) rfl) rfl rfl ?_
    refine SD.take rfl panicBody (op_lenS Tryz.underlying59 rfl) rfl rfl ?_
    refine SD.take rfl panicBody (op_assign rfl) rfl rfl ?_
    refine SD.take rfl panicBody (op_assign rfl) rfl rfl ?_
    refine SD.take rfl panicBody (op_assign (v := .int .i64 ((0 : Nat) : Int)) rfl) rfl rfl ?_
    refine SD.nil ?_
    show SL _ _ _ _ _ _ _ [] _ _ _
    refine SL.nil <| T.pub B55 (by repeat constructor) ?_
    intro X8 hX8 hB55 _
    refine T.pubG (own0 := []) hG2 ?_
    intro X9 hX9 hS9
    refine T.ret3 rfl rfl rfl rfl ?_
    exact ⟨_, rfl, B55, _, some bm, rfl, hB55.mono hX9, RowR.ofG (rc := strC) (by rw [strsC_flat]; exact hG2) (by rw [strsC_flat]; exact hS9), hX9 _ _ (hX8 _ _ PMap.add_at)⟩
/-- What is wrong with the first of these names with which something is wrong. -/
noncomputable def errOf (n : Nat) (pre : List ByteArray) : List ByteArray → Int
  | [] => 0
  | s :: l => if errA pre s n ≠ 0 then errA pre s n else errOf n (pre ++ [s]) l
theorem errOf_app (n : Nat) (b : List ByteArray) : ∀ (a pre : List ByteArray), errOf n pre (a ++ b) = if errOf n pre a ≠ 0 then errOf n pre a else errOf n (pre ++ a) b
  | [], pre => by simp [errOf]
  | s :: a, pre => by
    rw [List.cons_append, errOf, errOf, errOf_app n b a (pre ++ [s])]
    by_cases h : errA pre s n ≠ 0
    · rw [if_pos h, if_pos h, if_pos h]
    · rw [if_neg h, if_neg h, List.append_assoc]; rfl
theorem errA_zero {ns : List ByteArray} {s : ByteArray} {n : Nat} (h : errA ns s n = 0) : validS s ∧ s ∉ ns ∧ ns.length < n ∧ ns.length < 256 := by
  unfold errA at h
  split at h
  · cases h
  · rename_i h1
    split at h
    · cases h
    · rename_i h2
      split at h
      · cases h
      · rename_i h3
        exact ⟨by simpa using h1, h2, by omega, by omega⟩
theorem errOf_len {n : Nat} : ∀ {a pre : List ByteArray}, errOf n pre a = 0 → pre.length ≤ 256 → (pre ++ a).length ≤ 256
  | [], pre, _, h => by simpa using h
  | s :: a, pre, h, hp => by
    rw [errOf] at h
    by_cases h1 : errA pre s n ≠ 0
    · rw [if_pos h1] at h; exact absurd h h1
    · rw [if_neg h1] at h
      have h2 := errA_zero (Decidable.not_not.1 h1)
      have := errOf_len h (by rw [List.length_append]; simp; omega)
      simp only [List.length_append, List.length_cons, List.length_nil] at this ⊢; omega
/-- Names that are all well. -/
theorem errOf_ok {n : Nat} : ∀ {a pre : List ByteArray}, (∀ s ∈ a, validS s) → (pre ++ a).Nodup → (pre ++ a).length ≤ n → n ≤ 256 → errOf n pre a = 0
  | [], _, _, _, _, _ => rfl
  | s :: a, pre, hv, hd, hl, hn => by
    have h1 : errA pre s n = 0 := by
      rw [errA, if_neg (by simpa using hv s (by simp)), if_neg, if_neg]
      · simp only [List.length_append, List.length_cons] at hl; omega
      · intro hm
        rw [List.nodup_append] at hd
        exact hd.2.2 s hm s (by simp) rfl
    rw [errOf, if_neg (by simpa using h1)]
    have e : pre ++ [s] ++ a = pre ++ s :: a := by simp
    exact errOf_ok (fun t ht => hv t (by simp [ht])) (e ▸ hd) (e ▸ hl) hn
theorem of_tab_spec {X : PMap} {v : Value} {l : List ByteArray} {n : Nat} (h : RowR strC X v l) (hl : l.length < 1000000) : Spec Tryz.prog 72 [v, .int .i64 (n : Int)] X fun u X' => if errOf n [] l = 0 then ∃ v', u = .tuple #[v', .int .i64 0] ∧ TabR X' v' l else u = .tuple #[.pointer none, .int .i64 (errOf n [] l)] := by
  obtain ⟨A, cp, rfl⟩ := h.form
  refine Spec.enter Tryz.func72 rfl Tryz.ntmps72 rfl ?_
  intro w0 hw0
  refine T.seq <| T.region <| SL.as rfl <| SL.v (op_assign (v := .int .i64 ((0 : Nat) : Int)) rfl) <| SL.nil <| T.seq <| T.region <| SL.w (op_callF en119 (vs := []) rfl (new_spec)) ?_
  rintro vt _ X1 ⟨rfl, hX1, hT⟩
  refine SL.as rfl <| SL.nil <| T.seq <| T.seq <| T.region <| SL.mv rfl <| SL.v (op_lenS Tryz.underlying59 rfl) <| SL.v (op_move (v := .int .i64 ((0 : Nat) : Int)) rfl) <| SL.nil <| T.block <| T.loopW (fun m env own X' => ∃ (i : Nat) (vt : Value), m = l.length - i ∧ i ≤ l.length ∧ X.le X' ∧ errOf n [] (l.take i) = 0 ∧ TabR X' vt (l.take i) ∧ env = [(1, .int .i64 (n : Int)), (6, vt), (13, .slice A l.length cp), (14, .int .i64 (l.length : Int)), (15, .int .i64 (i : Int))] ∧ own = []) l.length ⟨0, vt, by simp, by omega, hX1, by simp [errOf], by simpa using hT, rfl, rfl⟩ (by repeat (first | exact Sub.nil | refine Sub.cons rfl ?_)) ?_
  rintro m _ _ X2 ⟨i, vt, rfl, hi, hX2, hz, hT, rfl, rfl⟩
  rcases Nat.lt_or_ge i l.length with hil | hil
  · obtain ⟨s, hs⟩ : ∃ s, l[i]? = some s := ⟨_, List.getElem?_eq_getElem hil⟩
    obtain ⟨bA, pre, rfl, hbA⟩ := h.blk (by omega)
    have hta : l.take (i + 1) = l.take i ++ [s] := by rw [List.take_add_one, hs]; rfl
    have hle : (l.take i).length ≤ 256 := by simpa using errOf_len hz (by simp)
    have hat : errOf n [] (l.take (i + 1)) = errA (l.take i) s n := by
      rw [hta, errOf_app, if_neg (by simpa using hz), List.nil_append, errOf]
      split
      · rfl
      · rename_i h0; exact (Decidable.not_not.1 h0).symm
    refine T.seq <| T.region <| SL.v (op_lssT rfl rfl (by omega)) ?_
    refine SL.nil <| T.seq <| T.condT rfl <| T.skip <| T.seq <| T.block <| T.seq <| T.region <| SL.v (op_indexN Tryz.underlying59 ty9 rfl rfl (by omega)) ?_
    refine SL.v (op_loadX ty9 rfl (hbA.mono hX2) (str_read hs (by omega))) ?_
    refine SL.as rfl <| SL.nil <| T.seq <| T.region <| SL.mv rfl <| SL.mv rfl <| SL.mv rfl <| SL.w (op_callF en120 (vs := [_, _, _]) rfl (add_spec (s := s) (n := n) hT hle)) ?_
    rintro u3 _ X3 ⟨rfl, hX3, hu3⟩
    by_cases he : errA (l.take i) s n = 0
    · rw [if_pos he] at hu3
      obtain ⟨v3, rfl, hT3⟩ := hu3
      refine SL.mv rfl <| SL.v (op_extract rfl rfl) <| SL.v (op_extract rfl rfl) <| SL.v (op_extract rfl rfl) <| SL.as rfl <| SL.as rfl <| SL.as rfl <| SL.nil <| T.seq <| T.seq <| T.region <| SL.mv rfl <| SL.v (op_neqF rfl rfl (by omega)) ?_
      refine SL.nil <| T.condF rfl <| T.skip <| T.region <| SL.mv rfl <| SL.as rfl <| SL.nil <| T.blk <| T.region <| SL.v (op_addN (q := 1) rfl rfl (by omega)) ?_
      refine SL.mv rfl <| SL.nil ?_
      exact T.backW (l.length - (i + 1)) (by omega) ⟨i + 1, v3, rfl, by omega, hX2.trans' hX3, by rw [hat, he], by rw [hta]; exact hT3, rfl, rfl⟩ (by repeat (first | exact Sub.nil | refine Sub.cons rfl ?_))
    · rw [if_neg he] at hu3
      subst hu3
      refine SL.mv rfl <| SL.v (op_extract rfl rfl) <| SL.v (op_extract rfl rfl) <| SL.v (op_extract rfl rfl) <| SL.as rfl <| SL.as rfl <| SL.as rfl <| SL.nil <| T.seq <| T.seq <| T.region <| SL.mv rfl <| SL.v (op_neqT rfl rfl (by omega)) ?_
      refine SL.nil <| T.condT rfl <| T.seq <| T.region <| SL.mv rfl <| SL.as rfl <| SL.as rfl <| SL.nil <| T.ret2 rfl (ResIs.tmp rfl) (ResIs.tmp rfl) ?_
      have ht : errOf n [] l = errA (l.take i) s n := by
        have h0 : errOf n [] (l.take (i + 1) ++ l.drop (i + 1)) = errA (l.take i) s n := by rw [errOf_app, hat, if_pos he]
        rwa [List.take_append_drop] at h0
      rw [if_neg (by rw [ht]; exact he), ht]
      rfl
  · obtain rfl : i = l.length := by omega
    rw [List.take_of_length_le (Nat.le_refl _)] at hz hT
    refine T.seq <| T.region <| SL.v (op_lssF rfl rfl (by omega)) ?_
    refine SL.nil <| T.seq <| T.condF rfl ?_
    refine T.exit (T.exitCode (T.exitCut (T.exitBlk ?_)))
    refine T.seq <| T.region <| SL.mv rfl <| SL.as rfl <| SL.v (op_assign (v := .int .i64 ((0 : Nat) : Int)) rfl) <| SL.nil <| T.ret2 rfl (ResIs.tmp rfl) (ResIs.tmp rfl) ?_
    rw [if_pos hz]
    exact ⟨_, rfl, hT⟩
end Go.Proofs.YtnpcilglilfajaaGreatDoor
namespace Go.Proofs.YtnpcilglilfajaaGreatDoor
open Go.RowKit
theorem and127n {p : Nat} (h : p < 9223372036854775808) : bits .and .i64 (p : Int) 127 = ((p % 128 : Nat) : Int) := by
  have e : (BitVec.ofInt 64 (p : Int) &&& BitVec.ofInt 64 127).toNat = p % 128 := by
    rw [BitVec.toNat_and, BitVec.toNat_ofInt, BitVec.toNat_ofInt, show (127 : Int) % ((2 ^ 64 : Nat) : Int) = ((127 : Nat) : Int) from rfl, Int.toNat_natCast, show (p : Int) % ((2 ^ 64 : Nat) : Int) = (p : Int) by omega, Int.toNat_natCast, show (127 : Nat) = 2 ^ 7 - 1 from rfl, Nat.and_two_pow_sub_one_eq_mod]
  show IntKind.i64.wrap ((BitVec.ofInt 64 (p : Int) &&& BitVec.ofInt 64 127).toNat : Int) = _
  rw [e]
  exact wrap_i64_in (by omega) (by omega)
theorem ones_exact {X : PMap} {m : Nat} (hlt : m < 18446744073709551616) : Spec Tryz.prog 70 [.int .u64 (m : Int)] X fun u _ => u = .int .i64 (cntB 64 m : Int) := by
  obtain ⟨a, b, c, e1, ha, e2, hb, hb2, e3, hc1, hc2, hc3, hfin, hle⟩ := swar hlt
  have hc0 : c < 18446744073709551616 := by omega
  refine Spec.enter Tryz.func70 rfl Tryz.ntmps70 rfl ?_
  intro w0 hw0
  refine T.seq <| T.region <| SL.v (op_assign (v := .int .i64 ((0 : Nat) : Int)) rfl) <| SL.nil <| T.seq <| T.region <| SL.mv rfl <| SL.v (op_shrN (q := 1) rfl rfl (by omega)) ?_
  refine SL.v (op_and (q := 6148914691236517205) rfl rfl (Nat.lt_of_le_of_lt (Nat.shiftRight_le ..) hlt) (by decide)) ?_
  refine SL.mv rfl <| SL.v (op_and (q := 6148914691236517205) rfl rfl hlt (by decide)) ?_
  refine SL.v (op_addU rfl rfl (by rw [e1]; exact ha)) ?_
  rw [e1]
  refine SL.as rfl <| SL.nil <| T.seq <| T.region <| SL.mv rfl <| SL.v (op_shrN (q := 2) rfl rfl (by omega)) ?_
  refine SL.v (op_and (q := 3689348814741910323) rfl rfl (Nat.lt_of_le_of_lt (Nat.shiftRight_le ..) ha) (by decide)) ?_
  refine SL.mv rfl <| SL.v (op_and (q := 3689348814741910323) rfl rfl ha (by decide)) ?_
  refine SL.v (op_addU rfl rfl (by rw [e2]; exact hb)) ?_
  rw [e2]
  refine SL.as rfl <| SL.nil <| T.seq <| T.region <| SL.mv rfl <| SL.v (op_shrN (q := 4) rfl rfl (by omega)) ?_
  refine SL.mv rfl <| SL.v (op_addU rfl rfl hb2) <| SL.v (op_and (q := 1085102592571150095) rfl rfl hb2 (by decide)) ?_
  rw [e3]
  refine SL.as rfl <| SL.nil <| T.seq <| T.region <| SL.mv rfl <| SL.mv rfl <| SL.v (op_shrN (q := 8) rfl rfl (by omega)) ?_
  refine SL.v (op_addU rfl rfl hc1) <| SL.as rfl <| SL.nil <| T.seq <| T.region <| SL.mv rfl <| SL.mv rfl <| SL.v (op_shrN (q := 16) rfl rfl (by omega)) ?_
  refine SL.v (op_addU rfl rfl hc2) <| SL.as rfl <| SL.nil <| T.seq <| T.region <| SL.mv rfl <| SL.mv rfl <| SL.v (op_shrN (q := 32) rfl rfl (by omega)) ?_
  refine SL.v (op_addU rfl rfl (by omega)) ?_
  generalize ((c + c >>> 8) + (c + c >>> 8) >>> 16) + ((c + c >>> 8) + (c + c >>> 8) >>> 16) >>> 32 = f at *
  refine SL.as rfl <| SL.nil <| T.seq <| T.region <| SL.mv rfl <| SL.v (op_convI64 Tryz.underlying58 Tryz.underlying3 rfl (by omega) (by omega)) ?_
  refine SL.v (op_bits (op := .and) rfl rfl (by simp) (and127n hc3)) ?_
  refine SL.as rfl <| SL.nil <| T.ret1 rfl (ResIs.tmp rfl) ?_
  rw [hfin]
theorem len_exact {X : PMap} {v : Value} {m : Nat} (h : SetR X v m) : Spec Tryz.prog 22 [v] X fun u _ => u = .int .i64 ((mem64 m).length : Int) := by
  have hcnt : ∀ m, (mem64 m).length = cntB 64 m := fun m => by rw [mem64, cntB, List.countP_eq_length_filter]
  rcases h with ⟨rfl, A, c, rfl⟩ | ⟨_, h1, b, c, rest, rfl, hB⟩
  · refine Spec.enter Tryz.func22 rfl Tryz.ntmps22 rfl ?_
    intro w0 hw0
    refine T.seq <| T.region <| SL.w (op_box rfl) ?_
    rintro _ _ _ ⟨B1, rfl, rfl, rfl⟩
    refine SL.v (op_assign (v := .int .i64 ((0 : Nat) : Int)) rfl) <| SL.nil <| T.seq <| T.region <| SL.v (op_assign (v := .int .i64 ((0 : Nat) : Int)) rfl) <| SL.nil <| T.seq <| T.seq <| T.region <| SL.v (op_fieldAddr fa53_0 rfl) <| SL.v (op_load ty51 rfl (by repeat constructor) rfl) ?_
    refine SL.v (op_lenS Tryz.underlying51 rfl) <| SL.v (op_move (v := .int .i64 ((0 : Nat) : Int)) rfl) <| SL.nil <| T.block <| T.unrollStart 1 ?_
    refine T.unroll ?_
    refine T.seq <| T.region <| SL.v (op_lssF rfl rfl (by omega)) ?_
    refine SL.nil <| T.seq <| T.condF rfl ?_
    refine T.exit (T.exitCode (T.exitMore (T.exitBlk ?_)))
    refine T.seq <| T.region <| SL.mv rfl <| SL.as rfl <| SL.nil <| T.ret1 rfl (ResIs.tmp rfl) ?_
    rw [mem64_zero]
    rfl
  · have hle := cnt_le m
    refine Spec.enter Tryz.func22 rfl Tryz.ntmps22 rfl ?_
    intro w0 hw0
    refine T.seq <| T.region <| SL.w (op_box rfl) ?_
    rintro _ _ _ ⟨B1, rfl, rfl, rfl⟩
    refine SL.v (op_assign (v := .int .i64 ((0 : Nat) : Int)) rfl) <| SL.nil <| T.seq <| T.region <| SL.v (op_assign (v := .int .i64 ((0 : Nat) : Int)) rfl) <| SL.nil <| T.seq <| T.seq <| T.region <| SL.v (op_fieldAddr fa53_0 rfl) <| SL.v (op_load ty51 rfl (by repeat constructor) rfl) ?_
    refine SL.v (op_lenS Tryz.underlying51 rfl) <| SL.v (op_move (v := .int .i64 ((0 : Nat) : Int)) rfl) <| SL.nil <| T.block <| T.unrollStart 2 ?_
    refine T.unroll ?_
    refine T.seq <| T.region <| SL.v (op_lssT rfl rfl (by omega)) ?_
    refine SL.nil <| T.seq <| T.condT rfl <| T.skip <| T.seq <| T.block <| T.seq <| T.region <| SL.v (op_indexN Tryz.underlying51 ty58 rfl rfl (by omega)) ?_
    refine SL.v (op_loadX ty58 rfl (by assumption) rfl) ?_
    refine SL.as rfl <| SL.nil <| T.region <| SL.mv rfl <| SL.mv rfl <| SL.w (op_callF en70 (vs := [_]) rfl (ones_exact h1)) ?_
    rintro _ _ X1 ⟨rfl, hX1, rfl⟩
    refine SL.v (op_addN rfl rfl (by omega)) ?_
    refine SL.as rfl <| SL.nil <| T.blk <| T.region <| SL.v (op_addN (q := 1) rfl rfl (by omega)) ?_
    refine SL.mv rfl <| SL.nil <| T.unroll ?_
    refine T.seq <| T.region <| SL.v (op_lssF rfl rfl (by omega)) ?_
    refine SL.nil <| T.seq <| T.condF rfl ?_
    refine T.exit (T.exitCode (T.exitMore (T.exitBlk ?_)))
    refine T.seq <| T.region <| SL.mv rfl <| SL.as rfl <| SL.nil <| T.ret1 rfl (ResIs.tmp rfl) ?_
    rw [hcnt, Nat.zero_add]
end Go.Proofs.YtnpcilglilfajaaGreatDoor
namespace Go.Proofs.YtnpcilglilfajaaGreatDoor
section
set_option maxRecDepth 100000
theorem en112 : Enters Tryz.prog 112 := enters_mk Tryz.func112 (by kernel_rfl) rfl
theorem fa36_3 : FAdr Tryz.prog 36 3 3 := fadr_mk Tryz.underlying36 rfl rfl (by kernel_rfl)
theorem ty34 : Ty Tryz.prog 34 false 1 := ⟨⟨_, Tryz.underlying34, rfl⟩, by kernel_rfl⟩
theorem ty36 : Ty Tryz.prog 36 true 4 := ⟨⟨_, Tryz.underlying36, rfl⟩, by kernel_rfl⟩
theorem z36 : Zero Tryz.prog 36 [.int .u8 0, .int .i64 0, .slice none 0 0, .slice none 0 0] := ⟨zero_of (by kernel_rfl)⟩
end
open Go.RowKit
/-- A slice of small numbers. -/
def IntsR (X : PMap) (v : Value) (rs : List Nat) : Prop := SliceR X v rs.length (ints rs) ∧ ∃ A c, v = .slice A rs.length c ∧ rs.length ≤ c
theorem IntsR.mono {X X' : PMap} {v : Value} {rs : List Nat} (h : IntsR X v rs) (hX : X.le X') : IntsR X' v rs := ⟨h.1.mono hX, h.2⟩
theorem IntsR.form {X : PMap} {v : Value} {rs : List Nat} (h : IntsR X v rs) : ∃ A c, v = .slice A rs.length c := by
  obtain ⟨_, A, c, hv, _⟩ := h
  exact ⟨A, c, hv⟩
theorem IntsR.cap {X : PMap} {A : Option Addr} {l c : Nat} {rs : List Nat} (h : IntsR X (.slice A l c) rs) : rs.length ≤ c := by
  obtain ⟨_, A', c', hv, hc⟩ := h
  cases hv
  exact hc
theorem IntsR.blk {X : PMap} {A : Option Addr} {c : Nat} {rs : List Nat} (h : IntsR X (.slice A rs.length c) rs) (h0 : 0 < rs.length) : ∃ b, A = some ⟨b, 0, none⟩ ∧ Blk X b (ints rs) := SliceR.blk h.1 h0
theorem IntsR.nil {X : PMap} {A : Option Addr} {c : Nat} : IntsR X (.slice A 0 c) [] := ⟨.inl ⟨rfl, rfl, _, _, rfl⟩, _, _, rfl, Nat.zero_le _⟩
theorem IntsR.ofG {X : PMap} {e : TypeId} {v : Value} {rs : List Nat} {G : Own} (hg : GrowS e 1 v rs.length (ints rs) G) (h : SliceR X v rs.length (ints rs)) : IntsR X v rs := by
  refine ⟨h, ?_⟩
  rcases hg with ⟨h0, _, hv, _⟩ | ⟨b, cap, hv, _, h2, _⟩
  · exact ⟨_, _, by rw [hv, h0], by omega⟩
  · exact ⟨_, _, hv, h2⟩
/-- The four fields of a formula whose operator is of kind k. -/
inductive FmR (k : IntKind) (X : PMap) : Fm → Row4 → Prop
  | mk {op : Nat} {n : Int} {rs : List Nat} {al : List Fm} {vn va : Value} {rows : List Row4} (hn : IntsR X vn rs) (ha : RowR rc4 X va rows) (hl : rows.length = al.length)
      (hr : ∀ (i : Nat) (a : Fm) (r : Row4), al[i]? = some a → rows[i]? = some r → FmR k X a r) : FmR k X (.mk op n rs al) (.int k (op : Int), .int .i64 n, vn, va)
theorem FmR.mono {k : IntKind} {X X' : PMap} {e : Fm} {r : Row4} (h : FmR k X e r) (hX : X.le X') : FmR k X' e r := by
  induction h with
  | mk hn ha hl hr ih => exact .mk (hn.mono hX) (ha.mono hX) hl ih
theorem FmR.form {k : IntKind} {X : PMap} {e : Fm} {r : Row4} (h : FmR k X e r) : ∃ (o : Nat) (n : Int) (A B : Option Addr) (l c l' c' : Nat), r = (.int k (o : Int), .int .i64 n, .slice A l c, .slice B l' c') := by
  cases h with
  | mk hn ha hl hr =>
    obtain ⟨A, c, rfl⟩ := hn.form
    obtain ⟨B, c', rfl⟩ := ha.form
    exact ⟨_, _, _, _, _, _, _, _, rfl⟩
theorem FmR.op {k : IntKind} {X : PMap} {e : Fm} {r : Row4} (h : FmR k X e r) : r.1 = .int k (e.op : Int) := by
  cases h; rfl
theorem fmeas_spec (N : Nat) : ∀ {X : PMap} {e : Fm} {r : Row4}, wtF e ≤ N → N < 4000000000000 → FmR .u8 X e r → Spec Tryz.prog 112 [.agg #[r.1, r.2.1, r.2.2.1, r.2.2.2]] X fun u _ => u = .tuple #[.int .i64 (depF e : Int), .int .i64 (sizF e : Int)] := by
  induction N with
  | zero => intro X e r h; have := wtF_pos e; omega
  | succ N ih =>
    intro X e r hN hB h
    cases h with
    | @mk op n rs al vn va rows hn ha hl hr =>
    obtain ⟨Aa, ca, rfl⟩ := ha.form
    have hlen := wtFL_len al
    rw [wtF] at hN
    refine Spec.enter Tryz.func112 rfl Tryz.ntmps112 rfl ?_
    intro w0 hw0
    refine T.seq <| T.region <| SL.w (op_box rfl) ?_
    rintro _ _ _ ⟨B1, rfl, rfl, rfl⟩
    refine SL.v (op_assign (v := .int .i64 ((0 : Nat) : Int)) rfl) <| SL.v (op_assign (v := .int .i64 ((0 : Nat) : Int)) rfl) <| SL.nil <| T.seq <| T.seq <| T.region <| SL.v (op_fieldAddr fa36_3 rfl) <| SL.v (op_load ty34 rfl (by repeat constructor) rfl) ?_
    refine SL.v (op_lenS Tryz.underlying34 rfl) <| SL.v (op_move (v := .int .i64 ((0 : Nat) : Int)) rfl) <| SL.nil <| T.block <| T.drop B1 (by repeat constructor) ?_
    refine T.loopW (fun m env own X' => ∃ i : Nat, m = rows.length - i ∧ i ≤ rows.length ∧ X.le X' ∧ env = [(2, .int .i64 (depFL (al.take i) : Int)), (3, .int .i64 (sizFL (al.take i) : Int)), (9, .slice Aa rows.length ca), (10, .int .i64 (rows.length : Int)), (11, .int .i64 (i : Int))] ∧ own = []) rows.length ⟨0, by simp, by omega, PMap.le_refl _, rfl, rfl⟩ (by repeat (first | exact Sub.nil | refine Sub.cons rfl ?_)) ?_
    rintro m _ _ X1 ⟨i, rfl, hi, hX1, rfl, rfl⟩
    rcases Nat.lt_or_ge i rows.length with hil | hil
    · obtain ⟨r2, hr2⟩ : ∃ r2, rows[i]? = some r2 := ⟨_, List.getElem?_eq_getElem hil⟩
      obtain ⟨a, ha2⟩ : ∃ a, al[i]? = some a := ⟨_, List.getElem?_eq_getElem (by omega)⟩
      have hra := hr i a r2 ha2 hr2
      obtain ⟨bA, pre, rfl, hbA⟩ := ha.blk (by omega)
      obtain ⟨_, _, _, _, _, _, _, _, rfl⟩ := hra.form
      have hwa := wtFL_mem (List.mem_of_getElem? ha2)
      have hts := take_snoc ha2
      have hw1 : wtFL (al.take (i + 1)) ≤ wtFL al := by
        have := wtFL_app (al.drop (i + 1)) (al.take (i + 1))
        rw [List.take_append_drop] at this; omega
      have hw2 : wtFL (al.take (i + 1)) = wtFL (al.take i) + wtF a := by rw [hts, wtFL_snoc]
      have q1 := siz_wtFL (al.take i)
      have q2 := siz_wtF a
      have q3 := dep_wtFL (al.take i)
      have q4 := dep_wtF a
      refine T.seq <| T.region <| SL.v (op_lssT rfl rfl (by omega)) ?_
      refine SL.nil <| T.seq <| T.condT rfl <| T.skip <| T.seq <| T.block <| T.seq <| T.region <| SL.v (op_indexN Tryz.underlying34 ty36 rfl rfl (by omega)) ?_
      refine SL.v (op_loadX ty36 rfl (hbA.mono hX1) (row_read rc4_len hr2 (by omega))) ?_
      refine SL.w (op_alloc z36) ?_
      rintro _ _ _ ⟨B5, rfl, rfl, rfl⟩
      refine SL.w (op_store ty36 rfl rfl (by repeat constructor) rfl rfl rfl) ?_
      rintro _ _ _ ⟨rfl, rfl⟩
      refine SL.nil <| T.seq <| T.region <| SL.v (op_load ty36 rfl (by repeat constructor) rfl) ?_
      refine SL.w (op_callF en112 (vs := [_]) rfl (ih (by omega) (by omega) (hra.mono hX1))) ?_
      rintro _ _ X2 ⟨rfl, hX2, rfl⟩
      refine SL.mv rfl <| SL.v (op_extract rfl rfl) <| SL.v (op_extract rfl rfl) <| SL.as rfl <| SL.as rfl <| SL.nil <| T.region <| SL.mv rfl <| SL.mv rfl <| SL.v (op_maxN rfl rfl) ?_
      rw [show max (depFL (al.take i)) (depF a) = depFL (al.take (i + 1)) by rw [hts, depFL_snoc]]
      refine SL.mv rfl <| SL.mv rfl <| SL.v (op_addN (p := sizFL (al.take i)) (q := sizF a) rfl rfl (by omega)) ?_
      rw [show sizFL (al.take i) + sizF a = sizFL (al.take (i + 1)) by rw [hts, sizFL_snoc]]
      refine SL.as rfl <| SL.as rfl <| SL.nil <| T.blk <| T.region <| SL.v (op_addN (q := 1) rfl rfl (by omega)) ?_
      refine SL.mv rfl <| SL.nil <| T.drop B5 (by repeat constructor) ?_
      exact T.backW (rows.length - (i + 1)) (by omega) ⟨i + 1, rfl, by omega, hX1.trans' hX2, rfl, rfl⟩ (by repeat (first | exact Sub.nil | refine Sub.cons rfl ?_))
    · obtain rfl : i = rows.length := by omega
      rw [show al.take rows.length = al from List.take_of_length_le (by omega)]
      have q1 := siz_wtFL al
      have q3 := dep_wtFL al
      refine T.seq <| T.region <| SL.v (op_lssF rfl rfl (by omega)) ?_
      refine SL.nil <| T.seq <| T.condF rfl ?_
      refine T.exit (T.exitCode (T.exitCut (T.exitBlk ?_)))
      refine T.seq <| T.region <| SL.mv rfl <| SL.v (op_addN (q := 1) rfl rfl (by omega)) ?_
      refine SL.mv rfl <| SL.v (op_addN (q := 1) rfl rfl (by omega)) ?_
      refine SL.as rfl <| SL.as rfl <| SL.nil <| T.ret2 rfl (ResIs.tmp rfl) (ResIs.tmp rfl) ?_
      rw [depF, sizF]
end Go.Proofs.YtnpcilglilfajaaGreatDoor
namespace Go.Proofs.YtnpcilglilfajaaGreatDoor
section
set_option maxRecDepth 100000
theorem en168 : Enters Tryz.prog 168 := enters_mk Tryz.func168 (by kernel_rfl) rfl
end
open Go.RowKit
section
variable {P : Program} {n : NM} {own : Own} {X : PMap} {env : Env}
/-- The number of a name in a map of names, and whether it is there. -/
theorem op_lookupN2 {xT kt et : TypeId} {x y : Operand} {om : Option Nat} {ns : List ByteArray} {s : ByteArray} (ht : P.underlying xT = some (.map kt et)) (hk : P.underlying kt = some .string) (hz : (P.info? et).bind (·.zero) = some (.int .i64 0))
    (hx : eev env x = some (.map om)) (hy : eev env y = some (.string s)) (hm : MapAt X ns om) :
    OpY P n env own X (.lookup xT x y true) (.tuple #[.int .i64 (posN s ns : Int), .bool (decide (posN s ns ≠ 0))]) := by
  intro a W oper hop ha hst
  obtain ⟨i, hi, hiz⟩ := Option.bind_eq_some_iff.1 hz
  have hzr : (zeroValue et).run P W = .ok (.int .i64 0) W := by simp [zeroValue, typeInfo, hi, hiz]
  obtain ⟨r, h1, h2, h3⟩ := findNow_pos s ns (fun q => .int .i64 ((q : Int) + 1)) (fun q => q) 0
  have hf : (Instr.findKey kt (.string s) (entsOf ns)).run P W = .ok r W := MapKept.run_findKey hk h1
  have hck : ∀ e, (Instr.checkKey e 10000 kt (.string s)).run P W = .ok () W := fun e => MapKept.run_checkKey hk (by trivial) e 9999
  have hl : (Instr.lookup xT (.map om) (.string s) true).run P W = .ok (.tuple #[.int .i64 (posN s ns : Int), .bool (decide (posN s ns ≠ 0))]) W := by
    have key : ∀ es : Array MapEntry, es.toList = entsOf ns → (om = none → es = #[]) → (∀ b, om = some b → ∃ clk, W.heap[b]? = some (.map es clk)) → (Instr.lookup xT (.map om) (.string s) true).run P W = .ok (.tuple #[.int .i64 (posN s ns : Int), .bool (decide (posN s ns ≠ 0))]) W := by
      intro es he ho hb
      rw [← he] at hf
      rcases Nat.eq_zero_or_pos (posN s ns) with h0 | h0
      · obtain rfl := h2 h0
        cases om with
        | none => have ho : es = #[] := ho rfl; subst ho; simp [Instr.lookup, run_underlying ht, hck, hf, hzr, h0, Result.andThen]
        | some b => obtain ⟨clk, hb⟩ := hb b rfl; simp [Instr.lookup, run_underlying ht, MapKept.run_getObj_map hb, hck, hf, hzr, h0, Result.andThen]
      · obtain ⟨k, hk'⟩ : ∃ k, posN s ns = k + 1 := ⟨posN s ns - 1, by omega⟩
        obtain ⟨q, rfl⟩ := h3 k hk'
        cases om with
        | none => have ho : es = #[] := ho rfl; subst ho; simp [Instr.lookup, run_underlying ht, hck, hf, hk', Result.andThen]
        | some b => obtain ⟨clk, hb⟩ := hb b rfl; simp [Instr.lookup, run_underlying ht, MapKept.run_getObj_map hb, hck, hf, hk', Result.andThen]
    cases om with
    | none => have hm : ns = [] := hm; subst hm; exact key #[] rfl (fun _ => rfl) (fun _ h => by cases h)
    | some b => exact key (entsOf ns).toArray rfl (fun h => by cases h) (fun b' h => by cases h; exact ⟨_, hst.pers b _ hm⟩)
  simp [execOp, hop, ha.eval hx, ha.eval hy, hl]
end
theorem numT_spec {X : PMap} {v : Value} {ns : List ByteArray} {s : ByteArray} (h : TabR X v ns) : Spec Tryz.prog 36 [v, .string s] X fun u _ => u = .tuple #[.int .i64 (posN s ns : Int), .bool (decide (posN s ns ≠ 0))] := by
  obtain ⟨b, vs, om, rfl, hB, hR, hM⟩ := h
  obtain ⟨A, cp, rfl⟩ := hR.form
  refine Spec.enter Tryz.func36 rfl Tryz.ntmps36 rfl ?_
  intro w0 hw0
  refine T.seq <| T.region <| SL.v (op_assign (v := .int .i64 ((0 : Nat) : Int)) rfl) <| SL.as rfl <| SL.nil <| T.seq <| T.seq <| T.region <| SL.mv rfl <| SL.v (op_eqlNil Tryz.underlying64 rfl rfl) <| SL.nil <| T.condF rfl <| T.skip <| T.seq <| T.region ?_
  refine SL.mv rfl <| SL.v (op_nil rfl) <| SL.v (op_fieldAddr fa166_1 rfl) <| SL.v (op_loadX ty164 rfl (by assumption) rfl) ?_
  refine SL.mv rfl <| SL.v (op_lookupN2 (s := s) Tryz.underlying164 Tryz.underlying9 (by kernel_rfl) rfl rfl hM) ?_
  refine SL.mv rfl <| SL.v (op_extract rfl rfl) <| SL.v (op_extract rfl rfl) <| SL.as rfl <| SL.as rfl <| SL.nil <| T.seq <| T.region <| SL.mv rfl <| SL.mv rfl <| SL.as rfl <| SL.as rfl <| SL.nil <| T.ret2 rfl (ResIs.tmp rfl) (ResIs.tmp rfl) ?_
  rfl
/-- The name of a number. -/
def nameAt (ns : List ByteArray) (r : Nat) : Option ByteArray := if r < 1 then none else ns[r - 1]?
theorem nameT_spec {X : PMap} {v : Value} {ns : List ByteArray} {r : Nat} (h : TabR X v ns) (hl : ns.length < 1000000) : Spec Tryz.prog 129 [v, .int .i64 (r : Int)] X fun u _ => u = .tuple #[.string ((nameAt ns r).getD ⟨#[]⟩), .bool (nameAt ns r).isSome] := by
  have hlen := fun {X' : PMap} (hX : X.le X') => tlen_spec (h.mono hX)
  obtain ⟨b, vs, om, rfl, hB, hR, hM⟩ := h
  obtain ⟨A, cp, rfl⟩ := hR.form
  by_cases h1 : r < 1
  · rw [nameAt, if_pos h1]
    refine Spec.enter Tryz.func129 rfl Tryz.ntmps129 rfl ?_
    intro w0 hw0
    refine T.seq <| T.region <| SL.as rfl <| SL.as rfl <| SL.nil <| T.seq <| T.seq <| T.region <| SL.mv rfl <| SL.v (op_lssT rfl rfl (by omega)) ?_
    refine SL.mv rfl <| SL.skip rfl rfl ?_
    refine SL.skip rfl rfl ?_
    refine SL.skip rfl rfl ?_
    refine SL.skip rfl rfl ?_
    refine SL.v (op_pickT rfl rfl) <| SL.nil <| T.condT rfl <| T.seq <| T.region <| SL.as rfl <| SL.as rfl <| SL.nil <| T.ret2 rfl (ResIs.tmp rfl) (ResIs.tmp rfl) ?_
    rfl
  rw [nameAt, if_neg h1]
  by_cases h2 : ns.length < r
  · rw [List.getElem?_eq_none (by omega)]
    refine Spec.enter Tryz.func129 rfl Tryz.ntmps129 rfl ?_
    intro w0 hw0
    refine T.seq <| T.region <| SL.as rfl <| SL.as rfl <| SL.nil <| T.seq <| T.seq <| T.region <| SL.mv rfl <| SL.v (op_lssF rfl rfl (by omega)) ?_
    refine SL.mv rfl <| SL.mv rfl <| SL.mv rfl <| SL.w (op_callF en168 (vs := [_]) rfl (hlen (PMap.le_refl _))) ?_
    rintro _ _ X1 ⟨rfl, hX1, rfl⟩
    refine SL.v (op_gtrT rfl rfl (by omega)) ?_
    refine SL.v (op_pickF rfl rfl) <| SL.nil <| T.condT rfl <| T.seq <| T.region <| SL.as rfl <| SL.as rfl <| SL.nil <| T.ret2 rfl (ResIs.tmp rfl) (ResIs.tmp rfl) ?_
    rfl
  obtain ⟨s, hs⟩ : ∃ s, ns[r - 1]? = some s := ⟨_, List.getElem?_eq_getElem (by omega)⟩
  obtain ⟨bA, pre, rfl, hbA⟩ := hR.blk (by omega)
  rw [hs]
  refine Spec.enter Tryz.func129 rfl Tryz.ntmps129 rfl ?_
  intro w0 hw0
  refine T.seq <| T.region <| SL.as rfl <| SL.as rfl <| SL.nil <| T.seq <| T.seq <| T.region <| SL.mv rfl <| SL.v (op_lssF rfl rfl (by omega)) ?_
  refine SL.mv rfl <| SL.mv rfl <| SL.mv rfl <| SL.w (op_callF en168 (vs := [_]) rfl (hlen (PMap.le_refl _))) ?_
  rintro _ _ X1 ⟨rfl, hX1, rfl⟩
  have hB := hB.mono hX1
  refine SL.v (op_gtrF rfl rfl (by omega)) ?_
  refine SL.v (op_pickF rfl rfl) <| SL.nil <| T.condF rfl <| T.skip <| T.seq <| T.region <| SL.mv rfl <| SL.v (op_nil rfl) <| SL.v (op_fieldAddr fa166_0 rfl) <| SL.v (op_loadX ty59 rfl (by assumption) rfl) ?_
  refine SL.mv rfl <| SL.v (op_subN (p := r) (q := 1) rfl rfl (by omega) (by omega)) ?_
  refine SL.v (op_indexN Tryz.underlying59 ty9 rfl rfl (by omega)) ?_
  refine SL.v (op_loadX ty9 rfl (hbA.mono hX1) (str_read hs (by omega))) ?_
  refine SL.as rfl <| SL.as rfl <| SL.nil <| T.ret2 rfl (ResIs.tmp rfl) (ResIs.tmp rfl) ?_
  rfl
end Go.Proofs.YtnpcilglilfajaaGreatDoor
namespace Go.Proofs.YtnpcilglilfajaaGreatDoor
open Go.RowKit
/-- The zero formula. -/
def zeF : Fm := .mk 0 0 [] []
def zeE : Ex := .mk 0 0 [] []
def badN (ns : List ByteArray) (adm : Nat) (s : ByteArray) : Prop := posN s ns = 0 ∨ adm.testBit (posN s ns) = true
instance (ns : List ByteArray) (adm : Nat) (s : ByteArray) : Decidable (badN ns adm s) := inferInstanceAs (Decidable (_ ∨ _))
def numbN (ns : List ByteArray) (adm : Nat) : List ByteArray → Option (List Nat)
  | [] => some []
  | s :: l => if badN ns adm s then none else (numbN ns adm l).map (posN s ns :: ·)
mutual
def numbF (ns : List ByteArray) (adm : Nat) : Ex → Option Fm
  | .mk op n l al => match numbN ns adm l with
    | none => none
    | some rs => match numbL ns adm al with
      | none => none
      | some bl => some (.mk op n rs bl)
def numbL (ns : List ByteArray) (adm : Nat) : List Ex → Option (List Fm)
  | [] => some []
  | a :: al => match numbF ns adm a with
    | none => none
    | some f => match numbL ns adm al with
      | none => none
      | some fl => some (f :: fl)
end
theorem numbN_app (ns : List ByteArray) (adm : Nat) (b : List ByteArray) : ∀ a : List ByteArray, numbN ns adm (a ++ b) = match numbN ns adm a with | none => none | some q => (numbN ns adm b).map (q ++ ·)
  | [] => by simp [numbN]
  | s :: a => by
    rw [List.cons_append, numbN, numbN, numbN_app ns adm b a]
    split
    · rfl
    · cases numbN ns adm a with
      | none => rfl
      | some q => cases numbN ns adm b <;> rfl
theorem numbL_app (ns : List ByteArray) (adm : Nat) (b : List Ex) : ∀ a : List Ex, numbL ns adm (a ++ b) = match numbL ns adm a with | none => none | some q => (numbL ns adm b).map (q ++ ·)
  | [] => by simp [numbL]
  | s :: a => by
    rw [List.cons_append, numbL, numbL, numbL_app ns adm b a]
    cases numbF ns adm s with
    | none => rfl
    | some f =>
      cases numbL ns adm a with
      | none => rfl
      | some q => cases numbL ns adm b <;> rfl
theorem numbN_bad {ns : List ByteArray} {adm : Nat} {l : List ByteArray} {i : Nat} {s : ByteArray} (hs : l[i]? = some s) (hb : badN ns adm s) : numbN ns adm l = none := by
  have e : l = l.take i ++ (s :: l.drop (i + 1)) := by
    obtain ⟨hi, he⟩ := List.getElem?_eq_some_iff.1 hs
    rw [← he, ← List.drop_eq_getElem_cons hi, List.take_append_drop]
  rw [e, numbN_app]
  cases numbN ns adm (l.take i) with
  | none => rfl
  | some q => simp [numbN, if_pos hb]
theorem numbN_snoc {ns : List ByteArray} {adm : Nat} {l : List ByteArray} {i : Nat} {s : ByteArray} {q : List Nat} (hs : l[i]? = some s) (hb : ¬badN ns adm s) (hq : numbN ns adm (l.take i) = some q) : numbN ns adm (l.take (i + 1)) = some (q ++ [posN s ns]) := by
  rw [take_snoc hs, numbN_app, hq]
  simp [numbN, if_neg hb]
theorem numbL_bad {ns : List ByteArray} {adm : Nat} {l : List Ex} {i : Nat} {a : Ex} (hs : l[i]? = some a) (hb : numbF ns adm a = none) : numbL ns adm l = none := by
  have e : l = l.take i ++ (a :: l.drop (i + 1)) := by
    obtain ⟨hi, he⟩ := List.getElem?_eq_some_iff.1 hs
    rw [← he, ← List.drop_eq_getElem_cons hi, List.take_append_drop]
  rw [e, numbL_app]
  cases numbL ns adm (l.take i) with
  | none => rfl
  | some q => simp [numbL, hb]
theorem numbL_snoc {ns : List ByteArray} {adm : Nat} {l : List Ex} {i : Nat} {a : Ex} {f : Fm} {q : List Fm} (hs : l[i]? = some a) (hb : numbF ns adm a = some f) (hq : numbL ns adm (l.take i) = some q) : numbL ns adm (l.take (i + 1)) = some (q ++ [f]) := by
  rw [take_snoc hs, numbL_app, hq]
  simp [numbL, hb]
theorem zeF_R {k : IntKind} {X : PMap} : FmR k X zeF (.int k 0, .int .i64 0, .slice none 0 0, .slice none 0 0) := .mk (rows := []) (op := 0) IntsR.nil (.inl ⟨rfl, _, _, rfl⟩) rfl (fun i a r h => by simp at h)
theorem zeE_R {k : IntKind} {X : PMap} : ExR k X zeE (.int k 0, .int .i64 0, .slice none 0 0, .slice none 0 0) := .mk (rows := []) (op := 0) (.inl ⟨rfl, _, _, rfl⟩) (.inl ⟨rfl, _, _, rfl⟩) rfl (fun i a r h => by simp at h)
/-- Room of a formula whose names were replaced. -/
theorem numbN_len {ns : List ByteArray} {adm : Nat} : ∀ {l : List ByteArray} {q : List Nat}, numbN ns adm l = some q → q.length = l.length
  | [], q, h => by cases h; rfl
  | s :: l, q, h => by
    rw [numbN] at h
    split at h
    · cases h
    · obtain ⟨q', h1, rfl⟩ := Option.map_eq_some_iff.1 h
      rw [List.length_cons, List.length_cons, numbN_len h1]
mutual
theorem numbF_wt {ns : List ByteArray} {adm : Nat} : ∀ (e : Ex) {f : Fm}, numbF ns adm e = some f → wtF f ≤ wtE e
  | .mk op n l al, f, h => by
    rw [numbF] at h
    cases h1 : numbN ns adm l with
    | none => rw [h1] at h; cases h
    | some rs =>
      cases h2 : numbL ns adm al with
      | none => rw [h1, h2] at h; cases h
      | some bl =>
        rw [h1, h2] at h
        cases h
        have := numbL_wt al h2
        have := numbN_len h1
        have := wtS_len l
        rw [wtF, wtE]; omega
theorem numbL_wt {ns : List ByteArray} {adm : Nat} : ∀ (l : List Ex) {q : List Fm}, numbL ns adm l = some q → wtFL q ≤ wtL l
  | [], q, h => by cases h; simp [wtFL]
  | a :: al, q, h => by
    rw [numbL] at h
    cases h1 : numbF ns adm a with
    | none => rw [h1] at h; cases h
    | some f =>
      cases h2 : numbL ns adm al with
      | none => rw [h1, h2] at h; cases h
      | some fl =>
        rw [h1, h2] at h
        cases h
        have := numbF_wt a h1
        have := numbL_wt al h2
        rw [wtFL, wtL]; omega
end
theorem numb_mk {ns : List ByteArray} {adm op : Nat} {n : Int} {l : List ByteArray} {al : List Ex} {rs : List Nat} {bl : List Fm} (h1 : numbN ns adm l = some rs) (h2 : numbL ns adm al = some bl) : numbF ns adm (.mk op n l al) = some (.mk op n rs bl) := by rw [numbF, h1]; simp only [h2]
theorem numb_no1 {ns : List ByteArray} {adm op : Nat} {n : Int} {l : List ByteArray} {al : List Ex} (h1 : numbN ns adm l = none) : numbF ns adm (.mk op n l al) = none := by rw [numbF, h1]
theorem numb_no2 {ns : List ByteArray} {adm op : Nat} {n : Int} {l : List ByteArray} {al : List Ex} (h2 : numbL ns adm al = none) : numbF ns adm (.mk op n l al) = none := by
  rw [numbF]
  cases numbN ns adm l with
  | none => rfl
  | some rs => simp only [h2]
theorem rows_snoc2 {α β : Type} {R : α → β → Prop} {l : List α} {q : List β} {a : α} {b : β} (hl : l.length = q.length) (h : ∀ (i : Nat) (x : α) (y : β), l[i]? = some x → q[i]? = some y → R x y) (hab : R a b) : ∀ (i : Nat) (x : α) (y : β), (l ++ [a])[i]? = some x → (q ++ [b])[i]? = some y → R x y := by
  intro i x y h1 h2
  rcases Nat.lt_or_ge i l.length with hi | hi
  · rw [List.getElem?_append_left hi] at h1
    rw [List.getElem?_append_left (by omega)] at h2
    exact h i x y h1 h2
  · have hi2 : i = l.length := by
      have := (List.getElem?_eq_some_iff.1 h1).1
      rw [List.length_append] at this; simp at this; omega
    subst hi2
    rw [List.getElem?_append_right (Nat.le_refl _), Nat.sub_self] at h1
    rw [hl, List.getElem?_append_right (Nat.le_refl _), Nat.sub_self] at h2
    simp only [List.getElem?_cons_zero, Option.some.injEq] at h1 h2
    subst h1 h2
    exact hab
end Go.Proofs.YtnpcilglilfajaaGreatDoor
namespace Go.Proofs.YtnpcilglilfajaaGreatDoor
section
set_option maxRecDepth 100000
theorem en190 : Enters Tryz.prog 190 := enters_mk Tryz.func190 (by kernel_rfl) rfl
theorem fa36_0 : FAdr Tryz.prog 36 0 0 := fadr_mk Tryz.underlying36 rfl rfl (by kernel_rfl)
theorem fa36_1 : FAdr Tryz.prog 36 1 1 := fadr_mk Tryz.underlying36 rfl rfl (by kernel_rfl)
theorem fa36_2 : FAdr Tryz.prog 36 2 2 := fadr_mk Tryz.underlying36 rfl rfl (by kernel_rfl)
end
open Go.RowKit
theorem arity_spec {X : PMap} {op : Nat} : Spec Tryz.prog 190 [.int .u8 (op : Int)] X fun u _ => u = .tuple #[.int .i64 (argF op : Int), .int .i64 (leaF op : Int), .int .i64 (mosF op : Int)] := by
  unfold argF leaF mosF
  by_cases c8 : 8 ≤ op
  · rw [if_neg (by omega), if_neg (by omega), if_neg (by omega), if_neg (by omega), if_neg (by omega)]
    refine Spec.enter Tryz.func190 rfl Tryz.ntmps190 rfl ?_
    intro w0 hw0
    refine T.seq <| T.region <| SL.v (op_assign (v := .int .i64 ((0 : Nat) : Int)) rfl) <| SL.v (op_assign (v := .int .i64 ((0 : Nat) : Int)) rfl) <| SL.v (op_assign (v := .int .i64 ((0 : Nat) : Int)) rfl) <| SL.nil <| T.seq <| T.block <| T.seq <| T.region <| SL.mv rfl <| SL.v (op_geqT rfl rfl (by omega)) ?_
    refine SL.as rfl <| SL.nil <| T.condT rfl <| T.seq <| T.region <| SL.v (op_assign (v := .int .i64 ((2 : Nat) : Int)) rfl) <| SL.v (op_assign (v := .int .i64 ((0 : Nat) : Int)) rfl) <| SL.v (op_assign (v := .int .i64 ((0 : Nat) : Int)) rfl) <| SL.nil <| T.ret3 rfl rfl rfl rfl ?_
    rfl
  by_cases c7 : op = 7
  · rw [if_neg (by omega), if_pos c7, if_neg (by omega), if_neg (by omega), if_neg (by omega)]
    refine Spec.enter Tryz.func190 rfl Tryz.ntmps190 rfl ?_
    intro w0 hw0
    refine T.seq <| T.region <| SL.v (op_assign (v := .int .i64 ((0 : Nat) : Int)) rfl) <| SL.v (op_assign (v := .int .i64 ((0 : Nat) : Int)) rfl) <| SL.v (op_assign (v := .int .i64 ((0 : Nat) : Int)) rfl) <| SL.nil <| T.seq <| T.block <| T.seq <| T.region <| SL.mv rfl <| SL.v (op_geqF rfl rfl (by omega)) ?_
    refine SL.as rfl <| SL.nil <| T.condF rfl <| T.seq <| T.region <| SL.mv rfl <| SL.v (op_eqlT rfl rfl (by omega)) ?_
    refine SL.as rfl <| SL.nil <| T.condT rfl <| T.seq <| T.region <| SL.v (op_assign (v := .int .i64 ((1 : Nat) : Int)) rfl) <| SL.v (op_assign (v := .int .i64 ((0 : Nat) : Int)) rfl) <| SL.v (op_assign (v := .int .i64 ((0 : Nat) : Int)) rfl) <| SL.nil <| T.ret3 rfl rfl rfl rfl ?_
    rfl
  rw [if_pos (by omega)]
  by_cases c4 : op = 4
  · rw [if_pos (by omega), if_pos (by omega)]
    refine Spec.enter Tryz.func190 rfl Tryz.ntmps190 rfl ?_
    intro w0 hw0
    refine T.seq <| T.region <| SL.v (op_assign (v := .int .i64 ((0 : Nat) : Int)) rfl) <| SL.v (op_assign (v := .int .i64 ((0 : Nat) : Int)) rfl) <| SL.v (op_assign (v := .int .i64 ((0 : Nat) : Int)) rfl) <| SL.nil <| T.seq <| T.block <| T.seq <| T.region <| SL.mv rfl <| SL.v (op_geqF rfl rfl (by omega)) ?_
    refine SL.as rfl <| SL.nil <| T.condF rfl <| T.seq <| T.region <| SL.mv rfl <| SL.v (op_eqlF rfl rfl (by omega)) ?_
    refine SL.as rfl <| SL.nil <| T.condF rfl <| T.seq <| T.region <| SL.mv rfl <| SL.v (op_eqlT rfl rfl (by omega)) ?_
    refine SL.mv rfl <| SL.skip rfl rfl ?_
    refine SL.skip rfl rfl ?_
    refine SL.v (op_pickT rfl rfl) <| SL.as rfl <| SL.nil <| T.condT rfl <| T.seq <| T.region <| SL.v (op_assign (v := .int .i64 ((0 : Nat) : Int)) rfl) <| SL.v (op_assign (v := .int .i64 ((1 : Nat) : Int)) rfl) <| SL.v (op_assign (v := .int .i64 ((1 : Nat) : Int)) rfl) <| SL.nil <| T.ret3 rfl rfl rfl rfl ?_
    rfl
  by_cases c6 : op = 6
  · rw [if_pos (by omega), if_pos (by omega)]
    refine Spec.enter Tryz.func190 rfl Tryz.ntmps190 rfl ?_
    intro w0 hw0
    refine T.seq <| T.region <| SL.v (op_assign (v := .int .i64 ((0 : Nat) : Int)) rfl) <| SL.v (op_assign (v := .int .i64 ((0 : Nat) : Int)) rfl) <| SL.v (op_assign (v := .int .i64 ((0 : Nat) : Int)) rfl) <| SL.nil <| T.seq <| T.block <| T.seq <| T.region <| SL.mv rfl <| SL.v (op_geqF rfl rfl (by omega)) ?_
    refine SL.as rfl <| SL.nil <| T.condF rfl <| T.seq <| T.region <| SL.mv rfl <| SL.v (op_eqlF rfl rfl (by omega)) ?_
    refine SL.as rfl <| SL.nil <| T.condF rfl <| T.seq <| T.region <| SL.mv rfl <| SL.v (op_eqlF rfl rfl (by omega)) ?_
    refine SL.mv rfl <| SL.mv rfl <| SL.v (op_eqlT rfl rfl (by omega)) ?_
    refine SL.v (op_pickF rfl rfl) <| SL.as rfl <| SL.nil <| T.condT rfl <| T.seq <| T.region <| SL.v (op_assign (v := .int .i64 ((0 : Nat) : Int)) rfl) <| SL.v (op_assign (v := .int .i64 ((1 : Nat) : Int)) rfl) <| SL.v (op_assign (v := .int .i64 ((1 : Nat) : Int)) rfl) <| SL.nil <| T.ret3 rfl rfl rfl rfl ?_
    rfl
  by_cases c5 : op = 5
  · rw [if_pos (by omega), if_neg (by omega), if_pos c5]
    refine Spec.enter Tryz.func190 rfl Tryz.ntmps190 rfl ?_
    intro w0 hw0
    refine T.seq <| T.region <| SL.v (op_assign (v := .int .i64 ((0 : Nat) : Int)) rfl) <| SL.v (op_assign (v := .int .i64 ((0 : Nat) : Int)) rfl) <| SL.v (op_assign (v := .int .i64 ((0 : Nat) : Int)) rfl) <| SL.nil <| T.seq <| T.block <| T.seq <| T.region <| SL.mv rfl <| SL.v (op_geqF rfl rfl (by omega)) ?_
    refine SL.as rfl <| SL.nil <| T.condF rfl <| T.seq <| T.region <| SL.mv rfl <| SL.v (op_eqlF rfl rfl (by omega)) ?_
    refine SL.as rfl <| SL.nil <| T.condF rfl <| T.seq <| T.region <| SL.mv rfl <| SL.v (op_eqlF rfl rfl (by omega)) ?_
    refine SL.mv rfl <| SL.mv rfl <| SL.v (op_eqlF rfl rfl (by omega)) ?_
    refine SL.v (op_pickF rfl rfl) <| SL.as rfl <| SL.nil <| T.condF rfl <| T.seq <| T.region <| SL.mv rfl <| SL.v (op_eqlT rfl rfl (by omega)) ?_
    refine SL.as rfl <| SL.nil <| T.condT rfl <| T.seq <| T.region <| SL.v (op_assign (v := .int .i64 ((0 : Nat) : Int)) rfl) <| SL.v (op_assign (v := .int .i64 ((1 : Nat) : Int)) rfl) <| SL.v (op_assign (v := .int .i64 ((8 : Nat) : Int)) rfl) <| SL.nil <| T.ret3 rfl rfl rfl rfl ?_
    rfl
  rw [if_neg (by omega), if_neg (by omega), if_neg c5]
  refine Spec.enter Tryz.func190 rfl Tryz.ntmps190 rfl ?_
  intro w0 hw0
  refine T.seq <| T.region <| SL.v (op_assign (v := .int .i64 ((0 : Nat) : Int)) rfl) <| SL.v (op_assign (v := .int .i64 ((0 : Nat) : Int)) rfl) <| SL.v (op_assign (v := .int .i64 ((0 : Nat) : Int)) rfl) <| SL.nil <| T.seq <| T.block <| T.seq <| T.region <| SL.mv rfl <| SL.v (op_geqF rfl rfl (by omega)) ?_
  refine SL.as rfl <| SL.nil <| T.condF rfl <| T.seq <| T.region <| SL.mv rfl <| SL.v (op_eqlF rfl rfl (by omega)) ?_
  refine SL.as rfl <| SL.nil <| T.condF rfl <| T.seq <| T.region <| SL.mv rfl <| SL.v (op_eqlF rfl rfl (by omega)) ?_
  refine SL.mv rfl <| SL.mv rfl <| SL.v (op_eqlF rfl rfl (by omega)) ?_
  refine SL.v (op_pickF rfl rfl) <| SL.as rfl <| SL.nil <| T.condF rfl <| T.seq <| T.region <| SL.mv rfl <| SL.v (op_eqlF rfl rfl (by omega)) ?_
  refine SL.as rfl <| SL.nil <| T.condF rfl <| T.skip <| T.blk <| T.seq <| T.region <| SL.v (op_assign (v := .int .i64 ((0 : Nat) : Int)) rfl) <| SL.v (op_assign (v := .int .i64 ((0 : Nat) : Int)) rfl) <| SL.v (op_assign (v := .int .i64 ((0 : Nat) : Int)) rfl) <| SL.nil <| T.ret3 rfl rfl rfl rfl ?_
  rfl
theorem result_spec {X : PMap} {op : Nat} : Spec Tryz.prog 61 [.int .u8 (op : Int)] X fun u _ => u = .int .u8 (resT op : Int) := by
  unfold resT
  by_cases c1 : op = 1
  · rw [if_pos (by omega)]
    refine Spec.enter Tryz.func61 rfl Tryz.ntmps61 rfl ?_
    intro w0 hw0
    refine T.seq <| T.region <| SL.v (op_assign (v := .int .u8 ((0 : Nat) : Int)) rfl) <| SL.nil <| T.seq <| T.seq <| T.region <| SL.mv rfl <| SL.nil <| T.block <| T.seq <| T.seq <| T.region <| SL.v (op_eqlT rfl rfl (by omega)) ?_
    refine SL.as rfl <| SL.nil <| T.condT rfl <| T.skip <| T.condT rfl <| T.seq <| T.region <| SL.v (op_assign (v := .int .u8 ((2 : Nat) : Int)) rfl) <| SL.nil <| T.ret1 rfl (ResIs.tmp rfl) ?_
    rfl
  by_cases c5 : op = 5
  · rw [if_pos (by omega)]
    refine Spec.enter Tryz.func61 rfl Tryz.ntmps61 rfl ?_
    intro w0 hw0
    refine T.seq <| T.region <| SL.v (op_assign (v := .int .u8 ((0 : Nat) : Int)) rfl) <| SL.nil <| T.seq <| T.seq <| T.region <| SL.mv rfl <| SL.nil <| T.block <| T.seq <| T.seq <| T.region <| SL.v (op_eqlF rfl rfl (by omega)) ?_
    refine SL.as rfl <| SL.nil <| T.condF rfl <| T.seq <| T.region <| SL.v (op_eqlT rfl rfl (by omega)) ?_
    refine SL.as rfl <| SL.nil <| T.condT rfl <| T.skip <| T.condT rfl <| T.seq <| T.region <| SL.v (op_assign (v := .int .u8 ((2 : Nat) : Int)) rfl) <| SL.nil <| T.ret1 rfl (ResIs.tmp rfl) ?_
    rfl
  by_cases c6 : op = 6
  · rw [if_pos (by omega)]
    refine Spec.enter Tryz.func61 rfl Tryz.ntmps61 rfl ?_
    intro w0 hw0
    refine T.seq <| T.region <| SL.v (op_assign (v := .int .u8 ((0 : Nat) : Int)) rfl) <| SL.nil <| T.seq <| T.seq <| T.region <| SL.mv rfl <| SL.nil <| T.block <| T.seq <| T.seq <| T.region <| SL.v (op_eqlF rfl rfl (by omega)) ?_
    refine SL.as rfl <| SL.nil <| T.condF rfl <| T.seq <| T.region <| SL.v (op_eqlF rfl rfl (by omega)) ?_
    refine SL.as rfl <| SL.nil <| T.condF rfl <| T.seq <| T.region <| SL.v (op_eqlT rfl rfl (by omega)) ?_
    refine SL.as rfl <| SL.nil <| T.condT rfl <| T.skip <| T.condT rfl <| T.seq <| T.region <| SL.v (op_assign (v := .int .u8 ((2 : Nat) : Int)) rfl) <| SL.nil <| T.ret1 rfl (ResIs.tmp rfl) ?_
    rfl
  by_cases c16 : op = 16
  · rw [if_pos (by omega)]
    refine Spec.enter Tryz.func61 rfl Tryz.ntmps61 rfl ?_
    intro w0 hw0
    refine T.seq <| T.region <| SL.v (op_assign (v := .int .u8 ((0 : Nat) : Int)) rfl) <| SL.nil <| T.seq <| T.seq <| T.region <| SL.mv rfl <| SL.nil <| T.block <| T.seq <| T.seq <| T.region <| SL.v (op_eqlF rfl rfl (by omega)) ?_
    refine SL.as rfl <| SL.nil <| T.condF rfl <| T.seq <| T.region <| SL.v (op_eqlF rfl rfl (by omega)) ?_
    refine SL.as rfl <| SL.nil <| T.condF rfl <| T.seq <| T.region <| SL.v (op_eqlF rfl rfl (by omega)) ?_
    refine SL.as rfl <| SL.nil <| T.condF rfl <| T.region <| SL.v (op_eqlT rfl rfl (by omega)) ?_
    refine SL.as rfl <| SL.nil <| T.condT rfl <| T.seq <| T.region <| SL.v (op_assign (v := .int .u8 ((2 : Nat) : Int)) rfl) <| SL.nil <| T.ret1 rfl (ResIs.tmp rfl) ?_
    rfl
  rw [if_neg (by omega)]
  refine Spec.enter Tryz.func61 rfl Tryz.ntmps61 rfl ?_
  intro w0 hw0
  refine T.seq <| T.region <| SL.v (op_assign (v := .int .u8 ((0 : Nat) : Int)) rfl) <| SL.nil <| T.seq <| T.seq <| T.region <| SL.mv rfl <| SL.nil <| T.block <| T.seq <| T.seq <| T.region <| SL.v (op_eqlF rfl rfl (by omega)) ?_
  refine SL.as rfl <| SL.nil <| T.condF rfl <| T.seq <| T.region <| SL.v (op_eqlF rfl rfl (by omega)) ?_
  refine SL.as rfl <| SL.nil <| T.condF rfl <| T.seq <| T.region <| SL.v (op_eqlF rfl rfl (by omega)) ?_
  refine SL.as rfl <| SL.nil <| T.condF rfl <| T.region <| SL.v (op_eqlF rfl rfl (by omega)) ?_
  refine SL.as rfl <| SL.nil <| T.condF rfl <| T.skip <| T.blk <| T.seq <| T.region <| SL.v (op_assign (v := .int .u8 ((1 : Nat) : Int)) rfl) <| SL.nil <| T.ret1 rfl (ResIs.tmp rfl) ?_
  rfl
theorem maskOf_msk : maskOf = mskF := rfl
theorem cnt_mem (m : Nat) : (mem64 m).length = cntB 64 m := by rw [mem64, cntB, List.countP_eq_length_filter]
theorem fnode_spec {X : PMap} {op : Nat} {n : Int} {rs : List Nat} {al : List Fm} {r : Row4} (hrl : rs.length < 1000000) (_hal : al.length < 1000000) (h : FmR .u8 X (.mk op n rs al) r) : Spec Tryz.prog 158 [.agg #[r.1, r.2.1, r.2.2.1, r.2.2.2]] X fun u _ => u = .int .i64 (ownF op n rs al.length) := by
  cases h with
  | @mk _ _ _ _ vn va rows hn ha hl hr =>
  obtain ⟨Aa, ca, rfl⟩ := ha.form
  obtain ⟨An, cn, rfl⟩ := hn.form
  have harg : argF op ≤ 2 := by unfold argF; split <;> (try split) <;> omega
  have hmos : mosF op ≤ 8 := by unfold mosF; split <;> (try split) <;> omega
  have hlea : leaF op ≤ 1 := by unfold leaF; split <;> omega
  rw [← hl] at _hal ⊢
  by_cases c1 : op < 1 ∨ 16 < op ∨ rows.length ≠ argF op
  · have e : ownF op n rs rows.length = 1 := by rw [ownF, if_pos c1]
    rw [e]
    by_cases d1 : op < 1
    · refine Spec.enter Tryz.func158 rfl Tryz.ntmps158 rfl ?_
      intro w0 hw0
      refine T.seq <| T.region <| SL.w (op_box rfl) ?_
      rintro _ _ _ ⟨B1, rfl, rfl, rfl⟩
      refine SL.v (op_assign (v := .int .i64 ((0 : Nat) : Int)) rfl) <| SL.nil <| T.seq <| T.region <| SL.v (op_fieldAddr fa36_0 rfl) <| SL.v (op_load ty33 rfl (by repeat constructor) rfl) ?_
      refine SL.w (op_callF en190 (vs := [_]) rfl (arity_spec)) ?_
      rintro _ _ X1 ⟨rfl, hX1, rfl⟩
      refine SL.mv rfl <| SL.v (op_extract rfl rfl) <| SL.v (op_extract rfl rfl) <| SL.v (op_extract rfl rfl) <| SL.as rfl <| SL.as rfl <| SL.as rfl <| SL.nil <| T.seq <| T.seq <| T.region <| SL.v (op_fieldAddr fa36_0 rfl) <| SL.v (op_load ty33 rfl (by repeat constructor) rfl) ?_
      refine SL.v (op_lssT rfl rfl (by omega)) ?_
      refine SL.mv rfl <| SL.skip rfl rfl ?_
      refine SL.skip rfl rfl ?_
      refine SL.skip rfl rfl ?_
      refine SL.v (op_pickT rfl rfl) <| SL.mv rfl <| SL.skip rfl rfl ?_
      refine SL.skip rfl rfl ?_
      refine SL.skip rfl rfl ?_
      refine SL.skip rfl rfl ?_
      refine SL.skip rfl rfl ?_
      refine SL.v (op_pickT rfl rfl) <| SL.nil <| T.condT rfl <| T.seq <| T.region <| SL.v (op_assign (v := .int .i64 ((1 : Nat) : Int)) rfl) <| SL.nil <| T.ret1 rfl (ResIs.tmp rfl) ?_
      rfl
    by_cases d2 : 16 < op
    · refine Spec.enter Tryz.func158 rfl Tryz.ntmps158 rfl ?_
      intro w0 hw0
      refine T.seq <| T.region <| SL.w (op_box rfl) ?_
      rintro _ _ _ ⟨B1, rfl, rfl, rfl⟩
      refine SL.v (op_assign (v := .int .i64 ((0 : Nat) : Int)) rfl) <| SL.nil <| T.seq <| T.region <| SL.v (op_fieldAddr fa36_0 rfl) <| SL.v (op_load ty33 rfl (by repeat constructor) rfl) ?_
      refine SL.w (op_callF en190 (vs := [_]) rfl (arity_spec)) ?_
      rintro _ _ X1 ⟨rfl, hX1, rfl⟩
      refine SL.mv rfl <| SL.v (op_extract rfl rfl) <| SL.v (op_extract rfl rfl) <| SL.v (op_extract rfl rfl) <| SL.as rfl <| SL.as rfl <| SL.as rfl <| SL.nil <| T.seq <| T.seq <| T.region <| SL.v (op_fieldAddr fa36_0 rfl) <| SL.v (op_load ty33 rfl (by repeat constructor) rfl) ?_
      refine SL.v (op_lssF rfl rfl (by omega)) ?_
      refine SL.mv rfl <| SL.v (op_fieldAddr fa36_0 rfl) <| SL.v (op_load ty33 rfl (by repeat constructor) rfl) ?_
      refine SL.v (op_gtrT rfl rfl (by omega)) ?_
      refine SL.v (op_pickF rfl rfl) <| SL.mv rfl <| SL.skip rfl rfl ?_
      refine SL.skip rfl rfl ?_
      refine SL.skip rfl rfl ?_
      refine SL.skip rfl rfl ?_
      refine SL.skip rfl rfl ?_
      refine SL.v (op_pickT rfl rfl) <| SL.nil <| T.condT rfl <| T.seq <| T.region <| SL.v (op_assign (v := .int .i64 ((1 : Nat) : Int)) rfl) <| SL.nil <| T.ret1 rfl (ResIs.tmp rfl) ?_
      rfl
    have d3 : rows.length ≠ argF op := by omega
    refine Spec.enter Tryz.func158 rfl Tryz.ntmps158 rfl ?_
    intro w0 hw0
    refine T.seq <| T.region <| SL.w (op_box rfl) ?_
    rintro _ _ _ ⟨B1, rfl, rfl, rfl⟩
    refine SL.v (op_assign (v := .int .i64 ((0 : Nat) : Int)) rfl) <| SL.nil <| T.seq <| T.region <| SL.v (op_fieldAddr fa36_0 rfl) <| SL.v (op_load ty33 rfl (by repeat constructor) rfl) ?_
    refine SL.w (op_callF en190 (vs := [_]) rfl (arity_spec)) ?_
    rintro _ _ X1 ⟨rfl, hX1, rfl⟩
    refine SL.mv rfl <| SL.v (op_extract rfl rfl) <| SL.v (op_extract rfl rfl) <| SL.v (op_extract rfl rfl) <| SL.as rfl <| SL.as rfl <| SL.as rfl <| SL.nil <| T.seq <| T.seq <| T.region <| SL.v (op_fieldAddr fa36_0 rfl) <| SL.v (op_load ty33 rfl (by repeat constructor) rfl) ?_
    refine SL.v (op_lssF rfl rfl (by omega)) ?_
    refine SL.mv rfl <| SL.v (op_fieldAddr fa36_0 rfl) <| SL.v (op_load ty33 rfl (by repeat constructor) rfl) ?_
    refine SL.v (op_gtrF rfl rfl (by omega)) ?_
    refine SL.v (op_pickF rfl rfl) <| SL.mv rfl <| SL.v (op_fieldAddr fa36_3 rfl) <| SL.v (op_load ty34 rfl (by repeat constructor) rfl) ?_
    refine SL.v (op_lenS Tryz.underlying34 rfl) <| SL.mv rfl <| SL.v (op_neqT rfl rfl (by omega)) ?_
    refine SL.v (op_pickF rfl rfl) <| SL.nil <| T.condT rfl <| T.seq <| T.region <| SL.v (op_assign (v := .int .i64 ((1 : Nat) : Int)) rfl) <| SL.nil <| T.ret1 rfl (ResIs.tmp rfl) ?_
    rfl
  have c1a : ¬op < 1 := fun h => c1 (.inl h)
  have c1b : ¬16 < op := fun h => c1 (.inr (.inl h))
  have c1c : rows.length = argF op := by omega
  by_cases c2 : (op ≠ 1 ∧ n ≠ 0) ∨ rs.length < leaF op ∨ mosF op < rs.length
  · have e : ownF op n rs rows.length = 6 := by rw [ownF, if_neg c1, if_pos c2]
    rw [e]
    by_cases d1 : op = 1
    · by_cases d2 : rs.length < leaF op
      · refine Spec.enter Tryz.func158 rfl Tryz.ntmps158 rfl ?_
        intro w0 hw0
        refine T.seq <| T.region <| SL.w (op_box rfl) ?_
        rintro _ _ _ ⟨B1, rfl, rfl, rfl⟩
        refine SL.v (op_assign (v := .int .i64 ((0 : Nat) : Int)) rfl) <| SL.nil <| T.seq <| T.region <| SL.v (op_fieldAddr fa36_0 rfl) <| SL.v (op_load ty33 rfl (by repeat constructor) rfl) ?_
        refine SL.w (op_callF en190 (vs := [_]) rfl (arity_spec)) ?_
        rintro _ _ X1 ⟨rfl, hX1, rfl⟩
        refine SL.mv rfl <| SL.v (op_extract rfl rfl) <| SL.v (op_extract rfl rfl) <| SL.v (op_extract rfl rfl) <| SL.as rfl <| SL.as rfl <| SL.as rfl <| SL.nil <| T.seq <| T.seq <| T.region <| SL.v (op_fieldAddr fa36_0 rfl) <| SL.v (op_load ty33 rfl (by repeat constructor) rfl) ?_
        refine SL.v (op_lssF rfl rfl (by omega)) ?_
        refine SL.mv rfl <| SL.v (op_fieldAddr fa36_0 rfl) <| SL.v (op_load ty33 rfl (by repeat constructor) rfl) ?_
        refine SL.v (op_gtrF rfl rfl (by omega)) ?_
        refine SL.v (op_pickF rfl rfl) <| SL.mv rfl <| SL.v (op_fieldAddr fa36_3 rfl) <| SL.v (op_load ty34 rfl (by repeat constructor) rfl) ?_
        refine SL.v (op_lenS Tryz.underlying34 rfl) <| SL.mv rfl <| SL.v (op_neqF rfl rfl (by omega)) ?_
        refine SL.v (op_pickF rfl rfl) <| SL.nil <| T.condF rfl <| T.skip <| T.seq <| T.seq <| T.region <| SL.v (op_fieldAddr fa36_0 rfl) <| SL.v (op_load ty33 rfl (by repeat constructor) rfl) ?_
        refine SL.v (op_neqF rfl rfl (by omega)) ?_
        refine SL.mv rfl <| SL.skip rfl rfl ?_
        refine SL.skip rfl rfl ?_
        refine SL.skip rfl rfl ?_
        refine SL.v (op_pickF rfl rfl) <| SL.mv rfl <| SL.v (op_fieldAddr fa36_2 rfl) <| SL.v (op_load ty24 rfl (by repeat constructor) rfl) ?_
        refine SL.v (op_lenS Tryz.underlying24 rfl) <| SL.mv rfl <| SL.v (op_lssT rfl rfl (by omega)) ?_
        refine SL.v (op_pickF rfl rfl) <| SL.mv rfl <| SL.skip rfl rfl ?_
        refine SL.skip rfl rfl ?_
        refine SL.skip rfl rfl ?_
        refine SL.skip rfl rfl ?_
        refine SL.skip rfl rfl ?_
        refine SL.v (op_pickT rfl rfl) <| SL.nil <| T.condT rfl <| T.seq <| T.region <| SL.v (op_assign (v := .int .i64 ((6 : Nat) : Int)) rfl) <| SL.nil <| T.ret1 rfl (ResIs.tmp rfl) ?_
        rfl
      · have d3 : mosF op < rs.length := by omega
        refine Spec.enter Tryz.func158 rfl Tryz.ntmps158 rfl ?_
        intro w0 hw0
        refine T.seq <| T.region <| SL.w (op_box rfl) ?_
        rintro _ _ _ ⟨B1, rfl, rfl, rfl⟩
        refine SL.v (op_assign (v := .int .i64 ((0 : Nat) : Int)) rfl) <| SL.nil <| T.seq <| T.region <| SL.v (op_fieldAddr fa36_0 rfl) <| SL.v (op_load ty33 rfl (by repeat constructor) rfl) ?_
        refine SL.w (op_callF en190 (vs := [_]) rfl (arity_spec)) ?_
        rintro _ _ X1 ⟨rfl, hX1, rfl⟩
        refine SL.mv rfl <| SL.v (op_extract rfl rfl) <| SL.v (op_extract rfl rfl) <| SL.v (op_extract rfl rfl) <| SL.as rfl <| SL.as rfl <| SL.as rfl <| SL.nil <| T.seq <| T.seq <| T.region <| SL.v (op_fieldAddr fa36_0 rfl) <| SL.v (op_load ty33 rfl (by repeat constructor) rfl) ?_
        refine SL.v (op_lssF rfl rfl (by omega)) ?_
        refine SL.mv rfl <| SL.v (op_fieldAddr fa36_0 rfl) <| SL.v (op_load ty33 rfl (by repeat constructor) rfl) ?_
        refine SL.v (op_gtrF rfl rfl (by omega)) ?_
        refine SL.v (op_pickF rfl rfl) <| SL.mv rfl <| SL.v (op_fieldAddr fa36_3 rfl) <| SL.v (op_load ty34 rfl (by repeat constructor) rfl) ?_
        refine SL.v (op_lenS Tryz.underlying34 rfl) <| SL.mv rfl <| SL.v (op_neqF rfl rfl (by omega)) ?_
        refine SL.v (op_pickF rfl rfl) <| SL.nil <| T.condF rfl <| T.skip <| T.seq <| T.seq <| T.region <| SL.v (op_fieldAddr fa36_0 rfl) <| SL.v (op_load ty33 rfl (by repeat constructor) rfl) ?_
        refine SL.v (op_neqF rfl rfl (by omega)) ?_
        refine SL.mv rfl <| SL.skip rfl rfl ?_
        refine SL.skip rfl rfl ?_
        refine SL.skip rfl rfl ?_
        refine SL.v (op_pickF rfl rfl) <| SL.mv rfl <| SL.v (op_fieldAddr fa36_2 rfl) <| SL.v (op_load ty24 rfl (by repeat constructor) rfl) ?_
        refine SL.v (op_lenS Tryz.underlying24 rfl) <| SL.mv rfl <| SL.v (op_lssF rfl rfl (by omega)) ?_
        refine SL.v (op_pickF rfl rfl) <| SL.mv rfl <| SL.v (op_fieldAddr fa36_2 rfl) <| SL.v (op_load ty24 rfl (by repeat constructor) rfl) ?_
        refine SL.v (op_lenS Tryz.underlying24 rfl) <| SL.mv rfl <| SL.v (op_gtrT rfl rfl (by omega)) ?_
        refine SL.v (op_pickF rfl rfl) <| SL.nil <| T.condT rfl <| T.seq <| T.region <| SL.v (op_assign (v := .int .i64 ((6 : Nat) : Int)) rfl) <| SL.nil <| T.ret1 rfl (ResIs.tmp rfl) ?_
        rfl
    · by_cases d0 : n = 0
      · by_cases d2 : rs.length < leaF op
        · refine Spec.enter Tryz.func158 rfl Tryz.ntmps158 rfl ?_
          intro w0 hw0
          refine T.seq <| T.region <| SL.w (op_box rfl) ?_
          rintro _ _ _ ⟨B1, rfl, rfl, rfl⟩
          refine SL.v (op_assign (v := .int .i64 ((0 : Nat) : Int)) rfl) <| SL.nil <| T.seq <| T.region <| SL.v (op_fieldAddr fa36_0 rfl) <| SL.v (op_load ty33 rfl (by repeat constructor) rfl) ?_
          refine SL.w (op_callF en190 (vs := [_]) rfl (arity_spec)) ?_
          rintro _ _ X1 ⟨rfl, hX1, rfl⟩
          refine SL.mv rfl <| SL.v (op_extract rfl rfl) <| SL.v (op_extract rfl rfl) <| SL.v (op_extract rfl rfl) <| SL.as rfl <| SL.as rfl <| SL.as rfl <| SL.nil <| T.seq <| T.seq <| T.region <| SL.v (op_fieldAddr fa36_0 rfl) <| SL.v (op_load ty33 rfl (by repeat constructor) rfl) ?_
          refine SL.v (op_lssF rfl rfl (by omega)) ?_
          refine SL.mv rfl <| SL.v (op_fieldAddr fa36_0 rfl) <| SL.v (op_load ty33 rfl (by repeat constructor) rfl) ?_
          refine SL.v (op_gtrF rfl rfl (by omega)) ?_
          refine SL.v (op_pickF rfl rfl) <| SL.mv rfl <| SL.v (op_fieldAddr fa36_3 rfl) <| SL.v (op_load ty34 rfl (by repeat constructor) rfl) ?_
          refine SL.v (op_lenS Tryz.underlying34 rfl) <| SL.mv rfl <| SL.v (op_neqF rfl rfl (by omega)) ?_
          refine SL.v (op_pickF rfl rfl) <| SL.nil <| T.condF rfl <| T.skip <| T.seq <| T.seq <| T.region <| SL.v (op_fieldAddr fa36_0 rfl) <| SL.v (op_load ty33 rfl (by repeat constructor) rfl) ?_
          refine SL.v (op_neqT rfl rfl (by omega)) ?_
          refine SL.mv rfl <| SL.v (op_fieldAddr fa36_1 rfl) <| SL.v (op_load ty3 rfl (by repeat constructor) rfl) ?_
          refine SL.v (op_neqF rfl rfl (by omega)) ?_
          refine SL.v (op_pickT rfl rfl) <| SL.mv rfl <| SL.v (op_fieldAddr fa36_2 rfl) <| SL.v (op_load ty24 rfl (by repeat constructor) rfl) ?_
          refine SL.v (op_lenS Tryz.underlying24 rfl) <| SL.mv rfl <| SL.v (op_lssT rfl rfl (by omega)) ?_
          refine SL.v (op_pickF rfl rfl) <| SL.mv rfl <| SL.skip rfl rfl ?_
          refine SL.skip rfl rfl ?_
          refine SL.skip rfl rfl ?_
          refine SL.skip rfl rfl ?_
          refine SL.skip rfl rfl ?_
          refine SL.v (op_pickT rfl rfl) <| SL.nil <| T.condT rfl <| T.seq <| T.region <| SL.v (op_assign (v := .int .i64 ((6 : Nat) : Int)) rfl) <| SL.nil <| T.ret1 rfl (ResIs.tmp rfl) ?_
          rfl
        · have d3 : mosF op < rs.length := by omega
          refine Spec.enter Tryz.func158 rfl Tryz.ntmps158 rfl ?_
          intro w0 hw0
          refine T.seq <| T.region <| SL.w (op_box rfl) ?_
          rintro _ _ _ ⟨B1, rfl, rfl, rfl⟩
          refine SL.v (op_assign (v := .int .i64 ((0 : Nat) : Int)) rfl) <| SL.nil <| T.seq <| T.region <| SL.v (op_fieldAddr fa36_0 rfl) <| SL.v (op_load ty33 rfl (by repeat constructor) rfl) ?_
          refine SL.w (op_callF en190 (vs := [_]) rfl (arity_spec)) ?_
          rintro _ _ X1 ⟨rfl, hX1, rfl⟩
          refine SL.mv rfl <| SL.v (op_extract rfl rfl) <| SL.v (op_extract rfl rfl) <| SL.v (op_extract rfl rfl) <| SL.as rfl <| SL.as rfl <| SL.as rfl <| SL.nil <| T.seq <| T.seq <| T.region <| SL.v (op_fieldAddr fa36_0 rfl) <| SL.v (op_load ty33 rfl (by repeat constructor) rfl) ?_
          refine SL.v (op_lssF rfl rfl (by omega)) ?_
          refine SL.mv rfl <| SL.v (op_fieldAddr fa36_0 rfl) <| SL.v (op_load ty33 rfl (by repeat constructor) rfl) ?_
          refine SL.v (op_gtrF rfl rfl (by omega)) ?_
          refine SL.v (op_pickF rfl rfl) <| SL.mv rfl <| SL.v (op_fieldAddr fa36_3 rfl) <| SL.v (op_load ty34 rfl (by repeat constructor) rfl) ?_
          refine SL.v (op_lenS Tryz.underlying34 rfl) <| SL.mv rfl <| SL.v (op_neqF rfl rfl (by omega)) ?_
          refine SL.v (op_pickF rfl rfl) <| SL.nil <| T.condF rfl <| T.skip <| T.seq <| T.seq <| T.region <| SL.v (op_fieldAddr fa36_0 rfl) <| SL.v (op_load ty33 rfl (by repeat constructor) rfl) ?_
          refine SL.v (op_neqT rfl rfl (by omega)) ?_
          refine SL.mv rfl <| SL.v (op_fieldAddr fa36_1 rfl) <| SL.v (op_load ty3 rfl (by repeat constructor) rfl) ?_
          refine SL.v (op_neqF rfl rfl (by omega)) ?_
          refine SL.v (op_pickT rfl rfl) <| SL.mv rfl <| SL.v (op_fieldAddr fa36_2 rfl) <| SL.v (op_load ty24 rfl (by repeat constructor) rfl) ?_
          refine SL.v (op_lenS Tryz.underlying24 rfl) <| SL.mv rfl <| SL.v (op_lssF rfl rfl (by omega)) ?_
          refine SL.v (op_pickF rfl rfl) <| SL.mv rfl <| SL.v (op_fieldAddr fa36_2 rfl) <| SL.v (op_load ty24 rfl (by repeat constructor) rfl) ?_
          refine SL.v (op_lenS Tryz.underlying24 rfl) <| SL.mv rfl <| SL.v (op_gtrT rfl rfl (by omega)) ?_
          refine SL.v (op_pickF rfl rfl) <| SL.nil <| T.condT rfl <| T.seq <| T.region <| SL.v (op_assign (v := .int .i64 ((6 : Nat) : Int)) rfl) <| SL.nil <| T.ret1 rfl (ResIs.tmp rfl) ?_
          rfl
      · refine Spec.enter Tryz.func158 rfl Tryz.ntmps158 rfl ?_
        intro w0 hw0
        refine T.seq <| T.region <| SL.w (op_box rfl) ?_
        rintro _ _ _ ⟨B1, rfl, rfl, rfl⟩
        refine SL.v (op_assign (v := .int .i64 ((0 : Nat) : Int)) rfl) <| SL.nil <| T.seq <| T.region <| SL.v (op_fieldAddr fa36_0 rfl) <| SL.v (op_load ty33 rfl (by repeat constructor) rfl) ?_
        refine SL.w (op_callF en190 (vs := [_]) rfl (arity_spec)) ?_
        rintro _ _ X1 ⟨rfl, hX1, rfl⟩
        refine SL.mv rfl <| SL.v (op_extract rfl rfl) <| SL.v (op_extract rfl rfl) <| SL.v (op_extract rfl rfl) <| SL.as rfl <| SL.as rfl <| SL.as rfl <| SL.nil <| T.seq <| T.seq <| T.region <| SL.v (op_fieldAddr fa36_0 rfl) <| SL.v (op_load ty33 rfl (by repeat constructor) rfl) ?_
        refine SL.v (op_lssF rfl rfl (by omega)) ?_
        refine SL.mv rfl <| SL.v (op_fieldAddr fa36_0 rfl) <| SL.v (op_load ty33 rfl (by repeat constructor) rfl) ?_
        refine SL.v (op_gtrF rfl rfl (by omega)) ?_
        refine SL.v (op_pickF rfl rfl) <| SL.mv rfl <| SL.v (op_fieldAddr fa36_3 rfl) <| SL.v (op_load ty34 rfl (by repeat constructor) rfl) ?_
        refine SL.v (op_lenS Tryz.underlying34 rfl) <| SL.mv rfl <| SL.v (op_neqF rfl rfl (by omega)) ?_
        refine SL.v (op_pickF rfl rfl) <| SL.nil <| T.condF rfl <| T.skip <| T.seq <| T.seq <| T.region <| SL.v (op_fieldAddr fa36_0 rfl) <| SL.v (op_load ty33 rfl (by repeat constructor) rfl) ?_
        refine SL.v (op_neqT rfl rfl (by omega)) ?_
        refine SL.mv rfl <| SL.v (op_fieldAddr fa36_1 rfl) <| SL.v (op_load ty3 rfl (by repeat constructor) rfl) ?_
        refine SL.v (op_neqT rfl rfl (by omega)) ?_
        refine SL.v (op_pickT rfl rfl) <| SL.mv rfl <| SL.skip rfl rfl ?_
        refine SL.skip rfl rfl ?_
        refine SL.skip rfl rfl ?_
        refine SL.skip rfl rfl ?_
        refine SL.skip rfl rfl ?_
        refine SL.v (op_pickT rfl rfl) <| SL.mv rfl <| SL.skip rfl rfl ?_
        refine SL.skip rfl rfl ?_
        refine SL.skip rfl rfl ?_
        refine SL.skip rfl rfl ?_
        refine SL.skip rfl rfl ?_
        refine SL.v (op_pickT rfl rfl) <| SL.nil <| T.condT rfl <| T.seq <| T.region <| SL.v (op_assign (v := .int .i64 ((6 : Nat) : Int)) rfl) <| SL.nil <| T.ret1 rfl (ResIs.tmp rfl) ?_
        rfl
  have c2a : ¬rs.length < leaF op := fun h => c2 (.inr (.inl h))
  have c2b : ¬mosF op < rs.length := fun h => c2 (.inr (.inr h))
  refine Spec.enter Tryz.func158 rfl Tryz.ntmps158 rfl ?_
  intro w0 hw0
  refine T.seq <| T.region <| SL.w (op_box rfl) ?_
  rintro _ _ _ ⟨B1, rfl, rfl, rfl⟩
  refine SL.v (op_assign (v := .int .i64 ((0 : Nat) : Int)) rfl) <| SL.nil <| T.seq <| T.region <| SL.v (op_fieldAddr fa36_0 rfl) <| SL.v (op_load ty33 rfl (by repeat constructor) rfl) ?_
  refine SL.w (op_callF en190 (vs := [_]) rfl (arity_spec)) ?_
  rintro _ _ X1 ⟨rfl, hX1, rfl⟩
  refine SL.mv rfl <| SL.v (op_extract rfl rfl) <| SL.v (op_extract rfl rfl) <| SL.v (op_extract rfl rfl) <| SL.as rfl <| SL.as rfl <| SL.as rfl <| SL.nil <| T.seq <| T.seq <| T.region <| SL.v (op_fieldAddr fa36_0 rfl) <| SL.v (op_load ty33 rfl (by repeat constructor) rfl) ?_
  refine SL.v (op_lssF rfl rfl (by omega)) ?_
  refine SL.mv rfl <| SL.v (op_fieldAddr fa36_0 rfl) <| SL.v (op_load ty33 rfl (by repeat constructor) rfl) ?_
  refine SL.v (op_gtrF rfl rfl (by omega)) ?_
  refine SL.v (op_pickF rfl rfl) <| SL.mv rfl <| SL.v (op_fieldAddr fa36_3 rfl) <| SL.v (op_load ty34 rfl (by repeat constructor) rfl) ?_
  refine SL.v (op_lenS Tryz.underlying34 rfl) <| SL.mv rfl <| SL.v (op_neqF rfl rfl (by omega)) ?_
  refine SL.v (op_pickF rfl rfl) <| SL.nil <| T.condF rfl <| T.skip <| T.seq <| T.meet (fun _ env own X' => X1.le X' ∧ env = [(1, .pointer (some ⟨B1, 0, none⟩))] ∧ own = [⟨B1, [.int .u8 (op : Int), .int .i64 n, .slice An rs.length cn, .slice Aa rows.length ca], 36, 4⟩]) ?_ ?_
  · by_cases d1 : op = 1
    · skip
      refine T.seq <| T.region <| SL.v (op_fieldAddr fa36_0 rfl) <| SL.v (op_load ty33 rfl (by repeat constructor) rfl) ?_
      refine SL.v (op_neqF rfl rfl (by omega)) ?_
      refine SL.mv rfl <| SL.skip rfl rfl ?_
      refine SL.skip rfl rfl ?_
      refine SL.skip rfl rfl ?_
      refine SL.v (op_pickF rfl rfl) <| SL.mv rfl <| SL.v (op_fieldAddr fa36_2 rfl) <| SL.v (op_load ty24 rfl (by repeat constructor) rfl) ?_
      refine SL.v (op_lenS Tryz.underlying24 rfl) <| SL.mv rfl <| SL.v (op_lssF rfl rfl (by omega)) ?_
      refine SL.v (op_pickF rfl rfl) <| SL.mv rfl <| SL.v (op_fieldAddr fa36_2 rfl) <| SL.v (op_load ty24 rfl (by repeat constructor) rfl) ?_
      refine SL.v (op_lenS Tryz.underlying24 rfl) <| SL.mv rfl <| SL.v (op_gtrF rfl rfl (by omega)) ?_
      refine SL.v (op_pickF rfl rfl) <| SL.nil <| T.condF rfl <| T.skip ?_
      exact T.backW 0 (by omega) ⟨PMap.le_refl _, rfl, rfl⟩ (by repeat (first | exact Sub.nil | refine Sub.cons rfl ?_))
    · have d0 : n = 0 := Classical.byContradiction fun h => c2 (.inl ⟨d1, h⟩)
      refine T.seq <| T.region <| SL.v (op_fieldAddr fa36_0 rfl) <| SL.v (op_load ty33 rfl (by repeat constructor) rfl) ?_
      refine SL.v (op_neqT rfl rfl (by omega)) ?_
      refine SL.mv rfl <| SL.v (op_fieldAddr fa36_1 rfl) <| SL.v (op_load ty3 rfl (by repeat constructor) rfl) ?_
      refine SL.v (op_neqF rfl rfl (by omega)) ?_
      refine SL.v (op_pickT rfl rfl) <| SL.mv rfl <| SL.v (op_fieldAddr fa36_2 rfl) <| SL.v (op_load ty24 rfl (by repeat constructor) rfl) ?_
      refine SL.v (op_lenS Tryz.underlying24 rfl) <| SL.mv rfl <| SL.v (op_lssF rfl rfl (by omega)) ?_
      refine SL.v (op_pickF rfl rfl) <| SL.mv rfl <| SL.v (op_fieldAddr fa36_2 rfl) <| SL.v (op_load ty24 rfl (by repeat constructor) rfl) ?_
      refine SL.v (op_lenS Tryz.underlying24 rfl) <| SL.mv rfl <| SL.v (op_gtrF rfl rfl (by omega)) ?_
      refine SL.v (op_pickF rfl rfl) <| SL.nil <| T.condF rfl <| T.skip ?_
      exact T.backW 0 (by omega) ⟨PMap.le_refl _, rfl, rfl⟩ (by repeat (first | exact Sub.nil | refine Sub.cons rfl ?_))
  rintro _ _ _ X2 ⟨hX2, rfl, rfl⟩
  by_cases c3 : n < 0 ∨ 999999 < n
  · have e : ownF op n rs rows.length = 2 := by rw [ownF, if_neg c1, if_neg c2, if_pos c3]
    rw [e]
    by_cases d1 : n < 0
    · skip
      refine T.seq <| T.seq <| T.region <| SL.v (op_fieldAddr fa36_1 rfl) <| SL.v (op_load ty3 rfl (by repeat constructor) rfl) ?_
      refine SL.v (op_lssT rfl rfl (by omega)) ?_
      refine SL.mv rfl <| SL.skip rfl rfl ?_
      refine SL.skip rfl rfl ?_
      refine SL.skip rfl rfl ?_
      refine SL.v (op_pickT rfl rfl) <| SL.nil <| T.condT rfl <| T.seq <| T.region <| SL.v (op_assign (v := .int .i64 ((2 : Nat) : Int)) rfl) <| SL.nil <| T.ret1 rfl (ResIs.tmp rfl) ?_
      rfl
    · have d2 : 999999 < n := by omega
      refine T.seq <| T.seq <| T.region <| SL.v (op_fieldAddr fa36_1 rfl) <| SL.v (op_load ty3 rfl (by repeat constructor) rfl) ?_
      refine SL.v (op_lssF rfl rfl (by omega)) ?_
      refine SL.mv rfl <| SL.v (op_fieldAddr fa36_1 rfl) <| SL.v (op_load ty3 rfl (by repeat constructor) rfl) ?_
      refine SL.v (op_gtrT rfl rfl (by omega)) ?_
      refine SL.v (op_pickF rfl rfl) <| SL.nil <| T.condT rfl <| T.seq <| T.region <| SL.v (op_assign (v := .int .i64 ((2 : Nat) : Int)) rfl) <| SL.nil <| T.ret1 rfl (ResIs.tmp rfl) ?_
      rfl
  have c3a : ¬n < 0 := fun h => c3 (.inl h)
  have c3b : ¬999999 < n := fun h => c3 (.inr h)
  refine T.seq <| T.seq <| T.region <| SL.v (op_fieldAddr fa36_1 rfl) <| SL.v (op_load ty3 rfl (by repeat constructor) rfl) ?_
  refine SL.v (op_lssF rfl rfl (by omega)) ?_
  refine SL.mv rfl <| SL.v (op_fieldAddr fa36_1 rfl) <| SL.v (op_load ty3 rfl (by repeat constructor) rfl) ?_
  refine SL.v (op_gtrF rfl rfl (by omega)) ?_
  refine SL.v (op_pickF rfl rfl) <| SL.nil <| T.condF rfl <| T.skip <| T.seq <| T.seq <| T.region <| SL.v (op_fieldAddr fa36_2 rfl) <| SL.v (op_load ty24 rfl (by repeat constructor) rfl) ?_
  refine SL.v (op_lenS Tryz.underlying24 rfl) <| SL.v (op_move (v := .int .i64 ((0 : Nat) : Int)) rfl) <| SL.nil <| T.block <| T.loopW (fun m env own X' => ∃ i : Nat, m = rs.length - i ∧ i ≤ rs.length ∧ X2.le X' ∧ (∀ r ∈ rs.take i, 1 ≤ r ∧ r ≤ 63) ∧ env = [(1, .pointer (some ⟨B1, 0, none⟩)), (61, .slice An rs.length cn), (62, .int .i64 (rs.length : Int)), (63, .int .i64 (i : Int))] ∧ own = [⟨B1, [.int .u8 (op : Int), .int .i64 n, .slice An rs.length cn, .slice Aa rows.length ca], 36, 4⟩]) rs.length ⟨0, by simp, by omega, PMap.le_refl _, (fun r hr => by simp at hr), rfl, rfl⟩ (by repeat (first | exact Sub.nil | refine Sub.cons rfl ?_)) ?_
  rintro m _ _ X3 ⟨i, rfl, hi, hX3, hall, rfl, rfl⟩
  rcases Nat.lt_or_ge i rs.length with hil | hil
  · obtain ⟨b, rfl, hB⟩ := hn.blk (by omega)
    have hB3 := ((hB.mono hX1).mono hX2).mono hX3
    have hmem : rs[i] ∈ rs := List.getElem_mem hil
    by_cases d : rs[i] < 1 ∨ 63 < rs[i]
    · have e : ownF op n rs rows.length = 2 := by rw [ownF, if_neg c1, if_neg c2, if_neg c3, if_pos ⟨_, hmem, d⟩]
      rw [e]
      by_cases d1 : rs[i] < 1
      · skip
        refine T.seq <| T.region <| SL.v (op_lssT rfl rfl (by omega)) ?_
        refine SL.nil <| T.seq <| T.condT rfl <| T.skip <| T.seq <| T.block <| T.seq <| T.region <| SL.v (op_indexN Tryz.underlying24 ty3 rfl rfl (by omega)) ?_
        refine SL.v (op_loadX ty3 rfl hB3 (cread1 (ints_get rs i hil))) <| SL.as rfl <| SL.nil <| T.seq <| T.region <| SL.mv rfl <| SL.v (op_lssT rfl rfl (by omega)) ?_
        refine SL.mv rfl <| SL.skip rfl rfl ?_
        refine SL.skip rfl rfl ?_
        refine SL.v (op_pickT rfl rfl) <| SL.nil <| T.condT rfl <| T.seq <| T.region <| SL.v (op_assign (v := .int .i64 ((2 : Nat) : Int)) rfl) <| SL.nil <| T.ret1 rfl (ResIs.tmp rfl) ?_
        rfl
      · have d2 : 63 < rs[i] := by omega
        refine T.seq <| T.region <| SL.v (op_lssT rfl rfl (by omega)) ?_
        refine SL.nil <| T.seq <| T.condT rfl <| T.skip <| T.seq <| T.block <| T.seq <| T.region <| SL.v (op_indexN Tryz.underlying24 ty3 rfl rfl (by omega)) ?_
        refine SL.v (op_loadX ty3 rfl hB3 (cread1 (ints_get rs i hil))) <| SL.as rfl <| SL.nil <| T.seq <| T.region <| SL.mv rfl <| SL.v (op_lssF rfl rfl (by omega)) ?_
        refine SL.mv rfl <| SL.mv rfl <| SL.v (op_gtrT rfl rfl (by omega)) ?_
        refine SL.v (op_pickF rfl rfl) <| SL.nil <| T.condT rfl <| T.seq <| T.region <| SL.v (op_assign (v := .int .i64 ((2 : Nat) : Int)) rfl) <| SL.nil <| T.ret1 rfl (ResIs.tmp rfl) ?_
        rfl
    · have da : ¬rs[i] < 1 := fun h => d (.inl h)
      have db : ¬63 < rs[i] := fun h => d (.inr h)
      have htk : rs.take (i + 1) = rs.take i ++ [rs[i]] := List.take_succ_eq_append_getElem hil
      refine T.seq <| T.region <| SL.v (op_lssT rfl rfl (by omega)) ?_
      refine SL.nil <| T.seq <| T.condT rfl <| T.skip <| T.seq <| T.block <| T.seq <| T.region <| SL.v (op_indexN Tryz.underlying24 ty3 rfl rfl (by omega)) ?_
      refine SL.v (op_loadX ty3 rfl hB3 (cread1 (ints_get rs i hil))) <| SL.as rfl <| SL.nil <| T.seq <| T.region <| SL.mv rfl <| SL.v (op_lssF rfl rfl (by omega)) ?_
      refine SL.mv rfl <| SL.mv rfl <| SL.v (op_gtrF rfl rfl (by omega)) ?_
      refine SL.v (op_pickF rfl rfl) <| SL.nil <| T.condF rfl <| T.skip <| T.blk <| T.region <| SL.v (op_addN (q := 1) rfl rfl (by omega)) ?_
      refine SL.mv rfl <| SL.nil ?_
      exact T.backW (rs.length - (i + 1)) (by omega) ⟨i + 1, rfl, by omega, hX3, (fun r hr => by rw [htk] at hr; rcases List.mem_append.1 hr with hr | hr; exact hall r hr; rw [List.mem_singleton.1 hr]; omega), rfl, rfl⟩ (by repeat (first | exact Sub.nil | refine Sub.cons rfl ?_))
  · obtain rfl : i = rs.length := by omega
    rw [List.take_of_length_le (Nat.le_refl _)] at hall
    have c4 : ¬∃ r ∈ rs, r < 1 ∨ 63 < r := fun ⟨r, hr, hh⟩ => by have := hall r hr; omega
    have h64 : ∀ r ∈ rs, r < 64 := fun r hr => by have := hall r hr; omega
    have hcnt := cnt_msk h64
    refine T.seq <| T.region <| SL.v (op_lssF rfl rfl (by omega)) ?_
    refine SL.nil <| T.seq <| T.condF rfl ?_
    refine T.exit (T.exitCode (T.exitCut (T.exitBlk ?_)))
    refine T.seq <| T.seq <| T.draw (by kernel_rfl) 8 [.t 0, .t 1, .t 4, .t 5, .t 6, .r 2, .r 3, .t 7] (by kernel_rfl) ?_
    refine SD.take rfl panicBody (op_fieldAddr fa36_2 rfl) rfl rfl ?_
    refine SD.take rfl panicBody (op_load ty24 rfl (by repeat constructor) rfl) rfl rfl ?_
    refine SD.take rfl panicBody (op_fieldAddr fa36_2 rfl) rfl rfl ?_
    refine SD.take rfl panicBody (op_load ty24 rfl (by repeat constructor) rfl) rfl rfl ?_
    refine SD.take rfl panicBody (op_lenS Tryz.underlying24 rfl) rfl rfl ?_
    refine SD.run rfl (op_callF en38 (vs := [_]) rfl (of_spec (((hn.mono hX1).mono hX2).mono hX3).1 h64 (by omega))) rfl rfl ?_
    rintro _ _ X4 ⟨rfl, hX4, hS⟩
    obtain ⟨A4, l4, c4', rfl⟩ := hS.form
    refine SD.run rfl (op_callF en22 (vs := [_]) rfl (len_exact hS)) rfl rfl ?_
    rintro _ _ X5 ⟨rfl, hX5, rfl⟩
    rw [maskOf_msk, cnt_mem]
    have hle := cnt_le (mskF rs)
    by_cases c5 : rs.Nodup
    · have hq := hcnt.2 c5
      have e : ownF op n rs rows.length = 0 := by rw [ownF, if_neg c1, if_neg c2, if_neg c3, if_neg c4, if_neg (fun h => h c5)]
      rw [e]
      refine SD.take rfl panicBody (op_neqF rfl rfl (by omega)) rfl rfl ?_
      refine SD.nil ?_
      show SL _ _ _ _ _ _ _ [] _ _ _
      refine SL.nil <| T.condF rfl <| T.skip <| T.seq <| T.region <| SL.v (op_assign (v := .int .i64 ((0 : Nat) : Int)) rfl) <| SL.nil <| T.ret1 rfl (ResIs.tmp rfl) ?_
      rfl
    · have hq : cntB 64 (mskF rs) ≠ rs.length := fun h => c5 (hcnt.1 h)
      have e : ownF op n rs rows.length = 5 := by rw [ownF, if_neg c1, if_neg c2, if_neg c3, if_neg c4, if_pos c5]
      rw [e]
      refine SD.take rfl panicBody (op_neqT rfl rfl (by omega)) rfl rfl ?_
      refine SD.nil ?_
      show SL _ _ _ _ _ _ _ [] _ _ _
      refine SL.nil <| T.condT rfl <| T.seq <| T.region <| SL.v (op_assign (v := .int .i64 ((5 : Nat) : Int)) rfl) <| SL.nil <| T.ret1 rfl (ResIs.tmp rfl) ?_
      rfl
end Go.Proofs.YtnpcilglilfajaaGreatDoor
namespace Go.Proofs.YtnpcilglilfajaaGreatDoor
section
set_option maxRecDepth 100000
theorem en113 : Enters Tryz.prog 113 := enters_mk Tryz.func113 (by kernel_rfl) rfl
theorem en158 : Enters Tryz.prog 158 := enters_mk Tryz.func158 (by kernel_rfl) rfl
theorem en60 : Enters Tryz.prog 60 := enters_mk Tryz.func60 (by kernel_rfl) rfl
theorem en61 : Enters Tryz.prog 61 := enters_mk Tryz.func61 (by kernel_rfl) rfl
end
open Go.RowKit
theorem finside_spec (N : Nat) : ∀ {X : PMap} {f : Fm} {r : Row4} {kind : Nat}, wtF f ≤ N → N < 1000000 → kind < 256 → FmR .u8 X f r → Spec Tryz.prog 113 [.agg #[r.1, r.2.1, r.2.2.1, r.2.2.2], .int .u8 (kind : Int)] X fun u _ => u = .int .i64 (insF kind f) := by
  induction N with
  | zero => intro X f r kind h; have := wtF_pos f; omega
  | succ N ih =>
    intro X f r kind hN hB hk h
    have h0 := h
    cases h with
    | @mk op n rs al vn va rows hn ha hl hr =>
    obtain ⟨Aa, ca, rfl⟩ := ha.form
    obtain ⟨An, cn, rfl⟩ := hn.form
    have hlen := wtFL_len al
    rw [wtF] at hN
    have hnode := fnode_spec (by omega) (by omega) h0
    try simp only at hnode
    by_cases c0 : ownF op n rs al.length = 0
    case neg =>
      have e : insF kind (.mk op n rs al) = ownF op n rs al.length := by rw [insF, if_pos c0]
      rw [e]
      refine Spec.enter Tryz.func113 rfl Tryz.ntmps113 rfl ?_
      intro w0 hw0
      refine T.seq <| T.region <| SL.w (op_box rfl) ?_
      rintro _ _ _ ⟨B2, rfl, rfl, rfl⟩
      refine SL.v (op_assign (v := .int .i64 ((0 : Nat) : Int)) rfl) <| SL.nil <| T.seq <| T.seq <| T.region <| SL.v (op_load ty36 rfl (by repeat constructor) rfl) ?_
      refine SL.w (op_callF en158 (vs := [_]) rfl (hnode)) ?_
      rintro _ _ X1 ⟨rfl, hX1, rfl⟩
      refine SL.as rfl <| SL.nil <| T.seq <| T.region <| SL.mv rfl <| SL.v (op_neqT rfl rfl (by omega)) ?_
      refine SL.nil <| T.condT rfl <| T.seq <| T.region <| SL.mv rfl <| SL.as rfl <| SL.nil <| T.ret1 rfl (ResIs.tmp rfl) ?_
      rfl
    have e0 : insF kind (.mk op n rs al) = if kinF kind op then 10 else insFL kind al := by rw [insF, if_neg (fun h => h c0)]
    refine Spec.enter Tryz.func113 rfl Tryz.ntmps113 rfl ?_
    intro w0 hw0
    refine T.seq <| T.region <| SL.w (op_box rfl) ?_
    rintro _ _ _ ⟨B2, rfl, rfl, rfl⟩
    refine SL.v (op_assign (v := .int .i64 ((0 : Nat) : Int)) rfl) <| SL.nil <| T.seq <| T.seq <| T.region <| SL.v (op_load ty36 rfl (by repeat constructor) rfl) ?_
    refine SL.w (op_callF en158 (vs := [_]) rfl (hnode)) ?_
    rintro _ _ X1 ⟨rfl, hX1, rfl⟩
    refine SL.as rfl <| SL.nil <| T.seq <| T.region <| SL.mv rfl <| SL.v (op_neqF rfl rfl (by omega)) ?_
    refine SL.nil <| T.condF rfl <| T.skip <| T.seq <| T.meet (fun _ env own X' => X1.le X' ∧ env = [(1, .int .u8 (kind : Int)), (2, .pointer (some ⟨B2, 0, none⟩)), (6, .bool (decide (op = 4 ∨ op = 5)))] ∧ own = [⟨B2, [.int .u8 (op : Int), .int .i64 n, .slice An rs.length cn, .slice Aa rows.length ca], 36, 4⟩]) ?_ ?_
    · by_cases d4 : op = 4
      · rw [decide_eq_true (.inl d4)]
        refine T.region <| SL.v (op_fieldAddr fa36_0 rfl) <| SL.v (op_load ty33 rfl (by repeat constructor) rfl) ?_
        refine SL.v (op_eqlT rfl rfl (by omega)) ?_
        refine SL.mv rfl <| SL.skip rfl rfl ?_
        refine SL.skip rfl rfl ?_
        refine SL.skip rfl rfl ?_
        refine SL.v (op_pickT rfl rfl) <| SL.as rfl <| SL.nil ?_
        exact T.backW 0 (by omega) ⟨PMap.le_refl _, rfl, rfl⟩ (by repeat (first | exact Sub.nil | refine Sub.cons rfl ?_))
      · by_cases d5 : op = 5
        · rw [decide_eq_true (.inr d5)]
          refine T.region <| SL.v (op_fieldAddr fa36_0 rfl) <| SL.v (op_load ty33 rfl (by repeat constructor) rfl) ?_
          refine SL.v (op_eqlF rfl rfl (by omega)) ?_
          refine SL.mv rfl <| SL.v (op_fieldAddr fa36_0 rfl) <| SL.v (op_load ty33 rfl (by repeat constructor) rfl) ?_
          refine SL.v (op_eqlT rfl rfl (by omega)) ?_
          refine SL.v (op_pickF rfl rfl) <| SL.as rfl <| SL.nil ?_
          exact T.backW 0 (by omega) ⟨PMap.le_refl _, rfl, rfl⟩ (by repeat (first | exact Sub.nil | refine Sub.cons rfl ?_))
        · rw [decide_eq_false (fun h => h.elim d4 d5)]
          refine T.region <| SL.v (op_fieldAddr fa36_0 rfl) <| SL.v (op_load ty33 rfl (by repeat constructor) rfl) ?_
          refine SL.v (op_eqlF rfl rfl (by omega)) ?_
          refine SL.mv rfl <| SL.v (op_fieldAddr fa36_0 rfl) <| SL.v (op_load ty33 rfl (by repeat constructor) rfl) ?_
          refine SL.v (op_eqlF rfl rfl (by omega)) ?_
          refine SL.v (op_pickF rfl rfl) <| SL.as rfl <| SL.nil ?_
          exact T.backW 0 (by omega) ⟨PMap.le_refl _, rfl, rfl⟩ (by repeat (first | exact Sub.nil | refine Sub.cons rfl ?_))
    rintro _ _ _ X2 ⟨hX2, rfl, rfl⟩
    by_cases hkin : kinF kind op
    · rw [if_pos hkin] at e0
      rw [e0]
      by_cases k3 : kind = 3
      · have d : op = 4 ∨ op = 5 := by
          rcases hkin with h | h
          · exact h.2
          · exact absurd k3 h.2.1
        rw [decide_eq_true d]
        refine T.seq <| T.seq <| T.region <| SL.mv rfl <| SL.v (op_eqlT rfl rfl (by omega)) ?_
        refine SL.mv rfl <| SL.mv rfl <| SL.v (op_pickT rfl rfl) <| SL.mv rfl <| SL.skip rfl rfl ?_
        refine SL.skip rfl rfl ?_
        refine SL.skip rfl rfl ?_
        refine SL.skip rfl rfl ?_
        refine SL.skip rfl rfl ?_
        refine SL.skip rfl rfl ?_
        refine SL.skip rfl rfl ?_
        refine SL.skip rfl rfl ?_
        refine SL.skip rfl rfl ?_
        refine SL.skip rfl rfl ?_
        refine SL.skip rfl rfl ?_
        refine SL.v (op_pickT rfl rfl) <| SL.nil <| T.condT rfl <| T.seq <| T.region <| SL.v (op_assign (v := .int .i64 ((10 : Nat) : Int)) rfl) <| SL.nil <| T.ret1 rfl (ResIs.tmp rfl) ?_
        rfl
      · have d : kind ≠ 0 ∧ op = 6 := by
          rcases hkin with h | h
          · exact absurd h.1 k3
          · exact ⟨h.1, h.2.2⟩
        have d6 := d.2
        have d0 := d.1
        refine T.seq <| T.seq <| T.region <| SL.mv rfl <| SL.v (op_eqlF rfl rfl (by omega)) ?_
        refine SL.mv rfl <| SL.skip rfl rfl ?_
        refine SL.v (op_pickF rfl rfl) <| SL.mv rfl <| SL.mv rfl <| SL.v (op_neqT rfl rfl (by omega)) ?_
        refine SL.mv rfl <| SL.mv rfl <| SL.v (op_neqT rfl rfl (by omega)) ?_
        refine SL.v (op_pickT rfl rfl) <| SL.mv rfl <| SL.v (op_fieldAddr fa36_0 rfl) <| SL.v (op_load ty33 rfl (by repeat constructor) rfl) ?_
        refine SL.v (op_eqlT rfl rfl (by omega)) ?_
        refine SL.v (op_pickT rfl rfl) <| SL.v (op_pickF rfl rfl) <| SL.nil <| T.condT rfl <| T.seq <| T.region <| SL.v (op_assign (v := .int .i64 ((10 : Nat) : Int)) rfl) <| SL.nil <| T.ret1 rfl (ResIs.tmp rfl) ?_
        rfl
    rw [if_neg hkin] at e0
    rw [e0]
    refine T.seq <| T.meet (fun _ env own X' => X2.le X' ∧ env = [(1, .int .u8 (kind : Int)), (2, .pointer (some ⟨B2, 0, none⟩))] ∧ own = [⟨B2, [.int .u8 (op : Int), .int .i64 n, .slice An rs.length cn, .slice Aa rows.length ca], 36, 4⟩]) ?_ ?_
    · by_cases k3 : kind = 3
      · rw [decide_eq_false (fun h => hkin (.inl ⟨k3, h⟩))]
        refine T.seq <| T.region <| SL.mv rfl <| SL.v (op_eqlT rfl rfl (by omega)) ?_
        refine SL.mv rfl <| SL.mv rfl <| SL.v (op_pickT rfl rfl) <| SL.mv rfl <| SL.mv rfl <| SL.v (op_neqT rfl rfl (by omega)) ?_
        refine SL.mv rfl <| SL.mv rfl <| SL.v (op_neqF rfl rfl (by omega)) ?_
        refine SL.v (op_pickT rfl rfl) <| SL.mv rfl <| SL.skip rfl rfl ?_
        refine SL.skip rfl rfl ?_
        refine SL.skip rfl rfl ?_
        refine SL.v (op_pickF rfl rfl) <| SL.v (op_pickF rfl rfl) <| SL.nil <| T.condF rfl <| T.skip ?_
        exact T.backW 0 (by omega) ⟨PMap.le_refl _, rfl, rfl⟩ (by repeat (first | exact Sub.nil | refine Sub.cons rfl ?_))
      · by_cases k0 : kind = 0
        · skip
          refine T.seq <| T.region <| SL.mv rfl <| SL.v (op_eqlF rfl rfl (by omega)) ?_
          refine SL.mv rfl <| SL.skip rfl rfl ?_
          refine SL.v (op_pickF rfl rfl) <| SL.mv rfl <| SL.mv rfl <| SL.v (op_neqF rfl rfl (by omega)) ?_
          refine SL.mv rfl <| SL.skip rfl rfl ?_
          refine SL.skip rfl rfl ?_
          refine SL.v (op_pickF rfl rfl) <| SL.mv rfl <| SL.skip rfl rfl ?_
          refine SL.skip rfl rfl ?_
          refine SL.skip rfl rfl ?_
          refine SL.v (op_pickF rfl rfl) <| SL.v (op_pickF rfl rfl) <| SL.nil <| T.condF rfl <| T.skip ?_
          exact T.backW 0 (by omega) ⟨PMap.le_refl _, rfl, rfl⟩ (by repeat (first | exact Sub.nil | refine Sub.cons rfl ?_))
        · have d6 : op ≠ 6 := fun h => hkin (.inr ⟨k0, k3, h⟩)
          refine T.seq <| T.region <| SL.mv rfl <| SL.v (op_eqlF rfl rfl (by omega)) ?_
          refine SL.mv rfl <| SL.skip rfl rfl ?_
          refine SL.v (op_pickF rfl rfl) <| SL.mv rfl <| SL.mv rfl <| SL.v (op_neqT rfl rfl (by omega)) ?_
          refine SL.mv rfl <| SL.mv rfl <| SL.v (op_neqT rfl rfl (by omega)) ?_
          refine SL.v (op_pickT rfl rfl) <| SL.mv rfl <| SL.v (op_fieldAddr fa36_0 rfl) <| SL.v (op_load ty33 rfl (by repeat constructor) rfl) ?_
          refine SL.v (op_eqlF rfl rfl (by omega)) ?_
          refine SL.v (op_pickT rfl rfl) <| SL.v (op_pickF rfl rfl) <| SL.nil <| T.condF rfl <| T.skip ?_
          exact T.backW 0 (by omega) ⟨PMap.le_refl _, rfl, rfl⟩ (by repeat (first | exact Sub.nil | refine Sub.cons rfl ?_))
    rintro _ _ _ X3 ⟨hX3, rfl, rfl⟩
    refine T.seq <| T.seq <| T.region <| SL.v (op_fieldAddr fa36_3 rfl) <| SL.v (op_load ty34 rfl (by repeat constructor) rfl) ?_
    refine SL.v (op_lenS Tryz.underlying34 rfl) <| SL.v (op_move (v := .int .i64 ((0 : Nat) : Int)) rfl) <| SL.nil <| T.block <| T.drop B2 (by repeat constructor) ?_
    refine T.loopW (fun m env own X' => ∃ i : Nat, m = rows.length - i ∧ i ≤ rows.length ∧ X3.le X' ∧ insFL kind (al.take i) = 0 ∧ env = [(1, .int .u8 (kind : Int)), (42, .slice Aa rows.length ca), (43, .int .i64 (rows.length : Int)), (44, .int .i64 (i : Int))] ∧ own = []) rows.length ⟨0, by simp, by omega, PMap.le_refl _, rfl, rfl, rfl⟩ (by repeat (first | exact Sub.nil | refine Sub.cons rfl ?_)) ?_
    rintro m _ _ X4 ⟨i, rfl, hi, hX4, hz, rfl, rfl⟩
    rcases Nat.lt_or_ge i rows.length with hil | hil
    · obtain ⟨r2, hr2⟩ : ∃ r2, rows[i]? = some r2 := ⟨_, List.getElem?_eq_getElem hil⟩
      obtain ⟨a, ha2⟩ : ∃ a, al[i]? = some a := ⟨_, List.getElem?_eq_getElem (by omega)⟩
      have hX04 := ((hX1.trans' hX2).trans' hX3).trans' hX4
      have hra := (hr i a r2 ha2 hr2).mono hX04
      obtain ⟨bA, pre, rfl, hbA⟩ := ha.blk (by omega)
      have hwa := wtFL_mem (List.mem_of_getElem? ha2)
      have hts := take_snoc ha2
      have hih := ih (by omega) (by omega) hk hra
      obtain ⟨_, _, _, _, _, _, _, _, rfl⟩ := hra.form
      try simp only at hih
      have hsn : insFL kind (al.take (i + 1)) = insF kind a := by
        rw [hts, insFL_app, if_neg (fun h => h hz), insFL, insFL]
        split
        · rfl
        · rename_i h; exact (Classical.not_not.1 h).symm
      by_cases hca : insF kind a = 0
      · skip
        refine T.seq <| T.region <| SL.v (op_lssT rfl rfl (by omega)) ?_
        refine SL.nil <| T.seq <| T.condT rfl <| T.skip <| T.seq <| T.block <| T.seq <| T.region <| SL.v (op_indexN Tryz.underlying34 ty36 rfl rfl (by omega)) ?_
        refine SL.v (op_loadX ty36 rfl (hbA.mono hX04) (row_read rc4_len hr2 (by omega))) ?_
        refine SL.w (op_alloc z36) ?_
        rintro _ _ _ ⟨B8, rfl, rfl, rfl⟩
        refine SL.w (op_store ty36 rfl rfl (by repeat constructor) rfl rfl rfl) ?_
        rintro _ _ _ ⟨rfl, rfl⟩
        refine SL.nil <| T.seq <| T.region <| SL.v (op_load ty36 rfl (by repeat constructor) rfl) ?_
        refine SL.mv rfl <| SL.w (op_callF en113 (vs := [_, _]) rfl (hih)) ?_
        rintro _ _ X5 ⟨rfl, hX5, rfl⟩
        rw [hca]
        refine SL.as rfl <| SL.nil <| T.seq <| T.region <| SL.mv rfl <| SL.v (op_neqF rfl rfl (by omega)) ?_
        refine SL.nil <| T.condF rfl <| T.skip <| T.blk <| T.region <| SL.v (op_addN (q := 1) rfl rfl (by omega)) ?_
        refine SL.mv rfl <| SL.nil <| T.drop B8 (by repeat constructor) ?_
        exact T.backW (rows.length - (i + 1)) (by omega) ⟨i + 1, rfl, by omega, hX4.trans' hX5, by rw [hsn, hca], rfl, rfl⟩ (by repeat (first | exact Sub.nil | refine Sub.cons rfl ?_))
      · have e : insFL kind al = insF kind a := by
          have := insFL_app kind (al.drop (i + 1)) (al.take (i + 1))
          rw [List.take_append_drop, hsn, if_pos hca] at this
          exact this
        rw [e]
        refine T.seq <| T.region <| SL.v (op_lssT rfl rfl (by omega)) ?_
        refine SL.nil <| T.seq <| T.condT rfl <| T.skip <| T.seq <| T.block <| T.seq <| T.region <| SL.v (op_indexN Tryz.underlying34 ty36 rfl rfl (by omega)) ?_
        refine SL.v (op_loadX ty36 rfl (hbA.mono hX04) (row_read rc4_len hr2 (by omega))) ?_
        refine SL.w (op_alloc z36) ?_
        rintro _ _ _ ⟨B8, rfl, rfl, rfl⟩
        refine SL.w (op_store ty36 rfl rfl (by repeat constructor) rfl rfl rfl) ?_
        rintro _ _ _ ⟨rfl, rfl⟩
        refine SL.nil <| T.seq <| T.region <| SL.v (op_load ty36 rfl (by repeat constructor) rfl) ?_
        refine SL.mv rfl <| SL.w (op_callF en113 (vs := [_, _]) rfl (hih)) ?_
        rintro _ _ X5 ⟨rfl, hX5, rfl⟩
        refine SL.as rfl <| SL.nil <| T.seq <| T.region <| SL.mv rfl <| SL.v (op_neqT rfl rfl (by omega)) ?_
        refine SL.nil <| T.condT rfl <| T.seq <| T.region <| SL.mv rfl <| SL.as rfl <| SL.nil <| T.ret1 rfl (ResIs.tmp rfl) ?_
        rfl
    · obtain rfl : i = rows.length := by omega
      rw [List.take_of_length_le (by omega)] at hz
      rw [hz]
      refine T.seq <| T.region <| SL.v (op_lssF rfl rfl (by omega)) ?_
      refine SL.nil <| T.seq <| T.condF rfl ?_
      refine T.exit (T.exitCode (T.exitCut (T.exitBlk ?_)))
      refine T.seq <| T.region <| SL.v (op_assign (v := .int .i64 ((0 : Nat) : Int)) rfl) <| SL.nil <| T.ret1 rfl (ResIs.tmp rfl) ?_
      rfl
theorem ffits_spec (N : Nat) : ∀ {X : PMap} {f : Fm} {r : Row4}, wtF f ≤ N → N < 1000000 → FmR .u8 X f r → Spec Tryz.prog 60 [.agg #[r.1, r.2.1, r.2.2.1, r.2.2.2]] X fun u _ => u = .bool (fitF f) := by
  induction N with
  | zero => intro X f r h; have := wtF_pos f; omega
  | succ N ih =>
    intro X f r hN hB h
    cases h with
    | @mk op n rs al vn va rows hn ha hl hr =>
    obtain ⟨Aa, ca, rfl⟩ := ha.form
    obtain ⟨An, cn, rfl⟩ := hn.form
    have hlen := wtFL_len al
    rw [wtF] at hN
    rw [fitF]
    refine Spec.enter Tryz.func60 rfl Tryz.ntmps60 rfl ?_
    intro w0 hw0
    refine T.seq <| T.region <| SL.w (op_box rfl) ?_
    rintro _ _ _ ⟨B1, rfl, rfl, rfl⟩
    refine SL.as rfl <| SL.nil <| T.seq <| T.region <| SL.v (op_assign (v := .int .u8 ((1 : Nat) : Int)) rfl) <| SL.nil <| T.seq <| T.meet (fun _ env own X' => X.le X' ∧ env = [(1, .pointer (some ⟨B1, 0, none⟩)), (3, .int .u8 (wanT op : Int))] ∧ own = [⟨B1, [.int .u8 (op : Int), .int .i64 n, .slice An rs.length cn, .slice Aa rows.length ca], 36, 4⟩]) ?_ ?_
    · by_cases d : 11 ≤ op
      · rw [show wanT op = 2 from if_pos d]
        refine T.seq <| T.region <| SL.v (op_fieldAddr fa36_0 rfl) <| SL.v (op_load ty33 rfl (by repeat constructor) rfl) ?_
        refine SL.v (op_geqT rfl rfl (by omega)) ?_
        refine SL.nil <| T.condT rfl <| T.region <| SL.v (op_assign (v := .int .u8 ((2 : Nat) : Int)) rfl) <| SL.nil ?_
        exact T.backW 0 (by omega) ⟨PMap.le_refl _, rfl, rfl⟩ (by repeat (first | exact Sub.nil | refine Sub.cons rfl ?_))
      · rw [show wanT op = 1 from if_neg d]
        refine T.seq <| T.region <| SL.v (op_fieldAddr fa36_0 rfl) <| SL.v (op_load ty33 rfl (by repeat constructor) rfl) ?_
        refine SL.v (op_geqF rfl rfl (by omega)) ?_
        refine SL.nil <| T.condF rfl <| T.skip ?_
        exact T.backW 0 (by omega) ⟨PMap.le_refl _, rfl, rfl⟩ (by repeat (first | exact Sub.nil | refine Sub.cons rfl ?_))
    rintro _ _ _ X3 ⟨hX3, rfl, rfl⟩
    have hw2 : wanT op ≤ 2 := by unfold wanT; split <;> omega
    refine T.seq <| T.seq <| T.region <| SL.v (op_fieldAddr fa36_3 rfl) <| SL.v (op_load ty34 rfl (by repeat constructor) rfl) ?_
    refine SL.v (op_lenS Tryz.underlying34 rfl) <| SL.v (op_move (v := .int .i64 ((0 : Nat) : Int)) rfl) <| SL.nil <| T.block <| T.drop B1 (by repeat constructor) ?_
    refine T.loopW (fun m env own X' => ∃ i : Nat, m = rows.length - i ∧ i ≤ rows.length ∧ X3.le X' ∧ fitFL (wanT op) (al.take i) = true ∧ env = [(3, .int .u8 (wanT op : Int)), (10, .slice Aa rows.length ca), (11, .int .i64 (rows.length : Int)), (12, .int .i64 (i : Int))] ∧ own = []) rows.length ⟨0, by simp, by omega, PMap.le_refl _, rfl, rfl, rfl⟩ (by repeat (first | exact Sub.nil | refine Sub.cons rfl ?_)) ?_
    rintro m _ _ X4 ⟨i, rfl, hi, hX4, hz, rfl, rfl⟩
    rcases Nat.lt_or_ge i rows.length with hil | hil
    · obtain ⟨r2, hr2⟩ : ∃ r2, rows[i]? = some r2 := ⟨_, List.getElem?_eq_getElem hil⟩
      obtain ⟨a, ha2⟩ : ∃ a, al[i]? = some a := ⟨_, List.getElem?_eq_getElem (by omega)⟩
      have hX04 := hX3.trans' hX4
      have hra := (hr i a r2 ha2 hr2).mono hX04
      obtain ⟨bA, pre, rfl, hbA⟩ := ha.blk (by omega)
      have hwa := wtFL_mem (List.mem_of_getElem? ha2)
      have hts := take_snoc ha2
      have hop := hra.op
      have hih := fun {X' : PMap} (hX : X4.le X') => ih (by omega) (by omega) (hra.mono hX)
      obtain ⟨o2, _, _, _, _, _, _, _, rfl⟩ := hra.form
      simp only [Value.int.injEq, true_and] at hop
      obtain rfl : o2 = a.op := by exact_mod_cast hop
      try simp only at hih
      have hsn : fitFL (wanT op) (al.take (i + 1)) = (decide (resT a.op = wanT op) && fitF a) := by
        rw [hts, fitFL_app, hz, fitFL, fitFL, Bool.and_true, Bool.true_and]
      have hfull : fitFL (wanT op) al = (fitFL (wanT op) (al.take (i + 1)) && fitFL (wanT op) (al.drop (i + 1))) := by
        rw [← fitFL_app, List.take_append_drop]
      have hr2' : resT a.op ≤ 2 := by unfold resT; split <;> omega
      by_cases hw : resT a.op = wanT op
      · cases hfa : fitF a with
        | true =>
          refine T.seq <| T.region <| SL.v (op_lssT rfl rfl (by omega)) ?_
          refine SL.nil <| T.seq <| T.condT rfl <| T.skip <| T.seq <| T.block <| T.seq <| T.region <| SL.v (op_indexN Tryz.underlying34 ty36 rfl rfl (by omega)) ?_
          refine SL.v (op_loadX ty36 rfl (hbA.mono hX04) (row_read rc4_len hr2 (by omega))) ?_
          refine SL.w (op_alloc z36) ?_
          rintro _ _ _ ⟨B5, rfl, rfl, rfl⟩
          refine SL.w (op_store ty36 rfl rfl (by repeat constructor) rfl rfl rfl) ?_
          rintro _ _ _ ⟨rfl, rfl⟩
          refine SL.nil <| T.seq <| T.region <| SL.v (op_fieldAddr fa36_0 rfl) <| SL.v (op_load ty33 rfl (by repeat constructor) rfl) ?_
          refine SL.w (op_callF en61 (vs := [_]) rfl (result_spec)) ?_
          rintro _ _ X5 ⟨rfl, hX5, rfl⟩
          refine SL.mv rfl <| SL.v (op_neqF rfl rfl (by omega)) ?_
          refine SL.mv rfl <| SL.v (op_load ty36 rfl (by repeat constructor) rfl) ?_
          refine SL.w (op_callF en60 (vs := [_]) rfl (hih hX5)) ?_
          rintro _ _ X6 ⟨rfl, hX6, rfl⟩
          rw [hfa]
          refine SL.v (op_not rfl) <| SL.v (op_pickF rfl rfl) <| SL.nil <| T.condF rfl <| T.skip <| T.blk <| T.region <| SL.v (op_addN (q := 1) rfl rfl (by omega)) ?_
          refine SL.mv rfl <| SL.nil <| T.drop B5 (by repeat constructor) ?_
          exact T.backW (rows.length - (i + 1)) (by omega) ⟨i + 1, rfl, by omega, (hX4.trans' hX5).trans' hX6, by rw [hsn, decide_eq_true hw, hfa]; rfl, rfl, rfl⟩ (by repeat (first | exact Sub.nil | refine Sub.cons rfl ?_))
        | false =>
          rw [hfull, hsn, hfa]
          refine T.seq <| T.region <| SL.v (op_lssT rfl rfl (by omega)) ?_
          refine SL.nil <| T.seq <| T.condT rfl <| T.skip <| T.seq <| T.block <| T.seq <| T.region <| SL.v (op_indexN Tryz.underlying34 ty36 rfl rfl (by omega)) ?_
          refine SL.v (op_loadX ty36 rfl (hbA.mono hX04) (row_read rc4_len hr2 (by omega))) ?_
          refine SL.w (op_alloc z36) ?_
          rintro _ _ _ ⟨B5, rfl, rfl, rfl⟩
          refine SL.w (op_store ty36 rfl rfl (by repeat constructor) rfl rfl rfl) ?_
          rintro _ _ _ ⟨rfl, rfl⟩
          refine SL.nil <| T.seq <| T.region <| SL.v (op_fieldAddr fa36_0 rfl) <| SL.v (op_load ty33 rfl (by repeat constructor) rfl) ?_
          refine SL.w (op_callF en61 (vs := [_]) rfl (result_spec)) ?_
          rintro _ _ X5 ⟨rfl, hX5, rfl⟩
          refine SL.mv rfl <| SL.v (op_neqF rfl rfl (by omega)) ?_
          refine SL.mv rfl <| SL.v (op_load ty36 rfl (by repeat constructor) rfl) ?_
          refine SL.w (op_callF en60 (vs := [_]) rfl (hih hX5)) ?_
          rintro _ _ X6 ⟨rfl, hX6, rfl⟩
          rw [hfa]
          refine SL.v (op_not rfl) <| SL.v (op_pickF rfl rfl) <| SL.nil <| T.condT rfl <| T.seq <| T.region <| SL.as rfl <| SL.nil <| T.ret1 rfl (ResIs.tmp rfl) ?_
          simp
      · rw [hfull, hsn, decide_eq_false hw]
        refine T.seq <| T.region <| SL.v (op_lssT rfl rfl (by omega)) ?_
        refine SL.nil <| T.seq <| T.condT rfl <| T.skip <| T.seq <| T.block <| T.seq <| T.region <| SL.v (op_indexN Tryz.underlying34 ty36 rfl rfl (by omega)) ?_
        refine SL.v (op_loadX ty36 rfl (hbA.mono hX04) (row_read rc4_len hr2 (by omega))) ?_
        refine SL.w (op_alloc z36) ?_
        rintro _ _ _ ⟨B5, rfl, rfl, rfl⟩
        refine SL.w (op_store ty36 rfl rfl (by repeat constructor) rfl rfl rfl) ?_
        rintro _ _ _ ⟨rfl, rfl⟩
        refine SL.nil <| T.seq <| T.region <| SL.v (op_fieldAddr fa36_0 rfl) <| SL.v (op_load ty33 rfl (by repeat constructor) rfl) ?_
        refine SL.w (op_callF en61 (vs := [_]) rfl (result_spec)) ?_
        rintro _ _ X5 ⟨rfl, hX5, rfl⟩
        refine SL.mv rfl <| SL.v (op_neqT rfl rfl (by omega)) ?_
        refine SL.mv rfl <| SL.skip rfl rfl ?_
        refine SL.skip rfl rfl ?_
        refine SL.skip rfl rfl ?_
        refine SL.v (op_pickT rfl rfl) <| SL.nil <| T.condT rfl <| T.seq <| T.region <| SL.as rfl <| SL.nil <| T.ret1 rfl (ResIs.tmp rfl) ?_
        simp
    · obtain rfl : i = rows.length := by omega
      rw [List.take_of_length_le (by omega)] at hz
      rw [hz]
      refine T.seq <| T.region <| SL.v (op_lssF rfl rfl (by omega)) ?_
      refine SL.nil <| T.seq <| T.condF rfl ?_
      refine T.exit (T.exitCode (T.exitCut (T.exitBlk ?_)))
      refine T.seq <| T.region <| SL.as rfl <| SL.nil <| T.ret1 rfl (ResIs.tmp rfl) ?_
      rfl
end Go.Proofs.YtnpcilglilfajaaGreatDoor
