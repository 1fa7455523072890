/- What the law's proof rests on: the engine, a small separation logic over the kit's walk, and contracts of the functions that the law reaches. Part 3. -/
import Derived.Lib.MakeNoZero
import Derived.Laws.IdiomStrings
import Derived.Test.YtnabbnhefjfegaaGreatDoorPart1
import Derived.Test.YtnabbnhefjfegaaGreatDoorPart2
namespace Go.Proofs.YtnabbnhefjfegaaGreatDoor
section
set_option maxRecDepth 100000
theorem en112 : Enters Tryz.prog 112 := enters_mk Tryz.func112 (by kernel_rfl) rfl
theorem en119 : Enters Tryz.prog 119 := enters_mk Tryz.func119 (by kernel_rfl) rfl
theorem en124 : Enters Tryz.prog 124 := enters_mk Tryz.func124 (by kernel_rfl) rfl
theorem en125 : Enters Tryz.prog 125 := enters_mk Tryz.func125 (by kernel_rfl) rfl
theorem en61 : Enters Tryz.prog 61 := enters_mk Tryz.func61 (by kernel_rfl) rfl
theorem fa45_0 : FAdr Tryz.prog 45 0 0 := fadr_mk Tryz.underlying45 rfl rfl (by kernel_rfl)
theorem fa45_1 : FAdr Tryz.prog 45 1 1 := fadr_mk Tryz.underlying45 rfl rfl (by kernel_rfl)
theorem fa45_2 : FAdr Tryz.prog 45 2 2 := fadr_mk Tryz.underlying45 rfl rfl (by kernel_rfl)
end
open Go.RowKit
theorem rargN_spec {X : PMap} {op : Nat} : Spec Tryz.prog 112 [.int .i64 (op : Int)] X fun u _ => u = .int .i64 (argN op : Int) := by
  by_cases h1 : 8 ≤ op
  · refine Spec.enter Tryz.func112 rfl Tryz.ntmps112 rfl ?_
    intro w0 hw0
    refine T.seq <| T.region <| SL.v (op_assign (v := .int .i64 ((0 : Nat) : Int)) rfl) <| SL.nil <| T.seq <| T.seq <| T.region <| SL.mv rfl <| SL.v (op_geqT rfl rfl (by omega)) ?_
    refine SL.nil <| T.condT rfl <| T.seq <| T.region <| SL.v (op_assign (v := .int .i64 ((2 : Nat) : Int)) rfl) <| SL.nil <| T.ret1 rfl (ResIs.tmp rfl) ?_
    rw [argN, if_neg (by omega), if_neg (by omega)]
  · by_cases h2 : op = 7
    · refine Spec.enter Tryz.func112 rfl Tryz.ntmps112 rfl ?_
      intro w0 hw0
      refine T.seq <| T.region <| SL.v (op_assign (v := .int .i64 ((0 : Nat) : Int)) rfl) <| SL.nil <| T.seq <| T.seq <| T.region <| SL.mv rfl <| SL.v (op_geqF rfl rfl (by omega)) ?_
      refine SL.nil <| T.condF rfl <| T.skip <| T.seq <| T.seq <| T.region <| SL.mv rfl <| SL.v (op_eqlT rfl rfl (by omega)) ?_
      refine SL.nil <| T.condT rfl <| T.seq <| T.region <| SL.v (op_assign (v := .int .i64 ((1 : Nat) : Int)) rfl) <| SL.nil <| T.ret1 rfl (ResIs.tmp rfl) ?_
      rw [argN, if_neg (by omega), if_pos h2]
    · refine Spec.enter Tryz.func112 rfl Tryz.ntmps112 rfl ?_
      intro w0 hw0
      refine T.seq <| T.region <| SL.v (op_assign (v := .int .i64 ((0 : Nat) : Int)) rfl) <| SL.nil <| T.seq <| T.seq <| T.region <| SL.mv rfl <| SL.v (op_geqF rfl rfl (by omega)) ?_
      refine SL.nil <| T.condF rfl <| T.skip <| T.seq <| T.seq <| T.region <| SL.mv rfl <| SL.v (op_eqlF rfl rfl (by omega)) ?_
      refine SL.nil <| T.condF rfl <| T.skip <| T.seq <| T.region <| SL.v (op_assign (v := .int .i64 ((0 : Nat) : Int)) rfl) <| SL.nil <| T.ret1 rfl (ResIs.tmp rfl) ?_
      rw [argN, if_pos (by omega)]
theorem rnode_spec {X : PMap} {op : Nat} {n : Int} {ns : List ByteArray} {k ca cn : Nat} {An Aa : Option Addr} (_hk : k < 1000000000) (hnl : ns.length < 1000000000) (hn : RowR strC X (.slice An ns.length cn) ns) : Spec Tryz.prog 119 [.agg #[.int .i64 (op : Int), .int .i64 n, .slice An ns.length cn, .slice Aa k ca]] X fun u _ => u = .int .i64 (ownE op n ns k) := by
  have hcn : ns.length ≤ cn := by
    rcases Nat.eq_zero_or_pos ns.length with h0 | h0
    · omega
    · exact (hn.cap h0).1
  by_cases a1 : op < 1
  · refine Spec.enter Tryz.func119 rfl Tryz.ntmps119 rfl ?_
    intro w0 hw0
    refine T.seq <| T.region <| SL.w (op_box rfl) ?_
    rintro _ _ _ ⟨B1, rfl, rfl, rfl⟩
    refine SL.v (op_assign (v := .int .i64 ((0 : Nat) : Int)) rfl) <| SL.nil <| T.seq <| T.seq <| T.draw (by kernel_rfl) 17 [.t 0, .t 1, .t 2, .t 3, .t 4, .t 5, .t 6, .t 7, .t 8, .t 9, .t 10, .t 11, .t 12, .t 13, .r 14, .t 15, .t 16] (by kernel_rfl) ?_
    refine SD.take rfl panicBody (op_fieldAddr fa45_0 rfl) rfl rfl ?_
    refine SD.take rfl panicBody (op_load ty3 rfl (by repeat constructor) rfl) rfl rfl ?_
    refine SD.take rfl panicBody (op_lssT rfl rfl (by omega)) rfl rfl ?_
    refine SD.take rfl panicBody (op_move rfl) rfl rfl ?_
    refine SD.skip rfl panicBody rfl rfl ?_
    refine SD.skip rfl panicBody rfl rfl ?_
    refine SD.skip rfl panicBody rfl rfl ?_
    refine SD.take rfl panicBody (op_pickT rfl rfl) rfl rfl ?_
    refine SD.take rfl panicBody (op_move rfl) rfl rfl ?_
    refine SD.skip rfl panicBody rfl rfl ?_
    refine SD.skip rfl panicBody rfl rfl ?_
    refine SD.skip rfl panicBody rfl rfl ?_
    refine SD.skip rfl panicBody rfl rfl ?_
    refine SD.skip rfl panicBody rfl rfl ?_
    refine SD.skipF rfl rfl rfl ?_
    refine SD.skip rfl panicBody rfl rfl ?_
    refine SD.take rfl panicBody (op_pickT rfl rfl) rfl rfl ?_
    refine SD.nil ?_
    show SL _ _ _ _ _ _ _ [] _ _ _
    refine SL.nil <| T.condT rfl <| T.seq <| T.region <| SL.v (op_assign (v := .int .i64 ((1 : Nat) : Int)) rfl) <| SL.nil <| T.ret1 rfl (ResIs.tmp rfl) ?_
    rw [own1 (.inl a1)]; rfl
  by_cases a2 : 16 < op
  · refine Spec.enter Tryz.func119 rfl Tryz.ntmps119 rfl ?_
    intro w0 hw0
    refine T.seq <| T.region <| SL.w (op_box rfl) ?_
    rintro _ _ _ ⟨B1, rfl, rfl, rfl⟩
    refine SL.v (op_assign (v := .int .i64 ((0 : Nat) : Int)) rfl) <| SL.nil <| T.seq <| T.seq <| T.draw (by kernel_rfl) 17 [.t 0, .t 1, .t 2, .t 3, .t 4, .t 5, .t 6, .t 7, .t 8, .t 9, .t 10, .t 11, .t 12, .t 13, .r 14, .t 15, .t 16] (by kernel_rfl) ?_
    refine SD.take rfl panicBody (op_fieldAddr fa45_0 rfl) rfl rfl ?_
    refine SD.take rfl panicBody (op_load ty3 rfl (by repeat constructor) rfl) rfl rfl ?_
    refine SD.take rfl panicBody (op_lssF rfl rfl (by omega)) rfl rfl ?_
    refine SD.take rfl panicBody (op_move rfl) rfl rfl ?_
    refine SD.take rfl panicBody (op_fieldAddr fa45_0 rfl) rfl rfl ?_
    refine SD.take rfl panicBody (op_load ty3 rfl (by repeat constructor) rfl) rfl rfl ?_
    refine SD.take rfl panicBody (op_gtrT rfl rfl (by omega)) rfl rfl ?_
    refine SD.take rfl panicBody (op_pickF rfl rfl) rfl rfl ?_
    refine SD.take rfl panicBody (op_move rfl) rfl rfl ?_
    refine SD.skip rfl panicBody rfl rfl ?_
    refine SD.skip rfl panicBody rfl rfl ?_
    refine SD.skip rfl panicBody rfl rfl ?_
    refine SD.skip rfl panicBody rfl rfl ?_
    refine SD.skip rfl panicBody rfl rfl ?_
    refine SD.skipF rfl rfl rfl ?_
    refine SD.skip rfl panicBody rfl rfl ?_
    refine SD.take rfl panicBody (op_pickT rfl rfl) rfl rfl ?_
    refine SD.nil ?_
    show SL _ _ _ _ _ _ _ [] _ _ _
    refine SL.nil <| T.condT rfl <| T.seq <| T.region <| SL.v (op_assign (v := .int .i64 ((1 : Nat) : Int)) rfl) <| SL.nil <| T.ret1 rfl (ResIs.tmp rfl) ?_
    rw [own1 (.inr (.inl a2))]; rfl
  by_cases a3 : k = argN op
  case neg =>
    refine Spec.enter Tryz.func119 rfl Tryz.ntmps119 rfl ?_
    intro w0 hw0
    refine T.seq <| T.region <| SL.w (op_box rfl) ?_
    rintro _ _ _ ⟨B1, rfl, rfl, rfl⟩
    refine SL.v (op_assign (v := .int .i64 ((0 : Nat) : Int)) rfl) <| SL.nil <| T.seq <| T.seq <| T.draw (by kernel_rfl) 17 [.t 0, .t 1, .t 2, .t 3, .t 4, .t 5, .t 6, .t 7, .t 8, .t 9, .t 10, .t 11, .t 12, .t 13, .r 14, .t 15, .t 16] (by kernel_rfl) ?_
    refine SD.take rfl panicBody (op_fieldAddr fa45_0 rfl) rfl rfl ?_
    refine SD.take rfl panicBody (op_load ty3 rfl (by repeat constructor) rfl) rfl rfl ?_
    refine SD.take rfl panicBody (op_lssF rfl rfl (by omega)) rfl rfl ?_
    refine SD.take rfl panicBody (op_move rfl) rfl rfl ?_
    refine SD.take rfl panicBody (op_fieldAddr fa45_0 rfl) rfl rfl ?_
    refine SD.take rfl panicBody (op_load ty3 rfl (by repeat constructor) rfl) rfl rfl ?_
    refine SD.take rfl panicBody (op_gtrF rfl rfl (by omega)) rfl rfl ?_
    refine SD.take rfl panicBody (op_pickF rfl rfl) rfl rfl ?_
    refine SD.take rfl panicBody (op_move rfl) rfl rfl ?_
    refine SD.take rfl panicBody (op_fieldAddr fa45_3 rfl) rfl rfl ?_
    refine SD.take rfl panicBody (op_load ty43 rfl (by repeat constructor) rfl) rfl rfl ?_
    refine SD.take rfl panicBody (op_lenS Tryz.underlying43 rfl) rfl rfl ?_
    refine SD.take rfl panicBody (op_fieldAddr fa45_0 rfl) rfl rfl ?_
    refine SD.take rfl panicBody (op_load ty3 rfl (by repeat constructor) rfl) rfl rfl ?_
    refine SD.run rfl (op_callF en112 (vs := [_]) rfl (rargN_spec)) rfl rfl ?_
    rintro _ _ X1 ⟨rfl, hX1, rfl⟩
    refine SD.take rfl panicBody (op_neqT rfl rfl (by omega)) rfl rfl ?_
    refine SD.take rfl panicBody (op_pickF rfl rfl) rfl rfl ?_
    refine SD.nil ?_
    show SL _ _ _ _ _ _ _ [] _ _ _
    refine SL.nil <| T.condT rfl <| T.seq <| T.region <| SL.v (op_assign (v := .int .i64 ((1 : Nat) : Int)) rfl) <| SL.nil <| T.ret1 rfl (ResIs.tmp rfl) ?_
    rw [own1 (.inr (.inr a3))]; rfl
  have hA1 : ¬(op < 1 ∨ 16 < op ∨ k ≠ argN op) := fun h => by omega
  by_cases hNN : n ≠ 0 ∧ op ≠ 1
  · obtain ⟨b1, b2⟩ := hNN
    by_cases h4 : op = 4
    · refine Spec.enter Tryz.func119 rfl Tryz.ntmps119 rfl ?_
      intro w0 hw0
      refine T.seq <| T.region <| SL.w (op_box rfl) ?_
      rintro _ _ _ ⟨B1, rfl, rfl, rfl⟩
      refine SL.v (op_assign (v := .int .i64 ((0 : Nat) : Int)) rfl) <| SL.nil <| T.seq <| T.seq <| T.draw (by kernel_rfl) 17 [.t 0, .t 1, .t 2, .t 3, .t 4, .t 5, .t 6, .t 7, .t 8, .t 9, .t 10, .t 11, .t 12, .t 13, .r 14, .t 15, .t 16] (by kernel_rfl) ?_
      refine SD.take rfl panicBody (op_fieldAddr fa45_0 rfl) rfl rfl ?_
      refine SD.take rfl panicBody (op_load ty3 rfl (by repeat constructor) rfl) rfl rfl ?_
      refine SD.take rfl panicBody (op_lssF rfl rfl (by omega)) rfl rfl ?_
      refine SD.take rfl panicBody (op_move rfl) rfl rfl ?_
      refine SD.take rfl panicBody (op_fieldAddr fa45_0 rfl) rfl rfl ?_
      refine SD.take rfl panicBody (op_load ty3 rfl (by repeat constructor) rfl) rfl rfl ?_
      refine SD.take rfl panicBody (op_gtrF rfl rfl (by omega)) rfl rfl ?_
      refine SD.take rfl panicBody (op_pickF rfl rfl) rfl rfl ?_
      refine SD.take rfl panicBody (op_move rfl) rfl rfl ?_
      refine SD.take rfl panicBody (op_fieldAddr fa45_3 rfl) rfl rfl ?_
      refine SD.take rfl panicBody (op_load ty43 rfl (by repeat constructor) rfl) rfl rfl ?_
      refine SD.take rfl panicBody (op_lenS Tryz.underlying43 rfl) rfl rfl ?_
      refine SD.take rfl panicBody (op_fieldAddr fa45_0 rfl) rfl rfl ?_
      refine SD.take rfl panicBody (op_load ty3 rfl (by repeat constructor) rfl) rfl rfl ?_
      refine SD.run rfl (op_callF en112 (vs := [_]) rfl (rargN_spec)) rfl rfl ?_
      rintro _ _ X1 ⟨rfl, hX1, rfl⟩
      refine SD.take rfl panicBody (op_neqF rfl rfl (by omega)) rfl rfl ?_
      refine SD.take rfl panicBody (op_pickF rfl rfl) rfl rfl ?_
      refine SD.nil ?_
      show SL _ _ _ _ _ _ _ [] _ _ _
      refine SL.nil <| T.condF rfl <| T.skip <| T.seq <| T.region <| SL.v (op_assign (v := .int .i64 ((0 : Nat) : Int)) rfl) <| SL.v (op_assign (v := .int .i64 ((0 : Nat) : Int)) rfl) <| SL.nil <| T.seq <| T.seq <| T.region <| SL.v (op_fieldAddr fa45_0 rfl) <| SL.v (op_load ty3 rfl (by repeat constructor) rfl) ?_
      refine SL.v (op_eqlT rfl rfl (by omega)) ?_
      refine SL.mv rfl <| SL.skip rfl rfl ?_
      refine SL.skip rfl rfl ?_
      refine SL.skip rfl rfl ?_
      refine SL.v (op_pickT rfl rfl) <| SL.nil <| T.condT rfl <| T.region <| SL.v (op_assign (v := .int .i64 ((1 : Nat) : Int)) rfl) <| SL.v (op_assign (v := .int .i64 ((1 : Nat) : Int)) rfl) <| SL.nil <| T.seq <| T.seq <| T.region <| SL.v (op_fieldAddr fa45_0 rfl) <| SL.v (op_load ty3 rfl (by repeat constructor) rfl) ?_
      refine SL.v (op_eqlF rfl rfl (by omega)) ?_
      refine SL.nil <| T.condF rfl <| T.skip <| T.seq <| T.seq <| T.region <| SL.v (op_fieldAddr fa45_0 rfl) <| SL.v (op_load ty3 rfl (by repeat constructor) rfl) ?_
      refine SL.v (op_neqT rfl rfl (by omega)) ?_
      refine SL.mv rfl <| SL.v (op_fieldAddr fa45_1 rfl) <| SL.v (op_load ty3 rfl (by repeat constructor) rfl) ?_
      refine SL.v (op_neqT rfl rfl (by omega)) ?_
      refine SL.v (op_pickT rfl rfl) <| SL.mv rfl <| SL.skip rfl rfl ?_
      refine SL.skip rfl rfl ?_
      refine SL.skip rfl rfl ?_
      refine SL.skip rfl rfl ?_
      refine SL.skip rfl rfl ?_
      refine SL.v (op_pickT rfl rfl) <| SL.mv rfl <| SL.skip rfl rfl ?_
      refine SL.skip rfl rfl ?_
      refine SL.skip rfl rfl ?_
      refine SL.skip rfl rfl ?_
      refine SL.skip rfl rfl ?_
      refine SL.v (op_pickT rfl rfl) <| SL.nil <| T.condT rfl <| T.seq <| T.region <| SL.v (op_assign (v := .int .i64 ((6 : Nat) : Int)) rfl) <| SL.nil <| T.ret1 rfl (ResIs.tmp rfl) ?_
      rw [own6 hA1 (.inl ⟨b1, b2⟩)]; rfl
    by_cases h6 : op = 6
    · refine Spec.enter Tryz.func119 rfl Tryz.ntmps119 rfl ?_
      intro w0 hw0
      refine T.seq <| T.region <| SL.w (op_box rfl) ?_
      rintro _ _ _ ⟨B1, rfl, rfl, rfl⟩
      refine SL.v (op_assign (v := .int .i64 ((0 : Nat) : Int)) rfl) <| SL.nil <| T.seq <| T.seq <| T.draw (by kernel_rfl) 17 [.t 0, .t 1, .t 2, .t 3, .t 4, .t 5, .t 6, .t 7, .t 8, .t 9, .t 10, .t 11, .t 12, .t 13, .r 14, .t 15, .t 16] (by kernel_rfl) ?_
      refine SD.take rfl panicBody (op_fieldAddr fa45_0 rfl) rfl rfl ?_
      refine SD.take rfl panicBody (op_load ty3 rfl (by repeat constructor) rfl) rfl rfl ?_
      refine SD.take rfl panicBody (op_lssF rfl rfl (by omega)) rfl rfl ?_
      refine SD.take rfl panicBody (op_move rfl) rfl rfl ?_
      refine SD.take rfl panicBody (op_fieldAddr fa45_0 rfl) rfl rfl ?_
      refine SD.take rfl panicBody (op_load ty3 rfl (by repeat constructor) rfl) rfl rfl ?_
      refine SD.take rfl panicBody (op_gtrF rfl rfl (by omega)) rfl rfl ?_
      refine SD.take rfl panicBody (op_pickF rfl rfl) rfl rfl ?_
      refine SD.take rfl panicBody (op_move rfl) rfl rfl ?_
      refine SD.take rfl panicBody (op_fieldAddr fa45_3 rfl) rfl rfl ?_
      refine SD.take rfl panicBody (op_load ty43 rfl (by repeat constructor) rfl) rfl rfl ?_
      refine SD.take rfl panicBody (op_lenS Tryz.underlying43 rfl) rfl rfl ?_
      refine SD.take rfl panicBody (op_fieldAddr fa45_0 rfl) rfl rfl ?_
      refine SD.take rfl panicBody (op_load ty3 rfl (by repeat constructor) rfl) rfl rfl ?_
      refine SD.run rfl (op_callF en112 (vs := [_]) rfl (rargN_spec)) rfl rfl ?_
      rintro _ _ X1 ⟨rfl, hX1, rfl⟩
      refine SD.take rfl panicBody (op_neqF rfl rfl (by omega)) rfl rfl ?_
      refine SD.take rfl panicBody (op_pickF rfl rfl) rfl rfl ?_
      refine SD.nil ?_
      show SL _ _ _ _ _ _ _ [] _ _ _
      refine SL.nil <| T.condF rfl <| T.skip <| T.seq <| T.region <| SL.v (op_assign (v := .int .i64 ((0 : Nat) : Int)) rfl) <| SL.v (op_assign (v := .int .i64 ((0 : Nat) : Int)) rfl) <| SL.nil <| T.seq <| T.seq <| T.region <| SL.v (op_fieldAddr fa45_0 rfl) <| SL.v (op_load ty3 rfl (by repeat constructor) rfl) ?_
      refine SL.v (op_eqlF rfl rfl (by omega)) ?_
      refine SL.mv rfl <| SL.v (op_fieldAddr fa45_0 rfl) <| SL.v (op_load ty3 rfl (by repeat constructor) rfl) ?_
      refine SL.v (op_eqlT rfl rfl (by omega)) ?_
      refine SL.v (op_pickF rfl rfl) <| SL.nil <| T.condT rfl <| T.region <| SL.v (op_assign (v := .int .i64 ((1 : Nat) : Int)) rfl) <| SL.v (op_assign (v := .int .i64 ((1 : Nat) : Int)) rfl) <| SL.nil <| T.seq <| T.seq <| T.region <| SL.v (op_fieldAddr fa45_0 rfl) <| SL.v (op_load ty3 rfl (by repeat constructor) rfl) ?_
      refine SL.v (op_eqlF rfl rfl (by omega)) ?_
      refine SL.nil <| T.condF rfl <| T.skip <| T.seq <| T.seq <| T.region <| SL.v (op_fieldAddr fa45_0 rfl) <| SL.v (op_load ty3 rfl (by repeat constructor) rfl) ?_
      refine SL.v (op_neqT rfl rfl (by omega)) ?_
      refine SL.mv rfl <| SL.v (op_fieldAddr fa45_1 rfl) <| SL.v (op_load ty3 rfl (by repeat constructor) rfl) ?_
      refine SL.v (op_neqT rfl rfl (by omega)) ?_
      refine SL.v (op_pickT rfl rfl) <| SL.mv rfl <| SL.skip rfl rfl ?_
      refine SL.skip rfl rfl ?_
      refine SL.skip rfl rfl ?_
      refine SL.skip rfl rfl ?_
      refine SL.skip rfl rfl ?_
      refine SL.v (op_pickT rfl rfl) <| SL.mv rfl <| SL.skip rfl rfl ?_
      refine SL.skip rfl rfl ?_
      refine SL.skip rfl rfl ?_
      refine SL.skip rfl rfl ?_
      refine SL.skip rfl rfl ?_
      refine SL.v (op_pickT rfl rfl) <| SL.nil <| T.condT rfl <| T.seq <| T.region <| SL.v (op_assign (v := .int .i64 ((6 : Nat) : Int)) rfl) <| SL.nil <| T.ret1 rfl (ResIs.tmp rfl) ?_
      rw [own6 hA1 (.inl ⟨b1, b2⟩)]; rfl
    by_cases h5 : op = 5
    · refine Spec.enter Tryz.func119 rfl Tryz.ntmps119 rfl ?_
      intro w0 hw0
      refine T.seq <| T.region <| SL.w (op_box rfl) ?_
      rintro _ _ _ ⟨B1, rfl, rfl, rfl⟩
      refine SL.v (op_assign (v := .int .i64 ((0 : Nat) : Int)) rfl) <| SL.nil <| T.seq <| T.seq <| T.draw (by kernel_rfl) 17 [.t 0, .t 1, .t 2, .t 3, .t 4, .t 5, .t 6, .t 7, .t 8, .t 9, .t 10, .t 11, .t 12, .t 13, .r 14, .t 15, .t 16] (by kernel_rfl) ?_
      refine SD.take rfl panicBody (op_fieldAddr fa45_0 rfl) rfl rfl ?_
      refine SD.take rfl panicBody (op_load ty3 rfl (by repeat constructor) rfl) rfl rfl ?_
      refine SD.take rfl panicBody (op_lssF rfl rfl (by omega)) rfl rfl ?_
      refine SD.take rfl panicBody (op_move rfl) rfl rfl ?_
      refine SD.take rfl panicBody (op_fieldAddr fa45_0 rfl) rfl rfl ?_
      refine SD.take rfl panicBody (op_load ty3 rfl (by repeat constructor) rfl) rfl rfl ?_
      refine SD.take rfl panicBody (op_gtrF rfl rfl (by omega)) rfl rfl ?_
      refine SD.take rfl panicBody (op_pickF rfl rfl) rfl rfl ?_
      refine SD.take rfl panicBody (op_move rfl) rfl rfl ?_
      refine SD.take rfl panicBody (op_fieldAddr fa45_3 rfl) rfl rfl ?_
      refine SD.take rfl panicBody (op_load ty43 rfl (by repeat constructor) rfl) rfl rfl ?_
      refine SD.take rfl panicBody (op_lenS Tryz.underlying43 rfl) rfl rfl ?_
      refine SD.take rfl panicBody (op_fieldAddr fa45_0 rfl) rfl rfl ?_
      refine SD.take rfl panicBody (op_load ty3 rfl (by repeat constructor) rfl) rfl rfl ?_
      refine SD.run rfl (op_callF en112 (vs := [_]) rfl (rargN_spec)) rfl rfl ?_
      rintro _ _ X1 ⟨rfl, hX1, rfl⟩
      refine SD.take rfl panicBody (op_neqF rfl rfl (by omega)) rfl rfl ?_
      refine SD.take rfl panicBody (op_pickF rfl rfl) rfl rfl ?_
      refine SD.nil ?_
      show SL _ _ _ _ _ _ _ [] _ _ _
      refine SL.nil <| T.condF rfl <| T.skip <| T.seq <| T.region <| SL.v (op_assign (v := .int .i64 ((0 : Nat) : Int)) rfl) <| SL.v (op_assign (v := .int .i64 ((0 : Nat) : Int)) rfl) <| SL.nil <| T.seq <| T.seq <| T.region <| SL.v (op_fieldAddr fa45_0 rfl) <| SL.v (op_load ty3 rfl (by repeat constructor) rfl) ?_
      refine SL.v (op_eqlF rfl rfl (by omega)) ?_
      refine SL.mv rfl <| SL.v (op_fieldAddr fa45_0 rfl) <| SL.v (op_load ty3 rfl (by repeat constructor) rfl) ?_
      refine SL.v (op_eqlF rfl rfl (by omega)) ?_
      refine SL.v (op_pickF rfl rfl) <| SL.nil <| T.condF rfl <| T.skip <| T.seq <| T.seq <| T.region <| SL.v (op_fieldAddr fa45_0 rfl) <| SL.v (op_load ty3 rfl (by repeat constructor) rfl) ?_
      refine SL.v (op_eqlT rfl rfl (by omega)) ?_
      refine SL.nil <| T.condT rfl <| T.region <| SL.v (op_assign (v := .int .i64 ((1 : Nat) : Int)) rfl) <| SL.v (op_assign (v := .int .i64 ((8 : Nat) : Int)) rfl) <| SL.nil <| T.seq <| T.seq <| T.region <| SL.v (op_fieldAddr fa45_0 rfl) <| SL.v (op_load ty3 rfl (by repeat constructor) rfl) ?_
      refine SL.v (op_neqT rfl rfl (by omega)) ?_
      refine SL.mv rfl <| SL.v (op_fieldAddr fa45_1 rfl) <| SL.v (op_load ty3 rfl (by repeat constructor) rfl) ?_
      refine SL.v (op_neqT rfl rfl (by omega)) ?_
      refine SL.v (op_pickT rfl rfl) <| SL.mv rfl <| SL.skip rfl rfl ?_
      refine SL.skip rfl rfl ?_
      refine SL.skip rfl rfl ?_
      refine SL.skip rfl rfl ?_
      refine SL.skip rfl rfl ?_
      refine SL.v (op_pickT rfl rfl) <| SL.mv rfl <| SL.skip rfl rfl ?_
      refine SL.skip rfl rfl ?_
      refine SL.skip rfl rfl ?_
      refine SL.skip rfl rfl ?_
      refine SL.skip rfl rfl ?_
      refine SL.v (op_pickT rfl rfl) <| SL.nil <| T.condT rfl <| T.seq <| T.region <| SL.v (op_assign (v := .int .i64 ((6 : Nat) : Int)) rfl) <| SL.nil <| T.ret1 rfl (ResIs.tmp rfl) ?_
      rw [own6 hA1 (.inl ⟨b1, b2⟩)]; rfl
    refine Spec.enter Tryz.func119 rfl Tryz.ntmps119 rfl ?_
    intro w0 hw0
    refine T.seq <| T.region <| SL.w (op_box rfl) ?_
    rintro _ _ _ ⟨B1, rfl, rfl, rfl⟩
    refine SL.v (op_assign (v := .int .i64 ((0 : Nat) : Int)) rfl) <| SL.nil <| T.seq <| T.seq <| T.draw (by kernel_rfl) 17 [.t 0, .t 1, .t 2, .t 3, .t 4, .t 5, .t 6, .t 7, .t 8, .t 9, .t 10, .t 11, .t 12, .t 13, .r 14, .t 15, .t 16] (by kernel_rfl) ?_
    refine SD.take rfl panicBody (op_fieldAddr fa45_0 rfl) rfl rfl ?_
    refine SD.take rfl panicBody (op_load ty3 rfl (by repeat constructor) rfl) rfl rfl ?_
    refine SD.take rfl panicBody (op_lssF rfl rfl (by omega)) rfl rfl ?_
    refine SD.take rfl panicBody (op_move rfl) rfl rfl ?_
    refine SD.take rfl panicBody (op_fieldAddr fa45_0 rfl) rfl rfl ?_
    refine SD.take rfl panicBody (op_load ty3 rfl (by repeat constructor) rfl) rfl rfl ?_
    refine SD.take rfl panicBody (op_gtrF rfl rfl (by omega)) rfl rfl ?_
    refine SD.take rfl panicBody (op_pickF rfl rfl) rfl rfl ?_
    refine SD.take rfl panicBody (op_move rfl) rfl rfl ?_
    refine SD.take rfl panicBody (op_fieldAddr fa45_3 rfl) rfl rfl ?_
    refine SD.take rfl panicBody (op_load ty43 rfl (by repeat constructor) rfl) rfl rfl ?_
    refine SD.take rfl panicBody (op_lenS Tryz.underlying43 rfl) rfl rfl ?_
    refine SD.take rfl panicBody (op_fieldAddr fa45_0 rfl) rfl rfl ?_
    refine SD.take rfl panicBody (op_load ty3 rfl (by repeat constructor) rfl) rfl rfl ?_
    refine SD.run rfl (op_callF en112 (vs := [_]) rfl (rargN_spec)) rfl rfl ?_
    rintro _ _ X1 ⟨rfl, hX1, rfl⟩
    refine SD.take rfl panicBody (op_neqF rfl rfl (by omega)) rfl rfl ?_
    refine SD.take rfl panicBody (op_pickF rfl rfl) rfl rfl ?_
    refine SD.nil ?_
    show SL _ _ _ _ _ _ _ [] _ _ _
    refine SL.nil <| T.condF rfl <| T.skip <| T.seq <| T.region <| SL.v (op_assign (v := .int .i64 ((0 : Nat) : Int)) rfl) <| SL.v (op_assign (v := .int .i64 ((0 : Nat) : Int)) rfl) <| SL.nil <| T.seq <| T.seq <| T.region <| SL.v (op_fieldAddr fa45_0 rfl) <| SL.v (op_load ty3 rfl (by repeat constructor) rfl) ?_
    refine SL.v (op_eqlF rfl rfl (by omega)) ?_
    refine SL.mv rfl <| SL.v (op_fieldAddr fa45_0 rfl) <| SL.v (op_load ty3 rfl (by repeat constructor) rfl) ?_
    refine SL.v (op_eqlF rfl rfl (by omega)) ?_
    refine SL.v (op_pickF rfl rfl) <| SL.nil <| T.condF rfl <| T.skip <| T.seq <| T.seq <| T.region <| SL.v (op_fieldAddr fa45_0 rfl) <| SL.v (op_load ty3 rfl (by repeat constructor) rfl) ?_
    refine SL.v (op_eqlF rfl rfl (by omega)) ?_
    refine SL.nil <| T.condF rfl <| T.skip <| T.seq <| T.seq <| T.region <| SL.v (op_fieldAddr fa45_0 rfl) <| SL.v (op_load ty3 rfl (by repeat constructor) rfl) ?_
    refine SL.v (op_neqT rfl rfl (by omega)) ?_
    refine SL.mv rfl <| SL.v (op_fieldAddr fa45_1 rfl) <| SL.v (op_load ty3 rfl (by repeat constructor) rfl) ?_
    refine SL.v (op_neqT rfl rfl (by omega)) ?_
    refine SL.v (op_pickT rfl rfl) <| SL.mv rfl <| SL.skip rfl rfl ?_
    refine SL.skip rfl rfl ?_
    refine SL.skip rfl rfl ?_
    refine SL.skip rfl rfl ?_
    refine SL.skip rfl rfl ?_
    refine SL.v (op_pickT rfl rfl) <| SL.mv rfl <| SL.skip rfl rfl ?_
    refine SL.skip rfl rfl ?_
    refine SL.skip rfl rfl ?_
    refine SL.skip rfl rfl ?_
    refine SL.skip rfl rfl ?_
    refine SL.v (op_pickT rfl rfl) <| SL.nil <| T.condT rfl <| T.seq <| T.region <| SL.v (op_assign (v := .int .i64 ((6 : Nat) : Int)) rfl) <| SL.nil <| T.ret1 rfl (ResIs.tmp rfl) ?_
    rw [own6 hA1 (.inl ⟨b1, b2⟩)]; rfl
  by_cases h1 : op = 1
  · by_cases hl0 : 0 < ns.length
    · have hnm : ¬namN op ns.length := by
        have hq : ∀ q : Nat, 0 < q → ¬namN op q := fun q hq h => by simp [namN, h1] at h; omega
        exact hq _ (by omega)
      refine Spec.enter Tryz.func119 rfl Tryz.ntmps119 rfl ?_
      intro w0 hw0
      refine T.seq <| T.region <| SL.w (op_box rfl) ?_
      rintro _ _ _ ⟨B1, rfl, rfl, rfl⟩
      refine SL.v (op_assign (v := .int .i64 ((0 : Nat) : Int)) rfl) <| SL.nil <| T.seq <| T.seq <| T.draw (by kernel_rfl) 17 [.t 0, .t 1, .t 2, .t 3, .t 4, .t 5, .t 6, .t 7, .t 8, .t 9, .t 10, .t 11, .t 12, .t 13, .r 14, .t 15, .t 16] (by kernel_rfl) ?_
      refine SD.take rfl panicBody (op_fieldAddr fa45_0 rfl) rfl rfl ?_
      refine SD.take rfl panicBody (op_load ty3 rfl (by repeat constructor) rfl) rfl rfl ?_
      refine SD.take rfl panicBody (op_lssF rfl rfl (by omega)) rfl rfl ?_
      refine SD.take rfl panicBody (op_move rfl) rfl rfl ?_
      refine SD.take rfl panicBody (op_fieldAddr fa45_0 rfl) rfl rfl ?_
      refine SD.take rfl panicBody (op_load ty3 rfl (by repeat constructor) rfl) rfl rfl ?_
      refine SD.take rfl panicBody (op_gtrF rfl rfl (by omega)) rfl rfl ?_
      refine SD.take rfl panicBody (op_pickF rfl rfl) rfl rfl ?_
      refine SD.take rfl panicBody (op_move rfl) rfl rfl ?_
      refine SD.take rfl panicBody (op_fieldAddr fa45_3 rfl) rfl rfl ?_
      refine SD.take rfl panicBody (op_load ty43 rfl (by repeat constructor) rfl) rfl rfl ?_
      refine SD.take rfl panicBody (op_lenS Tryz.underlying43 rfl) rfl rfl ?_
      refine SD.take rfl panicBody (op_fieldAddr fa45_0 rfl) rfl rfl ?_
      refine SD.take rfl panicBody (op_load ty3 rfl (by repeat constructor) rfl) rfl rfl ?_
      refine SD.run rfl (op_callF en112 (vs := [_]) rfl (rargN_spec)) rfl rfl ?_
      rintro _ _ X1 ⟨rfl, hX1, rfl⟩
      refine SD.take rfl panicBody (op_neqF rfl rfl (by omega)) rfl rfl ?_
      refine SD.take rfl panicBody (op_pickF rfl rfl) rfl rfl ?_
      refine SD.nil ?_
      show SL _ _ _ _ _ _ _ [] _ _ _
      refine SL.nil <| T.condF rfl <| T.skip <| T.seq <| T.region <| SL.v (op_assign (v := .int .i64 ((0 : Nat) : Int)) rfl) <| SL.v (op_assign (v := .int .i64 ((0 : Nat) : Int)) rfl) <| SL.nil <| T.seq <| T.seq <| T.region <| SL.v (op_fieldAddr fa45_0 rfl) <| SL.v (op_load ty3 rfl (by repeat constructor) rfl) ?_
      refine SL.v (op_eqlF rfl rfl (by omega)) ?_
      refine SL.mv rfl <| SL.v (op_fieldAddr fa45_0 rfl) <| SL.v (op_load ty3 rfl (by repeat constructor) rfl) ?_
      refine SL.v (op_eqlF rfl rfl (by omega)) ?_
      refine SL.v (op_pickF rfl rfl) <| SL.nil <| T.condF rfl <| T.skip <| T.seq <| T.seq <| T.region <| SL.v (op_fieldAddr fa45_0 rfl) <| SL.v (op_load ty3 rfl (by repeat constructor) rfl) ?_
      refine SL.v (op_eqlF rfl rfl (by omega)) ?_
      refine SL.nil <| T.condF rfl <| T.skip <| T.seq <| T.seq <| T.region <| SL.v (op_fieldAddr fa45_0 rfl) <| SL.v (op_load ty3 rfl (by repeat constructor) rfl) ?_
      refine SL.v (op_neqF rfl rfl (by omega)) ?_
      refine SL.mv rfl <| SL.skip rfl rfl ?_
      refine SL.skip rfl rfl ?_
      refine SL.skip rfl rfl ?_
      refine SL.v (op_pickF rfl rfl) <| SL.mv rfl <| SL.v (op_fieldAddr fa45_2 rfl) <| SL.v (op_load ty37 rfl (by repeat constructor) rfl) ?_
      refine SL.v (op_lenS Tryz.underlying37 rfl) <| SL.mv rfl <| SL.v (op_lssF rfl rfl (by omega)) ?_
      refine SL.v (op_pickF rfl rfl) <| SL.mv rfl <| SL.v (op_fieldAddr fa45_2 rfl) <| SL.v (op_load ty37 rfl (by repeat constructor) rfl) ?_
      refine SL.v (op_lenS Tryz.underlying37 rfl) <| SL.mv rfl <| SL.v (op_gtrT rfl rfl (by omega)) ?_
      refine SL.v (op_pickF rfl rfl) <| SL.nil <| T.condT rfl <| T.seq <| T.region <| SL.v (op_assign (v := .int .i64 ((6 : Nat) : Int)) rfl) <| SL.nil <| T.ret1 rfl (ResIs.tmp rfl) ?_
      rw [own6 hA1 (.inr hnm)]; rfl

    have hnm : namN op ns.length := by
      have hq : ∀ q : Nat, 0 ≤ q ∧ q ≤ 0 → namN op q := fun q hq => by simp [namN, h1]; omega
      exact hq _ (by omega)
    have hA2 : ¬((n ≠ 0 ∧ op ≠ 1) ∨ ¬namN op ns.length) := fun h => h.elim (fun h => hNN h) (fun h => h hnm)
    refine Spec.enter Tryz.func119 rfl Tryz.ntmps119 rfl ?_
    intro w0 hw0
    refine T.seq <| T.region <| SL.w (op_box rfl) ?_
    rintro _ _ _ ⟨B1, rfl, rfl, rfl⟩
    refine SL.v (op_assign (v := .int .i64 ((0 : Nat) : Int)) rfl) <| SL.nil <| T.seq <| T.seq <| T.draw (by kernel_rfl) 17 [.t 0, .t 1, .t 2, .t 3, .t 4, .t 5, .t 6, .t 7, .t 8, .t 9, .t 10, .t 11, .t 12, .t 13, .r 14, .t 15, .t 16] (by kernel_rfl) ?_
    refine SD.take rfl panicBody (op_fieldAddr fa45_0 rfl) rfl rfl ?_
    refine SD.take rfl panicBody (op_load ty3 rfl (by repeat constructor) rfl) rfl rfl ?_
    refine SD.take rfl panicBody (op_lssF rfl rfl (by omega)) rfl rfl ?_
    refine SD.take rfl panicBody (op_move rfl) rfl rfl ?_
    refine SD.take rfl panicBody (op_fieldAddr fa45_0 rfl) rfl rfl ?_
    refine SD.take rfl panicBody (op_load ty3 rfl (by repeat constructor) rfl) rfl rfl ?_
    refine SD.take rfl panicBody (op_gtrF rfl rfl (by omega)) rfl rfl ?_
    refine SD.take rfl panicBody (op_pickF rfl rfl) rfl rfl ?_
    refine SD.take rfl panicBody (op_move rfl) rfl rfl ?_
    refine SD.take rfl panicBody (op_fieldAddr fa45_3 rfl) rfl rfl ?_
    refine SD.take rfl panicBody (op_load ty43 rfl (by repeat constructor) rfl) rfl rfl ?_
    refine SD.take rfl panicBody (op_lenS Tryz.underlying43 rfl) rfl rfl ?_
    refine SD.take rfl panicBody (op_fieldAddr fa45_0 rfl) rfl rfl ?_
    refine SD.take rfl panicBody (op_load ty3 rfl (by repeat constructor) rfl) rfl rfl ?_
    refine SD.run rfl (op_callF en112 (vs := [_]) rfl (rargN_spec)) rfl rfl ?_
    rintro _ _ X1 ⟨rfl, hX1, rfl⟩
    refine SD.take rfl panicBody (op_neqF rfl rfl (by omega)) rfl rfl ?_
    refine SD.take rfl panicBody (op_pickF rfl rfl) rfl rfl ?_
    refine SD.nil ?_
    show SL _ _ _ _ _ _ _ [] _ _ _
    refine SL.nil <| T.condF rfl <| T.skip <| T.seq <| T.region <| SL.v (op_assign (v := .int .i64 ((0 : Nat) : Int)) rfl) <| SL.v (op_assign (v := .int .i64 ((0 : Nat) : Int)) rfl) <| SL.nil <| T.seq <| T.seq <| T.region <| SL.v (op_fieldAddr fa45_0 rfl) <| SL.v (op_load ty3 rfl (by repeat constructor) rfl) ?_
    refine SL.v (op_eqlF rfl rfl (by omega)) ?_
    refine SL.mv rfl <| SL.v (op_fieldAddr fa45_0 rfl) <| SL.v (op_load ty3 rfl (by repeat constructor) rfl) ?_
    refine SL.v (op_eqlF rfl rfl (by omega)) ?_
    refine SL.v (op_pickF rfl rfl) <| SL.nil <| T.condF rfl <| T.skip <| T.seq <| T.seq <| T.region <| SL.v (op_fieldAddr fa45_0 rfl) <| SL.v (op_load ty3 rfl (by repeat constructor) rfl) ?_
    refine SL.v (op_eqlF rfl rfl (by omega)) ?_
    refine SL.nil <| T.condF rfl <| T.skip <| T.seq <| T.seq <| T.region <| SL.v (op_fieldAddr fa45_0 rfl) <| SL.v (op_load ty3 rfl (by repeat constructor) rfl) ?_
    refine SL.v (op_neqF rfl rfl (by omega)) ?_
    refine SL.mv rfl <| SL.skip rfl rfl ?_
    refine SL.skip rfl rfl ?_
    refine SL.skip rfl rfl ?_
    refine SL.v (op_pickF rfl rfl) <| SL.mv rfl <| SL.v (op_fieldAddr fa45_2 rfl) <| SL.v (op_load ty37 rfl (by repeat constructor) rfl) ?_
    refine SL.v (op_lenS Tryz.underlying37 rfl) <| SL.mv rfl <| SL.v (op_lssF rfl rfl (by omega)) ?_
    refine SL.v (op_pickF rfl rfl) <| SL.mv rfl <| SL.v (op_fieldAddr fa45_2 rfl) <| SL.v (op_load ty37 rfl (by repeat constructor) rfl) ?_
    refine SL.v (op_lenS Tryz.underlying37 rfl) <| SL.mv rfl <| SL.v (op_gtrF rfl rfl (by omega)) ?_
    refine SL.v (op_pickF rfl rfl) <| SL.nil <| T.condF rfl <| T.skip <| T.seq <| T.seq <| T.region <| SL.v (op_fieldAddr fa45_2 rfl) <| SL.v (op_load ty37 rfl (by repeat constructor) rfl) ?_
    refine SL.v (op_lenS Tryz.underlying37 rfl) <| SL.v (op_move (v := .int .i64 ((0 : Nat) : Int)) rfl) <| SL.nil <| T.block <| T.loopW (fun m env own X' => ∃ i : Nat, m = ns.length - i ∧ i ≤ ns.length ∧ X1.le X' ∧ (∀ q x, q < i → ns[q]? = some x → validS x) ∧ env = [(1, .pointer (some ⟨B1, 0, none⟩)), (60, .slice An ns.length cn), (61, .int .i64 (ns.length : Int)), (62, .int .i64 (i : Int))] ∧ own = [⟨B1, [.int .i64 (op : Int), .int .i64 n, .slice An ns.length cn, .slice Aa k ca], 45, 4⟩]) ns.length ⟨0, by simp, by omega, PMap.le_refl _, fun q x hq => absurd hq (by omega), rfl, rfl⟩ (by repeat (first | exact Sub.nil | refine Sub.cons rfl ?_)) ?_
    rintro m _ _ X2 ⟨i, rfl, hi, hX2, hne, rfl, rfl⟩
    have hil : ns.length ≤ i := by omega
    have hv : ∀ s ∈ ns, validS s := fun s hs => by
      obtain ⟨q, hq⟩ := List.mem_iff_getElem?.1 hs
      have h1 := (List.getElem?_eq_some_iff.1 hq).1
      exact hne q s (by omega) hq
    refine T.seq <| T.region <| SL.v (op_lssF rfl rfl (by omega)) ?_
    refine SL.nil <| T.seq <| T.condF rfl ?_
    refine T.exit (T.exitCode (T.exitCut (T.exitBlk ?_)))
    refine T.seq <| T.seq <| T.region <| SL.v (op_fieldAddr fa45_2 rfl) <| SL.v (op_load ty37 rfl (by repeat constructor) rfl) ?_
    refine SL.v (op_lenS Tryz.underlying37 rfl) <| SL.v (op_move (v := .int .i64 ((0 : Nat) : Int)) rfl) <| SL.nil <| T.block <| T.loopW (fun m env own X' => ∃ i : Nat, m = ns.length - i ∧ i ≤ ns.length ∧ X2.le X' ∧ (ns.take i).Nodup ∧ env = [(1, .pointer (some ⟨B1, 0, none⟩)), (71, .slice An ns.length cn), (72, .int .i64 (ns.length : Int)), (73, .int .i64 (i : Int))] ∧ own = [⟨B1, [.int .i64 (op : Int), .int .i64 n, .slice An ns.length cn, .slice Aa k ca], 45, 4⟩]) ns.length ⟨0, by simp, by omega, PMap.le_refl _, by simp, rfl, rfl⟩ (by repeat (first | exact Sub.nil | refine Sub.cons rfl ?_)) ?_
    rintro m _ _ X4 ⟨j, rfl, hj, hX4, hnd, rfl, rfl⟩
    have hjl : ns.length ≤ j := by omega
    rw [List.take_of_length_le (by omega)] at hnd
    by_cases hlo : n < 0
    · skip
      refine T.seq <| T.region <| SL.v (op_lssF rfl rfl (by omega)) ?_
      refine SL.nil <| T.seq <| T.condF rfl ?_
      refine T.exit (T.exitCode (T.exitCut (T.exitBlk ?_)))
      refine T.seq <| T.seq <| T.region <| SL.v (op_fieldAddr fa45_1 rfl) <| SL.v (op_load ty3 rfl (by repeat constructor) rfl) ?_
      refine SL.v (op_lssT rfl rfl (by omega)) ?_
      refine SL.mv rfl <| SL.skip rfl rfl ?_
      refine SL.skip rfl rfl ?_
      refine SL.skip rfl rfl ?_
      refine SL.v (op_pickT rfl rfl) <| SL.nil <| T.condT rfl <| T.seq <| T.region <| SL.v (op_assign (v := .int .i64 ((2 : Nat) : Int)) rfl) <| SL.nil <| T.ret1 rfl (ResIs.tmp rfl) ?_
      rw [own2 hA1 hA2 hv hnd (.inl hlo)]; rfl
    by_cases hhi : 999999 < n
    · skip
      refine T.seq <| T.region <| SL.v (op_lssF rfl rfl (by omega)) ?_
      refine SL.nil <| T.seq <| T.condF rfl ?_
      refine T.exit (T.exitCode (T.exitCut (T.exitBlk ?_)))
      refine T.seq <| T.seq <| T.region <| SL.v (op_fieldAddr fa45_1 rfl) <| SL.v (op_load ty3 rfl (by repeat constructor) rfl) ?_
      refine SL.v (op_lssF rfl rfl (by omega)) ?_
      refine SL.mv rfl <| SL.v (op_fieldAddr fa45_1 rfl) <| SL.v (op_load ty3 rfl (by repeat constructor) rfl) ?_
      refine SL.v (op_gtrT rfl rfl (by omega)) ?_
      refine SL.v (op_pickF rfl rfl) <| SL.nil <| T.condT rfl <| T.seq <| T.region <| SL.v (op_assign (v := .int .i64 ((2 : Nat) : Int)) rfl) <| SL.nil <| T.ret1 rfl (ResIs.tmp rfl) ?_
      rw [own2 hA1 hA2 hv hnd (.inr hhi)]; rfl
    refine T.seq <| T.region <| SL.v (op_lssF rfl rfl (by omega)) ?_
    refine SL.nil <| T.seq <| T.condF rfl ?_
    refine T.exit (T.exitCode (T.exitCut (T.exitBlk ?_)))
    refine T.seq <| T.seq <| T.region <| SL.v (op_fieldAddr fa45_1 rfl) <| SL.v (op_load ty3 rfl (by repeat constructor) rfl) ?_
    refine SL.v (op_lssF rfl rfl (by omega)) ?_
    refine SL.mv rfl <| SL.v (op_fieldAddr fa45_1 rfl) <| SL.v (op_load ty3 rfl (by repeat constructor) rfl) ?_
    refine SL.v (op_gtrF rfl rfl (by omega)) ?_
    refine SL.v (op_pickF rfl rfl) <| SL.nil <| T.condF rfl <| T.skip <| T.seq <| T.region <| SL.v (op_assign (v := .int .i64 ((0 : Nat) : Int)) rfl) <| SL.nil <| T.ret1 rfl (ResIs.tmp rfl) ?_
    rw [own0' hA1 hA2 hv hnd (by omega)]; rfl
  have b1 : n = 0 := Decidable.not_not.1 fun h => hNN ⟨h, h1⟩
  by_cases h4 : op = 4
  · by_cases hl0 : ns.length < 1
    · have hnm : ¬namN op ns.length := by
        have hq : ∀ q : Nat, q < 1 → ¬namN op q := fun q hq h => by simp [namN, h4] at h; omega
        exact hq _ (by omega)
      refine Spec.enter Tryz.func119 rfl Tryz.ntmps119 rfl ?_
      intro w0 hw0
      refine T.seq <| T.region <| SL.w (op_box rfl) ?_
      rintro _ _ _ ⟨B1, rfl, rfl, rfl⟩
      refine SL.v (op_assign (v := .int .i64 ((0 : Nat) : Int)) rfl) <| SL.nil <| T.seq <| T.seq <| T.draw (by kernel_rfl) 17 [.t 0, .t 1, .t 2, .t 3, .t 4, .t 5, .t 6, .t 7, .t 8, .t 9, .t 10, .t 11, .t 12, .t 13, .r 14, .t 15, .t 16] (by kernel_rfl) ?_
      refine SD.take rfl panicBody (op_fieldAddr fa45_0 rfl) rfl rfl ?_
      refine SD.take rfl panicBody (op_load ty3 rfl (by repeat constructor) rfl) rfl rfl ?_
      refine SD.take rfl panicBody (op_lssF rfl rfl (by omega)) rfl rfl ?_
      refine SD.take rfl panicBody (op_move rfl) rfl rfl ?_
      refine SD.take rfl panicBody (op_fieldAddr fa45_0 rfl) rfl rfl ?_
      refine SD.take rfl panicBody (op_load ty3 rfl (by repeat constructor) rfl) rfl rfl ?_
      refine SD.take rfl panicBody (op_gtrF rfl rfl (by omega)) rfl rfl ?_
      refine SD.take rfl panicBody (op_pickF rfl rfl) rfl rfl ?_
      refine SD.take rfl panicBody (op_move rfl) rfl rfl ?_
      refine SD.take rfl panicBody (op_fieldAddr fa45_3 rfl) rfl rfl ?_
      refine SD.take rfl panicBody (op_load ty43 rfl (by repeat constructor) rfl) rfl rfl ?_
      refine SD.take rfl panicBody (op_lenS Tryz.underlying43 rfl) rfl rfl ?_
      refine SD.take rfl panicBody (op_fieldAddr fa45_0 rfl) rfl rfl ?_
      refine SD.take rfl panicBody (op_load ty3 rfl (by repeat constructor) rfl) rfl rfl ?_
      refine SD.run rfl (op_callF en112 (vs := [_]) rfl (rargN_spec)) rfl rfl ?_
      rintro _ _ X1 ⟨rfl, hX1, rfl⟩
      refine SD.take rfl panicBody (op_neqF rfl rfl (by omega)) rfl rfl ?_
      refine SD.take rfl panicBody (op_pickF rfl rfl) rfl rfl ?_
      refine SD.nil ?_
      show SL _ _ _ _ _ _ _ [] _ _ _
      refine SL.nil <| T.condF rfl <| T.skip <| T.seq <| T.region <| SL.v (op_assign (v := .int .i64 ((0 : Nat) : Int)) rfl) <| SL.v (op_assign (v := .int .i64 ((0 : Nat) : Int)) rfl) <| SL.nil <| T.seq <| T.seq <| T.region <| SL.v (op_fieldAddr fa45_0 rfl) <| SL.v (op_load ty3 rfl (by repeat constructor) rfl) ?_
      refine SL.v (op_eqlT rfl rfl (by omega)) ?_
      refine SL.mv rfl <| SL.skip rfl rfl ?_
      refine SL.skip rfl rfl ?_
      refine SL.skip rfl rfl ?_
      refine SL.v (op_pickT rfl rfl) <| SL.nil <| T.condT rfl <| T.region <| SL.v (op_assign (v := .int .i64 ((1 : Nat) : Int)) rfl) <| SL.v (op_assign (v := .int .i64 ((1 : Nat) : Int)) rfl) <| SL.nil <| T.seq <| T.seq <| T.region <| SL.v (op_fieldAddr fa45_0 rfl) <| SL.v (op_load ty3 rfl (by repeat constructor) rfl) ?_
      refine SL.v (op_eqlF rfl rfl (by omega)) ?_
      refine SL.nil <| T.condF rfl <| T.skip <| T.seq <| T.seq <| T.region <| SL.v (op_fieldAddr fa45_0 rfl) <| SL.v (op_load ty3 rfl (by repeat constructor) rfl) ?_
      refine SL.v (op_neqT rfl rfl (by omega)) ?_
      refine SL.mv rfl <| SL.v (op_fieldAddr fa45_1 rfl) <| SL.v (op_load ty3 rfl (by repeat constructor) rfl) ?_
      refine SL.v (op_neqF rfl rfl (by omega)) ?_
      refine SL.v (op_pickT rfl rfl) <| SL.mv rfl <| SL.v (op_fieldAddr fa45_2 rfl) <| SL.v (op_load ty37 rfl (by repeat constructor) rfl) ?_
      refine SL.v (op_lenS Tryz.underlying37 rfl) <| SL.mv rfl <| SL.v (op_lssT rfl rfl (by omega)) ?_
      refine SL.v (op_pickF rfl rfl) <| SL.mv rfl <| SL.skip rfl rfl ?_
      refine SL.skip rfl rfl ?_
      refine SL.skip rfl rfl ?_
      refine SL.skip rfl rfl ?_
      refine SL.skip rfl rfl ?_
      refine SL.v (op_pickT rfl rfl) <| SL.nil <| T.condT rfl <| T.seq <| T.region <| SL.v (op_assign (v := .int .i64 ((6 : Nat) : Int)) rfl) <| SL.nil <| T.ret1 rfl (ResIs.tmp rfl) ?_
      rw [own6 hA1 (.inr hnm)]; rfl

    by_cases hl323 : 1 < ns.length
    · have hnm : ¬namN op ns.length := by
        have hq : ∀ q : Nat, 1 < q → ¬namN op q := fun q hq h => by simp [namN, h4] at h; omega
        exact hq _ (by omega)
      refine Spec.enter Tryz.func119 rfl Tryz.ntmps119 rfl ?_
      intro w0 hw0
      refine T.seq <| T.region <| SL.w (op_box rfl) ?_
      rintro _ _ _ ⟨B1, rfl, rfl, rfl⟩
      refine SL.v (op_assign (v := .int .i64 ((0 : Nat) : Int)) rfl) <| SL.nil <| T.seq <| T.seq <| T.draw (by kernel_rfl) 17 [.t 0, .t 1, .t 2, .t 3, .t 4, .t 5, .t 6, .t 7, .t 8, .t 9, .t 10, .t 11, .t 12, .t 13, .r 14, .t 15, .t 16] (by kernel_rfl) ?_
      refine SD.take rfl panicBody (op_fieldAddr fa45_0 rfl) rfl rfl ?_
      refine SD.take rfl panicBody (op_load ty3 rfl (by repeat constructor) rfl) rfl rfl ?_
      refine SD.take rfl panicBody (op_lssF rfl rfl (by omega)) rfl rfl ?_
      refine SD.take rfl panicBody (op_move rfl) rfl rfl ?_
      refine SD.take rfl panicBody (op_fieldAddr fa45_0 rfl) rfl rfl ?_
      refine SD.take rfl panicBody (op_load ty3 rfl (by repeat constructor) rfl) rfl rfl ?_
      refine SD.take rfl panicBody (op_gtrF rfl rfl (by omega)) rfl rfl ?_
      refine SD.take rfl panicBody (op_pickF rfl rfl) rfl rfl ?_
      refine SD.take rfl panicBody (op_move rfl) rfl rfl ?_
      refine SD.take rfl panicBody (op_fieldAddr fa45_3 rfl) rfl rfl ?_
      refine SD.take rfl panicBody (op_load ty43 rfl (by repeat constructor) rfl) rfl rfl ?_
      refine SD.take rfl panicBody (op_lenS Tryz.underlying43 rfl) rfl rfl ?_
      refine SD.take rfl panicBody (op_fieldAddr fa45_0 rfl) rfl rfl ?_
      refine SD.take rfl panicBody (op_load ty3 rfl (by repeat constructor) rfl) rfl rfl ?_
      refine SD.run rfl (op_callF en112 (vs := [_]) rfl (rargN_spec)) rfl rfl ?_
      rintro _ _ X1 ⟨rfl, hX1, rfl⟩
      refine SD.take rfl panicBody (op_neqF rfl rfl (by omega)) rfl rfl ?_
      refine SD.take rfl panicBody (op_pickF rfl rfl) rfl rfl ?_
      refine SD.nil ?_
      show SL _ _ _ _ _ _ _ [] _ _ _
      refine SL.nil <| T.condF rfl <| T.skip <| T.seq <| T.region <| SL.v (op_assign (v := .int .i64 ((0 : Nat) : Int)) rfl) <| SL.v (op_assign (v := .int .i64 ((0 : Nat) : Int)) rfl) <| SL.nil <| T.seq <| T.seq <| T.region <| SL.v (op_fieldAddr fa45_0 rfl) <| SL.v (op_load ty3 rfl (by repeat constructor) rfl) ?_
      refine SL.v (op_eqlT rfl rfl (by omega)) ?_
      refine SL.mv rfl <| SL.skip rfl rfl ?_
      refine SL.skip rfl rfl ?_
      refine SL.skip rfl rfl ?_
      refine SL.v (op_pickT rfl rfl) <| SL.nil <| T.condT rfl <| T.region <| SL.v (op_assign (v := .int .i64 ((1 : Nat) : Int)) rfl) <| SL.v (op_assign (v := .int .i64 ((1 : Nat) : Int)) rfl) <| SL.nil <| T.seq <| T.seq <| T.region <| SL.v (op_fieldAddr fa45_0 rfl) <| SL.v (op_load ty3 rfl (by repeat constructor) rfl) ?_
      refine SL.v (op_eqlF rfl rfl (by omega)) ?_
      refine SL.nil <| T.condF rfl <| T.skip <| T.seq <| T.seq <| T.region <| SL.v (op_fieldAddr fa45_0 rfl) <| SL.v (op_load ty3 rfl (by repeat constructor) rfl) ?_
      refine SL.v (op_neqT rfl rfl (by omega)) ?_
      refine SL.mv rfl <| SL.v (op_fieldAddr fa45_1 rfl) <| SL.v (op_load ty3 rfl (by repeat constructor) rfl) ?_
      refine SL.v (op_neqF rfl rfl (by omega)) ?_
      refine SL.v (op_pickT rfl rfl) <| SL.mv rfl <| SL.v (op_fieldAddr fa45_2 rfl) <| SL.v (op_load ty37 rfl (by repeat constructor) rfl) ?_
      refine SL.v (op_lenS Tryz.underlying37 rfl) <| SL.mv rfl <| SL.v (op_lssF rfl rfl (by omega)) ?_
      refine SL.v (op_pickF rfl rfl) <| SL.mv rfl <| SL.v (op_fieldAddr fa45_2 rfl) <| SL.v (op_load ty37 rfl (by repeat constructor) rfl) ?_
      refine SL.v (op_lenS Tryz.underlying37 rfl) <| SL.mv rfl <| SL.v (op_gtrT rfl rfl (by omega)) ?_
      refine SL.v (op_pickF rfl rfl) <| SL.nil <| T.condT rfl <| T.seq <| T.region <| SL.v (op_assign (v := .int .i64 ((6 : Nat) : Int)) rfl) <| SL.nil <| T.ret1 rfl (ResIs.tmp rfl) ?_
      rw [own6 hA1 (.inr hnm)]; rfl

    have hnm : namN op ns.length := by
      have hq : ∀ q : Nat, 1 ≤ q ∧ q ≤ 1 → namN op q := fun q hq => by simp [namN, h4]; omega
      exact hq _ (by omega)
    have hA2 : ¬((n ≠ 0 ∧ op ≠ 1) ∨ ¬namN op ns.length) := fun h => h.elim (fun h => hNN h) (fun h => h hnm)
    refine Spec.enter Tryz.func119 rfl Tryz.ntmps119 rfl ?_
    intro w0 hw0
    refine T.seq <| T.region <| SL.w (op_box rfl) ?_
    rintro _ _ _ ⟨B1, rfl, rfl, rfl⟩
    refine SL.v (op_assign (v := .int .i64 ((0 : Nat) : Int)) rfl) <| SL.nil <| T.seq <| T.seq <| T.draw (by kernel_rfl) 17 [.t 0, .t 1, .t 2, .t 3, .t 4, .t 5, .t 6, .t 7, .t 8, .t 9, .t 10, .t 11, .t 12, .t 13, .r 14, .t 15, .t 16] (by kernel_rfl) ?_
    refine SD.take rfl panicBody (op_fieldAddr fa45_0 rfl) rfl rfl ?_
    refine SD.take rfl panicBody (op_load ty3 rfl (by repeat constructor) rfl) rfl rfl ?_
    refine SD.take rfl panicBody (op_lssF rfl rfl (by omega)) rfl rfl ?_
    refine SD.take rfl panicBody (op_move rfl) rfl rfl ?_
    refine SD.take rfl panicBody (op_fieldAddr fa45_0 rfl) rfl rfl ?_
    refine SD.take rfl panicBody (op_load ty3 rfl (by repeat constructor) rfl) rfl rfl ?_
    refine SD.take rfl panicBody (op_gtrF rfl rfl (by omega)) rfl rfl ?_
    refine SD.take rfl panicBody (op_pickF rfl rfl) rfl rfl ?_
    refine SD.take rfl panicBody (op_move rfl) rfl rfl ?_
    refine SD.take rfl panicBody (op_fieldAddr fa45_3 rfl) rfl rfl ?_
    refine SD.take rfl panicBody (op_load ty43 rfl (by repeat constructor) rfl) rfl rfl ?_
    refine SD.take rfl panicBody (op_lenS Tryz.underlying43 rfl) rfl rfl ?_
    refine SD.take rfl panicBody (op_fieldAddr fa45_0 rfl) rfl rfl ?_
    refine SD.take rfl panicBody (op_load ty3 rfl (by repeat constructor) rfl) rfl rfl ?_
    refine SD.run rfl (op_callF en112 (vs := [_]) rfl (rargN_spec)) rfl rfl ?_
    rintro _ _ X1 ⟨rfl, hX1, rfl⟩
    refine SD.take rfl panicBody (op_neqF rfl rfl (by omega)) rfl rfl ?_
    refine SD.take rfl panicBody (op_pickF rfl rfl) rfl rfl ?_
    refine SD.nil ?_
    show SL _ _ _ _ _ _ _ [] _ _ _
    refine SL.nil <| T.condF rfl <| T.skip <| T.seq <| T.region <| SL.v (op_assign (v := .int .i64 ((0 : Nat) : Int)) rfl) <| SL.v (op_assign (v := .int .i64 ((0 : Nat) : Int)) rfl) <| SL.nil <| T.seq <| T.seq <| T.region <| SL.v (op_fieldAddr fa45_0 rfl) <| SL.v (op_load ty3 rfl (by repeat constructor) rfl) ?_
    refine SL.v (op_eqlT rfl rfl (by omega)) ?_
    refine SL.mv rfl <| SL.skip rfl rfl ?_
    refine SL.skip rfl rfl ?_
    refine SL.skip rfl rfl ?_
    refine SL.v (op_pickT rfl rfl) <| SL.nil <| T.condT rfl <| T.region <| SL.v (op_assign (v := .int .i64 ((1 : Nat) : Int)) rfl) <| SL.v (op_assign (v := .int .i64 ((1 : Nat) : Int)) rfl) <| SL.nil <| T.seq <| T.seq <| T.region <| SL.v (op_fieldAddr fa45_0 rfl) <| SL.v (op_load ty3 rfl (by repeat constructor) rfl) ?_
    refine SL.v (op_eqlF rfl rfl (by omega)) ?_
    refine SL.nil <| T.condF rfl <| T.skip <| T.seq <| T.seq <| T.region <| SL.v (op_fieldAddr fa45_0 rfl) <| SL.v (op_load ty3 rfl (by repeat constructor) rfl) ?_
    refine SL.v (op_neqT rfl rfl (by omega)) ?_
    refine SL.mv rfl <| SL.v (op_fieldAddr fa45_1 rfl) <| SL.v (op_load ty3 rfl (by repeat constructor) rfl) ?_
    refine SL.v (op_neqF rfl rfl (by omega)) ?_
    refine SL.v (op_pickT rfl rfl) <| SL.mv rfl <| SL.v (op_fieldAddr fa45_2 rfl) <| SL.v (op_load ty37 rfl (by repeat constructor) rfl) ?_
    refine SL.v (op_lenS Tryz.underlying37 rfl) <| SL.mv rfl <| SL.v (op_lssF rfl rfl (by omega)) ?_
    refine SL.v (op_pickF rfl rfl) <| SL.mv rfl <| SL.v (op_fieldAddr fa45_2 rfl) <| SL.v (op_load ty37 rfl (by repeat constructor) rfl) ?_
    refine SL.v (op_lenS Tryz.underlying37 rfl) <| SL.mv rfl <| SL.v (op_gtrF rfl rfl (by omega)) ?_
    refine SL.v (op_pickF rfl rfl) <| SL.nil <| T.condF rfl <| T.skip <| T.seq <| T.seq <| T.region <| SL.v (op_fieldAddr fa45_2 rfl) <| SL.v (op_load ty37 rfl (by repeat constructor) rfl) ?_
    refine SL.v (op_lenS Tryz.underlying37 rfl) <| SL.v (op_move (v := .int .i64 ((0 : Nat) : Int)) rfl) <| SL.nil <| T.block <| T.loopW (fun m env own X' => ∃ i : Nat, m = ns.length - i ∧ i ≤ ns.length ∧ X1.le X' ∧ (∀ q x, q < i → ns[q]? = some x → validS x) ∧ env = [(1, .pointer (some ⟨B1, 0, none⟩)), (60, .slice An ns.length cn), (61, .int .i64 (ns.length : Int)), (62, .int .i64 (i : Int))] ∧ own = [⟨B1, [.int .i64 (op : Int), .int .i64 n, .slice An ns.length cn, .slice Aa k ca], 45, 4⟩]) ns.length ⟨0, by simp, by omega, PMap.le_refl _, fun q x hq => absurd hq (by omega), rfl, rfl⟩ (by repeat (first | exact Sub.nil | refine Sub.cons rfl ?_)) ?_
    rintro m _ _ X2 ⟨i, rfl, hi, hX2, hne, rfl, rfl⟩
    rcases Nat.lt_or_ge i ns.length with hil | hil
    · obtain ⟨x, hx⟩ : ∃ x, ns[i]? = some x := ⟨_, List.getElem?_eq_getElem hil⟩
      obtain ⟨b, pre, rfl, hB⟩ := hn.blk (by omega)
      refine T.seq <| T.region <| SL.v (op_lssT rfl rfl (by omega)) ?_
      refine SL.nil <| T.seq <| T.condT rfl <| T.skip <| T.seq <| T.block <| T.seq <| T.region <| SL.v (op_indexN Tryz.underlying37 ty9 rfl rfl (by omega)) ?_
      refine SL.v (op_loadX ty9 rfl ((hB.mono hX1).mono hX2) (str_read hx (by omega))) ?_
      refine SL.as rfl <| SL.nil <| T.seq <| T.region <| SL.mv rfl <| SL.w (op_callF en124 (vs := [_]) rfl (rvalid_spec)) ?_
      rintro _ _ X3 ⟨rfl, hX3, rfl⟩
      by_cases hc : validS x
      · rw [decide_eq_true hc]
        refine SL.v (op_not rfl) <| SL.nil <| T.condF rfl <| T.skip <| T.blk <| T.region <| SL.v (op_addN (q := 1) rfl rfl (by omega)) ?_
        refine SL.mv rfl <| SL.nil ?_
        have hne2 : ∀ (q : Nat) (y : ByteArray), q < i + 1 → ns[q]? = some y → validS y := fun q y hq hy => by
          rcases Nat.lt_or_ge q i with h1 | h1
          · exact hne q y h1 hy
          · obtain rfl : q = i := by omega
            rw [hx] at hy; cases hy; exact hc
        exact T.backW (ns.length - (i + 1)) (by omega) ⟨i + 1, rfl, by omega, hX2.trans' hX3, hne2, rfl, rfl⟩ (by repeat (first | exact Sub.nil | refine Sub.cons rfl ?_))
      · rw [decide_eq_false hc]
        refine SL.v (op_not rfl) <| SL.nil <| T.condT rfl <| T.seq <| T.region <| SL.v (op_assign (v := .int .i64 ((9 : Nat) : Int)) rfl) <| SL.nil <| T.ret1 rfl (ResIs.tmp rfl) ?_
        rw [own9 hA1 hA2 fun h => hc (h x (List.mem_of_getElem? hx))]; rfl
    · have hv : ∀ s ∈ ns, validS s := fun s hs => by
        obtain ⟨q, hq⟩ := List.mem_iff_getElem?.1 hs
        have h1 := (List.getElem?_eq_some_iff.1 hq).1
        exact hne q s (by omega) hq
      refine T.seq <| T.region <| SL.v (op_lssF rfl rfl (by omega)) ?_
      refine SL.nil <| T.seq <| T.condF rfl ?_
      refine T.exit (T.exitCode (T.exitCut (T.exitBlk ?_)))
      refine T.seq <| T.seq <| T.region <| SL.v (op_fieldAddr fa45_2 rfl) <| SL.v (op_load ty37 rfl (by repeat constructor) rfl) ?_
      refine SL.v (op_lenS Tryz.underlying37 rfl) <| SL.v (op_move (v := .int .i64 ((0 : Nat) : Int)) rfl) <| SL.nil <| T.block <| T.loopW (fun m env own X' => ∃ i : Nat, m = ns.length - i ∧ i ≤ ns.length ∧ X2.le X' ∧ (ns.take i).Nodup ∧ env = [(1, .pointer (some ⟨B1, 0, none⟩)), (71, .slice An ns.length cn), (72, .int .i64 (ns.length : Int)), (73, .int .i64 (i : Int))] ∧ own = [⟨B1, [.int .i64 (op : Int), .int .i64 n, .slice An ns.length cn, .slice Aa k ca], 45, 4⟩]) ns.length ⟨0, by simp, by omega, PMap.le_refl _, by simp, rfl, rfl⟩ (by repeat (first | exact Sub.nil | refine Sub.cons rfl ?_)) ?_
      rintro m _ _ X4 ⟨j, rfl, hj, hX4, hnd, rfl, rfl⟩
      rcases Nat.lt_or_ge j ns.length with hjl | hjl
      · obtain ⟨x, hx⟩ : ∃ x, ns[j]? = some x := ⟨_, List.getElem?_eq_getElem hjl⟩
        have htk := hn.take (sz := 1) (k := j) (by omega)
        obtain ⟨b, pre, rfl, hB⟩ := hn.blk (by omega)
        have hX14 := hX1.trans' (hX2.trans' hX4)
        refine T.seq <| T.region <| SL.v (op_lssT rfl rfl (by omega)) ?_
        refine SL.nil <| T.seq <| T.condT rfl <| T.skip <| T.seq <| T.block <| T.seq <| T.region <| SL.mv rfl <| SL.v (op_indexN Tryz.underlying37 ty9 rfl rfl (by omega)) ?_
        refine SL.v (op_loadX ty9 rfl (hB.mono hX14) (str_read hx (by omega))) ?_
        refine SL.as rfl <| SL.as rfl <| SL.nil <| T.seq <| T.region <| SL.v (op_fieldAddr fa45_2 rfl) <| SL.v (op_load ty37 rfl (by repeat constructor) rfl) ?_
        refine SL.mv rfl <| SL.v (op_sliceHi (l := j) Tryz.underlying37 ty9 rfl rfl (by omega)) ?_
        refine SL.mv rfl ?_
        have hcall := number_spec8 (s := x) (htk.mono hX14) (by rw [List.length_take]; omega)
        refine SL.w (op_callF en125 (vs := [_, _]) rfl (hcall)) ?_
        rintro _ _ X5 ⟨rfl, hX5, z, rfl, hz1, hz2⟩
        by_cases hc : x ∈ ns.take j
        · have hz := hz1.2 hc
          refine SL.v (op_gtrT rfl rfl (by omega)) ?_
          refine SL.nil <| T.condT rfl <| T.seq <| T.region <| SL.v (op_assign (v := .int .i64 ((5 : Nat) : Int)) rfl) <| SL.nil <| T.ret1 rfl (ResIs.tmp rfl) ?_
          rw [own5 hA1 hA2 hv fun h => by
            have h2 := h.sublist (List.take_sublist (j + 1) ns)
            rw [take_snoc hx, List.nodup_append] at h2
            exact h2.2.2 x hc x (by simp) rfl]; rfl
        · have hz : ¬0 < z := fun h => hc (hz1.1 h)
          refine SL.v (op_gtrF rfl rfl (by omega)) ?_
          refine SL.nil <| T.condF rfl <| T.skip <| T.blk <| T.region <| SL.v (op_addN (q := 1) rfl rfl (by omega)) ?_
          refine SL.mv rfl <| SL.nil ?_
          have hnd2 : (ns.take (j + 1)).Nodup := by
            rw [take_snoc hx, List.nodup_append]
            exact ⟨hnd, by simp, fun a ha b hb => by
              obtain rfl := List.mem_singleton.1 hb
              exact fun h => hc (h ▸ ha)⟩
          exact T.backW (ns.length - (j + 1)) (by omega) ⟨j + 1, rfl, by omega, hX4.trans' hX5, hnd2, rfl, rfl⟩ (by repeat (first | exact Sub.nil | refine Sub.cons rfl ?_))
      · rw [List.take_of_length_le (by omega)] at hnd
        refine T.seq <| T.region <| SL.v (op_lssF rfl rfl (by omega)) ?_
        refine SL.nil <| T.seq <| T.condF rfl ?_
        refine T.exit (T.exitCode (T.exitCut (T.exitBlk ?_)))
        refine T.seq <| T.seq <| T.region <| SL.v (op_fieldAddr fa45_1 rfl) <| SL.v (op_load ty3 rfl (by repeat constructor) rfl) ?_
        refine SL.v (op_lssF rfl rfl (by omega)) ?_
        refine SL.mv rfl <| SL.v (op_fieldAddr fa45_1 rfl) <| SL.v (op_load ty3 rfl (by repeat constructor) rfl) ?_
        refine SL.v (op_gtrF rfl rfl (by omega)) ?_
        refine SL.v (op_pickF rfl rfl) <| SL.nil <| T.condF rfl <| T.skip <| T.seq <| T.region <| SL.v (op_assign (v := .int .i64 ((0 : Nat) : Int)) rfl) <| SL.nil <| T.ret1 rfl (ResIs.tmp rfl) ?_
        rw [own0' hA1 hA2 hv hnd (by omega)]; rfl
  by_cases h6 : op = 6
  · by_cases hl0 : ns.length < 1
    · have hnm : ¬namN op ns.length := by
        have hq : ∀ q : Nat, q < 1 → ¬namN op q := fun q hq h => by simp [namN, h6] at h; omega
        exact hq _ (by omega)
      refine Spec.enter Tryz.func119 rfl Tryz.ntmps119 rfl ?_
      intro w0 hw0
      refine T.seq <| T.region <| SL.w (op_box rfl) ?_
      rintro _ _ _ ⟨B1, rfl, rfl, rfl⟩
      refine SL.v (op_assign (v := .int .i64 ((0 : Nat) : Int)) rfl) <| SL.nil <| T.seq <| T.seq <| T.draw (by kernel_rfl) 17 [.t 0, .t 1, .t 2, .t 3, .t 4, .t 5, .t 6, .t 7, .t 8, .t 9, .t 10, .t 11, .t 12, .t 13, .r 14, .t 15, .t 16] (by kernel_rfl) ?_
      refine SD.take rfl panicBody (op_fieldAddr fa45_0 rfl) rfl rfl ?_
      refine SD.take rfl panicBody (op_load ty3 rfl (by repeat constructor) rfl) rfl rfl ?_
      refine SD.take rfl panicBody (op_lssF rfl rfl (by omega)) rfl rfl ?_
      refine SD.take rfl panicBody (op_move rfl) rfl rfl ?_
      refine SD.take rfl panicBody (op_fieldAddr fa45_0 rfl) rfl rfl ?_
      refine SD.take rfl panicBody (op_load ty3 rfl (by repeat constructor) rfl) rfl rfl ?_
      refine SD.take rfl panicBody (op_gtrF rfl rfl (by omega)) rfl rfl ?_
      refine SD.take rfl panicBody (op_pickF rfl rfl) rfl rfl ?_
      refine SD.take rfl panicBody (op_move rfl) rfl rfl ?_
      refine SD.take rfl panicBody (op_fieldAddr fa45_3 rfl) rfl rfl ?_
      refine SD.take rfl panicBody (op_load ty43 rfl (by repeat constructor) rfl) rfl rfl ?_
      refine SD.take rfl panicBody (op_lenS Tryz.underlying43 rfl) rfl rfl ?_
      refine SD.take rfl panicBody (op_fieldAddr fa45_0 rfl) rfl rfl ?_
      refine SD.take rfl panicBody (op_load ty3 rfl (by repeat constructor) rfl) rfl rfl ?_
      refine SD.run rfl (op_callF en112 (vs := [_]) rfl (rargN_spec)) rfl rfl ?_
      rintro _ _ X1 ⟨rfl, hX1, rfl⟩
      refine SD.take rfl panicBody (op_neqF rfl rfl (by omega)) rfl rfl ?_
      refine SD.take rfl panicBody (op_pickF rfl rfl) rfl rfl ?_
      refine SD.nil ?_
      show SL _ _ _ _ _ _ _ [] _ _ _
      refine SL.nil <| T.condF rfl <| T.skip <| T.seq <| T.region <| SL.v (op_assign (v := .int .i64 ((0 : Nat) : Int)) rfl) <| SL.v (op_assign (v := .int .i64 ((0 : Nat) : Int)) rfl) <| SL.nil <| T.seq <| T.seq <| T.region <| SL.v (op_fieldAddr fa45_0 rfl) <| SL.v (op_load ty3 rfl (by repeat constructor) rfl) ?_
      refine SL.v (op_eqlF rfl rfl (by omega)) ?_
      refine SL.mv rfl <| SL.v (op_fieldAddr fa45_0 rfl) <| SL.v (op_load ty3 rfl (by repeat constructor) rfl) ?_
      refine SL.v (op_eqlT rfl rfl (by omega)) ?_
      refine SL.v (op_pickF rfl rfl) <| SL.nil <| T.condT rfl <| T.region <| SL.v (op_assign (v := .int .i64 ((1 : Nat) : Int)) rfl) <| SL.v (op_assign (v := .int .i64 ((1 : Nat) : Int)) rfl) <| SL.nil <| T.seq <| T.seq <| T.region <| SL.v (op_fieldAddr fa45_0 rfl) <| SL.v (op_load ty3 rfl (by repeat constructor) rfl) ?_
      refine SL.v (op_eqlF rfl rfl (by omega)) ?_
      refine SL.nil <| T.condF rfl <| T.skip <| T.seq <| T.seq <| T.region <| SL.v (op_fieldAddr fa45_0 rfl) <| SL.v (op_load ty3 rfl (by repeat constructor) rfl) ?_
      refine SL.v (op_neqT rfl rfl (by omega)) ?_
      refine SL.mv rfl <| SL.v (op_fieldAddr fa45_1 rfl) <| SL.v (op_load ty3 rfl (by repeat constructor) rfl) ?_
      refine SL.v (op_neqF rfl rfl (by omega)) ?_
      refine SL.v (op_pickT rfl rfl) <| SL.mv rfl <| SL.v (op_fieldAddr fa45_2 rfl) <| SL.v (op_load ty37 rfl (by repeat constructor) rfl) ?_
      refine SL.v (op_lenS Tryz.underlying37 rfl) <| SL.mv rfl <| SL.v (op_lssT rfl rfl (by omega)) ?_
      refine SL.v (op_pickF rfl rfl) <| SL.mv rfl <| SL.skip rfl rfl ?_
      refine SL.skip rfl rfl ?_
      refine SL.skip rfl rfl ?_
      refine SL.skip rfl rfl ?_
      refine SL.skip rfl rfl ?_
      refine SL.v (op_pickT rfl rfl) <| SL.nil <| T.condT rfl <| T.seq <| T.region <| SL.v (op_assign (v := .int .i64 ((6 : Nat) : Int)) rfl) <| SL.nil <| T.ret1 rfl (ResIs.tmp rfl) ?_
      rw [own6 hA1 (.inr hnm)]; rfl

    by_cases hl323 : 1 < ns.length
    · have hnm : ¬namN op ns.length := by
        have hq : ∀ q : Nat, 1 < q → ¬namN op q := fun q hq h => by simp [namN, h6] at h; omega
        exact hq _ (by omega)
      refine Spec.enter Tryz.func119 rfl Tryz.ntmps119 rfl ?_
      intro w0 hw0
      refine T.seq <| T.region <| SL.w (op_box rfl) ?_
      rintro _ _ _ ⟨B1, rfl, rfl, rfl⟩
      refine SL.v (op_assign (v := .int .i64 ((0 : Nat) : Int)) rfl) <| SL.nil <| T.seq <| T.seq <| T.draw (by kernel_rfl) 17 [.t 0, .t 1, .t 2, .t 3, .t 4, .t 5, .t 6, .t 7, .t 8, .t 9, .t 10, .t 11, .t 12, .t 13, .r 14, .t 15, .t 16] (by kernel_rfl) ?_
      refine SD.take rfl panicBody (op_fieldAddr fa45_0 rfl) rfl rfl ?_
      refine SD.take rfl panicBody (op_load ty3 rfl (by repeat constructor) rfl) rfl rfl ?_
      refine SD.take rfl panicBody (op_lssF rfl rfl (by omega)) rfl rfl ?_
      refine SD.take rfl panicBody (op_move rfl) rfl rfl ?_
      refine SD.take rfl panicBody (op_fieldAddr fa45_0 rfl) rfl rfl ?_
      refine SD.take rfl panicBody (op_load ty3 rfl (by repeat constructor) rfl) rfl rfl ?_
      refine SD.take rfl panicBody (op_gtrF rfl rfl (by omega)) rfl rfl ?_
      refine SD.take rfl panicBody (op_pickF rfl rfl) rfl rfl ?_
      refine SD.take rfl panicBody (op_move rfl) rfl rfl ?_
      refine SD.take rfl panicBody (op_fieldAddr fa45_3 rfl) rfl rfl ?_
      refine SD.take rfl panicBody (op_load ty43 rfl (by repeat constructor) rfl) rfl rfl ?_
      refine SD.take rfl panicBody (op_lenS Tryz.underlying43 rfl) rfl rfl ?_
      refine SD.take rfl panicBody (op_fieldAddr fa45_0 rfl) rfl rfl ?_
      refine SD.take rfl panicBody (op_load ty3 rfl (by repeat constructor) rfl) rfl rfl ?_
      refine SD.run rfl (op_callF en112 (vs := [_]) rfl (rargN_spec)) rfl rfl ?_
      rintro _ _ X1 ⟨rfl, hX1, rfl⟩
      refine SD.take rfl panicBody (op_neqF rfl rfl (by omega)) rfl rfl ?_
      refine SD.take rfl panicBody (op_pickF rfl rfl) rfl rfl ?_
      refine SD.nil ?_
      show SL _ _ _ _ _ _ _ [] _ _ _
      refine SL.nil <| T.condF rfl <| T.skip <| T.seq <| T.region <| SL.v (op_assign (v := .int .i64 ((0 : Nat) : Int)) rfl) <| SL.v (op_assign (v := .int .i64 ((0 : Nat) : Int)) rfl) <| SL.nil <| T.seq <| T.seq <| T.region <| SL.v (op_fieldAddr fa45_0 rfl) <| SL.v (op_load ty3 rfl (by repeat constructor) rfl) ?_
      refine SL.v (op_eqlF rfl rfl (by omega)) ?_
      refine SL.mv rfl <| SL.v (op_fieldAddr fa45_0 rfl) <| SL.v (op_load ty3 rfl (by repeat constructor) rfl) ?_
      refine SL.v (op_eqlT rfl rfl (by omega)) ?_
      refine SL.v (op_pickF rfl rfl) <| SL.nil <| T.condT rfl <| T.region <| SL.v (op_assign (v := .int .i64 ((1 : Nat) : Int)) rfl) <| SL.v (op_assign (v := .int .i64 ((1 : Nat) : Int)) rfl) <| SL.nil <| T.seq <| T.seq <| T.region <| SL.v (op_fieldAddr fa45_0 rfl) <| SL.v (op_load ty3 rfl (by repeat constructor) rfl) ?_
      refine SL.v (op_eqlF rfl rfl (by omega)) ?_
      refine SL.nil <| T.condF rfl <| T.skip <| T.seq <| T.seq <| T.region <| SL.v (op_fieldAddr fa45_0 rfl) <| SL.v (op_load ty3 rfl (by repeat constructor) rfl) ?_
      refine SL.v (op_neqT rfl rfl (by omega)) ?_
      refine SL.mv rfl <| SL.v (op_fieldAddr fa45_1 rfl) <| SL.v (op_load ty3 rfl (by repeat constructor) rfl) ?_
      refine SL.v (op_neqF rfl rfl (by omega)) ?_
      refine SL.v (op_pickT rfl rfl) <| SL.mv rfl <| SL.v (op_fieldAddr fa45_2 rfl) <| SL.v (op_load ty37 rfl (by repeat constructor) rfl) ?_
      refine SL.v (op_lenS Tryz.underlying37 rfl) <| SL.mv rfl <| SL.v (op_lssF rfl rfl (by omega)) ?_
      refine SL.v (op_pickF rfl rfl) <| SL.mv rfl <| SL.v (op_fieldAddr fa45_2 rfl) <| SL.v (op_load ty37 rfl (by repeat constructor) rfl) ?_
      refine SL.v (op_lenS Tryz.underlying37 rfl) <| SL.mv rfl <| SL.v (op_gtrT rfl rfl (by omega)) ?_
      refine SL.v (op_pickF rfl rfl) <| SL.nil <| T.condT rfl <| T.seq <| T.region <| SL.v (op_assign (v := .int .i64 ((6 : Nat) : Int)) rfl) <| SL.nil <| T.ret1 rfl (ResIs.tmp rfl) ?_
      rw [own6 hA1 (.inr hnm)]; rfl

    have hnm : namN op ns.length := by
      have hq : ∀ q : Nat, 1 ≤ q ∧ q ≤ 1 → namN op q := fun q hq => by simp [namN, h6]; omega
      exact hq _ (by omega)
    have hA2 : ¬((n ≠ 0 ∧ op ≠ 1) ∨ ¬namN op ns.length) := fun h => h.elim (fun h => hNN h) (fun h => h hnm)
    refine Spec.enter Tryz.func119 rfl Tryz.ntmps119 rfl ?_
    intro w0 hw0
    refine T.seq <| T.region <| SL.w (op_box rfl) ?_
    rintro _ _ _ ⟨B1, rfl, rfl, rfl⟩
    refine SL.v (op_assign (v := .int .i64 ((0 : Nat) : Int)) rfl) <| SL.nil <| T.seq <| T.seq <| T.draw (by kernel_rfl) 17 [.t 0, .t 1, .t 2, .t 3, .t 4, .t 5, .t 6, .t 7, .t 8, .t 9, .t 10, .t 11, .t 12, .t 13, .r 14, .t 15, .t 16] (by kernel_rfl) ?_
    refine SD.take rfl panicBody (op_fieldAddr fa45_0 rfl) rfl rfl ?_
    refine SD.take rfl panicBody (op_load ty3 rfl (by repeat constructor) rfl) rfl rfl ?_
    refine SD.take rfl panicBody (op_lssF rfl rfl (by omega)) rfl rfl ?_
    refine SD.take rfl panicBody (op_move rfl) rfl rfl ?_
    refine SD.take rfl panicBody (op_fieldAddr fa45_0 rfl) rfl rfl ?_
    refine SD.take rfl panicBody (op_load ty3 rfl (by repeat constructor) rfl) rfl rfl ?_
    refine SD.take rfl panicBody (op_gtrF rfl rfl (by omega)) rfl rfl ?_
    refine SD.take rfl panicBody (op_pickF rfl rfl) rfl rfl ?_
    refine SD.take rfl panicBody (op_move rfl) rfl rfl ?_
    refine SD.take rfl panicBody (op_fieldAddr fa45_3 rfl) rfl rfl ?_
    refine SD.take rfl panicBody (op_load ty43 rfl (by repeat constructor) rfl) rfl rfl ?_
    refine SD.take rfl panicBody (op_lenS Tryz.underlying43 rfl) rfl rfl ?_
    refine SD.take rfl panicBody (op_fieldAddr fa45_0 rfl) rfl rfl ?_
    refine SD.take rfl panicBody (op_load ty3 rfl (by repeat constructor) rfl) rfl rfl ?_
    refine SD.run rfl (op_callF en112 (vs := [_]) rfl (rargN_spec)) rfl rfl ?_
    rintro _ _ X1 ⟨rfl, hX1, rfl⟩
    refine SD.take rfl panicBody (op_neqF rfl rfl (by omega)) rfl rfl ?_
    refine SD.take rfl panicBody (op_pickF rfl rfl) rfl rfl ?_
    refine SD.nil ?_
    show SL _ _ _ _ _ _ _ [] _ _ _
    refine SL.nil <| T.condF rfl <| T.skip <| T.seq <| T.region <| SL.v (op_assign (v := .int .i64 ((0 : Nat) : Int)) rfl) <| SL.v (op_assign (v := .int .i64 ((0 : Nat) : Int)) rfl) <| SL.nil <| T.seq <| T.seq <| T.region <| SL.v (op_fieldAddr fa45_0 rfl) <| SL.v (op_load ty3 rfl (by repeat constructor) rfl) ?_
    refine SL.v (op_eqlF rfl rfl (by omega)) ?_
    refine SL.mv rfl <| SL.v (op_fieldAddr fa45_0 rfl) <| SL.v (op_load ty3 rfl (by repeat constructor) rfl) ?_
    refine SL.v (op_eqlT rfl rfl (by omega)) ?_
    refine SL.v (op_pickF rfl rfl) <| SL.nil <| T.condT rfl <| T.region <| SL.v (op_assign (v := .int .i64 ((1 : Nat) : Int)) rfl) <| SL.v (op_assign (v := .int .i64 ((1 : Nat) : Int)) rfl) <| SL.nil <| T.seq <| T.seq <| T.region <| SL.v (op_fieldAddr fa45_0 rfl) <| SL.v (op_load ty3 rfl (by repeat constructor) rfl) ?_
    refine SL.v (op_eqlF rfl rfl (by omega)) ?_
    refine SL.nil <| T.condF rfl <| T.skip <| T.seq <| T.seq <| T.region <| SL.v (op_fieldAddr fa45_0 rfl) <| SL.v (op_load ty3 rfl (by repeat constructor) rfl) ?_
    refine SL.v (op_neqT rfl rfl (by omega)) ?_
    refine SL.mv rfl <| SL.v (op_fieldAddr fa45_1 rfl) <| SL.v (op_load ty3 rfl (by repeat constructor) rfl) ?_
    refine SL.v (op_neqF rfl rfl (by omega)) ?_
    refine SL.v (op_pickT rfl rfl) <| SL.mv rfl <| SL.v (op_fieldAddr fa45_2 rfl) <| SL.v (op_load ty37 rfl (by repeat constructor) rfl) ?_
    refine SL.v (op_lenS Tryz.underlying37 rfl) <| SL.mv rfl <| SL.v (op_lssF rfl rfl (by omega)) ?_
    refine SL.v (op_pickF rfl rfl) <| SL.mv rfl <| SL.v (op_fieldAddr fa45_2 rfl) <| SL.v (op_load ty37 rfl (by repeat constructor) rfl) ?_
    refine SL.v (op_lenS Tryz.underlying37 rfl) <| SL.mv rfl <| SL.v (op_gtrF rfl rfl (by omega)) ?_
    refine SL.v (op_pickF rfl rfl) <| SL.nil <| T.condF rfl <| T.skip <| T.seq <| T.seq <| T.region <| SL.v (op_fieldAddr fa45_2 rfl) <| SL.v (op_load ty37 rfl (by repeat constructor) rfl) ?_
    refine SL.v (op_lenS Tryz.underlying37 rfl) <| SL.v (op_move (v := .int .i64 ((0 : Nat) : Int)) rfl) <| SL.nil <| T.block <| T.loopW (fun m env own X' => ∃ i : Nat, m = ns.length - i ∧ i ≤ ns.length ∧ X1.le X' ∧ (∀ q x, q < i → ns[q]? = some x → validS x) ∧ env = [(1, .pointer (some ⟨B1, 0, none⟩)), (60, .slice An ns.length cn), (61, .int .i64 (ns.length : Int)), (62, .int .i64 (i : Int))] ∧ own = [⟨B1, [.int .i64 (op : Int), .int .i64 n, .slice An ns.length cn, .slice Aa k ca], 45, 4⟩]) ns.length ⟨0, by simp, by omega, PMap.le_refl _, fun q x hq => absurd hq (by omega), rfl, rfl⟩ (by repeat (first | exact Sub.nil | refine Sub.cons rfl ?_)) ?_
    rintro m _ _ X2 ⟨i, rfl, hi, hX2, hne, rfl, rfl⟩
    rcases Nat.lt_or_ge i ns.length with hil | hil
    · obtain ⟨x, hx⟩ : ∃ x, ns[i]? = some x := ⟨_, List.getElem?_eq_getElem hil⟩
      obtain ⟨b, pre, rfl, hB⟩ := hn.blk (by omega)
      refine T.seq <| T.region <| SL.v (op_lssT rfl rfl (by omega)) ?_
      refine SL.nil <| T.seq <| T.condT rfl <| T.skip <| T.seq <| T.block <| T.seq <| T.region <| SL.v (op_indexN Tryz.underlying37 ty9 rfl rfl (by omega)) ?_
      refine SL.v (op_loadX ty9 rfl ((hB.mono hX1).mono hX2) (str_read hx (by omega))) ?_
      refine SL.as rfl <| SL.nil <| T.seq <| T.region <| SL.mv rfl <| SL.w (op_callF en124 (vs := [_]) rfl (rvalid_spec)) ?_
      rintro _ _ X3 ⟨rfl, hX3, rfl⟩
      by_cases hc : validS x
      · rw [decide_eq_true hc]
        refine SL.v (op_not rfl) <| SL.nil <| T.condF rfl <| T.skip <| T.blk <| T.region <| SL.v (op_addN (q := 1) rfl rfl (by omega)) ?_
        refine SL.mv rfl <| SL.nil ?_
        have hne2 : ∀ (q : Nat) (y : ByteArray), q < i + 1 → ns[q]? = some y → validS y := fun q y hq hy => by
          rcases Nat.lt_or_ge q i with h1 | h1
          · exact hne q y h1 hy
          · obtain rfl : q = i := by omega
            rw [hx] at hy; cases hy; exact hc
        exact T.backW (ns.length - (i + 1)) (by omega) ⟨i + 1, rfl, by omega, hX2.trans' hX3, hne2, rfl, rfl⟩ (by repeat (first | exact Sub.nil | refine Sub.cons rfl ?_))
      · rw [decide_eq_false hc]
        refine SL.v (op_not rfl) <| SL.nil <| T.condT rfl <| T.seq <| T.region <| SL.v (op_assign (v := .int .i64 ((9 : Nat) : Int)) rfl) <| SL.nil <| T.ret1 rfl (ResIs.tmp rfl) ?_
        rw [own9 hA1 hA2 fun h => hc (h x (List.mem_of_getElem? hx))]; rfl
    · have hv : ∀ s ∈ ns, validS s := fun s hs => by
        obtain ⟨q, hq⟩ := List.mem_iff_getElem?.1 hs
        have h1 := (List.getElem?_eq_some_iff.1 hq).1
        exact hne q s (by omega) hq
      refine T.seq <| T.region <| SL.v (op_lssF rfl rfl (by omega)) ?_
      refine SL.nil <| T.seq <| T.condF rfl ?_
      refine T.exit (T.exitCode (T.exitCut (T.exitBlk ?_)))
      refine T.seq <| T.seq <| T.region <| SL.v (op_fieldAddr fa45_2 rfl) <| SL.v (op_load ty37 rfl (by repeat constructor) rfl) ?_
      refine SL.v (op_lenS Tryz.underlying37 rfl) <| SL.v (op_move (v := .int .i64 ((0 : Nat) : Int)) rfl) <| SL.nil <| T.block <| T.loopW (fun m env own X' => ∃ i : Nat, m = ns.length - i ∧ i ≤ ns.length ∧ X2.le X' ∧ (ns.take i).Nodup ∧ env = [(1, .pointer (some ⟨B1, 0, none⟩)), (71, .slice An ns.length cn), (72, .int .i64 (ns.length : Int)), (73, .int .i64 (i : Int))] ∧ own = [⟨B1, [.int .i64 (op : Int), .int .i64 n, .slice An ns.length cn, .slice Aa k ca], 45, 4⟩]) ns.length ⟨0, by simp, by omega, PMap.le_refl _, by simp, rfl, rfl⟩ (by repeat (first | exact Sub.nil | refine Sub.cons rfl ?_)) ?_
      rintro m _ _ X4 ⟨j, rfl, hj, hX4, hnd, rfl, rfl⟩
      rcases Nat.lt_or_ge j ns.length with hjl | hjl
      · obtain ⟨x, hx⟩ : ∃ x, ns[j]? = some x := ⟨_, List.getElem?_eq_getElem hjl⟩
        have htk := hn.take (sz := 1) (k := j) (by omega)
        obtain ⟨b, pre, rfl, hB⟩ := hn.blk (by omega)
        have hX14 := hX1.trans' (hX2.trans' hX4)
        refine T.seq <| T.region <| SL.v (op_lssT rfl rfl (by omega)) ?_
        refine SL.nil <| T.seq <| T.condT rfl <| T.skip <| T.seq <| T.block <| T.seq <| T.region <| SL.mv rfl <| SL.v (op_indexN Tryz.underlying37 ty9 rfl rfl (by omega)) ?_
        refine SL.v (op_loadX ty9 rfl (hB.mono hX14) (str_read hx (by omega))) ?_
        refine SL.as rfl <| SL.as rfl <| SL.nil <| T.seq <| T.region <| SL.v (op_fieldAddr fa45_2 rfl) <| SL.v (op_load ty37 rfl (by repeat constructor) rfl) ?_
        refine SL.mv rfl <| SL.v (op_sliceHi (l := j) Tryz.underlying37 ty9 rfl rfl (by omega)) ?_
        refine SL.mv rfl ?_
        have hcall := number_spec8 (s := x) (htk.mono hX14) (by rw [List.length_take]; omega)
        refine SL.w (op_callF en125 (vs := [_, _]) rfl (hcall)) ?_
        rintro _ _ X5 ⟨rfl, hX5, z, rfl, hz1, hz2⟩
        by_cases hc : x ∈ ns.take j
        · have hz := hz1.2 hc
          refine SL.v (op_gtrT rfl rfl (by omega)) ?_
          refine SL.nil <| T.condT rfl <| T.seq <| T.region <| SL.v (op_assign (v := .int .i64 ((5 : Nat) : Int)) rfl) <| SL.nil <| T.ret1 rfl (ResIs.tmp rfl) ?_
          rw [own5 hA1 hA2 hv fun h => by
            have h2 := h.sublist (List.take_sublist (j + 1) ns)
            rw [take_snoc hx, List.nodup_append] at h2
            exact h2.2.2 x hc x (by simp) rfl]; rfl
        · have hz : ¬0 < z := fun h => hc (hz1.1 h)
          refine SL.v (op_gtrF rfl rfl (by omega)) ?_
          refine SL.nil <| T.condF rfl <| T.skip <| T.blk <| T.region <| SL.v (op_addN (q := 1) rfl rfl (by omega)) ?_
          refine SL.mv rfl <| SL.nil ?_
          have hnd2 : (ns.take (j + 1)).Nodup := by
            rw [take_snoc hx, List.nodup_append]
            exact ⟨hnd, by simp, fun a ha b hb => by
              obtain rfl := List.mem_singleton.1 hb
              exact fun h => hc (h ▸ ha)⟩
          exact T.backW (ns.length - (j + 1)) (by omega) ⟨j + 1, rfl, by omega, hX4.trans' hX5, hnd2, rfl, rfl⟩ (by repeat (first | exact Sub.nil | refine Sub.cons rfl ?_))
      · rw [List.take_of_length_le (by omega)] at hnd
        refine T.seq <| T.region <| SL.v (op_lssF rfl rfl (by omega)) ?_
        refine SL.nil <| T.seq <| T.condF rfl ?_
        refine T.exit (T.exitCode (T.exitCut (T.exitBlk ?_)))
        refine T.seq <| T.seq <| T.region <| SL.v (op_fieldAddr fa45_1 rfl) <| SL.v (op_load ty3 rfl (by repeat constructor) rfl) ?_
        refine SL.v (op_lssF rfl rfl (by omega)) ?_
        refine SL.mv rfl <| SL.v (op_fieldAddr fa45_1 rfl) <| SL.v (op_load ty3 rfl (by repeat constructor) rfl) ?_
        refine SL.v (op_gtrF rfl rfl (by omega)) ?_
        refine SL.v (op_pickF rfl rfl) <| SL.nil <| T.condF rfl <| T.skip <| T.seq <| T.region <| SL.v (op_assign (v := .int .i64 ((0 : Nat) : Int)) rfl) <| SL.nil <| T.ret1 rfl (ResIs.tmp rfl) ?_
        rw [own0' hA1 hA2 hv hnd (by omega)]; rfl
  by_cases h5 : op = 5
  · by_cases hl0 : ns.length < 1
    · have hnm : ¬namN op ns.length := by
        have hq : ∀ q : Nat, q < 1 → ¬namN op q := fun q hq h => by simp [namN, h5] at h; omega
        exact hq _ (by omega)
      refine Spec.enter Tryz.func119 rfl Tryz.ntmps119 rfl ?_
      intro w0 hw0
      refine T.seq <| T.region <| SL.w (op_box rfl) ?_
      rintro _ _ _ ⟨B1, rfl, rfl, rfl⟩
      refine SL.v (op_assign (v := .int .i64 ((0 : Nat) : Int)) rfl) <| SL.nil <| T.seq <| T.seq <| T.draw (by kernel_rfl) 17 [.t 0, .t 1, .t 2, .t 3, .t 4, .t 5, .t 6, .t 7, .t 8, .t 9, .t 10, .t 11, .t 12, .t 13, .r 14, .t 15, .t 16] (by kernel_rfl) ?_
      refine SD.take rfl panicBody (op_fieldAddr fa45_0 rfl) rfl rfl ?_
      refine SD.take rfl panicBody (op_load ty3 rfl (by repeat constructor) rfl) rfl rfl ?_
      refine SD.take rfl panicBody (op_lssF rfl rfl (by omega)) rfl rfl ?_
      refine SD.take rfl panicBody (op_move rfl) rfl rfl ?_
      refine SD.take rfl panicBody (op_fieldAddr fa45_0 rfl) rfl rfl ?_
      refine SD.take rfl panicBody (op_load ty3 rfl (by repeat constructor) rfl) rfl rfl ?_
      refine SD.take rfl panicBody (op_gtrF rfl rfl (by omega)) rfl rfl ?_
      refine SD.take rfl panicBody (op_pickF rfl rfl) rfl rfl ?_
      refine SD.take rfl panicBody (op_move rfl) rfl rfl ?_
      refine SD.take rfl panicBody (op_fieldAddr fa45_3 rfl) rfl rfl ?_
      refine SD.take rfl panicBody (op_load ty43 rfl (by repeat constructor) rfl) rfl rfl ?_
      refine SD.take rfl panicBody (op_lenS Tryz.underlying43 rfl) rfl rfl ?_
      refine SD.take rfl panicBody (op_fieldAddr fa45_0 rfl) rfl rfl ?_
      refine SD.take rfl panicBody (op_load ty3 rfl (by repeat constructor) rfl) rfl rfl ?_
      refine SD.run rfl (op_callF en112 (vs := [_]) rfl (rargN_spec)) rfl rfl ?_
      rintro _ _ X1 ⟨rfl, hX1, rfl⟩
      refine SD.take rfl panicBody (op_neqF rfl rfl (by omega)) rfl rfl ?_
      refine SD.take rfl panicBody (op_pickF rfl rfl) rfl rfl ?_
      refine SD.nil ?_
      show SL _ _ _ _ _ _ _ [] _ _ _
      refine SL.nil <| T.condF rfl <| T.skip <| T.seq <| T.region <| SL.v (op_assign (v := .int .i64 ((0 : Nat) : Int)) rfl) <| SL.v (op_assign (v := .int .i64 ((0 : Nat) : Int)) rfl) <| SL.nil <| T.seq <| T.seq <| T.region <| SL.v (op_fieldAddr fa45_0 rfl) <| SL.v (op_load ty3 rfl (by repeat constructor) rfl) ?_
      refine SL.v (op_eqlF rfl rfl (by omega)) ?_
      refine SL.mv rfl <| SL.v (op_fieldAddr fa45_0 rfl) <| SL.v (op_load ty3 rfl (by repeat constructor) rfl) ?_
      refine SL.v (op_eqlF rfl rfl (by omega)) ?_
      refine SL.v (op_pickF rfl rfl) <| SL.nil <| T.condF rfl <| T.skip <| T.seq <| T.seq <| T.region <| SL.v (op_fieldAddr fa45_0 rfl) <| SL.v (op_load ty3 rfl (by repeat constructor) rfl) ?_
      refine SL.v (op_eqlT rfl rfl (by omega)) ?_
      refine SL.nil <| T.condT rfl <| T.region <| SL.v (op_assign (v := .int .i64 ((1 : Nat) : Int)) rfl) <| SL.v (op_assign (v := .int .i64 ((8 : Nat) : Int)) rfl) <| SL.nil <| T.seq <| T.seq <| T.region <| SL.v (op_fieldAddr fa45_0 rfl) <| SL.v (op_load ty3 rfl (by repeat constructor) rfl) ?_
      refine SL.v (op_neqT rfl rfl (by omega)) ?_
      refine SL.mv rfl <| SL.v (op_fieldAddr fa45_1 rfl) <| SL.v (op_load ty3 rfl (by repeat constructor) rfl) ?_
      refine SL.v (op_neqF rfl rfl (by omega)) ?_
      refine SL.v (op_pickT rfl rfl) <| SL.mv rfl <| SL.v (op_fieldAddr fa45_2 rfl) <| SL.v (op_load ty37 rfl (by repeat constructor) rfl) ?_
      refine SL.v (op_lenS Tryz.underlying37 rfl) <| SL.mv rfl <| SL.v (op_lssT rfl rfl (by omega)) ?_
      refine SL.v (op_pickF rfl rfl) <| SL.mv rfl <| SL.skip rfl rfl ?_
      refine SL.skip rfl rfl ?_
      refine SL.skip rfl rfl ?_
      refine SL.skip rfl rfl ?_
      refine SL.skip rfl rfl ?_
      refine SL.v (op_pickT rfl rfl) <| SL.nil <| T.condT rfl <| T.seq <| T.region <| SL.v (op_assign (v := .int .i64 ((6 : Nat) : Int)) rfl) <| SL.nil <| T.ret1 rfl (ResIs.tmp rfl) ?_
      rw [own6 hA1 (.inr hnm)]; rfl

    by_cases hl323 : 8 < ns.length
    · have hnm : ¬namN op ns.length := by
        have hq : ∀ q : Nat, 8 < q → ¬namN op q := fun q hq h => by simp [namN, h5] at h; omega
        exact hq _ (by omega)
      refine Spec.enter Tryz.func119 rfl Tryz.ntmps119 rfl ?_
      intro w0 hw0
      refine T.seq <| T.region <| SL.w (op_box rfl) ?_
      rintro _ _ _ ⟨B1, rfl, rfl, rfl⟩
      refine SL.v (op_assign (v := .int .i64 ((0 : Nat) : Int)) rfl) <| SL.nil <| T.seq <| T.seq <| T.draw (by kernel_rfl) 17 [.t 0, .t 1, .t 2, .t 3, .t 4, .t 5, .t 6, .t 7, .t 8, .t 9, .t 10, .t 11, .t 12, .t 13, .r 14, .t 15, .t 16] (by kernel_rfl) ?_
      refine SD.take rfl panicBody (op_fieldAddr fa45_0 rfl) rfl rfl ?_
      refine SD.take rfl panicBody (op_load ty3 rfl (by repeat constructor) rfl) rfl rfl ?_
      refine SD.take rfl panicBody (op_lssF rfl rfl (by omega)) rfl rfl ?_
      refine SD.take rfl panicBody (op_move rfl) rfl rfl ?_
      refine SD.take rfl panicBody (op_fieldAddr fa45_0 rfl) rfl rfl ?_
      refine SD.take rfl panicBody (op_load ty3 rfl (by repeat constructor) rfl) rfl rfl ?_
      refine SD.take rfl panicBody (op_gtrF rfl rfl (by omega)) rfl rfl ?_
      refine SD.take rfl panicBody (op_pickF rfl rfl) rfl rfl ?_
      refine SD.take rfl panicBody (op_move rfl) rfl rfl ?_
      refine SD.take rfl panicBody (op_fieldAddr fa45_3 rfl) rfl rfl ?_
      refine SD.take rfl panicBody (op_load ty43 rfl (by repeat constructor) rfl) rfl rfl ?_
      refine SD.take rfl panicBody (op_lenS Tryz.underlying43 rfl) rfl rfl ?_
      refine SD.take rfl panicBody (op_fieldAddr fa45_0 rfl) rfl rfl ?_
      refine SD.take rfl panicBody (op_load ty3 rfl (by repeat constructor) rfl) rfl rfl ?_
      refine SD.run rfl (op_callF en112 (vs := [_]) rfl (rargN_spec)) rfl rfl ?_
      rintro _ _ X1 ⟨rfl, hX1, rfl⟩
      refine SD.take rfl panicBody (op_neqF rfl rfl (by omega)) rfl rfl ?_
      refine SD.take rfl panicBody (op_pickF rfl rfl) rfl rfl ?_
      refine SD.nil ?_
      show SL _ _ _ _ _ _ _ [] _ _ _
      refine SL.nil <| T.condF rfl <| T.skip <| T.seq <| T.region <| SL.v (op_assign (v := .int .i64 ((0 : Nat) : Int)) rfl) <| SL.v (op_assign (v := .int .i64 ((0 : Nat) : Int)) rfl) <| SL.nil <| T.seq <| T.seq <| T.region <| SL.v (op_fieldAddr fa45_0 rfl) <| SL.v (op_load ty3 rfl (by repeat constructor) rfl) ?_
      refine SL.v (op_eqlF rfl rfl (by omega)) ?_
      refine SL.mv rfl <| SL.v (op_fieldAddr fa45_0 rfl) <| SL.v (op_load ty3 rfl (by repeat constructor) rfl) ?_
      refine SL.v (op_eqlF rfl rfl (by omega)) ?_
      refine SL.v (op_pickF rfl rfl) <| SL.nil <| T.condF rfl <| T.skip <| T.seq <| T.seq <| T.region <| SL.v (op_fieldAddr fa45_0 rfl) <| SL.v (op_load ty3 rfl (by repeat constructor) rfl) ?_
      refine SL.v (op_eqlT rfl rfl (by omega)) ?_
      refine SL.nil <| T.condT rfl <| T.region <| SL.v (op_assign (v := .int .i64 ((1 : Nat) : Int)) rfl) <| SL.v (op_assign (v := .int .i64 ((8 : Nat) : Int)) rfl) <| SL.nil <| T.seq <| T.seq <| T.region <| SL.v (op_fieldAddr fa45_0 rfl) <| SL.v (op_load ty3 rfl (by repeat constructor) rfl) ?_
      refine SL.v (op_neqT rfl rfl (by omega)) ?_
      refine SL.mv rfl <| SL.v (op_fieldAddr fa45_1 rfl) <| SL.v (op_load ty3 rfl (by repeat constructor) rfl) ?_
      refine SL.v (op_neqF rfl rfl (by omega)) ?_
      refine SL.v (op_pickT rfl rfl) <| SL.mv rfl <| SL.v (op_fieldAddr fa45_2 rfl) <| SL.v (op_load ty37 rfl (by repeat constructor) rfl) ?_
      refine SL.v (op_lenS Tryz.underlying37 rfl) <| SL.mv rfl <| SL.v (op_lssF rfl rfl (by omega)) ?_
      refine SL.v (op_pickF rfl rfl) <| SL.mv rfl <| SL.v (op_fieldAddr fa45_2 rfl) <| SL.v (op_load ty37 rfl (by repeat constructor) rfl) ?_
      refine SL.v (op_lenS Tryz.underlying37 rfl) <| SL.mv rfl <| SL.v (op_gtrT rfl rfl (by omega)) ?_
      refine SL.v (op_pickF rfl rfl) <| SL.nil <| T.condT rfl <| T.seq <| T.region <| SL.v (op_assign (v := .int .i64 ((6 : Nat) : Int)) rfl) <| SL.nil <| T.ret1 rfl (ResIs.tmp rfl) ?_
      rw [own6 hA1 (.inr hnm)]; rfl

    have hnm : namN op ns.length := by
      have hq : ∀ q : Nat, 1 ≤ q ∧ q ≤ 8 → namN op q := fun q hq => by simp [namN, h5]; omega
      exact hq _ (by omega)
    have hA2 : ¬((n ≠ 0 ∧ op ≠ 1) ∨ ¬namN op ns.length) := fun h => h.elim (fun h => hNN h) (fun h => h hnm)
    refine Spec.enter Tryz.func119 rfl Tryz.ntmps119 rfl ?_
    intro w0 hw0
    refine T.seq <| T.region <| SL.w (op_box rfl) ?_
    rintro _ _ _ ⟨B1, rfl, rfl, rfl⟩
    refine SL.v (op_assign (v := .int .i64 ((0 : Nat) : Int)) rfl) <| SL.nil <| T.seq <| T.seq <| T.draw (by kernel_rfl) 17 [.t 0, .t 1, .t 2, .t 3, .t 4, .t 5, .t 6, .t 7, .t 8, .t 9, .t 10, .t 11, .t 12, .t 13, .r 14, .t 15, .t 16] (by kernel_rfl) ?_
    refine SD.take rfl panicBody (op_fieldAddr fa45_0 rfl) rfl rfl ?_
    refine SD.take rfl panicBody (op_load ty3 rfl (by repeat constructor) rfl) rfl rfl ?_
    refine SD.take rfl panicBody (op_lssF rfl rfl (by omega)) rfl rfl ?_
    refine SD.take rfl panicBody (op_move rfl) rfl rfl ?_
    refine SD.take rfl panicBody (op_fieldAddr fa45_0 rfl) rfl rfl ?_
    refine SD.take rfl panicBody (op_load ty3 rfl (by repeat constructor) rfl) rfl rfl ?_
    refine SD.take rfl panicBody (op_gtrF rfl rfl (by omega)) rfl rfl ?_
    refine SD.take rfl panicBody (op_pickF rfl rfl) rfl rfl ?_
    refine SD.take rfl panicBody (op_move rfl) rfl rfl ?_
    refine SD.take rfl panicBody (op_fieldAddr fa45_3 rfl) rfl rfl ?_
    refine SD.take rfl panicBody (op_load ty43 rfl (by repeat constructor) rfl) rfl rfl ?_
    refine SD.take rfl panicBody (op_lenS Tryz.underlying43 rfl) rfl rfl ?_
    refine SD.take rfl panicBody (op_fieldAddr fa45_0 rfl) rfl rfl ?_
    refine SD.take rfl panicBody (op_load ty3 rfl (by repeat constructor) rfl) rfl rfl ?_
    refine SD.run rfl (op_callF en112 (vs := [_]) rfl (rargN_spec)) rfl rfl ?_
    rintro _ _ X1 ⟨rfl, hX1, rfl⟩
    refine SD.take rfl panicBody (op_neqF rfl rfl (by omega)) rfl rfl ?_
    refine SD.take rfl panicBody (op_pickF rfl rfl) rfl rfl ?_
    refine SD.nil ?_
    show SL _ _ _ _ _ _ _ [] _ _ _
    refine SL.nil <| T.condF rfl <| T.skip <| T.seq <| T.region <| SL.v (op_assign (v := .int .i64 ((0 : Nat) : Int)) rfl) <| SL.v (op_assign (v := .int .i64 ((0 : Nat) : Int)) rfl) <| SL.nil <| T.seq <| T.seq <| T.region <| SL.v (op_fieldAddr fa45_0 rfl) <| SL.v (op_load ty3 rfl (by repeat constructor) rfl) ?_
    refine SL.v (op_eqlF rfl rfl (by omega)) ?_
    refine SL.mv rfl <| SL.v (op_fieldAddr fa45_0 rfl) <| SL.v (op_load ty3 rfl (by repeat constructor) rfl) ?_
    refine SL.v (op_eqlF rfl rfl (by omega)) ?_
    refine SL.v (op_pickF rfl rfl) <| SL.nil <| T.condF rfl <| T.skip <| T.seq <| T.seq <| T.region <| SL.v (op_fieldAddr fa45_0 rfl) <| SL.v (op_load ty3 rfl (by repeat constructor) rfl) ?_
    refine SL.v (op_eqlT rfl rfl (by omega)) ?_
    refine SL.nil <| T.condT rfl <| T.region <| SL.v (op_assign (v := .int .i64 ((1 : Nat) : Int)) rfl) <| SL.v (op_assign (v := .int .i64 ((8 : Nat) : Int)) rfl) <| SL.nil <| T.seq <| T.seq <| T.region <| SL.v (op_fieldAddr fa45_0 rfl) <| SL.v (op_load ty3 rfl (by repeat constructor) rfl) ?_
    refine SL.v (op_neqT rfl rfl (by omega)) ?_
    refine SL.mv rfl <| SL.v (op_fieldAddr fa45_1 rfl) <| SL.v (op_load ty3 rfl (by repeat constructor) rfl) ?_
    refine SL.v (op_neqF rfl rfl (by omega)) ?_
    refine SL.v (op_pickT rfl rfl) <| SL.mv rfl <| SL.v (op_fieldAddr fa45_2 rfl) <| SL.v (op_load ty37 rfl (by repeat constructor) rfl) ?_
    refine SL.v (op_lenS Tryz.underlying37 rfl) <| SL.mv rfl <| SL.v (op_lssF rfl rfl (by omega)) ?_
    refine SL.v (op_pickF rfl rfl) <| SL.mv rfl <| SL.v (op_fieldAddr fa45_2 rfl) <| SL.v (op_load ty37 rfl (by repeat constructor) rfl) ?_
    refine SL.v (op_lenS Tryz.underlying37 rfl) <| SL.mv rfl <| SL.v (op_gtrF rfl rfl (by omega)) ?_
    refine SL.v (op_pickF rfl rfl) <| SL.nil <| T.condF rfl <| T.skip <| T.seq <| T.seq <| T.region <| SL.v (op_fieldAddr fa45_2 rfl) <| SL.v (op_load ty37 rfl (by repeat constructor) rfl) ?_
    refine SL.v (op_lenS Tryz.underlying37 rfl) <| SL.v (op_move (v := .int .i64 ((0 : Nat) : Int)) rfl) <| SL.nil <| T.block <| T.loopW (fun m env own X' => ∃ i : Nat, m = ns.length - i ∧ i ≤ ns.length ∧ X1.le X' ∧ (∀ q x, q < i → ns[q]? = some x → validS x) ∧ env = [(1, .pointer (some ⟨B1, 0, none⟩)), (60, .slice An ns.length cn), (61, .int .i64 (ns.length : Int)), (62, .int .i64 (i : Int))] ∧ own = [⟨B1, [.int .i64 (op : Int), .int .i64 n, .slice An ns.length cn, .slice Aa k ca], 45, 4⟩]) ns.length ⟨0, by simp, by omega, PMap.le_refl _, fun q x hq => absurd hq (by omega), rfl, rfl⟩ (by repeat (first | exact Sub.nil | refine Sub.cons rfl ?_)) ?_
    rintro m _ _ X2 ⟨i, rfl, hi, hX2, hne, rfl, rfl⟩
    rcases Nat.lt_or_ge i ns.length with hil | hil
    · obtain ⟨x, hx⟩ : ∃ x, ns[i]? = some x := ⟨_, List.getElem?_eq_getElem hil⟩
      obtain ⟨b, pre, rfl, hB⟩ := hn.blk (by omega)
      refine T.seq <| T.region <| SL.v (op_lssT rfl rfl (by omega)) ?_
      refine SL.nil <| T.seq <| T.condT rfl <| T.skip <| T.seq <| T.block <| T.seq <| T.region <| SL.v (op_indexN Tryz.underlying37 ty9 rfl rfl (by omega)) ?_
      refine SL.v (op_loadX ty9 rfl ((hB.mono hX1).mono hX2) (str_read hx (by omega))) ?_
      refine SL.as rfl <| SL.nil <| T.seq <| T.region <| SL.mv rfl <| SL.w (op_callF en124 (vs := [_]) rfl (rvalid_spec)) ?_
      rintro _ _ X3 ⟨rfl, hX3, rfl⟩
      by_cases hc : validS x
      · rw [decide_eq_true hc]
        refine SL.v (op_not rfl) <| SL.nil <| T.condF rfl <| T.skip <| T.blk <| T.region <| SL.v (op_addN (q := 1) rfl rfl (by omega)) ?_
        refine SL.mv rfl <| SL.nil ?_
        have hne2 : ∀ (q : Nat) (y : ByteArray), q < i + 1 → ns[q]? = some y → validS y := fun q y hq hy => by
          rcases Nat.lt_or_ge q i with h1 | h1
          · exact hne q y h1 hy
          · obtain rfl : q = i := by omega
            rw [hx] at hy; cases hy; exact hc
        exact T.backW (ns.length - (i + 1)) (by omega) ⟨i + 1, rfl, by omega, hX2.trans' hX3, hne2, rfl, rfl⟩ (by repeat (first | exact Sub.nil | refine Sub.cons rfl ?_))
      · rw [decide_eq_false hc]
        refine SL.v (op_not rfl) <| SL.nil <| T.condT rfl <| T.seq <| T.region <| SL.v (op_assign (v := .int .i64 ((9 : Nat) : Int)) rfl) <| SL.nil <| T.ret1 rfl (ResIs.tmp rfl) ?_
        rw [own9 hA1 hA2 fun h => hc (h x (List.mem_of_getElem? hx))]; rfl
    · have hv : ∀ s ∈ ns, validS s := fun s hs => by
        obtain ⟨q, hq⟩ := List.mem_iff_getElem?.1 hs
        have h1 := (List.getElem?_eq_some_iff.1 hq).1
        exact hne q s (by omega) hq
      refine T.seq <| T.region <| SL.v (op_lssF rfl rfl (by omega)) ?_
      refine SL.nil <| T.seq <| T.condF rfl ?_
      refine T.exit (T.exitCode (T.exitCut (T.exitBlk ?_)))
      refine T.seq <| T.seq <| T.region <| SL.v (op_fieldAddr fa45_2 rfl) <| SL.v (op_load ty37 rfl (by repeat constructor) rfl) ?_
      refine SL.v (op_lenS Tryz.underlying37 rfl) <| SL.v (op_move (v := .int .i64 ((0 : Nat) : Int)) rfl) <| SL.nil <| T.block <| T.loopW (fun m env own X' => ∃ i : Nat, m = ns.length - i ∧ i ≤ ns.length ∧ X2.le X' ∧ (ns.take i).Nodup ∧ env = [(1, .pointer (some ⟨B1, 0, none⟩)), (71, .slice An ns.length cn), (72, .int .i64 (ns.length : Int)), (73, .int .i64 (i : Int))] ∧ own = [⟨B1, [.int .i64 (op : Int), .int .i64 n, .slice An ns.length cn, .slice Aa k ca], 45, 4⟩]) ns.length ⟨0, by simp, by omega, PMap.le_refl _, by simp, rfl, rfl⟩ (by repeat (first | exact Sub.nil | refine Sub.cons rfl ?_)) ?_
      rintro m _ _ X4 ⟨j, rfl, hj, hX4, hnd, rfl, rfl⟩
      rcases Nat.lt_or_ge j ns.length with hjl | hjl
      · obtain ⟨x, hx⟩ : ∃ x, ns[j]? = some x := ⟨_, List.getElem?_eq_getElem hjl⟩
        have htk := hn.take (sz := 1) (k := j) (by omega)
        obtain ⟨b, pre, rfl, hB⟩ := hn.blk (by omega)
        have hX14 := hX1.trans' (hX2.trans' hX4)
        refine T.seq <| T.region <| SL.v (op_lssT rfl rfl (by omega)) ?_
        refine SL.nil <| T.seq <| T.condT rfl <| T.skip <| T.seq <| T.block <| T.seq <| T.region <| SL.mv rfl <| SL.v (op_indexN Tryz.underlying37 ty9 rfl rfl (by omega)) ?_
        refine SL.v (op_loadX ty9 rfl (hB.mono hX14) (str_read hx (by omega))) ?_
        refine SL.as rfl <| SL.as rfl <| SL.nil <| T.seq <| T.region <| SL.v (op_fieldAddr fa45_2 rfl) <| SL.v (op_load ty37 rfl (by repeat constructor) rfl) ?_
        refine SL.mv rfl <| SL.v (op_sliceHi (l := j) Tryz.underlying37 ty9 rfl rfl (by omega)) ?_
        refine SL.mv rfl ?_
        have hcall := number_spec8 (s := x) (htk.mono hX14) (by rw [List.length_take]; omega)
        refine SL.w (op_callF en125 (vs := [_, _]) rfl (hcall)) ?_
        rintro _ _ X5 ⟨rfl, hX5, z, rfl, hz1, hz2⟩
        by_cases hc : x ∈ ns.take j
        · have hz := hz1.2 hc
          refine SL.v (op_gtrT rfl rfl (by omega)) ?_
          refine SL.nil <| T.condT rfl <| T.seq <| T.region <| SL.v (op_assign (v := .int .i64 ((5 : Nat) : Int)) rfl) <| SL.nil <| T.ret1 rfl (ResIs.tmp rfl) ?_
          rw [own5 hA1 hA2 hv fun h => by
            have h2 := h.sublist (List.take_sublist (j + 1) ns)
            rw [take_snoc hx, List.nodup_append] at h2
            exact h2.2.2 x hc x (by simp) rfl]; rfl
        · have hz : ¬0 < z := fun h => hc (hz1.1 h)
          refine SL.v (op_gtrF rfl rfl (by omega)) ?_
          refine SL.nil <| T.condF rfl <| T.skip <| T.blk <| T.region <| SL.v (op_addN (q := 1) rfl rfl (by omega)) ?_
          refine SL.mv rfl <| SL.nil ?_
          have hnd2 : (ns.take (j + 1)).Nodup := by
            rw [take_snoc hx, List.nodup_append]
            exact ⟨hnd, by simp, fun a ha b hb => by
              obtain rfl := List.mem_singleton.1 hb
              exact fun h => hc (h ▸ ha)⟩
          exact T.backW (ns.length - (j + 1)) (by omega) ⟨j + 1, rfl, by omega, hX4.trans' hX5, hnd2, rfl, rfl⟩ (by repeat (first | exact Sub.nil | refine Sub.cons rfl ?_))
      · rw [List.take_of_length_le (by omega)] at hnd
        refine T.seq <| T.region <| SL.v (op_lssF rfl rfl (by omega)) ?_
        refine SL.nil <| T.seq <| T.condF rfl ?_
        refine T.exit (T.exitCode (T.exitCut (T.exitBlk ?_)))
        refine T.seq <| T.seq <| T.region <| SL.v (op_fieldAddr fa45_1 rfl) <| SL.v (op_load ty3 rfl (by repeat constructor) rfl) ?_
        refine SL.v (op_lssF rfl rfl (by omega)) ?_
        refine SL.mv rfl <| SL.v (op_fieldAddr fa45_1 rfl) <| SL.v (op_load ty3 rfl (by repeat constructor) rfl) ?_
        refine SL.v (op_gtrF rfl rfl (by omega)) ?_
        refine SL.v (op_pickF rfl rfl) <| SL.nil <| T.condF rfl <| T.skip <| T.seq <| T.region <| SL.v (op_assign (v := .int .i64 ((0 : Nat) : Int)) rfl) <| SL.nil <| T.ret1 rfl (ResIs.tmp rfl) ?_
        rw [own0' hA1 hA2 hv hnd (by omega)]; rfl
  by_cases hl0 : 0 < ns.length
  · have hnm : ¬namN op ns.length := by
      have hq : ∀ q : Nat, 0 < q → ¬namN op q := fun q hq h => by simp [namN, h4, h5, h6] at h; omega
      exact hq _ (by omega)
    refine Spec.enter Tryz.func119 rfl Tryz.ntmps119 rfl ?_
    intro w0 hw0
    refine T.seq <| T.region <| SL.w (op_box rfl) ?_
    rintro _ _ _ ⟨B1, rfl, rfl, rfl⟩
    refine SL.v (op_assign (v := .int .i64 ((0 : Nat) : Int)) rfl) <| SL.nil <| T.seq <| T.seq <| T.draw (by kernel_rfl) 17 [.t 0, .t 1, .t 2, .t 3, .t 4, .t 5, .t 6, .t 7, .t 8, .t 9, .t 10, .t 11, .t 12, .t 13, .r 14, .t 15, .t 16] (by kernel_rfl) ?_
    refine SD.take rfl panicBody (op_fieldAddr fa45_0 rfl) rfl rfl ?_
    refine SD.take rfl panicBody (op_load ty3 rfl (by repeat constructor) rfl) rfl rfl ?_
    refine SD.take rfl panicBody (op_lssF rfl rfl (by omega)) rfl rfl ?_
    refine SD.take rfl panicBody (op_move rfl) rfl rfl ?_
    refine SD.take rfl panicBody (op_fieldAddr fa45_0 rfl) rfl rfl ?_
    refine SD.take rfl panicBody (op_load ty3 rfl (by repeat constructor) rfl) rfl rfl ?_
    refine SD.take rfl panicBody (op_gtrF rfl rfl (by omega)) rfl rfl ?_
    refine SD.take rfl panicBody (op_pickF rfl rfl) rfl rfl ?_
    refine SD.take rfl panicBody (op_move rfl) rfl rfl ?_
    refine SD.take rfl panicBody (op_fieldAddr fa45_3 rfl) rfl rfl ?_
    refine SD.take rfl panicBody (op_load ty43 rfl (by repeat constructor) rfl) rfl rfl ?_
    refine SD.take rfl panicBody (op_lenS Tryz.underlying43 rfl) rfl rfl ?_
    refine SD.take rfl panicBody (op_fieldAddr fa45_0 rfl) rfl rfl ?_
    refine SD.take rfl panicBody (op_load ty3 rfl (by repeat constructor) rfl) rfl rfl ?_
    refine SD.run rfl (op_callF en112 (vs := [_]) rfl (rargN_spec)) rfl rfl ?_
    rintro _ _ X1 ⟨rfl, hX1, rfl⟩
    refine SD.take rfl panicBody (op_neqF rfl rfl (by omega)) rfl rfl ?_
    refine SD.take rfl panicBody (op_pickF rfl rfl) rfl rfl ?_
    refine SD.nil ?_
    show SL _ _ _ _ _ _ _ [] _ _ _
    refine SL.nil <| T.condF rfl <| T.skip <| T.seq <| T.region <| SL.v (op_assign (v := .int .i64 ((0 : Nat) : Int)) rfl) <| SL.v (op_assign (v := .int .i64 ((0 : Nat) : Int)) rfl) <| SL.nil <| T.seq <| T.seq <| T.region <| SL.v (op_fieldAddr fa45_0 rfl) <| SL.v (op_load ty3 rfl (by repeat constructor) rfl) ?_
    refine SL.v (op_eqlF rfl rfl (by omega)) ?_
    refine SL.mv rfl <| SL.v (op_fieldAddr fa45_0 rfl) <| SL.v (op_load ty3 rfl (by repeat constructor) rfl) ?_
    refine SL.v (op_eqlF rfl rfl (by omega)) ?_
    refine SL.v (op_pickF rfl rfl) <| SL.nil <| T.condF rfl <| T.skip <| T.seq <| T.seq <| T.region <| SL.v (op_fieldAddr fa45_0 rfl) <| SL.v (op_load ty3 rfl (by repeat constructor) rfl) ?_
    refine SL.v (op_eqlF rfl rfl (by omega)) ?_
    refine SL.nil <| T.condF rfl <| T.skip <| T.seq <| T.seq <| T.region <| SL.v (op_fieldAddr fa45_0 rfl) <| SL.v (op_load ty3 rfl (by repeat constructor) rfl) ?_
    refine SL.v (op_neqT rfl rfl (by omega)) ?_
    refine SL.mv rfl <| SL.v (op_fieldAddr fa45_1 rfl) <| SL.v (op_load ty3 rfl (by repeat constructor) rfl) ?_
    refine SL.v (op_neqF rfl rfl (by omega)) ?_
    refine SL.v (op_pickT rfl rfl) <| SL.mv rfl <| SL.v (op_fieldAddr fa45_2 rfl) <| SL.v (op_load ty37 rfl (by repeat constructor) rfl) ?_
    refine SL.v (op_lenS Tryz.underlying37 rfl) <| SL.mv rfl <| SL.v (op_lssF rfl rfl (by omega)) ?_
    refine SL.v (op_pickF rfl rfl) <| SL.mv rfl <| SL.v (op_fieldAddr fa45_2 rfl) <| SL.v (op_load ty37 rfl (by repeat constructor) rfl) ?_
    refine SL.v (op_lenS Tryz.underlying37 rfl) <| SL.mv rfl <| SL.v (op_gtrT rfl rfl (by omega)) ?_
    refine SL.v (op_pickF rfl rfl) <| SL.nil <| T.condT rfl <| T.seq <| T.region <| SL.v (op_assign (v := .int .i64 ((6 : Nat) : Int)) rfl) <| SL.nil <| T.ret1 rfl (ResIs.tmp rfl) ?_
    rw [own6 hA1 (.inr hnm)]; rfl

  have hnm : namN op ns.length := by
    have hq : ∀ q : Nat, 0 ≤ q ∧ q ≤ 0 → namN op q := fun q hq => by simp [namN, h4, h5, h6]; omega
    exact hq _ (by omega)
  have hA2 : ¬((n ≠ 0 ∧ op ≠ 1) ∨ ¬namN op ns.length) := fun h => h.elim (fun h => hNN h) (fun h => h hnm)
  refine Spec.enter Tryz.func119 rfl Tryz.ntmps119 rfl ?_
  intro w0 hw0
  refine T.seq <| T.region <| SL.w (op_box rfl) ?_
  rintro _ _ _ ⟨B1, rfl, rfl, rfl⟩
  refine SL.v (op_assign (v := .int .i64 ((0 : Nat) : Int)) rfl) <| SL.nil <| T.seq <| T.seq <| T.draw (by kernel_rfl) 17 [.t 0, .t 1, .t 2, .t 3, .t 4, .t 5, .t 6, .t 7, .t 8, .t 9, .t 10, .t 11, .t 12, .t 13, .r 14, .t 15, .t 16] (by kernel_rfl) ?_
  refine SD.take rfl panicBody (op_fieldAddr fa45_0 rfl) rfl rfl ?_
  refine SD.take rfl panicBody (op_load ty3 rfl (by repeat constructor) rfl) rfl rfl ?_
  refine SD.take rfl panicBody (op_lssF rfl rfl (by omega)) rfl rfl ?_
  refine SD.take rfl panicBody (op_move rfl) rfl rfl ?_
  refine SD.take rfl panicBody (op_fieldAddr fa45_0 rfl) rfl rfl ?_
  refine SD.take rfl panicBody (op_load ty3 rfl (by repeat constructor) rfl) rfl rfl ?_
  refine SD.take rfl panicBody (op_gtrF rfl rfl (by omega)) rfl rfl ?_
  refine SD.take rfl panicBody (op_pickF rfl rfl) rfl rfl ?_
  refine SD.take rfl panicBody (op_move rfl) rfl rfl ?_
  refine SD.take rfl panicBody (op_fieldAddr fa45_3 rfl) rfl rfl ?_
  refine SD.take rfl panicBody (op_load ty43 rfl (by repeat constructor) rfl) rfl rfl ?_
  refine SD.take rfl panicBody (op_lenS Tryz.underlying43 rfl) rfl rfl ?_
  refine SD.take rfl panicBody (op_fieldAddr fa45_0 rfl) rfl rfl ?_
  refine SD.take rfl panicBody (op_load ty3 rfl (by repeat constructor) rfl) rfl rfl ?_
  refine SD.run rfl (op_callF en112 (vs := [_]) rfl (rargN_spec)) rfl rfl ?_
  rintro _ _ X1 ⟨rfl, hX1, rfl⟩
  refine SD.take rfl panicBody (op_neqF rfl rfl (by omega)) rfl rfl ?_
  refine SD.take rfl panicBody (op_pickF rfl rfl) rfl rfl ?_
  refine SD.nil ?_
  show SL _ _ _ _ _ _ _ [] _ _ _
  refine SL.nil <| T.condF rfl <| T.skip <| T.seq <| T.region <| SL.v (op_assign (v := .int .i64 ((0 : Nat) : Int)) rfl) <| SL.v (op_assign (v := .int .i64 ((0 : Nat) : Int)) rfl) <| SL.nil <| T.seq <| T.seq <| T.region <| SL.v (op_fieldAddr fa45_0 rfl) <| SL.v (op_load ty3 rfl (by repeat constructor) rfl) ?_
  refine SL.v (op_eqlF rfl rfl (by omega)) ?_
  refine SL.mv rfl <| SL.v (op_fieldAddr fa45_0 rfl) <| SL.v (op_load ty3 rfl (by repeat constructor) rfl) ?_
  refine SL.v (op_eqlF rfl rfl (by omega)) ?_
  refine SL.v (op_pickF rfl rfl) <| SL.nil <| T.condF rfl <| T.skip <| T.seq <| T.seq <| T.region <| SL.v (op_fieldAddr fa45_0 rfl) <| SL.v (op_load ty3 rfl (by repeat constructor) rfl) ?_
  refine SL.v (op_eqlF rfl rfl (by omega)) ?_
  refine SL.nil <| T.condF rfl <| T.skip <| T.seq <| T.seq <| T.region <| SL.v (op_fieldAddr fa45_0 rfl) <| SL.v (op_load ty3 rfl (by repeat constructor) rfl) ?_
  refine SL.v (op_neqT rfl rfl (by omega)) ?_
  refine SL.mv rfl <| SL.v (op_fieldAddr fa45_1 rfl) <| SL.v (op_load ty3 rfl (by repeat constructor) rfl) ?_
  refine SL.v (op_neqF rfl rfl (by omega)) ?_
  refine SL.v (op_pickT rfl rfl) <| SL.mv rfl <| SL.v (op_fieldAddr fa45_2 rfl) <| SL.v (op_load ty37 rfl (by repeat constructor) rfl) ?_
  refine SL.v (op_lenS Tryz.underlying37 rfl) <| SL.mv rfl <| SL.v (op_lssF rfl rfl (by omega)) ?_
  refine SL.v (op_pickF rfl rfl) <| SL.mv rfl <| SL.v (op_fieldAddr fa45_2 rfl) <| SL.v (op_load ty37 rfl (by repeat constructor) rfl) ?_
  refine SL.v (op_lenS Tryz.underlying37 rfl) <| SL.mv rfl <| SL.v (op_gtrF rfl rfl (by omega)) ?_
  refine SL.v (op_pickF rfl rfl) <| SL.nil <| T.condF rfl <| T.skip <| T.seq <| T.seq <| T.region <| SL.v (op_fieldAddr fa45_2 rfl) <| SL.v (op_load ty37 rfl (by repeat constructor) rfl) ?_
  refine SL.v (op_lenS Tryz.underlying37 rfl) <| SL.v (op_move (v := .int .i64 ((0 : Nat) : Int)) rfl) <| SL.nil <| T.block <| T.loopW (fun m env own X' => ∃ i : Nat, m = ns.length - i ∧ i ≤ ns.length ∧ X1.le X' ∧ (∀ q x, q < i → ns[q]? = some x → validS x) ∧ env = [(1, .pointer (some ⟨B1, 0, none⟩)), (60, .slice An ns.length cn), (61, .int .i64 (ns.length : Int)), (62, .int .i64 (i : Int))] ∧ own = [⟨B1, [.int .i64 (op : Int), .int .i64 n, .slice An ns.length cn, .slice Aa k ca], 45, 4⟩]) ns.length ⟨0, by simp, by omega, PMap.le_refl _, fun q x hq => absurd hq (by omega), rfl, rfl⟩ (by repeat (first | exact Sub.nil | refine Sub.cons rfl ?_)) ?_
  rintro m _ _ X2 ⟨i, rfl, hi, hX2, hne, rfl, rfl⟩
  have hil : ns.length ≤ i := by omega
  have hv : ∀ s ∈ ns, validS s := fun s hs => by
    obtain ⟨q, hq⟩ := List.mem_iff_getElem?.1 hs
    have h1 := (List.getElem?_eq_some_iff.1 hq).1
    exact hne q s (by omega) hq
  refine T.seq <| T.region <| SL.v (op_lssF rfl rfl (by omega)) ?_
  refine SL.nil <| T.seq <| T.condF rfl ?_
  refine T.exit (T.exitCode (T.exitCut (T.exitBlk ?_)))
  refine T.seq <| T.seq <| T.region <| SL.v (op_fieldAddr fa45_2 rfl) <| SL.v (op_load ty37 rfl (by repeat constructor) rfl) ?_
  refine SL.v (op_lenS Tryz.underlying37 rfl) <| SL.v (op_move (v := .int .i64 ((0 : Nat) : Int)) rfl) <| SL.nil <| T.block <| T.loopW (fun m env own X' => ∃ i : Nat, m = ns.length - i ∧ i ≤ ns.length ∧ X2.le X' ∧ (ns.take i).Nodup ∧ env = [(1, .pointer (some ⟨B1, 0, none⟩)), (71, .slice An ns.length cn), (72, .int .i64 (ns.length : Int)), (73, .int .i64 (i : Int))] ∧ own = [⟨B1, [.int .i64 (op : Int), .int .i64 n, .slice An ns.length cn, .slice Aa k ca], 45, 4⟩]) ns.length ⟨0, by simp, by omega, PMap.le_refl _, by simp, rfl, rfl⟩ (by repeat (first | exact Sub.nil | refine Sub.cons rfl ?_)) ?_
  rintro m _ _ X4 ⟨j, rfl, hj, hX4, hnd, rfl, rfl⟩
  have hjl : ns.length ≤ j := by omega
  rw [List.take_of_length_le (by omega)] at hnd
  refine T.seq <| T.region <| SL.v (op_lssF rfl rfl (by omega)) ?_
  refine SL.nil <| T.seq <| T.condF rfl ?_
  refine T.exit (T.exitCode (T.exitCut (T.exitBlk ?_)))
  refine T.seq <| T.seq <| T.region <| SL.v (op_fieldAddr fa45_1 rfl) <| SL.v (op_load ty3 rfl (by repeat constructor) rfl) ?_
  refine SL.v (op_lssF rfl rfl (by omega)) ?_
  refine SL.mv rfl <| SL.v (op_fieldAddr fa45_1 rfl) <| SL.v (op_load ty3 rfl (by repeat constructor) rfl) ?_
  refine SL.v (op_gtrF rfl rfl (by omega)) ?_
  refine SL.v (op_pickF rfl rfl) <| SL.nil <| T.condF rfl <| T.skip <| T.seq <| T.region <| SL.v (op_assign (v := .int .i64 ((0 : Nat) : Int)) rfl) <| SL.nil <| T.ret1 rfl (ResIs.tmp rfl) ?_
  rw [own0' hA1 hA2 hv hnd (by omega)]; rfl
theorem inside_spec (N : Nat) : ∀ {X : PMap} {e : Ex} {r : Row4}, wtE e ≤ N → N < 100000000 → ExR .i64 X e r → Spec Tryz.prog 61 [.agg #[r.1, r.2.1, r.2.2.1, r.2.2.2]] X fun u _ => u = .int .i64 (nodeE e) := by
  induction N with
  | zero => intro X e r h; cases e; rw [wtE] at h; omega
  | succ N ih =>
    intro X e r hN hB h
    cases h with
    | @mk op n ns al vn va rows hn ha hl hr =>
    obtain ⟨Aa, ca, rfl⟩ := ha.form
    obtain ⟨An, cn, rfl⟩ := hn.form
    have hlen := wtL_len al
    have hnl := wtS_len ns
    rw [wtE] at hN
    refine Spec.enter Tryz.func61 rfl Tryz.ntmps61 rfl ?_
    intro w0 hw0
    refine T.seq <| T.region <| SL.w (op_box rfl) ?_
    rintro _ _ _ ⟨B1, rfl, rfl, rfl⟩
    refine SL.v (op_assign (v := .int .i64 ((0 : Nat) : Int)) rfl) <| SL.nil <| T.seq <| T.region <| SL.v (op_load ty45 rfl (by repeat constructor) rfl) ?_
    have hcall := rnode_spec (op := op) (n := n) (k := rows.length) (ca := ca) (Aa := Aa) (by omega) (by omega) hn
    refine SL.w (op_callF en119 (vs := [_]) rfl (hcall)) ?_
    rintro _ _ X1 ⟨rfl, hX1, rfl⟩
    rw [show ownE op n ns rows.length = ownE op n ns al.length by rw [hl]]
    by_cases hown : ownE op n ns al.length = 0
    case neg =>
      refine SL.as rfl <| SL.nil <| T.seq <| T.seq <| T.region <| SL.mv rfl <| SL.v (op_neqT rfl rfl (by omega)) ?_
      refine SL.nil <| T.condT rfl <| T.seq <| T.region <| SL.mv rfl <| SL.as rfl <| SL.nil <| T.ret1 rfl (ResIs.tmp rfl) ?_
      rw [node_own hown]
    rw [hown]
    refine SL.as rfl <| SL.nil <| T.seq <| T.seq <| T.region <| SL.mv rfl <| SL.v (op_neqF rfl rfl (by omega)) ?_
    refine SL.nil <| T.condF rfl <| T.skip <| T.seq <| T.seq <| T.region <| SL.v (op_fieldAddr fa45_3 rfl) <| SL.v (op_load ty43 rfl (by repeat constructor) rfl) ?_
    refine SL.v (op_lenS Tryz.underlying43 rfl) <| SL.v (op_move (v := .int .i64 ((0 : Nat) : Int)) rfl) <| SL.nil <| T.block <| T.drop B1 (by repeat constructor) ?_
    refine T.loopW (fun m env own X' => ∃ i : Nat, m = rows.length - i ∧ i ≤ rows.length ∧ X1.le X' ∧ nodeL (al.take i) = 0 ∧ env = [(12, .slice Aa rows.length ca), (13, .int .i64 (rows.length : Int)), (14, .int .i64 (i : Int))] ∧ own = []) rows.length ⟨0, by simp, by omega, PMap.le_refl _, by simp [nodeL], rfl, rfl⟩ (by repeat (first | exact Sub.nil | refine Sub.cons rfl ?_)) ?_
    rintro m _ _ X5 ⟨i, rfl, hi, hX5, hz0, rfl, rfl⟩
    rcases Nat.lt_or_ge i rows.length with hil | hil
    · obtain ⟨r2, hr2⟩ : ∃ r2, rows[i]? = some r2 := ⟨_, List.getElem?_eq_getElem hil⟩
      obtain ⟨a, ha2⟩ : ∃ a, al[i]? = some a := ⟨_, List.getElem?_eq_getElem (by omega)⟩
      have hra := hr i a r2 ha2 hr2
      obtain ⟨bA, pre, rfl, hbA⟩ := ha.blk (by omega)
      obtain ⟨_, _, _, _, _, _, _, _, rfl⟩ := hra.form
      have hwa := wtL_mem (List.mem_of_getElem? ha2)
      refine T.seq <| T.region <| SL.v (op_lssT rfl rfl (by omega)) ?_
      refine SL.nil <| T.seq <| T.condT rfl <| T.skip <| T.seq <| T.block <| T.seq <| T.region <| SL.v (op_indexN Tryz.underlying43 ty45 rfl rfl (by omega)) ?_
      refine SL.v (op_loadX ty45 rfl ((hbA.mono hX1).mono hX5) (row_read rc4_len hr2 (by omega))) ?_
      refine SL.w (op_alloc z45) ?_
      rintro _ _ _ ⟨B5, rfl, rfl, rfl⟩
      refine SL.w (op_store ty45 rfl rfl (by repeat constructor) rfl rfl rfl) ?_
      rintro _ _ _ ⟨rfl, rfl⟩
      refine SL.nil <| T.seq <| T.region <| SL.v (op_load ty45 rfl (by repeat constructor) rfl) ?_
      refine SL.w (op_callF en61 (vs := [_]) rfl (ih (by omega) (by omega) ((hra.mono hX1).mono hX5))) ?_
      rintro _ _ X6 ⟨rfl, hX6, rfl⟩
      by_cases hz : nodeE a = 0
      · skip
        refine SL.as rfl <| SL.nil <| T.seq <| T.region <| SL.mv rfl <| SL.v (op_neqF rfl rfl (by omega)) ?_
        refine SL.nil <| T.condF rfl <| T.skip <| T.blk <| T.region <| SL.v (op_addN (q := 1) rfl rfl (by omega)) ?_
        refine SL.mv rfl <| SL.nil <| T.drop B5 (by repeat constructor) ?_
        exact T.backW (rows.length - (i + 1)) (by omega) ⟨i + 1, rfl, by omega, hX5.trans' hX6, nodeL_snoc hz0 ha2 hz, rfl, rfl⟩ (by repeat (first | exact Sub.nil | refine Sub.cons rfl ?_))
      · refine SL.as rfl <| SL.nil <| T.seq <| T.region <| SL.mv rfl <| SL.v (op_neqT rfl rfl (by omega)) ?_
        refine SL.nil <| T.condT rfl <| T.seq <| T.region <| SL.mv rfl <| SL.as rfl <| SL.nil <| T.ret1 rfl (ResIs.tmp rfl) ?_
        rw [node_args hown, nodeL_at hz0 ha2 hz]
    · obtain rfl : i = rows.length := by omega
      rw [show al.take rows.length = al from List.take_of_length_le (by omega)] at hz0
      refine T.seq <| T.region <| SL.v (op_lssF rfl rfl (by omega)) ?_
      refine SL.nil <| T.seq <| T.condF rfl ?_
      refine T.exit (T.exitCode (T.exitCut (T.exitBlk ?_)))
      refine T.seq <| T.region <| SL.v (op_assign (v := .int .i64 ((0 : Nat) : Int)) rfl) <| SL.nil <| T.ret1 rfl (ResIs.tmp rfl) ?_
      rw [node_args hown, hz0]; rfl
theorem rchk_spec {X : PMap} {e : Ex} {r : Row4} (hw : wtE e < 100000000) (h : ExR .i64 X e r) : Spec Tryz.prog 28 [.agg #[r.1, r.2.1, r.2.2.1, r.2.2.2]] X fun u _ => u = .int .i64 (chkE e) := by
  obtain ⟨_, _, _, _, _, _, _, _, rfl⟩ := h.form
  have hd := dep_wt e
  have hs := siz_wt e
  by_cases h1 : 10 < depE e
  · refine Spec.enter Tryz.func28 rfl Tryz.ntmps28 rfl ?_
    intro w0 hw0
    refine T.seq <| T.region <| SL.w (op_box rfl) ?_
    rintro _ _ _ ⟨B1, rfl, rfl, rfl⟩
    refine SL.v (op_assign (v := .int .i64 ((0 : Nat) : Int)) rfl) <| SL.nil <| T.seq <| T.seq <| T.region <| SL.v (op_load ty45 rfl (by repeat constructor) rfl) ?_
    refine SL.w (op_callF en59 (vs := [_]) rfl (rdepth_spec _ (Nat.le_refl _) (by omega) h)) ?_
    rintro _ _ X1 ⟨rfl, hX1, rfl⟩
    refine SL.v (op_gtrT rfl rfl (by omega)) ?_
    refine SL.mv rfl <| SL.skip rfl rfl ?_
    refine SL.skip rfl rfl ?_
    refine SL.skip rfl rfl ?_
    refine SL.v (op_pickT rfl rfl) <| SL.nil <| T.condT rfl <| T.seq <| T.region <| SL.v (op_assign (v := .int .i64 ((3 : Nat) : Int)) rfl) <| SL.nil <| T.ret1 rfl (ResIs.tmp rfl) ?_
    rw [chkE, if_pos (.inl h1)]; rfl
  · by_cases h2 : 200 < sizE e
    · refine Spec.enter Tryz.func28 rfl Tryz.ntmps28 rfl ?_
      intro w0 hw0
      refine T.seq <| T.region <| SL.w (op_box rfl) ?_
      rintro _ _ _ ⟨B1, rfl, rfl, rfl⟩
      refine SL.v (op_assign (v := .int .i64 ((0 : Nat) : Int)) rfl) <| SL.nil <| T.seq <| T.seq <| T.region <| SL.v (op_load ty45 rfl (by repeat constructor) rfl) ?_
      refine SL.w (op_callF en59 (vs := [_]) rfl (rdepth_spec _ (Nat.le_refl _) (by omega) h)) ?_
      rintro _ _ X1 ⟨rfl, hX1, rfl⟩
      refine SL.v (op_gtrF rfl rfl (by omega)) ?_
      refine SL.mv rfl <| SL.v (op_load ty45 rfl (by repeat constructor) rfl) ?_
      refine SL.w (op_callF en60 (vs := [_]) rfl (rsize_spec _ (Nat.le_refl _) (by omega) (h.mono hX1))) ?_
      rintro _ _ X2 ⟨rfl, hX2, rfl⟩
      refine SL.v (op_gtrT rfl rfl (by omega)) ?_
      refine SL.v (op_pickF rfl rfl) <| SL.nil <| T.condT rfl <| T.seq <| T.region <| SL.v (op_assign (v := .int .i64 ((3 : Nat) : Int)) rfl) <| SL.nil <| T.ret1 rfl (ResIs.tmp rfl) ?_
      rw [chkE, if_pos (.inr h2)]; rfl
    · refine Spec.enter Tryz.func28 rfl Tryz.ntmps28 rfl ?_
      intro w0 hw0
      refine T.seq <| T.region <| SL.w (op_box rfl) ?_
      rintro _ _ _ ⟨B1, rfl, rfl, rfl⟩
      refine SL.v (op_assign (v := .int .i64 ((0 : Nat) : Int)) rfl) <| SL.nil <| T.seq <| T.seq <| T.region <| SL.v (op_load ty45 rfl (by repeat constructor) rfl) ?_
      refine SL.w (op_callF en59 (vs := [_]) rfl (rdepth_spec _ (Nat.le_refl _) (by omega) h)) ?_
      rintro _ _ X1 ⟨rfl, hX1, rfl⟩
      refine SL.v (op_gtrF rfl rfl (by omega)) ?_
      refine SL.mv rfl <| SL.v (op_load ty45 rfl (by repeat constructor) rfl) ?_
      refine SL.w (op_callF en60 (vs := [_]) rfl (rsize_spec _ (Nat.le_refl _) (by omega) (h.mono hX1))) ?_
      rintro _ _ X2 ⟨rfl, hX2, rfl⟩
      refine SL.v (op_gtrF rfl rfl (by omega)) ?_
      refine SL.v (op_pickF rfl rfl) <| SL.nil <| T.condF rfl <| T.skip <| T.seq <| T.region <| SL.v (op_load ty45 rfl (by repeat constructor) rfl) ?_
      refine SL.w (op_callF en61 (vs := [_]) rfl (inside_spec _ (Nat.le_refl _) (by omega) ((h.mono hX1).mono hX2))) ?_
      rintro _ _ X3 ⟨rfl, hX3, rfl⟩
      refine SL.as rfl <| SL.nil <| T.ret1 rfl (ResIs.tmp rfl) ?_
      rw [chkE, if_neg (by omega)]
end Go.Proofs.YtnabbnhefjfegaaGreatDoor
namespace Go.Proofs.YtnabbnhefjfegaaGreatDoor
section
set_option maxRecDepth 100000
theorem bs45 : ∃ i z, Tryz.prog.info? 45 = some i ∧ i.size = 4 ∧ i.zero = some z ∧ z.cells = ([.int .i64 0, .int .i64 0, .slice none 0 0, .slice none 0 0] : List Value).toArray := bs_of (by kernel_rfl)
theorem st45 : StT Tryz.prog 45 [(0, 1), (1, 1), (2, 1), (3, 1)] [.int .i64 0, .int .i64 0, .slice none 0 0, .slice none 0 0] := ⟨⟨_, Tryz.underlying45, fun _ => by kernel_rfl, z45⟩⟩
end
open Go.RowKit
theorem grow1 {e : TypeId} {b : Nat} {cs : List Value} {size : Nat} (h : cs.length = size) (hm : 1 ≤ maxLen) : GrowS e size (.slice (some ⟨b, 0, none⟩) 1 1) 1 cs [⟨b, cs, e, 1 * size⟩] := .inr ⟨b, 1, rfl, rfl, Nat.le_refl _, hm, by omega⟩
end Go.Proofs.YtnabbnhefjfegaaGreatDoor
namespace Go.Proofs.YtnabbnhefjfegaaGreatDoor
section
set_option maxRecDepth 100000
theorem bs40 : ∃ i z, Tryz.prog.info? 40 = some i ∧ i.size = 4 ∧ i.zero = some z ∧ z.cells = ([.int .u8 0, .int .i64 0, .slice none 0 0, .slice none 0 0] : List Value).toArray := bs_of (by kernel_rfl)
theorem en24 : Enters Tryz.prog 24 := enters_mk Tryz.func24 (by kernel_rfl) rfl
theorem sl38 : SlT Tryz.prog 38 40 4 64 := ⟨Tryz.underlying38, sl_of (by kernel_rfl) (by decide)⟩
end
open Go.RowKit
mutual
def opsE : Ex → Prop
  | .mk op _ _ al => op < 256 ∧ opsL al
def opsL : List Ex → Prop
  | [] => True
  | a :: al => opsE a ∧ opsL al
end
theorem opsL_mem {a : Ex} : ∀ {l : List Ex}, opsL l → a ∈ l → opsE a
  | x :: l, h, hm => by
    rw [opsL] at h
    rcases List.mem_cons.1 hm with rfl | hm
    · exact h.1
    · exact opsL_mem h.2 hm
abbrev S3 (b : Nat) (op : Nat) (n : Int) (vn va : Value) : Ow := ⟨b, [.int .u8 (op : Int), .int .i64 n, vn, va], 40, 4⟩
theorem expr_spec (N : Nat) : ∀ {X : PMap} {e : Ex} {r : Row4}, wtE e ≤ N → N < 100000000 → opsE e → ExR .i64 X e r → Spec Tryz.prog 24 [.agg #[r.1, r.2.1, r.2.2.1, r.2.2.2]] X fun u X' => ∃ r' : Row4, u = .agg #[r'.1, r'.2.1, r'.2.2.1, r'.2.2.2] ∧ ExR .u8 X' e r' := by
  induction N with
  | zero => intro X e r h; cases e; rw [wtE] at h; omega
  | succ N ih =>
    intro X e r hN hB hops h
    have hmx : maxLen = 9223372036854775807 := rfl
    cases h with
    | @mk op n ns al vn va rows hn ha hl hr =>
    obtain ⟨Aa, ca, rfl⟩ := ha.form
    obtain ⟨An, cn, rfl⟩ := hn.form
    have hlen := wtL_len al
    have hnl := wtS_len ns
    rw [wtE] at hN
    obtain ⟨hop, hops2⟩ : op < 256 ∧ opsL al := hops
    have hsrc := fun (own : Own) => Src.ofRow (own := own) strC_len hn
    simp only [strsC_flat] at hsrc
    refine Spec.enter Tryz.func24 rfl Tryz.ntmps24 rfl ?_
    intro w0 hw0
    refine T.seq <| T.region <| SL.w (op_box rfl) ?_
    rintro _ _ _ ⟨B1, rfl, rfl, rfl⟩
    refine SL.w (op_alloc z40) ?_
    rintro _ _ _ ⟨B2, rfl, rfl, rfl⟩
    refine SL.nil <| T.seq <| T.draw (by kernel_rfl) 11 [.t 0, .t 1, .t 2, .t 3, .t 4, .t 6, .t 7, .g 5 8 9 10] (by kernel_rfl) ?_
    refine SD.take rfl panicBody (op_fieldAddr fa45_0 rfl) rfl rfl ?_
    refine SD.take rfl panicBody (op_load ty3 rfl (by repeat constructor) rfl) rfl rfl ?_
    refine SD.take rfl panicBody (op_convU8 Tryz.underlying3 Tryz.underlying36 rfl (by omega) (by omega)) rfl rfl ?_
    refine SD.take rfl panicBody (op_fieldAddr fa45_1 rfl) rfl rfl ?_
    refine SD.take rfl panicBody (op_load ty3 rfl (by repeat constructor) rfl) rfl rfl ?_
    refine SD.take rfl panicBody (op_fieldAddr fa45_2 rfl) rfl rfl ?_
    refine SD.take rfl panicBody (op_load ty37 rfl (by repeat constructor) rfl) rfl rfl ?_
    refine SD.fork3 rfl rfl rfl rfl rfl rfl (K := (fun _ vj vk own' X' => ∃ (b1 c1 b3 : Nat), vj = .slice (some ⟨b1, 0, none⟩) ns.length c1 ∧ vk = .pointer (some ⟨b3, 0, none⟩) ∧ own' = [⟨b3, [.int .u8 0, .int .i64 0, .slice none 0 0, .slice none 0 0], 40, 4⟩, ⟨b1, strsC ns, 9, c1 * 1⟩, ⟨B2, [.int .u8 0, .int .i64 0, .slice none 0 0, .slice none 0 0], 40, 4⟩, ⟨B1, [.int .i64 (op : Int), .int .i64 n, .slice An ns.length cn, .slice Aa rows.length ca], 45, 4⟩] ∧ X = X' ∧ ns.length ≤ c1 ∧ c1 ≤ maxLen)) (vp := (fun _ vj => .agg #[.int .u8 (op : Int), .int .i64 n, vj, .slice none 0 0])) ((op_build0 (size := 1) Tryz.underlying37 bs9 rfl).mono fun _ _ _ h => (by obtain ⟨b0, rfl, rfl, rfl⟩ := h; exact ⟨⟨fun p hp => List.mem_cons_of_mem _ hp, PMap.le_refl _⟩, (op_append0 (size := 1) sl37 rfl rfl AtO.here (hsrc _) (strsC_one ns) (by omega) (by omega)).mono fun _ _ _ h => (by obtain ⟨b1, c1, rfl, rfl, rfl, h1, h2⟩ := h; exact ⟨⟨fun p hp => List.mem_cons_of_mem _ hp, PMap.le_refl _⟩, op_build st40 (qs := [(0, _), (1, _), (2, _)]) rfl rfl, (op_alloc z40).mono fun _ _ _ h => (by obtain ⟨b3, rfl, rfl, rfl⟩ := h; exact ⟨⟨fun p hp => List.mem_cons_of_mem _ (List.mem_cons_of_mem _ hp), PMap.le_refl _⟩, _, .refl _, b1, c1, b3, rfl, rfl, rfl, rfl, h1, h2⟩), (op_alloc z40).mono fun _ _ _ h => (by obtain ⟨b3, rfl, rfl, rfl⟩ := h; exact ⟨⟨fun p hp => List.mem_cons_of_mem _ (List.mem_cons_of_mem _ hp), PMap.le_refl _⟩, _, .refl _, b1, c1, b3, rfl, rfl, rfl, rfl, h1, h2⟩)⟩), (op_alloc z40).mono fun _ _ _ h => (by obtain ⟨b3, rfl, rfl, rfl⟩ := h; exact ⟨⟨fun p hp => List.mem_cons_of_mem _ (List.mem_cons_of_mem _ hp), PMap.le_refl _⟩, (op_append0 (size := 1) sl37 rfl rfl (AtO.there AtO.here) (hsrc _) (strsC_one ns) (by omega) (by omega)).mono fun _ _ _ h => (by obtain ⟨b1, c1, rfl, rfl, rfl, h1, h2⟩ := h; exact ⟨⟨fun p hp => List.mem_cons_of_mem _ (List.mem_cons_of_mem _ hp), PMap.le_refl _⟩, _, .refl _, b1, c1, b3, rfl, rfl, rfl, rfl, h1, h2⟩)⟩)⟩)) ((op_alloc z40).mono fun _ _ _ h => (by obtain ⟨b3, rfl, rfl, rfl⟩ := h; exact ⟨⟨fun p hp => List.mem_cons_of_mem _ hp, PMap.le_refl _⟩, (op_build0 (size := 1) Tryz.underlying37 bs9 rfl).mono fun _ _ _ h => (by obtain ⟨b0, rfl, rfl, rfl⟩ := h; exact ⟨⟨fun p hp => List.mem_cons_of_mem _ (List.mem_cons_of_mem _ hp), PMap.le_refl _⟩, (op_append0 (size := 1) sl37 rfl rfl AtO.here (hsrc _) (strsC_one ns) (by omega) (by omega)).mono fun _ _ _ h => (by obtain ⟨b1, c1, rfl, rfl, rfl, h1, h2⟩ := h; exact ⟨⟨fun p hp => List.mem_cons_of_mem _ (List.mem_cons_of_mem _ hp), PMap.le_refl _⟩, _, .swap _ _ _, b1, c1, b3, rfl, rfl, rfl, rfl, h1, h2⟩)⟩)⟩)) (fun vi vj vk _ _ h => (by obtain ⟨b1, c1, b3, rfl, rfl, rfl, rfl, h1, h2⟩ := h; exact op_build st40 (qs := [(0, _), (1, _), (2, _)]) rfl rfl)) ?_
    rintro _ _ _ _ _ ⟨b1, c1, b3, rfl, rfl, rfl, rfl, hc1, hc2⟩
    refine SD.nil ?_
    show SL _ _ _ _ _ _ _ [_] _ _ _
    refine SL.w (op_store ty40 rfl rfl (by repeat constructor) rfl rfl rfl) ?_
    rintro _ _ _ ⟨rfl, rfl⟩
    refine SL.nil <| T.seq <| T.seq <| T.region <| SL.v (op_fieldAddr fa45_3 rfl) <| SL.v (op_load ty43 rfl (by repeat constructor) rfl) ?_
    refine SL.v (op_lenS Tryz.underlying43 rfl) <| SL.v (op_move (v := .int .i64 ((0 : Nat) : Int)) rfl) <| SL.nil <| T.block <| T.pub b1 (by repeat constructor) ?_
    intro Y1 hY1 hB1 _
    have hN : RowR strC Y1 (.slice (some ⟨b1, 0, none⟩) ns.length c1) ns := by
      rcases Nat.eq_zero_or_pos ns.length with h0 | h0
      · exact .inl ⟨List.eq_nil_of_length_eq_zero h0, _, _, by rw [h0]⟩
      · exact .inr ⟨h0, b1, c1, [], rfl, by rw [strsC_flat]; exact hB1, hc1, hc2⟩
    generalize Value.slice (some ⟨b1, 0, none⟩) ns.length c1 = vn at *
    obtain ⟨An1, cn1, rfl⟩ := hN.form
    refine T.drop B1 (by repeat constructor) ?_
    refine T.loopW (fun m env own X' => ∃ (i : Nat) (va : Value) (Ga : Own) (rs : List Row4), m = rows.length - i ∧ i ≤ rows.length ∧ Y1.le X' ∧ rs.length = i ∧ GrowS 40 4 va rs.length (rs.map rc4).flatten Ga ∧ (∀ (q : Nat) (a : Ex) (r : Row4), al[q]? = some a → rs[q]? = some r → ExR .u8 X' a r) ∧ env = [(2, .pointer (some ⟨B2, 0, none⟩)), (3, .pointer (some ⟨b3, 0, none⟩)), (17, .slice Aa rows.length ca), (18, .int .i64 (rows.length : Int)), (19, .int .i64 (i : Int))] ∧ own = S3 b3 op n (.slice An1 ns.length cn1) va :: S3 B2 0 0 (.slice none 0 0) (.slice none 0 0) :: Ga) rows.length ⟨0, _, [], [], by simp, by omega, PMap.le_refl _, rfl, GrowS.nil, fun q a r _ h => by simp at h, rfl, rfl⟩ (by repeat (first | exact Sub.nil | refine Sub.cons rfl ?_)) ?_
    rintro m _ _ X1 ⟨i, va, Ga, rs, rfl, hi, hX1, hrsl, hGa, hrs, rfl, rfl⟩
    rcases Nat.lt_or_ge i rows.length with hil | hil
    · obtain ⟨r2, hr2⟩ : ∃ r2, rows[i]? = some r2 := ⟨_, List.getElem?_eq_getElem hil⟩
      obtain ⟨a, ha2⟩ : ∃ a, al[i]? = some a := ⟨_, List.getElem?_eq_getElem (by omega)⟩
      have hra := hr i a r2 ha2 hr2
      obtain ⟨bA, pre, rfl, hbA⟩ := ha.blk (by omega)
      obtain ⟨_, _, _, _, _, _, _, _, rfl⟩ := hra.form
      have hma := List.mem_of_getElem? ha2
      have hwa := wtL_mem hma
      refine T.seq <| T.region <| SL.v (op_lssT rfl rfl (by omega)) ?_
      refine SL.nil <| T.seq <| T.condT rfl <| T.skip <| T.seq <| T.block <| T.seq <| T.region <| SL.v (op_indexN Tryz.underlying43 ty45 rfl rfl (by omega)) ?_
      refine SL.v (op_loadX ty45 rfl ((hbA.mono hY1).mono hX1) (row_read rc4_len hr2 (by omega))) ?_
      refine SL.w (op_alloc z45) ?_
      rintro _ _ _ ⟨B5, rfl, rfl, rfl⟩
      refine SL.w (op_store ty45 rfl rfl (by repeat constructor) rfl rfl rfl) ?_
      rintro _ _ _ ⟨rfl, rfl⟩
      refine SL.nil <| T.drawG (own0 := [_, _, _]) (by kernel_rfl) 5 [.t 0, .t 1, .t 2, .r 3, .r 4] (by kernel_rfl) ?_
      refine SD.take rfl panicBody (op_fieldAddr fa40_3 rfl) rfl rfl ?_
      refine SD.take rfl panicBody (op_load ty38 rfl (by repeat constructor) rfl) rfl rfl ?_
      refine SD.take rfl panicBody (op_load ty45 rfl (by repeat constructor) rfl) rfl rfl ?_
      refine SD.run rfl (op_callF en24 (vs := [_]) rfl (ih (by omega) (by omega) (opsL_mem hops2 hma) ((hra.mono hY1).mono hX1))) rfl rfl ?_
      rintro _ _ X2 ⟨rfl, hX2, r8, rfl, hr8⟩
      obtain ⟨o8, n8, a8, b8, l8, c8, l9, c9, rfl⟩ := hr8.form
      refine SD.run rfl (op_buildSlice Tryz.underlying38 bs40 (qs := [(0, _)]) rfl rfl rfl rfl rfl) rfl rfl ?_
      rintro _ _ _ ⟨B27, rfl, rfl, rfl⟩
      refine SD.nil ?_
      show SL _ _ _ _ _ _ _ [_, _, _] _ _ _
      refine SL.w (op_appendGA (own0 := [_, _, _, _]) (m := 1) sl38 rfl hGa rfl (Src.ofOwn0 AtO.here rfl) (by intro y hy; have hy : y ∈ [Value.int _ _, Value.int _ _, Value.slice _ _ _, Value.slice _ _ _] := hy; simp only [List.mem_cons, List.not_mem_nil, or_false] at hy; rcases hy with rfl | rfl | rfl | rfl <;> rfl) (by omega) (by omega)) ?_
      rintro va9 _ _ ⟨Ga9, rfl, rfl, hGa9⟩
      obtain ⟨Aa9, ca9, rfl⟩ := hGa9.form
      refine SL.v (op_fieldAddr fa40_3 rfl) <| SL.w (op_store ty38 rfl rfl (by repeat constructor) rfl rfl rfl) ?_
      rintro _ _ _ ⟨rfl, rfl⟩
      refine SL.nil <| T.blk <| T.region <| SL.v (op_addN (q := 1) rfl rfl (by omega)) ?_
      refine SL.mv rfl <| SL.nil <| T.less (List.sublist_cons_self _ _) ?_
      refine T.less (List.sublist_cons_self _ _) ?_
      have hGa10 : GrowS 40 4 (.slice Aa9 (rs.length + 1) ca9) (rs ++ [((.int .u8 (o8 : Int), .int .i64 n8, .slice a8 l8 c8, .slice b8 l9 c9) : Row4)]).length (((rs ++ [((.int .u8 (o8 : Int), .int .i64 n8, .slice a8 l8 c8, .slice b8 l9 c9) : Row4)]).map rc4).flatten) Ga9 := by
        rw [List.length_append, List.map_append, List.flatten_append]
        exact hGa9
      have hrows2 : ∀ (q : Nat) (a : Ex) (r : Row4), al[q]? = some a → (rs ++ [((.int .u8 (o8 : Int), .int .i64 n8, .slice a8 l8 c8, .slice b8 l9 c9) : Row4)])[q]? = some r → ExR .u8 X2 a r := by
        intro q a' r hq hr'
        rcases Nat.lt_or_ge q i with hik | hik
        · rw [List.getElem?_append_left (by omega)] at hr'
          exact (hrs q a' r hq hr').mono hX2
        · have hik2 : q = i := by
            have := (List.getElem?_eq_some_iff.1 hr').1
            rw [List.length_append] at this; simp at this; omega
          subst hik2
          rw [List.getElem?_append_right (by omega), hrsl, Nat.sub_self] at hr'
          simp only [List.getElem?_cons_zero, Option.some.injEq] at hr'
          rw [ha2] at hq
          cases hq
          subst hr'
          exact hr8
      exact T.backW (rows.length - (i + 1)) (by omega) ⟨i + 1, _, _, rs ++ [(.int .u8 (o8 : Int), .int .i64 n8, .slice a8 l8 c8, .slice b8 l9 c9)], rfl, by omega, hX1.trans' hX2, by rw [List.length_append, hrsl]; rfl, hGa10, hrows2, rfl, rfl⟩ (by repeat (first | exact Sub.nil | refine Sub.cons rfl ?_))
    · obtain rfl : i = rows.length := by omega
      obtain ⟨Aa8, ca8, rfl⟩ := hGa.form
      refine T.seq <| T.region <| SL.v (op_lssF rfl rfl (by omega)) ?_
      refine SL.nil <| T.seq <| T.condF rfl ?_
      refine T.exit (T.exitCode (T.exitCut (T.exitBlk ?_)))
      refine T.seq <| T.region <| SL.v (op_load ty40 rfl (by repeat constructor) rfl) ?_
      refine SL.w (op_store ty40 rfl rfl (by repeat constructor) rfl rfl rfl) ?_
      rintro _ _ _ ⟨rfl, rfl⟩
      refine SL.nil <| T.pubG (own0 := [_, _]) hGa ?_
      intro X9 hX9 hS9
      refine T.ret1 rfl (ResIs.cell rfl ty40 (by repeat constructor) rfl) ?_
      have hA : RowR rc4 X9 (.slice Aa8 rs.length ca8) rs := RowR.ofG hGa hS9
      exact ⟨(.int .u8 (op : Int), .int .i64 n, .slice An1 ns.length cn1, .slice Aa8 rs.length ca8), rfl, .mk ((hN.mono hX1).mono hX9) hA (hrsl.trans hl) (fun q a r h1 h2 => (hrs q a r h1 h2).mono hX9)⟩
end Go.Proofs.YtnabbnhefjfegaaGreatDoor
namespace Go.Proofs.YtnabbnhefjfegaaGreatDoor
section
set_option maxRecDepth 100000
theorem fa137_0 : FAdr Tryz.prog 137 0 0 := fadr_mk Tryz.underlying137 rfl rfl (by kernel_rfl)
theorem ty135 : Ty Tryz.prog 135 false 1 := ⟨⟨_, Tryz.underlying135, rfl⟩, by kernel_rfl⟩
end
open Go.RowKit
section
variable {ro : Option Nat} {P : Program} {n : NM} {w0 : Base} {X0 X : PMap} {own : Own} {env : Env}
/-- A part of a string. -/
theorem op_sliceStr {t : TypeId} {x lo hi : Operand} {s : ByteArray} {l h : Nat} {k k' : IntKind} (ht : P.underlying t = some .string) (hx : eev env x = some (.string s)) (hl : eev env lo = some (.int k (l : Int))) (hh : eev env hi = some (.int k' (h : Int))) (h1 : l ≤ h) (h2 : h ≤ s.size) :
    OpY P n env own X (.slice t x (some lo) (some hi) none) (.string (s.extract l h)) := by
  intro a W oper hop ha _
  have hb : (Instr.sliceBounds false s.size s.size (some (.int k (l : Int))) (some (.int k' (h : Int))) none).run P W = .ok (l, h, s.size) W := by
    simp [Instr.sliceBounds, Instr.sliceBound, asIntOf, h2, h1]
  have : (Instr.sliceAt t (.string s) (some (.int k (l : Int))) (some (.int k' (h : Int))) none).run P W = .ok (.string (s.extract l h)) W := by
    simp only [Instr.sliceAt, Sem.run_bind, run_underlying ht, Result.andThen_ok, Instr.slice]
    simp [hb]
  simp [execOp, hop, ha.eval hx, ha.eval hl, ha.eval hh, this]
end
/-- A builder. -/
abbrev BldO (b : Nat) (p s : Value) : Ow := ⟨b, [p, s], 137, 2⟩
theorem copyCheck_spec {X : PMap} {b : Nat} {p s : Value} (hp : p = .pointer none ∨ p = .pointer (some ⟨b, 0, none⟩)) : SpecM Tryz.prog 132 [.pointer (some ⟨b, 0, none⟩)] X [BldO b p s] fun u L' _ => u = .tuple #[] ∧ L' = [BldO b (.pointer (some ⟨b, 0, none⟩)) s] := by
  rcases hp with rfl | rfl
  · refine SpecM.enter Tryz.func132 rfl Tryz.ntmps132 rfl ?_
    intro w0 X0 own0
    refine T.seq <| T.region <| SL.mv rfl <| SL.v (op_nil rfl) <| SL.v (op_fieldAddr fa137_0 rfl) <| SL.v (op_load ty135 rfl (by repeat constructor) rfl) ?_
    refine SL.v (op_eqlNil Tryz.underlying135 rfl rfl) <| SL.nil <| T.condT rfl <| T.region <| SL.mv rfl <| SL.mv rfl <| SL.v (op_toUns (size := 1) Tryz.underlying135 Tryz.underlying180 (by kernel_rfl) rfl AtO.here (by omega)) ?_
    refine SL.v (op_noEsc Tryz.func152 (by kernel_rfl) (by kernel_rfl) (by kernel_rfl) (by kernel_rfl) rfl) ?_
    refine SL.v (op_fromUns (size := 2) Tryz.underlying180 Tryz.underlying135 (by kernel_rfl) rfl AtO.here (by kernel_rfl)) ?_
    refine SL.v (op_nil rfl) <| SL.v (op_fieldAddr fa137_0 rfl) <| SL.w (op_store ty135 rfl rfl (by repeat constructor) rfl rfl rfl) ?_
    rintro _ _ _ ⟨rfl, rfl⟩
    refine SL.nil <| T.doneM0 [BldO b (.pointer (some ⟨b, 0, none⟩)) s] rfl (List.Perm.refl _) ?_
    exact ⟨PMap.le_refl _, rfl, rfl⟩
  · refine SpecM.enter Tryz.func132 rfl Tryz.ntmps132 rfl ?_
    intro w0 X0 own0
    refine T.seq <| T.region <| SL.mv rfl <| SL.v (op_nil rfl) <| SL.v (op_fieldAddr fa137_0 rfl) <| SL.v (op_load ty135 rfl (by repeat constructor) rfl) ?_
    refine SL.v (op_eqlNil Tryz.underlying135 rfl rfl) <| SL.nil <| T.condF rfl <| T.seq <| T.region <| SL.mv rfl <| SL.v (op_nil rfl) <| SL.v (op_fieldAddr fa137_0 rfl) <| SL.v (op_load ty135 rfl (by repeat constructor) rfl) ?_
    refine SL.mv rfl <| SL.v (op_neqSame (size := 2) Tryz.underlying135 (by kernel_rfl) rfl rfl) ?_
    refine SL.nil <| T.condF rfl <| T.skip <| T.doneM0 [BldO b (.pointer (some ⟨b, 0, none⟩)) s] rfl (List.Perm.refl _) ?_
    exact ⟨PMap.le_refl _, rfl, rfl⟩
end Go.Proofs.YtnabbnhefjfegaaGreatDoor
namespace Go.Proofs.YtnabbnhefjfegaaGreatDoor
section
set_option maxRecDepth 100000
theorem en132 : Enters Tryz.prog 132 := enters_mk Tryz.func132 (by kernel_rfl) rfl
theorem fa137_1 : FAdr Tryz.prog 137 1 1 := fadr_mk Tryz.underlying137 rfl rfl (by kernel_rfl)
theorem ty64 : Ty Tryz.prog 64 false 1 := ⟨⟨_, Tryz.underlying64, rfl⟩, by kernel_rfl⟩
end
open Go.RowKit
/-- The builder's bytes. -/
def BufG (l : List UInt8) (s : Value) (G : Own) : Prop := GrowS 5 1 s l.length (Lib.byteCells l) G
theorem builderString_spec {X : PMap} {b : Nat} {p s : Value} {G : Own} {l : List UInt8} (hG : BufG l s G) (h0 : l ≠ []) (hl : l.length < 1000000000) :
    SpecM Tryz.prog 80 [.pointer (some ⟨b, 0, none⟩)] X (BldO b p s :: G) fun u L' _ => u = .string ⟨l.toArray⟩ ∧ L' = [BldO b p s] := by
  rcases hG with ⟨hz, _⟩ | ⟨g, cap, rfl, rfl, hc1, hc2, hc3⟩
  · exact absurd (List.eq_nil_of_length_eq_zero hz) h0
  have hpos : 0 < l.length := List.length_pos_iff.2 h0
  refine SpecM.enter Tryz.func80 rfl Tryz.ntmps80 rfl ?_
  intro w0 X0 own0
  refine T.perm (own' := (BldO b p (.slice (some ⟨g, 0, none⟩) l.length cap) :: own0) ++ [⟨g, Lib.byteCells l, 5, cap * 1⟩]) permC ?_
  refine T.seq <| T.region <| SL.as rfl <| SL.nil <| T.seq <| T.drawG (own0 := BldO b p (.slice (some ⟨g, 0, none⟩) l.length cap) :: own0) (by kernel_rfl) 12 [.t 0, .t 1, .t 2, .t 3, .t 4, .t 5, .t 6, .t 7, .t 8, .t 9, .r 10, .t 11] (by kernel_rfl) ?_
  refine SD.take rfl panicBody (op_move rfl) rfl rfl ?_
  refine SD.take rfl panicBody (op_nil rfl) rfl rfl ?_
  refine SD.take rfl panicBody (op_fieldAddr fa137_1 rfl) rfl rfl ?_
  refine SD.take rfl panicBody (op_load ty64 rfl (by repeat constructor) rfl) rfl rfl ?_
  refine SD.take rfl panicBody (op_sliceData rfl (by omega)) rfl rfl ?_
  refine SD.take rfl panicBody (op_move rfl) rfl rfl ?_
  refine SD.take rfl panicBody (op_nil rfl) rfl rfl ?_
  refine SD.take rfl panicBody (op_fieldAddr fa137_1 rfl) rfl rfl ?_
  refine SD.take rfl panicBody (op_load ty64 rfl (by repeat constructor) rfl) rfl rfl ?_
  refine SD.take rfl panicBody (op_lenS Tryz.underlying64 rfl) rfl rfl ?_
  refine SD.runK rfl (op_unsafeStr Tryz.underlying174 (by kernel_rfl) rfl rfl h0 hc1 hc2) (by rintro _ _ _ ⟨rfl, rfl, rfl⟩; exact ⟨fun p hp => hp, PMap.le_refl _⟩) rfl rfl ?_
  rintro _ _ _ ⟨rfl, rfl, rfl⟩
  refine SD.take rfl panicBody (op_assign rfl) rfl rfl ?_
  refine SD.nil ?_
  show SL _ _ _ _ _ _ _ [] _ _ _
  refine SL.nil <| T.retM1 [BldO b p (.slice (some ⟨g, 0, none⟩) l.length cap)] rfl (ResIs.tmp rfl) (List.Perm.refl _) ?_
  exact ⟨PMap.le_refl _, rfl, rfl⟩
end Go.Proofs.YtnabbnhefjfegaaGreatDoor
namespace Go.Proofs.YtnabbnhefjfegaaGreatDoor
section
set_option maxRecDepth 100000
theorem en133 : Enters Tryz.prog 133 := enters_mk Tryz.func133 (by kernel_rfl) rfl
theorem en77 : Enters Tryz.prog 77 := enters_mk Tryz.func77 (by kernel_rfl) rfl
theorem en78 : Enters Tryz.prog 78 := enters_mk Tryz.func78 (by kernel_rfl) rfl
theorem en80 : Enters Tryz.prog 80 := enters_mk Tryz.func80 (by kernel_rfl) rfl
theorem z137 : Zero Tryz.prog 137 [.pointer none, .slice none 0 0] := ⟨zero_of (by kernel_rfl)⟩
end
open Go.RowKit
section
variable {P : Program} {n : NM} {w0 : Base} {X0 X : PMap} {own : Own} {env : Env}
/-- append of a string onto nil. -/
theorem op_appendStrNil {t u e : TypeId} {s x : Operand} {str : ByteArray} (ht : P.underlying t = some (.slice e)) (hu : P.underlying u = some .string) (hi : ∃ i, P.info? e = some i ∧ i.zero = some (.int .u8 0) ∧ i.size = 1 ∧ i.bytes = 1) (hs : eev env s = some (.slice none 0 0)) (hx : eev env x = some (.string str))
    (h0 : 0 < str.size) (hby : str.size ≤ 140737488355328) :
    OpX P n w0 X0 env own X (.call { callee := .builtin .append, args := #[s, x], argTypes := #[t, u] }) false fun v own' X' => ∃ b cap, v = .slice (some ⟨b, 0, none⟩) str.size cap ∧ own' = ⟨b, Lib.strCells str, e, cap * 1⟩ :: own ∧ X = X' ∧ str.size ≤ cap ∧ cap ≤ maxLen := by
  intro a W oper K Q ro hop ha hsat hK
  obtain ⟨i, i1, i2, i3, i4⟩ := hi
  have hmx : maxLen = 9223372036854775807 := rfl
  have hr := run_append_nil_string (P := P) W t u oper.type e i (.int .u8 0) ht hu i1 i2 str h0 (by omega) (by rw [i4]; omega)
  have hcap := grownCap_ge W str.size 0 e
  have hcm := grownCap_le_maxLen W str.size 0 e (by omega)
  generalize grownCap W str.size 0 e = cap at *
  have hcells : (str.data.map (fun b => Value.int .u8 b.toNat) ++ Builtin.zeroCells (Value.int .u8 0).cells (cap - str.size)) = (Lib.strCells str ++ List.replicate (cap - str.size) (Value.int .u8 0)).toArray := by
    apply Array.ext'
    simp [Lib.strCells, Builtin.zeroCells, Value.cells]
    apply List.ext_getElem
    · simp
    · intro q h1 h2
      simp [Nat.mod_one]
  rw [hcells] at hr
  have hlen : (Lib.strCells str ++ List.replicate (cap - str.size) (Value.int .u8 0)).length = cap * 1 := by
    rw [List.length_append, Lib.strCells_length, List.length_replicate]; omega
  have h1 := (hsat.draw (W.drawn + 1)).alloc (Lib.strCells str ++ List.replicate (cap - str.size) (Value.int .u8 0)) e
  rw [hlen] at h1
  have h2 := h1.less (j := 0) rfl
  have hex : (execOp a.eval oper).run P W = .ok (.value (.slice (some ⟨W.heap.size, 0, none⟩) str.size cap)) (W.drew.alloc (.cells (Lib.strCells str ++ List.replicate (cap - str.size) (Value.int .u8 0)).toArray e)) := by
    simp only [execOp, hop, resolve, invoke, builtin, Sem.run_bind, Sem.run_pure, Result.andThen_ok, List.map_toArray, List.map_cons, List.map_nil, ha.eval hs, ha.eval hx, hr]
  exact wp_value (noDefer_spec (by rw [hop]; rfl)) hex (hK _ _ X _ ⟨_, cap, rfl, rfl, rfl, hcap, hcm⟩ h2 (fun h => by cases h))
/-- bytealg.MakeNoZero: a new row whose bytes nobody knows. -/
theorem op_makeNoZero {f : FuncId} {gn : Func} {x : Operand} {ts ps : Array TypeId} {t e : TypeId} {k : Nat} (hf : P.funcs[f]? = some gn) (h1 : (gn.name == "runtime.NumGoroutine") = false) (h2 : gn.body.isNone = true) (h3 : Extern.findNext gn = none) (h4 : Extern.find gn = some (Extern.BytealgMakeNoZero.makeNoZero ps #[t]))
    (ht : P.underlying t = some (.slice e)) (hx : eev env x = some (.int .i64 (k : Int))) (hk : k ≤ 281474976710656) :
    OpX P n w0 X0 env own X (.call { callee := .value (.func f), args := #[x], argTypes := ts }) false fun v own' X' => ∃ b cap, v = .slice (some ⟨b, 0, none⟩) k cap ∧ own' = ⟨b, [], e, cap * 1⟩ :: own ∧ X = X' ∧ k ≤ cap ∧ cap ≤ maxLen := by
  intro a W oper K Q ro hop ha hsat hK
  have hmx : maxLen = 9223372036854775807 := rfl
  obtain ⟨cs, hr, hc1, hc2⟩ := Lib.run_makeNoZero (P := P) W ps t e ht k hk
  have hc : a.eval (.func f) = .func (.func f) #[] #[] := ha.eval rfl
  have hr2 := run_callFunc_extern hf h1 h2 h3 h4 #[.int .i64 (k : Int)] W
  rw [hr] at hr2
  have hex : (execOp a.eval oper).run P W = .ok (.value (.slice (some ⟨W.heap.size, 0, none⟩) k cs.size)) (W.drew.drew.alloc (.cells cs e)) := by
    simp only [execOp, hop, resolve, hc, Deferred.ofValue, invoke, Sem.run_bind, Sem.run_pure, Result.andThen_ok]
    simpa [ha.eval hx] using hr2
  have s1 := ((hsat.draw (W.drawn + 1)).draw (W.drawn + 1 + 1)).alloc cs.toList e
  rw [show cs.toList.length = cs.size * 1 by simp] at s1
  have s2 := s1.less (j := 0) (cs := []) (ds := cs.toList) rfl
  exact wp_value (noDefer_spec (by rw [hop]; rfl)) hex (hK _ _ X _ ⟨_, cs.size, rfl, rfl, rfl, hc1, hc2 (by omega)⟩ s2 (fun h => by cases h))
end
/-- WriteString, whatever the builder holds. -/
theorem writeStr_spec {X : PMap} {b : Nat} {p s : Value} {G : Own} {l : List UInt8} {t : ByteArray} (hp : p = .pointer none ∨ p = .pointer (some ⟨b, 0, none⟩)) (hG : BufG l s G) (hl : l.length < 1000000000) (ht : t.size < 1000000000) (h0 : 0 < t.size) :
    SpecM Tryz.prog 78 [.pointer (some ⟨b, 0, none⟩), .string t] X (BldO b p s :: G) fun u L' _ => u = .tuple #[.int .i64 (t.size : Int), .nilIface] ∧ ∃ s' G', L' = BldO b (.pointer (some ⟨b, 0, none⟩)) s' :: G' ∧ BufG (l ++ t.data.toList) s' G' := by
  have hts : t.data.toList.length = t.size := by simp
  rcases hG with ⟨hz, hcs, rfl, rfl⟩ | ⟨g, cap, rfl, rfl, hc1, hc2, hc3⟩
  · obtain rfl : l = [] := List.eq_nil_of_length_eq_zero hz
    refine SpecM.enter Tryz.func78 rfl Tryz.ntmps78 rfl ?_
    intro w0 X0 own0
    refine T.perm (own' := BldO b p (.slice none 0 0) :: own0) (List.Perm.refl _) ?_
    refine T.seq <| T.region <| SL.v (op_assign (v := .int .i64 ((0 : Nat) : Int)) rfl) <| SL.as rfl <| SL.nil <| T.seq <| T.region <| SL.mv rfl <| SL.w (op_callM en132 (vs := [_]) rfl (copyCheck_spec hp) rfl) ?_
    rintro _ _ X1 ⟨_, rfl, hX1, rfl, rfl⟩
    refine SL.nil <| T.seq <| T.region <| SL.mv rfl <| SL.mv rfl <| SL.v (op_nil rfl) <| SL.v (op_fieldAddr fa137_1 rfl) <| SL.v (op_load ty64 rfl (by repeat constructor) rfl) ?_
    refine SL.mv rfl <| SL.w (op_appendStrNil Tryz.underlying64 Tryz.underlying9 (infoStr_of (by kernel_rfl)) rfl rfl h0 (by omega)) ?_
    rintro _ _ _ ⟨g, cap, rfl, rfl, rfl, hc1, hc2⟩
    refine SL.v (op_nil rfl) <| SL.v (op_fieldAddr fa137_1 rfl) <| SL.w (op_store ty64 rfl rfl (by repeat constructor) rfl rfl rfl) ?_
    rintro _ _ _ ⟨rfl, rfl⟩
    refine SL.nil <| T.seq <| T.region <| SL.mv rfl <| SL.v (op_lenStr Tryz.underlying9 rfl) <| SL.as rfl <| SL.as rfl <| SL.nil <| T.retM2 (BldO b (.pointer (some ⟨b, 0, none⟩)) _ :: [_]) rfl (ResIs.tmp rfl) (ResIs.tmp rfl) (List.Perm.swap _ _ _) ?_
    refine ⟨hX1, rfl, _, _, rfl, ?_⟩
    rw [BufG, List.nil_append, hts]
    exact .inr ⟨g, cap, rfl, rfl, hc1, hc2, by rw [Lib.byteCells_length, hts]; omega⟩
  · refine SpecM.enter Tryz.func78 rfl Tryz.ntmps78 rfl ?_
    intro w0 X0 own0
    show T _ _ _ _ _ _ _ _ _ (BldO b p _ :: ([_] ++ own0)) _
    refine T.seq <| T.region <| SL.v (op_assign (v := .int .i64 ((0 : Nat) : Int)) rfl) <| SL.as rfl <| SL.nil <| T.seq <| T.region <| SL.mv rfl <| SL.w (op_callM en132 (vs := [_]) rfl (copyCheck_spec hp) rfl) ?_
    rintro _ _ X1 ⟨_, rfl, hX1, rfl, rfl⟩
    refine SL.nil <| T.seq <| T.region <| SL.mv rfl <| SL.mv rfl <| SL.v (op_nil rfl) <| SL.v (op_fieldAddr fa137_1 rfl) <| SL.v (op_load ty64 rfl (by repeat constructor) rfl) ?_
    refine SL.mv rfl <| SL.perm (own' := (BldO b (.pointer (some ⟨b, 0, none⟩)) (.slice (some ⟨g, 0, none⟩) l.length cap) :: own0) ++ [⟨g, Lib.byteCells l, 5, cap * 1⟩]) (permA (G := [_])) ?_
    refine SL.w (op_appendStr (own := BldO b (.pointer (some ⟨b, 0, none⟩)) (.slice (some ⟨g, 0, none⟩) l.length cap) :: own0) Tryz.underlying64 Tryz.underlying9 (infoStr_of (by kernel_rfl)) rfl rfl hc1 hc2 hc3 (by omega)) ?_
    rintro s' _ _ ⟨G', rfl, rfl, hG', _⟩
    obtain ⟨As', cps', rfl⟩ := hG'.form
    refine SL.v (op_nil rfl) <| SL.v (op_fieldAddr fa137_1 rfl) <| SL.w (op_store ty64 rfl rfl (by repeat constructor) rfl rfl rfl) ?_
    rintro _ _ _ ⟨rfl, rfl⟩
    refine SL.nil <| T.seq <| T.region <| SL.mv rfl <| SL.v (op_lenStr Tryz.underlying9 rfl) <| SL.as rfl <| SL.as rfl <| SL.nil <| T.retM2 (BldO b (.pointer (some ⟨b, 0, none⟩)) _ :: G') rfl (ResIs.tmp rfl) (ResIs.tmp rfl) permD ?_
    refine ⟨hX1, rfl, _, G', rfl, ?_⟩
    have e : Lib.byteCells (l ++ t.data.toList) = Lib.byteCells l ++ Lib.strCells t := by rw [Lib.byteCells_append]; rfl
    rw [BufG, e, List.length_append, hts]
    exact hG'
theorem growB_spec {X : PMap} {b : Nat} {p : Value} {k : Nat} (hk : k < 1000000000) (hk0 : 0 < k) : SpecM Tryz.prog 133 [.pointer (some ⟨b, 0, none⟩), .int .i64 (k : Int)] X [BldO b p (.slice none 0 0)] fun _ L' _ => ∃ s G, L' = BldO b p s :: G ∧ BufG [] s G := by
  refine SpecM.enter Tryz.func133 rfl Tryz.ntmps133 rfl ?_
  intro w0 X0 own0
  refine T.perm (own' := BldO b p (.slice none 0 0) :: own0) (List.Perm.refl _) ?_
  refine T.seq <| T.draw (by kernel_rfl) 16 [.t 0, .t 1, .t 2, .t 3, .t 4, .t 5, .t 6, .t 7, .t 9, .t 10, .t 11, .t 12, .t 13, .r 8, .t 14, .t 15] (by kernel_rfl) ?_
  refine SD.take rfl panicBody (op_move rfl) rfl rfl ?_
  refine SD.take rfl panicBody (op_nil rfl) rfl rfl ?_
  refine SD.take rfl panicBody (op_fieldAddr fa137_1 rfl) rfl rfl ?_
  refine SD.take rfl panicBody (op_load ty64 rfl (by repeat constructor) rfl) rfl rfl ?_
  refine SD.take rfl panicBody (op_capS Tryz.underlying64 rfl) rfl rfl ?_
  refine SD.take rfl panicBody (op_mulN (p := 2) (q := 0) rfl rfl (by omega)) rfl rfl ?_
  refine SD.take rfl panicBody (op_move rfl) rfl rfl ?_
  refine SD.take rfl panicBody (op_addN (p := 2 * 0) rfl rfl (by omega)) rfl rfl ?_
  refine SD.take rfl panicBody (op_move rfl) rfl rfl ?_
  refine SD.take rfl panicBody (op_nil rfl) rfl rfl ?_
  refine SD.take rfl panicBody (op_fieldAddr fa137_1 rfl) rfl rfl ?_
  refine SD.take rfl panicBody (op_load ty64 rfl (by repeat constructor) rfl) rfl rfl ?_
  refine SD.take rfl panicBody (op_lenS Tryz.underlying64 rfl) rfl rfl ?_
  refine SD.runK rfl (op_makeNoZero (ps := #[3]) (k := 2 * 0 + k) Tryz.func153 (by kernel_rfl) (by kernel_rfl) (by kernel_rfl) (by kernel_rfl) Tryz.underlying64 rfl (by omega)) (by rintro _ _ _ ⟨g, cap, rfl, rfl, rfl, _, _⟩; exact ⟨fun p hp => List.mem_cons_of_mem _ hp, PMap.le_refl _⟩) rfl rfl ?_
  rintro _ _ _ ⟨g, cap, rfl, rfl, rfl, hc1, hc2⟩
  refine SD.take rfl panicBody (op_sliceHiN (l := 0) Tryz.underlying64 ty5 rfl rfl rfl (by omega)) rfl rfl ?_
  refine SD.take rfl panicBody (op_assign rfl) rfl rfl ?_
  refine SD.nil ?_
  show SL _ _ _ _ _ _ _ [] _ _ _
  refine SL.nil <| T.seq <| T.region <| SL.mv rfl <| SL.mv rfl <| SL.v (op_nil rfl) <| SL.v (op_fieldAddr fa137_1 rfl) <| SL.v (op_load ty64 rfl (by repeat constructor) rfl) ?_
  refine SL.w (op_copyS (m := 0) (size := 1) (sl := 0) (news := []) Tryz.underlying64 (by kernel_rfl) rfl rfl AtO.here Src.nil rfl (by simp) (fun _ h => by cases h)) ?_
  rintro _ _ _ ⟨rfl, rfl, rfl⟩
  refine SL.nil <| T.region <| SL.mv rfl <| SL.mv rfl <| SL.v (op_nil rfl) <| SL.v (op_fieldAddr fa137_1 rfl) <| SL.w (op_store ty64 rfl rfl (by repeat constructor) rfl rfl rfl) ?_
  rintro _ _ _ ⟨rfl, rfl⟩
  refine SL.nil <| T.doneM0 (BldO b p _ :: [_]) rfl (List.Perm.swap _ _ _) ?_
  exact ⟨PMap.le_refl _, _, _, rfl, .inr ⟨g, cap, rfl, rfl, Nat.zero_le _, hc2, rfl⟩⟩
/-- Grow of a builder that holds nothing. -/
theorem growBld_spec {X : PMap} {b : Nat} {p : Value} {k : Nat} (hp : p = .pointer none ∨ p = .pointer (some ⟨b, 0, none⟩)) (hk : k < 1000000000) (hk0 : 0 < k) : SpecM Tryz.prog 77 [.pointer (some ⟨b, 0, none⟩), .int .i64 (k : Int)] X [BldO b p (.slice none 0 0)] fun _ L' _ => ∃ s G, L' = BldO b (.pointer (some ⟨b, 0, none⟩)) s :: G ∧ BufG [] s G := by
  refine SpecM.enter Tryz.func77 rfl Tryz.ntmps77 rfl ?_
  intro w0 X0 own0
  refine T.perm (own' := [BldO b p (.slice none 0 0)] ++ own0) (List.Perm.refl _) ?_
  refine T.seq <| T.region <| SL.mv rfl <| SL.w (op_callM en132 (vs := [_]) rfl (copyCheck_spec hp) rfl) ?_
  rintro _ _ X1 ⟨_, rfl, hX1, rfl, rfl⟩
  refine SL.nil <| T.seq <| T.seq <| T.region <| SL.mv rfl <| SL.v (op_lssF rfl rfl (by omega)) ?_
  refine SL.nil <| T.condF rfl <| T.skip <| T.seq <| T.draw (by kernel_rfl) 13 [.t 0, .t 1, .t 2, .t 3, .t 4, .t 5, .t 6, .t 7, .t 8, .t 9, .t 10, .t 11, .t 12] (by kernel_rfl) ?_
  refine SD.take rfl panicBody (op_move rfl) rfl rfl ?_
  refine SD.take rfl panicBody (op_nil rfl) rfl rfl ?_
  refine SD.take rfl panicBody (op_fieldAddr fa137_1 rfl) rfl rfl ?_
  refine SD.take rfl panicBody (op_load ty64 rfl (by repeat constructor) rfl) rfl rfl ?_
  refine SD.take rfl panicBody (op_capS Tryz.underlying64 rfl) rfl rfl ?_
  refine SD.take rfl panicBody (op_move rfl) rfl rfl ?_
  refine SD.take rfl panicBody (op_nil rfl) rfl rfl ?_
  refine SD.take rfl panicBody (op_fieldAddr fa137_1 rfl) rfl rfl ?_
  refine SD.take rfl panicBody (op_load ty64 rfl (by repeat constructor) rfl) rfl rfl ?_
  refine SD.take rfl panicBody (op_lenS Tryz.underlying64 rfl) rfl rfl ?_
  refine SD.take rfl panicBody (op_subN (p := 0) (q := 0) rfl rfl (by omega) (by omega)) rfl rfl ?_
  refine SD.take rfl panicBody (op_move rfl) rfl rfl ?_
  refine SD.take rfl panicBody (op_lssT rfl rfl (by omega)) rfl rfl ?_
  refine SD.nil ?_
  show SL _ _ _ _ _ _ _ [] _ _ _
  refine SL.nil <| T.condT rfl <| T.region <| SL.mv rfl <| SL.mv rfl <| SL.w (op_callM en133 (vs := [_, _]) rfl (growB_spec hk hk0) rfl) ?_
  rintro _ _ X2 ⟨_, rfl, hX2, s, G, rfl, hG⟩
  refine SL.nil <| T.doneM0 (BldO b _ s :: G) rfl (List.Perm.refl _) ?_
  exact ⟨hX1.trans' hX2, s, G, rfl, hG⟩
def joinL (sep : ByteArray) : List ByteArray → List UInt8
  | [] => []
  | s :: l => s.data.toList ++ (l.map fun t => sep.data.toList ++ t.data.toList).flatten
def sumS (l : List ByteArray) : Nat := (l.map (·.size)).sum
theorem sumS_snoc (l : List ByteArray) (s : ByteArray) : sumS (l ++ [s]) = sumS l + s.size := by simp [sumS]
theorem joinL_snoc (sep : ByteArray) (a : ByteArray) (l : List ByteArray) (s : ByteArray) : joinL sep (a :: (l ++ [s])) = joinL sep (a :: l) ++ sep.data.toList ++ s.data.toList := by simp [joinL]
theorem sumS_take_le : ∀ (l : List ByteArray) (k : Nat), sumS (l.take k) ≤ sumS l
  | [], k => by simp
  | s :: l, 0 => by simp [sumS]
  | s :: l, k + 1 => by
    have := sumS_take_le l k
    simp only [sumS, List.take_succ_cons, List.map_cons, List.sum_cons] at this ⊢; omega
theorem sumS_mem {x : ByteArray} : ∀ {l : List ByteArray}, x ∈ l → x.size ≤ sumS l
  | y :: l, hm => by
    simp only [sumS, List.map_cons, List.sum_cons]
    rcases List.mem_cons.1 hm with rfl | hm
    · omega
    · have := sumS_mem hm; simp only [sumS] at this; omega
theorem joinL_len (sep : ByteArray) : ∀ (a : ByteArray) (l : List ByteArray), (joinL sep (a :: l)).length = sumS (a :: l) + sep.size * l.length
  | a, [] => by simp [joinL, sumS]
  | a, s :: l => by
    have := joinL_len sep a l
    simp only [joinL, sumS, List.map_cons, List.flatten_cons, List.sum_cons, List.length_append, List.length_cons, Nat.mul_succ] at this ⊢
    have e1 : a.data.toList.length = a.size := by simp
    have e2 : s.data.toList.length = s.size := by simp
    have e3 : sep.data.toList.length = sep.size := by simp
    omega
theorem join_spec {X : PMap} {v : Value} {l : List ByteArray} {sep : ByteArray} (h : RowR (fun s : ByteArray => [Value.string s]) X v l) (h1 : 1 ≤ l.length) (hl : l.length < 1000) (hs : sumS l < 100000000) (hz : ∀ s ∈ l, 0 < s.size) (hsp : 0 < sep.size) (hsp2 : sep.size < 1000) : Spec Tryz.prog 116 [v, .string sep] X fun u _ => u = .string ⟨(joinL sep l).toArray⟩ := by
  obtain ⟨A, cp, rfl⟩ := h.form
  obtain ⟨b0, pre, rfl, hB⟩ := h.blk (by omega)
  have hcap := h.cap (by omega)
  have hrd : ∀ {i k' : Nat} {s : ByteArray}, l[i]? = some s → k' = pre.length + i * 1 → cread false 1 (pre ++ (l.map fun s : ByteArray => [Value.string s]).flatten) k' = some (.string s) := fun hi e => row_cell (sz := 1) (j := 0) (fun _ => rfl) hi rfl (by omega)
  obtain ⟨a, l', rfl⟩ : ∃ a l', l = a :: l' := by
    cases l with
    | nil => simp at h1
    | cons a l' => exact ⟨a, l', rfl⟩
  rcases Nat.eq_zero_or_pos l'.length with h0 | h0
  · obtain rfl : l' = [] := List.eq_nil_of_length_eq_zero h0
    refine Spec.enter Tryz.func116 rfl Tryz.ntmps116 rfl ?_
    intro w0 hw0
    refine T.seq <| T.region <| SL.as rfl <| SL.nil <| T.seq <| T.seq <| T.region <| SL.mv rfl <| SL.v (op_lenS Tryz.underlying37 rfl) <| SL.nil <| T.block <| T.seq <| T.region <| SL.v (op_eqlF rfl rfl (by omega)) ?_
    refine SL.as rfl <| SL.nil <| T.condF rfl <| T.seq <| T.region <| SL.v (op_eql rfl rfl) <| SL.as rfl <| SL.nil <| T.condT rfl <| T.seq <| T.region <| SL.mv rfl <| SL.v (op_index Tryz.underlying37 ty9 rfl rfl (by omega) (by omega)) ?_
    refine SL.v (op_loadX ty9 rfl hB (hrd (i := 0) rfl (by omega))) ?_
    refine SL.as rfl <| SL.nil <| T.ret1 rfl (ResIs.tmp rfl) ?_
    simp [joinL]
  · have hd := h.drop (sz := 1) (fun _ => rfl) (k := 1) (by omega)
    simp only [List.length_cons, Nat.add_sub_cancel, List.drop_succ_cons, List.drop_zero] at h hd hcap hl h1
    have hq := joinL_len sep a l'
    have hmul : sep.size * l'.length ≤ 1000 * 1000 := Nat.mul_le_mul (by omega) (by omega)
    have hdiv : 9223372036854775807 / 1000 ≤ 9223372036854775807 / l'.length := Nat.div_le_div_left (by omega) (by omega)
    have hdv : (9223372036854775807 : Nat) / 1000 = 9223372036854775 := by decide
    rw [hdv] at hdiv
    have hmx : maxLen = 9223372036854775807 := rfl
    have hsa : 0 < a.size := hz a (by simp)
    have hsum : sumS (a :: l') = a.size + sumS l' := by simp [sumS]
    simp only [List.length_cons]
    refine Spec.enter Tryz.func116 rfl Tryz.ntmps116 rfl ?_
    intro w0 hw0
    refine T.seq <| T.region <| SL.as rfl <| SL.nil <| T.seq <| T.seq <| T.region <| SL.mv rfl <| SL.v (op_lenS Tryz.underlying37 rfl) <| SL.nil <| T.block <| T.seq <| T.region <| SL.v (op_eqlF rfl rfl (by omega)) ?_
    refine SL.as rfl <| SL.nil <| T.condF rfl <| T.seq <| T.region <| SL.v (op_eqlF rfl rfl (by omega)) ?_
    refine SL.as rfl <| SL.nil <| T.condF rfl <| T.skip <| T.blk <| T.seq <| T.region <| SL.v (op_assign (v := .int .i64 ((0 : Nat) : Int)) rfl) <| SL.nil <| T.seq <| T.seq <| T.region <| SL.mv rfl <| SL.v (op_lenStr Tryz.underlying9 rfl) <| SL.v (op_gtrT rfl rfl (by omega)) ?_
    refine SL.nil <| T.condT rfl <| T.seq <| T.seq <| T.region <| SL.mv rfl <| SL.v (op_lenStr Tryz.underlying9 rfl) <| SL.mv rfl <| SL.v (op_lenS Tryz.underlying37 rfl) <| SL.v (op_subN (p := l'.length + 1) (q := 1) rfl rfl (by omega) (by omega)) ?_
    rw [Nat.add_sub_cancel]
    refine SL.v (op_quoN (p := 9223372036854775807) (q := l'.length) rfl rfl rfl (by omega) (by omega)) ?_
    refine SL.v (op_geqF rfl rfl (by omega)) ?_
    refine SL.nil <| T.condF rfl <| T.skip <| T.region <| SL.mv rfl <| SL.mv rfl <| SL.v (op_lenStr Tryz.underlying9 rfl) <| SL.mv rfl <| SL.v (op_lenS Tryz.underlying37 rfl) <| SL.v (op_subN (p := l'.length + 1) (q := 1) rfl rfl (by omega) (by omega)) ?_
    rw [Nat.add_sub_cancel]
    refine SL.v (op_mulN rfl rfl (by omega)) ?_
    refine SL.v (op_addN (p := 0) rfl rfl (by omega)) ?_
    rw [Nat.zero_add]
    refine SL.as rfl <| SL.nil <| T.seq <| T.seq <| T.region <| SL.mv rfl <| SL.v (op_lenS Tryz.underlying37 rfl) <| SL.v (op_move (v := .int .i64 ((0 : Nat) : Int)) rfl) <| SL.nil <| T.block <| T.loopW (fun m env own X' => ∃ i : Nat, m = l'.length + 1 - i ∧ i ≤ l'.length + 1 ∧ X.le X' ∧ env = [(0, .slice (some ⟨b0, pre.length, none⟩) (l'.length + 1) cp), (1, .string sep), (5, .int .i64 ((sep.size * l'.length + sumS ((a :: l').take i) : Nat) : Int)), (39, .slice (some ⟨b0, pre.length, none⟩) (l'.length + 1) cp), (40, .int .i64 ((l'.length + 1 : Nat) : Int)), (41, .int .i64 (i : Int))] ∧ own = []) (l'.length + 1) ⟨0, by simp, by omega, PMap.le_refl _, rfl, rfl⟩ (by repeat (first | exact Sub.nil | refine Sub.cons rfl ?_)) ?_
    rintro m _ _ X1 ⟨i, rfl, hi, hX1, rfl, rfl⟩
    have htl := sumS_take_le (a :: l') i
    rcases Nat.lt_or_ge i (l'.length + 1) with hil | hil
    · obtain ⟨x, hx⟩ : ∃ x, (a :: l')[i]? = some x := ⟨_, List.getElem?_eq_getElem (by simpa using hil)⟩
      have hts : sumS ((a :: l').take (i + 1)) = sumS ((a :: l').take i) + x.size := by
        obtain ⟨g1, g2⟩ := List.getElem?_eq_some_iff.1 hx
        rw [List.take_succ_eq_append_getElem g1, g2, sumS_snoc]
      have htl2 := sumS_take_le (a :: l') (i + 1)
      refine T.seq <| T.region <| SL.v (op_lssT rfl rfl (by omega)) ?_
      refine SL.nil <| T.seq <| T.condT rfl <| T.skip <| T.seq <| T.block <| T.seq <| T.region <| SL.v (op_indexN Tryz.underlying37 ty9 rfl rfl (by omega)) ?_
      refine SL.v (op_loadX ty9 rfl (hB.mono hX1) (hrd hx (by omega))) ?_
      refine SL.as rfl <| SL.nil <| T.seq <| T.seq <| T.region <| SL.mv rfl <| SL.v (op_lenStr Tryz.underlying9 rfl) <| SL.mv rfl <| SL.v (op_subN (p := 9223372036854775807) rfl rfl (by omega) (by omega)) ?_
      refine SL.v (op_gtrF rfl rfl (by omega)) ?_
      refine SL.nil <| T.condF rfl <| T.skip <| T.region <| SL.mv rfl <| SL.mv rfl <| SL.v (op_lenStr Tryz.underlying9 rfl) <| SL.v (op_addN rfl rfl (by omega)) ?_
      rw [show sep.size * l'.length + sumS ((a :: l').take i) + x.size = sep.size * l'.length + sumS ((a :: l').take (i + 1)) by omega]
      refine SL.as rfl <| SL.nil <| T.blk <| T.region <| SL.v (op_addN (q := 1) rfl rfl (by omega)) ?_
      refine SL.mv rfl <| SL.nil ?_
      exact T.backW (l'.length + 1 - (i + 1)) (by omega) ⟨i + 1, rfl, by omega, hX1, rfl, rfl⟩ (by repeat (first | exact Sub.nil | refine Sub.cons rfl ?_))
    · obtain rfl : i = l'.length + 1 := by omega
      rw [show (a :: l').take (l'.length + 1) = a :: l' from List.take_of_length_le (by simp)]
      refine T.seq <| T.region <| SL.v (op_lssF rfl rfl (by omega)) ?_
      refine SL.nil <| T.seq <| T.condF rfl ?_
      refine T.exit (T.exitCode (T.exitCut (T.exitBlk ?_)))
      refine T.seq <| T.region <| SL.w (op_alloc z137) ?_
      rintro _ _ _ ⟨B8, rfl, rfl, rfl⟩
      refine SL.nil <| T.seq <| T.region <| SL.mv rfl <| SL.w (op_callM en77 (vs := [_, _]) rfl (growBld_spec (.inl rfl) (by omega) (by omega)) rfl) ?_
      rintro _ _ X2 ⟨_, rfl, hX2, s2, G2, rfl, hG2⟩
      refine SL.nil <| T.seq <| T.region <| SL.mv rfl <| SL.v (op_index Tryz.underlying37 ty9 rfl rfl (by omega) (by omega)) ?_
      refine SL.v (op_loadX ty9 rfl ((hB.mono hX1).mono hX2) (hrd (i := 0) rfl (by omega))) ?_
      refine SL.w (op_callM en78 (vs := [_, _]) rfl (writeStr_spec (.inr rfl) hG2 (by simp) (by omega) hsa) rfl) ?_
      rintro _ _ X3 ⟨_, rfl, hX3, rfl, s3, G3, rfl, hG3⟩
      refine SL.nil <| T.seq <| T.seq <| T.region <| SL.mv rfl <| SL.v (op_sliceLo (l := 1) Tryz.underlying37 ty9 rfl rfl (by omega) (by omega)) ?_
      rw [Nat.add_sub_cancel]
      generalize slA (some ⟨b0, pre.length, none⟩) cp 1 1 = A1 at *
      rw [List.nil_append] at hG3
      refine SL.v (op_lenS Tryz.underlying37 rfl) <| SL.v (op_move (v := .int .i64 ((0 : Nat) : Int)) rfl) <| SL.nil <| T.block <| T.loopW (fun m env own X' => ∃ (i : Nat) (s : Value) (G : Own), m = l'.length - i ∧ i ≤ l'.length ∧ X3.le X' ∧ BufG (joinL sep (a :: l'.take i)) s G ∧ env = [(1, .string sep), (8, .pointer (some ⟨B8, 0, none⟩)), (63, .slice A1 l'.length (cp - 1)), (64, .int .i64 (l'.length : Int)), (65, .int .i64 (i : Int))] ∧ own = (BldO B8 (.pointer (some ⟨B8, 0, none⟩)) s :: G) ++ []) l'.length ⟨0, _, _, by simp, by omega, PMap.le_refl _, by simpa [joinL] using hG3, rfl, rfl⟩ (by repeat (first | exact Sub.nil | refine Sub.cons rfl ?_)) ?_
      rintro m _ _ X4 ⟨i, s, G, rfl, hi, hX4, hG, rfl, rfl⟩
      have hjl := joinL_len sep a (l'.take i)
      have hsl : sumS (a :: l'.take i) = a.size + sumS (l'.take i) := by simp [sumS]
      have hst := sumS_take_le l' i
      have hml : sep.size * (l'.take i).length ≤ 1000 * 1000 := Nat.mul_le_mul (by omega) (by rw [List.length_take]; omega)
      rcases Nat.lt_or_ge i l'.length with hil | hil
      · obtain ⟨x, hx⟩ : ∃ x, l'[i]? = some x := ⟨_, List.getElem?_eq_getElem hil⟩
        have hxz := hz x (by simp [List.mem_of_getElem? hx])
        have hxs := sumS_mem (List.mem_of_getElem? hx)
        obtain ⟨b5, pre5, rfl, hB5⟩ := hd.blk (by omega)
        have hX34 := (hX1.trans' hX2).trans' (hX3.trans' hX4)
        refine T.seq <| T.region <| SL.v (op_lssT rfl rfl (by omega)) ?_
        refine SL.nil <| T.seq <| T.condT rfl <| T.skip <| T.seq <| T.block <| T.seq <| T.region <| SL.v (op_indexN Tryz.underlying37 ty9 rfl rfl (by omega)) ?_
        refine SL.v (op_loadX ty9 rfl (hB5.mono hX34) (row_cell (sz := 1) (j := 0) (fun _ => rfl) hx rfl (by omega))) ?_
        refine SL.as rfl <| SL.nil <| T.seq <| T.region <| SL.mv rfl <| SL.w (op_callM en78 (vs := [_, _]) rfl (writeStr_spec (.inr rfl) hG (by omega) (by omega) hsp) rfl) ?_
        rintro _ _ X5 ⟨_, rfl, hX5, rfl, s5, G5, rfl, hG5⟩
        refine SL.nil <| T.region <| SL.mv rfl <| SL.w (op_callM en78 (vs := [_, _]) rfl (writeStr_spec (.inr rfl) hG5 (by rw [List.length_append]; simp; omega) (by omega) hxz) rfl) ?_
        rintro _ _ X6 ⟨_, rfl, hX6, rfl, s6, G6, rfl, hG6⟩
        have hts : l'.take (i + 1) = l'.take i ++ [x] := by
          obtain ⟨g1, g2⟩ := List.getElem?_eq_some_iff.1 hx
          rw [List.take_succ_eq_append_getElem g1, g2]
        rw [← joinL_snoc, ← hts] at hG6
        refine SL.nil <| T.blk <| T.region <| SL.v (op_addN (q := 1) rfl rfl (by omega)) ?_
        refine SL.mv rfl <| SL.nil ?_
        exact T.backW (l'.length - (i + 1)) (by omega) ⟨i + 1, _, _, rfl, by omega, (hX4.trans' hX5).trans' hX6, hG6, rfl, rfl⟩ (by repeat (first | exact Sub.nil | refine Sub.cons rfl ?_))
      · obtain rfl : i = l'.length := by omega
        rw [List.take_length] at hG
        refine T.seq <| T.region <| SL.v (op_lssF rfl rfl (by omega)) ?_
        refine SL.nil <| T.seq <| T.condF rfl ?_
        refine T.exit (T.exitCode (T.exitCut (T.exitBlk ?_)))
        refine T.seq <| T.region <| SL.w (op_callM en80 (vs := [_]) rfl (builderString_spec hG (fun h => by rw [h] at hq; simp at hq; omega) (by omega)) rfl) ?_
        rintro _ _ X5 ⟨_, rfl, hX5, rfl, rfl⟩
        refine SL.as rfl <| SL.nil <| T.ret1 rfl (ResIs.tmp rfl) ?_
        rfl
end Go.Proofs.YtnabbnhefjfegaaGreatDoor
namespace Go.Proofs.YtnabbnhefjfegaaGreatDoor
section
set_option maxRecDepth 100000
theorem en114 : Enters Tryz.prog 114 := enters_mk Tryz.func114 (by kernel_rfl) rfl
theorem en115 : Enters Tryz.prog 115 := enters_mk Tryz.func115 (by kernel_rfl) rfl
theorem en116 : Enters Tryz.prog 116 := enters_mk Tryz.func116 (by kernel_rfl) rfl
theorem en117 : Enters Tryz.prog 117 := enters_mk Tryz.func117 (by kernel_rfl) rfl
theorem en118 : Enters Tryz.prog 118 := enters_mk Tryz.func118 (by kernel_rfl) rfl
theorem en58 : Enters Tryz.prog 58 := enters_mk Tryz.func58 (by kernel_rfl) rfl
end
open Go.RowKit
theorem decG_len : ∀ f v : Nat, (decG f v).length ≤ f
  | 0, _ => by simp [decG]
  | f + 1, v => by
    rw [decG]
    split
    · simp
    · have := decG_len f (v / 10)
      rw [List.length_append]; simp; exact this
theorem decB_size (v : Nat) : (decB v).size ≤ 20 := by
  have := decG_len 20 v
  show (decG 20 v).toArray.size ≤ 20
  simpa using this
theorem joinG_len : ∀ l : List ByteArray, (joinG l).length ≤ 2 * wtS l
  | [] => by simp [joinG]
  | s :: l => by
    have hl : ∀ l : List ByteArray, (l.map fun t : ByteArray => [(44 : UInt8), 32] ++ t.data.toList).flatten.length ≤ 2 * wtS l := by
      intro l
      induction l with
      | nil => simp
      | cons t l ih =>
        simp only [wtS, List.map_cons, List.flatten_cons, List.sum_cons, List.length_append, List.length_cons, List.length_nil] at ih ⊢
        have e : t.data.toList.length = t.size := by simp
        omega
    have h2 := hl l
    have e : s.data.toList.length = s.size := by simp
    simp only [joinG, List.length_append]
    simp only [wtS, List.map_cons, List.sum_cons] at h2 ⊢
    omega
theorem joinB_size (l : List ByteArray) : (joinB l).size ≤ 2 * wtS l := by
  have := joinG_len l
  show (joinG l).toArray.size ≤ _
  simpa using this
theorem headD_size (ns : List ByteArray) : (ns.headD ⟨#[]⟩).size ≤ wtS ns := by
  cases ns with
  | nil => exact Nat.zero_le _
  | cons s l => simp only [List.headD_cons, wtS, List.map_cons, List.sum_cons]; omega
theorem parB_size (s : Nat) (t : ByteArray) (k : Nat) : (parB s t k).size ≤ t.size + 2 := by
  have k1 : (⟨#[40]⟩ : ByteArray).size = 1 := rfl
  have k2 : (⟨#[41]⟩ : ByteArray).size = 1 := rfl
  unfold parB
  split
  · simp only [ByteArray.size_append]; omega
  · omega
theorem wordB_size (op : Nat) : (wordB op).size ≤ 5 := by
  unfold wordB
  split <;> decide
mutual
theorem text_size : ∀ e : Ex, (textE e).size ≤ 40 * wtE e
  | .mk op n ns al => by
    have h0 := textL_size al
    have h1 := decB_size n.toNat
    have h2 := joinB_size ns
    have h3 := headD_size ns
    have k1 : (⟨#[116, 114, 117, 101]⟩ : ByteArray).size = 4 := rfl
    have k2 : (⟨#[102, 97, 108, 115, 101]⟩ : ByteArray).size = 5 := rfl
    have k3 : (⟨#[99, 111, 117, 110, 116, 40]⟩ : ByteArray).size = 6 := rfl
    have k4 : (⟨#[41]⟩ : ByteArray).size = 1 := rfl
    have k5 : (⟨#[109, 101, 109, 98, 101, 114, 115, 40]⟩ : ByteArray).size = 8 := rfl
    have k6 : (⟨#[110, 111, 116, 32]⟩ : ByteArray).size = 4 := rfl
    have k7 : (⟨#[]⟩ : ByteArray).size = 0 := rfl
    rw [textE, wtE]
    split
    · omega
    · split
      · omega
      · split
        · omega
        · split
          · omega
          · split
            · simp only [ByteArray.size_append]; omega
            · split
              · simp only [ByteArray.size_append]; omega
              · split
                · omega
                · rename_i x hx
                  rw [hx] at h0
                  have := parB_size x.1 x.2 4
                  simp only [List.map_cons, List.map_nil, List.sum_cons, List.sum_nil] at h0
                  simp only [ByteArray.size_append]; omega
                · rename_i x y l hx
                  rw [hx] at h0
                  have := parB_size x.1 x.2 (lefN op)
                  have := parB_size y.1 y.2 (rigN op)
                  have := wordB_size op
                  simp only [List.map_cons, List.sum_cons] at h0
                  simp only [ByteArray.size_append]; omega
theorem textL_size : ∀ l : List Ex, ((textL l).map fun x : Nat × ByteArray => x.2.size).sum ≤ 40 * wtL l
  | [] => by simp [textL, wtL]
  | a :: l => by
    have h1 := text_size a
    have h2 := textL_size l
    rw [textL, wtL, List.map_cons, List.sum_cons]
    simp only at h1 h2 ⊢
    omega
end
theorem strN_le (op : Nat) : strN op ≤ 7 := by
  unfold strN
  split
  · omega
  · skip
    split
    · omega
    · skip
      split
      · omega
      · skip
        split
        · omega
        · skip
          split
          · omega
          · skip
            split
            · omega
            · omega
theorem strength_spec {X : PMap} {op : Nat} : Spec Tryz.prog 114 [.int .u8 (op : Int)] X fun u _ => u = .int .i64 (strN op : Int) := by
  by_cases h1 : op = 10
  · refine Spec.enter Tryz.func114 rfl Tryz.ntmps114 rfl ?_
    intro w0 hw0
    refine T.seq <| T.region <| SL.v (op_assign (v := .int .i64 ((0 : Nat) : Int)) rfl) <| SL.nil <| T.seq <| T.block <| T.seq <| T.region <| SL.mv rfl <| SL.v (op_eqlT rfl rfl (by omega)) ?_
    refine SL.as rfl <| SL.nil <| T.condT rfl <| T.seq <| T.region <| SL.v (op_assign (v := .int .i64 ((1 : Nat) : Int)) rfl) <| SL.nil <| T.ret1 rfl (ResIs.tmp rfl) ?_
    rw [strN, if_pos h1]
  by_cases h2 : op = 9
  · refine Spec.enter Tryz.func114 rfl Tryz.ntmps114 rfl ?_
    intro w0 hw0
    refine T.seq <| T.region <| SL.v (op_assign (v := .int .i64 ((0 : Nat) : Int)) rfl) <| SL.nil <| T.seq <| T.block <| T.seq <| T.region <| SL.mv rfl <| SL.v (op_eqlF rfl rfl (by omega)) ?_
    refine SL.as rfl <| SL.nil <| T.condF rfl <| T.seq <| T.region <| SL.mv rfl <| SL.v (op_eqlT rfl rfl (by omega)) ?_
    refine SL.as rfl <| SL.nil <| T.condT rfl <| T.seq <| T.region <| SL.v (op_assign (v := .int .i64 ((2 : Nat) : Int)) rfl) <| SL.nil <| T.ret1 rfl (ResIs.tmp rfl) ?_
    rw [strN, if_neg h1, if_pos h2]
  by_cases h3 : op = 8
  · refine Spec.enter Tryz.func114 rfl Tryz.ntmps114 rfl ?_
    intro w0 hw0
    refine T.seq <| T.region <| SL.v (op_assign (v := .int .i64 ((0 : Nat) : Int)) rfl) <| SL.nil <| T.seq <| T.block <| T.seq <| T.region <| SL.mv rfl <| SL.v (op_eqlF rfl rfl (by omega)) ?_
    refine SL.as rfl <| SL.nil <| T.condF rfl <| T.seq <| T.region <| SL.mv rfl <| SL.v (op_eqlF rfl rfl (by omega)) ?_
    refine SL.as rfl <| SL.nil <| T.condF rfl <| T.seq <| T.region <| SL.mv rfl <| SL.v (op_eqlT rfl rfl (by omega)) ?_
    refine SL.as rfl <| SL.nil <| T.condT rfl <| T.seq <| T.region <| SL.v (op_assign (v := .int .i64 ((3 : Nat) : Int)) rfl) <| SL.nil <| T.ret1 rfl (ResIs.tmp rfl) ?_
    rw [strN, if_neg h1, if_neg h2, if_pos h3]
  by_cases h4 : op = 7
  · refine Spec.enter Tryz.func114 rfl Tryz.ntmps114 rfl ?_
    intro w0 hw0
    refine T.seq <| T.region <| SL.v (op_assign (v := .int .i64 ((0 : Nat) : Int)) rfl) <| SL.nil <| T.seq <| T.block <| T.seq <| T.region <| SL.mv rfl <| SL.v (op_eqlF rfl rfl (by omega)) ?_
    refine SL.as rfl <| SL.nil <| T.condF rfl <| T.seq <| T.region <| SL.mv rfl <| SL.v (op_eqlF rfl rfl (by omega)) ?_
    refine SL.as rfl <| SL.nil <| T.condF rfl <| T.seq <| T.region <| SL.mv rfl <| SL.v (op_eqlF rfl rfl (by omega)) ?_
    refine SL.as rfl <| SL.nil <| T.condF rfl <| T.seq <| T.region <| SL.mv rfl <| SL.v (op_eqlT rfl rfl (by omega)) ?_
    refine SL.as rfl <| SL.nil <| T.condT rfl <| T.seq <| T.region <| SL.v (op_assign (v := .int .i64 ((4 : Nat) : Int)) rfl) <| SL.nil <| T.ret1 rfl (ResIs.tmp rfl) ?_
    rw [strN, if_neg h1, if_neg h2, if_neg h3, if_pos h4]
  by_cases h5 : 11 ≤ op ∧ op ≤ 15
  · obtain ⟨g1, g2⟩ := h5
    refine Spec.enter Tryz.func114 rfl Tryz.ntmps114 rfl ?_
    intro w0 hw0
    refine T.seq <| T.region <| SL.v (op_assign (v := .int .i64 ((0 : Nat) : Int)) rfl) <| SL.nil <| T.seq <| T.block <| T.seq <| T.region <| SL.mv rfl <| SL.v (op_eqlF rfl rfl (by omega)) ?_
    refine SL.as rfl <| SL.nil <| T.condF rfl <| T.seq <| T.region <| SL.mv rfl <| SL.v (op_eqlF rfl rfl (by omega)) ?_
    refine SL.as rfl <| SL.nil <| T.condF rfl <| T.seq <| T.region <| SL.mv rfl <| SL.v (op_eqlF rfl rfl (by omega)) ?_
    refine SL.as rfl <| SL.nil <| T.condF rfl <| T.seq <| T.region <| SL.mv rfl <| SL.v (op_eqlF rfl rfl (by omega)) ?_
    refine SL.as rfl <| SL.nil <| T.condF rfl <| T.seq <| T.region <| SL.mv rfl <| SL.v (op_geqT rfl rfl (by omega)) ?_
    refine SL.mv rfl <| SL.mv rfl <| SL.v (op_leqT rfl rfl (by omega)) ?_
    refine SL.v (op_pickT rfl rfl) <| SL.as rfl <| SL.nil <| T.condT rfl <| T.seq <| T.region <| SL.v (op_assign (v := .int .i64 ((5 : Nat) : Int)) rfl) <| SL.nil <| T.ret1 rfl (ResIs.tmp rfl) ?_
    rw [strN, if_neg h1, if_neg h2, if_neg h3, if_neg h4, if_pos ⟨g1, g2⟩]
  by_cases h6 : op = 16
  · refine Spec.enter Tryz.func114 rfl Tryz.ntmps114 rfl ?_
    intro w0 hw0
    refine T.seq <| T.region <| SL.v (op_assign (v := .int .i64 ((0 : Nat) : Int)) rfl) <| SL.nil <| T.seq <| T.block <| T.seq <| T.region <| SL.mv rfl <| SL.v (op_eqlF rfl rfl (by omega)) ?_
    refine SL.as rfl <| SL.nil <| T.condF rfl <| T.seq <| T.region <| SL.mv rfl <| SL.v (op_eqlF rfl rfl (by omega)) ?_
    refine SL.as rfl <| SL.nil <| T.condF rfl <| T.seq <| T.region <| SL.mv rfl <| SL.v (op_eqlF rfl rfl (by omega)) ?_
    refine SL.as rfl <| SL.nil <| T.condF rfl <| T.seq <| T.region <| SL.mv rfl <| SL.v (op_eqlF rfl rfl (by omega)) ?_
    refine SL.as rfl <| SL.nil <| T.condF rfl <| T.seq <| T.region <| SL.mv rfl <| SL.v (op_geqT rfl rfl (by omega)) ?_
    refine SL.mv rfl <| SL.mv rfl <| SL.v (op_leqF rfl rfl (by omega)) ?_
    refine SL.v (op_pickT rfl rfl) <| SL.as rfl <| SL.nil <| T.condF rfl <| T.seq <| T.region <| SL.mv rfl <| SL.v (op_eqlT rfl rfl (by omega)) ?_
    refine SL.as rfl <| SL.nil <| T.condT rfl <| T.seq <| T.region <| SL.v (op_assign (v := .int .i64 ((6 : Nat) : Int)) rfl) <| SL.nil <| T.ret1 rfl (ResIs.tmp rfl) ?_
    rw [strN, if_neg h1, if_neg h2, if_neg h3, if_neg h4, if_neg h5, if_pos h6]
  by_cases h7 : 11 ≤ op
  · have h8 : ¬op ≤ 15 := fun h => h5 ⟨h7, h⟩
    refine Spec.enter Tryz.func114 rfl Tryz.ntmps114 rfl ?_
    intro w0 hw0
    refine T.seq <| T.region <| SL.v (op_assign (v := .int .i64 ((0 : Nat) : Int)) rfl) <| SL.nil <| T.seq <| T.block <| T.seq <| T.region <| SL.mv rfl <| SL.v (op_eqlF rfl rfl (by omega)) ?_
    refine SL.as rfl <| SL.nil <| T.condF rfl <| T.seq <| T.region <| SL.mv rfl <| SL.v (op_eqlF rfl rfl (by omega)) ?_
    refine SL.as rfl <| SL.nil <| T.condF rfl <| T.seq <| T.region <| SL.mv rfl <| SL.v (op_eqlF rfl rfl (by omega)) ?_
    refine SL.as rfl <| SL.nil <| T.condF rfl <| T.seq <| T.region <| SL.mv rfl <| SL.v (op_eqlF rfl rfl (by omega)) ?_
    refine SL.as rfl <| SL.nil <| T.condF rfl <| T.seq <| T.region <| SL.mv rfl <| SL.v (op_geqT rfl rfl (by omega)) ?_
    refine SL.mv rfl <| SL.mv rfl <| SL.v (op_leqF rfl rfl (by omega)) ?_
    refine SL.v (op_pickT rfl rfl) <| SL.as rfl <| SL.nil <| T.condF rfl <| T.seq <| T.region <| SL.mv rfl <| SL.v (op_eqlF rfl rfl (by omega)) ?_
    refine SL.as rfl <| SL.nil <| T.condF rfl <| T.skip <| T.blk <| T.seq <| T.region <| SL.v (op_assign (v := .int .i64 ((7 : Nat) : Int)) rfl) <| SL.nil <| T.ret1 rfl (ResIs.tmp rfl) ?_
    rw [strN, if_neg h1, if_neg h2, if_neg h3, if_neg h4, if_neg h5, if_neg h6]
  · refine Spec.enter Tryz.func114 rfl Tryz.ntmps114 rfl ?_
    intro w0 hw0
    refine T.seq <| T.region <| SL.v (op_assign (v := .int .i64 ((0 : Nat) : Int)) rfl) <| SL.nil <| T.seq <| T.block <| T.seq <| T.region <| SL.mv rfl <| SL.v (op_eqlF rfl rfl (by omega)) ?_
    refine SL.as rfl <| SL.nil <| T.condF rfl <| T.seq <| T.region <| SL.mv rfl <| SL.v (op_eqlF rfl rfl (by omega)) ?_
    refine SL.as rfl <| SL.nil <| T.condF rfl <| T.seq <| T.region <| SL.mv rfl <| SL.v (op_eqlF rfl rfl (by omega)) ?_
    refine SL.as rfl <| SL.nil <| T.condF rfl <| T.seq <| T.region <| SL.mv rfl <| SL.v (op_eqlF rfl rfl (by omega)) ?_
    refine SL.as rfl <| SL.nil <| T.condF rfl <| T.seq <| T.region <| SL.mv rfl <| SL.v (op_geqF rfl rfl (by omega)) ?_
    refine SL.mv rfl <| SL.skip rfl rfl ?_
    refine SL.skip rfl rfl ?_
    refine SL.v (op_pickF rfl rfl) <| SL.as rfl <| SL.nil <| T.condF rfl <| T.seq <| T.region <| SL.mv rfl <| SL.v (op_eqlF rfl rfl (by omega)) ?_
    refine SL.as rfl <| SL.nil <| T.condF rfl <| T.skip <| T.blk <| T.seq <| T.region <| SL.v (op_assign (v := .int .i64 ((7 : Nat) : Int)) rfl) <| SL.nil <| T.ret1 rfl (ResIs.tmp rfl) ?_
    rw [strN, if_neg h1, if_neg h2, if_neg h3, if_neg h4, if_neg h5, if_neg h6]
theorem operand_spec {X : PMap} {e : Ex} {r : Row4} {least : Nat} (hr : ExR .u8 X e r) (ht : ∀ {X' : PMap}, X.le X' → Spec Tryz.prog 58 [.agg #[r.1, r.2.1, r.2.2.1, r.2.2.2]] X' fun u _ => u = .string (textE e)) (hs : (textE e).size < 1000000000000) : Spec Tryz.prog 117 [.agg #[r.1, r.2.1, r.2.2.1, r.2.2.2], .int .i64 (least : Int)] X fun u _ => u = .string (parB (strN e.op) (textE e) least) := by
  have k1 : (⟨#[40]⟩ : ByteArray).size = 1 := rfl
  have k2 : (⟨#[41]⟩ : ByteArray).size = 1 := rfl
  cases hr with
  | @mk op n ns al vn va rows hn ha hl hr =>
  obtain ⟨Aa, ca, rfl⟩ := ha.form
  obtain ⟨An, cn, rfl⟩ := hn.form
  by_cases hc : strN op < least
  · refine Spec.enter Tryz.func117 rfl Tryz.ntmps117 rfl ?_
    intro w0 hw0
    refine T.seq <| T.region <| SL.w (op_box rfl) ?_
    rintro _ _ _ ⟨B2, rfl, rfl, rfl⟩
    refine SL.as rfl <| SL.nil <| T.seq <| T.seq <| T.region <| SL.v (op_fieldAddr fa40_0 rfl) <| SL.v (op_load ty36 rfl (by repeat constructor) rfl) ?_
    refine SL.w (op_callF en114 (vs := [_]) rfl (strength_spec (op := op))) ?_
    rintro _ _ X1 ⟨rfl, hX1, rfl⟩
    refine SL.mv rfl <| SL.v (op_lssT rfl rfl (by omega)) ?_
    refine SL.nil <| T.condT rfl <| T.seq <| T.region <| SL.v (op_load ty40 rfl (by repeat constructor) rfl) ?_
    refine SL.w (op_callF en58 (vs := [_]) rfl (ht hX1)) ?_
    rintro _ _ X2 ⟨rfl, hX2, rfl⟩
    refine SL.v (op_addStr rfl rfl (by first | omega | (simp only [ByteArray.size_append]; omega))) ?_
    refine SL.v (op_addStr rfl rfl (by first | omega | (simp only [ByteArray.size_append]; omega))) ?_
    refine SL.as rfl <| SL.nil <| T.ret1 rfl (ResIs.tmp rfl) ?_
    rw [parB, Ex.op, if_pos hc]
  · refine Spec.enter Tryz.func117 rfl Tryz.ntmps117 rfl ?_
    intro w0 hw0
    refine T.seq <| T.region <| SL.w (op_box rfl) ?_
    rintro _ _ _ ⟨B2, rfl, rfl, rfl⟩
    refine SL.as rfl <| SL.nil <| T.seq <| T.seq <| T.region <| SL.v (op_fieldAddr fa40_0 rfl) <| SL.v (op_load ty36 rfl (by repeat constructor) rfl) ?_
    refine SL.w (op_callF en114 (vs := [_]) rfl (strength_spec (op := op))) ?_
    rintro _ _ X1 ⟨rfl, hX1, rfl⟩
    refine SL.mv rfl <| SL.v (op_lssF rfl rfl (by omega)) ?_
    refine SL.nil <| T.condF rfl <| T.skip <| T.seq <| T.region <| SL.v (op_load ty40 rfl (by repeat constructor) rfl) ?_
    refine SL.w (op_callF en58 (vs := [_]) rfl (ht hX1)) ?_
    rintro _ _ X2 ⟨rfl, hX2, rfl⟩
    refine SL.as rfl <| SL.nil <| T.ret1 rfl (ResIs.tmp rfl) ?_
    rw [parB, Ex.op, if_neg hc]
def words9 : List ByteArray := [wordB 8, wordB 9, wordB 10, wordB 11, wordB 12, wordB 13, wordB 14, wordB 15, wordB 16]
theorem words9_at {op : Nat} (h1 : 8 ≤ op) (h2 : op ≤ 16) : words9[op - 8]? = some (wordB op) := by
  rcases (by omega : op = 8 ∨ op = 9 ∨ op = 10 ∨ op = 11 ∨ op = 12 ∨ op = 13 ∨ op = 14 ∨ op = 15 ∨ op = 16) with rfl | rfl | rfl | rfl | rfl | rfl | rfl | rfl | rfl <;> rfl
theorem wrapU8s {op : Nat} (h1 : 8 ≤ op) (h2 : op < 256) : IntKind.u8.wrap ((op : Int) - 8) = ((op - 8 : Nat) : Int) := by
  have := wrap_u8 (p := (op : Int) - 8) (by omega) (by omega)
  rw [this]; omega
theorem opw_spec {X : PMap} {op : Nat} (h1 : 8 ≤ op) (h2 : op ≤ 16) : Spec Tryz.prog 118 [.int .u8 (op : Int)] X fun u _ => u = .string (wordB op) := by
  have hw := strsC_at (words9_at h1 h2)
  refine Spec.enter Tryz.func118 rfl Tryz.ntmps118 rfl ?_
  intro w0 hw0
  refine T.seq <| T.region <| SL.as rfl <| SL.nil <| T.seq <| T.region <| SL.w (op_buildSlice Tryz.underlying37 bs9 (qs := [(0, _), (1, _), (2, _), (3, _), (4, _), (5, _), (6, _), (7, _), (8, _)]) rfl rfl rfl rfl rfl) ?_
  rintro _ _ _ ⟨B3, rfl, rfl, rfl⟩
  refine SL.mv rfl <| SL.v (op_subW rfl rfl) ?_
  rw [wrapU8s h1 (by omega)]
  refine SL.v (op_indexN Tryz.underlying37 ty9 rfl rfl (by omega)) ?_
  refine SL.v (op_load ty9 rfl (by repeat constructor) (cread1k' hw (by omega))) ?_
  refine SL.as rfl <| SL.nil <| T.ret1 rfl (ResIs.tmp rfl) ?_
  rfl
mutual
/-- All numbers are below M. -/
def numE (M : Nat) : Ex → Prop
  | .mk op n _ al => (op = 1 → n < (M : Int)) ∧ numL M al
def numL (M : Nat) : List Ex → Prop
  | [] => True
  | a :: al => numE M a ∧ numL M al
end
theorem numL_mem {M : Nat} {a : Ex} : ∀ {l : List Ex}, numL M l → a ∈ l → numE M a
  | x :: l, h, hm => by
    rw [numL] at h
    rcases List.mem_cons.1 hm with rfl | hm
    · exact h.1
    · exact numL_mem h.2 hm
/-- strconv.Itoa of numbers below M. -/
def ItoaOk (M : Nat) (X : PMap) : Prop := ∀ X' : PMap, X.le X' → ∀ v : Nat, v < M → Spec Tryz.prog 115 [.int .i64 (v : Int)] X' fun u _ => u = .string (decB v)
theorem ItoaOk.mono {M : Nat} {X X' : PMap} (h : ItoaOk M X) (hX : X.le X') : ItoaOk M X' := fun X1 h' v hv => h X1 (hX.trans' h') v hv
theorem etext_spec {M : Nat} (N : Nat) : ∀ {X : PMap} {e : Ex} {r : Row4}, ItoaOk M X → wtE e ≤ N → N < 1000000 → nodeE e = 0 → numE M e → ExR .u8 X e r → Spec Tryz.prog 58 [.agg #[r.1, r.2.1, r.2.2.1, r.2.2.2]] X fun u _ => u = .string (textE e) := by
  induction N with
  | zero => intro X e r _ h; cases e; rw [wtE] at h; omega
  | succ N ih =>
    intro X e r hI hN hB hnode hnum h
    have hopd : ∀ {X : PMap} {a : Ex} {r : Row4} {least : Nat}, ItoaOk M X → wtE a ≤ N → nodeE a = 0 → numE M a → ExR .u8 X a r → Spec Tryz.prog 117 [.agg #[r.1, r.2.1, r.2.2.1, r.2.2.2], .int .i64 (least : Int)] X fun u _ => u = .string (parB (strN a.op) (textE a) least) := fun h0 h1 h2 h3 h4 => operand_spec h4 (fun hX => ih (h0.mono hX) h1 (by omega) h2 h3 (h4.mono hX)) (Nat.lt_of_le_of_lt (text_size _) (by omega))
    cases h with
    | @mk op n ns al vn va rows hn ha hl hr =>
    obtain ⟨Aa, ca, rfl⟩ := ha.form
    obtain ⟨An, cn, rfl⟩ := hn.form
    have hlen := wtL_len al
    have hnl := wtS_len ns
    rw [wtE] at hN
    obtain ⟨hown, hargs⟩ := node_ok hnode
    obtain ⟨o1, o2, o3, o4, o5, o6, o7, o8, o9⟩ := own_ok hown
    obtain ⟨hn1, hnumL⟩ : (op = 1 → n < (M : Int)) ∧ numL M al := hnum
    have k1 : (⟨#[99, 111, 117, 110, 116, 40]⟩ : ByteArray).size = 6 := rfl
    have k2 : (⟨#[41]⟩ : ByteArray).size = 1 := rfl
    have k3 : (⟨#[109, 101, 109, 98, 101, 114, 115, 40]⟩ : ByteArray).size = 8 := rfl
    have k4 : (⟨#[110, 111, 116, 32]⟩ : ByteArray).size = 4 := rfl
    by_cases c1 : op = 1
    · obtain ⟨v, rfl⟩ := Int.eq_ofNat_of_zero_le o8
      refine Spec.enter Tryz.func58 rfl Tryz.ntmps58 rfl ?_
      intro w0 hw0
      refine T.seq <| T.region <| SL.w (op_box rfl) ?_
      rintro _ _ _ ⟨B1, rfl, rfl, rfl⟩
      refine SL.as rfl <| SL.nil <| T.seq <| T.region <| SL.v (op_fieldAddr fa40_0 rfl) <| SL.v (op_load ty36 rfl (by repeat constructor) rfl) ?_
      refine SL.w (op_callF en114 (vs := [_]) rfl (strength_spec (op := op))) ?_
      rintro _ _ X1 ⟨rfl, hX1, rfl⟩
      refine SL.as rfl <| SL.nil <| T.seq <| T.seq <| T.region <| SL.v (op_fieldAddr fa40_0 rfl) <| SL.v (op_load ty36 rfl (by repeat constructor) rfl) ?_
      refine SL.nil <| T.block <| T.seq <| T.region <| SL.v (op_eqlT rfl rfl (by omega)) ?_
      refine SL.as rfl <| SL.nil <| T.condT rfl <| T.seq <| T.region <| SL.v (op_fieldAddr fa40_1 rfl) <| SL.v (op_load ty3 rfl (by repeat constructor) rfl) ?_
      refine SL.w (op_callF en115 (vs := [_]) rfl (hI _ hX1 v (by have := hn1 c1; omega))) ?_
      rintro _ _ X2 ⟨rfl, hX2, rfl⟩
      refine SL.as rfl <| SL.nil <| T.ret1 rfl (ResIs.tmp rfl) ?_
      rw [textE, if_pos c1]; rfl
    by_cases c2 : op = 2
    · refine Spec.enter Tryz.func58 rfl Tryz.ntmps58 rfl ?_
      intro w0 hw0
      refine T.seq <| T.region <| SL.w (op_box rfl) ?_
      rintro _ _ _ ⟨B1, rfl, rfl, rfl⟩
      refine SL.as rfl <| SL.nil <| T.seq <| T.region <| SL.v (op_fieldAddr fa40_0 rfl) <| SL.v (op_load ty36 rfl (by repeat constructor) rfl) ?_
      refine SL.w (op_callF en114 (vs := [_]) rfl (strength_spec (op := op))) ?_
      rintro _ _ X1 ⟨rfl, hX1, rfl⟩
      refine SL.as rfl <| SL.nil <| T.seq <| T.seq <| T.region <| SL.v (op_fieldAddr fa40_0 rfl) <| SL.v (op_load ty36 rfl (by repeat constructor) rfl) ?_
      refine SL.nil <| T.block <| T.seq <| T.region <| SL.v (op_eqlF rfl rfl (by omega)) ?_
      refine SL.as rfl <| SL.nil <| T.condF rfl <| T.seq <| T.region <| SL.v (op_eqlT rfl rfl (by omega)) ?_
      refine SL.as rfl <| SL.nil <| T.condT rfl <| T.seq <| T.region <| SL.as rfl <| SL.nil <| T.ret1 rfl (ResIs.tmp rfl) ?_
      rw [textE, if_neg c1, if_pos c2]
    by_cases c3 : op = 3
    · refine Spec.enter Tryz.func58 rfl Tryz.ntmps58 rfl ?_
      intro w0 hw0
      refine T.seq <| T.region <| SL.w (op_box rfl) ?_
      rintro _ _ _ ⟨B1, rfl, rfl, rfl⟩
      refine SL.as rfl <| SL.nil <| T.seq <| T.region <| SL.v (op_fieldAddr fa40_0 rfl) <| SL.v (op_load ty36 rfl (by repeat constructor) rfl) ?_
      refine SL.w (op_callF en114 (vs := [_]) rfl (strength_spec (op := op))) ?_
      rintro _ _ X1 ⟨rfl, hX1, rfl⟩
      refine SL.as rfl <| SL.nil <| T.seq <| T.seq <| T.region <| SL.v (op_fieldAddr fa40_0 rfl) <| SL.v (op_load ty36 rfl (by repeat constructor) rfl) ?_
      refine SL.nil <| T.block <| T.seq <| T.region <| SL.v (op_eqlF rfl rfl (by omega)) ?_
      refine SL.as rfl <| SL.nil <| T.condF rfl <| T.seq <| T.region <| SL.v (op_eqlF rfl rfl (by omega)) ?_
      refine SL.as rfl <| SL.nil <| T.condF rfl <| T.seq <| T.region <| SL.v (op_eqlT rfl rfl (by omega)) ?_
      refine SL.as rfl <| SL.nil <| T.condT rfl <| T.seq <| T.region <| SL.as rfl <| SL.nil <| T.ret1 rfl (ResIs.tmp rfl) ?_
      rw [textE, if_neg c1, if_neg c2, if_pos c3]
    by_cases c4 : op = 4
    · have hl1 : ns.length = 1 := by simpa [namN, c4] using o5
      obtain ⟨s, rfl⟩ : ∃ s, ns = [s] := by
        match ns, hl1 with
        | [s], _ => exact ⟨s, rfl⟩
      obtain ⟨bN, pre, rfl, hB1⟩ := hn.blk (by simp)
      refine Spec.enter Tryz.func58 rfl Tryz.ntmps58 rfl ?_
      intro w0 hw0
      refine T.seq <| T.region <| SL.w (op_box rfl) ?_
      rintro _ _ _ ⟨B1, rfl, rfl, rfl⟩
      refine SL.as rfl <| SL.nil <| T.seq <| T.region <| SL.v (op_fieldAddr fa40_0 rfl) <| SL.v (op_load ty36 rfl (by repeat constructor) rfl) ?_
      refine SL.w (op_callF en114 (vs := [_]) rfl (strength_spec (op := op))) ?_
      rintro _ _ X1 ⟨rfl, hX1, rfl⟩
      refine SL.as rfl <| SL.nil <| T.seq <| T.seq <| T.region <| SL.v (op_fieldAddr fa40_0 rfl) <| SL.v (op_load ty36 rfl (by repeat constructor) rfl) ?_
      refine SL.nil <| T.block <| T.seq <| T.region <| SL.v (op_eqlF rfl rfl (by omega)) ?_
      refine SL.as rfl <| SL.nil <| T.condF rfl <| T.seq <| T.region <| SL.v (op_eqlF rfl rfl (by omega)) ?_
      refine SL.as rfl <| SL.nil <| T.condF rfl <| T.seq <| T.region <| SL.v (op_eqlF rfl rfl (by omega)) ?_
      refine SL.as rfl <| SL.nil <| T.condF rfl <| T.seq <| T.region <| SL.v (op_eqlT rfl rfl (by omega)) ?_
      refine SL.as rfl <| SL.nil <| T.condT rfl <| T.seq <| T.region <| SL.v (op_fieldAddr fa40_2 rfl) <| SL.v (op_load ty37 rfl (by repeat constructor) rfl) ?_
      refine SL.v (op_index Tryz.underlying37 ty9 rfl rfl (by omega) (by omega)) ?_
      refine SL.v (op_loadX ty9 rfl (hB1.mono hX1) (str_read (i := 0) rfl (by omega))) ?_
      refine SL.as rfl <| SL.nil <| T.ret1 rfl (ResIs.tmp rfl) ?_
      rw [textE, if_neg c1, if_neg c2, if_neg c3, if_pos c4]; rfl
    by_cases c5 : op = 5
    · have hl1 : 1 ≤ ns.length ∧ ns.length ≤ 8 := by simpa [namN, c5] using o5
      have hj := joinB_size ns
      have hsum : sumS ns < 100000000 := by
        have e : ∀ l : List ByteArray, sumS l ≤ wtS l := by
          intro l
          induction l with
          | nil => simp [sumS, wtS]
          | cons x l ih => simp only [sumS, wtS, List.map_cons, List.sum_cons] at ih ⊢; omega
        have := e ns; omega
      refine Spec.enter Tryz.func58 rfl Tryz.ntmps58 rfl ?_
      intro w0 hw0
      refine T.seq <| T.region <| SL.w (op_box rfl) ?_
      rintro _ _ _ ⟨B1, rfl, rfl, rfl⟩
      refine SL.as rfl <| SL.nil <| T.seq <| T.region <| SL.v (op_fieldAddr fa40_0 rfl) <| SL.v (op_load ty36 rfl (by repeat constructor) rfl) ?_
      refine SL.w (op_callF en114 (vs := [_]) rfl (strength_spec (op := op))) ?_
      rintro _ _ X1 ⟨rfl, hX1, rfl⟩
      refine SL.as rfl <| SL.nil <| T.seq <| T.seq <| T.region <| SL.v (op_fieldAddr fa40_0 rfl) <| SL.v (op_load ty36 rfl (by repeat constructor) rfl) ?_
      refine SL.nil <| T.block <| T.seq <| T.region <| SL.v (op_eqlF rfl rfl (by omega)) ?_
      refine SL.as rfl <| SL.nil <| T.condF rfl <| T.seq <| T.region <| SL.v (op_eqlF rfl rfl (by omega)) ?_
      refine SL.as rfl <| SL.nil <| T.condF rfl <| T.seq <| T.region <| SL.v (op_eqlF rfl rfl (by omega)) ?_
      refine SL.as rfl <| SL.nil <| T.condF rfl <| T.seq <| T.region <| SL.v (op_eqlF rfl rfl (by omega)) ?_
      refine SL.as rfl <| SL.nil <| T.condF rfl <| T.seq <| T.region <| SL.v (op_eqlT rfl rfl (by omega)) ?_
      refine SL.as rfl <| SL.nil <| T.condT rfl <| T.seq <| T.region <| SL.v (op_fieldAddr fa40_2 rfl) <| SL.v (op_load ty37 rfl (by repeat constructor) rfl) ?_
      have hjn := join_spec (sep := ⟨#[44, 32]⟩) (hn.mono hX1) hl1.1 (by omega) hsum (fun s hs => Nat.pos_of_ne_zero (o6 s hs).1) (by decide) (by decide)
      rw [show joinL ⟨#[44, 32]⟩ ns = joinG ns by cases ns <;> rfl] at hjn
      refine SL.w (op_callF en116 (vs := [_, _]) rfl (hjn)) ?_
      rintro _ _ X2 ⟨rfl, hX2, rfl⟩
      have hjs : (⟨(joinG ns).toArray⟩ : ByteArray).size ≤ 2 * wtS ns := hj
      refine SL.v (op_addStr rfl rfl (by first | omega | (simp only [ByteArray.size_append]; omega))) ?_
      refine SL.v (op_addStr rfl rfl (by first | omega | (simp only [ByteArray.size_append]; omega))) ?_
      refine SL.as rfl <| SL.nil <| T.ret1 rfl (ResIs.tmp rfl) ?_
      rw [textE, if_neg c1, if_neg c2, if_neg c3, if_neg c4, if_pos c5]; rfl
    by_cases c6 : op = 6
    · have hl1 : ns.length = 1 := by simpa [namN, c6] using o5
      obtain ⟨s, rfl⟩ : ∃ s, ns = [s] := by
        match ns, hl1 with
        | [s], _ => exact ⟨s, rfl⟩
      obtain ⟨bN, pre, rfl, hB1⟩ := hn.blk (by simp)
      have hsz := wtS_mem (ns := [s]) (s := s) (by simp)
      refine Spec.enter Tryz.func58 rfl Tryz.ntmps58 rfl ?_
      intro w0 hw0
      refine T.seq <| T.region <| SL.w (op_box rfl) ?_
      rintro _ _ _ ⟨B1, rfl, rfl, rfl⟩
      refine SL.as rfl <| SL.nil <| T.seq <| T.region <| SL.v (op_fieldAddr fa40_0 rfl) <| SL.v (op_load ty36 rfl (by repeat constructor) rfl) ?_
      refine SL.w (op_callF en114 (vs := [_]) rfl (strength_spec (op := op))) ?_
      rintro _ _ X1 ⟨rfl, hX1, rfl⟩
      refine SL.as rfl <| SL.nil <| T.seq <| T.seq <| T.region <| SL.v (op_fieldAddr fa40_0 rfl) <| SL.v (op_load ty36 rfl (by repeat constructor) rfl) ?_
      refine SL.nil <| T.block <| T.seq <| T.region <| SL.v (op_eqlF rfl rfl (by omega)) ?_
      refine SL.as rfl <| SL.nil <| T.condF rfl <| T.seq <| T.region <| SL.v (op_eqlF rfl rfl (by omega)) ?_
      refine SL.as rfl <| SL.nil <| T.condF rfl <| T.seq <| T.region <| SL.v (op_eqlF rfl rfl (by omega)) ?_
      refine SL.as rfl <| SL.nil <| T.condF rfl <| T.seq <| T.region <| SL.v (op_eqlF rfl rfl (by omega)) ?_
      refine SL.as rfl <| SL.nil <| T.condF rfl <| T.seq <| T.region <| SL.v (op_eqlF rfl rfl (by omega)) ?_
      refine SL.as rfl <| SL.nil <| T.condF rfl <| T.seq <| T.region <| SL.v (op_eqlT rfl rfl (by omega)) ?_
      refine SL.as rfl <| SL.nil <| T.condT rfl <| T.seq <| T.region <| SL.v (op_fieldAddr fa40_2 rfl) <| SL.v (op_load ty37 rfl (by repeat constructor) rfl) ?_
      refine SL.v (op_index Tryz.underlying37 ty9 rfl rfl (by omega) (by omega)) ?_
      refine SL.v (op_loadX ty9 rfl (hB1.mono hX1) (str_read (i := 0) rfl (by omega))) ?_
      refine SL.v (op_addStr rfl rfl (by first | omega | (simp only [ByteArray.size_append]; omega))) ?_
      refine SL.v (op_addStr rfl rfl (by first | omega | (simp only [ByteArray.size_append]; omega))) ?_
      refine SL.as rfl <| SL.nil <| T.ret1 rfl (ResIs.tmp rfl) ?_
      rw [textE, if_neg c1, if_neg c2, if_neg c3, if_neg c4, if_neg c5, if_pos c6]; rfl
    by_cases c7 : op = 7
    · have hal : al.length = 1 := by rw [o3, c7]; rfl
      obtain ⟨a, rfl⟩ : ∃ a, al = [a] := by
        match al, hal with
        | [a], _ => exact ⟨a, rfl⟩
      obtain ⟨ra, rfl⟩ : ∃ ra, rows = [ra] := by
        match rows, hl with
        | [ra], _ => exact ⟨ra, rfl⟩
      have hra := hr 0 a ra rfl rfl
      obtain ⟨bA, pre, rfl, hbA⟩ := ha.blk (by simp)
      obtain ⟨_, _, _, _, _, _, _, _, rfl⟩ := hra.form
      have hna := nodeL_zero hargs a (by simp)
      have hma := numL_mem hnumL (a := a) (by simp)
      have hwa : wtE a ≤ N := by rw [wtL, wtL] at hN; omega
      have hts := text_size a
      have hps := parB_size (strN a.op) (textE a) 4
      refine Spec.enter Tryz.func58 rfl Tryz.ntmps58 rfl ?_
      intro w0 hw0
      refine T.seq <| T.region <| SL.w (op_box rfl) ?_
      rintro _ _ _ ⟨B1, rfl, rfl, rfl⟩
      refine SL.as rfl <| SL.nil <| T.seq <| T.region <| SL.v (op_fieldAddr fa40_0 rfl) <| SL.v (op_load ty36 rfl (by repeat constructor) rfl) ?_
      refine SL.w (op_callF en114 (vs := [_]) rfl (strength_spec (op := op))) ?_
      rintro _ _ X1 ⟨rfl, hX1, rfl⟩
      rw [show strN op = 4 by rw [c7]; rfl]
      refine SL.as rfl <| SL.nil <| T.seq <| T.seq <| T.region <| SL.v (op_fieldAddr fa40_0 rfl) <| SL.v (op_load ty36 rfl (by repeat constructor) rfl) ?_
      refine SL.nil <| T.block <| T.seq <| T.region <| SL.v (op_eqlF rfl rfl (by omega)) ?_
      refine SL.as rfl <| SL.nil <| T.condF rfl <| T.seq <| T.region <| SL.v (op_eqlF rfl rfl (by omega)) ?_
      refine SL.as rfl <| SL.nil <| T.condF rfl <| T.seq <| T.region <| SL.v (op_eqlF rfl rfl (by omega)) ?_
      refine SL.as rfl <| SL.nil <| T.condF rfl <| T.seq <| T.region <| SL.v (op_eqlF rfl rfl (by omega)) ?_
      refine SL.as rfl <| SL.nil <| T.condF rfl <| T.seq <| T.region <| SL.v (op_eqlF rfl rfl (by omega)) ?_
      refine SL.as rfl <| SL.nil <| T.condF rfl <| T.seq <| T.region <| SL.v (op_eqlF rfl rfl (by omega)) ?_
      refine SL.as rfl <| SL.nil <| T.condF rfl <| T.seq <| T.region <| SL.v (op_eqlT rfl rfl (by omega)) ?_
      refine SL.as rfl <| SL.nil <| T.condT rfl <| T.seq <| T.region <| SL.v (op_fieldAddr fa40_3 rfl) <| SL.v (op_load ty38 rfl (by repeat constructor) rfl) ?_
      refine SL.v (op_index Tryz.underlying38 ty40 rfl rfl (by omega) (by omega)) ?_
      refine SL.v (op_loadX ty40 rfl (hbA.mono hX1) (row_read rc4_len (rs := [_]) (k := 0) rfl (by omega))) ?_
      refine SL.mv rfl <| SL.w (op_callF en117 (vs := [_, _]) rfl (hopd (hI.mono hX1) hwa hna hma (hra.mono hX1))) ?_
      rintro _ _ X2 ⟨rfl, hX2, rfl⟩
      refine SL.v (op_addStr rfl rfl (by first | omega | (simp only [ByteArray.size_append]; omega))) ?_
      refine SL.as rfl <| SL.nil <| T.ret1 rfl (ResIs.tmp rfl) ?_
      rw [textE, if_neg c1, if_neg c2, if_neg c3, if_neg c4, if_neg c5, if_neg c6, textL, textL]
    have hal : al.length = 2 := by rw [o3, argN, if_neg (by omega), if_neg c7]
    obtain ⟨a, a2, rfl⟩ : ∃ a a2, al = [a, a2] := by
      match al, hal with
      | [a, b], _ => exact ⟨a, b, rfl⟩
    obtain ⟨ra, rb, rfl⟩ : ∃ ra rb, rows = [ra, rb] := by
      match rows, hl with
      | [ra, rb], _ => exact ⟨ra, rb, rfl⟩
    have hra := hr 0 a ra rfl rfl
    have hrb := hr 1 a2 rb rfl rfl
    obtain ⟨bA, pre, rfl, hbA⟩ := ha.blk (by simp)
    obtain ⟨_, _, _, _, _, _, _, _, rfl⟩ := hra.form
    obtain ⟨_, _, _, _, _, _, _, _, rfl⟩ := hrb.form
    have hna := nodeL_zero hargs a (by simp)
    have hnb := nodeL_zero hargs a2 (by simp)
    have hma := numL_mem hnumL (a := a) (by simp)
    have hmb := numL_mem hnumL (a := a2) (by simp)
    have hwa : wtE a ≤ N ∧ wtE a2 ≤ N := by rw [wtL, wtL, wtL] at hN; omega
    have hts := text_size a
    have hts2 := text_size a2
    have hps := fun k => parB_size (strN a.op) (textE a) k
    have hps2 := fun k => parB_size (strN a2.op) (textE a2) k
    have hps3 := hps (lefN op)
    have hps4 := hps2 (rigN op)
    have hps5 := hps2 (lefN op)
    have hww := wordB_size op
    have hs7 := strN_le op
    by_cases c10 : op = 10
    · have el : lefN op = strN op + 1 := if_pos c10
      have er : rigN op = strN op := if_pos c10
      refine Spec.enter Tryz.func58 rfl Tryz.ntmps58 rfl ?_
      intro w0 hw0
      refine T.seq <| T.region <| SL.w (op_box rfl) ?_
      rintro _ _ _ ⟨B1, rfl, rfl, rfl⟩
      refine SL.as rfl <| SL.nil <| T.seq <| T.region <| SL.v (op_fieldAddr fa40_0 rfl) <| SL.v (op_load ty36 rfl (by repeat constructor) rfl) ?_
      refine SL.w (op_callF en114 (vs := [_]) rfl (strength_spec (op := op))) ?_
      rintro _ _ X1 ⟨rfl, hX1, rfl⟩
      refine SL.as rfl <| SL.nil <| T.seq <| T.seq <| T.region <| SL.v (op_fieldAddr fa40_0 rfl) <| SL.v (op_load ty36 rfl (by repeat constructor) rfl) ?_
      refine SL.nil <| T.block <| T.seq <| T.region <| SL.v (op_eqlF rfl rfl (by omega)) ?_
      refine SL.as rfl <| SL.nil <| T.condF rfl <| T.seq <| T.region <| SL.v (op_eqlF rfl rfl (by omega)) ?_
      refine SL.as rfl <| SL.nil <| T.condF rfl <| T.seq <| T.region <| SL.v (op_eqlF rfl rfl (by omega)) ?_
      refine SL.as rfl <| SL.nil <| T.condF rfl <| T.seq <| T.region <| SL.v (op_eqlF rfl rfl (by omega)) ?_
      refine SL.as rfl <| SL.nil <| T.condF rfl <| T.seq <| T.region <| SL.v (op_eqlF rfl rfl (by omega)) ?_
      refine SL.as rfl <| SL.nil <| T.condF rfl <| T.seq <| T.region <| SL.v (op_eqlF rfl rfl (by omega)) ?_
      refine SL.as rfl <| SL.nil <| T.condF rfl <| T.seq <| T.region <| SL.v (op_eqlF rfl rfl (by omega)) ?_
      refine SL.as rfl <| SL.nil <| T.condF rfl <| T.skip <| T.blk <| T.seq <| T.region <| SL.mv rfl <| SL.mv rfl <| SL.v (op_addN (q := 1) rfl rfl (by omega)) ?_
      refine SL.as rfl <| SL.as rfl <| SL.nil <| T.seq <| T.block <| T.seq <| T.region <| SL.v (op_fieldAddr fa40_0 rfl) <| SL.v (op_load ty36 rfl (by repeat constructor) rfl) ?_
      refine SL.v (op_eqlT rfl rfl (by omega)) ?_
      refine SL.as rfl <| SL.nil <| T.condT rfl <| T.region <| SL.mv rfl <| SL.v (op_addN (q := 1) rfl rfl (by omega)) ?_
      refine SL.mv rfl <| SL.as rfl <| SL.as rfl <| SL.nil <| T.blk ?_
      rw [← el, ← er]
      refine T.seq <| T.draw (by kernel_rfl) 18 [.t 0, .t 1, .t 2, .t 3, .t 4, .t 6, .t 7, .t 10, .t 11, .t 12, .t 13, .t 14, .r 5, .r 8, .t 9, .r 15, .t 16, .t 17] (by kernel_rfl) ?_
      refine SD.take rfl panicBody (op_fieldAddr fa40_3 rfl) rfl rfl ?_
      refine SD.take rfl panicBody (op_load ty38 rfl (by repeat constructor) rfl) rfl rfl ?_
      refine SD.take rfl panicBody (op_index Tryz.underlying38 ty40 rfl rfl (by omega) (by omega)) rfl rfl ?_
      refine SD.take rfl panicBody (op_loadX ty40 rfl (hbA.mono hX1) (row_read rc4_len (rs := [_, _]) (k := 0) rfl (by omega))) rfl rfl ?_
      refine SD.take rfl panicBody (op_move rfl) rfl rfl ?_
      refine SD.take rfl panicBody (op_fieldAddr fa40_0 rfl) rfl rfl ?_
      refine SD.take rfl panicBody (op_load ty36 rfl (by repeat constructor) rfl) rfl rfl ?_
      refine SD.take rfl panicBody (op_fieldAddr fa40_3 rfl) rfl rfl ?_
      refine SD.take rfl panicBody (op_load ty38 rfl (by repeat constructor) rfl) rfl rfl ?_
      refine SD.take rfl panicBody (op_index Tryz.underlying38 ty40 rfl rfl (by omega) (by omega)) rfl rfl ?_
      refine SD.take rfl panicBody (op_loadX ty40 rfl (hbA.mono hX1) (row_read rc4_len (rs := [_, _]) (k := 1) rfl (by omega))) rfl rfl ?_
      refine SD.take rfl panicBody (op_move rfl) rfl rfl ?_
      refine SD.run rfl (op_callF en117 (vs := [_, _]) rfl (hopd (hI.mono hX1) hwa.1 hna hma (hra.mono hX1))) rfl rfl ?_
      rintro _ _ X3 ⟨rfl, hX3, rfl⟩
      refine SD.run rfl (op_callF en118 (vs := [_]) rfl (opw_spec (op := op) (by omega) (by omega))) rfl rfl ?_
      rintro _ _ X4 ⟨rfl, hX4, rfl⟩
      refine SD.take rfl panicBody (op_addStr rfl rfl (by first | omega | (simp only [ByteArray.size_append]; omega))) rfl rfl ?_
      refine SD.run rfl (op_callF en117 (vs := [_, _]) rfl (hopd (((hI.mono hX1).mono hX3).mono hX4) hwa.2 hnb hmb (((hrb.mono hX1).mono hX3).mono hX4))) rfl rfl ?_
      rintro _ _ X5 ⟨rfl, hX5, rfl⟩
      refine SD.take rfl panicBody (op_addStr rfl rfl (by first | omega | (simp only [ByteArray.size_append]; omega))) rfl rfl ?_
      refine SD.take rfl panicBody (op_assign rfl) rfl rfl ?_
      refine SD.nil ?_
      show SL _ _ _ _ _ _ _ [] _ _ _
      refine SL.nil <| T.ret1 rfl (ResIs.tmp rfl) ?_
      rw [textE, if_neg c1, if_neg c2, if_neg c3, if_neg c4, if_neg c5, if_neg c6, textL, textL, textL]
    by_cases c5s : strN op = 5
    · have el : lefN op = strN op + 1 := by rw [lefN, if_neg c10, if_pos c5s]
      have er : rigN op = strN op + 1 := if_neg c10
      refine Spec.enter Tryz.func58 rfl Tryz.ntmps58 rfl ?_
      intro w0 hw0
      refine T.seq <| T.region <| SL.w (op_box rfl) ?_
      rintro _ _ _ ⟨B1, rfl, rfl, rfl⟩
      refine SL.as rfl <| SL.nil <| T.seq <| T.region <| SL.v (op_fieldAddr fa40_0 rfl) <| SL.v (op_load ty36 rfl (by repeat constructor) rfl) ?_
      refine SL.w (op_callF en114 (vs := [_]) rfl (strength_spec (op := op))) ?_
      rintro _ _ X1 ⟨rfl, hX1, rfl⟩
      refine SL.as rfl <| SL.nil <| T.seq <| T.seq <| T.region <| SL.v (op_fieldAddr fa40_0 rfl) <| SL.v (op_load ty36 rfl (by repeat constructor) rfl) ?_
      refine SL.nil <| T.block <| T.seq <| T.region <| SL.v (op_eqlF rfl rfl (by omega)) ?_
      refine SL.as rfl <| SL.nil <| T.condF rfl <| T.seq <| T.region <| SL.v (op_eqlF rfl rfl (by omega)) ?_
      refine SL.as rfl <| SL.nil <| T.condF rfl <| T.seq <| T.region <| SL.v (op_eqlF rfl rfl (by omega)) ?_
      refine SL.as rfl <| SL.nil <| T.condF rfl <| T.seq <| T.region <| SL.v (op_eqlF rfl rfl (by omega)) ?_
      refine SL.as rfl <| SL.nil <| T.condF rfl <| T.seq <| T.region <| SL.v (op_eqlF rfl rfl (by omega)) ?_
      refine SL.as rfl <| SL.nil <| T.condF rfl <| T.seq <| T.region <| SL.v (op_eqlF rfl rfl (by omega)) ?_
      refine SL.as rfl <| SL.nil <| T.condF rfl <| T.seq <| T.region <| SL.v (op_eqlF rfl rfl (by omega)) ?_
      refine SL.as rfl <| SL.nil <| T.condF rfl <| T.skip <| T.blk <| T.seq <| T.region <| SL.mv rfl <| SL.mv rfl <| SL.v (op_addN (q := 1) rfl rfl (by omega)) ?_
      refine SL.as rfl <| SL.as rfl <| SL.nil <| T.seq <| T.block <| T.seq <| T.region <| SL.v (op_fieldAddr fa40_0 rfl) <| SL.v (op_load ty36 rfl (by repeat constructor) rfl) ?_
      refine SL.v (op_eqlF rfl rfl (by omega)) ?_
      refine SL.as rfl <| SL.nil <| T.condF rfl <| T.seq <| T.region <| SL.mv rfl <| SL.w (op_callF en114 (vs := [_]) rfl (strength_spec (op := 11))) ?_
      rintro _ _ X2 ⟨rfl, hX2, rfl⟩
      rw [show strN 11 = 5 from rfl]
      refine SL.v (op_eqlT rfl rfl (by omega)) ?_
      refine SL.as rfl <| SL.nil <| T.condT rfl <| T.region <| SL.mv rfl <| SL.v (op_addN (q := 1) rfl rfl (by omega)) ?_
      refine SL.mv rfl <| SL.v (op_addN (q := 1) rfl rfl (by omega)) ?_
      refine SL.as rfl <| SL.as rfl <| SL.nil <| T.blk ?_
      rw [← el]
      refine T.seq <| T.draw (by kernel_rfl) 18 [.t 0, .t 1, .t 2, .t 3, .t 4, .t 6, .t 7, .t 10, .t 11, .t 12, .t 13, .t 14, .r 5, .r 8, .t 9, .r 15, .t 16, .t 17] (by kernel_rfl) ?_
      refine SD.take rfl panicBody (op_fieldAddr fa40_3 rfl) rfl rfl ?_
      refine SD.take rfl panicBody (op_load ty38 rfl (by repeat constructor) rfl) rfl rfl ?_
      refine SD.take rfl panicBody (op_index Tryz.underlying38 ty40 rfl rfl (by omega) (by omega)) rfl rfl ?_
      refine SD.take rfl panicBody (op_loadX ty40 rfl (hbA.mono (hX1.trans' hX2)) (row_read rc4_len (rs := [_, _]) (k := 0) rfl (by omega))) rfl rfl ?_
      refine SD.take rfl panicBody (op_move rfl) rfl rfl ?_
      refine SD.take rfl panicBody (op_fieldAddr fa40_0 rfl) rfl rfl ?_
      refine SD.take rfl panicBody (op_load ty36 rfl (by repeat constructor) rfl) rfl rfl ?_
      refine SD.take rfl panicBody (op_fieldAddr fa40_3 rfl) rfl rfl ?_
      refine SD.take rfl panicBody (op_load ty38 rfl (by repeat constructor) rfl) rfl rfl ?_
      refine SD.take rfl panicBody (op_index Tryz.underlying38 ty40 rfl rfl (by omega) (by omega)) rfl rfl ?_
      refine SD.take rfl panicBody (op_loadX ty40 rfl (hbA.mono (hX1.trans' hX2)) (row_read rc4_len (rs := [_, _]) (k := 1) rfl (by omega))) rfl rfl ?_
      refine SD.take rfl panicBody (op_move rfl) rfl rfl ?_
      refine SD.run rfl (op_callF en117 (vs := [_, _]) rfl (hopd (hI.mono (hX1.trans' hX2)) hwa.1 hna hma (hra.mono (hX1.trans' hX2)))) rfl rfl ?_
      rintro _ _ X3 ⟨rfl, hX3, rfl⟩
      refine SD.run rfl (op_callF en118 (vs := [_]) rfl (opw_spec (op := op) (by omega) (by omega))) rfl rfl ?_
      rintro _ _ X4 ⟨rfl, hX4, rfl⟩
      refine SD.take rfl panicBody (op_addStr rfl rfl (by first | omega | (simp only [ByteArray.size_append]; omega))) rfl rfl ?_
      refine SD.run rfl (op_callF en117 (vs := [_, _]) rfl (hopd (((hI.mono (hX1.trans' hX2)).mono hX3).mono hX4) hwa.2 hnb hmb (((hrb.mono (hX1.trans' hX2)).mono hX3).mono hX4))) rfl rfl ?_
      rintro _ _ X5 ⟨rfl, hX5, rfl⟩
      refine SD.take rfl panicBody (op_addStr rfl rfl (by first | omega | (simp only [ByteArray.size_append]; omega))) rfl rfl ?_
      refine SD.take rfl panicBody (op_assign rfl) rfl rfl ?_
      refine SD.nil ?_
      show SL _ _ _ _ _ _ _ [] _ _ _
      refine SL.nil <| T.ret1 rfl (ResIs.tmp rfl) ?_
      rw [textE, if_neg c1, if_neg c2, if_neg c3, if_neg c4, if_neg c5, if_neg c6, textL, textL, textL, er, ← el]
    · have el : lefN op = strN op := by rw [lefN, if_neg c10, if_neg c5s]
      have er : rigN op = strN op + 1 := if_neg c10
      refine Spec.enter Tryz.func58 rfl Tryz.ntmps58 rfl ?_
      intro w0 hw0
      refine T.seq <| T.region <| SL.w (op_box rfl) ?_
      rintro _ _ _ ⟨B1, rfl, rfl, rfl⟩
      refine SL.as rfl <| SL.nil <| T.seq <| T.region <| SL.v (op_fieldAddr fa40_0 rfl) <| SL.v (op_load ty36 rfl (by repeat constructor) rfl) ?_
      refine SL.w (op_callF en114 (vs := [_]) rfl (strength_spec (op := op))) ?_
      rintro _ _ X1 ⟨rfl, hX1, rfl⟩
      refine SL.as rfl <| SL.nil <| T.seq <| T.seq <| T.region <| SL.v (op_fieldAddr fa40_0 rfl) <| SL.v (op_load ty36 rfl (by repeat constructor) rfl) ?_
      refine SL.nil <| T.block <| T.seq <| T.region <| SL.v (op_eqlF rfl rfl (by omega)) ?_
      refine SL.as rfl <| SL.nil <| T.condF rfl <| T.seq <| T.region <| SL.v (op_eqlF rfl rfl (by omega)) ?_
      refine SL.as rfl <| SL.nil <| T.condF rfl <| T.seq <| T.region <| SL.v (op_eqlF rfl rfl (by omega)) ?_
      refine SL.as rfl <| SL.nil <| T.condF rfl <| T.seq <| T.region <| SL.v (op_eqlF rfl rfl (by omega)) ?_
      refine SL.as rfl <| SL.nil <| T.condF rfl <| T.seq <| T.region <| SL.v (op_eqlF rfl rfl (by omega)) ?_
      refine SL.as rfl <| SL.nil <| T.condF rfl <| T.seq <| T.region <| SL.v (op_eqlF rfl rfl (by omega)) ?_
      refine SL.as rfl <| SL.nil <| T.condF rfl <| T.seq <| T.region <| SL.v (op_eqlF rfl rfl (by omega)) ?_
      refine SL.as rfl <| SL.nil <| T.condF rfl <| T.skip <| T.blk <| T.seq <| T.region <| SL.mv rfl <| SL.mv rfl <| SL.v (op_addN (q := 1) rfl rfl (by omega)) ?_
      refine SL.as rfl <| SL.as rfl <| SL.nil <| T.seq <| T.block <| T.seq <| T.region <| SL.v (op_fieldAddr fa40_0 rfl) <| SL.v (op_load ty36 rfl (by repeat constructor) rfl) ?_
      refine SL.v (op_eqlF rfl rfl (by omega)) ?_
      refine SL.as rfl <| SL.nil <| T.condF rfl <| T.seq <| T.region <| SL.mv rfl <| SL.w (op_callF en114 (vs := [_]) rfl (strength_spec (op := 11))) ?_
      rintro _ _ X2 ⟨rfl, hX2, rfl⟩
      rw [show strN 11 = 5 from rfl]
      refine SL.v (op_eqlF rfl rfl (by omega)) ?_
      refine SL.as rfl <| SL.nil <| T.condF rfl <| T.skip <| T.blk ?_
      rw [← er, ← el]
      refine T.seq <| T.draw (by kernel_rfl) 18 [.t 0, .t 1, .t 2, .t 3, .t 4, .t 6, .t 7, .t 10, .t 11, .t 12, .t 13, .t 14, .r 5, .r 8, .t 9, .r 15, .t 16, .t 17] (by kernel_rfl) ?_
      refine SD.take rfl panicBody (op_fieldAddr fa40_3 rfl) rfl rfl ?_
      refine SD.take rfl panicBody (op_load ty38 rfl (by repeat constructor) rfl) rfl rfl ?_
      refine SD.take rfl panicBody (op_index Tryz.underlying38 ty40 rfl rfl (by omega) (by omega)) rfl rfl ?_
      refine SD.take rfl panicBody (op_loadX ty40 rfl (hbA.mono (hX1.trans' hX2)) (row_read rc4_len (rs := [_, _]) (k := 0) rfl (by omega))) rfl rfl ?_
      refine SD.take rfl panicBody (op_move rfl) rfl rfl ?_
      refine SD.take rfl panicBody (op_fieldAddr fa40_0 rfl) rfl rfl ?_
      refine SD.take rfl panicBody (op_load ty36 rfl (by repeat constructor) rfl) rfl rfl ?_
      refine SD.take rfl panicBody (op_fieldAddr fa40_3 rfl) rfl rfl ?_
      refine SD.take rfl panicBody (op_load ty38 rfl (by repeat constructor) rfl) rfl rfl ?_
      refine SD.take rfl panicBody (op_index Tryz.underlying38 ty40 rfl rfl (by omega) (by omega)) rfl rfl ?_
      refine SD.take rfl panicBody (op_loadX ty40 rfl (hbA.mono (hX1.trans' hX2)) (row_read rc4_len (rs := [_, _]) (k := 1) rfl (by omega))) rfl rfl ?_
      refine SD.take rfl panicBody (op_move rfl) rfl rfl ?_
      refine SD.run rfl (op_callF en117 (vs := [_, _]) rfl (hopd (hI.mono (hX1.trans' hX2)) hwa.1 hna hma (hra.mono (hX1.trans' hX2)))) rfl rfl ?_
      rintro _ _ X3 ⟨rfl, hX3, rfl⟩
      refine SD.run rfl (op_callF en118 (vs := [_]) rfl (opw_spec (op := op) (by omega) (by omega))) rfl rfl ?_
      rintro _ _ X4 ⟨rfl, hX4, rfl⟩
      refine SD.take rfl panicBody (op_addStr rfl rfl (by first | omega | (simp only [ByteArray.size_append]; omega))) rfl rfl ?_
      refine SD.run rfl (op_callF en117 (vs := [_, _]) rfl (hopd (((hI.mono (hX1.trans' hX2)).mono hX3).mono hX4) hwa.2 hnb hmb (((hrb.mono (hX1.trans' hX2)).mono hX3).mono hX4))) rfl rfl ?_
      rintro _ _ X5 ⟨rfl, hX5, rfl⟩
      refine SD.take rfl panicBody (op_addStr rfl rfl (by first | omega | (simp only [ByteArray.size_append]; omega))) rfl rfl ?_
      refine SD.take rfl panicBody (op_assign rfl) rfl rfl ?_
      refine SD.nil ?_
      show SL _ _ _ _ _ _ _ [] _ _ _
      refine SL.nil <| T.ret1 rfl (ResIs.tmp rfl) ?_
      rw [textE, if_neg c1, if_neg c2, if_neg c3, if_neg c4, if_neg c5, if_neg c6, textL, textL, textL]
end Go.Proofs.YtnabbnhefjfegaaGreatDoor
namespace Go.Proofs.YtnabbnhefjfegaaGreatDoor
section
set_option maxRecDepth 100000
theorem en25 : Enters Tryz.prog 25 := enters_mk Tryz.func25 (by kernel_rfl) rfl
theorem fa82_0 : FAdr Tryz.prog 82 0 0 := fadr_mk Tryz.underlying82 rfl rfl (by kernel_rfl)
theorem fa82_1 : FAdr Tryz.prog 82 1 1 := fadr_mk Tryz.underlying82 rfl rfl (by kernel_rfl)
theorem fa82_2 : FAdr Tryz.prog 82 2 2 := fadr_mk Tryz.underlying82 rfl rfl (by kernel_rfl)
theorem fa82_3 : FAdr Tryz.prog 82 3 3 := fadr_mk Tryz.underlying82 rfl rfl (by kernel_rfl)
theorem ty4 : Ty Tryz.prog 4 false 1 := ⟨⟨_, Tryz.underlying4, rfl⟩, by kernel_rfl⟩
theorem ty80 : Ty Tryz.prog 80 false 1 := ⟨⟨_, Tryz.underlying80, rfl⟩, by kernel_rfl⟩
theorem ty82 : Ty Tryz.prog 82 true 7 := ⟨⟨_, Tryz.underlying82, rfl⟩, by kernel_rfl⟩
theorem z82 : Zero Tryz.prog 82 [.bool false, .int .u8 0, .string ⟨#[]⟩, .int .u8 0, .int .i64 0, .slice none 0 0, .slice none 0 0] := ⟨zero_of (by kernel_rfl)⟩
end
open Go.RowKit
theorem eprint_spec {M : Nat} {X : PMap} (hI : ItoaOk M X) {e : Ex} {r : Row4} (hw : wtE e < 900000) (hn : chkE e = 0 → numE M e) (h : ExR .u8 X e r) : Spec Tryz.prog 27 [.agg #[r.1, r.2.1, r.2.2.1, r.2.2.2]] X fun u _ => u = .string (if chkE e = 0 then textE e else ⟨#[]⟩) := by
  obtain ⟨_, _, _, _, _, _, _, _, rfl⟩ := h.form
  by_cases hc : chkE e = 0
  · have hnode : nodeE e = 0 := by
      unfold chkE at hc
      split at hc
      · cases hc
      · exact hc
    refine Spec.enter Tryz.func27 rfl Tryz.ntmps27 rfl ?_
    intro w0 hw0
    refine T.seq <| T.region <| SL.w (op_box rfl) ?_
    rintro _ _ _ ⟨B1, rfl, rfl, rfl⟩
    refine SL.as rfl <| SL.nil <| T.seq <| T.seq <| T.region <| SL.v (op_load ty40 rfl (by repeat constructor) rfl) ?_
    refine SL.w (op_callF en25 (vs := [_]) rfl (chk_spec (by omega) h)) ?_
    rintro _ _ X1 ⟨rfl, hX1, rfl⟩
    refine SL.v (op_neqF rfl rfl (by omega)) ?_
    refine SL.nil <| T.condF rfl <| T.skip <| T.seq <| T.region <| SL.v (op_load ty40 rfl (by repeat constructor) rfl) ?_
    refine SL.w (op_callF en58 (vs := [_]) rfl (etext_spec _ (hI.mono hX1) (Nat.le_refl _) (by omega) hnode (hn hc) (h.mono hX1))) ?_
    rintro _ _ X2 ⟨rfl, hX2, rfl⟩
    refine SL.as rfl <| SL.nil <| T.ret1 rfl (ResIs.tmp rfl) ?_
    rw [if_pos hc]
  · refine Spec.enter Tryz.func27 rfl Tryz.ntmps27 rfl ?_
    intro w0 hw0
    refine T.seq <| T.region <| SL.w (op_box rfl) ?_
    rintro _ _ _ ⟨B1, rfl, rfl, rfl⟩
    refine SL.as rfl <| SL.nil <| T.seq <| T.seq <| T.region <| SL.v (op_load ty40 rfl (by repeat constructor) rfl) ?_
    refine SL.w (op_callF en25 (vs := [_]) rfl (chk_spec (by omega) h)) ?_
    rintro _ _ X1 ⟨rfl, hX1, rfl⟩
    refine SL.v (op_neqT rfl rfl (by omega)) ?_
    refine SL.nil <| T.condT rfl <| T.seq <| T.region <| SL.as rfl <| SL.nil <| T.ret1 rfl (ResIs.tmp rfl) ?_
    rw [if_neg hc]
structure Con where
  enf : Bool
  kind : Nat
  name : ByteArray
  ex : Ex
abbrev Row7 := Bool × Nat × ByteArray × Row4
def rc7 (r : Row7) : List Value := [.bool r.1, .int .u8 (r.2.1 : Int), .string r.2.2.1, r.2.2.2.1, r.2.2.2.2.1, r.2.2.2.2.2.1, r.2.2.2.2.2.2]
theorem rc7_len (r : Row7) : (rc7 r).length = 7 := rfl
def ConR (X : PMap) (c : Con) (r : Row7) : Prop := r.1 = c.enf ∧ r.2.1 = c.kind ∧ r.2.2.1 = c.name ∧ ExR .u8 X c.ex r.2.2.2
theorem ConR.mono {X X' : PMap} {c : Con} {r : Row7} (h : ConR X c r) (hX : X.le X') : ConR X' c r := ⟨h.1, h.2.1, h.2.2.1, h.2.2.2.mono hX⟩
theorem ConR.form {X : PMap} {c : Con} {r : Row7} (h : ConR X c r) : ∃ (o : Nat) (n : Int) (A B : Option Addr) (l c1 l' c' : Nat), r = (c.enf, c.kind, c.name, .int .u8 (o : Int), .int .i64 n, .slice A l c1, .slice B l' c') := by
  obtain ⟨e, k, s, r4⟩ := r
  obtain ⟨h1, h2, h3, h4⟩ := h
  simp only at h1 h2 h3 h4
  subst h1 h2 h3
  obtain ⟨o, n, A, B, l, c1, l', c', rfl⟩ := h4.form
  exact ⟨_, _, _, _, _, _, _, _, rfl⟩
def ConsR (X : PMap) (v : Value) (cs : List Con) : Prop := ∃ rows : List Row7, RowR rc7 X v rows ∧ rows.length = cs.length ∧ ∀ (i : Nat) (c : Con) (r : Row7), cs[i]? = some c → rows[i]? = some r → ConR X c r
theorem ConsR.mono {X X' : PMap} {v : Value} {cs : List Con} (h : ConsR X v cs) (hX : X.le X') : ConsR X' v cs :=
  let ⟨rows, h1, h2, h3⟩ := h
  ⟨rows, h1.mono hX, h2, fun i c r a b => (h3 i c r a b).mono hX⟩
/-- The error of a constraint behind these names. -/
noncomputable def errC (pre : List ByteArray) (c : Con) : Int := if c.kind < 1 ∨ 3 < c.kind then 1 else if ¬validS c.name then 9 else if c.name ∈ pre then 5 else chkE c.ex
noncomputable def chkCs (pre : List ByteArray) : List Con → Int
  | [] => 0
  | c :: cs => if errC pre c ≠ 0 then errC pre c else chkCs (pre ++ [c.name]) cs
def modeB (c : Con) : ByteArray := if c.enf then ⟨#[101, 110, 102, 111, 114, 99, 101, 32]⟩ else ⟨#[100, 101, 99, 108, 97, 114, 101, 32]⟩
def kinds3 : List ByteArray := [⟨#[115, 116, 97, 116, 105, 99, 32]⟩, ⟨#[100, 121, 110, 97, 109, 105, 99, 32]⟩, ⟨#[117, 115, 101, 114, 115, 32]⟩]
def kindB (k : Nat) : ByteArray := (kinds3[k - 1]?).getD ⟨#[]⟩
def lineB (c : Con) : ByteArray := modeB c ++ kindB c.kind ++ c.name ++ ⟨#[58, 32]⟩ ++ textE c.ex ++ ⟨#[59, 10]⟩
def linesL (cs : List Con) : List UInt8 := (cs.map fun c => (lineB c).data.toList).flatten
theorem linesL_snoc (cs : List Con) (c : Con) : linesL (cs ++ [c]) = linesL cs ++ (lineB c).data.toList := by simp [linesL]
noncomputable def chkAll (cs : List Con) : Int := if 32 < cs.length then 3 else if chkCs [] cs ≠ 0 then chkCs [] cs else if 8000 < (linesL cs).length then 3 else 0
theorem chkCs_app (b : List Con) : ∀ (a : List Con) (pre : List ByteArray), chkCs pre (a ++ b) = if chkCs pre a ≠ 0 then chkCs pre a else chkCs (pre ++ a.map (·.name)) b
  | [], pre => by simp [chkCs]
  | c :: a, pre => by
    rw [List.cons_append, chkCs, chkCs, chkCs_app b a]
    by_cases h : errC pre c ≠ 0
    · simp [h]
    · simp only [h, if_false, List.map_cons, List.append_assoc, List.cons_append, List.nil_append]
theorem errC_ok {pre : List ByteArray} {c : Con} (h : errC pre c = 0) : 1 ≤ c.kind ∧ c.kind ≤ 3 ∧ validS c.name ∧ c.name ∉ pre ∧ chkE c.ex = 0 := by
  unfold errC at h
  by_cases h1 : c.kind < 1 ∨ 3 < c.kind
  · rw [if_pos h1] at h; cases h
  · rw [if_neg h1] at h
    by_cases h2 : ¬validS c.name
    · rw [if_pos h2] at h; cases h
    · rw [if_neg h2] at h
      by_cases h3 : c.name ∈ pre
      · rw [if_pos h3] at h; cases h
      · rw [if_neg h3] at h
        exact ⟨by omega, by omega, Classical.not_not.1 h2, h3, h⟩
theorem chkE_node {e : Ex} (h : chkE e = 0) : nodeE e = 0 := by
  unfold chkE at h
  split at h
  · cases h
  · exact h
theorem chkCs_mem : ∀ {cs : List Con} {pre : List ByteArray}, chkCs pre cs = 0 → ∀ c ∈ cs, 1 ≤ c.kind ∧ c.kind ≤ 3 ∧ validS c.name ∧ chkE c.ex = 0
  | d :: cs, pre, h, c, hm => by
    rw [chkCs] at h
    by_cases he : errC pre d ≠ 0
    · rw [if_pos he] at h; exact absurd h he
    · rw [if_neg he] at h
      rcases List.mem_cons.1 hm with rfl | hm
      · obtain ⟨a, b, c', _, d'⟩ := errC_ok (Decidable.not_not.1 he)
        exact ⟨a, b, c', d'⟩
      · exact chkCs_mem h c hm
theorem kind_at {k : Nat} (h1 : 1 ≤ k) (h3 : k ≤ 3) : kinds3[k - 1]? = some (kindB k) := by
  rw [kindB, List.getElem?_eq_getElem (show k - 1 < kinds3.length by show k - 1 < 3; omega)]; rfl
theorem kindB_size (k : Nat) : (kindB k).size ≤ 8 := by
  unfold kindB
  cases h : kinds3[k - 1]? with
  | none => exact Nat.zero_le _
  | some s =>
    have := List.mem_of_getElem? h
    simp only [kinds3, List.mem_cons, List.not_mem_nil, or_false] at this
    rcases this with rfl | rfl | rfl <;> decide
theorem modeB_size (c : Con) : (modeB c).size = 8 := by unfold modeB; split <;> rfl
theorem lineB_size {c : Con} (hv : c.name.size ≤ 12) : 1 ≤ (lineB c).size ∧ (lineB c).size ≤ 40 * wtE c.ex + 40 := by
  have h1 := text_size c.ex
  have h2 := kindB_size c.kind
  have h3 := modeB_size c
  have k1 : (⟨#[58, 32]⟩ : ByteArray).size = 2 := rfl
  have k2 : (⟨#[59, 10]⟩ : ByteArray).size = 2 := rfl
  simp only [lineB, ByteArray.size_append]
  omega
theorem wrapK {k : Nat} (h1 : 1 ≤ k) (h3 : k ≤ 3) : IntKind.u8.wrap ((k : Int) - 1) = ((k - 1 : Nat) : Int) := by
  have := wrap_u8 (p := (k : Int) - 1) (by omega) (by omega)
  rw [this]; omega
def wtC (cs : List Con) : Nat := (cs.map fun c => wtE c.ex).sum
theorem wtC_mem {c : Con} : ∀ {cs : List Con}, c ∈ cs → wtE c.ex ≤ wtC cs
  | d :: cs, h => by
    simp only [wtC, List.map_cons, List.sum_cons]
    rcases List.mem_cons.1 h with rfl | h
    · omega
    · have := wtC_mem h; simp only [wtC] at this; omega
theorem linesL_len : ∀ {cs : List Con}, (∀ c ∈ cs, c.name.size ≤ 12) → (linesL cs).length ≤ 40 * wtC cs + 40 * cs.length
  | [], _ => by simp [linesL]
  | c :: cs, h => by
    have h1 := linesL_len (cs := cs) fun d hd => h d (by simp [hd])
    have h2 := (lineB_size (h c (by simp))).2
    simp only [linesL, wtC, List.map_cons, List.flatten_cons, List.sum_cons, List.length_append, List.length_cons] at h1 ⊢
    have e : (lineB c).data.toList.length = (lineB c).size := by simp
    omega
theorem wtC_take_le : ∀ (cs : List Con) (i : Nat), wtC (cs.take i) ≤ wtC cs
  | [], _ => by simp
  | _ :: _, 0 => by simp [wtC]
  | c :: cs, i + 1 => by
    have := wtC_take_le cs i
    simp only [wtC, List.take_succ_cons, List.map_cons, List.sum_cons] at this ⊢; omega
theorem perm2a {a b : Ow} {L : Own} : (a :: b :: (L ++ [])).Perm (L ++ ([] ++ [a, b])) := by
  rw [List.append_nil, List.nil_append]
  exact List.perm_append_comm (l₁ := [a, b])
theorem lines_spec {M : Nat} {X : PMap} (hI : ItoaOk M X) {v : Value} {cs : List Con} (h : ConsR X v cs) (hl : cs.length ≤ 40) (h0 : 0 < cs.length) (hw : wtC cs < 15000000) (hww : ∀ c ∈ cs, wtE c.ex < 900000) (hn : ∀ c ∈ cs, numE M c.ex)
    (hok : ∀ c ∈ cs, 1 ≤ c.kind ∧ c.kind ≤ 3 ∧ validS c.name ∧ chkE c.ex = 0) : Spec Tryz.prog 37 [v] X fun u _ => u = .string ⟨(linesL cs).toArray⟩ := by
  obtain ⟨rows, hr, hrl, hrow⟩ := h
  obtain ⟨A, cp, rfl⟩ := hr.form
  have hvs : ∀ c ∈ cs, c.name.size ≤ 12 := fun c hc => (hok c hc).2.2.1.2.1
  refine Spec.enter Tryz.func37 rfl Tryz.ntmps37 rfl ?_
  intro w0 hw0
  refine T.seq <| T.region <| SL.as rfl <| SL.nil <| T.seq <| T.region <| SL.w (op_alloc z137) ?_
  rintro _ _ _ ⟨B3, rfl, rfl, rfl⟩
  refine SL.nil <| T.seq <| T.seq <| T.region <| SL.mv rfl <| SL.v (op_lenS Tryz.underlying24 rfl) <| SL.v (op_move (v := .int .i64 ((0 : Nat) : Int)) rfl) <| SL.nil <| T.block <| T.loopW (fun m env own X' => ∃ (i : Nat) (p s : Value) (G : Own), m = rows.length - i ∧ i ≤ rows.length ∧ X.le X' ∧ (p = .pointer none ∨ p = .pointer (some ⟨B3, 0, none⟩)) ∧ BufG (linesL (cs.take i)) s G ∧ env = [(3, .pointer (some ⟨B3, 0, none⟩)), (8, .slice A rows.length cp), (9, .int .i64 (rows.length : Int)), (10, .int .i64 (i : Int))] ∧ own = (BldO B3 p s :: G) ++ []) rows.length ⟨0, _, _, [], by simp, by omega, PMap.le_refl _, .inl rfl, GrowS.nil, rfl, rfl⟩ (by repeat (first | exact Sub.nil | refine Sub.cons rfl ?_)) ?_
  rintro m _ _ X1 ⟨i, p, s, G, rfl, hi, hX1, hp, hG, rfl, rfl⟩
  have hlt := linesL_len (cs := cs.take i) fun c hc => hvs c (List.mem_of_mem_take hc)
  have hwt := wtC_take_le cs i
  have hlt2 : (cs.take i).length ≤ 40 := by rw [List.length_take]; omega
  rcases Nat.lt_or_ge i rows.length with hil | hil
  · obtain ⟨r2, hr2⟩ : ∃ r2, rows[i]? = some r2 := ⟨_, List.getElem?_eq_getElem hil⟩
    obtain ⟨c, hc2⟩ : ∃ c, cs[i]? = some c := ⟨_, List.getElem?_eq_getElem (by omega)⟩
    have hmc := List.mem_of_getElem? hc2
    have hrc := hrow i c r2 hc2 hr2
    obtain ⟨q1, q2, q3, q4⟩ := hok c hmc
    obtain ⟨bA, pre, rfl, hbA⟩ := hr.blk (by omega)
    obtain ⟨o8, n8, a8, b8, l8, c8, l9, c9, rfl⟩ := hrc.form
    have hex := hrc.2.2.2
    simp only at hex
    have hts := text_size c.ex
    have hwe := hww c hmc
    have hls := lineB_size (hvs c hmc)
    have hk3 := strsC_at (kind_at q1 q2)
    have hks := kindB_size c.kind
    have hms := modeB_size c
    have hnz := q3.2.1
    have k1 : (⟨#[58, 32]⟩ : ByteArray).size = 2 := rfl
    have k2 : (⟨#[59, 10]⟩ : ByteArray).size = 2 := rfl
    have k3 : (⟨#[101, 110, 102, 111, 114, 99, 101, 32]⟩ : ByteArray).size = 8 := rfl
    have k4 : (⟨#[100, 101, 99, 108, 97, 114, 101, 32]⟩ : ByteArray).size = 8 := rfl
    have htk := take_snoc hc2
    refine T.seq <| T.region <| SL.v (op_lssT rfl rfl (by omega)) ?_
    refine SL.nil <| T.seq <| T.condT rfl <| T.skip <| T.seq <| T.block <| T.seq <| T.region <| SL.v (op_indexN Tryz.underlying24 ty82 rfl rfl (by omega)) ?_
    refine SL.v (op_loadX ty82 rfl (hbA.mono hX1) (row_read rc7_len hr2 (by omega))) ?_
    refine SL.w (op_alloc z82) ?_
    rintro _ _ _ ⟨B5, rfl, rfl, rfl⟩
    refine SL.w (op_store ty82 rfl rfl (by repeat constructor) rfl rfl rfl) ?_
    rintro _ _ _ ⟨rfl, rfl⟩
    refine SL.nil <| T.seq <| T.region <| SL.as rfl <| SL.nil <| T.seq <| T.meet (fun _ env own X' => X1.le X' ∧ env = [(3, .pointer (some ⟨B3, 0, none⟩)), (5, .pointer (some ⟨B5, 0, none⟩)), (6, .string (modeB c)), (8, .slice (some ⟨bA, pre.length, none⟩) rows.length cp), (9, .int .i64 (rows.length : Int)), (10, .int .i64 (i : Int))] ∧ own = ⟨B5, rc7 (c.enf, c.kind, c.name, .int .u8 (o8 : Int), .int .i64 n8, .slice a8 l8 c8, .slice b8 l9 c9), 82, 7⟩ :: ((BldO B3 p s :: G) ++ [])) ?_ ?_
    · cases hce : c.enf with
      | true =>
        have e : modeB c = ⟨#[101, 110, 102, 111, 114, 99, 101, 32]⟩ := by rw [modeB, hce]; rfl
        rw [e]
        refine T.seq <| T.region <| SL.v (op_fieldAddr fa82_0 rfl) <| SL.v (op_load ty4 rfl (by repeat constructor) rfl) ?_
        refine SL.nil <| T.condT rfl <| T.region <| SL.as rfl <| SL.nil ?_
        exact T.backW 0 (by omega) ⟨PMap.le_refl _, rfl, rfl⟩ (by repeat (first | exact Sub.nil | refine Sub.cons rfl ?_))
      | false =>
        have e : modeB c = ⟨#[100, 101, 99, 108, 97, 114, 101, 32]⟩ := by rw [modeB, hce]; rfl
        rw [e]
        refine T.seq <| T.region <| SL.v (op_fieldAddr fa82_0 rfl) <| SL.v (op_load ty4 rfl (by repeat constructor) rfl) ?_
        refine SL.nil <| T.condF rfl <| T.skip ?_
        exact T.backW 0 (by omega) ⟨PMap.le_refl _, rfl, rfl⟩ (by repeat (first | exact Sub.nil | refine Sub.cons rfl ?_))
    rintro _ _ _ X2 ⟨hX2, rfl, rfl⟩
    refine T.seq <| T.region <| SL.w (op_buildSlice Tryz.underlying37 bs9 (qs := [(0, _), (1, _), (2, _)]) rfl rfl rfl rfl rfl) ?_
    rintro _ _ _ ⟨B16, rfl, rfl, rfl⟩
    refine SL.v (op_fieldAddr fa82_1 rfl) <| SL.v (op_load ty80 rfl (by repeat constructor) rfl) ?_
    refine SL.v (op_subW rfl rfl) ?_
    rw [wrapK q1 q2]
    refine SL.v (op_indexN Tryz.underlying37 ty9 rfl rfl (by omega)) ?_
    refine SL.v (op_load ty9 rfl (by repeat constructor) (cread1k' hk3 (by omega))) ?_
    refine SL.as rfl <| SL.nil <| T.drawG (own0 := [_, _]) (by kernel_rfl) 13 [.t 0, .t 1, .t 2, .t 3, .t 4, .t 5, .t 6, .t 7, .t 8, .r 9, .t 10, .t 11, .r 12] (by kernel_rfl) ?_
    refine SD.take rfl panicBody (op_move rfl) rfl rfl ?_
    refine SD.take rfl panicBody (op_move rfl) rfl rfl ?_
    refine SD.take rfl panicBody (op_addStr rfl rfl (by first | omega | (simp only [ByteArray.size_append]; omega))) rfl rfl ?_
    refine SD.take rfl panicBody (op_fieldAddr fa82_2 rfl) rfl rfl ?_
    refine SD.take rfl panicBody (op_load ty9 rfl (by repeat constructor) rfl) rfl rfl ?_
    refine SD.take rfl panicBody (op_addStr rfl rfl (by first | omega | (simp only [ByteArray.size_append]; omega))) rfl rfl ?_
    refine SD.take rfl panicBody (op_addStr rfl rfl (by first | omega | (simp only [ByteArray.size_append]; omega))) rfl rfl ?_
    refine SD.take rfl panicBody (op_fieldAddr fa82_3 rfl) rfl rfl ?_
    refine SD.take rfl panicBody (op_load ty40 rfl (by repeat constructor) rfl) rfl rfl ?_
    refine SD.run rfl (op_callF en58 (vs := [_]) rfl (etext_spec _ ((hI.mono hX1).mono hX2) (Nat.le_refl _) (by omega) (chkE_node q4) (hn c hmc) ((hex.mono hX1).mono hX2))) rfl rfl ?_
    rintro _ _ X3 ⟨rfl, hX3, rfl⟩
    refine SD.take rfl panicBody (op_addStr rfl rfl (by first | omega | (simp only [ByteArray.size_append]; omega))) rfl rfl ?_
    refine SD.take rfl panicBody (op_addStr rfl rfl (by first | omega | (simp only [ByteArray.size_append]; omega))) rfl rfl ?_
    refine SD.perm (perm2a (L := BldO B3 p s :: G)) ?_
    refine SD.runK rfl (op_callM en78 (vs := [_, _]) rfl (writeStr_spec (t := lineB c) hp hG (by omega) (by omega) hls.1) rfl) (by rintro _ _ _ ⟨L', rfl, hX, _⟩; exact ⟨fun p hp => List.mem_append_right _ hp, hX3.trans' hX⟩) rfl rfl ?_
    rintro _ _ X4 ⟨_, rfl, hX4, rfl, s4, G4, rfl, hG4⟩
    refine SD.nil ?_
    show SL _ _ _ _ _ _ _ [] _ _ _
    refine SL.nil <| T.blk <| T.region <| SL.v (op_addN (q := 1) rfl rfl (by omega)) ?_
    refine SL.mv rfl <| SL.nil <| T.less (List.Sublist.append_left (List.nil_sublist _) _) ?_
    rw [← linesL_snoc, ← htk] at hG4
    exact T.backW (rows.length - (i + 1)) (by omega) ⟨i + 1, _, _, _, rfl, by omega, ((hX1.trans' hX2).trans' hX3).trans' hX4, .inr rfl, hG4, rfl, rfl⟩ (by repeat (first | exact Sub.nil | refine Sub.cons rfl ?_))
  · obtain rfl : i = rows.length := by omega
    have e : cs.take rows.length = cs := List.take_of_length_le (by omega)
    rw [e] at hG hlt
    have hne : linesL cs ≠ [] := by
      obtain ⟨c, l, rfl⟩ : ∃ c l, cs = c :: l := by
        cases cs with
        | nil => simp at h0
        | cons c l => exact ⟨c, l, rfl⟩
      intro h
      have := (lineB_size (hvs c (by simp))).1
      have e : (lineB c).data.toList.length = (lineB c).size := by simp
      have h2 := congrArg List.length h
      simp only [linesL, List.map_cons, List.flatten_cons, List.length_append, List.length_nil] at h2
      omega
    refine T.seq <| T.region <| SL.v (op_lssF rfl rfl (by omega)) ?_
    refine SL.nil <| T.seq <| T.condF rfl ?_
    refine T.exit (T.exitCode (T.exitCut (T.exitBlk ?_)))
    refine T.seq <| T.region <| SL.w (op_callM en80 (vs := [_]) rfl (builderString_spec hG hne (by omega)) rfl) ?_
    rintro _ _ X5 ⟨_, rfl, hX5, rfl, rfl⟩
    refine SL.as rfl <| SL.nil <| T.ret1 rfl (ResIs.tmp rfl) ?_
    rfl
end Go.Proofs.YtnabbnhefjfegaaGreatDoor
namespace Go.Proofs.YtnabbnhefjfegaaGreatDoor
open Go.RowKit
section
variable {P : Program} {n : NM} {w0 : Base} {X0 X : PMap} {own : Own} {env : Env}
/-- string(b) of bytes that are known. -/
theorem op_strBytes {src dst e : TypeId} {x : Operand} {a : Addr} {cap : Nat} {l : List UInt8} (hs : P.underlying src = some (.slice e)) (he : P.underlying e = some (.int .u8)) (hd : P.underlying dst = some .string)
    (hx : eev env x = some (.slice (some a) l.length cap)) (hc : ∀ W, Stab own X W → ∀ j (hj : j < l.length), W.cell? (a.add j) = some (.int .u8 (l[j].toNat : Int))) : OpY P n env own X (.convert src dst x) (.string ⟨l.toArray⟩) := by
  intro A W oper hop ha hst
  have hr := run_convert_bytes_back (P := P) W src dst e a cap l hs he hd (hc W hst)
  simp only [execOp, hop, ha.eval hx, Sem.run_bind, Sem.run_pure, Result.andThen_ok, hr]
/-- string([]byte{c}). -/
theorem op_str1 {src dst e ty : TypeId} {x : Operand} {b cap sz j : Nat} {c : UInt8} (hs : P.underlying src = some (.slice e)) (he : P.underlying e = some (.int .u8)) (hd : P.underlying dst = some .string)
    (hx : eev env x = some (.slice (some ⟨b, 0, none⟩) 1 cap)) (ho : AtO own b [.int .u8 (c.toNat : Int)] ty sz j) : OpY P n env own X (.convert src dst x) (.string ⟨#[c]⟩) :=
  op_strBytes (l := [c]) hs he hd hx fun W hst j hj => by
    obtain rfl : j = 0 := by simpa using hj
    exact (hst.own _ ho.mem).cell rfl
end
end Go.Proofs.YtnabbnhefjfegaaGreatDoor
