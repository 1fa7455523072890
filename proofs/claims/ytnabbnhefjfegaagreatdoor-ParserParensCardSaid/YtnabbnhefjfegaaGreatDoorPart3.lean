/- What the law's proof rests on: the engine, a small separation logic over the kit's walk, and contracts of the functions that the law reaches. Part 3. -/
import Derived.Lib.MakeNoZero
import Derived.Test.YtnabbnhefjfegaaGreatDoorPart1
import Derived.Test.YtnabbnhefjfegaaGreatDoorPart2
namespace Go.Proofs.YtnabbnhefjfegaaGreatDoor
section
set_option maxRecDepth 100000
theorem en112 : Enters Tryz.prog 112 := enters_mk Tryz.func112 (by kernel_rfl) rfl
theorem en119 : Enters Tryz.prog 119 := enters_mk Tryz.func119 (by kernel_rfl) rfl
theorem en124 : Enters Tryz.prog 124 := enters_mk Tryz.func124 (by kernel_rfl) rfl
theorem en125 : Enters Tryz.prog 125 := enters_mk Tryz.func125 (by kernel_rfl) rfl
theorem en61 : Enters Tryz.prog 61 := enters_mk Tryz.func61 (by kernel_rfl) rfl
theorem fa45_0 : FAdr Tryz.prog 45 0 0 := fadr_mk Tryz.underlying45 rfl rfl (by kernel_rfl)
theorem fa45_1 : FAdr Tryz.prog 45 1 1 := fadr_mk Tryz.underlying45 rfl rfl (by kernel_rfl)
theorem fa45_2 : FAdr Tryz.prog 45 2 2 := fadr_mk Tryz.underlying45 rfl rfl (by kernel_rfl)
end
open Go.RowKit
theorem rargN_spec {X : PMap} {op : Nat} : Spec Tryz.prog 112 [.int .i64 (op : Int)] X fun u _ => u = .int .i64 (argN op : Int) := by
  by_cases h1 : 8 ≤ op
  · refine Spec.enter Tryz.func112 rfl Tryz.ntmps112 rfl ?_
    intro w0 hw0
    refine T.seq <| T.region <| SL.v (op_assign (v := .int .i64 ((0 : Nat) : Int)) rfl) <| SL.nil <| T.seq <| T.seq <| T.region <| SL.mv rfl <| SL.v (op_geqT rfl rfl (by omega)) ?_
    refine SL.nil <| T.condT rfl <| T.seq <| T.region <| SL.v (op_assign (v := .int .i64 ((2 : Nat) : Int)) rfl) <| SL.nil <| T.ret1 rfl (ResIs.tmp rfl) ?_
    rw [argN, if_neg (by omega), if_neg (by omega)]
  · by_cases h2 : op = 7
    · refine Spec.enter Tryz.func112 rfl Tryz.ntmps112 rfl ?_
      intro w0 hw0
      refine T.seq <| T.region <| SL.v (op_assign (v := .int .i64 ((0 : Nat) : Int)) rfl) <| SL.nil <| T.seq <| T.seq <| T.region <| SL.mv rfl <| SL.v (op_geqF rfl rfl (by omega)) ?_
      refine SL.nil <| T.condF rfl <| T.skip <| T.seq <| T.seq <| T.region <| SL.mv rfl <| SL.v (op_eqlT rfl rfl (by omega)) ?_
      refine SL.nil <| T.condT rfl <| T.seq <| T.region <| SL.v (op_assign (v := .int .i64 ((1 : Nat) : Int)) rfl) <| SL.nil <| T.ret1 rfl (ResIs.tmp rfl) ?_
      rw [argN, if_neg (by omega), if_pos h2]
    · refine Spec.enter Tryz.func112 rfl Tryz.ntmps112 rfl ?_
      intro w0 hw0
      refine T.seq <| T.region <| SL.v (op_assign (v := .int .i64 ((0 : Nat) : Int)) rfl) <| SL.nil <| T.seq <| T.seq <| T.region <| SL.mv rfl <| SL.v (op_geqF rfl rfl (by omega)) ?_
      refine SL.nil <| T.condF rfl <| T.skip <| T.seq <| T.seq <| T.region <| SL.mv rfl <| SL.v (op_eqlF rfl rfl (by omega)) ?_
      refine SL.nil <| T.condF rfl <| T.skip <| T.seq <| T.region <| SL.v (op_assign (v := .int .i64 ((0 : Nat) : Int)) rfl) <| SL.nil <| T.ret1 rfl (ResIs.tmp rfl) ?_
      rw [argN, if_pos (by omega)]
theorem rnode_spec {X : PMap} {op : Nat} {n : Int} {ns : List ByteArray} {k ca cn : Nat} {An Aa : Option Addr} (_hk : k < 1000000000) (hnl : ns.length < 1000000000) (hn : RowR strC X (.slice An ns.length cn) ns) : Spec Tryz.prog 119 [.agg #[.int .i64 (op : Int), .int .i64 n, .slice An ns.length cn, .slice Aa k ca]] X fun u _ => u = .int .i64 (ownE op n ns k) := by
  have hcn : ns.length ≤ cn := by
    rcases Nat.eq_zero_or_pos ns.length with h0 | h0
    · omega
    · exact (hn.cap h0).1
  by_cases a1 : op < 1
  · refine Spec.enter Tryz.func119 rfl Tryz.ntmps119 rfl ?_
    intro w0 hw0
    refine T.seq <| T.region <| SL.w (op_box rfl) ?_
    rintro _ _ _ ⟨B1, rfl, rfl, rfl⟩
    refine SL.v (op_assign (v := .int .i64 ((0 : Nat) : Int)) rfl) <| SL.nil <| T.seq <| T.seq <| T.draw (by kernel_rfl) 17 [.t 0, .t 1, .t 2, .t 3, .t 4, .t 5, .t 6, .t 7, .t 8, .t 9, .t 10, .t 11, .t 12, .t 13, .r 14, .t 15, .t 16] (by kernel_rfl) ?_
    refine SD.take rfl panicBody (op_fieldAddr fa45_0 rfl) rfl rfl ?_
    refine SD.take rfl panicBody (op_load ty3 rfl (by repeat constructor) rfl) rfl rfl ?_
    refine SD.take rfl panicBody (op_lssT rfl rfl (by omega)) rfl rfl ?_
    refine SD.take rfl panicBody (op_move rfl) rfl rfl ?_
    refine SD.skip rfl panicBody rfl rfl ?_
    refine SD.skip rfl panicBody rfl rfl ?_
    refine SD.skip rfl panicBody rfl rfl ?_
    refine SD.take rfl panicBody (op_pickT rfl rfl) rfl rfl ?_
    refine SD.take rfl panicBody (op_move rfl) rfl rfl ?_
    refine SD.skip rfl panicBody rfl rfl ?_
    refine SD.skip rfl panicBody rfl rfl ?_
    refine SD.skip rfl panicBody rfl rfl ?_
    refine SD.skip rfl panicBody rfl rfl ?_
    refine SD.skip rfl panicBody rfl rfl ?_
    refine SD.skipF rfl rfl rfl ?_
    refine SD.skip rfl panicBody rfl rfl ?_
    refine SD.take rfl panicBody (op_pickT rfl rfl) rfl rfl ?_
    refine SD.nil ?_
    show SL _ _ _ _ _ _ _ [] _ _ _
    refine SL.nil <| T.condT rfl <| T.seq <| T.region <| SL.v (op_assign (v := .int .i64 ((1 : Nat) : Int)) rfl) <| SL.nil <| T.ret1 rfl (ResIs.tmp rfl) ?_
    rw [own1 (.inl a1)]; rfl
  by_cases a2 : 16 < op
  · refine Spec.enter Tryz.func119 rfl Tryz.ntmps119 rfl ?_
    intro w0 hw0
    refine T.seq <| T.region <| SL.w (op_box rfl) ?_
    rintro _ _ _ ⟨B1, rfl, rfl, rfl⟩
    refine SL.v (op_assign (v := .int .i64 ((0 : Nat) : Int)) rfl) <| SL.nil <| T.seq <| T.seq <| T.draw (by kernel_rfl) 17 [.t 0, .t 1, .t 2, .t 3, .t 4, .t 5, .t 6, .t 7, .t 8, .t 9, .t 10, .t 11, .t 12, .t 13, .r 14, .t 15, .t 16] (by kernel_rfl) ?_
    refine SD.take rfl panicBody (op_fieldAddr fa45_0 rfl) rfl rfl ?_
    refine SD.take rfl panicBody (op_load ty3 rfl (by repeat constructor) rfl) rfl rfl ?_
    refine SD.take rfl panicBody (op_lssF rfl rfl (by omega)) rfl rfl ?_
    refine SD.take rfl panicBody (op_move rfl) rfl rfl ?_
    refine SD.take rfl panicBody (op_fieldAddr fa45_0 rfl) rfl rfl ?_
    refine SD.take rfl panicBody (op_load ty3 rfl (by repeat constructor) rfl) rfl rfl ?_
    refine SD.take rfl panicBody (op_gtrT rfl rfl (by omega)) rfl rfl ?_
    refine SD.take rfl panicBody (op_pickF rfl rfl) rfl rfl ?_
    refine SD.take rfl panicBody (op_move rfl) rfl rfl ?_
    refine SD.skip rfl panicBody rfl rfl ?_
    refine SD.skip rfl panicBody rfl rfl ?_
    refine SD.skip rfl panicBody rfl rfl ?_
    refine SD.skip rfl panicBody rfl rfl ?_
    refine SD.skip rfl panicBody rfl rfl ?_
    refine SD.skipF rfl rfl rfl ?_
    refine SD.skip rfl panicBody rfl rfl ?_
    refine SD.take rfl panicBody (op_pickT rfl rfl) rfl rfl ?_
    refine SD.nil ?_
    show SL _ _ _ _ _ _ _ [] _ _ _
    refine SL.nil <| T.condT rfl <| T.seq <| T.region <| SL.v (op_assign (v := .int .i64 ((1 : Nat) : Int)) rfl) <| SL.nil <| T.ret1 rfl (ResIs.tmp rfl) ?_
    rw [own1 (.inr (.inl a2))]; rfl
  by_cases a3 : k = argN op
  case neg =>
    refine Spec.enter Tryz.func119 rfl Tryz.ntmps119 rfl ?_
    intro w0 hw0
    refine T.seq <| T.region <| SL.w (op_box rfl) ?_
    rintro _ _ _ ⟨B1, rfl, rfl, rfl⟩
    refine SL.v (op_assign (v := .int .i64 ((0 : Nat) : Int)) rfl) <| SL.nil <| T.seq <| T.seq <| T.draw (by kernel_rfl) 17 [.t 0, .t 1, .t 2, .t 3, .t 4, .t 5, .t 6, .t 7, .t 8, .t 9, .t 10, .t 11, .t 12, .t 13, .r 14, .t 15, .t 16] (by kernel_rfl) ?_
    refine SD.take rfl panicBody (op_fieldAddr fa45_0 rfl) rfl rfl ?_
    refine SD.take rfl panicBody (op_load ty3 rfl (by repeat constructor) rfl) rfl rfl ?_
    refine SD.take rfl panicBody (op_lssF rfl rfl (by omega)) rfl rfl ?_
    refine SD.take rfl panicBody (op_move rfl) rfl rfl ?_
    refine SD.take rfl panicBody (op_fieldAddr fa45_0 rfl) rfl rfl ?_
    refine SD.take rfl panicBody (op_load ty3 rfl (by repeat constructor) rfl) rfl rfl ?_
    refine SD.take rfl panicBody (op_gtrF rfl rfl (by omega)) rfl rfl ?_
    refine SD.take rfl panicBody (op_pickF rfl rfl) rfl rfl ?_
    refine SD.take rfl panicBody (op_move rfl) rfl rfl ?_
    refine SD.take rfl panicBody (op_fieldAddr fa45_3 rfl) rfl rfl ?_
    refine SD.take rfl panicBody (op_load ty43 rfl (by repeat constructor) rfl) rfl rfl ?_
    refine SD.take rfl panicBody (op_lenS Tryz.underlying43 rfl) rfl rfl ?_
    refine SD.take rfl panicBody (op_fieldAddr fa45_0 rfl) rfl rfl ?_
    refine SD.take rfl panicBody (op_load ty3 rfl (by repeat constructor) rfl) rfl rfl ?_
    refine SD.run rfl (op_callF en112 (vs := [_]) rfl (rargN_spec)) rfl rfl ?_
    rintro _ _ X1 ⟨rfl, hX1, rfl⟩
    refine SD.take rfl panicBody (op_neqT rfl rfl (by omega)) rfl rfl ?_
    refine SD.take rfl panicBody (op_pickF rfl rfl) rfl rfl ?_
    refine SD.nil ?_
    show SL _ _ _ _ _ _ _ [] _ _ _
    refine SL.nil <| T.condT rfl <| T.seq <| T.region <| SL.v (op_assign (v := .int .i64 ((1 : Nat) : Int)) rfl) <| SL.nil <| T.ret1 rfl (ResIs.tmp rfl) ?_
    rw [own1 (.inr (.inr a3))]; rfl
  have hA1 : ¬(op < 1 ∨ 16 < op ∨ k ≠ argN op) := fun h => by omega
  by_cases hNN : n ≠ 0 ∧ op ≠ 1
  · obtain ⟨b1, b2⟩ := hNN
    by_cases h4 : op = 4
    · refine Spec.enter Tryz.func119 rfl Tryz.ntmps119 rfl ?_
      intro w0 hw0
      refine T.seq <| T.region <| SL.w (op_box rfl) ?_
      rintro _ _ _ ⟨B1, rfl, rfl, rfl⟩
      refine SL.v (op_assign (v := .int .i64 ((0 : Nat) : Int)) rfl) <| SL.nil <| T.seq <| T.seq <| T.draw (by kernel_rfl) 17 [.t 0, .t 1, .t 2, .t 3, .t 4, .t 5, .t 6, .t 7, .t 8, .t 9, .t 10, .t 11, .t 12, .t 13, .r 14, .t 15, .t 16] (by kernel_rfl) ?_
      refine SD.take rfl panicBody (op_fieldAddr fa45_0 rfl) rfl rfl ?_
      refine SD.take rfl panicBody (op_load ty3 rfl (by repeat constructor) rfl) rfl rfl ?_
      refine SD.take rfl panicBody (op_lssF rfl rfl (by omega)) rfl rfl ?_
      refine SD.take rfl panicBody (op_move rfl) rfl rfl ?_
      refine SD.take rfl panicBody (op_fieldAddr fa45_0 rfl) rfl rfl ?_
      refine SD.take rfl panicBody (op_load ty3 rfl (by repeat constructor) rfl) rfl rfl ?_
      refine SD.take rfl panicBody (op_gtrF rfl rfl (by omega)) rfl rfl ?_
      refine SD.take rfl panicBody (op_pickF rfl rfl) rfl rfl ?_
      refine SD.take rfl panicBody (op_move rfl) rfl rfl ?_
      refine SD.take rfl panicBody (op_fieldAddr fa45_3 rfl) rfl rfl ?_
      refine SD.take rfl panicBody (op_load ty43 rfl (by repeat constructor) rfl) rfl rfl ?_
      refine SD.take rfl panicBody (op_lenS Tryz.underlying43 rfl) rfl rfl ?_
      refine SD.take rfl panicBody (op_fieldAddr fa45_0 rfl) rfl rfl ?_
      refine SD.take rfl panicBody (op_load ty3 rfl (by repeat constructor) rfl) rfl rfl ?_
      refine SD.run rfl (op_callF en112 (vs := [_]) rfl (rargN_spec)) rfl rfl ?_
      rintro _ _ X1 ⟨rfl, hX1, rfl⟩
      refine SD.take rfl panicBody (op_neqF rfl rfl (by omega)) rfl rfl ?_
      refine SD.take rfl panicBody (op_pickF rfl rfl) rfl rfl ?_
      refine SD.nil ?_
      show SL _ _ _ _ _ _ _ [] _ _ _
      refine SL.nil <| T.condF rfl <| T.skip <| T.seq <| T.region <| SL.v (op_assign (v := .int .i64 ((0 : Nat) : Int)) rfl) <| SL.v (op_assign (v := .int .i64 ((0 : Nat) : Int)) rfl) <| SL.nil <| T.seq <| T.seq <| T.region <| SL.v (op_fieldAddr fa45_0 rfl) <| SL.v (op_load ty3 rfl (by repeat constructor) rfl) ?_
      refine SL.v (op_eqlT rfl rfl (by omega)) ?_
      refine SL.mv rfl <| SL.skip rfl rfl ?_
      refine SL.skip rfl rfl ?_
      refine SL.skip rfl rfl ?_
      refine SL.v (op_pickT rfl rfl) <| SL.nil <| T.condT rfl <| T.region <| SL.v (op_assign (v := .int .i64 ((1 : Nat) : Int)) rfl) <| SL.v (op_assign (v := .int .i64 ((1 : Nat) : Int)) rfl) <| SL.nil <| T.seq <| T.seq <| T.region <| SL.v (op_fieldAddr fa45_0 rfl) <| SL.v (op_load ty3 rfl (by repeat constructor) rfl) ?_
      refine SL.v (op_eqlF rfl rfl (by omega)) ?_
      refine SL.nil <| T.condF rfl <| T.skip <| T.seq <| T.seq <| T.region <| SL.v (op_fieldAddr fa45_0 rfl) <| SL.v (op_load ty3 rfl (by repeat constructor) rfl) ?_
      refine SL.v (op_neqT rfl rfl (by omega)) ?_
      refine SL.mv rfl <| SL.v (op_fieldAddr fa45_1 rfl) <| SL.v (op_load ty3 rfl (by repeat constructor) rfl) ?_
      refine SL.v (op_neqT rfl rfl (by omega)) ?_
      refine SL.v (op_pickT rfl rfl) <| SL.mv rfl <| SL.skip rfl rfl ?_
      refine SL.skip rfl rfl ?_
      refine SL.skip rfl rfl ?_
      refine SL.skip rfl rfl ?_
      refine SL.skip rfl rfl ?_
      refine SL.v (op_pickT rfl rfl) <| SL.mv rfl <| SL.skip rfl rfl ?_
      refine SL.skip rfl rfl ?_
      refine SL.skip rfl rfl ?_
      refine SL.skip rfl rfl ?_
      refine SL.skip rfl rfl ?_
      refine SL.v (op_pickT rfl rfl) <| SL.nil <| T.condT rfl <| T.seq <| T.region <| SL.v (op_assign (v := .int .i64 ((6 : Nat) : Int)) rfl) <| SL.nil <| T.ret1 rfl (ResIs.tmp rfl) ?_
      rw [own6 hA1 (.inl ⟨b1, b2⟩)]; rfl
    by_cases h6 : op = 6
    · refine Spec.enter Tryz.func119 rfl Tryz.ntmps119 rfl ?_
      intro w0 hw0
      refine T.seq <| T.region <| SL.w (op_box rfl) ?_
      rintro _ _ _ ⟨B1, rfl, rfl, rfl⟩
      refine SL.v (op_assign (v := .int .i64 ((0 : Nat) : Int)) rfl) <| SL.nil <| T.seq <| T.seq <| T.draw (by kernel_rfl) 17 [.t 0, .t 1, .t 2, .t 3, .t 4, .t 5, .t 6, .t 7, .t 8, .t 9, .t 10, .t 11, .t 12, .t 13, .r 14, .t 15, .t 16] (by kernel_rfl) ?_
      refine SD.take rfl panicBody (op_fieldAddr fa45_0 rfl) rfl rfl ?_
      refine SD.take rfl panicBody (op_load ty3 rfl (by repeat constructor) rfl) rfl rfl ?_
      refine SD.take rfl panicBody (op_lssF rfl rfl (by omega)) rfl rfl ?_
      refine SD.take rfl panicBody (op_move rfl) rfl rfl ?_
      refine SD.take rfl panicBody (op_fieldAddr fa45_0 rfl) rfl rfl ?_
      refine SD.take rfl panicBody (op_load ty3 rfl (by repeat constructor) rfl) rfl rfl ?_
      refine SD.take rfl panicBody (op_gtrF rfl rfl (by omega)) rfl rfl ?_
      refine SD.take rfl panicBody (op_pickF rfl rfl) rfl rfl ?_
      refine SD.take rfl panicBody (op_move rfl) rfl rfl ?_
      refine SD.take rfl panicBody (op_fieldAddr fa45_3 rfl) rfl rfl ?_
      refine SD.take rfl panicBody (op_load ty43 rfl (by repeat constructor) rfl) rfl rfl ?_
      refine SD.take rfl panicBody (op_lenS Tryz.underlying43 rfl) rfl rfl ?_
      refine SD.take rfl panicBody (op_fieldAddr fa45_0 rfl) rfl rfl ?_
      refine SD.take rfl panicBody (op_load ty3 rfl (by repeat constructor) rfl) rfl rfl ?_
      refine SD.run rfl (op_callF en112 (vs := [_]) rfl (rargN_spec)) rfl rfl ?_
      rintro _ _ X1 ⟨rfl, hX1, rfl⟩
      refine SD.take rfl panicBody (op_neqF rfl rfl (by omega)) rfl rfl ?_
      refine SD.take rfl panicBody (op_pickF rfl rfl) rfl rfl ?_
      refine SD.nil ?_
      show SL _ _ _ _ _ _ _ [] _ _ _
      refine SL.nil <| T.condF rfl <| T.skip <| T.seq <| T.region <| SL.v (op_assign (v := .int .i64 ((0 : Nat) : Int)) rfl) <| SL.v (op_assign (v := .int .i64 ((0 : Nat) : Int)) rfl) <| SL.nil <| T.seq <| T.seq <| T.region <| SL.v (op_fieldAddr fa45_0 rfl) <| SL.v (op_load ty3 rfl (by repeat constructor) rfl) ?_
      refine SL.v (op_eqlF rfl rfl (by omega)) ?_
      refine SL.mv rfl <| SL.v (op_fieldAddr fa45_0 rfl) <| SL.v (op_load ty3 rfl (by repeat constructor) rfl) ?_
      refine SL.v (op_eqlT rfl rfl (by omega)) ?_
      refine SL.v (op_pickF rfl rfl) <| SL.nil <| T.condT rfl <| T.region <| SL.v (op_assign (v := .int .i64 ((1 : Nat) : Int)) rfl) <| SL.v (op_assign (v := .int .i64 ((1 : Nat) : Int)) rfl) <| SL.nil <| T.seq <| T.seq <| T.region <| SL.v (op_fieldAddr fa45_0 rfl) <| SL.v (op_load ty3 rfl (by repeat constructor) rfl) ?_
      refine SL.v (op_eqlF rfl rfl (by omega)) ?_
      refine SL.nil <| T.condF rfl <| T.skip <| T.seq <| T.seq <| T.region <| SL.v (op_fieldAddr fa45_0 rfl) <| SL.v (op_load ty3 rfl (by repeat constructor) rfl) ?_
      refine SL.v (op_neqT rfl rfl (by omega)) ?_
      refine SL.mv rfl <| SL.v (op_fieldAddr fa45_1 rfl) <| SL.v (op_load ty3 rfl (by repeat constructor) rfl) ?_
      refine SL.v (op_neqT rfl rfl (by omega)) ?_
      refine SL.v (op_pickT rfl rfl) <| SL.mv rfl <| SL.skip rfl rfl ?_
      refine SL.skip rfl rfl ?_
      refine SL.skip rfl rfl ?_
      refine SL.skip rfl rfl ?_
      refine SL.skip rfl rfl ?_
      refine SL.v (op_pickT rfl rfl) <| SL.mv rfl <| SL.skip rfl rfl ?_
      refine SL.skip rfl rfl ?_
      refine SL.skip rfl rfl ?_
      refine SL.skip rfl rfl ?_
      refine SL.skip rfl rfl ?_
      refine SL.v (op_pickT rfl rfl) <| SL.nil <| T.condT rfl <| T.seq <| T.region <| SL.v (op_assign (v := .int .i64 ((6 : Nat) : Int)) rfl) <| SL.nil <| T.ret1 rfl (ResIs.tmp rfl) ?_
      rw [own6 hA1 (.inl ⟨b1, b2⟩)]; rfl
    by_cases h5 : op = 5
    · refine Spec.enter Tryz.func119 rfl Tryz.ntmps119 rfl ?_
      intro w0 hw0
      refine T.seq <| T.region <| SL.w (op_box rfl) ?_
      rintro _ _ _ ⟨B1, rfl, rfl, rfl⟩
      refine SL.v (op_assign (v := .int .i64 ((0 : Nat) : Int)) rfl) <| SL.nil <| T.seq <| T.seq <| T.draw (by kernel_rfl) 17 [.t 0, .t 1, .t 2, .t 3, .t 4, .t 5, .t 6, .t 7, .t 8, .t 9, .t 10, .t 11, .t 12, .t 13, .r 14, .t 15, .t 16] (by kernel_rfl) ?_
      refine SD.take rfl panicBody (op_fieldAddr fa45_0 rfl) rfl rfl ?_
      refine SD.take rfl panicBody (op_load ty3 rfl (by repeat constructor) rfl) rfl rfl ?_
      refine SD.take rfl panicBody (op_lssF rfl rfl (by omega)) rfl rfl ?_
      refine SD.take rfl panicBody (op_move rfl) rfl rfl ?_
      refine SD.take rfl panicBody (op_fieldAddr fa45_0 rfl) rfl rfl ?_
      refine SD.take rfl panicBody (op_load ty3 rfl (by repeat constructor) rfl) rfl rfl ?_
      refine SD.take rfl panicBody (op_gtrF rfl rfl (by omega)) rfl rfl ?_
      refine SD.take rfl panicBody (op_pickF rfl rfl) rfl rfl ?_
      refine SD.take rfl panicBody (op_move rfl) rfl rfl ?_
      refine SD.take rfl panicBody (op_fieldAddr fa45_3 rfl) rfl rfl ?_
      refine SD.take rfl panicBody (op_load ty43 rfl (by repeat constructor) rfl) rfl rfl ?_
      refine SD.take rfl panicBody (op_lenS Tryz.underlying43 rfl) rfl rfl ?_
      refine SD.take rfl panicBody (op_fieldAddr fa45_0 rfl) rfl rfl ?_
      refine SD.take rfl panicBody (op_load ty3 rfl (by repeat constructor) rfl) rfl rfl ?_
      refine SD.run rfl (op_callF en112 (vs := [_]) rfl (rargN_spec)) rfl rfl ?_
      rintro _ _ X1 ⟨rfl, hX1, rfl⟩
      refine SD.take rfl panicBody (op_neqF rfl rfl (by omega)) rfl rfl ?_
      refine SD.take rfl panicBody (op_pickF rfl rfl) rfl rfl ?_
      refine SD.nil ?_
      show SL _ _ _ _ _ _ _ [] _ _ _
      refine SL.nil <| T.condF rfl <| T.skip <| T.seq <| T.region <| SL.v (op_assign (v := .int .i64 ((0 : Nat) : Int)) rfl) <| SL.v (op_assign (v := .int .i64 ((0 : Nat) : Int)) rfl) <| SL.nil <| T.seq <| T.seq <| T.region <| SL.v (op_fieldAddr fa45_0 rfl) <| SL.v (op_load ty3 rfl (by repeat constructor) rfl) ?_
      refine SL.v (op_eqlF rfl rfl (by omega)) ?_
      refine SL.mv rfl <| SL.v (op_fieldAddr fa45_0 rfl) <| SL.v (op_load ty3 rfl (by repeat constructor) rfl) ?_
      refine SL.v (op_eqlF rfl rfl (by omega)) ?_
      refine SL.v (op_pickF rfl rfl) <| SL.nil <| T.condF rfl <| T.skip <| T.seq <| T.seq <| T.region <| SL.v (op_fieldAddr fa45_0 rfl) <| SL.v (op_load ty3 rfl (by repeat constructor) rfl) ?_
      refine SL.v (op_eqlT rfl rfl (by omega)) ?_
      refine SL.nil <| T.condT rfl <| T.region <| SL.v (op_assign (v := .int .i64 ((1 : Nat) : Int)) rfl) <| SL.v (op_assign (v := .int .i64 ((8 : Nat) : Int)) rfl) <| SL.nil <| T.seq <| T.seq <| T.region <| SL.v (op_fieldAddr fa45_0 rfl) <| SL.v (op_load ty3 rfl (by repeat constructor) rfl) ?_
      refine SL.v (op_neqT rfl rfl (by omega)) ?_
      refine SL.mv rfl <| SL.v (op_fieldAddr fa45_1 rfl) <| SL.v (op_load ty3 rfl (by repeat constructor) rfl) ?_
      refine SL.v (op_neqT rfl rfl (by omega)) ?_
      refine SL.v (op_pickT rfl rfl) <| SL.mv rfl <| SL.skip rfl rfl ?_
      refine SL.skip rfl rfl ?_
      refine SL.skip rfl rfl ?_
      refine SL.skip rfl rfl ?_
      refine SL.skip rfl rfl ?_
      refine SL.v (op_pickT rfl rfl) <| SL.mv rfl <| SL.skip rfl rfl ?_
      refine SL.skip rfl rfl ?_
      refine SL.skip rfl rfl ?_
      refine SL.skip rfl rfl ?_
      refine SL.skip rfl rfl ?_
      refine SL.v (op_pickT rfl rfl) <| SL.nil <| T.condT rfl <| T.seq <| T.region <| SL.v (op_assign (v := .int .i64 ((6 : Nat) : Int)) rfl) <| SL.nil <| T.ret1 rfl (ResIs.tmp rfl) ?_
      rw [own6 hA1 (.inl ⟨b1, b2⟩)]; rfl
    refine Spec.enter Tryz.func119 rfl Tryz.ntmps119 rfl ?_
    intro w0 hw0
    refine T.seq <| T.region <| SL.w (op_box rfl) ?_
    rintro _ _ _ ⟨B1, rfl, rfl, rfl⟩
    refine SL.v (op_assign (v := .int .i64 ((0 : Nat) : Int)) rfl) <| SL.nil <| T.seq <| T.seq <| T.draw (by kernel_rfl) 17 [.t 0, .t 1, .t 2, .t 3, .t 4, .t 5, .t 6, .t 7, .t 8, .t 9, .t 10, .t 11, .t 12, .t 13, .r 14, .t 15, .t 16] (by kernel_rfl) ?_
    refine SD.take rfl panicBody (op_fieldAddr fa45_0 rfl) rfl rfl ?_
    refine SD.take rfl panicBody (op_load ty3 rfl (by repeat constructor) rfl) rfl rfl ?_
    refine SD.take rfl panicBody (op_lssF rfl rfl (by omega)) rfl rfl ?_
    refine SD.take rfl panicBody (op_move rfl) rfl rfl ?_
    refine SD.take rfl panicBody (op_fieldAddr fa45_0 rfl) rfl rfl ?_
    refine SD.take rfl panicBody (op_load ty3 rfl (by repeat constructor) rfl) rfl rfl ?_
    refine SD.take rfl panicBody (op_gtrF rfl rfl (by omega)) rfl rfl ?_
    refine SD.take rfl panicBody (op_pickF rfl rfl) rfl rfl ?_
    refine SD.take rfl panicBody (op_move rfl) rfl rfl ?_
    refine SD.take rfl panicBody (op_fieldAddr fa45_3 rfl) rfl rfl ?_
    refine SD.take rfl panicBody (op_load ty43 rfl (by repeat constructor) rfl) rfl rfl ?_
    refine SD.take rfl panicBody (op_lenS Tryz.underlying43 rfl) rfl rfl ?_
    refine SD.take rfl panicBody (op_fieldAddr fa45_0 rfl) rfl rfl ?_
    refine SD.take rfl panicBody (op_load ty3 rfl (by repeat constructor) rfl) rfl rfl ?_
    refine SD.run rfl (op_callF en112 (vs := [_]) rfl (rargN_spec)) rfl rfl ?_
    rintro _ _ X1 ⟨rfl, hX1, rfl⟩
    refine SD.take rfl panicBody (op_neqF rfl rfl (by omega)) rfl rfl ?_
    refine SD.take rfl panicBody (op_pickF rfl rfl) rfl rfl ?_
    refine SD.nil ?_
    show SL _ _ _ _ _ _ _ [] _ _ _
    refine SL.nil <| T.condF rfl <| T.skip <| T.seq <| T.region <| SL.v (op_assign (v := .int .i64 ((0 : Nat) : Int)) rfl) <| SL.v (op_assign (v := .int .i64 ((0 : Nat) : Int)) rfl) <| SL.nil <| T.seq <| T.seq <| T.region <| SL.v (op_fieldAddr fa45_0 rfl) <| SL.v (op_load ty3 rfl (by repeat constructor) rfl) ?_
    refine SL.v (op_eqlF rfl rfl (by omega)) ?_
    refine SL.mv rfl <| SL.v (op_fieldAddr fa45_0 rfl) <| SL.v (op_load ty3 rfl (by repeat constructor) rfl) ?_
    refine SL.v (op_eqlF rfl rfl (by omega)) ?_
    refine SL.v (op_pickF rfl rfl) <| SL.nil <| T.condF rfl <| T.skip <| T.seq <| T.seq <| T.region <| SL.v (op_fieldAddr fa45_0 rfl) <| SL.v (op_load ty3 rfl (by repeat constructor) rfl) ?_
    refine SL.v (op_eqlF rfl rfl (by omega)) ?_
    refine SL.nil <| T.condF rfl <| T.skip <| T.seq <| T.seq <| T.region <| SL.v (op_fieldAddr fa45_0 rfl) <| SL.v (op_load ty3 rfl (by repeat constructor) rfl) ?_
    refine SL.v (op_neqT rfl rfl (by omega)) ?_
    refine SL.mv rfl <| SL.v (op_fieldAddr fa45_1 rfl) <| SL.v (op_load ty3 rfl (by repeat constructor) rfl) ?_
    refine SL.v (op_neqT rfl rfl (by omega)) ?_
    refine SL.v (op_pickT rfl rfl) <| SL.mv rfl <| SL.skip rfl rfl ?_
    refine SL.skip rfl rfl ?_
    refine SL.skip rfl rfl ?_
    refine SL.skip rfl rfl ?_
    refine SL.skip rfl rfl ?_
    refine SL.v (op_pickT rfl rfl) <| SL.mv rfl <| SL.skip rfl rfl ?_
    refine SL.skip rfl rfl ?_
    refine SL.skip rfl rfl ?_
    refine SL.skip rfl rfl ?_
    refine SL.skip rfl rfl ?_
    refine SL.v (op_pickT rfl rfl) <| SL.nil <| T.condT rfl <| T.seq <| T.region <| SL.v (op_assign (v := .int .i64 ((6 : Nat) : Int)) rfl) <| SL.nil <| T.ret1 rfl (ResIs.tmp rfl) ?_
    rw [own6 hA1 (.inl ⟨b1, b2⟩)]; rfl
  by_cases h1 : op = 1
  · by_cases hl0 : 0 < ns.length
    · have hnm : ¬namN op ns.length := by
        have hq : ∀ q : Nat, 0 < q → ¬namN op q := fun q hq h => by simp [namN, h1] at h; omega
        exact hq _ (by omega)
      refine Spec.enter Tryz.func119 rfl Tryz.ntmps119 rfl ?_
      intro w0 hw0
      refine T.seq <| T.region <| SL.w (op_box rfl) ?_
      rintro _ _ _ ⟨B1, rfl, rfl, rfl⟩
      refine SL.v (op_assign (v := .int .i64 ((0 : Nat) : Int)) rfl) <| SL.nil <| T.seq <| T.seq <| T.draw (by kernel_rfl) 17 [.t 0, .t 1, .t 2, .t 3, .t 4, .t 5, .t 6, .t 7, .t 8, .t 9, .t 10, .t 11, .t 12, .t 13, .r 14, .t 15, .t 16] (by kernel_rfl) ?_
      refine SD.take rfl panicBody (op_fieldAddr fa45_0 rfl) rfl rfl ?_
      refine SD.take rfl panicBody (op_load ty3 rfl (by repeat constructor) rfl) rfl rfl ?_
      refine SD.take rfl panicBody (op_lssF rfl rfl (by omega)) rfl rfl ?_
      refine SD.take rfl panicBody (op_move rfl) rfl rfl ?_
      refine SD.take rfl panicBody (op_fieldAddr fa45_0 rfl) rfl rfl ?_
      refine SD.take rfl panicBody (op_load ty3 rfl (by repeat constructor) rfl) rfl rfl ?_
      refine SD.take rfl panicBody (op_gtrF rfl rfl (by omega)) rfl rfl ?_
      refine SD.take rfl panicBody (op_pickF rfl rfl) rfl rfl ?_
      refine SD.take rfl panicBody (op_move rfl) rfl rfl ?_
      refine SD.take rfl panicBody (op_fieldAddr fa45_3 rfl) rfl rfl ?_
      refine SD.take rfl panicBody (op_load ty43 rfl (by repeat constructor) rfl) rfl rfl ?_
      refine SD.take rfl panicBody (op_lenS Tryz.underlying43 rfl) rfl rfl ?_
      refine SD.take rfl panicBody (op_fieldAddr fa45_0 rfl) rfl rfl ?_
      refine SD.take rfl panicBody (op_load ty3 rfl (by repeat constructor) rfl) rfl rfl ?_
      refine SD.run rfl (op_callF en112 (vs := [_]) rfl (rargN_spec)) rfl rfl ?_
      rintro _ _ X1 ⟨rfl, hX1, rfl⟩
      refine SD.take rfl panicBody (op_neqF rfl rfl (by omega)) rfl rfl ?_
      refine SD.take rfl panicBody (op_pickF rfl rfl) rfl rfl ?_
      refine SD.nil ?_
      show SL _ _ _ _ _ _ _ [] _ _ _
      refine SL.nil <| T.condF rfl <| T.skip <| T.seq <| T.region <| SL.v (op_assign (v := .int .i64 ((0 : Nat) : Int)) rfl) <| SL.v (op_assign (v := .int .i64 ((0 : Nat) : Int)) rfl) <| SL.nil <| T.seq <| T.seq <| T.region <| SL.v (op_fieldAddr fa45_0 rfl) <| SL.v (op_load ty3 rfl (by repeat constructor) rfl) ?_
      refine SL.v (op_eqlF rfl rfl (by omega)) ?_
      refine SL.mv rfl <| SL.v (op_fieldAddr fa45_0 rfl) <| SL.v (op_load ty3 rfl (by repeat constructor) rfl) ?_
      refine SL.v (op_eqlF rfl rfl (by omega)) ?_
      refine SL.v (op_pickF rfl rfl) <| SL.nil <| T.condF rfl <| T.skip <| T.seq <| T.seq <| T.region <| SL.v (op_fieldAddr fa45_0 rfl) <| SL.v (op_load ty3 rfl (by repeat constructor) rfl) ?_
      refine SL.v (op_eqlF rfl rfl (by omega)) ?_
      refine SL.nil <| T.condF rfl <| T.skip <| T.seq <| T.seq <| T.region <| SL.v (op_fieldAddr fa45_0 rfl) <| SL.v (op_load ty3 rfl (by repeat constructor) rfl) ?_
      refine SL.v (op_neqF rfl rfl (by omega)) ?_
      refine SL.mv rfl <| SL.skip rfl rfl ?_
      refine SL.skip rfl rfl ?_
      refine SL.skip rfl rfl ?_
      refine SL.v (op_pickF rfl rfl) <| SL.mv rfl <| SL.v (op_fieldAddr fa45_2 rfl) <| SL.v (op_load ty37 rfl (by repeat constructor) rfl) ?_
      refine SL.v (op_lenS Tryz.underlying37 rfl) <| SL.mv rfl <| SL.v (op_lssF rfl rfl (by omega)) ?_
      refine SL.v (op_pickF rfl rfl) <| SL.mv rfl <| SL.v (op_fieldAddr fa45_2 rfl) <| SL.v (op_load ty37 rfl (by repeat constructor) rfl) ?_
      refine SL.v (op_lenS Tryz.underlying37 rfl) <| SL.mv rfl <| SL.v (op_gtrT rfl rfl (by omega)) ?_
      refine SL.v (op_pickF rfl rfl) <| SL.nil <| T.condT rfl <| T.seq <| T.region <| SL.v (op_assign (v := .int .i64 ((6 : Nat) : Int)) rfl) <| SL.nil <| T.ret1 rfl (ResIs.tmp rfl) ?_
      rw [own6 hA1 (.inr hnm)]; rfl

    have hnm : namN op ns.length := by
      have hq : ∀ q : Nat, 0 ≤ q ∧ q ≤ 0 → namN op q := fun q hq => by simp [namN, h1]; omega
      exact hq _ (by omega)
    have hA2 : ¬((n ≠ 0 ∧ op ≠ 1) ∨ ¬namN op ns.length) := fun h => h.elim (fun h => hNN h) (fun h => h hnm)
    refine Spec.enter Tryz.func119 rfl Tryz.ntmps119 rfl ?_
    intro w0 hw0
    refine T.seq <| T.region <| SL.w (op_box rfl) ?_
    rintro _ _ _ ⟨B1, rfl, rfl, rfl⟩
    refine SL.v (op_assign (v := .int .i64 ((0 : Nat) : Int)) rfl) <| SL.nil <| T.seq <| T.seq <| T.draw (by kernel_rfl) 17 [.t 0, .t 1, .t 2, .t 3, .t 4, .t 5, .t 6, .t 7, .t 8, .t 9, .t 10, .t 11, .t 12, .t 13, .r 14, .t 15, .t 16] (by kernel_rfl) ?_
    refine SD.take rfl panicBody (op_fieldAddr fa45_0 rfl) rfl rfl ?_
    refine SD.take rfl panicBody (op_load ty3 rfl (by repeat constructor) rfl) rfl rfl ?_
    refine SD.take rfl panicBody (op_lssF rfl rfl (by omega)) rfl rfl ?_
    refine SD.take rfl panicBody (op_move rfl) rfl rfl ?_
    refine SD.take rfl panicBody (op_fieldAddr fa45_0 rfl) rfl rfl ?_
    refine SD.take rfl panicBody (op_load ty3 rfl (by repeat constructor) rfl) rfl rfl ?_
    refine SD.take rfl panicBody (op_gtrF rfl rfl (by omega)) rfl rfl ?_
    refine SD.take rfl panicBody (op_pickF rfl rfl) rfl rfl ?_
    refine SD.take rfl panicBody (op_move rfl) rfl rfl ?_
    refine SD.take rfl panicBody (op_fieldAddr fa45_3 rfl) rfl rfl ?_
    refine SD.take rfl panicBody (op_load ty43 rfl (by repeat constructor) rfl) rfl rfl ?_
    refine SD.take rfl panicBody (op_lenS Tryz.underlying43 rfl) rfl rfl ?_
    refine SD.take rfl panicBody (op_fieldAddr fa45_0 rfl) rfl rfl ?_
    refine SD.take rfl panicBody (op_load ty3 rfl (by repeat constructor) rfl) rfl rfl ?_
    refine SD.run rfl (op_callF en112 (vs := [_]) rfl (rargN_spec)) rfl rfl ?_
    rintro _ _ X1 ⟨rfl, hX1, rfl⟩
    refine SD.take rfl panicBody (op_neqF rfl rfl (by omega)) rfl rfl ?_
    refine SD.take rfl panicBody (op_pickF rfl rfl) rfl rfl ?_
    refine SD.nil ?_
    show SL _ _ _ _ _ _ _ [] _ _ _
    refine SL.nil <| T.condF rfl <| T.skip <| T.seq <| T.region <| SL.v (op_assign (v := .int .i64 ((0 : Nat) : Int)) rfl) <| SL.v (op_assign (v := .int .i64 ((0 : Nat) : Int)) rfl) <| SL.nil <| T.seq <| T.seq <| T.region <| SL.v (op_fieldAddr fa45_0 rfl) <| SL.v (op_load ty3 rfl (by repeat constructor) rfl) ?_
    refine SL.v (op_eqlF rfl rfl (by omega)) ?_
    refine SL.mv rfl <| SL.v (op_fieldAddr fa45_0 rfl) <| SL.v (op_load ty3 rfl (by repeat constructor) rfl) ?_
    refine SL.v (op_eqlF rfl rfl (by omega)) ?_
    refine SL.v (op_pickF rfl rfl) <| SL.nil <| T.condF rfl <| T.skip <| T.seq <| T.seq <| T.region <| SL.v (op_fieldAddr fa45_0 rfl) <| SL.v (op_load ty3 rfl (by repeat constructor) rfl) ?_
    refine SL.v (op_eqlF rfl rfl (by omega)) ?_
    refine SL.nil <| T.condF rfl <| T.skip <| T.seq <| T.seq <| T.region <| SL.v (op_fieldAddr fa45_0 rfl) <| SL.v (op_load ty3 rfl (by repeat constructor) rfl) ?_
    refine SL.v (op_neqF rfl rfl (by omega)) ?_
    refine SL.mv rfl <| SL.skip rfl rfl ?_
    refine SL.skip rfl rfl ?_
    refine SL.skip rfl rfl ?_
    refine SL.v (op_pickF rfl rfl) <| SL.mv rfl <| SL.v (op_fieldAddr fa45_2 rfl) <| SL.v (op_load ty37 rfl (by repeat constructor) rfl) ?_
    refine SL.v (op_lenS Tryz.underlying37 rfl) <| SL.mv rfl <| SL.v (op_lssF rfl rfl (by omega)) ?_
    refine SL.v (op_pickF rfl rfl) <| SL.mv rfl <| SL.v (op_fieldAddr fa45_2 rfl) <| SL.v (op_load ty37 rfl (by repeat constructor) rfl) ?_
    refine SL.v (op_lenS Tryz.underlying37 rfl) <| SL.mv rfl <| SL.v (op_gtrF rfl rfl (by omega)) ?_
    refine SL.v (op_pickF rfl rfl) <| SL.nil <| T.condF rfl <| T.skip <| T.seq <| T.seq <| T.region <| SL.v (op_fieldAddr fa45_2 rfl) <| SL.v (op_load ty37 rfl (by repeat constructor) rfl) ?_
    refine SL.v (op_lenS Tryz.underlying37 rfl) <| SL.v (op_move (v := .int .i64 ((0 : Nat) : Int)) rfl) <| SL.nil <| T.block <| T.loopW (fun m env own X' => ∃ i : Nat, m = ns.length - i ∧ i ≤ ns.length ∧ X1.le X' ∧ (∀ q x, q < i → ns[q]? = some x → validS x) ∧ env = [(1, .pointer (some ⟨B1, 0, none⟩)), (60, .slice An ns.length cn), (61, .int .i64 (ns.length : Int)), (62, .int .i64 (i : Int))] ∧ own = [⟨B1, [.int .i64 (op : Int), .int .i64 n, .slice An ns.length cn, .slice Aa k ca], 45, 4⟩]) ns.length ⟨0, by simp, by omega, PMap.le_refl _, fun q x hq => absurd hq (by omega), rfl, rfl⟩ (by repeat (first | exact Sub.nil | refine Sub.cons rfl ?_)) ?_
    rintro m _ _ X2 ⟨i, rfl, hi, hX2, hne, rfl, rfl⟩
    have hil : ns.length ≤ i := by omega
    have hv : ∀ s ∈ ns, validS s := fun s hs => by
      obtain ⟨q, hq⟩ := List.mem_iff_getElem?.1 hs
      have h1 := (List.getElem?_eq_some_iff.1 hq).1
      exact hne q s (by omega) hq
    refine T.seq <| T.region <| SL.v (op_lssF rfl rfl (by omega)) ?_
    refine SL.nil <| T.seq <| T.condF rfl ?_
    refine T.exit (T.exitCode (T.exitCut (T.exitBlk ?_)))
    refine T.seq <| T.seq <| T.region <| SL.v (op_fieldAddr fa45_2 rfl) <| SL.v (op_load ty37 rfl (by repeat constructor) rfl) ?_
    refine SL.v (op_lenS Tryz.underlying37 rfl) <| SL.v (op_move (v := .int .i64 ((0 : Nat) : Int)) rfl) <| SL.nil <| T.block <| T.loopW (fun m env own X' => ∃ i : Nat, m = ns.length - i ∧ i ≤ ns.length ∧ X2.le X' ∧ (ns.take i).Nodup ∧ env = [(1, .pointer (some ⟨B1, 0, none⟩)), (71, .slice An ns.length cn), (72, .int .i64 (ns.length : Int)), (73, .int .i64 (i : Int))] ∧ own = [⟨B1, [.int .i64 (op : Int), .int .i64 n, .slice An ns.length cn, .slice Aa k ca], 45, 4⟩]) ns.length ⟨0, by simp, by omega, PMap.le_refl _, by simp, rfl, rfl⟩ (by repeat (first | exact Sub.nil | refine Sub.cons rfl ?_)) ?_
    rintro m _ _ X4 ⟨j, rfl, hj, hX4, hnd, rfl, rfl⟩
    have hjl : ns.length ≤ j := by omega
    rw [List.take_of_length_le (by omega)] at hnd
    by_cases hlo : n < 0
    · skip
      refine T.seq <| T.region <| SL.v (op_lssF rfl rfl (by omega)) ?_
      refine SL.nil <| T.seq <| T.condF rfl ?_
      refine T.exit (T.exitCode (T.exitCut (T.exitBlk ?_)))
      refine T.seq <| T.seq <| T.region <| SL.v (op_fieldAddr fa45_1 rfl) <| SL.v (op_load ty3 rfl (by repeat constructor) rfl) ?_
      refine SL.v (op_lssT rfl rfl (by omega)) ?_
      refine SL.mv rfl <| SL.skip rfl rfl ?_
      refine SL.skip rfl rfl ?_
      refine SL.skip rfl rfl ?_
      refine SL.v (op_pickT rfl rfl) <| SL.nil <| T.condT rfl <| T.seq <| T.region <| SL.v (op_assign (v := .int .i64 ((2 : Nat) : Int)) rfl) <| SL.nil <| T.ret1 rfl (ResIs.tmp rfl) ?_
      rw [own2 hA1 hA2 hv hnd (.inl hlo)]; rfl
    by_cases hhi : 999999 < n
    · skip
      refine T.seq <| T.region <| SL.v (op_lssF rfl rfl (by omega)) ?_
      refine SL.nil <| T.seq <| T.condF rfl ?_
      refine T.exit (T.exitCode (T.exitCut (T.exitBlk ?_)))
      refine T.seq <| T.seq <| T.region <| SL.v (op_fieldAddr fa45_1 rfl) <| SL.v (op_load ty3 rfl (by repeat constructor) rfl) ?_
      refine SL.v (op_lssF rfl rfl (by omega)) ?_
      refine SL.mv rfl <| SL.v (op_fieldAddr fa45_1 rfl) <| SL.v (op_load ty3 rfl (by repeat constructor) rfl) ?_
      refine SL.v (op_gtrT rfl rfl (by omega)) ?_
      refine SL.v (op_pickF rfl rfl) <| SL.nil <| T.condT rfl <| T.seq <| T.region <| SL.v (op_assign (v := .int .i64 ((2 : Nat) : Int)) rfl) <| SL.nil <| T.ret1 rfl (ResIs.tmp rfl) ?_
      rw [own2 hA1 hA2 hv hnd (.inr hhi)]; rfl
    refine T.seq <| T.region <| SL.v (op_lssF rfl rfl (by omega)) ?_
    refine SL.nil <| T.seq <| T.condF rfl ?_
    refine T.exit (T.exitCode (T.exitCut (T.exitBlk ?_)))
    refine T.seq <| T.seq <| T.region <| SL.v (op_fieldAddr fa45_1 rfl) <| SL.v (op_load ty3 rfl (by repeat constructor) rfl) ?_
    refine SL.v (op_lssF rfl rfl (by omega)) ?_
    refine SL.mv rfl <| SL.v (op_fieldAddr fa45_1 rfl) <| SL.v (op_load ty3 rfl (by repeat constructor) rfl) ?_
    refine SL.v (op_gtrF rfl rfl (by omega)) ?_
    refine SL.v (op_pickF rfl rfl) <| SL.nil <| T.condF rfl <| T.skip <| T.seq <| T.region <| SL.v (op_assign (v := .int .i64 ((0 : Nat) : Int)) rfl) <| SL.nil <| T.ret1 rfl (ResIs.tmp rfl) ?_
    rw [own0' hA1 hA2 hv hnd (by omega)]; rfl
  have b1 : n = 0 := Decidable.not_not.1 fun h => hNN ⟨h, h1⟩
  by_cases h4 : op = 4
  · by_cases hl0 : ns.length < 1
    · have hnm : ¬namN op ns.length := by
        have hq : ∀ q : Nat, q < 1 → ¬namN op q := fun q hq h => by simp [namN, h4] at h; omega
        exact hq _ (by omega)
      refine Spec.enter Tryz.func119 rfl Tryz.ntmps119 rfl ?_
      intro w0 hw0
      refine T.seq <| T.region <| SL.w (op_box rfl) ?_
      rintro _ _ _ ⟨B1, rfl, rfl, rfl⟩
      refine SL.v (op_assign (v := .int .i64 ((0 : Nat) : Int)) rfl) <| SL.nil <| T.seq <| T.seq <| T.draw (by kernel_rfl) 17 [.t 0, .t 1, .t 2, .t 3, .t 4, .t 5, .t 6, .t 7, .t 8, .t 9, .t 10, .t 11, .t 12, .t 13, .r 14, .t 15, .t 16] (by kernel_rfl) ?_
      refine SD.take rfl panicBody (op_fieldAddr fa45_0 rfl) rfl rfl ?_
      refine SD.take rfl panicBody (op_load ty3 rfl (by repeat constructor) rfl) rfl rfl ?_
      refine SD.take rfl panicBody (op_lssF rfl rfl (by omega)) rfl rfl ?_
      refine SD.take rfl panicBody (op_move rfl) rfl rfl ?_
      refine SD.take rfl panicBody (op_fieldAddr fa45_0 rfl) rfl rfl ?_
      refine SD.take rfl panicBody (op_load ty3 rfl (by repeat constructor) rfl) rfl rfl ?_
      refine SD.take rfl panicBody (op_gtrF rfl rfl (by omega)) rfl rfl ?_
      refine SD.take rfl panicBody (op_pickF rfl rfl) rfl rfl ?_
      refine SD.take rfl panicBody (op_move rfl) rfl rfl ?_
      refine SD.take rfl panicBody (op_fieldAddr fa45_3 rfl) rfl rfl ?_
      refine SD.take rfl panicBody (op_load ty43 rfl (by repeat constructor) rfl) rfl rfl ?_
      refine SD.take rfl panicBody (op_lenS Tryz.underlying43 rfl) rfl rfl ?_
      refine SD.take rfl panicBody (op_fieldAddr fa45_0 rfl) rfl rfl ?_
      refine SD.take rfl panicBody (op_load ty3 rfl (by repeat constructor) rfl) rfl rfl ?_
      refine SD.run rfl (op_callF en112 (vs := [_]) rfl (rargN_spec)) rfl rfl ?_
      rintro _ _ X1 ⟨rfl, hX1, rfl⟩
      refine SD.take rfl panicBody (op_neqF rfl rfl (by omega)) rfl rfl ?_
      refine SD.take rfl panicBody (op_pickF rfl rfl) rfl rfl ?_
      refine SD.nil ?_
      show SL _ _ _ _ _ _ _ [] _ _ _
      refine SL.nil <| T.condF rfl <| T.skip <| T.seq <| T.region <| SL.v (op_assign (v := .int .i64 ((0 : Nat) : Int)) rfl) <| SL.v (op_assign (v := .int .i64 ((0 : Nat) : Int)) rfl) <| SL.nil <| T.seq <| T.seq <| T.region <| SL.v (op_fieldAddr fa45_0 rfl) <| SL.v (op_load ty3 rfl (by repeat constructor) rfl) ?_
      refine SL.v (op_eqlT rfl rfl (by omega)) ?_
      refine SL.mv rfl <| SL.skip rfl rfl ?_
      refine SL.skip rfl rfl ?_
      refine SL.skip rfl rfl ?_
      refine SL.v (op_pickT rfl rfl) <| SL.nil <| T.condT rfl <| T.region <| SL.v (op_assign (v := .int .i64 ((1 : Nat) : Int)) rfl) <| SL.v (op_assign (v := .int .i64 ((1 : Nat) : Int)) rfl) <| SL.nil <| T.seq <| T.seq <| T.region <| SL.v (op_fieldAddr fa45_0 rfl) <| SL.v (op_load ty3 rfl (by repeat constructor) rfl) ?_
      refine SL.v (op_eqlF rfl rfl (by omega)) ?_
      refine SL.nil <| T.condF rfl <| T.skip <| T.seq <| T.seq <| T.region <| SL.v (op_fieldAddr fa45_0 rfl) <| SL.v (op_load ty3 rfl (by repeat constructor) rfl) ?_
      refine SL.v (op_neqT rfl rfl (by omega)) ?_
      refine SL.mv rfl <| SL.v (op_fieldAddr fa45_1 rfl) <| SL.v (op_load ty3 rfl (by repeat constructor) rfl) ?_
      refine SL.v (op_neqF rfl rfl (by omega)) ?_
      refine SL.v (op_pickT rfl rfl) <| SL.mv rfl <| SL.v (op_fieldAddr fa45_2 rfl) <| SL.v (op_load ty37 rfl (by repeat constructor) rfl) ?_
      refine SL.v (op_lenS Tryz.underlying37 rfl) <| SL.mv rfl <| SL.v (op_lssT rfl rfl (by omega)) ?_
      refine SL.v (op_pickF rfl rfl) <| SL.mv rfl <| SL.skip rfl rfl ?_
      refine SL.skip rfl rfl ?_
      refine SL.skip rfl rfl ?_
      refine SL.skip rfl rfl ?_
      refine SL.skip rfl rfl ?_
      refine SL.v (op_pickT rfl rfl) <| SL.nil <| T.condT rfl <| T.seq <| T.region <| SL.v (op_assign (v := .int .i64 ((6 : Nat) : Int)) rfl) <| SL.nil <| T.ret1 rfl (ResIs.tmp rfl) ?_
      rw [own6 hA1 (.inr hnm)]; rfl

    by_cases hl323 : 1 < ns.length
    · have hnm : ¬namN op ns.length := by
        have hq : ∀ q : Nat, 1 < q → ¬namN op q := fun q hq h => by simp [namN, h4] at h; omega
        exact hq _ (by omega)
      refine Spec.enter Tryz.func119 rfl Tryz.ntmps119 rfl ?_
      intro w0 hw0
      refine T.seq <| T.region <| SL.w (op_box rfl) ?_
      rintro _ _ _ ⟨B1, rfl, rfl, rfl⟩
      refine SL.v (op_assign (v := .int .i64 ((0 : Nat) : Int)) rfl) <| SL.nil <| T.seq <| T.seq <| T.draw (by kernel_rfl) 17 [.t 0, .t 1, .t 2, .t 3, .t 4, .t 5, .t 6, .t 7, .t 8, .t 9, .t 10, .t 11, .t 12, .t 13, .r 14, .t 15, .t 16] (by kernel_rfl) ?_
      refine SD.take rfl panicBody (op_fieldAddr fa45_0 rfl) rfl rfl ?_
      refine SD.take rfl panicBody (op_load ty3 rfl (by repeat constructor) rfl) rfl rfl ?_
      refine SD.take rfl panicBody (op_lssF rfl rfl (by omega)) rfl rfl ?_
      refine SD.take rfl panicBody (op_move rfl) rfl rfl ?_
      refine SD.take rfl panicBody (op_fieldAddr fa45_0 rfl) rfl rfl ?_
      refine SD.take rfl panicBody (op_load ty3 rfl (by repeat constructor) rfl) rfl rfl ?_
      refine SD.take rfl panicBody (op_gtrF rfl rfl (by omega)) rfl rfl ?_
      refine SD.take rfl panicBody (op_pickF rfl rfl) rfl rfl ?_
      refine SD.take rfl panicBody (op_move rfl) rfl rfl ?_
      refine SD.take rfl panicBody (op_fieldAddr fa45_3 rfl) rfl rfl ?_
      refine SD.take rfl panicBody (op_load ty43 rfl (by repeat constructor) rfl) rfl rfl ?_
      refine SD.take rfl panicBody (op_lenS Tryz.underlying43 rfl) rfl rfl ?_
      refine SD.take rfl panicBody (op_fieldAddr fa45_0 rfl) rfl rfl ?_
      refine SD.take rfl panicBody (op_load ty3 rfl (by repeat constructor) rfl) rfl rfl ?_
      refine SD.run rfl (op_callF en112 (vs := [_]) rfl (rargN_spec)) rfl rfl ?_
      rintro _ _ X1 ⟨rfl, hX1, rfl⟩
      refine SD.take rfl panicBody (op_neqF rfl rfl (by omega)) rfl rfl ?_
      refine SD.take rfl panicBody (op_pickF rfl rfl) rfl rfl ?_
      refine SD.nil ?_
      show SL _ _ _ _ _ _ _ [] _ _ _
      refine SL.nil <| T.condF rfl <| T.skip <| T.seq <| T.region <| SL.v (op_assign (v := .int .i64 ((0 : Nat) : Int)) rfl) <| SL.v (op_assign (v := .int .i64 ((0 : Nat) : Int)) rfl) <| SL.nil <| T.seq <| T.seq <| T.region <| SL.v (op_fieldAddr fa45_0 rfl) <| SL.v (op_load ty3 rfl (by repeat constructor) rfl) ?_
      refine SL.v (op_eqlT rfl rfl (by omega)) ?_
      refine SL.mv rfl <| SL.skip rfl rfl ?_
      refine SL.skip rfl rfl ?_
      refine SL.skip rfl rfl ?_
      refine SL.v (op_pickT rfl rfl) <| SL.nil <| T.condT rfl <| T.region <| SL.v (op_assign (v := .int .i64 ((1 : Nat) : Int)) rfl) <| SL.v (op_assign (v := .int .i64 ((1 : Nat) : Int)) rfl) <| SL.nil <| T.seq <| T.seq <| T.region <| SL.v (op_fieldAddr fa45_0 rfl) <| SL.v (op_load ty3 rfl (by repeat constructor) rfl) ?_
      refine SL.v (op_eqlF rfl rfl (by omega)) ?_
      refine SL.nil <| T.condF rfl <| T.skip <| T.seq <| T.seq <| T.region <| SL.v (op_fieldAddr fa45_0 rfl) <| SL.v (op_load ty3 rfl (by repeat constructor) rfl) ?_
      refine SL.v (op_neqT rfl rfl (by omega)) ?_
      refine SL.mv rfl <| SL.v (op_fieldAddr fa45_1 rfl) <| SL.v (op_load ty3 rfl (by repeat constructor) rfl) ?_
      refine SL.v (op_neqF rfl rfl (by omega)) ?_
      refine SL.v (op_pickT rfl rfl) <| SL.mv rfl <| SL.v (op_fieldAddr fa45_2 rfl) <| SL.v (op_load ty37 rfl (by repeat constructor) rfl) ?_
      refine SL.v (op_lenS Tryz.underlying37 rfl) <| SL.mv rfl <| SL.v (op_lssF rfl rfl (by omega)) ?_
      refine SL.v (op_pickF rfl rfl) <| SL.mv rfl <| SL.v (op_fieldAddr fa45_2 rfl) <| SL.v (op_load ty37 rfl (by repeat constructor) rfl) ?_
      refine SL.v (op_lenS Tryz.underlying37 rfl) <| SL.mv rfl <| SL.v (op_gtrT rfl rfl (by omega)) ?_
      refine SL.v (op_pickF rfl rfl) <| SL.nil <| T.condT rfl <| T.seq <| T.region <| SL.v (op_assign (v := .int .i64 ((6 : Nat) : Int)) rfl) <| SL.nil <| T.ret1 rfl (ResIs.tmp rfl) ?_
      rw [own6 hA1 (.inr hnm)]; rfl

    have hnm : namN op ns.length := by
      have hq : ∀ q : Nat, 1 ≤ q ∧ q ≤ 1 → namN op q := fun q hq => by simp [namN, h4]; omega
      exact hq _ (by omega)
    have hA2 : ¬((n ≠ 0 ∧ op ≠ 1) ∨ ¬namN op ns.length) := fun h => h.elim (fun h => hNN h) (fun h => h hnm)
    refine Spec.enter Tryz.func119 rfl Tryz.ntmps119 rfl ?_
    intro w0 hw0
    refine T.seq <| T.region <| SL.w (op_box rfl) ?_
    rintro _ _ _ ⟨B1, rfl, rfl, rfl⟩
    refine SL.v (op_assign (v := .int .i64 ((0 : Nat) : Int)) rfl) <| SL.nil <| T.seq <| T.seq <| T.draw (by kernel_rfl) 17 [.t 0, .t 1, .t 2, .t 3, .t 4, .t 5, .t 6, .t 7, .t 8, .t 9, .t 10, .t 11, .t 12, .t 13, .r 14, .t 15, .t 16] (by kernel_rfl) ?_
    refine SD.take rfl panicBody (op_fieldAddr fa45_0 rfl) rfl rfl ?_
    refine SD.take rfl panicBody (op_load ty3 rfl (by repeat constructor) rfl) rfl rfl ?_
    refine SD.take rfl panicBody (op_lssF rfl rfl (by omega)) rfl rfl ?_
    refine SD.take rfl panicBody (op_move rfl) rfl rfl ?_
    refine SD.take rfl panicBody (op_fieldAddr fa45_0 rfl) rfl rfl ?_
    refine SD.take rfl panicBody (op_load ty3 rfl (by repeat constructor) rfl) rfl rfl ?_
    refine SD.take rfl panicBody (op_gtrF rfl rfl (by omega)) rfl rfl ?_
    refine SD.take rfl panicBody (op_pickF rfl rfl) rfl rfl ?_
    refine SD.take rfl panicBody (op_move rfl) rfl rfl ?_
    refine SD.take rfl panicBody (op_fieldAddr fa45_3 rfl) rfl rfl ?_
    refine SD.take rfl panicBody (op_load ty43 rfl (by repeat constructor) rfl) rfl rfl ?_
    refine SD.take rfl panicBody (op_lenS Tryz.underlying43 rfl) rfl rfl ?_
    refine SD.take rfl panicBody (op_fieldAddr fa45_0 rfl) rfl rfl ?_
    refine SD.take rfl panicBody (op_load ty3 rfl (by repeat constructor) rfl) rfl rfl ?_
    refine SD.run rfl (op_callF en112 (vs := [_]) rfl (rargN_spec)) rfl rfl ?_
    rintro _ _ X1 ⟨rfl, hX1, rfl⟩
    refine SD.take rfl panicBody (op_neqF rfl rfl (by omega)) rfl rfl ?_
    refine SD.take rfl panicBody (op_pickF rfl rfl) rfl rfl ?_
    refine SD.nil ?_
    show SL _ _ _ _ _ _ _ [] _ _ _
    refine SL.nil <| T.condF rfl <| T.skip <| T.seq <| T.region <| SL.v (op_assign (v := .int .i64 ((0 : Nat) : Int)) rfl) <| SL.v (op_assign (v := .int .i64 ((0 : Nat) : Int)) rfl) <| SL.nil <| T.seq <| T.seq <| T.region <| SL.v (op_fieldAddr fa45_0 rfl) <| SL.v (op_load ty3 rfl (by repeat constructor) rfl) ?_
    refine SL.v (op_eqlT rfl rfl (by omega)) ?_
    refine SL.mv rfl <| SL.skip rfl rfl ?_
    refine SL.skip rfl rfl ?_
    refine SL.skip rfl rfl ?_
    refine SL.v (op_pickT rfl rfl) <| SL.nil <| T.condT rfl <| T.region <| SL.v (op_assign (v := .int .i64 ((1 : Nat) : Int)) rfl) <| SL.v (op_assign (v := .int .i64 ((1 : Nat) : Int)) rfl) <| SL.nil <| T.seq <| T.seq <| T.region <| SL.v (op_fieldAddr fa45_0 rfl) <| SL.v (op_load ty3 rfl (by repeat constructor) rfl) ?_
    refine SL.v (op_eqlF rfl rfl (by omega)) ?_
    refine SL.nil <| T.condF rfl <| T.skip <| T.seq <| T.seq <| T.region <| SL.v (op_fieldAddr fa45_0 rfl) <| SL.v (op_load ty3 rfl (by repeat constructor) rfl) ?_
    refine SL.v (op_neqT rfl rfl (by omega)) ?_
    refine SL.mv rfl <| SL.v (op_fieldAddr fa45_1 rfl) <| SL.v (op_load ty3 rfl (by repeat constructor) rfl) ?_
    refine SL.v (op_neqF rfl rfl (by omega)) ?_
    refine SL.v (op_pickT rfl rfl) <| SL.mv rfl <| SL.v (op_fieldAddr fa45_2 rfl) <| SL.v (op_load ty37 rfl (by repeat constructor) rfl) ?_
    refine SL.v (op_lenS Tryz.underlying37 rfl) <| SL.mv rfl <| SL.v (op_lssF rfl rfl (by omega)) ?_
    refine SL.v (op_pickF rfl rfl) <| SL.mv rfl <| SL.v (op_fieldAddr fa45_2 rfl) <| SL.v (op_load ty37 rfl (by repeat constructor) rfl) ?_
    refine SL.v (op_lenS Tryz.underlying37 rfl) <| SL.mv rfl <| SL.v (op_gtrF rfl rfl (by omega)) ?_
    refine SL.v (op_pickF rfl rfl) <| SL.nil <| T.condF rfl <| T.skip <| T.seq <| T.seq <| T.region <| SL.v (op_fieldAddr fa45_2 rfl) <| SL.v (op_load ty37 rfl (by repeat constructor) rfl) ?_
    refine SL.v (op_lenS Tryz.underlying37 rfl) <| SL.v (op_move (v := .int .i64 ((0 : Nat) : Int)) rfl) <| SL.nil <| T.block <| T.loopW (fun m env own X' => ∃ i : Nat, m = ns.length - i ∧ i ≤ ns.length ∧ X1.le X' ∧ (∀ q x, q < i → ns[q]? = some x → validS x) ∧ env = [(1, .pointer (some ⟨B1, 0, none⟩)), (60, .slice An ns.length cn), (61, .int .i64 (ns.length : Int)), (62, .int .i64 (i : Int))] ∧ own = [⟨B1, [.int .i64 (op : Int), .int .i64 n, .slice An ns.length cn, .slice Aa k ca], 45, 4⟩]) ns.length ⟨0, by simp, by omega, PMap.le_refl _, fun q x hq => absurd hq (by omega), rfl, rfl⟩ (by repeat (first | exact Sub.nil | refine Sub.cons rfl ?_)) ?_
    rintro m _ _ X2 ⟨i, rfl, hi, hX2, hne, rfl, rfl⟩
    rcases Nat.lt_or_ge i ns.length with hil | hil
    · obtain ⟨x, hx⟩ : ∃ x, ns[i]? = some x := ⟨_, List.getElem?_eq_getElem hil⟩
      obtain ⟨b, pre, rfl, hB⟩ := hn.blk (by omega)
      refine T.seq <| T.region <| SL.v (op_lssT rfl rfl (by omega)) ?_
      refine SL.nil <| T.seq <| T.condT rfl <| T.skip <| T.seq <| T.block <| T.seq <| T.region <| SL.v (op_indexN Tryz.underlying37 ty9 rfl rfl (by omega)) ?_
      refine SL.v (op_loadX ty9 rfl ((hB.mono hX1).mono hX2) (str_read hx (by omega))) ?_
      refine SL.as rfl <| SL.nil <| T.seq <| T.region <| SL.mv rfl <| SL.w (op_callF en124 (vs := [_]) rfl (rvalid_spec)) ?_
      rintro _ _ X3 ⟨rfl, hX3, rfl⟩
      by_cases hc : validS x
      · rw [decide_eq_true hc]
        refine SL.v (op_not rfl) <| SL.nil <| T.condF rfl <| T.skip <| T.blk <| T.region <| SL.v (op_addN (q := 1) rfl rfl (by omega)) ?_
        refine SL.mv rfl <| SL.nil ?_
        have hne2 : ∀ (q : Nat) (y : ByteArray), q < i + 1 → ns[q]? = some y → validS y := fun q y hq hy => by
          rcases Nat.lt_or_ge q i with h1 | h1
          · exact hne q y h1 hy
          · obtain rfl : q = i := by omega
            rw [hx] at hy; cases hy; exact hc
        exact T.backW (ns.length - (i + 1)) (by omega) ⟨i + 1, rfl, by omega, hX2.trans' hX3, hne2, rfl, rfl⟩ (by repeat (first | exact Sub.nil | refine Sub.cons rfl ?_))
      · rw [decide_eq_false hc]
        refine SL.v (op_not rfl) <| SL.nil <| T.condT rfl <| T.seq <| T.region <| SL.v (op_assign (v := .int .i64 ((9 : Nat) : Int)) rfl) <| SL.nil <| T.ret1 rfl (ResIs.tmp rfl) ?_
        rw [own9 hA1 hA2 fun h => hc (h x (List.mem_of_getElem? hx))]; rfl
    · have hv : ∀ s ∈ ns, validS s := fun s hs => by
        obtain ⟨q, hq⟩ := List.mem_iff_getElem?.1 hs
        have h1 := (List.getElem?_eq_some_iff.1 hq).1
        exact hne q s (by omega) hq
      refine T.seq <| T.region <| SL.v (op_lssF rfl rfl (by omega)) ?_
      refine SL.nil <| T.seq <| T.condF rfl ?_
      refine T.exit (T.exitCode (T.exitCut (T.exitBlk ?_)))
      refine T.seq <| T.seq <| T.region <| SL.v (op_fieldAddr fa45_2 rfl) <| SL.v (op_load ty37 rfl (by repeat constructor) rfl) ?_
      refine SL.v (op_lenS Tryz.underlying37 rfl) <| SL.v (op_move (v := .int .i64 ((0 : Nat) : Int)) rfl) <| SL.nil <| T.block <| T.loopW (fun m env own X' => ∃ i : Nat, m = ns.length - i ∧ i ≤ ns.length ∧ X2.le X' ∧ (ns.take i).Nodup ∧ env = [(1, .pointer (some ⟨B1, 0, none⟩)), (71, .slice An ns.length cn), (72, .int .i64 (ns.length : Int)), (73, .int .i64 (i : Int))] ∧ own = [⟨B1, [.int .i64 (op : Int), .int .i64 n, .slice An ns.length cn, .slice Aa k ca], 45, 4⟩]) ns.length ⟨0, by simp, by omega, PMap.le_refl _, by simp, rfl, rfl⟩ (by repeat (first | exact Sub.nil | refine Sub.cons rfl ?_)) ?_
      rintro m _ _ X4 ⟨j, rfl, hj, hX4, hnd, rfl, rfl⟩
      rcases Nat.lt_or_ge j ns.length with hjl | hjl
      · obtain ⟨x, hx⟩ : ∃ x, ns[j]? = some x := ⟨_, List.getElem?_eq_getElem hjl⟩
        have htk := hn.take (sz := 1) (k := j) (by omega)
        obtain ⟨b, pre, rfl, hB⟩ := hn.blk (by omega)
        have hX14 := hX1.trans' (hX2.trans' hX4)
        refine T.seq <| T.region <| SL.v (op_lssT rfl rfl (by omega)) ?_
        refine SL.nil <| T.seq <| T.condT rfl <| T.skip <| T.seq <| T.block <| T.seq <| T.region <| SL.mv rfl <| SL.v (op_indexN Tryz.underlying37 ty9 rfl rfl (by omega)) ?_
        refine SL.v (op_loadX ty9 rfl (hB.mono hX14) (str_read hx (by omega))) ?_
        refine SL.as rfl <| SL.as rfl <| SL.nil <| T.seq <| T.region <| SL.v (op_fieldAddr fa45_2 rfl) <| SL.v (op_load ty37 rfl (by repeat constructor) rfl) ?_
        refine SL.mv rfl <| SL.v (op_sliceHi (l := j) Tryz.underlying37 ty9 rfl rfl (by omega)) ?_
        refine SL.mv rfl ?_
        have hcall := number_spec8 (s := x) (htk.mono hX14) (by rw [List.length_take]; omega)
        refine SL.w (op_callF en125 (vs := [_, _]) rfl (hcall)) ?_
        rintro _ _ X5 ⟨rfl, hX5, z, rfl, hz1, hz2⟩
        by_cases hc : x ∈ ns.take j
        · have hz := hz1.2 hc
          refine SL.v (op_gtrT rfl rfl (by omega)) ?_
          refine SL.nil <| T.condT rfl <| T.seq <| T.region <| SL.v (op_assign (v := .int .i64 ((5 : Nat) : Int)) rfl) <| SL.nil <| T.ret1 rfl (ResIs.tmp rfl) ?_
          rw [own5 hA1 hA2 hv fun h => by
            have h2 := h.sublist (List.take_sublist (j + 1) ns)
            rw [take_snoc hx, List.nodup_append] at h2
            exact h2.2.2 x hc x (by simp) rfl]; rfl
        · have hz : ¬0 < z := fun h => hc (hz1.1 h)
          refine SL.v (op_gtrF rfl rfl (by omega)) ?_
          refine SL.nil <| T.condF rfl <| T.skip <| T.blk <| T.region <| SL.v (op_addN (q := 1) rfl rfl (by omega)) ?_
          refine SL.mv rfl <| SL.nil ?_
          have hnd2 : (ns.take (j + 1)).Nodup := by
            rw [take_snoc hx, List.nodup_append]
            exact ⟨hnd, by simp, fun a ha b hb => by
              obtain rfl := List.mem_singleton.1 hb
              exact fun h => hc (h ▸ ha)⟩
          exact T.backW (ns.length - (j + 1)) (by omega) ⟨j + 1, rfl, by omega, hX4.trans' hX5, hnd2, rfl, rfl⟩ (by repeat (first | exact Sub.nil | refine Sub.cons rfl ?_))
      · rw [List.take_of_length_le (by omega)] at hnd
        refine T.seq <| T.region <| SL.v (op_lssF rfl rfl (by omega)) ?_
        refine SL.nil <| T.seq <| T.condF rfl ?_
        refine T.exit (T.exitCode (T.exitCut (T.exitBlk ?_)))
        refine T.seq <| T.seq <| T.region <| SL.v (op_fieldAddr fa45_1 rfl) <| SL.v (op_load ty3 rfl (by repeat constructor) rfl) ?_
        refine SL.v (op_lssF rfl rfl (by omega)) ?_
        refine SL.mv rfl <| SL.v (op_fieldAddr fa45_1 rfl) <| SL.v (op_load ty3 rfl (by repeat constructor) rfl) ?_
        refine SL.v (op_gtrF rfl rfl (by omega)) ?_
        refine SL.v (op_pickF rfl rfl) <| SL.nil <| T.condF rfl <| T.skip <| T.seq <| T.region <| SL.v (op_assign (v := .int .i64 ((0 : Nat) : Int)) rfl) <| SL.nil <| T.ret1 rfl (ResIs.tmp rfl) ?_
        rw [own0' hA1 hA2 hv hnd (by omega)]; rfl
  by_cases h6 : op = 6
  · by_cases hl0 : ns.length < 1
    · have hnm : ¬namN op ns.length := by
        have hq : ∀ q : Nat, q < 1 → ¬namN op q := fun q hq h => by simp [namN, h6] at h; omega
        exact hq _ (by omega)
      refine Spec.enter Tryz.func119 rfl Tryz.ntmps119 rfl ?_
      intro w0 hw0
      refine T.seq <| T.region <| SL.w (op_box rfl) ?_
      rintro _ _ _ ⟨B1, rfl, rfl, rfl⟩
      refine SL.v (op_assign (v := .int .i64 ((0 : Nat) : Int)) rfl) <| SL.nil <| T.seq <| T.seq <| T.draw (by kernel_rfl) 17 [.t 0, .t 1, .t 2, .t 3, .t 4, .t 5, .t 6, .t 7, .t 8, .t 9, .t 10, .t 11, .t 12, .t 13, .r 14, .t 15, .t 16] (by kernel_rfl) ?_
      refine SD.take rfl panicBody (op_fieldAddr fa45_0 rfl) rfl rfl ?_
      refine SD.take rfl panicBody (op_load ty3 rfl (by repeat constructor) rfl) rfl rfl ?_
      refine SD.take rfl panicBody (op_lssF rfl rfl (by omega)) rfl rfl ?_
      refine SD.take rfl panicBody (op_move rfl) rfl rfl ?_
      refine SD.take rfl panicBody (op_fieldAddr fa45_0 rfl) rfl rfl ?_
      refine SD.take rfl panicBody (op_load ty3 rfl (by repeat constructor) rfl) rfl rfl ?_
      refine SD.take rfl panicBody (op_gtrF rfl rfl (by omega)) rfl rfl ?_
      refine SD.take rfl panicBody (op_pickF rfl rfl) rfl rfl ?_
      refine SD.take rfl panicBody (op_move rfl) rfl rfl ?_
      refine SD.take rfl panicBody (op_fieldAddr fa45_3 rfl) rfl rfl ?_
      refine SD.take rfl panicBody (op_load ty43 rfl (by repeat constructor) rfl) rfl rfl ?_
      refine SD.take rfl panicBody (op_lenS Tryz.underlying43 rfl) rfl rfl ?_
      refine SD.take rfl panicBody (op_fieldAddr fa45_0 rfl) rfl rfl ?_
      refine SD.take rfl panicBody (op_load ty3 rfl (by repeat constructor) rfl) rfl rfl ?_
      refine SD.run rfl (op_callF en112 (vs := [_]) rfl (rargN_spec)) rfl rfl ?_
      rintro _ _ X1 ⟨rfl, hX1, rfl⟩
      refine SD.take rfl panicBody (op_neqF rfl rfl (by omega)) rfl rfl ?_
      refine SD.take rfl panicBody (op_pickF rfl rfl) rfl rfl ?_
      refine SD.nil ?_
      show SL _ _ _ _ _ _ _ [] _ _ _
      refine SL.nil <| T.condF rfl <| T.skip <| T.seq <| T.region <| SL.v (op_assign (v := .int .i64 ((0 : Nat) : Int)) rfl) <| SL.v (op_assign (v := .int .i64 ((0 : Nat) : Int)) rfl) <| SL.nil <| T.seq <| T.seq <| T.region <| SL.v (op_fieldAddr fa45_0 rfl) <| SL.v (op_load ty3 rfl (by repeat constructor) rfl) ?_
      refine SL.v (op_eqlF rfl rfl (by omega)) ?_
      refine SL.mv rfl <| SL.v (op_fieldAddr fa45_0 rfl) <| SL.v (op_load ty3 rfl (by repeat constructor) rfl) ?_
      refine SL.v (op_eqlT rfl rfl (by omega)) ?_
      refine SL.v (op_pickF rfl rfl) <| SL.nil <| T.condT rfl <| T.region <| SL.v (op_assign (v := .int .i64 ((1 : Nat) : Int)) rfl) <| SL.v (op_assign (v := .int .i64 ((1 : Nat) : Int)) rfl) <| SL.nil <| T.seq <| T.seq <| T.region <| SL.v (op_fieldAddr fa45_0 rfl) <| SL.v (op_load ty3 rfl (by repeat constructor) rfl) ?_
      refine SL.v (op_eqlF rfl rfl (by omega)) ?_
      refine SL.nil <| T.condF rfl <| T.skip <| T.seq <| T.seq <| T.region <| SL.v (op_fieldAddr fa45_0 rfl) <| SL.v (op_load ty3 rfl (by repeat constructor) rfl) ?_
      refine SL.v (op_neqT rfl rfl (by omega)) ?_
      refine SL.mv rfl <| SL.v (op_fieldAddr fa45_1 rfl) <| SL.v (op_load ty3 rfl (by repeat constructor) rfl) ?_
      refine SL.v (op_neqF rfl rfl (by omega)) ?_
      refine SL.v (op_pickT rfl rfl) <| SL.mv rfl <| SL.v (op_fieldAddr fa45_2 rfl) <| SL.v (op_load ty37 rfl (by repeat constructor) rfl) ?_
      refine SL.v (op_lenS Tryz.underlying37 rfl) <| SL.mv rfl <| SL.v (op_lssT rfl rfl (by omega)) ?_
      refine SL.v (op_pickF rfl rfl) <| SL.mv rfl <| SL.skip rfl rfl ?_
      refine SL.skip rfl rfl ?_
      refine SL.skip rfl rfl ?_
      refine SL.skip rfl rfl ?_
      refine SL.skip rfl rfl ?_
      refine SL.v (op_pickT rfl rfl) <| SL.nil <| T.condT rfl <| T.seq <| T.region <| SL.v (op_assign (v := .int .i64 ((6 : Nat) : Int)) rfl) <| SL.nil <| T.ret1 rfl (ResIs.tmp rfl) ?_
      rw [own6 hA1 (.inr hnm)]; rfl

    by_cases hl323 : 1 < ns.length
    · have hnm : ¬namN op ns.length := by
        have hq : ∀ q : Nat, 1 < q → ¬namN op q := fun q hq h => by simp [namN, h6] at h; omega
        exact hq _ (by omega)
      refine Spec.enter Tryz.func119 rfl Tryz.ntmps119 rfl ?_
      intro w0 hw0
      refine T.seq <| T.region <| SL.w (op_box rfl) ?_
      rintro _ _ _ ⟨B1, rfl, rfl, rfl⟩
      refine SL.v (op_assign (v := .int .i64 ((0 : Nat) : Int)) rfl) <| SL.nil <| T.seq <| T.seq <| T.draw (by kernel_rfl) 17 [.t 0, .t 1, .t 2, .t 3, .t 4, .t 5, .t 6, .t 7, .t 8, .t 9, .t 10, .t 11, .t 12, .t 13, .r 14, .t 15, .t 16] (by kernel_rfl) ?_
      refine SD.take rfl panicBody (op_fieldAddr fa45_0 rfl) rfl rfl ?_
      refine SD.take rfl panicBody (op_load ty3 rfl (by repeat constructor) rfl) rfl rfl ?_
      refine SD.take rfl panicBody (op_lssF rfl rfl (by omega)) rfl rfl ?_
      refine SD.take rfl panicBody (op_move rfl) rfl rfl ?_
      refine SD.take rfl panicBody (op_fieldAddr fa45_0 rfl) rfl rfl ?_
      refine SD.take rfl panicBody (op_load ty3 rfl (by repeat constructor) rfl) rfl rfl ?_
      refine SD.take rfl panicBody (op_gtrF rfl rfl (by omega)) rfl rfl ?_
      refine SD.take rfl panicBody (op_pickF rfl rfl) rfl rfl ?_
      refine SD.take rfl panicBody (op_move rfl) rfl rfl ?_
      refine SD.take rfl panicBody (op_fieldAddr fa45_3 rfl) rfl rfl ?_
      refine SD.take rfl panicBody (op_load ty43 rfl (by repeat constructor) rfl) rfl rfl ?_
      refine SD.take rfl panicBody (op_lenS Tryz.underlying43 rfl) rfl rfl ?_
      refine SD.take rfl panicBody (op_fieldAddr fa45_0 rfl) rfl rfl ?_
      refine SD.take rfl panicBody (op_load ty3 rfl (by repeat constructor) rfl) rfl rfl ?_
      refine SD.run rfl (op_callF en112 (vs := [_]) rfl (rargN_spec)) rfl rfl ?_
      rintro _ _ X1 ⟨rfl, hX1, rfl⟩
      refine SD.take rfl panicBody (op_neqF rfl rfl (by omega)) rfl rfl ?_
      refine SD.take rfl panicBody (op_pickF rfl rfl) rfl rfl ?_
      refine SD.nil ?_
      show SL _ _ _ _ _ _ _ [] _ _ _
      refine SL.nil <| T.condF rfl <| T.skip <| T.seq <| T.region <| SL.v (op_assign (v := .int .i64 ((0 : Nat) : Int)) rfl) <| SL.v (op_assign (v := .int .i64 ((0 : Nat) : Int)) rfl) <| SL.nil <| T.seq <| T.seq <| T.region <| SL.v (op_fieldAddr fa45_0 rfl) <| SL.v (op_load ty3 rfl (by repeat constructor) rfl) ?_
      refine SL.v (op_eqlF rfl rfl (by omega)) ?_
      refine SL.mv rfl <| SL.v (op_fieldAddr fa45_0 rfl) <| SL.v (op_load ty3 rfl (by repeat constructor) rfl) ?_
      refine SL.v (op_eqlT rfl rfl (by omega)) ?_
      refine SL.v (op_pickF rfl rfl) <| SL.nil <| T.condT rfl <| T.region <| SL.v (op_assign (v := .int .i64 ((1 : Nat) : Int)) rfl) <| SL.v (op_assign (v := .int .i64 ((1 : Nat) : Int)) rfl) <| SL.nil <| T.seq <| T.seq <| T.region <| SL.v (op_fieldAddr fa45_0 rfl) <| SL.v (op_load ty3 rfl (by repeat constructor) rfl) ?_
      refine SL.v (op_eqlF rfl rfl (by omega)) ?_
      refine SL.nil <| T.condF rfl <| T.skip <| T.seq <| T.seq <| T.region <| SL.v (op_fieldAddr fa45_0 rfl) <| SL.v (op_load ty3 rfl (by repeat constructor) rfl) ?_
      refine SL.v (op_neqT rfl rfl (by omega)) ?_
      refine SL.mv rfl <| SL.v (op_fieldAddr fa45_1 rfl) <| SL.v (op_load ty3 rfl (by repeat constructor) rfl) ?_
      refine SL.v (op_neqF rfl rfl (by omega)) ?_
      refine SL.v (op_pickT rfl rfl) <| SL.mv rfl <| SL.v (op_fieldAddr fa45_2 rfl) <| SL.v (op_load ty37 rfl (by repeat constructor) rfl) ?_
      refine SL.v (op_lenS Tryz.underlying37 rfl) <| SL.mv rfl <| SL.v (op_lssF rfl rfl (by omega)) ?_
      refine SL.v (op_pickF rfl rfl) <| SL.mv rfl <| SL.v (op_fieldAddr fa45_2 rfl) <| SL.v (op_load ty37 rfl (by repeat constructor) rfl) ?_
      refine SL.v (op_lenS Tryz.underlying37 rfl) <| SL.mv rfl <| SL.v (op_gtrT rfl rfl (by omega)) ?_
      refine SL.v (op_pickF rfl rfl) <| SL.nil <| T.condT rfl <| T.seq <| T.region <| SL.v (op_assign (v := .int .i64 ((6 : Nat) : Int)) rfl) <| SL.nil <| T.ret1 rfl (ResIs.tmp rfl) ?_
      rw [own6 hA1 (.inr hnm)]; rfl

    have hnm : namN op ns.length := by
      have hq : ∀ q : Nat, 1 ≤ q ∧ q ≤ 1 → namN op q := fun q hq => by simp [namN, h6]; omega
      exact hq _ (by omega)
    have hA2 : ¬((n ≠ 0 ∧ op ≠ 1) ∨ ¬namN op ns.length) := fun h => h.elim (fun h => hNN h) (fun h => h hnm)
    refine Spec.enter Tryz.func119 rfl Tryz.ntmps119 rfl ?_
    intro w0 hw0
    refine T.seq <| T.region <| SL.w (op_box rfl) ?_
    rintro _ _ _ ⟨B1, rfl, rfl, rfl⟩
    refine SL.v (op_assign (v := .int .i64 ((0 : Nat) : Int)) rfl) <| SL.nil <| T.seq <| T.seq <| T.draw (by kernel_rfl) 17 [.t 0, .t 1, .t 2, .t 3, .t 4, .t 5, .t 6, .t 7, .t 8, .t 9, .t 10, .t 11, .t 12, .t 13, .r 14, .t 15, .t 16] (by kernel_rfl) ?_
    refine SD.take rfl panicBody (op_fieldAddr fa45_0 rfl) rfl rfl ?_
    refine SD.take rfl panicBody (op_load ty3 rfl (by repeat constructor) rfl) rfl rfl ?_
    refine SD.take rfl panicBody (op_lssF rfl rfl (by omega)) rfl rfl ?_
    refine SD.take rfl panicBody (op_move rfl) rfl rfl ?_
    refine SD.take rfl panicBody (op_fieldAddr fa45_0 rfl) rfl rfl ?_
    refine SD.take rfl panicBody (op_load ty3 rfl (by repeat constructor) rfl) rfl rfl ?_
    refine SD.take rfl panicBody (op_gtrF rfl rfl (by omega)) rfl rfl ?_
    refine SD.take rfl panicBody (op_pickF rfl rfl) rfl rfl ?_
    refine SD.take rfl panicBody (op_move rfl) rfl rfl ?_
    refine SD.take rfl panicBody (op_fieldAddr fa45_3 rfl) rfl rfl ?_
    refine SD.take rfl panicBody (op_load ty43 rfl (by repeat constructor) rfl) rfl rfl ?_
    refine SD.take rfl panicBody (op_lenS Tryz.underlying43 rfl) rfl rfl ?_
    refine SD.take rfl panicBody (op_fieldAddr fa45_0 rfl) rfl rfl ?_
    refine SD.take rfl panicBody (op_load ty3 rfl (by repeat constructor) rfl) rfl rfl ?_
    refine SD.run rfl (op_callF en112 (vs := [_]) rfl (rargN_spec)) rfl rfl ?_
    rintro _ _ X1 ⟨rfl, hX1, rfl⟩
    refine SD.take rfl panicBody (op_neqF rfl rfl (by omega)) rfl rfl ?_
    refine SD.take rfl panicBody (op_pickF rfl rfl) rfl rfl ?_
    refine SD.nil ?_
    show SL _ _ _ _ _ _ _ [] _ _ _
    refine SL.nil <| T.condF rfl <| T.skip <| T.seq <| T.region <| SL.v (op_assign (v := .int .i64 ((0 : Nat) : Int)) rfl) <| SL.v (op_assign (v := .int .i64 ((0 : Nat) : Int)) rfl) <| SL.nil <| T.seq <| T.seq <| T.region <| SL.v (op_fieldAddr fa45_0 rfl) <| SL.v (op_load ty3 rfl (by repeat constructor) rfl) ?_
    refine SL.v (op_eqlF rfl rfl (by omega)) ?_
    refine SL.mv rfl <| SL.v (op_fieldAddr fa45_0 rfl) <| SL.v (op_load ty3 rfl (by repeat constructor) rfl) ?_
    refine SL.v (op_eqlT rfl rfl (by omega)) ?_
    refine SL.v (op_pickF rfl rfl) <| SL.nil <| T.condT rfl <| T.region <| SL.v (op_assign (v := .int .i64 ((1 : Nat) : Int)) rfl) <| SL.v (op_assign (v := .int .i64 ((1 : Nat) : Int)) rfl) <| SL.nil <| T.seq <| T.seq <| T.region <| SL.v (op_fieldAddr fa45_0 rfl) <| SL.v (op_load ty3 rfl (by repeat constructor) rfl) ?_
    refine SL.v (op_eqlF rfl rfl (by omega)) ?_
    refine SL.nil <| T.condF rfl <| T.skip <| T.seq <| T.seq <| T.region <| SL.v (op_fieldAddr fa45_0 rfl) <| SL.v (op_load ty3 rfl (by repeat constructor) rfl) ?_
    refine SL.v (op_neqT rfl rfl (by omega)) ?_
    refine SL.mv rfl <| SL.v (op_fieldAddr fa45_1 rfl) <| SL.v (op_load ty3 rfl (by repeat constructor) rfl) ?_
    refine SL.v (op_neqF rfl rfl (by omega)) ?_
    refine SL.v (op_pickT rfl rfl) <| SL.mv rfl <| SL.v (op_fieldAddr fa45_2 rfl) <| SL.v (op_load ty37 rfl (by repeat constructor) rfl) ?_
    refine SL.v (op_lenS Tryz.underlying37 rfl) <| SL.mv rfl <| SL.v (op_lssF rfl rfl (by omega)) ?_
    refine SL.v (op_pickF rfl rfl) <| SL.mv rfl <| SL.v (op_fieldAddr fa45_2 rfl) <| SL.v (op_load ty37 rfl (by repeat constructor) rfl) ?_
    refine SL.v (op_lenS Tryz.underlying37 rfl) <| SL.mv rfl <| SL.v (op_gtrF rfl rfl (by omega)) ?_
    refine SL.v (op_pickF rfl rfl) <| SL.nil <| T.condF rfl <| T.skip <| T.seq <| T.seq <| T.region <| SL.v (op_fieldAddr fa45_2 rfl) <| SL.v (op_load ty37 rfl (by repeat constructor) rfl) ?_
    refine SL.v (op_lenS Tryz.underlying37 rfl) <| SL.v (op_move (v := .int .i64 ((0 : Nat) : Int)) rfl) <| SL.nil <| T.block <| T.loopW (fun m env own X' => ∃ i : Nat, m = ns.length - i ∧ i ≤ ns.length ∧ X1.le X' ∧ (∀ q x, q < i → ns[q]? = some x → validS x) ∧ env = [(1, .pointer (some ⟨B1, 0, none⟩)), (60, .slice An ns.length cn), (61, .int .i64 (ns.length : Int)), (62, .int .i64 (i : Int))] ∧ own = [⟨B1, [.int .i64 (op : Int), .int .i64 n, .slice An ns.length cn, .slice Aa k ca], 45, 4⟩]) ns.length ⟨0, by simp, by omega, PMap.le_refl _, fun q x hq => absurd hq (by omega), rfl, rfl⟩ (by repeat (first | exact Sub.nil | refine Sub.cons rfl ?_)) ?_
    rintro m _ _ X2 ⟨i, rfl, hi, hX2, hne, rfl, rfl⟩
    rcases Nat.lt_or_ge i ns.length with hil | hil
    · obtain ⟨x, hx⟩ : ∃ x, ns[i]? = some x := ⟨_, List.getElem?_eq_getElem hil⟩
      obtain ⟨b, pre, rfl, hB⟩ := hn.blk (by omega)
      refine T.seq <| T.region <| SL.v (op_lssT rfl rfl (by omega)) ?_
      refine SL.nil <| T.seq <| T.condT rfl <| T.skip <| T.seq <| T.block <| T.seq <| T.region <| SL.v (op_indexN Tryz.underlying37 ty9 rfl rfl (by omega)) ?_
      refine SL.v (op_loadX ty9 rfl ((hB.mono hX1).mono hX2) (str_read hx (by omega))) ?_
      refine SL.as rfl <| SL.nil <| T.seq <| T.region <| SL.mv rfl <| SL.w (op_callF en124 (vs := [_]) rfl (rvalid_spec)) ?_
      rintro _ _ X3 ⟨rfl, hX3, rfl⟩
      by_cases hc : validS x
      · rw [decide_eq_true hc]
        refine SL.v (op_not rfl) <| SL.nil <| T.condF rfl <| T.skip <| T.blk <| T.region <| SL.v (op_addN (q := 1) rfl rfl (by omega)) ?_
        refine SL.mv rfl <| SL.nil ?_
        have hne2 : ∀ (q : Nat) (y : ByteArray), q < i + 1 → ns[q]? = some y → validS y := fun q y hq hy => by
          rcases Nat.lt_or_ge q i with h1 | h1
          · exact hne q y h1 hy
          · obtain rfl : q = i := by omega
            rw [hx] at hy; cases hy; exact hc
        exact T.backW (ns.length - (i + 1)) (by omega) ⟨i + 1, rfl, by omega, hX2.trans' hX3, hne2, rfl, rfl⟩ (by repeat (first | exact Sub.nil | refine Sub.cons rfl ?_))
      · rw [decide_eq_false hc]
        refine SL.v (op_not rfl) <| SL.nil <| T.condT rfl <| T.seq <| T.region <| SL.v (op_assign (v := .int .i64 ((9 : Nat) : Int)) rfl) <| SL.nil <| T.ret1 rfl (ResIs.tmp rfl) ?_
        rw [own9 hA1 hA2 fun h => hc (h x (List.mem_of_getElem? hx))]; rfl
    · have hv : ∀ s ∈ ns, validS s := fun s hs => by
        obtain ⟨q, hq⟩ := List.mem_iff_getElem?.1 hs
        have h1 := (List.getElem?_eq_some_iff.1 hq).1
        exact hne q s (by omega) hq
      refine T.seq <| T.region <| SL.v (op_lssF rfl rfl (by omega)) ?_
      refine SL.nil <| T.seq <| T.condF rfl ?_
      refine T.exit (T.exitCode (T.exitCut (T.exitBlk ?_)))
      refine T.seq <| T.seq <| T.region <| SL.v (op_fieldAddr fa45_2 rfl) <| SL.v (op_load ty37 rfl (by repeat constructor) rfl) ?_
      refine SL.v (op_lenS Tryz.underlying37 rfl) <| SL.v (op_move (v := .int .i64 ((0 : Nat) : Int)) rfl) <| SL.nil <| T.block <| T.loopW (fun m env own X' => ∃ i : Nat, m = ns.length - i ∧ i ≤ ns.length ∧ X2.le X' ∧ (ns.take i).Nodup ∧ env = [(1, .pointer (some ⟨B1, 0, none⟩)), (71, .slice An ns.length cn), (72, .int .i64 (ns.length : Int)), (73, .int .i64 (i : Int))] ∧ own = [⟨B1, [.int .i64 (op : Int), .int .i64 n, .slice An ns.length cn, .slice Aa k ca], 45, 4⟩]) ns.length ⟨0, by simp, by omega, PMap.le_refl _, by simp, rfl, rfl⟩ (by repeat (first | exact Sub.nil | refine Sub.cons rfl ?_)) ?_
      rintro m _ _ X4 ⟨j, rfl, hj, hX4, hnd, rfl, rfl⟩
      rcases Nat.lt_or_ge j ns.length with hjl | hjl
      · obtain ⟨x, hx⟩ : ∃ x, ns[j]? = some x := ⟨_, List.getElem?_eq_getElem hjl⟩
        have htk := hn.take (sz := 1) (k := j) (by omega)
        obtain ⟨b, pre, rfl, hB⟩ := hn.blk (by omega)
        have hX14 := hX1.trans' (hX2.trans' hX4)
        refine T.seq <| T.region <| SL.v (op_lssT rfl rfl (by omega)) ?_
        refine SL.nil <| T.seq <| T.condT rfl <| T.skip <| T.seq <| T.block <| T.seq <| T.region <| SL.mv rfl <| SL.v (op_indexN Tryz.underlying37 ty9 rfl rfl (by omega)) ?_
        refine SL.v (op_loadX ty9 rfl (hB.mono hX14) (str_read hx (by omega))) ?_
        refine SL.as rfl <| SL.as rfl <| SL.nil <| T.seq <| T.region <| SL.v (op_fieldAddr fa45_2 rfl) <| SL.v (op_load ty37 rfl (by repeat constructor) rfl) ?_
        refine SL.mv rfl <| SL.v (op_sliceHi (l := j) Tryz.underlying37 ty9 rfl rfl (by omega)) ?_
        refine SL.mv rfl ?_
        have hcall := number_spec8 (s := x) (htk.mono hX14) (by rw [List.length_take]; omega)
        refine SL.w (op_callF en125 (vs := [_, _]) rfl (hcall)) ?_
        rintro _ _ X5 ⟨rfl, hX5, z, rfl, hz1, hz2⟩
        by_cases hc : x ∈ ns.take j
        · have hz := hz1.2 hc
          refine SL.v (op_gtrT rfl rfl (by omega)) ?_
          refine SL.nil <| T.condT rfl <| T.seq <| T.region <| SL.v (op_assign (v := .int .i64 ((5 : Nat) : Int)) rfl) <| SL.nil <| T.ret1 rfl (ResIs.tmp rfl) ?_
          rw [own5 hA1 hA2 hv fun h => by
            have h2 := h.sublist (List.take_sublist (j + 1) ns)
            rw [take_snoc hx, List.nodup_append] at h2
            exact h2.2.2 x hc x (by simp) rfl]; rfl
        · have hz : ¬0 < z := fun h => hc (hz1.1 h)
          refine SL.v (op_gtrF rfl rfl (by omega)) ?_
          refine SL.nil <| T.condF rfl <| T.skip <| T.blk <| T.region <| SL.v (op_addN (q := 1) rfl rfl (by omega)) ?_
          refine SL.mv rfl <| SL.nil ?_
          have hnd2 : (ns.take (j + 1)).Nodup := by
            rw [take_snoc hx, List.nodup_append]
            exact ⟨hnd, by simp, fun a ha b hb => by
              obtain rfl := List.mem_singleton.1 hb
              exact fun h => hc (h ▸ ha)⟩
          exact T.backW (ns.length - (j + 1)) (by omega) ⟨j + 1, rfl, by omega, hX4.trans' hX5, hnd2, rfl, rfl⟩ (by repeat (first | exact Sub.nil | refine Sub.cons rfl ?_))
      · rw [List.take_of_length_le (by omega)] at hnd
        refine T.seq <| T.region <| SL.v (op_lssF rfl rfl (by omega)) ?_
        refine SL.nil <| T.seq <| T.condF rfl ?_
        refine T.exit (T.exitCode (T.exitCut (T.exitBlk ?_)))
        refine T.seq <| T.seq <| T.region <| SL.v (op_fieldAddr fa45_1 rfl) <| SL.v (op_load ty3 rfl (by repeat constructor) rfl) ?_
        refine SL.v (op_lssF rfl rfl (by omega)) ?_
        refine SL.mv rfl <| SL.v (op_fieldAddr fa45_1 rfl) <| SL.v (op_load ty3 rfl (by repeat constructor) rfl) ?_
        refine SL.v (op_gtrF rfl rfl (by omega)) ?_
        refine SL.v (op_pickF rfl rfl) <| SL.nil <| T.condF rfl <| T.skip <| T.seq <| T.region <| SL.v (op_assign (v := .int .i64 ((0 : Nat) : Int)) rfl) <| SL.nil <| T.ret1 rfl (ResIs.tmp rfl) ?_
        rw [own0' hA1 hA2 hv hnd (by omega)]; rfl
  by_cases h5 : op = 5
  · by_cases hl0 : ns.length < 1
    · have hnm : ¬namN op ns.length := by
        have hq : ∀ q : Nat, q < 1 → ¬namN op q := fun q hq h => by simp [namN, h5] at h; omega
        exact hq _ (by omega)
      refine Spec.enter Tryz.func119 rfl Tryz.ntmps119 rfl ?_
      intro w0 hw0
      refine T.seq <| T.region <| SL.w (op_box rfl) ?_
      rintro _ _ _ ⟨B1, rfl, rfl, rfl⟩
      refine SL.v (op_assign (v := .int .i64 ((0 : Nat) : Int)) rfl) <| SL.nil <| T.seq <| T.seq <| T.draw (by kernel_rfl) 17 [.t 0, .t 1, .t 2, .t 3, .t 4, .t 5, .t 6, .t 7, .t 8, .t 9, .t 10, .t 11, .t 12, .t 13, .r 14, .t 15, .t 16] (by kernel_rfl) ?_
      refine SD.take rfl panicBody (op_fieldAddr fa45_0 rfl) rfl rfl ?_
      refine SD.take rfl panicBody (op_load ty3 rfl (by repeat constructor) rfl) rfl rfl ?_
      refine SD.take rfl panicBody (op_lssF rfl rfl (by omega)) rfl rfl ?_
      refine SD.take rfl panicBody (op_move rfl) rfl rfl ?_
      refine SD.take rfl panicBody (op_fieldAddr fa45_0 rfl) rfl rfl ?_
      refine SD.take rfl panicBody (op_load ty3 rfl (by repeat constructor) rfl) rfl rfl ?_
      refine SD.take rfl panicBody (op_gtrF rfl rfl (by omega)) rfl rfl ?_
      refine SD.take rfl panicBody (op_pickF rfl rfl) rfl rfl ?_
      refine SD.take rfl panicBody (op_move rfl) rfl rfl ?_
      refine SD.take rfl panicBody (op_fieldAddr fa45_3 rfl) rfl rfl ?_
      refine SD.take rfl panicBody (op_load ty43 rfl (by repeat constructor) rfl) rfl rfl ?_
      refine SD.take rfl panicBody (op_lenS Tryz.underlying43 rfl) rfl rfl ?_
      refine SD.take rfl panicBody (op_fieldAddr fa45_0 rfl) rfl rfl ?_
      refine SD.take rfl panicBody (op_load ty3 rfl (by repeat constructor) rfl) rfl rfl ?_
      refine SD.run rfl (op_callF en112 (vs := [_]) rfl (rargN_spec)) rfl rfl ?_
      rintro _ _ X1 ⟨rfl, hX1, rfl⟩
      refine SD.take rfl panicBody (op_neqF rfl rfl (by omega)) rfl rfl ?_
      refine SD.take rfl panicBody (op_pickF rfl rfl) rfl rfl ?_
      refine SD.nil ?_
      show SL _ _ _ _ _ _ _ [] _ _ _
      refine SL.nil <| T.condF rfl <| T.skip <| T.seq <| T.region <| SL.v (op_assign (v := .int .i64 ((0 : Nat) : Int)) rfl) <| SL.v (op_assign (v := .int .i64 ((0 : Nat) : Int)) rfl) <| SL.nil <| T.seq <| T.seq <| T.region <| SL.v (op_fieldAddr fa45_0 rfl) <| SL.v (op_load ty3 rfl (by repeat constructor) rfl) ?_
      refine SL.v (op_eqlF rfl rfl (by omega)) ?_
      refine SL.mv rfl <| SL.v (op_fieldAddr fa45_0 rfl) <| SL.v (op_load ty3 rfl (by repeat constructor) rfl) ?_
      refine SL.v (op_eqlF rfl rfl (by omega)) ?_
      refine SL.v (op_pickF rfl rfl) <| SL.nil <| T.condF rfl <| T.skip <| T.seq <| T.seq <| T.region <| SL.v (op_fieldAddr fa45_0 rfl) <| SL.v (op_load ty3 rfl (by repeat constructor) rfl) ?_
      refine SL.v (op_eqlT rfl rfl (by omega)) ?_
      refine SL.nil <| T.condT rfl <| T.region <| SL.v (op_assign (v := .int .i64 ((1 : Nat) : Int)) rfl) <| SL.v (op_assign (v := .int .i64 ((8 : Nat) : Int)) rfl) <| SL.nil <| T.seq <| T.seq <| T.region <| SL.v (op_fieldAddr fa45_0 rfl) <| SL.v (op_load ty3 rfl (by repeat constructor) rfl) ?_
      refine SL.v (op_neqT rfl rfl (by omega)) ?_
      refine SL.mv rfl <| SL.v (op_fieldAddr fa45_1 rfl) <| SL.v (op_load ty3 rfl (by repeat constructor) rfl) ?_
      refine SL.v (op_neqF rfl rfl (by omega)) ?_
      refine SL.v (op_pickT rfl rfl) <| SL.mv rfl <| SL.v (op_fieldAddr fa45_2 rfl) <| SL.v (op_load ty37 rfl (by repeat constructor) rfl) ?_
      refine SL.v (op_lenS Tryz.underlying37 rfl) <| SL.mv rfl <| SL.v (op_lssT rfl rfl (by omega)) ?_
      refine SL.v (op_pickF rfl rfl) <| SL.mv rfl <| SL.skip rfl rfl ?_
      refine SL.skip rfl rfl ?_
      refine SL.skip rfl rfl ?_
      refine SL.skip rfl rfl ?_
      refine SL.skip rfl rfl ?_
      refine SL.v (op_pickT rfl rfl) <| SL.nil <| T.condT rfl <| T.seq <| T.region <| SL.v (op_assign (v := .int .i64 ((6 : Nat) : Int)) rfl) <| SL.nil <| T.ret1 rfl (ResIs.tmp rfl) ?_
      rw [own6 hA1 (.inr hnm)]; rfl

    by_cases hl323 : 8 < ns.length
    · have hnm : ¬namN op ns.length := by
        have hq : ∀ q : Nat, 8 < q → ¬namN op q := fun q hq h => by simp [namN, h5] at h; omega
        exact hq _ (by omega)
      refine Spec.enter Tryz.func119 rfl Tryz.ntmps119 rfl ?_
      intro w0 hw0
      refine T.seq <| T.region <| SL.w (op_box rfl) ?_
      rintro _ _ _ ⟨B1, rfl, rfl, rfl⟩
      refine SL.v (op_assign (v := .int .i64 ((0 : Nat) : Int)) rfl) <| SL.nil <| T.seq <| T.seq <| T.draw (by kernel_rfl) 17 [.t 0, .t 1, .t 2, .t 3, .t 4, .t 5, .t 6, .t 7, .t 8, .t 9, .t 10, .t 11, .t 12, .t 13, .r 14, .t 15, .t 16] (by kernel_rfl) ?_
      refine SD.take rfl panicBody (op_fieldAddr fa45_0 rfl) rfl rfl ?_
      refine SD.take rfl panicBody (op_load ty3 rfl (by repeat constructor) rfl) rfl rfl ?_
      refine SD.take rfl panicBody (op_lssF rfl rfl (by omega)) rfl rfl ?_
      refine SD.take rfl panicBody (op_move rfl) rfl rfl ?_
      refine SD.take rfl panicBody (op_fieldAddr fa45_0 rfl) rfl rfl ?_
      refine SD.take rfl panicBody (op_load ty3 rfl (by repeat constructor) rfl) rfl rfl ?_
      refine SD.take rfl panicBody (op_gtrF rfl rfl (by omega)) rfl rfl ?_
      refine SD.take rfl panicBody (op_pickF rfl rfl) rfl rfl ?_
      refine SD.take rfl panicBody (op_move rfl) rfl rfl ?_
      refine SD.take rfl panicBody (op_fieldAddr fa45_3 rfl) rfl rfl ?_
      refine SD.take rfl panicBody (op_load ty43 rfl (by repeat constructor) rfl) rfl rfl ?_
      refine SD.take rfl panicBody (op_lenS Tryz.underlying43 rfl) rfl rfl ?_
      refine SD.take rfl panicBody (op_fieldAddr fa45_0 rfl) rfl rfl ?_
      refine SD.take rfl panicBody (op_load ty3 rfl (by repeat constructor) rfl) rfl rfl ?_
      refine SD.run rfl (op_callF en112 (vs := [_]) rfl (rargN_spec)) rfl rfl ?_
      rintro _ _ X1 ⟨rfl, hX1, rfl⟩
      refine SD.take rfl panicBody (op_neqF rfl rfl (by omega)) rfl rfl ?_
      refine SD.take rfl panicBody (op_pickF rfl rfl) rfl rfl ?_
      refine SD.nil ?_
      show SL _ _ _ _ _ _ _ [] _ _ _
      refine SL.nil <| T.condF rfl <| T.skip <| T.seq <| T.region <| SL.v (op_assign (v := .int .i64 ((0 : Nat) : Int)) rfl) <| SL.v (op_assign (v := .int .i64 ((0 : Nat) : Int)) rfl) <| SL.nil <| T.seq <| T.seq <| T.region <| SL.v (op_fieldAddr fa45_0 rfl) <| SL.v (op_load ty3 rfl (by repeat constructor) rfl) ?_
      refine SL.v (op_eqlF rfl rfl (by omega)) ?_
      refine SL.mv rfl <| SL.v (op_fieldAddr fa45_0 rfl) <| SL.v (op_load ty3 rfl (by repeat constructor) rfl) ?_
      refine SL.v (op_eqlF rfl rfl (by omega)) ?_
      refine SL.v (op_pickF rfl rfl) <| SL.nil <| T.condF rfl <| T.skip <| T.seq <| T.seq <| T.region <| SL.v (op_fieldAddr fa45_0 rfl) <| SL.v (op_load ty3 rfl (by repeat constructor) rfl) ?_
      refine SL.v (op_eqlT rfl rfl (by omega)) ?_
      refine SL.nil <| T.condT rfl <| T.region <| SL.v (op_assign (v := .int .i64 ((1 : Nat) : Int)) rfl) <| SL.v (op_assign (v := .int .i64 ((8 : Nat) : Int)) rfl) <| SL.nil <| T.seq <| T.seq <| T.region <| SL.v (op_fieldAddr fa45_0 rfl) <| SL.v (op_load ty3 rfl (by repeat constructor) rfl) ?_
      refine SL.v (op_neqT rfl rfl (by omega)) ?_
      refine SL.mv rfl <| SL.v (op_fieldAddr fa45_1 rfl) <| SL.v (op_load ty3 rfl (by repeat constructor) rfl) ?_
      refine SL.v (op_neqF rfl rfl (by omega)) ?_
      refine SL.v (op_pickT rfl rfl) <| SL.mv rfl <| SL.v (op_fieldAddr fa45_2 rfl) <| SL.v (op_load ty37 rfl (by repeat constructor) rfl) ?_
      refine SL.v (op_lenS Tryz.underlying37 rfl) <| SL.mv rfl <| SL.v (op_lssF rfl rfl (by omega)) ?_
      refine SL.v (op_pickF rfl rfl) <| SL.mv rfl <| SL.v (op_fieldAddr fa45_2 rfl) <| SL.v (op_load ty37 rfl (by repeat constructor) rfl) ?_
      refine SL.v (op_lenS Tryz.underlying37 rfl) <| SL.mv rfl <| SL.v (op_gtrT rfl rfl (by omega)) ?_
      refine SL.v (op_pickF rfl rfl) <| SL.nil <| T.condT rfl <| T.seq <| T.region <| SL.v (op_assign (v := .int .i64 ((6 : Nat) : Int)) rfl) <| SL.nil <| T.ret1 rfl (ResIs.tmp rfl) ?_
      rw [own6 hA1 (.inr hnm)]; rfl

    have hnm : namN op ns.length := by
      have hq : ∀ q : Nat, 1 ≤ q ∧ q ≤ 8 → namN op q := fun q hq => by simp [namN, h5]; omega
      exact hq _ (by omega)
    have hA2 : ¬((n ≠ 0 ∧ op ≠ 1) ∨ ¬namN op ns.length) := fun h => h.elim (fun h => hNN h) (fun h => h hnm)
    refine Spec.enter Tryz.func119 rfl Tryz.ntmps119 rfl ?_
    intro w0 hw0
    refine T.seq <| T.region <| SL.w (op_box rfl) ?_
    rintro _ _ _ ⟨B1, rfl, rfl, rfl⟩
    refine SL.v (op_assign (v := .int .i64 ((0 : Nat) : Int)) rfl) <| SL.nil <| T.seq <| T.seq <| T.draw (by kernel_rfl) 17 [.t 0, .t 1, .t 2, .t 3, .t 4, .t 5, .t 6, .t 7, .t 8, .t 9, .t 10, .t 11, .t 12, .t 13, .r 14, .t 15, .t 16] (by kernel_rfl) ?_
    refine SD.take rfl panicBody (op_fieldAddr fa45_0 rfl) rfl rfl ?_
    refine SD.take rfl panicBody (op_load ty3 rfl (by repeat constructor) rfl) rfl rfl ?_
    refine SD.take rfl panicBody (op_lssF rfl rfl (by omega)) rfl rfl ?_
    refine SD.take rfl panicBody (op_move rfl) rfl rfl ?_
    refine SD.take rfl panicBody (op_fieldAddr fa45_0 rfl) rfl rfl ?_
    refine SD.take rfl panicBody (op_load ty3 rfl (by repeat constructor) rfl) rfl rfl ?_
    refine SD.take rfl panicBody (op_gtrF rfl rfl (by omega)) rfl rfl ?_
    refine SD.take rfl panicBody (op_pickF rfl rfl) rfl rfl ?_
    refine SD.take rfl panicBody (op_move rfl) rfl rfl ?_
    refine SD.take rfl panicBody (op_fieldAddr fa45_3 rfl) rfl rfl ?_
    refine SD.take rfl panicBody (op_load ty43 rfl (by repeat constructor) rfl) rfl rfl ?_
    refine SD.take rfl panicBody (op_lenS Tryz.underlying43 rfl) rfl rfl ?_
    refine SD.take rfl panicBody (op_fieldAddr fa45_0 rfl) rfl rfl ?_
    refine SD.take rfl panicBody (op_load ty3 rfl (by repeat constructor) rfl) rfl rfl ?_
    refine SD.run rfl (op_callF en112 (vs := [_]) rfl (rargN_spec)) rfl rfl ?_
    rintro _ _ X1 ⟨rfl, hX1, rfl⟩
    refine SD.take rfl panicBody (op_neqF rfl rfl (by omega)) rfl rfl ?_
    refine SD.take rfl panicBody (op_pickF rfl rfl) rfl rfl ?_
    refine SD.nil ?_
    show SL _ _ _ _ _ _ _ [] _ _ _
    refine SL.nil <| T.condF rfl <| T.skip <| T.seq <| T.region <| SL.v (op_assign (v := .int .i64 ((0 : Nat) : Int)) rfl) <| SL.v (op_assign (v := .int .i64 ((0 : Nat) : Int)) rfl) <| SL.nil <| T.seq <| T.seq <| T.region <| SL.v (op_fieldAddr fa45_0 rfl) <| SL.v (op_load ty3 rfl (by repeat constructor) rfl) ?_
    refine SL.v (op_eqlF rfl rfl (by omega)) ?_
    refine SL.mv rfl <| SL.v (op_fieldAddr fa45_0 rfl) <| SL.v (op_load ty3 rfl (by repeat constructor) rfl) ?_
    refine SL.v (op_eqlF rfl rfl (by omega)) ?_
    refine SL.v (op_pickF rfl rfl) <| SL.nil <| T.condF rfl <| T.skip <| T.seq <| T.seq <| T.region <| SL.v (op_fieldAddr fa45_0 rfl) <| SL.v (op_load ty3 rfl (by repeat constructor) rfl) ?_
    refine SL.v (op_eqlT rfl rfl (by omega)) ?_
    refine SL.nil <| T.condT rfl <| T.region <| SL.v (op_assign (v := .int .i64 ((1 : Nat) : Int)) rfl) <| SL.v (op_assign (v := .int .i64 ((8 : Nat) : Int)) rfl) <| SL.nil <| T.seq <| T.seq <| T.region <| SL.v (op_fieldAddr fa45_0 rfl) <| SL.v (op_load ty3 rfl (by repeat constructor) rfl) ?_
    refine SL.v (op_neqT rfl rfl (by omega)) ?_
    refine SL.mv rfl <| SL.v (op_fieldAddr fa45_1 rfl) <| SL.v (op_load ty3 rfl (by repeat constructor) rfl) ?_
    refine SL.v (op_neqF rfl rfl (by omega)) ?_
    refine SL.v (op_pickT rfl rfl) <| SL.mv rfl <| SL.v (op_fieldAddr fa45_2 rfl) <| SL.v (op_load ty37 rfl (by repeat constructor) rfl) ?_
    refine SL.v (op_lenS Tryz.underlying37 rfl) <| SL.mv rfl <| SL.v (op_lssF rfl rfl (by omega)) ?_
    refine SL.v (op_pickF rfl rfl) <| SL.mv rfl <| SL.v (op_fieldAddr fa45_2 rfl) <| SL.v (op_load ty37 rfl (by repeat constructor) rfl) ?_
    refine SL.v (op_lenS Tryz.underlying37 rfl) <| SL.mv rfl <| SL.v (op_gtrF rfl rfl (by omega)) ?_
    refine SL.v (op_pickF rfl rfl) <| SL.nil <| T.condF rfl <| T.skip <| T.seq <| T.seq <| T.region <| SL.v (op_fieldAddr fa45_2 rfl) <| SL.v (op_load ty37 rfl (by repeat constructor) rfl) ?_
    refine SL.v (op_lenS Tryz.underlying37 rfl) <| SL.v (op_move (v := .int .i64 ((0 : Nat) : Int)) rfl) <| SL.nil <| T.block <| T.loopW (fun m env own X' => ∃ i : Nat, m = ns.length - i ∧ i ≤ ns.length ∧ X1.le X' ∧ (∀ q x, q < i → ns[q]? = some x → validS x) ∧ env = [(1, .pointer (some ⟨B1, 0, none⟩)), (60, .slice An ns.length cn), (61, .int .i64 (ns.length : Int)), (62, .int .i64 (i : Int))] ∧ own = [⟨B1, [.int .i64 (op : Int), .int .i64 n, .slice An ns.length cn, .slice Aa k ca], 45, 4⟩]) ns.length ⟨0, by simp, by omega, PMap.le_refl _, fun q x hq => absurd hq (by omega), rfl, rfl⟩ (by repeat (first | exact Sub.nil | refine Sub.cons rfl ?_)) ?_
    rintro m _ _ X2 ⟨i, rfl, hi, hX2, hne, rfl, rfl⟩
    rcases Nat.lt_or_ge i ns.length with hil | hil
    · obtain ⟨x, hx⟩ : ∃ x, ns[i]? = some x := ⟨_, List.getElem?_eq_getElem hil⟩
      obtain ⟨b, pre, rfl, hB⟩ := hn.blk (by omega)
      refine T.seq <| T.region <| SL.v (op_lssT rfl rfl (by omega)) ?_
      refine SL.nil <| T.seq <| T.condT rfl <| T.skip <| T.seq <| T.block <| T.seq <| T.region <| SL.v (op_indexN Tryz.underlying37 ty9 rfl rfl (by omega)) ?_
      refine SL.v (op_loadX ty9 rfl ((hB.mono hX1).mono hX2) (str_read hx (by omega))) ?_
      refine SL.as rfl <| SL.nil <| T.seq <| T.region <| SL.mv rfl <| SL.w (op_callF en124 (vs := [_]) rfl (rvalid_spec)) ?_
      rintro _ _ X3 ⟨rfl, hX3, rfl⟩
      by_cases hc : validS x
      · rw [decide_eq_true hc]
        refine SL.v (op_not rfl) <| SL.nil <| T.condF rfl <| T.skip <| T.blk <| T.region <| SL.v (op_addN (q := 1) rfl rfl (by omega)) ?_
        refine SL.mv rfl <| SL.nil ?_
        have hne2 : ∀ (q : Nat) (y : ByteArray), q < i + 1 → ns[q]? = some y → validS y := fun q y hq hy => by
          rcases Nat.lt_or_ge q i with h1 | h1
          · exact hne q y h1 hy
          · obtain rfl : q = i := by omega
            rw [hx] at hy; cases hy; exact hc
        exact T.backW (ns.length - (i + 1)) (by omega) ⟨i + 1, rfl, by omega, hX2.trans' hX3, hne2, rfl, rfl⟩ (by repeat (first | exact Sub.nil | refine Sub.cons rfl ?_))
      · rw [decide_eq_false hc]
        refine SL.v (op_not rfl) <| SL.nil <| T.condT rfl <| T.seq <| T.region <| SL.v (op_assign (v := .int .i64 ((9 : Nat) : Int)) rfl) <| SL.nil <| T.ret1 rfl (ResIs.tmp rfl) ?_
        rw [own9 hA1 hA2 fun h => hc (h x (List.mem_of_getElem? hx))]; rfl
    · have hv : ∀ s ∈ ns, validS s := fun s hs => by
        obtain ⟨q, hq⟩ := List.mem_iff_getElem?.1 hs
        have h1 := (List.getElem?_eq_some_iff.1 hq).1
        exact hne q s (by omega) hq
      refine T.seq <| T.region <| SL.v (op_lssF rfl rfl (by omega)) ?_
      refine SL.nil <| T.seq <| T.condF rfl ?_
      refine T.exit (T.exitCode (T.exitCut (T.exitBlk ?_)))
      refine T.seq <| T.seq <| T.region <| SL.v (op_fieldAddr fa45_2 rfl) <| SL.v (op_load ty37 rfl (by repeat constructor) rfl) ?_
      refine SL.v (op_lenS Tryz.underlying37 rfl) <| SL.v (op_move (v := .int .i64 ((0 : Nat) : Int)) rfl) <| SL.nil <| T.block <| T.loopW (fun m env own X' => ∃ i : Nat, m = ns.length - i ∧ i ≤ ns.length ∧ X2.le X' ∧ (ns.take i).Nodup ∧ env = [(1, .pointer (some ⟨B1, 0, none⟩)), (71, .slice An ns.length cn), (72, .int .i64 (ns.length : Int)), (73, .int .i64 (i : Int))] ∧ own = [⟨B1, [.int .i64 (op : Int), .int .i64 n, .slice An ns.length cn, .slice Aa k ca], 45, 4⟩]) ns.length ⟨0, by simp, by omega, PMap.le_refl _, by simp, rfl, rfl⟩ (by repeat (first | exact Sub.nil | refine Sub.cons rfl ?_)) ?_
      rintro m _ _ X4 ⟨j, rfl, hj, hX4, hnd, rfl, rfl⟩
      rcases Nat.lt_or_ge j ns.length with hjl | hjl
      · obtain ⟨x, hx⟩ : ∃ x, ns[j]? = some x := ⟨_, List.getElem?_eq_getElem hjl⟩
        have htk := hn.take (sz := 1) (k := j) (by omega)
        obtain ⟨b, pre, rfl, hB⟩ := hn.blk (by omega)
        have hX14 := hX1.trans' (hX2.trans' hX4)
        refine T.seq <| T.region <| SL.v (op_lssT rfl rfl (by omega)) ?_
        refine SL.nil <| T.seq <| T.condT rfl <| T.skip <| T.seq <| T.block <| T.seq <| T.region <| SL.mv rfl <| SL.v (op_indexN Tryz.underlying37 ty9 rfl rfl (by omega)) ?_
        refine SL.v (op_loadX ty9 rfl (hB.mono hX14) (str_read hx (by omega))) ?_
        refine SL.as rfl <| SL.as rfl <| SL.nil <| T.seq <| T.region <| SL.v (op_fieldAddr fa45_2 rfl) <| SL.v (op_load ty37 rfl (by repeat constructor) rfl) ?_
        refine SL.mv rfl <| SL.v (op_sliceHi (l := j) Tryz.underlying37 ty9 rfl rfl (by omega)) ?_
        refine SL.mv rfl ?_
        have hcall := number_spec8 (s := x) (htk.mono hX14) (by rw [List.length_take]; omega)
        refine SL.w (op_callF en125 (vs := [_, _]) rfl (hcall)) ?_
        rintro _ _ X5 ⟨rfl, hX5, z, rfl, hz1, hz2⟩
        by_cases hc : x ∈ ns.take j
        · have hz := hz1.2 hc
          refine SL.v (op_gtrT rfl rfl (by omega)) ?_
          refine SL.nil <| T.condT rfl <| T.seq <| T.region <| SL.v (op_assign (v := .int .i64 ((5 : Nat) : Int)) rfl) <| SL.nil <| T.ret1 rfl (ResIs.tmp rfl) ?_
          rw [own5 hA1 hA2 hv fun h => by
            have h2 := h.sublist (List.take_sublist (j + 1) ns)
            rw [take_snoc hx, List.nodup_append] at h2
            exact h2.2.2 x hc x (by simp) rfl]; rfl
        · have hz : ¬0 < z := fun h => hc (hz1.1 h)
          refine SL.v (op_gtrF rfl rfl (by omega)) ?_
          refine SL.nil <| T.condF rfl <| T.skip <| T.blk <| T.region <| SL.v (op_addN (q := 1) rfl rfl (by omega)) ?_
          refine SL.mv rfl <| SL.nil ?_
          have hnd2 : (ns.take (j + 1)).Nodup := by
            rw [take_snoc hx, List.nodup_append]
            exact ⟨hnd, by simp, fun a ha b hb => by
              obtain rfl := List.mem_singleton.1 hb
              exact fun h => hc (h ▸ ha)⟩
          exact T.backW (ns.length - (j + 1)) (by omega) ⟨j + 1, rfl, by omega, hX4.trans' hX5, hnd2, rfl, rfl⟩ (by repeat (first | exact Sub.nil | refine Sub.cons rfl ?_))
      · rw [List.take_of_length_le (by omega)] at hnd
        refine T.seq <| T.region <| SL.v (op_lssF rfl rfl (by omega)) ?_
        refine SL.nil <| T.seq <| T.condF rfl ?_
        refine T.exit (T.exitCode (T.exitCut (T.exitBlk ?_)))
        refine T.seq <| T.seq <| T.region <| SL.v (op_fieldAddr fa45_1 rfl) <| SL.v (op_load ty3 rfl (by repeat constructor) rfl) ?_
        refine SL.v (op_lssF rfl rfl (by omega)) ?_
        refine SL.mv rfl <| SL.v (op_fieldAddr fa45_1 rfl) <| SL.v (op_load ty3 rfl (by repeat constructor) rfl) ?_
        refine SL.v (op_gtrF rfl rfl (by omega)) ?_
        refine SL.v (op_pickF rfl rfl) <| SL.nil <| T.condF rfl <| T.skip <| T.seq <| T.region <| SL.v (op_assign (v := .int .i64 ((0 : Nat) : Int)) rfl) <| SL.nil <| T.ret1 rfl (ResIs.tmp rfl) ?_
        rw [own0' hA1 hA2 hv hnd (by omega)]; rfl
  by_cases hl0 : 0 < ns.length
  · have hnm : ¬namN op ns.length := by
      have hq : ∀ q : Nat, 0 < q → ¬namN op q := fun q hq h => by simp [namN, h4, h5, h6] at h; omega
      exact hq _ (by omega)
    refine Spec.enter Tryz.func119 rfl Tryz.ntmps119 rfl ?_
    intro w0 hw0
    refine T.seq <| T.region <| SL.w (op_box rfl) ?_
    rintro _ _ _ ⟨B1, rfl, rfl, rfl⟩
    refine SL.v (op_assign (v := .int .i64 ((0 : Nat) : Int)) rfl) <| SL.nil <| T.seq <| T.seq <| T.draw (by kernel_rfl) 17 [.t 0, .t 1, .t 2, .t 3, .t 4, .t 5, .t 6, .t 7, .t 8, .t 9, .t 10, .t 11, .t 12, .t 13, .r 14, .t 15, .t 16] (by kernel_rfl) ?_
    refine SD.take rfl panicBody (op_fieldAddr fa45_0 rfl) rfl rfl ?_
    refine SD.take rfl panicBody (op_load ty3 rfl (by repeat constructor) rfl) rfl rfl ?_
    refine SD.take rfl panicBody (op_lssF rfl rfl (by omega)) rfl rfl ?_
    refine SD.take rfl panicBody (op_move rfl) rfl rfl ?_
    refine SD.take rfl panicBody (op_fieldAddr fa45_0 rfl) rfl rfl ?_
    refine SD.take rfl panicBody (op_load ty3 rfl (by repeat constructor) rfl) rfl rfl ?_
    refine SD.take rfl panicBody (op_gtrF rfl rfl (by omega)) rfl rfl ?_
    refine SD.take rfl panicBody (op_pickF rfl rfl) rfl rfl ?_
    refine SD.take rfl panicBody (op_move rfl) rfl rfl ?_
    refine SD.take rfl panicBody (op_fieldAddr fa45_3 rfl) rfl rfl ?_
    refine SD.take rfl panicBody (op_load ty43 rfl (by repeat constructor) rfl) rfl rfl ?_
    refine SD.take rfl panicBody (op_lenS Tryz.underlying43 rfl) rfl rfl ?_
    refine SD.take rfl panicBody (op_fieldAddr fa45_0 rfl) rfl rfl ?_
    refine SD.take rfl panicBody (op_load ty3 rfl (by repeat constructor) rfl) rfl rfl ?_
    refine SD.run rfl (op_callF en112 (vs := [_]) rfl (rargN_spec)) rfl rfl ?_
    rintro _ _ X1 ⟨rfl, hX1, rfl⟩
    refine SD.take rfl panicBody (op_neqF rfl rfl (by omega)) rfl rfl ?_
    refine SD.take rfl panicBody (op_pickF rfl rfl) rfl rfl ?_
    refine SD.nil ?_
    show SL _ _ _ _ _ _ _ [] _ _ _
    refine SL.nil <| T.condF rfl <| T.skip <| T.seq <| T.region <| SL.v (op_assign (v := .int .i64 ((0 : Nat) : Int)) rfl) <| SL.v (op_assign (v := .int .i64 ((0 : Nat) : Int)) rfl) <| SL.nil <| T.seq <| T.seq <| T.region <| SL.v (op_fieldAddr fa45_0 rfl) <| SL.v (op_load ty3 rfl (by repeat constructor) rfl) ?_
    refine SL.v (op_eqlF rfl rfl (by omega)) ?_
    refine SL.mv rfl <| SL.v (op_fieldAddr fa45_0 rfl) <| SL.v (op_load ty3 rfl (by repeat constructor) rfl) ?_
    refine SL.v (op_eqlF rfl rfl (by omega)) ?_
    refine SL.v (op_pickF rfl rfl) <| SL.nil <| T.condF rfl <| T.skip <| T.seq <| T.seq <| T.region <| SL.v (op_fieldAddr fa45_0 rfl) <| SL.v (op_load ty3 rfl (by repeat constructor) rfl) ?_
    refine SL.v (op_eqlF rfl rfl (by omega)) ?_
    refine SL.nil <| T.condF rfl <| T.skip <| T.seq <| T.seq <| T.region <| SL.v (op_fieldAddr fa45_0 rfl) <| SL.v (op_load ty3 rfl (by repeat constructor) rfl) ?_
    refine SL.v (op_neqT rfl rfl (by omega)) ?_
    refine SL.mv rfl <| SL.v (op_fieldAddr fa45_1 rfl) <| SL.v (op_load ty3 rfl (by repeat constructor) rfl) ?_
    refine SL.v (op_neqF rfl rfl (by omega)) ?_
    refine SL.v (op_pickT rfl rfl) <| SL.mv rfl <| SL.v (op_fieldAddr fa45_2 rfl) <| SL.v (op_load ty37 rfl (by repeat constructor) rfl) ?_
    refine SL.v (op_lenS Tryz.underlying37 rfl) <| SL.mv rfl <| SL.v (op_lssF rfl rfl (by omega)) ?_
    refine SL.v (op_pickF rfl rfl) <| SL.mv rfl <| SL.v (op_fieldAddr fa45_2 rfl) <| SL.v (op_load ty37 rfl (by repeat constructor) rfl) ?_
    refine SL.v (op_lenS Tryz.underlying37 rfl) <| SL.mv rfl <| SL.v (op_gtrT rfl rfl (by omega)) ?_
    refine SL.v (op_pickF rfl rfl) <| SL.nil <| T.condT rfl <| T.seq <| T.region <| SL.v (op_assign (v := .int .i64 ((6 : Nat) : Int)) rfl) <| SL.nil <| T.ret1 rfl (ResIs.tmp rfl) ?_
    rw [own6 hA1 (.inr hnm)]; rfl

  have hnm : namN op ns.length := by
    have hq : ∀ q : Nat, 0 ≤ q ∧ q ≤ 0 → namN op q := fun q hq => by simp [namN, h4, h5, h6]; omega
    exact hq _ (by omega)
  have hA2 : ¬((n ≠ 0 ∧ op ≠ 1) ∨ ¬namN op ns.length) := fun h => h.elim (fun h => hNN h) (fun h => h hnm)
  refine Spec.enter Tryz.func119 rfl Tryz.ntmps119 rfl ?_
  intro w0 hw0
  refine T.seq <| T.region <| SL.w (op_box rfl) ?_
  rintro _ _ _ ⟨B1, rfl, rfl, rfl⟩
  refine SL.v (op_assign (v := .int .i64 ((0 : Nat) : Int)) rfl) <| SL.nil <| T.seq <| T.seq <| T.draw (by kernel_rfl) 17 [.t 0, .t 1, .t 2, .t 3, .t 4, .t 5, .t 6, .t 7, .t 8, .t 9, .t 10, .t 11, .t 12, .t 13, .r 14, .t 15, .t 16] (by kernel_rfl) ?_
  refine SD.take rfl panicBody (op_fieldAddr fa45_0 rfl) rfl rfl ?_
  refine SD.take rfl panicBody (op_load ty3 rfl (by repeat constructor) rfl) rfl rfl ?_
  refine SD.take rfl panicBody (op_lssF rfl rfl (by omega)) rfl rfl ?_
  refine SD.take rfl panicBody (op_move rfl) rfl rfl ?_
  refine SD.take rfl panicBody (op_fieldAddr fa45_0 rfl) rfl rfl ?_
  refine SD.take rfl panicBody (op_load ty3 rfl (by repeat constructor) rfl) rfl rfl ?_
  refine SD.take rfl panicBody (op_gtrF rfl rfl (by omega)) rfl rfl ?_
  refine SD.take rfl panicBody (op_pickF rfl rfl) rfl rfl ?_
  refine SD.take rfl panicBody (op_move rfl) rfl rfl ?_
  refine SD.take rfl panicBody (op_fieldAddr fa45_3 rfl) rfl rfl ?_
  refine SD.take rfl panicBody (op_load ty43 rfl (by repeat constructor) rfl) rfl rfl ?_
  refine SD.take rfl panicBody (op_lenS Tryz.underlying43 rfl) rfl rfl ?_
  refine SD.take rfl panicBody (op_fieldAddr fa45_0 rfl) rfl rfl ?_
  refine SD.take rfl panicBody (op_load ty3 rfl (by repeat constructor) rfl) rfl rfl ?_
  refine SD.run rfl (op_callF en112 (vs := [_]) rfl (rargN_spec)) rfl rfl ?_
  rintro _ _ X1 ⟨rfl, hX1, rfl⟩
  refine SD.take rfl panicBody (op_neqF rfl rfl (by omega)) rfl rfl ?_
  refine SD.take rfl panicBody (op_pickF rfl rfl) rfl rfl ?_
  refine SD.nil ?_
  show SL _ _ _ _ _ _ _ [] _ _ _
  refine SL.nil <| T.condF rfl <| T.skip <| T.seq <| T.region <| SL.v (op_assign (v := .int .i64 ((0 : Nat) : Int)) rfl) <| SL.v (op_assign (v := .int .i64 ((0 : Nat) : Int)) rfl) <| SL.nil <| T.seq <| T.seq <| T.region <| SL.v (op_fieldAddr fa45_0 rfl) <| SL.v (op_load ty3 rfl (by repeat constructor) rfl) ?_
  refine SL.v (op_eqlF rfl rfl (by omega)) ?_
  refine SL.mv rfl <| SL.v (op_fieldAddr fa45_0 rfl) <| SL.v (op_load ty3 rfl (by repeat constructor) rfl) ?_
  refine SL.v (op_eqlF rfl rfl (by omega)) ?_
  refine SL.v (op_pickF rfl rfl) <| SL.nil <| T.condF rfl <| T.skip <| T.seq <| T.seq <| T.region <| SL.v (op_fieldAddr fa45_0 rfl) <| SL.v (op_load ty3 rfl (by repeat constructor) rfl) ?_
  refine SL.v (op_eqlF rfl rfl (by omega)) ?_
  refine SL.nil <| T.condF rfl <| T.skip <| T.seq <| T.seq <| T.region <| SL.v (op_fieldAddr fa45_0 rfl) <| SL.v (op_load ty3 rfl (by repeat constructor) rfl) ?_
  refine SL.v (op_neqT rfl rfl (by omega)) ?_
  refine SL.mv rfl <| SL.v (op_fieldAddr fa45_1 rfl) <| SL.v (op_load ty3 rfl (by repeat constructor) rfl) ?_
  refine SL.v (op_neqF rfl rfl (by omega)) ?_
  refine SL.v (op_pickT rfl rfl) <| SL.mv rfl <| SL.v (op_fieldAddr fa45_2 rfl) <| SL.v (op_load ty37 rfl (by repeat constructor) rfl) ?_
  refine SL.v (op_lenS Tryz.underlying37 rfl) <| SL.mv rfl <| SL.v (op_lssF rfl rfl (by omega)) ?_
  refine SL.v (op_pickF rfl rfl) <| SL.mv rfl <| SL.v (op_fieldAddr fa45_2 rfl) <| SL.v (op_load ty37 rfl (by repeat constructor) rfl) ?_
  refine SL.v (op_lenS Tryz.underlying37 rfl) <| SL.mv rfl <| SL.v (op_gtrF rfl rfl (by omega)) ?_
  refine SL.v (op_pickF rfl rfl) <| SL.nil <| T.condF rfl <| T.skip <| T.seq <| T.seq <| T.region <| SL.v (op_fieldAddr fa45_2 rfl) <| SL.v (op_load ty37 rfl (by repeat constructor) rfl) ?_
  refine SL.v (op_lenS Tryz.underlying37 rfl) <| SL.v (op_move (v := .int .i64 ((0 : Nat) : Int)) rfl) <| SL.nil <| T.block <| T.loopW (fun m env own X' => ∃ i : Nat, m = ns.length - i ∧ i ≤ ns.length ∧ X1.le X' ∧ (∀ q x, q < i → ns[q]? = some x → validS x) ∧ env = [(1, .pointer (some ⟨B1, 0, none⟩)), (60, .slice An ns.length cn), (61, .int .i64 (ns.length : Int)), (62, .int .i64 (i : Int))] ∧ own = [⟨B1, [.int .i64 (op : Int), .int .i64 n, .slice An ns.length cn, .slice Aa k ca], 45, 4⟩]) ns.length ⟨0, by simp, by omega, PMap.le_refl _, fun q x hq => absurd hq (by omega), rfl, rfl⟩ (by repeat (first | exact Sub.nil | refine Sub.cons rfl ?_)) ?_
  rintro m _ _ X2 ⟨i, rfl, hi, hX2, hne, rfl, rfl⟩
  have hil : ns.length ≤ i := by omega
  have hv : ∀ s ∈ ns, validS s := fun s hs => by
    obtain ⟨q, hq⟩ := List.mem_iff_getElem?.1 hs
    have h1 := (List.getElem?_eq_some_iff.1 hq).1
    exact hne q s (by omega) hq
  refine T.seq <| T.region <| SL.v (op_lssF rfl rfl (by omega)) ?_
  refine SL.nil <| T.seq <| T.condF rfl ?_
  refine T.exit (T.exitCode (T.exitCut (T.exitBlk ?_)))
  refine T.seq <| T.seq <| T.region <| SL.v (op_fieldAddr fa45_2 rfl) <| SL.v (op_load ty37 rfl (by repeat constructor) rfl) ?_
  refine SL.v (op_lenS Tryz.underlying37 rfl) <| SL.v (op_move (v := .int .i64 ((0 : Nat) : Int)) rfl) <| SL.nil <| T.block <| T.loopW (fun m env own X' => ∃ i : Nat, m = ns.length - i ∧ i ≤ ns.length ∧ X2.le X' ∧ (ns.take i).Nodup ∧ env = [(1, .pointer (some ⟨B1, 0, none⟩)), (71, .slice An ns.length cn), (72, .int .i64 (ns.length : Int)), (73, .int .i64 (i : Int))] ∧ own = [⟨B1, [.int .i64 (op : Int), .int .i64 n, .slice An ns.length cn, .slice Aa k ca], 45, 4⟩]) ns.length ⟨0, by simp, by omega, PMap.le_refl _, by simp, rfl, rfl⟩ (by repeat (first | exact Sub.nil | refine Sub.cons rfl ?_)) ?_
  rintro m _ _ X4 ⟨j, rfl, hj, hX4, hnd, rfl, rfl⟩
  have hjl : ns.length ≤ j := by omega
  rw [List.take_of_length_le (by omega)] at hnd
  refine T.seq <| T.region <| SL.v (op_lssF rfl rfl (by omega)) ?_
  refine SL.nil <| T.seq <| T.condF rfl ?_
  refine T.exit (T.exitCode (T.exitCut (T.exitBlk ?_)))
  refine T.seq <| T.seq <| T.region <| SL.v (op_fieldAddr fa45_1 rfl) <| SL.v (op_load ty3 rfl (by repeat constructor) rfl) ?_
  refine SL.v (op_lssF rfl rfl (by omega)) ?_
  refine SL.mv rfl <| SL.v (op_fieldAddr fa45_1 rfl) <| SL.v (op_load ty3 rfl (by repeat constructor) rfl) ?_
  refine SL.v (op_gtrF rfl rfl (by omega)) ?_
  refine SL.v (op_pickF rfl rfl) <| SL.nil <| T.condF rfl <| T.skip <| T.seq <| T.region <| SL.v (op_assign (v := .int .i64 ((0 : Nat) : Int)) rfl) <| SL.nil <| T.ret1 rfl (ResIs.tmp rfl) ?_
  rw [own0' hA1 hA2 hv hnd (by omega)]; rfl
theorem inside_spec (N : Nat) : ∀ {X : PMap} {e : Ex} {r : Row4}, wtE e ≤ N → N < 100000000 → ExR .i64 X e r → Spec Tryz.prog 61 [.agg #[r.1, r.2.1, r.2.2.1, r.2.2.2]] X fun u _ => u = .int .i64 (nodeE e) := by
  induction N with
  | zero => intro X e r h; cases e; rw [wtE] at h; omega
  | succ N ih =>
    intro X e r hN hB h
    cases h with
    | @mk op n ns al vn va rows hn ha hl hr =>
    obtain ⟨Aa, ca, rfl⟩ := ha.form
    obtain ⟨An, cn, rfl⟩ := hn.form
    have hlen := wtL_len al
    have hnl := wtS_len ns
    rw [wtE] at hN
    refine Spec.enter Tryz.func61 rfl Tryz.ntmps61 rfl ?_
    intro w0 hw0
    refine T.seq <| T.region <| SL.w (op_box rfl) ?_
    rintro _ _ _ ⟨B1, rfl, rfl, rfl⟩
    refine SL.v (op_assign (v := .int .i64 ((0 : Nat) : Int)) rfl) <| SL.nil <| T.seq <| T.region <| SL.v (op_load ty45 rfl (by repeat constructor) rfl) ?_
    have hcall := rnode_spec (op := op) (n := n) (k := rows.length) (ca := ca) (Aa := Aa) (by omega) (by omega) hn
    refine SL.w (op_callF en119 (vs := [_]) rfl (hcall)) ?_
    rintro _ _ X1 ⟨rfl, hX1, rfl⟩
    rw [show ownE op n ns rows.length = ownE op n ns al.length by rw [hl]]
    by_cases hown : ownE op n ns al.length = 0
    case neg =>
      refine SL.as rfl <| SL.nil <| T.seq <| T.seq <| T.region <| SL.mv rfl <| SL.v (op_neqT rfl rfl (by omega)) ?_
      refine SL.nil <| T.condT rfl <| T.seq <| T.region <| SL.mv rfl <| SL.as rfl <| SL.nil <| T.ret1 rfl (ResIs.tmp rfl) ?_
      rw [node_own hown]
    rw [hown]
    refine SL.as rfl <| SL.nil <| T.seq <| T.seq <| T.region <| SL.mv rfl <| SL.v (op_neqF rfl rfl (by omega)) ?_
    refine SL.nil <| T.condF rfl <| T.skip <| T.seq <| T.seq <| T.region <| SL.v (op_fieldAddr fa45_3 rfl) <| SL.v (op_load ty43 rfl (by repeat constructor) rfl) ?_
    refine SL.v (op_lenS Tryz.underlying43 rfl) <| SL.v (op_move (v := .int .i64 ((0 : Nat) : Int)) rfl) <| SL.nil <| T.block <| T.drop B1 (by repeat constructor) ?_
    refine T.loopW (fun m env own X' => ∃ i : Nat, m = rows.length - i ∧ i ≤ rows.length ∧ X1.le X' ∧ nodeL (al.take i) = 0 ∧ env = [(12, .slice Aa rows.length ca), (13, .int .i64 (rows.length : Int)), (14, .int .i64 (i : Int))] ∧ own = []) rows.length ⟨0, by simp, by omega, PMap.le_refl _, by simp [nodeL], rfl, rfl⟩ (by repeat (first | exact Sub.nil | refine Sub.cons rfl ?_)) ?_
    rintro m _ _ X5 ⟨i, rfl, hi, hX5, hz0, rfl, rfl⟩
    rcases Nat.lt_or_ge i rows.length with hil | hil
    · obtain ⟨r2, hr2⟩ : ∃ r2, rows[i]? = some r2 := ⟨_, List.getElem?_eq_getElem hil⟩
      obtain ⟨a, ha2⟩ : ∃ a, al[i]? = some a := ⟨_, List.getElem?_eq_getElem (by omega)⟩
      have hra := hr i a r2 ha2 hr2
      obtain ⟨bA, pre, rfl, hbA⟩ := ha.blk (by omega)
      obtain ⟨_, _, _, _, _, _, _, _, rfl⟩ := hra.form
      have hwa := wtL_mem (List.mem_of_getElem? ha2)
      refine T.seq <| T.region <| SL.v (op_lssT rfl rfl (by omega)) ?_
      refine SL.nil <| T.seq <| T.condT rfl <| T.skip <| T.seq <| T.block <| T.seq <| T.region <| SL.v (op_indexN Tryz.underlying43 ty45 rfl rfl (by omega)) ?_
      refine SL.v (op_loadX ty45 rfl ((hbA.mono hX1).mono hX5) (row_read rc4_len hr2 (by omega))) ?_
      refine SL.w (op_alloc z45) ?_
      rintro _ _ _ ⟨B5, rfl, rfl, rfl⟩
      refine SL.w (op_store ty45 rfl rfl (by repeat constructor) rfl rfl rfl) ?_
      rintro _ _ _ ⟨rfl, rfl⟩
      refine SL.nil <| T.seq <| T.region <| SL.v (op_load ty45 rfl (by repeat constructor) rfl) ?_
      refine SL.w (op_callF en61 (vs := [_]) rfl (ih (by omega) (by omega) ((hra.mono hX1).mono hX5))) ?_
      rintro _ _ X6 ⟨rfl, hX6, rfl⟩
      by_cases hz : nodeE a = 0
      · skip
        refine SL.as rfl <| SL.nil <| T.seq <| T.region <| SL.mv rfl <| SL.v (op_neqF rfl rfl (by omega)) ?_
        refine SL.nil <| T.condF rfl <| T.skip <| T.blk <| T.region <| SL.v (op_addN (q := 1) rfl rfl (by omega)) ?_
        refine SL.mv rfl <| SL.nil <| T.drop B5 (by repeat constructor) ?_
        exact T.backW (rows.length - (i + 1)) (by omega) ⟨i + 1, rfl, by omega, hX5.trans' hX6, nodeL_snoc hz0 ha2 hz, rfl, rfl⟩ (by repeat (first | exact Sub.nil | refine Sub.cons rfl ?_))
      · refine SL.as rfl <| SL.nil <| T.seq <| T.region <| SL.mv rfl <| SL.v (op_neqT rfl rfl (by omega)) ?_
        refine SL.nil <| T.condT rfl <| T.seq <| T.region <| SL.mv rfl <| SL.as rfl <| SL.nil <| T.ret1 rfl (ResIs.tmp rfl) ?_
        rw [node_args hown, nodeL_at hz0 ha2 hz]
    · obtain rfl : i = rows.length := by omega
      rw [show al.take rows.length = al from List.take_of_length_le (by omega)] at hz0
      refine T.seq <| T.region <| SL.v (op_lssF rfl rfl (by omega)) ?_
      refine SL.nil <| T.seq <| T.condF rfl ?_
      refine T.exit (T.exitCode (T.exitCut (T.exitBlk ?_)))
      refine T.seq <| T.region <| SL.v (op_assign (v := .int .i64 ((0 : Nat) : Int)) rfl) <| SL.nil <| T.ret1 rfl (ResIs.tmp rfl) ?_
      rw [node_args hown, hz0]; rfl
theorem rchk_spec {X : PMap} {e : Ex} {r : Row4} (hw : wtE e < 100000000) (h : ExR .i64 X e r) : Spec Tryz.prog 28 [.agg #[r.1, r.2.1, r.2.2.1, r.2.2.2]] X fun u _ => u = .int .i64 (chkE e) := by
  obtain ⟨_, _, _, _, _, _, _, _, rfl⟩ := h.form
  have hd := dep_wt e
  have hs := siz_wt e
  by_cases h1 : 10 < depE e
  · refine Spec.enter Tryz.func28 rfl Tryz.ntmps28 rfl ?_
    intro w0 hw0
    refine T.seq <| T.region <| SL.w (op_box rfl) ?_
    rintro _ _ _ ⟨B1, rfl, rfl, rfl⟩
    refine SL.v (op_assign (v := .int .i64 ((0 : Nat) : Int)) rfl) <| SL.nil <| T.seq <| T.seq <| T.region <| SL.v (op_load ty45 rfl (by repeat constructor) rfl) ?_
    refine SL.w (op_callF en59 (vs := [_]) rfl (rdepth_spec _ (Nat.le_refl _) (by omega) h)) ?_
    rintro _ _ X1 ⟨rfl, hX1, rfl⟩
    refine SL.v (op_gtrT rfl rfl (by omega)) ?_
    refine SL.mv rfl <| SL.skip rfl rfl ?_
    refine SL.skip rfl rfl ?_
    refine SL.skip rfl rfl ?_
    refine SL.v (op_pickT rfl rfl) <| SL.nil <| T.condT rfl <| T.seq <| T.region <| SL.v (op_assign (v := .int .i64 ((3 : Nat) : Int)) rfl) <| SL.nil <| T.ret1 rfl (ResIs.tmp rfl) ?_
    rw [chkE, if_pos (.inl h1)]; rfl
  · by_cases h2 : 200 < sizE e
    · refine Spec.enter Tryz.func28 rfl Tryz.ntmps28 rfl ?_
      intro w0 hw0
      refine T.seq <| T.region <| SL.w (op_box rfl) ?_
      rintro _ _ _ ⟨B1, rfl, rfl, rfl⟩
      refine SL.v (op_assign (v := .int .i64 ((0 : Nat) : Int)) rfl) <| SL.nil <| T.seq <| T.seq <| T.region <| SL.v (op_load ty45 rfl (by repeat constructor) rfl) ?_
      refine SL.w (op_callF en59 (vs := [_]) rfl (rdepth_spec _ (Nat.le_refl _) (by omega) h)) ?_
      rintro _ _ X1 ⟨rfl, hX1, rfl⟩
      refine SL.v (op_gtrF rfl rfl (by omega)) ?_
      refine SL.mv rfl <| SL.v (op_load ty45 rfl (by repeat constructor) rfl) ?_
      refine SL.w (op_callF en60 (vs := [_]) rfl (rsize_spec _ (Nat.le_refl _) (by omega) (h.mono hX1))) ?_
      rintro _ _ X2 ⟨rfl, hX2, rfl⟩
      refine SL.v (op_gtrT rfl rfl (by omega)) ?_
      refine SL.v (op_pickF rfl rfl) <| SL.nil <| T.condT rfl <| T.seq <| T.region <| SL.v (op_assign (v := .int .i64 ((3 : Nat) : Int)) rfl) <| SL.nil <| T.ret1 rfl (ResIs.tmp rfl) ?_
      rw [chkE, if_pos (.inr h2)]; rfl
    · refine Spec.enter Tryz.func28 rfl Tryz.ntmps28 rfl ?_
      intro w0 hw0
      refine T.seq <| T.region <| SL.w (op_box rfl) ?_
      rintro _ _ _ ⟨B1, rfl, rfl, rfl⟩
      refine SL.v (op_assign (v := .int .i64 ((0 : Nat) : Int)) rfl) <| SL.nil <| T.seq <| T.seq <| T.region <| SL.v (op_load ty45 rfl (by repeat constructor) rfl) ?_
      refine SL.w (op_callF en59 (vs := [_]) rfl (rdepth_spec _ (Nat.le_refl _) (by omega) h)) ?_
      rintro _ _ X1 ⟨rfl, hX1, rfl⟩
      refine SL.v (op_gtrF rfl rfl (by omega)) ?_
      refine SL.mv rfl <| SL.v (op_load ty45 rfl (by repeat constructor) rfl) ?_
      refine SL.w (op_callF en60 (vs := [_]) rfl (rsize_spec _ (Nat.le_refl _) (by omega) (h.mono hX1))) ?_
      rintro _ _ X2 ⟨rfl, hX2, rfl⟩
      refine SL.v (op_gtrF rfl rfl (by omega)) ?_
      refine SL.v (op_pickF rfl rfl) <| SL.nil <| T.condF rfl <| T.skip <| T.seq <| T.region <| SL.v (op_load ty45 rfl (by repeat constructor) rfl) ?_
      refine SL.w (op_callF en61 (vs := [_]) rfl (inside_spec _ (Nat.le_refl _) (by omega) ((h.mono hX1).mono hX2))) ?_
      rintro _ _ X3 ⟨rfl, hX3, rfl⟩
      refine SL.as rfl <| SL.nil <| T.ret1 rfl (ResIs.tmp rfl) ?_
      rw [chkE, if_neg (by omega)]
end Go.Proofs.YtnabbnhefjfegaaGreatDoor
namespace Go.Proofs.YtnabbnhefjfegaaGreatDoor
section
set_option maxRecDepth 100000
theorem bs45 : ∃ i z, Tryz.prog.info? 45 = some i ∧ i.size = 4 ∧ i.zero = some z ∧ z.cells = ([.int .i64 0, .int .i64 0, .slice none 0 0, .slice none 0 0] : List Value).toArray := bs_of (by kernel_rfl)
theorem en111 : Enters Tryz.prog 111 := enters_mk Tryz.func111 (by kernel_rfl) rfl
theorem en113 : Enters Tryz.prog 113 := enters_mk Tryz.func113 (by kernel_rfl) rfl
theorem en35 : Enters Tryz.prog 35 := enters_mk Tryz.func35 (by kernel_rfl) rfl
theorem en57 : Enters Tryz.prog 57 := enters_mk Tryz.func57 (by kernel_rfl) rfl
theorem fa118_0 : FAdr Tryz.prog 118 0 0 := fadr_mk Tryz.underlying118 rfl rfl (by kernel_rfl)
theorem fa158_0 : FAdr Tryz.prog 158 0 0 := fadr_mk Tryz.underlying158 rfl rfl (by kernel_rfl)
theorem fa158_1 : FAdr Tryz.prog 158 1 1 := fadr_mk Tryz.underlying158 rfl rfl (by kernel_rfl)
theorem fa158_2 : FAdr Tryz.prog 158 2 2 := fadr_mk Tryz.underlying158 rfl rfl (by kernel_rfl)
theorem fa158_3 : FAdr Tryz.prog 158 3 3 := fadr_mk Tryz.underlying158 rfl rfl (by kernel_rfl)
theorem sl43 : SlT Tryz.prog 43 45 4 64 := ⟨Tryz.underlying43, sl_of (by kernel_rfl) (by decide)⟩
theorem z118 : Zero Tryz.prog 118 [.slice none 0 0] := ⟨zero_of (by kernel_rfl)⟩
theorem st118 : StT Tryz.prog 118 [(0, 1)] [.slice none 0 0] := ⟨⟨_, Tryz.underlying118, fun _ => by kernel_rfl, z118⟩⟩
theorem z158 : Zero Tryz.prog 158 [.int .u8 0, .int .u8 0, .int .u8 0, .int .i64 0] := ⟨zero_of (by kernel_rfl)⟩
theorem st158 : StT Tryz.prog 158 [(0, 1), (1, 1), (2, 1), (3, 1)] [.int .u8 0, .int .u8 0, .int .u8 0, .int .i64 0] := ⟨⟨_, Tryz.underlying158, fun _ => by kernel_rfl, z158⟩⟩
theorem st45 : StT Tryz.prog 45 [(0, 1), (1, 1), (2, 1), (3, 1)] [.int .i64 0, .int .i64 0, .slice none 0 0, .slice none 0 0] := ⟨⟨_, Tryz.underlying45, fun _ => by kernel_rfl, z45⟩⟩
theorem ty158 : Ty Tryz.prog 158 true 4 := ⟨⟨_, Tryz.underlying158, rfl⟩, by kernel_rfl⟩
theorem ty53 : Ty Tryz.prog 53 false 1 := ⟨⟨_, Tryz.underlying53, rfl⟩, by kernel_rfl⟩
end
open Go.RowKit
theorem word6_spec {X : PMap} {n : Nat} (hn : n < 256) : Spec Tryz.prog 113 [.int .u8 (n : Int)] X fun u _ => u = .string (word6 n) := by
  have h6 : n % 6 < 6 := Nat.mod_lt _ (by omega)
  have hw := strsC_at (word6_at n)
  refine Spec.enter Tryz.func113 rfl Tryz.ntmps113 rfl ?_
  intro w0 hw0
  refine T.seq <| T.region <| SL.as rfl <| SL.nil <| T.seq <| T.region <| SL.w (op_buildSlice Tryz.underlying37 bs9 (qs := [(0, _), (1, _), (2, _), (3, _), (4, _), (5, _)]) rfl rfl rfl rfl rfl) ?_
  rintro _ _ _ ⟨B4, rfl, rfl, rfl⟩
  refine SL.as rfl <| SL.nil <| T.seq <| T.region <| SL.mv rfl <| SL.mv rfl <| SL.v (op_convI64 Tryz.underlying5 Tryz.underlying3 rfl (by omega) (by omega)) ?_
  refine SL.mv rfl <| SL.v (op_lenS Tryz.underlying37 rfl) <| SL.v (op_remN (q := 6) rfl rfl rfl (by omega)) ?_
  refine SL.v (op_indexN Tryz.underlying37 ty9 rfl rfl (by omega)) ?_
  refine SL.v (op_load ty9 rfl (by repeat constructor) (cread1k' hw (by omega))) ?_
  refine SL.as rfl <| SL.nil <| T.ret1 rfl (ResIs.tmp rfl) ?_
  rfl
theorem word20_spec {X : PMap} {n : Nat} (hn : n < 256) : Spec Tryz.prog 35 [.int .u8 (n : Int)] X fun u _ => u = .string (word20 n) := by
  have h6 : n % 20 < 20 := Nat.mod_lt _ (by omega)
  have hw := strsC_at (word20_at n)
  refine Spec.enter Tryz.func35 rfl Tryz.ntmps35 rfl ?_
  intro w0 hw0
  refine T.seq <| T.region <| SL.as rfl <| SL.nil <| T.seq <| T.region <| SL.w (op_buildSlice Tryz.underlying37 bs9 (qs := [(0, _), (1, _), (2, _), (3, _), (4, _), (5, _), (6, _), (7, _), (8, _), (9, _), (10, _), (11, _), (12, _), (13, _), (14, _), (15, _), (16, _), (17, _), (18, _), (19, _)]) rfl rfl rfl rfl rfl) ?_
  rintro _ _ _ ⟨B4, rfl, rfl, rfl⟩
  refine SL.as rfl <| SL.nil <| T.seq <| T.region <| SL.mv rfl <| SL.mv rfl <| SL.v (op_convI64 Tryz.underlying5 Tryz.underlying3 rfl (by omega) (by omega)) ?_
  refine SL.mv rfl <| SL.v (op_lenS Tryz.underlying37 rfl) <| SL.v (op_remN (q := 20) rfl rfl rfl (by omega)) ?_
  refine SL.v (op_indexN Tryz.underlying37 ty9 rfl rfl (by omega)) ?_
  refine SL.v (op_load ty9 rfl (by repeat constructor) (cread1k' hw (by omega))) ?_
  refine SL.as rfl <| SL.nil <| T.ret1 rfl (ResIs.tmp rfl) ?_
  rfl
abbrev BdO (b : Nat) (A : Option Addr) (l c : Nat) : Ow := ⟨b, [.slice A l c], 118, 1⟩
theorem take_spec {X : PMap} {b cp : Nat} {A : Option Addr} {l : List Nd} (h : RowR ndC X (.slice A l.length cp) l) : SpecM Tryz.prog 111 [.pointer (some ⟨b, 0, none⟩)] X [BdO b A l.length cp] fun u L' _ => u = .agg #[.int .u8 ((takeN l).1.op : Int), .int .u8 ((takeN l).1.name : Int), .int .u8 ((takeN l).1.odd : Int), .int .i64 (takeN l).1.num] ∧ ∃ A' cp', L' = [BdO b A' (takeN l).2.length cp'] ∧ RowR ndC X (.slice A' (takeN l).2.length cp') (takeN l).2 := by
  match l, h with
  | [], h =>
    refine SpecM.enter Tryz.func111 rfl Tryz.ntmps111 rfl ?_
    intro w0 X0 own0
    refine T.seq <| T.region <| SL.w (op_alloc z158) ?_
    rintro _ _ _ ⟨B2, rfl, rfl, rfl⟩
    refine SL.nil <| T.seq <| T.seq <| T.region <| SL.mv rfl <| SL.v (op_nil rfl) <| SL.v (op_fieldAddr fa118_0 rfl) <| SL.v (op_load ty53 rfl (by repeat constructor) rfl) ?_
    refine SL.v (op_lenS Tryz.underlying53 rfl) <| SL.v (op_eql rfl rfl) <| SL.nil <| T.condT rfl <| T.seq <| T.region <| SL.v (op_build st158 (qs := [(0, _)]) rfl rfl) <| SL.w (op_store ty158 rfl rfl (by repeat constructor) rfl rfl rfl) ?_
    rintro _ _ _ ⟨rfl, rfl⟩
    refine SL.nil <| T.retM1S [_] _ rfl (ResIs.cell rfl ty158 (by repeat constructor) rfl) (List.sublist_cons_self _ _) (List.Perm.refl _) ?_
    exact ⟨PMap.le_refl _, rfl, A, cp, rfl, .inl ⟨rfl, _, _, rfl⟩⟩
  | x :: l, h =>
    have hd := h.drop (sz := 4) ndC_len (k := 1) (by simp)
    obtain ⟨bn, pre, rfl, hB⟩ := h.blk (by simp)
    have hcap := h.cap (by simp)
    rw [List.length_cons] at *
    refine SpecM.enter Tryz.func111 rfl Tryz.ntmps111 rfl ?_
    intro w0 X0 own0
    refine T.seq <| T.region <| SL.w (op_alloc z158) ?_
    rintro _ _ _ ⟨B2, rfl, rfl, rfl⟩
    refine SL.nil <| T.seq <| T.seq <| T.region <| SL.mv rfl <| SL.v (op_nil rfl) <| SL.v (op_fieldAddr fa118_0 rfl) <| SL.v (op_load ty53 rfl (by repeat constructor) rfl) ?_
    refine SL.v (op_lenS Tryz.underlying53 rfl) <| SL.v (op_eqlF rfl rfl (by omega)) ?_
    refine SL.nil <| T.condF rfl <| T.skip <| T.seq <| T.region <| SL.mv rfl <| SL.v (op_nil rfl) <| SL.v (op_fieldAddr fa118_0 rfl) <| SL.v (op_load ty53 rfl (by repeat constructor) rfl) ?_
    refine SL.v (op_index Tryz.underlying53 ty158 rfl rfl (by omega) (by omega)) ?_
    refine SL.v (op_loadX ty158 rfl hB (row_read ndC_len (rs := x :: l) (k := 0) rfl (by omega))) ?_
    refine SL.w (op_alloc z158) ?_
    rintro _ _ _ ⟨B3, rfl, rfl, rfl⟩
    refine SL.w (op_store ty158 rfl rfl (by repeat constructor) rfl rfl rfl) ?_
    rintro _ _ _ ⟨rfl, rfl⟩
    refine SL.nil <| T.seq <| T.region <| SL.mv rfl <| SL.mv rfl <| SL.v (op_nil rfl) <| SL.v (op_fieldAddr fa118_0 rfl) <| SL.v (op_load ty53 rfl (by repeat constructor) rfl) ?_
    refine SL.v (op_sliceLo (l := 1) Tryz.underlying53 ty158 rfl rfl (by omega) (by omega)) ?_
    refine SL.v (op_nil rfl) <| SL.v (op_fieldAddr fa118_0 rfl) <| SL.w (op_store ty53 rfl rfl (by repeat constructor) rfl rfl rfl) ?_
    rintro _ _ _ ⟨rfl, rfl⟩
    refine SL.nil <| T.seq <| T.region <| SL.v (op_load ty158 rfl (by repeat constructor) rfl) ?_
    refine SL.w (op_store ty158 rfl rfl (by repeat constructor) rfl rfl rfl) ?_
    rintro _ _ _ ⟨rfl, rfl⟩
    refine SL.nil <| T.retM1S [_] _ rfl (ResIs.cell rfl ty158 (by repeat constructor) rfl) (List.Sublist.cons _ (List.sublist_cons_self _ _)) (List.Perm.refl _) ?_
    refine ⟨PMap.le_refl _, rfl, _, _, rfl, ?_⟩
    exact hd
theorem build_eq (d : Nat) (l : List Nd) : buildE d l = (oddE (takeN l).1 (opN d (takeN l).1.op) (manyN (buildE (d - 1)) (argN (opN d (takeN l).1.op)) (takeN l).2).1, (manyN (buildE (d - 1)) (argN (opN d (takeN l).1.op)) (takeN l).2).2) := by
  cases d with
  | zero =>
    have : argN (opN 0 (takeN l).1.op) = 0 := by
      by_cases hc : 0 < argN (takeN l).1.op
      · rw [opN, if_pos ⟨rfl, hc⟩]; rfl
      · rw [opN, if_neg fun h => hc h.2]; exact Nat.eq_zero_of_not_pos hc
    rw [this, buildE]; rfl
  | succ d => rw [buildE, show opN (d + 1) (takeN l).1.op = (takeN l).1.op from if_neg (by omega)]; rfl
abbrev E6 (b : Nat) (op : Nat) (n : Int) (vn va : Value) : Ow := ⟨b, [.int .i64 (op : Int), .int .i64 n, vn, va], 45, 4⟩
abbrev N5 (b : Nat) (x : Nd) : Ow := ⟨b, ndC x, 158, 4⟩
theorem wrapU8a (p : Nat) : IntKind.u8.wrap ((p : Int) + 1) = (((p + 1) % 256 : Nat) : Int) := by simp [IntKind.wrap, IntKind.signed, IntKind.bits]
theorem wrapU8c (p : Nat) : IntKind.u8.wrap ((p : Int) + 3) = (((p + 3) % 256 : Nat) : Int) := by simp [IntKind.wrap, IntKind.signed, IntKind.bits]
theorem perm5 {a b c d e : Ow} {G O : Own} : (a :: b :: c :: d :: e :: (G ++ O)).Perm ((a :: b :: c :: d :: e :: O) ++ G) := .cons _ (.cons _ (.cons _ (.cons _ (.cons _ (show (G ++ O).Perm (O ++ G) from List.perm_append_comm)))))
theorem perm4 {a b c d : Ow} {G O : Own} : (a :: b :: c :: d :: (G ++ O)).Perm ((a :: b :: c :: d :: O) ++ G) := .cons _ (.cons _ (.cons _ (.cons _ (show (G ++ O).Perm (O ++ G) from List.perm_append_comm))))
theorem permG {G H O : Own} : (G ++ (H ++ O)).Perm ((G ++ O) ++ H) := by
  rw [List.append_assoc]
  exact List.Perm.append_left G List.perm_append_comm
theorem perm4G {a b c d : Ow} {G H O : Own} : (a :: b :: c :: d :: (G ++ (H ++ O))).Perm ((a :: b :: c :: d :: (G ++ O)) ++ H) := .cons _ (.cons _ (.cons _ (.cons _ (show (G ++ (H ++ O)).Perm ((G ++ O) ++ H) from permG))))
theorem perm5G {a b c d e : Ow} {G H O : Own} : (a :: b :: c :: d :: e :: (G ++ (H ++ O))).Perm ((a :: b :: c :: d :: e :: (G ++ O)) ++ H) := .cons _ perm4G
theorem grow1 {e : TypeId} {b : Nat} {cs : List Value} {size : Nat} (h : cs.length = size) (hm : 1 ≤ maxLen) : GrowS e size (.slice (some ⟨b, 0, none⟩) 1 1) 1 cs [⟨b, cs, e, 1 * size⟩] := .inr ⟨b, 1, rfl, rfl, Nat.le_refl _, hm, by omega⟩
theorem build_spec (d : Nat) : ∀ {X : PMap} {b cp : Nat} {A : Option Addr} {l : List Nd}, RowR ndC X (.slice A l.length cp) l → (∀ x ∈ l, ndOk x) → d ≤ 11 → SpecM Tryz.prog 57 [.pointer (some ⟨b, 0, none⟩), .int .i64 (d : Int)] X [BdO b A l.length cp] fun u L' X' => ∃ (r : Row4) (A' : Option Addr) (cp' : Nat), u = .agg #[r.1, r.2.1, r.2.2.1, r.2.2.2] ∧ ExR .i64 X' (buildE d l).1 r ∧ L' = [BdO b A' (buildE d l).2.length cp'] ∧ RowR ndC X' (.slice A' (buildE d l).2.length cp') (buildE d l).2 := by
  induction d using Nat.strongRecOn with
  | _ d ih =>
  intro X b cp A l h hok hd
  have hmx : maxLen = 9223372036854775807 := rfl
  rw [build_eq]
  obtain ⟨⟨g1, g2, g3⟩, hok1⟩ := takeN_ok hok
  have hok2 := manyN_ok (build_ok (d - 1)) hok1
  refine SpecM.enter Tryz.func57 rfl Tryz.ntmps57 rfl ?_
  intro w0 X0 own0
  refine T.seq <| T.region <| SL.w (op_alloc z45) ?_
  rintro _ _ _ ⟨B4, rfl, rfl, rfl⟩
  refine SL.nil <| T.seq <| T.region <| SL.mv rfl <| SL.perm (own' := [BdO b A l.length cp] ++ (_ :: own0)) (List.Perm.swap _ _ _) ?_
  refine SL.w (op_callM en111 (vs := [_]) rfl (take_spec h) rfl) ?_
  rintro _ _ X1 ⟨_, rfl, hX1, rfl, A1, cp1, rfl, h1⟩
  generalize (takeN l).1 = x at *
  generalize (takeN l).2 = l1 at *
  refine SL.w (op_alloc z158) ?_
  rintro _ _ _ ⟨B5, rfl, rfl, rfl⟩
  refine SL.w (op_store ty158 rfl rfl (by repeat constructor) rfl rfl rfl) ?_
  rintro _ _ _ ⟨rfl, rfl⟩
  refine SL.nil <| T.seq <| T.region <| SL.v (op_fieldAddr fa158_0 rfl) <| SL.v (op_load ty5 rfl (by repeat constructor) rfl) ?_
  refine SL.v (op_convI64 Tryz.underlying5 Tryz.underlying3 rfl (by omega) (by omega)) ?_
  refine SL.v (op_build st45 (qs := [(0, _)]) rfl rfl) <| SL.w (op_alloc z45) ?_
  rintro _ _ _ ⟨B6, rfl, rfl, rfl⟩
  refine SL.w (op_store ty45 rfl rfl (by repeat constructor) rfl rfl rfl) ?_
  rintro _ _ _ ⟨rfl, rfl⟩
  refine SL.nil <| T.seq <| T.meet (fun _ env own X' => X1.le X' ∧ env = [(0, .pointer (some ⟨b, 0, none⟩)), (1, .int .i64 (d : Int)), (4, .pointer (some ⟨B4, 0, none⟩)), (5, .pointer (some ⟨B5, 0, none⟩)), (6, .pointer (some ⟨B6, 0, none⟩))] ∧ own = E6 B6 (opN d x.op) 0 (.slice none 0 0) (.slice none 0 0) :: N5 B5 x :: BdO b A1 l1.length cp1 :: E6 B4 0 0 (.slice none 0 0) (.slice none 0 0) :: own0) ?_ ?_
  · rcases Nat.eq_zero_or_pos d with hd0 | hd0
    · by_cases hc : 0 < argN x.op
      · have ho : opN d x.op = 4 := if_pos ⟨hd0, hc⟩
        refine T.seq <| T.region <| SL.mv rfl <| SL.v (op_leqT rfl rfl (by omega)) ?_
        refine SL.mv rfl <| SL.v (op_fieldAddr fa45_0 rfl) <| SL.v (op_load ty3 rfl (by repeat constructor) rfl) ?_
        refine SL.w (op_callF en112 (vs := [_]) rfl (rargN_spec (op := x.op))) ?_
        rintro _ _ X2 ⟨rfl, hX2, rfl⟩
        refine SL.v (op_gtrT rfl rfl (by omega)) ?_
        refine SL.v (op_pickT rfl rfl) <| SL.nil <| T.condT rfl <| T.region <| SL.v (op_fieldAddr fa45_0 rfl) <| SL.w (op_store ty3 rfl rfl (by repeat constructor) rfl rfl rfl) ?_
        rintro _ _ _ ⟨rfl, rfl⟩
        refine SL.nil ?_
        rw [ho]
        exact T.backW 0 (by omega) ⟨hX2, rfl, rfl⟩ (by repeat (first | exact Sub.nil | refine Sub.cons rfl ?_))
      · have ho : opN d x.op = x.op := if_neg fun h => hc h.2
        refine T.seq <| T.region <| SL.mv rfl <| SL.v (op_leqT rfl rfl (by omega)) ?_
        refine SL.mv rfl <| SL.v (op_fieldAddr fa45_0 rfl) <| SL.v (op_load ty3 rfl (by repeat constructor) rfl) ?_
        refine SL.w (op_callF en112 (vs := [_]) rfl (rargN_spec (op := x.op))) ?_
        rintro _ _ X2 ⟨rfl, hX2, rfl⟩
        refine SL.v (op_gtrF rfl rfl (by omega)) ?_
        refine SL.v (op_pickT rfl rfl) <| SL.nil <| T.condF rfl <| T.skip ?_
        rw [ho]
        exact T.backW 0 (by omega) ⟨hX2, rfl, rfl⟩ (by repeat (first | exact Sub.nil | refine Sub.cons rfl ?_))
    · have ho : opN d x.op = x.op := if_neg fun h => by omega
      refine T.seq <| T.region <| SL.mv rfl <| SL.v (op_leqF rfl rfl (by omega)) ?_
      refine SL.mv rfl <| SL.skip rfl rfl ?_
      refine SL.skip rfl rfl ?_
      refine SL.skip rfl rfl ?_
      refine SL.skip rfl rfl ?_
      refine SL.v (op_pickF rfl rfl) <| SL.nil <| T.condF rfl <| T.skip ?_
      rw [ho]
      exact T.backW 0 (by omega) ⟨PMap.le_refl _, rfl, rfl⟩ (by repeat (first | exact Sub.nil | refine Sub.cons rfl ?_))
  rintro _ _ _ X2 ⟨hX2, rfl, rfl⟩
  have hop : opN d x.op < 256 := by unfold opN; split <;> omega
  have hd00 : d = 0 → argN (opN d x.op) = 0 := fun h => by
    by_cases hc : 0 < argN x.op
    · rw [opN, if_pos ⟨h, hc⟩]; rfl
    · rw [opN, if_neg fun h => hc h.2]; exact Nat.eq_zero_of_not_pos hc
  generalize opN d x.op = op at *
  refine T.seq <| T.meet (fun _ env own X' => X2.le X' ∧ env = [(0, .pointer (some ⟨b, 0, none⟩)), (1, .int .i64 (d : Int)), (4, .pointer (some ⟨B4, 0, none⟩)), (5, .pointer (some ⟨B5, 0, none⟩)), (6, .pointer (some ⟨B6, 0, none⟩))] ∧ own = E6 B6 op (if op = 1 then x.num else 0) (.slice none 0 0) (.slice none 0 0) :: N5 B5 x :: BdO b A1 l1.length cp1 :: E6 B4 0 0 (.slice none 0 0) (.slice none 0 0) :: own0) ?_ ?_
  · by_cases ho : op = 1
    · rw [if_pos ho]
      refine T.seq <| T.region <| SL.v (op_fieldAddr fa45_0 rfl) <| SL.v (op_load ty3 rfl (by repeat constructor) rfl) ?_
      refine SL.v (op_eqlT rfl rfl (by omega)) ?_
      refine SL.nil <| T.condT rfl <| T.region <| SL.v (op_fieldAddr fa158_3 rfl) <| SL.v (op_load ty3 rfl (by repeat constructor) rfl) ?_
      refine SL.v (op_fieldAddr fa45_1 rfl) <| SL.w (op_store ty3 rfl rfl (by repeat constructor) rfl rfl rfl) ?_
      rintro _ _ _ ⟨rfl, rfl⟩
      refine SL.nil ?_
      exact T.backW 0 (by omega) ⟨PMap.le_refl _, rfl, rfl⟩ (by repeat (first | exact Sub.nil | refine Sub.cons rfl ?_))
    · rw [if_neg ho]
      refine T.seq <| T.region <| SL.v (op_fieldAddr fa45_0 rfl) <| SL.v (op_load ty3 rfl (by repeat constructor) rfl) ?_
      refine SL.v (op_eqlF rfl rfl (by omega)) ?_
      refine SL.nil <| T.condF rfl <| T.skip ?_
      exact T.backW 0 (by omega) ⟨PMap.le_refl _, rfl, rfl⟩ (by repeat (first | exact Sub.nil | refine Sub.cons rfl ?_))
  rintro _ _ _ X3 ⟨hX3, rfl, rfl⟩
  have hn0 : (if op = 1 then x.num else 0) = (if op = 1 then x.num else 0) := rfl
  generalize hnn : (if op = 1 then x.num else 0) = n0 at *
  refine T.seq <| T.meet (fun _ env own X' => ∃ (vn : Value) (Gn : Own), X3.le X' ∧ GrowS 9 1 vn (if 4 ≤ op ∧ op ≤ 6 then [word6 x.name] else []).length (strsC (if 4 ≤ op ∧ op ≤ 6 then [word6 x.name] else [])) Gn ∧ env = [(0, .pointer (some ⟨b, 0, none⟩)), (1, .int .i64 (d : Int)), (4, .pointer (some ⟨B4, 0, none⟩)), (5, .pointer (some ⟨B5, 0, none⟩)), (6, .pointer (some ⟨B6, 0, none⟩))] ∧ own = E6 B6 op n0 vn (.slice none 0 0) :: N5 B5 x :: BdO b A1 l1.length cp1 :: E6 B4 0 0 (.slice none 0 0) (.slice none 0 0) :: (Gn ++ own0)) ?_ ?_
  · by_cases ho : 4 ≤ op ∧ op ≤ 6
    · rw [if_pos ho]
      refine T.seq <| T.region <| SL.v (op_fieldAddr fa45_0 rfl) <| SL.v (op_load ty3 rfl (by repeat constructor) rfl) ?_
      refine SL.v (op_geqT rfl rfl (by omega)) ?_
      refine SL.mv rfl <| SL.v (op_fieldAddr fa45_0 rfl) <| SL.v (op_load ty3 rfl (by repeat constructor) rfl) ?_
      refine SL.v (op_leqT rfl rfl (by omega)) ?_
      refine SL.v (op_pickT rfl rfl) <| SL.nil <| T.condT rfl <| T.region <| SL.v (op_fieldAddr fa158_1 rfl) <| SL.v (op_load ty5 rfl (by repeat constructor) rfl) ?_
      refine SL.w (op_callF en113 (vs := [_]) rfl (word6_spec g2)) ?_
      rintro _ _ X4 ⟨rfl, hX4, rfl⟩
      refine SL.w (op_buildSlice Tryz.underlying37 bs9 (qs := [(0, _)]) rfl rfl rfl rfl rfl) ?_
      rintro _ _ _ ⟨B40, rfl, rfl, rfl⟩
      refine SL.v (op_fieldAddr fa45_2 rfl) <| SL.w (op_store ty37 rfl rfl (by repeat constructor) rfl rfl rfl) ?_
      rintro _ _ _ ⟨rfl, rfl⟩
      refine SL.nil <| T.perm (List.perm_middle (l₁ := [_, _, _, _])).symm ?_
      exact T.backW 0 (by omega) ⟨_, _, hX4, grow1 rfl (by omega), rfl, rfl⟩ (by repeat (first | exact Sub.nil | refine Sub.cons rfl ?_))
    · rw [if_neg ho]
      by_cases ho4 : 4 ≤ op
      · skip
        refine T.seq <| T.region <| SL.v (op_fieldAddr fa45_0 rfl) <| SL.v (op_load ty3 rfl (by repeat constructor) rfl) ?_
        refine SL.v (op_geqT rfl rfl (by omega)) ?_
        refine SL.mv rfl <| SL.v (op_fieldAddr fa45_0 rfl) <| SL.v (op_load ty3 rfl (by repeat constructor) rfl) ?_
        refine SL.v (op_leqF rfl rfl (by omega)) ?_
        refine SL.v (op_pickT rfl rfl) <| SL.nil <| T.condF rfl <| T.skip ?_
        exact T.backW 0 (by omega) ⟨_, [], PMap.le_refl _, GrowS.nil, rfl, rfl⟩ (by repeat (first | exact Sub.nil | refine Sub.cons rfl ?_))
      · refine T.seq <| T.region <| SL.v (op_fieldAddr fa45_0 rfl) <| SL.v (op_load ty3 rfl (by repeat constructor) rfl) ?_
        refine SL.v (op_geqF rfl rfl (by omega)) ?_
        refine SL.mv rfl <| SL.skip rfl rfl ?_
        refine SL.skip rfl rfl ?_
        refine SL.skip rfl rfl ?_
        refine SL.v (op_pickF rfl rfl) <| SL.nil <| T.condF rfl <| T.skip ?_
        exact T.backW 0 (by omega) ⟨_, [], PMap.le_refl _, GrowS.nil, rfl, rfl⟩ (by repeat (first | exact Sub.nil | refine Sub.cons rfl ?_))
  rintro _ _ _ X4 ⟨vn4, Gn4, hX4, hGn4, rfl, rfl⟩
  refine T.seq <| T.meet (fun _ env own X' => ∃ (vn : Value) (Gn : Own), X4.le X' ∧ GrowS 9 1 vn (namesN op x.name).length (strsC (namesN op x.name)) Gn ∧ env = [(0, .pointer (some ⟨b, 0, none⟩)), (1, .int .i64 (d : Int)), (4, .pointer (some ⟨B4, 0, none⟩)), (5, .pointer (some ⟨B5, 0, none⟩)), (6, .pointer (some ⟨B6, 0, none⟩))] ∧ own = E6 B6 op n0 vn (.slice none 0 0) :: N5 B5 x :: BdO b A1 l1.length cp1 :: E6 B4 0 0 (.slice none 0 0) (.slice none 0 0) :: (Gn ++ own0)) ?_ ?_
  · by_cases ho : op = 5
    · have hq : x.name % 3 < 3 := Nat.mod_lt _ (by omega)
      by_cases h3 : 0 < x.name % 3
      · rw [show namesN op x.name = [word6 x.name, word6 ((x.name + 1) % 256), word6 ((x.name + 3) % 256)] from if_pos ⟨ho, h3⟩]
        rw [if_pos (by omega)] at hGn4
        refine T.seq <| T.region <| SL.v (op_fieldAddr fa45_0 rfl) <| SL.v (op_load ty3 rfl (by repeat constructor) rfl) ?_
        refine SL.v (op_eqlT rfl rfl (by omega)) ?_
        refine SL.mv rfl <| SL.v (op_fieldAddr fa158_1 rfl) <| SL.v (op_load ty5 rfl (by repeat constructor) rfl) ?_
        refine SL.v (op_remN (q := 3) rfl rfl rfl (by omega)) ?_
        refine SL.v (op_gtrT rfl rfl (by omega)) ?_
        refine SL.v (op_pickT rfl rfl) <| SL.nil <| T.condT rfl <| T.drawG (own0 := [_, _]) (by kernel_rfl) 11 [.t 0, .t 1, .t 2, .t 3, .t 4, .t 6, .t 7, .t 8, .r 5, .r 9, .r 10] (by kernel_rfl) ?_
        refine SD.take rfl panicBody (op_fieldAddr fa45_2 rfl) rfl rfl ?_
        refine SD.take rfl panicBody (op_load ty37 rfl (by repeat constructor) rfl) rfl rfl ?_
        refine SD.take rfl panicBody (op_fieldAddr fa158_1 rfl) rfl rfl ?_
        refine SD.take rfl panicBody (op_load ty5 rfl (by repeat constructor) rfl) rfl rfl ?_
        refine SD.take rfl panicBody (op_addW rfl rfl) rfl rfl ?_
        refine SD.take rfl panicBody (op_fieldAddr fa158_1 rfl) rfl rfl ?_
        refine SD.take rfl panicBody (op_load ty5 rfl (by repeat constructor) rfl) rfl rfl ?_
        refine SD.take rfl panicBody (op_addW rfl rfl) rfl rfl ?_
        rw [wrapU8a]
        refine SD.run rfl (op_callF en113 (vs := [_]) rfl (word6_spec (Nat.mod_lt _ (by omega)))) rfl rfl ?_
        rintro _ _ X5 ⟨rfl, hX5, rfl⟩
        rw [wrapU8c]
        refine SD.run rfl (op_callF en113 (vs := [_]) rfl (word6_spec (Nat.mod_lt _ (by omega)))) rfl rfl ?_
        rintro _ _ X6 ⟨rfl, hX6, rfl⟩
        refine SD.run rfl (op_buildSlice Tryz.underlying37 bs9 (qs := [(0, _), (1, _)]) rfl rfl rfl rfl rfl) rfl rfl ?_
        rintro _ _ _ ⟨B61, rfl, rfl, rfl⟩
        refine SD.nil ?_
        show SL _ _ _ _ _ _ _ [_, _, _] _ _ _
        refine SL.perm perm5 ?_
        refine SL.w (op_appendGA (own0 := _ :: _ :: _ :: _ :: _ :: own0) (m := 2) sl37 rfl hGn4 rfl (Src.ofOwn0 AtO.here rfl) (by intro y hy; have hy : y ∈ [Value.string _, Value.string _] := hy; simp only [List.mem_cons, List.not_mem_nil, or_false] at hy; rcases hy with rfl | rfl <;> rfl) (by simp; omega) (by simp)) ?_
        rintro vn5 _ _ ⟨Gn5, rfl, rfl, hGn5⟩
        obtain ⟨_, _, rfl⟩ := hGn5.form
        refine SL.v (op_fieldAddr fa45_2 rfl) <| SL.w (op_store ty37 rfl rfl (by repeat constructor) rfl rfl rfl) ?_
        rintro _ _ _ ⟨rfl, rfl⟩
        refine SL.nil <| T.less (List.sublist_cons_self _ _) ?_
        refine T.perm perm4.symm ?_
        exact T.backW 0 (by omega) ⟨_, _, hX5.trans' hX6, hGn5, rfl, rfl⟩ (by repeat (first | exact Sub.nil | refine Sub.cons rfl ?_))
      · rw [show namesN op x.name = (if 4 ≤ op ∧ op ≤ 6 then [word6 x.name] else []) from if_neg fun h => h3 h.2]
        refine T.seq <| T.region <| SL.v (op_fieldAddr fa45_0 rfl) <| SL.v (op_load ty3 rfl (by repeat constructor) rfl) ?_
        refine SL.v (op_eqlT rfl rfl (by omega)) ?_
        refine SL.mv rfl <| SL.v (op_fieldAddr fa158_1 rfl) <| SL.v (op_load ty5 rfl (by repeat constructor) rfl) ?_
        refine SL.v (op_remN (q := 3) rfl rfl rfl (by omega)) ?_
        refine SL.v (op_gtrF rfl rfl (by omega)) ?_
        refine SL.v (op_pickT rfl rfl) <| SL.nil <| T.condF rfl <| T.skip ?_
        exact T.backW 0 (by omega) ⟨_, _, PMap.le_refl _, hGn4, rfl, rfl⟩ (by repeat (first | exact Sub.nil | refine Sub.cons rfl ?_))
    · rw [show namesN op x.name = (if 4 ≤ op ∧ op ≤ 6 then [word6 x.name] else []) from if_neg fun h => ho h.1]
      refine T.seq <| T.region <| SL.v (op_fieldAddr fa45_0 rfl) <| SL.v (op_load ty3 rfl (by repeat constructor) rfl) ?_
      refine SL.v (op_eqlF rfl rfl (by omega)) ?_
      refine SL.mv rfl <| SL.skip rfl rfl ?_
      refine SL.skip rfl rfl ?_
      refine SL.skip rfl rfl ?_
      refine SL.skip rfl rfl ?_
      refine SL.v (op_pickF rfl rfl) <| SL.nil <| T.condF rfl <| T.skip ?_
      exact T.backW 0 (by omega) ⟨_, _, PMap.le_refl _, hGn4, rfl, rfl⟩ (by repeat (first | exact Sub.nil | refine Sub.cons rfl ?_))
  rintro _ _ _ X5 ⟨vn5, Gn5, hX5, hGn5, rfl, rfl⟩
  have hX15 := ((hX2.trans' hX3).trans' hX4).trans' hX5
  have hk2 := argN_le op
  refine T.seq <| T.seq <| T.region <| SL.v (op_assign (v := .int .i64 ((0 : Nat) : Int)) rfl) <| SL.nil <| T.block <| T.perm (own' := E6 B6 op n0 vn5 (.slice none 0 0) :: N5 B5 x :: E6 B4 0 0 (.slice none 0 0) (.slice none 0 0) :: BdO b A1 l1.length cp1 :: (Gn5 ++ ([] ++ own0))) (.cons _ (.cons _ (.swap _ _ _))) ?_
  have hmw := fun k => manyN_len (buildE (d - 1)) l1 k
  refine T.loopW (fun m env own X' => ∃ (k : Nat) (A' : Option Addr) (cp' : Nat) (va : Value) (Ga : Own) (rows : List Row4), m = argN op - k ∧ k ≤ argN op ∧ X5.le X' ∧ rows.length = k ∧ GrowS 45 4 va rows.length (rows.map rc4).flatten Ga ∧ (∀ (i : Nat) (a : Ex) (r : Row4), (manyN (buildE (d - 1)) k l1).1[i]? = some a → rows[i]? = some r → ExR .i64 X' a r) ∧ RowR ndC X' (.slice A' (manyN (buildE (d - 1)) k l1).2.length cp') (manyN (buildE (d - 1)) k l1).2 ∧ env = [(0, .pointer (some ⟨b, 0, none⟩)), (1, .int .i64 (d : Int)), (4, .pointer (some ⟨B4, 0, none⟩)), (5, .pointer (some ⟨B5, 0, none⟩)), (6, .pointer (some ⟨B6, 0, none⟩)), (7, .int .i64 (k : Int))] ∧ own = E6 B6 op n0 vn5 va :: N5 B5 x :: E6 B4 0 0 (.slice none 0 0) (.slice none 0 0) :: BdO b A' (manyN (buildE (d - 1)) k l1).2.length cp' :: (Gn5 ++ (Ga ++ own0))) (argN op) ⟨0, _, _, _, [], [], by simp, by omega, PMap.le_refl _, rfl, GrowS.nil, fun i a r h => by simp [manyN] at h, h1.mono (hX1.trans' hX15), rfl, rfl⟩ (by repeat (first | exact Sub.nil | refine Sub.cons rfl ?_)) ?_
  rintro m _ _ X6 ⟨k, A6, cp6, va6, Ga6, rows, rfl, hk, hX6, hrl, hGa6, hrows, hb6, rfl, rfl⟩
  refine T.seq <| T.seq <| T.region <| SL.mv rfl <| SL.v (op_fieldAddr fa45_0 rfl) <| SL.v (op_load ty3 rfl (by repeat constructor) rfl) ?_
  refine SL.w (op_callF en112 (vs := [_]) rfl (rargN_spec (op := op))) ?_
  rintro _ _ X7 ⟨rfl, hX7, rfl⟩
  rcases Nat.lt_or_ge k (argN op) with hkl | hkl
  · have hd0 : 0 < d := Nat.pos_of_ne_zero fun h => by have := hd00 h; omega
    refine SL.v (op_lssT rfl rfl (by omega)) ?_
    refine SL.nil <| T.condT rfl <| T.skip <| T.seq <| T.block <| T.drawG (own0 := [_, _, _]) (by kernel_rfl) 7 [.t 0, .t 1, .t 2, .t 3, .t 4, .r 5, .r 6] (by kernel_rfl) ?_
    refine SD.take rfl panicBody (op_fieldAddr fa45_3 rfl) rfl rfl ?_
    refine SD.take rfl panicBody (op_load ty43 rfl (by repeat constructor) rfl) rfl rfl ?_
    refine SD.take rfl panicBody (op_move rfl) rfl rfl ?_
    refine SD.take rfl panicBody (op_move rfl) rfl rfl ?_
    refine SD.take rfl panicBody (op_subN (q := 1) rfl rfl (by omega) (by omega)) rfl rfl ?_
    refine SD.perm (own' := [BdO b A6 (manyN (buildE (d - 1)) k l1).2.length cp6] ++ (E6 B6 op n0 vn5 va6 :: N5 B5 x :: E6 B4 0 0 (.slice none 0 0) (.slice none 0 0) :: (Gn5 ++ (Ga6 ++ own0)))) (List.perm_middle (l₁ := [_, _, _])) ?_
    refine SD.runK rfl (op_callM en57 (vs := [_, _]) rfl (ih (d - 1) (by omega) (hb6.mono hX7) (hok2 k) (by omega)) rfl) (by rintro _ _ _ ⟨L', rfl, hX, _⟩; exact ⟨fun p hp => List.mem_append_right _ (show p ∈ [_, _, _] ++ _ from List.mem_append_left _ hp), hX⟩) rfl rfl ?_
    rintro _ _ X8 ⟨_, rfl, hX8, r8, A8, cp8, rfl, hr8, rfl, hb8⟩
    obtain ⟨o8, n8, a8, b8, l8, c8, l9, c9, rfl⟩ := hr8.form
    refine SD.run rfl (op_buildSlice Tryz.underlying43 bs45 (qs := [(0, _)]) rfl rfl rfl rfl rfl) rfl rfl ?_
    rintro _ _ _ ⟨B77, rfl, rfl, rfl⟩
    refine SD.nil ?_
    show SL _ _ _ _ _ _ _ [_, _, _] _ _ _
    refine SL.perm perm5G ?_
    refine SL.w (op_appendGA (own0 := _ :: _ :: _ :: _ :: _ :: (Gn5 ++ own0)) (m := 1) sl43 rfl hGa6 rfl (Src.ofOwn0 AtO.here rfl) (by intro y hy; have hy : y ∈ [Value.int _ _, Value.int _ _, Value.slice _ _ _, Value.slice _ _ _] := hy; simp only [List.mem_cons, List.not_mem_nil, or_false] at hy; rcases hy with rfl | rfl | rfl | rfl <;> rfl) (by omega) (by omega)) ?_
    rintro va9 _ _ ⟨Ga9, rfl, rfl, hGa9⟩
    obtain ⟨Aa9, ca9, rfl⟩ := hGa9.form
    refine SL.v (op_fieldAddr fa45_3 rfl) <| SL.w (op_store ty43 rfl rfl (by repeat constructor) rfl rfl rfl) ?_
    rintro _ _ _ ⟨rfl, rfl⟩
    refine SL.nil <| T.blk <| T.region <| SL.mv rfl <| SL.v (op_addN (q := 1) rfl rfl (by omega)) ?_
    refine SL.as rfl <| SL.nil <| T.less (List.sublist_cons_self _ _) ?_
    refine T.perm perm4G.symm ?_
    refine T.perm (List.perm_middle (l₁ := [_, _, _])).symm ?_
    have hGa10 : GrowS 45 4 (.slice Aa9 (rows.length + 1) ca9) (rows ++ [((.int .i64 (o8 : Int), .int .i64 n8, .slice a8 l8 c8, .slice b8 l9 c9) : Row4)]).length (((rows ++ [((.int .i64 (o8 : Int), .int .i64 n8, .slice a8 l8 c8, .slice b8 l9 c9) : Row4)]).map rc4).flatten) Ga9 := by
      rw [List.length_append, List.map_append, List.flatten_append]
      exact hGa9
    have hrows2 : ∀ (i : Nat) (a : Ex) (r : Row4), (manyN (buildE (d - 1)) (k + 1) l1).1[i]? = some a → (rows ++ [((.int .i64 (o8 : Int), .int .i64 n8, .slice a8 l8 c8, .slice b8 l9 c9) : Row4)])[i]? = some r → ExR .i64 X8 a r := by
      intro i a r hi hr
      rcases Nat.lt_or_ge i k with hik | hik
      · rw [manyN, List.getElem?_append_left (by rw [hmw]; exact hik)] at hi
        rw [List.getElem?_append_left (by omega)] at hr
        exact ((hrows i a r hi hr).mono hX7).mono hX8
      · have hik2 : i = k := by
          have := (List.getElem?_eq_some_iff.1 hr).1
          rw [List.length_append] at this; simp at this; omega
        subst hik2
        rw [manyN, List.getElem?_append_right (by rw [hmw]; omega), hmw, Nat.sub_self] at hi
        rw [List.getElem?_append_right (by omega), hrl, Nat.sub_self] at hr
        simp only [List.getElem?_cons_zero, Option.some.injEq] at hi hr
        subst hi hr
        exact hr8
    exact T.backW (argN op - (k + 1)) (by omega) ⟨k + 1, _, _, _, _, rows ++ [(.int .i64 (o8 : Int), .int .i64 n8, .slice a8 l8 c8, .slice b8 l9 c9)], rfl, by omega, (hX6.trans' hX7).trans' hX8, by rw [List.length_append, hrl]; rfl, hGa10, hrows2, hb8, rfl, rfl⟩ (by repeat (first | exact Sub.nil | refine Sub.cons rfl ?_))
  · obtain rfl : k = argN op := by omega
    have hX17 := hX15.trans' (hX6.trans' hX7)
    generalize hmn : manyN (buildE (d - 1)) (argN op) l1 = z at *
    obtain ⟨al0, l2⟩ := z
    simp only at *
    have hal : rows.length = al0.length := by have := hmw (argN op); rw [hmn] at this; simp only at this; omega
    refine SL.v (op_lssF rfl rfl (by omega)) ?_
    refine SL.nil <| T.condF rfl ?_
    refine T.exit (T.exitCode (T.exitCut (T.exitBlk ?_)))
    refine T.seq <| T.meet (fun _ env own X' => ∃ (op' : Nat) (n' : Int) (ns : List ByteArray) (al : List Ex) (vn va : Value) (Gn Ga : Own) (rs : List Row4), oddE x op al0 = .mk op' n' ns al ∧ X7.le X' ∧ GrowS 9 1 vn ns.length (strsC ns) Gn ∧ GrowS 45 4 va rs.length (rs.map rc4).flatten Ga ∧ rs.length = al.length ∧ (∀ (i : Nat) (a : Ex) (r : Row4), al[i]? = some a → rs[i]? = some r → ExR .i64 X' a r) ∧ env = [(4, .pointer (some ⟨B4, 0, none⟩)), (5, .pointer (some ⟨B5, 0, none⟩)), (6, .pointer (some ⟨B6, 0, none⟩))] ∧ own = E6 B6 op' n' vn va :: N5 B5 x :: E6 B4 0 0 (.slice none 0 0) (.slice none 0 0) :: BdO b A6 l2.length cp6 :: (Gn ++ (Ga ++ own0))) ?_ ?_
    · have hrow7 : ∀ (i : Nat) (a : Ex) (r : Row4), al0[i]? = some a → rows[i]? = some r → ExR .i64 X7 a r := fun i a r h1 h2 => (hrows i a r h1 h2).mono hX7
      have hn5 := namesN_wt op x.name
      have hn6 := wtS_len (namesN op x.name)
      by_cases o1 : x.odd = 1
      · have e : oddE x op al0 = .mk op n0 (namesN op x.name) (al0 ++ [.mk 2 0 [] []]) := by simp only [oddE, if_pos o1, hnn]
        refine T.seq <| T.region <| SL.v (op_fieldAddr fa158_2 rfl) <| SL.v (op_load ty5 rfl (by repeat constructor) rfl) ?_
        refine SL.nil <| T.block <| T.seq <| T.region <| SL.v (op_eqlT rfl rfl (by omega)) ?_
        refine SL.as rfl <| SL.nil <| T.condT rfl <| T.region <| SL.v (op_fieldAddr fa45_3 rfl) <| SL.v (op_load ty43 rfl (by repeat constructor) rfl) ?_
        refine SL.v (op_build st45 (qs := [(0, _)]) rfl rfl) <| SL.w (op_buildSlice Tryz.underlying43 bs45 (qs := [(0, _)]) rfl rfl rfl rfl rfl) ?_
        rintro _ _ _ ⟨B87, rfl, rfl, rfl⟩
        refine SL.perm perm5G ?_
        refine SL.w (op_appendGA (own0 := _ :: _ :: _ :: _ :: _ :: (Gn5 ++ own0)) (m := 1) sl43 rfl hGa6 rfl (Src.ofOwn0 AtO.here rfl) (by intro y hy; have hy : y ∈ [Value.int _ _, Value.int _ _, Value.slice _ _ _, Value.slice _ _ _] := hy; simp only [List.mem_cons, List.not_mem_nil, or_false] at hy; rcases hy with rfl | rfl | rfl | rfl <;> rfl) (by omega) (by omega)) ?_
        rintro va9 _ _ ⟨Ga9, rfl, rfl, hGa9⟩
        obtain ⟨Aa9, ca9, rfl⟩ := hGa9.form
        refine SL.v (op_fieldAddr fa45_3 rfl) <| SL.w (op_store ty43 rfl rfl (by repeat constructor) rfl rfl rfl) ?_
        rintro _ _ _ ⟨rfl, rfl⟩
        refine SL.nil <| T.blk <| T.less (List.sublist_cons_self _ _) ?_
        refine T.perm perm4G.symm ?_
        have hGa10 : GrowS 45 4 (.slice Aa9 (rows.length + 1) ca9) (rows ++ [((.int .i64 2, .int .i64 0, .slice none 0 0, .slice none 0 0) : Row4)]).length (((rows ++ [((.int .i64 2, .int .i64 0, .slice none 0 0, .slice none 0 0) : Row4)]).map rc4).flatten) Ga9 := by
          rw [List.length_append, List.map_append, List.flatten_append]
          exact hGa9
        have hrows2 : ∀ (i : Nat) (a : Ex) (r : Row4), (al0 ++ [.mk 2 0 [] []])[i]? = some a → (rows ++ [((.int .i64 2, .int .i64 0, .slice none 0 0, .slice none 0 0) : Row4)])[i]? = some r → ExR .i64 X7 a r := by
          intro i a r hi hr
          rcases Nat.lt_or_ge i al0.length with hik | hik
          · rw [List.getElem?_append_left hik] at hi
            rw [List.getElem?_append_left (by omega)] at hr
            exact hrow7 i a r hi hr
          · have hik2 : i = al0.length := by
              have := (List.getElem?_eq_some_iff.1 hi).1
              rw [List.length_append] at this; simp at this; omega
            subst hik2
            rw [List.getElem?_append_right (by omega), Nat.sub_self] at hi
            rw [List.getElem?_append_right (by omega), hal, Nat.sub_self] at hr
            simp only [List.getElem?_cons_zero, Option.some.injEq] at hi hr
            subst hi hr
            exact .mk (rows := []) (.inl ⟨rfl, _, _, rfl⟩) (.inl ⟨rfl, _, _, rfl⟩) rfl (fun i a r h => by simp at h)
        exact T.backW 0 (by omega) ⟨_, _, _, _, _, _, _, _, _, e, PMap.le_refl _, hGn5, hGa10, by rw [List.length_append, List.length_append, hal]; rfl, hrows2, rfl, rfl⟩ (by repeat (first | exact Sub.nil | refine Sub.cons rfl ?_))
      by_cases o2 : x.odd = 2
      · have e : oddE x op al0 = .mk op n0 (namesN op x.name) [] := by simp only [oddE, if_neg o1, if_pos o2, hnn]
        refine T.seq <| T.region <| SL.v (op_fieldAddr fa158_2 rfl) <| SL.v (op_load ty5 rfl (by repeat constructor) rfl) ?_
        refine SL.nil <| T.block <| T.seq <| T.region <| SL.v (op_eqlF rfl rfl (by omega)) ?_
        refine SL.as rfl <| SL.nil <| T.condF rfl <| T.seq <| T.region <| SL.v (op_eqlT rfl rfl (by omega)) ?_
        refine SL.as rfl <| SL.nil <| T.condT rfl <| T.region <| SL.v (op_fieldAddr fa45_3 rfl) <| SL.w (op_store ty43 rfl rfl (by repeat constructor) rfl rfl rfl) ?_
        rintro _ _ _ ⟨rfl, rfl⟩
        refine SL.nil <| T.blk <| T.less (own' := _ :: _ :: _ :: _ :: (Gn5 ++ ([] ++ own0))) (.cons_cons _ (.cons_cons _ (.cons_cons _ (.cons_cons _ (List.Sublist.append_left (List.sublist_append_right Ga6 own0) Gn5))))) ?_
        exact T.backW 0 (by omega) ⟨_, _, _, _, _, _, _, [], [], e, PMap.le_refl _, hGn5, GrowS.nil, rfl, fun i a r h => by simp at h, rfl, rfl⟩ (by repeat (first | exact Sub.nil | refine Sub.cons rfl ?_))
      by_cases o3 : x.odd = 3
      · have e : oddE x op al0 = .mk op n0 (namesN op x.name ++ [word6 x.name]) al0 := by simp only [oddE, if_neg o1, if_neg o2, if_pos o3, hnn]
        refine T.seq <| T.region <| SL.v (op_fieldAddr fa158_2 rfl) <| SL.v (op_load ty5 rfl (by repeat constructor) rfl) ?_
        refine SL.nil <| T.block <| T.seq <| T.region <| SL.v (op_eqlF rfl rfl (by omega)) ?_
        refine SL.as rfl <| SL.nil <| T.condF rfl <| T.seq <| T.region <| SL.v (op_eqlF rfl rfl (by omega)) ?_
        refine SL.as rfl <| SL.nil <| T.condF rfl <| T.seq <| T.region <| SL.v (op_eqlT rfl rfl (by omega)) ?_
        refine SL.as rfl <| SL.nil <| T.condT rfl <| T.drawG (own0 := [_, _, _]) (by kernel_rfl) 6 [.t 0, .t 1, .t 2, .t 3, .r 4, .r 5] (by kernel_rfl) ?_
        refine SD.take rfl panicBody (op_fieldAddr fa45_2 rfl) rfl rfl ?_
        refine SD.take rfl panicBody (op_load ty37 rfl (by repeat constructor) rfl) rfl rfl ?_
        refine SD.take rfl panicBody (op_fieldAddr fa158_1 rfl) rfl rfl ?_
        refine SD.take rfl panicBody (op_load ty5 rfl (by repeat constructor) rfl) rfl rfl ?_
        refine SD.run rfl (op_callF en113 (vs := [_]) rfl (word6_spec g2)) rfl rfl ?_
        rintro _ _ X8 ⟨rfl, hX8, rfl⟩
        refine SD.run rfl (op_buildSlice Tryz.underlying37 bs9 (qs := [(0, _)]) rfl rfl rfl rfl rfl) rfl rfl ?_
        rintro _ _ _ ⟨B100, rfl, rfl, rfl⟩
        refine SD.nil ?_
        show SL _ _ _ _ _ _ _ [_, _, _] _ _ _
        refine SL.perm perm5 ?_
        refine SL.w (op_appendGA (own0 := _ :: _ :: _ :: _ :: _ :: (Ga6 ++ own0)) (m := 1) sl37 rfl hGn5 rfl (Src.ofOwn0 AtO.here rfl) (by intro y hy; have hy : y ∈ [Value.string _] := hy; simp only [List.mem_cons, List.not_mem_nil, or_false] at hy; subst hy; rfl) (by omega) (by omega)) ?_
        rintro vn9 _ _ ⟨Gn9, rfl, rfl, hGn9⟩
        obtain ⟨An9, cn9, rfl⟩ := hGn9.form
        refine SL.v (op_fieldAddr fa45_2 rfl) <| SL.w (op_store ty37 rfl rfl (by repeat constructor) rfl rfl rfl) ?_
        rintro _ _ _ ⟨rfl, rfl⟩
        refine SL.nil <| T.blk <| T.less (List.sublist_cons_self _ _) ?_
        refine T.perm perm4.symm ?_
        have hGn10 : GrowS 9 1 (.slice An9 ((namesN op x.name).length + 1) cn9) (namesN op x.name ++ [word6 x.name]).length (strsC (namesN op x.name ++ [word6 x.name])) Gn9 := by
          rw [List.length_append, strsC_app]
          exact hGn9
        exact T.backW 0 (by omega) ⟨_, _, _, _, _, _, _, _, _, e, hX8, hGn10, hGa6, hal, fun i a r h1 h2 => (hrow7 i a r h1 h2).mono hX8, rfl, rfl⟩ (by repeat (first | exact Sub.nil | refine Sub.cons rfl ?_))
      by_cases o4 : x.odd = 4
      · have e : oddE x op al0 = .mk op x.num (namesN op x.name) al0 := by simp only [oddE, if_neg o1, if_neg o2, if_neg o3, if_pos o4]
        refine T.seq <| T.region <| SL.v (op_fieldAddr fa158_2 rfl) <| SL.v (op_load ty5 rfl (by repeat constructor) rfl) ?_
        refine SL.nil <| T.block <| T.seq <| T.region <| SL.v (op_eqlF rfl rfl (by omega)) ?_
        refine SL.as rfl <| SL.nil <| T.condF rfl <| T.seq <| T.region <| SL.v (op_eqlF rfl rfl (by omega)) ?_
        refine SL.as rfl <| SL.nil <| T.condF rfl <| T.seq <| T.region <| SL.v (op_eqlF rfl rfl (by omega)) ?_
        refine SL.as rfl <| SL.nil <| T.condF rfl <| T.seq <| T.region <| SL.v (op_eqlT rfl rfl (by omega)) ?_
        refine SL.as rfl <| SL.nil <| T.condT rfl <| T.region <| SL.v (op_fieldAddr fa158_3 rfl) <| SL.v (op_load ty3 rfl (by repeat constructor) rfl) ?_
        refine SL.v (op_fieldAddr fa45_1 rfl) <| SL.w (op_store ty3 rfl rfl (by repeat constructor) rfl rfl rfl) ?_
        rintro _ _ _ ⟨rfl, rfl⟩
        refine SL.nil <| T.blk ?_
        exact T.backW 0 (by omega) ⟨_, _, _, _, _, _, _, _, _, e, PMap.le_refl _, hGn5, hGa6, hal, hrow7, rfl, rfl⟩ (by repeat (first | exact Sub.nil | refine Sub.cons rfl ?_))
      by_cases o5 : x.odd = 5
      · have e : oddE x op al0 = .mk op n0 [word20 x.name] al0 := by simp only [oddE, if_neg o1, if_neg o2, if_neg o3, if_neg o4, if_pos o5, hnn]
        refine T.seq <| T.region <| SL.v (op_fieldAddr fa158_2 rfl) <| SL.v (op_load ty5 rfl (by repeat constructor) rfl) ?_
        refine SL.nil <| T.block <| T.seq <| T.region <| SL.v (op_eqlF rfl rfl (by omega)) ?_
        refine SL.as rfl <| SL.nil <| T.condF rfl <| T.seq <| T.region <| SL.v (op_eqlF rfl rfl (by omega)) ?_
        refine SL.as rfl <| SL.nil <| T.condF rfl <| T.seq <| T.region <| SL.v (op_eqlF rfl rfl (by omega)) ?_
        refine SL.as rfl <| SL.nil <| T.condF rfl <| T.seq <| T.region <| SL.v (op_eqlF rfl rfl (by omega)) ?_
        refine SL.as rfl <| SL.nil <| T.condF rfl <| T.seq <| T.region <| SL.v (op_eqlT rfl rfl (by omega)) ?_
        refine SL.as rfl <| SL.nil <| T.condT rfl <| T.region <| SL.v (op_fieldAddr fa158_1 rfl) <| SL.v (op_load ty5 rfl (by repeat constructor) rfl) ?_
        refine SL.w (op_callF en35 (vs := [_]) rfl (word20_spec g2)) ?_
        rintro _ _ X8 ⟨rfl, hX8, rfl⟩
        refine SL.w (op_buildSlice Tryz.underlying37 bs9 (qs := [(0, _)]) rfl rfl rfl rfl rfl) ?_
        rintro _ _ _ ⟨B113, rfl, rfl, rfl⟩
        refine SL.v (op_fieldAddr fa45_2 rfl) <| SL.w (op_store ty37 rfl rfl (by repeat constructor) rfl rfl rfl) ?_
        rintro _ _ _ ⟨rfl, rfl⟩
        refine SL.nil <| T.blk <| T.less (own' := _ :: _ :: _ :: _ :: _ :: (Ga6 ++ own0)) (.cons_cons _ (.cons_cons _ (.cons_cons _ (.cons_cons _ (.cons_cons _ (List.sublist_append_right Gn5 (Ga6 ++ own0))))))) ?_
        refine T.perm (List.perm_middle (l₁ := [_, _, _, _])).symm ?_
        exact T.backW 0 (by omega) ⟨_, _, _, _, _, _, _, _, _, e, hX8, grow1 rfl (by omega), hGa6, hal, fun i a r h1 h2 => (hrow7 i a r h1 h2).mono hX8, rfl, rfl⟩ (by repeat (first | exact Sub.nil | refine Sub.cons rfl ?_))
      have e : oddE x op al0 = .mk op n0 (namesN op x.name) al0 := by simp only [oddE, if_neg o1, if_neg o2, if_neg o3, if_neg o4, if_neg o5, hnn]
      refine T.seq <| T.region <| SL.v (op_fieldAddr fa158_2 rfl) <| SL.v (op_load ty5 rfl (by repeat constructor) rfl) ?_
      refine SL.nil <| T.block <| T.seq <| T.region <| SL.v (op_eqlF rfl rfl (by omega)) ?_
      refine SL.as rfl <| SL.nil <| T.condF rfl <| T.seq <| T.region <| SL.v (op_eqlF rfl rfl (by omega)) ?_
      refine SL.as rfl <| SL.nil <| T.condF rfl <| T.seq <| T.region <| SL.v (op_eqlF rfl rfl (by omega)) ?_
      refine SL.as rfl <| SL.nil <| T.condF rfl <| T.seq <| T.region <| SL.v (op_eqlF rfl rfl (by omega)) ?_
      refine SL.as rfl <| SL.nil <| T.condF rfl <| T.seq <| T.region <| SL.v (op_eqlF rfl rfl (by omega)) ?_
      refine SL.as rfl <| SL.nil <| T.condF rfl <| T.skip <| T.blk ?_
      exact T.backW 0 (by omega) ⟨_, _, _, _, _, _, _, _, _, e, PMap.le_refl _, hGn5, hGa6, hal, hrow7, rfl, rfl⟩ (by repeat (first | exact Sub.nil | refine Sub.cons rfl ?_))
    rintro _ _ _ X8 ⟨op', n', ns, al, vn, va, Gn, Ga, rs, hodd, hX8, hGn, hGa, hrsl, hrs, rfl, rfl⟩
    obtain ⟨An8, cn8, rfl⟩ := hGn.form
    obtain ⟨Aa8, ca8, rfl⟩ := hGa.form
    refine T.seq <| T.region <| SL.v (op_load ty45 rfl (by repeat constructor) rfl) ?_
    refine SL.w (op_store ty45 rfl rfl (by repeat constructor) rfl rfl rfl) ?_
    rintro _ _ _ ⟨rfl, rfl⟩
    refine SL.nil <| T.perm perm4G ?_
    refine T.pubG (own0 := _ :: _ :: _ :: _ :: (Gn ++ own0)) hGa ?_
    intro X9 hX9 hS9
    refine T.perm perm4 ?_
    refine T.pubG (own0 := _ :: _ :: _ :: _ :: own0) hGn ?_
    intro X10 hX10 hS10
    refine T.retM1S [_] _ rfl (ResIs.cell rfl ty45 (by repeat constructor) rfl) (.cons _ (.cons _ (.cons _ (.refl _)))) (List.Perm.refl _) ?_
    rw [hodd]
    have hN : RowR strC X10 (.slice An8 ns.length cn8) ns := RowR.ofG (by rw [strsC_flat]; exact hGn) (by rw [strsC_flat]; exact hS10)
    have hA : RowR rc4 X10 (.slice Aa8 rs.length ca8) rs := (RowR.ofG hGa hS9).mono hX10
    exact ⟨((((hX1.trans' hX17).trans' hX8).trans' hX9).trans' hX10), (.int .i64 (op' : Int), .int .i64 n', .slice An8 ns.length cn8, .slice Aa8 rs.length ca8), A6, cp6, rfl, .mk hN hA hrsl (fun i a r h1 h2 => ((hrs i a r h1 h2).mono hX9).mono hX10), rfl, (((hb6.mono hX7).mono hX8).mono hX9).mono hX10⟩
/-- Build. -/
theorem built_spec {X : PMap} {v : Value} {l : List Nd} (h : RowR ndC X v l) (hok : ∀ x ∈ l, ndOk x) : Spec Tryz.prog 26 [v] X fun u X' => ∃ r : Row4, u = .agg #[r.1, r.2.1, r.2.2.1, r.2.2.2] ∧ ExR .i64 X' (builtE l) r := by
  obtain ⟨A, cp, rfl⟩ := h.form
  have hok2 : ∀ x ∈ l.take 60, ndOk x := fun x hx => hok x (List.mem_of_mem_take hx)
  by_cases hc : 60 < l.length
  · have ht := h.take (sz := 4) (k := 60) (by omega)
    have hcap := h.cap (by omega)
    have e60 : (l.take 60).length = 60 := by rw [List.length_take]; omega
    have hb := fun (b : Nat) => build_spec 11 (b := b) (A := slA A cp 0 4) (cp := cp) (l := l.take 60) (by rw [e60]; exact ht) hok2 (by omega)
    rw [e60] at hb
    refine Spec.enter Tryz.func26 rfl Tryz.ntmps26 rfl ?_
    intro w0 hw0
    refine T.seq <| T.region <| SL.w (op_alloc z45) ?_
    rintro _ _ _ ⟨B2, rfl, rfl, rfl⟩
    refine SL.nil <| T.seq <| T.seq <| T.region <| SL.mv rfl <| SL.v (op_lenS Tryz.underlying53 rfl) <| SL.v (op_gtrT rfl rfl (by omega)) ?_
    refine SL.nil <| T.condT rfl <| T.region <| SL.mv rfl <| SL.v (op_sliceHi (l := 60) Tryz.underlying53 ty158 rfl rfl (by omega)) ?_
    refine SL.as rfl <| SL.nil <| T.seq <| T.region <| SL.mv rfl <| SL.v (op_build st118 (qs := [(0, _)]) rfl rfl) <| SL.w (op_box rfl) ?_
    rintro _ _ _ ⟨B11, rfl, rfl, rfl⟩
    refine SL.as rfl <| SL.nil <| T.seq <| T.region <| SL.mv rfl <| SL.w (op_callM en57 (vs := [_, _]) rfl (hb _) rfl) ?_
    rintro _ _ X1 ⟨_, rfl, hX1, r, A1, cp1, rfl, hr, rfl, _⟩
    obtain ⟨_, _, _, _, _, _, _, _, rfl⟩ := hr.form
    refine SL.w (op_store ty45 rfl rfl (by repeat constructor) rfl rfl rfl) ?_
    rintro _ _ _ ⟨rfl, rfl⟩
    refine SL.nil <| T.ret1 rfl (ResIs.cell rfl ty45 (by repeat constructor) rfl) ?_
    exact ⟨_, rfl, hr⟩
  · have hb := fun (b : Nat) => build_spec 11 (b := b) h hok (by omega)
    have e : l.take 60 = l := List.take_of_length_le (by omega)
    refine Spec.enter Tryz.func26 rfl Tryz.ntmps26 rfl ?_
    intro w0 hw0
    refine T.seq <| T.region <| SL.w (op_alloc z45) ?_
    rintro _ _ _ ⟨B2, rfl, rfl, rfl⟩
    refine SL.nil <| T.seq <| T.seq <| T.region <| SL.mv rfl <| SL.v (op_lenS Tryz.underlying53 rfl) <| SL.v (op_gtrF rfl rfl (by omega)) ?_
    refine SL.nil <| T.condF rfl <| T.skip <| T.seq <| T.region <| SL.mv rfl <| SL.v (op_build st118 (qs := [(0, _)]) rfl rfl) <| SL.w (op_box rfl) ?_
    rintro _ _ _ ⟨B11, rfl, rfl, rfl⟩
    refine SL.as rfl <| SL.nil <| T.seq <| T.region <| SL.mv rfl <| SL.w (op_callM en57 (vs := [_, _]) rfl (hb _) rfl) ?_
    rintro _ _ X1 ⟨_, rfl, hX1, r, A1, cp1, rfl, hr, rfl, _⟩
    obtain ⟨_, _, _, _, _, _, _, _, rfl⟩ := hr.form
    refine SL.w (op_store ty45 rfl rfl (by repeat constructor) rfl rfl rfl) ?_
    rintro _ _ _ ⟨rfl, rfl⟩
    refine SL.nil <| T.ret1 rfl (ResIs.cell rfl ty45 (by repeat constructor) rfl) ?_
    exact ⟨_, rfl, by rw [builtE, e]; exact hr⟩
end Go.Proofs.YtnabbnhefjfegaaGreatDoor
namespace Go.Proofs.YtnabbnhefjfegaaGreatDoor
section
set_option maxRecDepth 100000
theorem bs40 : ∃ i z, Tryz.prog.info? 40 = some i ∧ i.size = 4 ∧ i.zero = some z ∧ z.cells = ([.int .u8 0, .int .i64 0, .slice none 0 0, .slice none 0 0] : List Value).toArray := bs_of (by kernel_rfl)
theorem en24 : Enters Tryz.prog 24 := enters_mk Tryz.func24 (by kernel_rfl) rfl
theorem sl38 : SlT Tryz.prog 38 40 4 64 := ⟨Tryz.underlying38, sl_of (by kernel_rfl) (by decide)⟩
end
open Go.RowKit
mutual
def opsE : Ex → Prop
  | .mk op _ _ al => op < 256 ∧ opsL al
def opsL : List Ex → Prop
  | [] => True
  | a :: al => opsE a ∧ opsL al
end
theorem opsL_mem {a : Ex} : ∀ {l : List Ex}, opsL l → a ∈ l → opsE a
  | x :: l, h, hm => by
    rw [opsL] at h
    rcases List.mem_cons.1 hm with rfl | hm
    · exact h.1
    · exact opsL_mem h.2 hm
theorem opsL_app : ∀ {l m : List Ex}, opsL l → opsL m → opsL (l ++ m)
  | [], _, _, h => h
  | x :: l, m, h1, h2 => by rw [opsL] at h1; exact (show opsE x ∧ opsL (l ++ m) from ⟨h1.1, opsL_app h1.2 h2⟩)
theorem opN_lt {d op : Nat} (h : op < 256) : opN d op < 256 := by unfold opN; split <;> omega
theorem oddE_ops {x : Nd} {op : Nat} {al : List Ex} (h : op < 256) (ha : opsL al) : opsE (oddE x op al) := by
  simp only [oddE]
  split
  · exact ⟨h, opsL_app ha ⟨⟨by omega, trivial⟩, trivial⟩⟩
  · split
    · exact ⟨h, trivial⟩
    · split
      · exact ⟨h, ha⟩
      · split
        · exact ⟨h, ha⟩
        · split <;> exact ⟨h, ha⟩
theorem manyN_ops {f : List Nd → Ex × List Nd} (hf : ∀ l, (∀ x ∈ l, ndOk x) → opsE (f l).1 ∧ ∀ x ∈ (f l).2, ndOk x) {l : List Nd} (h : ∀ x ∈ l, ndOk x) : ∀ k, opsL (manyN f k l).1 ∧ ∀ x ∈ (manyN f k l).2, ndOk x
  | 0 => ⟨trivial, h⟩
  | k + 1 => by
    obtain ⟨h1, h2⟩ := manyN_ops hf h k
    obtain ⟨h3, h4⟩ := hf _ h2
    exact ⟨opsL_app h1 ⟨h3, trivial⟩, h4⟩
theorem build_ops : ∀ (d : Nat) (l : List Nd), (∀ x ∈ l, ndOk x) → opsE (buildE d l).1 ∧ ∀ x ∈ (buildE d l).2, ndOk x
  | 0, l, h => ⟨oddE_ops (opN_lt (takeN_ok h).1.1) trivial, (takeN_ok h).2⟩
  | d + 1, l, h => by
    obtain ⟨h1, h2⟩ := manyN_ops (build_ops d) (takeN_ok h).2 (argN (takeN l).1.op)
    exact ⟨oddE_ops (opN_lt (takeN_ok h).1.1) h1, h2⟩
theorem built_ops {l : List Nd} (h : ∀ x ∈ l, ndOk x) : opsE (builtE l) := (build_ops 11 _ fun x hx => h x (List.mem_of_mem_take hx)).1
abbrev S3 (b : Nat) (op : Nat) (n : Int) (vn va : Value) : Ow := ⟨b, [.int .u8 (op : Int), .int .i64 n, vn, va], 40, 4⟩
theorem expr_spec (N : Nat) : ∀ {X : PMap} {e : Ex} {r : Row4}, wtE e ≤ N → N < 100000000 → opsE e → ExR .i64 X e r → Spec Tryz.prog 24 [.agg #[r.1, r.2.1, r.2.2.1, r.2.2.2]] X fun u X' => ∃ r' : Row4, u = .agg #[r'.1, r'.2.1, r'.2.2.1, r'.2.2.2] ∧ ExR .u8 X' e r' := by
  induction N with
  | zero => intro X e r h; cases e; rw [wtE] at h; omega
  | succ N ih =>
    intro X e r hN hB hops h
    have hmx : maxLen = 9223372036854775807 := rfl
    cases h with
    | @mk op n ns al vn va rows hn ha hl hr =>
    obtain ⟨Aa, ca, rfl⟩ := ha.form
    obtain ⟨An, cn, rfl⟩ := hn.form
    have hlen := wtL_len al
    have hnl := wtS_len ns
    rw [wtE] at hN
    obtain ⟨hop, hops2⟩ : op < 256 ∧ opsL al := hops
    have hsrc := fun (own : Own) => Src.ofRow (own := own) strC_len hn
    simp only [strsC_flat] at hsrc
    refine Spec.enter Tryz.func24 rfl Tryz.ntmps24 rfl ?_
    intro w0 hw0
    refine T.seq <| T.region <| SL.w (op_box rfl) ?_
    rintro _ _ _ ⟨B1, rfl, rfl, rfl⟩
    refine SL.w (op_alloc z40) ?_
    rintro _ _ _ ⟨B2, rfl, rfl, rfl⟩
    refine SL.nil <| T.seq <| T.draw (by kernel_rfl) 11 [.t 0, .t 1, .t 2, .t 3, .t 4, .t 6, .t 7, .g 5 8 9 10] (by kernel_rfl) ?_
    refine SD.take rfl panicBody (op_fieldAddr fa45_0 rfl) rfl rfl ?_
    refine SD.take rfl panicBody (op_load ty3 rfl (by repeat constructor) rfl) rfl rfl ?_
    refine SD.take rfl panicBody (op_convU8 Tryz.underlying3 Tryz.underlying36 rfl (by omega) (by omega)) rfl rfl ?_
    refine SD.take rfl panicBody (op_fieldAddr fa45_1 rfl) rfl rfl ?_
    refine SD.take rfl panicBody (op_load ty3 rfl (by repeat constructor) rfl) rfl rfl ?_
    refine SD.take rfl panicBody (op_fieldAddr fa45_2 rfl) rfl rfl ?_
    refine SD.take rfl panicBody (op_load ty37 rfl (by repeat constructor) rfl) rfl rfl ?_
    refine SD.fork3 rfl rfl rfl rfl rfl rfl (K := (fun _ vj vk own' X' => ∃ (b1 c1 b3 : Nat), vj = .slice (some ⟨b1, 0, none⟩) ns.length c1 ∧ vk = .pointer (some ⟨b3, 0, none⟩) ∧ own' = [⟨b3, [.int .u8 0, .int .i64 0, .slice none 0 0, .slice none 0 0], 40, 4⟩, ⟨b1, strsC ns, 9, c1 * 1⟩, ⟨B2, [.int .u8 0, .int .i64 0, .slice none 0 0, .slice none 0 0], 40, 4⟩, ⟨B1, [.int .i64 (op : Int), .int .i64 n, .slice An ns.length cn, .slice Aa rows.length ca], 45, 4⟩] ∧ X = X' ∧ ns.length ≤ c1 ∧ c1 ≤ maxLen)) (vp := (fun _ vj => .agg #[.int .u8 (op : Int), .int .i64 n, vj, .slice none 0 0])) ((op_build0 (size := 1) Tryz.underlying37 bs9 rfl).mono fun _ _ _ h => (by obtain ⟨b0, rfl, rfl, rfl⟩ := h; exact ⟨⟨fun p hp => List.mem_cons_of_mem _ hp, PMap.le_refl _⟩, (op_append0 (size := 1) sl37 rfl rfl AtO.here (hsrc _) (strsC_one ns) (by omega) (by omega)).mono fun _ _ _ h => (by obtain ⟨b1, c1, rfl, rfl, rfl, h1, h2⟩ := h; exact ⟨⟨fun p hp => List.mem_cons_of_mem _ hp, PMap.le_refl _⟩, op_build st40 (qs := [(0, _), (1, _), (2, _)]) rfl rfl, (op_alloc z40).mono fun _ _ _ h => (by obtain ⟨b3, rfl, rfl, rfl⟩ := h; exact ⟨⟨fun p hp => List.mem_cons_of_mem _ (List.mem_cons_of_mem _ hp), PMap.le_refl _⟩, _, .refl _, b1, c1, b3, rfl, rfl, rfl, rfl, h1, h2⟩), (op_alloc z40).mono fun _ _ _ h => (by obtain ⟨b3, rfl, rfl, rfl⟩ := h; exact ⟨⟨fun p hp => List.mem_cons_of_mem _ (List.mem_cons_of_mem _ hp), PMap.le_refl _⟩, _, .refl _, b1, c1, b3, rfl, rfl, rfl, rfl, h1, h2⟩)⟩), (op_alloc z40).mono fun _ _ _ h => (by obtain ⟨b3, rfl, rfl, rfl⟩ := h; exact ⟨⟨fun p hp => List.mem_cons_of_mem _ (List.mem_cons_of_mem _ hp), PMap.le_refl _⟩, (op_append0 (size := 1) sl37 rfl rfl (AtO.there AtO.here) (hsrc _) (strsC_one ns) (by omega) (by omega)).mono fun _ _ _ h => (by obtain ⟨b1, c1, rfl, rfl, rfl, h1, h2⟩ := h; exact ⟨⟨fun p hp => List.mem_cons_of_mem _ (List.mem_cons_of_mem _ hp), PMap.le_refl _⟩, _, .refl _, b1, c1, b3, rfl, rfl, rfl, rfl, h1, h2⟩)⟩)⟩)) ((op_alloc z40).mono fun _ _ _ h => (by obtain ⟨b3, rfl, rfl, rfl⟩ := h; exact ⟨⟨fun p hp => List.mem_cons_of_mem _ hp, PMap.le_refl _⟩, (op_build0 (size := 1) Tryz.underlying37 bs9 rfl).mono fun _ _ _ h => (by obtain ⟨b0, rfl, rfl, rfl⟩ := h; exact ⟨⟨fun p hp => List.mem_cons_of_mem _ (List.mem_cons_of_mem _ hp), PMap.le_refl _⟩, (op_append0 (size := 1) sl37 rfl rfl AtO.here (hsrc _) (strsC_one ns) (by omega) (by omega)).mono fun _ _ _ h => (by obtain ⟨b1, c1, rfl, rfl, rfl, h1, h2⟩ := h; exact ⟨⟨fun p hp => List.mem_cons_of_mem _ (List.mem_cons_of_mem _ hp), PMap.le_refl _⟩, _, .swap _ _ _, b1, c1, b3, rfl, rfl, rfl, rfl, h1, h2⟩)⟩)⟩)) (fun vi vj vk _ _ h => (by obtain ⟨b1, c1, b3, rfl, rfl, rfl, rfl, h1, h2⟩ := h; exact op_build st40 (qs := [(0, _), (1, _), (2, _)]) rfl rfl)) ?_
    rintro _ _ _ _ _ ⟨b1, c1, b3, rfl, rfl, rfl, rfl, hc1, hc2⟩
    refine SD.nil ?_
    show SL _ _ _ _ _ _ _ [_] _ _ _
    refine SL.w (op_store ty40 rfl rfl (by repeat constructor) rfl rfl rfl) ?_
    rintro _ _ _ ⟨rfl, rfl⟩
    refine SL.nil <| T.seq <| T.seq <| T.region <| SL.v (op_fieldAddr fa45_3 rfl) <| SL.v (op_load ty43 rfl (by repeat constructor) rfl) ?_
    refine SL.v (op_lenS Tryz.underlying43 rfl) <| SL.v (op_move (v := .int .i64 ((0 : Nat) : Int)) rfl) <| SL.nil <| T.block <| T.pub b1 (by repeat constructor) ?_
    intro Y1 hY1 hB1 _
    have hN : RowR strC Y1 (.slice (some ⟨b1, 0, none⟩) ns.length c1) ns := by
      rcases Nat.eq_zero_or_pos ns.length with h0 | h0
      · exact .inl ⟨List.eq_nil_of_length_eq_zero h0, _, _, by rw [h0]⟩
      · exact .inr ⟨h0, b1, c1, [], rfl, by rw [strsC_flat]; exact hB1, hc1, hc2⟩
    generalize Value.slice (some ⟨b1, 0, none⟩) ns.length c1 = vn at *
    obtain ⟨An1, cn1, rfl⟩ := hN.form
    refine T.drop B1 (by repeat constructor) ?_
    refine T.loopW (fun m env own X' => ∃ (i : Nat) (va : Value) (Ga : Own) (rs : List Row4), m = rows.length - i ∧ i ≤ rows.length ∧ Y1.le X' ∧ rs.length = i ∧ GrowS 40 4 va rs.length (rs.map rc4).flatten Ga ∧ (∀ (q : Nat) (a : Ex) (r : Row4), al[q]? = some a → rs[q]? = some r → ExR .u8 X' a r) ∧ env = [(2, .pointer (some ⟨B2, 0, none⟩)), (3, .pointer (some ⟨b3, 0, none⟩)), (17, .slice Aa rows.length ca), (18, .int .i64 (rows.length : Int)), (19, .int .i64 (i : Int))] ∧ own = S3 b3 op n (.slice An1 ns.length cn1) va :: S3 B2 0 0 (.slice none 0 0) (.slice none 0 0) :: Ga) rows.length ⟨0, _, [], [], by simp, by omega, PMap.le_refl _, rfl, GrowS.nil, fun q a r _ h => by simp at h, rfl, rfl⟩ (by repeat (first | exact Sub.nil | refine Sub.cons rfl ?_)) ?_
    rintro m _ _ X1 ⟨i, va, Ga, rs, rfl, hi, hX1, hrsl, hGa, hrs, rfl, rfl⟩
    rcases Nat.lt_or_ge i rows.length with hil | hil
    · obtain ⟨r2, hr2⟩ : ∃ r2, rows[i]? = some r2 := ⟨_, List.getElem?_eq_getElem hil⟩
      obtain ⟨a, ha2⟩ : ∃ a, al[i]? = some a := ⟨_, List.getElem?_eq_getElem (by omega)⟩
      have hra := hr i a r2 ha2 hr2
      obtain ⟨bA, pre, rfl, hbA⟩ := ha.blk (by omega)
      obtain ⟨_, _, _, _, _, _, _, _, rfl⟩ := hra.form
      have hma := List.mem_of_getElem? ha2
      have hwa := wtL_mem hma
      refine T.seq <| T.region <| SL.v (op_lssT rfl rfl (by omega)) ?_
      refine SL.nil <| T.seq <| T.condT rfl <| T.skip <| T.seq <| T.block <| T.seq <| T.region <| SL.v (op_indexN Tryz.underlying43 ty45 rfl rfl (by omega)) ?_
      refine SL.v (op_loadX ty45 rfl ((hbA.mono hY1).mono hX1) (row_read rc4_len hr2 (by omega))) ?_
      refine SL.w (op_alloc z45) ?_
      rintro _ _ _ ⟨B5, rfl, rfl, rfl⟩
      refine SL.w (op_store ty45 rfl rfl (by repeat constructor) rfl rfl rfl) ?_
      rintro _ _ _ ⟨rfl, rfl⟩
      refine SL.nil <| T.drawG (own0 := [_, _, _]) (by kernel_rfl) 5 [.t 0, .t 1, .t 2, .r 3, .r 4] (by kernel_rfl) ?_
      refine SD.take rfl panicBody (op_fieldAddr fa40_3 rfl) rfl rfl ?_
      refine SD.take rfl panicBody (op_load ty38 rfl (by repeat constructor) rfl) rfl rfl ?_
      refine SD.take rfl panicBody (op_load ty45 rfl (by repeat constructor) rfl) rfl rfl ?_
      refine SD.run rfl (op_callF en24 (vs := [_]) rfl (ih (by omega) (by omega) (opsL_mem hops2 hma) ((hra.mono hY1).mono hX1))) rfl rfl ?_
      rintro _ _ X2 ⟨rfl, hX2, r8, rfl, hr8⟩
      obtain ⟨o8, n8, a8, b8, l8, c8, l9, c9, rfl⟩ := hr8.form
      refine SD.run rfl (op_buildSlice Tryz.underlying38 bs40 (qs := [(0, _)]) rfl rfl rfl rfl rfl) rfl rfl ?_
      rintro _ _ _ ⟨B27, rfl, rfl, rfl⟩
      refine SD.nil ?_
      show SL _ _ _ _ _ _ _ [_, _, _] _ _ _
      refine SL.w (op_appendGA (own0 := [_, _, _, _]) (m := 1) sl38 rfl hGa rfl (Src.ofOwn0 AtO.here rfl) (by intro y hy; have hy : y ∈ [Value.int _ _, Value.int _ _, Value.slice _ _ _, Value.slice _ _ _] := hy; simp only [List.mem_cons, List.not_mem_nil, or_false] at hy; rcases hy with rfl | rfl | rfl | rfl <;> rfl) (by omega) (by omega)) ?_
      rintro va9 _ _ ⟨Ga9, rfl, rfl, hGa9⟩
      obtain ⟨Aa9, ca9, rfl⟩ := hGa9.form
      refine SL.v (op_fieldAddr fa40_3 rfl) <| SL.w (op_store ty38 rfl rfl (by repeat constructor) rfl rfl rfl) ?_
      rintro _ _ _ ⟨rfl, rfl⟩
      refine SL.nil <| T.blk <| T.region <| SL.v (op_addN (q := 1) rfl rfl (by omega)) ?_
      refine SL.mv rfl <| SL.nil <| T.less (List.sublist_cons_self _ _) ?_
      refine T.less (List.sublist_cons_self _ _) ?_
      have hGa10 : GrowS 40 4 (.slice Aa9 (rs.length + 1) ca9) (rs ++ [((.int .u8 (o8 : Int), .int .i64 n8, .slice a8 l8 c8, .slice b8 l9 c9) : Row4)]).length (((rs ++ [((.int .u8 (o8 : Int), .int .i64 n8, .slice a8 l8 c8, .slice b8 l9 c9) : Row4)]).map rc4).flatten) Ga9 := by
        rw [List.length_append, List.map_append, List.flatten_append]
        exact hGa9
      have hrows2 : ∀ (q : Nat) (a : Ex) (r : Row4), al[q]? = some a → (rs ++ [((.int .u8 (o8 : Int), .int .i64 n8, .slice a8 l8 c8, .slice b8 l9 c9) : Row4)])[q]? = some r → ExR .u8 X2 a r := by
        intro q a' r hq hr'
        rcases Nat.lt_or_ge q i with hik | hik
        · rw [List.getElem?_append_left (by omega)] at hr'
          exact (hrs q a' r hq hr').mono hX2
        · have hik2 : q = i := by
            have := (List.getElem?_eq_some_iff.1 hr').1
            rw [List.length_append] at this; simp at this; omega
          subst hik2
          rw [List.getElem?_append_right (by omega), hrsl, Nat.sub_self] at hr'
          simp only [List.getElem?_cons_zero, Option.some.injEq] at hr'
          rw [ha2] at hq
          cases hq
          subst hr'
          exact hr8
      exact T.backW (rows.length - (i + 1)) (by omega) ⟨i + 1, _, _, rs ++ [(.int .u8 (o8 : Int), .int .i64 n8, .slice a8 l8 c8, .slice b8 l9 c9)], rfl, by omega, hX1.trans' hX2, by rw [List.length_append, hrsl]; rfl, hGa10, hrows2, rfl, rfl⟩ (by repeat (first | exact Sub.nil | refine Sub.cons rfl ?_))
    · obtain rfl : i = rows.length := by omega
      obtain ⟨Aa8, ca8, rfl⟩ := hGa.form
      refine T.seq <| T.region <| SL.v (op_lssF rfl rfl (by omega)) ?_
      refine SL.nil <| T.seq <| T.condF rfl ?_
      refine T.exit (T.exitCode (T.exitCut (T.exitBlk ?_)))
      refine T.seq <| T.region <| SL.v (op_load ty40 rfl (by repeat constructor) rfl) ?_
      refine SL.w (op_store ty40 rfl rfl (by repeat constructor) rfl rfl rfl) ?_
      rintro _ _ _ ⟨rfl, rfl⟩
      refine SL.nil <| T.pubG (own0 := [_, _]) hGa ?_
      intro X9 hX9 hS9
      refine T.ret1 rfl (ResIs.cell rfl ty40 (by repeat constructor) rfl) ?_
      have hA : RowR rc4 X9 (.slice Aa8 rs.length ca8) rs := RowR.ofG hGa hS9
      exact ⟨(.int .u8 (op : Int), .int .i64 n, .slice An1 ns.length cn1, .slice Aa8 rs.length ca8), rfl, .mk ((hN.mono hX1).mono hX9) hA (hrsl.trans hl) (fun q a r h1 h2 => (hrs q a r h1 h2).mono hX9)⟩
end Go.Proofs.YtnabbnhefjfegaaGreatDoor
namespace Go.Proofs.YtnabbnhefjfegaaGreatDoor
section
set_option maxRecDepth 100000
theorem fa137_0 : FAdr Tryz.prog 137 0 0 := fadr_mk Tryz.underlying137 rfl rfl (by kernel_rfl)
theorem ty135 : Ty Tryz.prog 135 false 1 := ⟨⟨_, Tryz.underlying135, rfl⟩, by kernel_rfl⟩
end
open Go.RowKit
section
variable {ro : Option Nat} {P : Program} {n : NM} {w0 : Base} {X0 X : PMap} {own : Own} {env : Env}
/-- A part of a string. -/
theorem op_sliceStr {t : TypeId} {x lo hi : Operand} {s : ByteArray} {l h : Nat} {k k' : IntKind} (ht : P.underlying t = some .string) (hx : eev env x = some (.string s)) (hl : eev env lo = some (.int k (l : Int))) (hh : eev env hi = some (.int k' (h : Int))) (h1 : l ≤ h) (h2 : h ≤ s.size) :
    OpY P n env own X (.slice t x (some lo) (some hi) none) (.string (s.extract l h)) := by
  intro a W oper hop ha _
  have hb : (Instr.sliceBounds false s.size s.size (some (.int k (l : Int))) (some (.int k' (h : Int))) none).run P W = .ok (l, h, s.size) W := by
    simp [Instr.sliceBounds, Instr.sliceBound, asIntOf, h2, h1]
  have : (Instr.sliceAt t (.string s) (some (.int k (l : Int))) (some (.int k' (h : Int))) none).run P W = .ok (.string (s.extract l h)) W := by
    simp only [Instr.sliceAt, Sem.run_bind, run_underlying ht, Result.andThen_ok, Instr.slice]
    simp [hb]
  simp [execOp, hop, ha.eval hx, ha.eval hl, ha.eval hh, this]
end
/-- A builder. -/
abbrev BldO (b : Nat) (p s : Value) : Ow := ⟨b, [p, s], 137, 2⟩
theorem copyCheck_spec {X : PMap} {b : Nat} {p s : Value} (hp : p = .pointer none ∨ p = .pointer (some ⟨b, 0, none⟩)) : SpecM Tryz.prog 132 [.pointer (some ⟨b, 0, none⟩)] X [BldO b p s] fun u L' _ => u = .tuple #[] ∧ L' = [BldO b (.pointer (some ⟨b, 0, none⟩)) s] := by
  rcases hp with rfl | rfl
  · refine SpecM.enter Tryz.func132 rfl Tryz.ntmps132 rfl ?_
    intro w0 X0 own0
    refine T.seq <| T.region <| SL.mv rfl <| SL.v (op_nil rfl) <| SL.v (op_fieldAddr fa137_0 rfl) <| SL.v (op_load ty135 rfl (by repeat constructor) rfl) ?_
    refine SL.v (op_eqlNil Tryz.underlying135 rfl rfl) <| SL.nil <| T.condT rfl <| T.region <| SL.mv rfl <| SL.mv rfl <| SL.v (op_toUns (size := 1) Tryz.underlying135 Tryz.underlying180 (by kernel_rfl) rfl AtO.here (by omega)) ?_
    refine SL.v (op_noEsc Tryz.func152 (by kernel_rfl) (by kernel_rfl) (by kernel_rfl) (by kernel_rfl) rfl) ?_
    refine SL.v (op_fromUns (size := 2) Tryz.underlying180 Tryz.underlying135 (by kernel_rfl) rfl AtO.here (by kernel_rfl)) ?_
    refine SL.v (op_nil rfl) <| SL.v (op_fieldAddr fa137_0 rfl) <| SL.w (op_store ty135 rfl rfl (by repeat constructor) rfl rfl rfl) ?_
    rintro _ _ _ ⟨rfl, rfl⟩
    refine SL.nil <| T.doneM0 [BldO b (.pointer (some ⟨b, 0, none⟩)) s] rfl (List.Perm.refl _) ?_
    exact ⟨PMap.le_refl _, rfl, rfl⟩
  · refine SpecM.enter Tryz.func132 rfl Tryz.ntmps132 rfl ?_
    intro w0 X0 own0
    refine T.seq <| T.region <| SL.mv rfl <| SL.v (op_nil rfl) <| SL.v (op_fieldAddr fa137_0 rfl) <| SL.v (op_load ty135 rfl (by repeat constructor) rfl) ?_
    refine SL.v (op_eqlNil Tryz.underlying135 rfl rfl) <| SL.nil <| T.condF rfl <| T.seq <| T.region <| SL.mv rfl <| SL.v (op_nil rfl) <| SL.v (op_fieldAddr fa137_0 rfl) <| SL.v (op_load ty135 rfl (by repeat constructor) rfl) ?_
    refine SL.mv rfl <| SL.v (op_neqSame (size := 2) Tryz.underlying135 (by kernel_rfl) rfl rfl) ?_
    refine SL.nil <| T.condF rfl <| T.skip <| T.doneM0 [BldO b (.pointer (some ⟨b, 0, none⟩)) s] rfl (List.Perm.refl _) ?_
    exact ⟨PMap.le_refl _, rfl, rfl⟩
end Go.Proofs.YtnabbnhefjfegaaGreatDoor
namespace Go.Proofs.YtnabbnhefjfegaaGreatDoor
section
set_option maxRecDepth 100000
theorem en132 : Enters Tryz.prog 132 := enters_mk Tryz.func132 (by kernel_rfl) rfl
theorem fa137_1 : FAdr Tryz.prog 137 1 1 := fadr_mk Tryz.underlying137 rfl rfl (by kernel_rfl)
theorem ty64 : Ty Tryz.prog 64 false 1 := ⟨⟨_, Tryz.underlying64, rfl⟩, by kernel_rfl⟩
end
open Go.RowKit
/-- The builder's bytes. -/
def BufG (l : List UInt8) (s : Value) (G : Own) : Prop := GrowS 5 1 s l.length (Lib.byteCells l) G
theorem builderString_spec {X : PMap} {b : Nat} {p s : Value} {G : Own} {l : List UInt8} (hG : BufG l s G) (h0 : l ≠ []) (hl : l.length < 1000000000) :
    SpecM Tryz.prog 80 [.pointer (some ⟨b, 0, none⟩)] X (BldO b p s :: G) fun u L' _ => u = .string ⟨l.toArray⟩ ∧ L' = [BldO b p s] := by
  rcases hG with ⟨hz, _⟩ | ⟨g, cap, rfl, rfl, hc1, hc2, hc3⟩
  · exact absurd (List.eq_nil_of_length_eq_zero hz) h0
  have hpos : 0 < l.length := List.length_pos_iff.2 h0
  refine SpecM.enter Tryz.func80 rfl Tryz.ntmps80 rfl ?_
  intro w0 X0 own0
  refine T.perm (own' := (BldO b p (.slice (some ⟨g, 0, none⟩) l.length cap) :: own0) ++ [⟨g, Lib.byteCells l, 5, cap * 1⟩]) permC ?_
  refine T.seq <| T.region <| SL.as rfl <| SL.nil <| T.seq <| T.drawG (own0 := BldO b p (.slice (some ⟨g, 0, none⟩) l.length cap) :: own0) (by kernel_rfl) 12 [.t 0, .t 1, .t 2, .t 3, .t 4, .t 5, .t 6, .t 7, .t 8, .t 9, .r 10, .t 11] (by kernel_rfl) ?_
  refine SD.take rfl panicBody (op_move rfl) rfl rfl ?_
  refine SD.take rfl panicBody (op_nil rfl) rfl rfl ?_
  refine SD.take rfl panicBody (op_fieldAddr fa137_1 rfl) rfl rfl ?_
  refine SD.take rfl panicBody (op_load ty64 rfl (by repeat constructor) rfl) rfl rfl ?_
  refine SD.take rfl panicBody (op_sliceData rfl (by omega)) rfl rfl ?_
  refine SD.take rfl panicBody (op_move rfl) rfl rfl ?_
  refine SD.take rfl panicBody (op_nil rfl) rfl rfl ?_
  refine SD.take rfl panicBody (op_fieldAddr fa137_1 rfl) rfl rfl ?_
  refine SD.take rfl panicBody (op_load ty64 rfl (by repeat constructor) rfl) rfl rfl ?_
  refine SD.take rfl panicBody (op_lenS Tryz.underlying64 rfl) rfl rfl ?_
  refine SD.runK rfl (op_unsafeStr Tryz.underlying174 (by kernel_rfl) rfl rfl h0 hc1 hc2) (by rintro _ _ _ ⟨rfl, rfl, rfl⟩; exact ⟨fun p hp => hp, PMap.le_refl _⟩) rfl rfl ?_
  rintro _ _ _ ⟨rfl, rfl, rfl⟩
  refine SD.take rfl panicBody (op_assign rfl) rfl rfl ?_
  refine SD.nil ?_
  show SL _ _ _ _ _ _ _ [] _ _ _
  refine SL.nil <| T.retM1 [BldO b p (.slice (some ⟨g, 0, none⟩) l.length cap)] rfl (ResIs.tmp rfl) (List.Perm.refl _) ?_
  exact ⟨PMap.le_refl _, rfl, rfl⟩
end Go.Proofs.YtnabbnhefjfegaaGreatDoor
namespace Go.Proofs.YtnabbnhefjfegaaGreatDoor
section
set_option maxRecDepth 100000
theorem en133 : Enters Tryz.prog 133 := enters_mk Tryz.func133 (by kernel_rfl) rfl
theorem en77 : Enters Tryz.prog 77 := enters_mk Tryz.func77 (by kernel_rfl) rfl
theorem en78 : Enters Tryz.prog 78 := enters_mk Tryz.func78 (by kernel_rfl) rfl
theorem en80 : Enters Tryz.prog 80 := enters_mk Tryz.func80 (by kernel_rfl) rfl
theorem z137 : Zero Tryz.prog 137 [.pointer none, .slice none 0 0] := ⟨zero_of (by kernel_rfl)⟩
end
open Go.RowKit
section
variable {P : Program} {n : NM} {w0 : Base} {X0 X : PMap} {own : Own} {env : Env}
/-- append of a string onto nil. -/
theorem op_appendStrNil {t u e : TypeId} {s x : Operand} {str : ByteArray} (ht : P.underlying t = some (.slice e)) (hu : P.underlying u = some .string) (hi : ∃ i, P.info? e = some i ∧ i.zero = some (.int .u8 0) ∧ i.size = 1 ∧ i.bytes = 1) (hs : eev env s = some (.slice none 0 0)) (hx : eev env x = some (.string str))
    (h0 : 0 < str.size) (hby : str.size ≤ 140737488355328) :
    OpX P n w0 X0 env own X (.call { callee := .builtin .append, args := #[s, x], argTypes := #[t, u] }) false fun v own' X' => ∃ b cap, v = .slice (some ⟨b, 0, none⟩) str.size cap ∧ own' = ⟨b, Lib.strCells str, e, cap * 1⟩ :: own ∧ X = X' ∧ str.size ≤ cap ∧ cap ≤ maxLen := by
  intro a W oper K Q ro hop ha hsat hK
  obtain ⟨i, i1, i2, i3, i4⟩ := hi
  have hmx : maxLen = 9223372036854775807 := rfl
  have hr := run_append_nil_string (P := P) W t u oper.type e i (.int .u8 0) ht hu i1 i2 str h0 (by omega) (by rw [i4]; omega)
  have hcap := grownCap_ge W str.size 0 e
  have hcm := grownCap_le_maxLen W str.size 0 e (by omega)
  generalize grownCap W str.size 0 e = cap at *
  have hcells : (str.data.map (fun b => Value.int .u8 b.toNat) ++ Builtin.zeroCells (Value.int .u8 0).cells (cap - str.size)) = (Lib.strCells str ++ List.replicate (cap - str.size) (Value.int .u8 0)).toArray := by
    apply Array.ext'
    simp [Lib.strCells, Builtin.zeroCells, Value.cells]
    apply List.ext_getElem
    · simp
    · intro q h1 h2
      simp [Nat.mod_one]
  rw [hcells] at hr
  have hlen : (Lib.strCells str ++ List.replicate (cap - str.size) (Value.int .u8 0)).length = cap * 1 := by
    rw [List.length_append, Lib.strCells_length, List.length_replicate]; omega
  have h1 := (hsat.draw (W.drawn + 1)).alloc (Lib.strCells str ++ List.replicate (cap - str.size) (Value.int .u8 0)) e
  rw [hlen] at h1
  have h2 := h1.less (j := 0) rfl
  have hex : (execOp a.eval oper).run P W = .ok (.value (.slice (some ⟨W.heap.size, 0, none⟩) str.size cap)) (W.drew.alloc (.cells (Lib.strCells str ++ List.replicate (cap - str.size) (Value.int .u8 0)).toArray e)) := by
    simp only [execOp, hop, resolve, invoke, builtin, Sem.run_bind, Sem.run_pure, Result.andThen_ok, List.map_toArray, List.map_cons, List.map_nil, ha.eval hs, ha.eval hx, hr]
  exact wp_value (noDefer_spec (by rw [hop]; rfl)) hex (hK _ _ X _ ⟨_, cap, rfl, rfl, rfl, hcap, hcm⟩ h2 (fun h => by cases h))
/-- bytealg.MakeNoZero: a new row whose bytes nobody knows. -/
theorem op_makeNoZero {f : FuncId} {gn : Func} {x : Operand} {ts ps : Array TypeId} {t e : TypeId} {k : Nat} (hf : P.funcs[f]? = some gn) (h1 : (gn.name == "runtime.NumGoroutine") = false) (h2 : gn.body.isNone = true) (h3 : Extern.findNext gn = none) (h4 : Extern.find gn = some (Extern.BytealgMakeNoZero.makeNoZero ps #[t]))
    (ht : P.underlying t = some (.slice e)) (hx : eev env x = some (.int .i64 (k : Int))) (hk : k ≤ 281474976710656) :
    OpX P n w0 X0 env own X (.call { callee := .value (.func f), args := #[x], argTypes := ts }) false fun v own' X' => ∃ b cap, v = .slice (some ⟨b, 0, none⟩) k cap ∧ own' = ⟨b, [], e, cap * 1⟩ :: own ∧ X = X' ∧ k ≤ cap ∧ cap ≤ maxLen := by
  intro a W oper K Q ro hop ha hsat hK
  have hmx : maxLen = 9223372036854775807 := rfl
  obtain ⟨cs, hr, hc1, hc2⟩ := Lib.run_makeNoZero (P := P) W ps t e ht k hk
  have hc : a.eval (.func f) = .func (.func f) #[] #[] := ha.eval rfl
  have hr2 := run_callFunc_extern hf h1 h2 h3 h4 #[.int .i64 (k : Int)] W
  rw [hr] at hr2
  have hex : (execOp a.eval oper).run P W = .ok (.value (.slice (some ⟨W.heap.size, 0, none⟩) k cs.size)) (W.drew.drew.alloc (.cells cs e)) := by
    simp only [execOp, hop, resolve, hc, Deferred.ofValue, invoke, Sem.run_bind, Sem.run_pure, Result.andThen_ok]
    simpa [ha.eval hx] using hr2
  have s1 := ((hsat.draw (W.drawn + 1)).draw (W.drawn + 1 + 1)).alloc cs.toList e
  rw [show cs.toList.length = cs.size * 1 by simp] at s1
  have s2 := s1.less (j := 0) (cs := []) (ds := cs.toList) rfl
  exact wp_value (noDefer_spec (by rw [hop]; rfl)) hex (hK _ _ X _ ⟨_, cs.size, rfl, rfl, rfl, hc1, hc2 (by omega)⟩ s2 (fun h => by cases h))
end
/-- WriteString, whatever the builder holds. -/
theorem writeStr_spec {X : PMap} {b : Nat} {p s : Value} {G : Own} {l : List UInt8} {t : ByteArray} (hp : p = .pointer none ∨ p = .pointer (some ⟨b, 0, none⟩)) (hG : BufG l s G) (hl : l.length < 1000000000) (ht : t.size < 1000000000) (h0 : 0 < t.size) :
    SpecM Tryz.prog 78 [.pointer (some ⟨b, 0, none⟩), .string t] X (BldO b p s :: G) fun u L' _ => u = .tuple #[.int .i64 (t.size : Int), .nilIface] ∧ ∃ s' G', L' = BldO b (.pointer (some ⟨b, 0, none⟩)) s' :: G' ∧ BufG (l ++ t.data.toList) s' G' := by
  have hts : t.data.toList.length = t.size := by simp
  rcases hG with ⟨hz, hcs, rfl, rfl⟩ | ⟨g, cap, rfl, rfl, hc1, hc2, hc3⟩
  · obtain rfl : l = [] := List.eq_nil_of_length_eq_zero hz
    refine SpecM.enter Tryz.func78 rfl Tryz.ntmps78 rfl ?_
    intro w0 X0 own0
    refine T.perm (own' := BldO b p (.slice none 0 0) :: own0) (List.Perm.refl _) ?_
    refine T.seq <| T.region <| SL.v (op_assign (v := .int .i64 ((0 : Nat) : Int)) rfl) <| SL.as rfl <| SL.nil <| T.seq <| T.region <| SL.mv rfl <| SL.w (op_callM en132 (vs := [_]) rfl (copyCheck_spec hp) rfl) ?_
    rintro _ _ X1 ⟨_, rfl, hX1, rfl, rfl⟩
    refine SL.nil <| T.seq <| T.region <| SL.mv rfl <| SL.mv rfl <| SL.v (op_nil rfl) <| SL.v (op_fieldAddr fa137_1 rfl) <| SL.v (op_load ty64 rfl (by repeat constructor) rfl) ?_
    refine SL.mv rfl <| SL.w (op_appendStrNil Tryz.underlying64 Tryz.underlying9 (infoStr_of (by kernel_rfl)) rfl rfl h0 (by omega)) ?_
    rintro _ _ _ ⟨g, cap, rfl, rfl, rfl, hc1, hc2⟩
    refine SL.v (op_nil rfl) <| SL.v (op_fieldAddr fa137_1 rfl) <| SL.w (op_store ty64 rfl rfl (by repeat constructor) rfl rfl rfl) ?_
    rintro _ _ _ ⟨rfl, rfl⟩
    refine SL.nil <| T.seq <| T.region <| SL.mv rfl <| SL.v (op_lenStr Tryz.underlying9 rfl) <| SL.as rfl <| SL.as rfl <| SL.nil <| T.retM2 (BldO b (.pointer (some ⟨b, 0, none⟩)) _ :: [_]) rfl (ResIs.tmp rfl) (ResIs.tmp rfl) (List.Perm.swap _ _ _) ?_
    refine ⟨hX1, rfl, _, _, rfl, ?_⟩
    rw [BufG, List.nil_append, hts]
    exact .inr ⟨g, cap, rfl, rfl, hc1, hc2, by rw [Lib.byteCells_length, hts]; omega⟩
  · refine SpecM.enter Tryz.func78 rfl Tryz.ntmps78 rfl ?_
    intro w0 X0 own0
    show T _ _ _ _ _ _ _ _ _ (BldO b p _ :: ([_] ++ own0)) _
    refine T.seq <| T.region <| SL.v (op_assign (v := .int .i64 ((0 : Nat) : Int)) rfl) <| SL.as rfl <| SL.nil <| T.seq <| T.region <| SL.mv rfl <| SL.w (op_callM en132 (vs := [_]) rfl (copyCheck_spec hp) rfl) ?_
    rintro _ _ X1 ⟨_, rfl, hX1, rfl, rfl⟩
    refine SL.nil <| T.seq <| T.region <| SL.mv rfl <| SL.mv rfl <| SL.v (op_nil rfl) <| SL.v (op_fieldAddr fa137_1 rfl) <| SL.v (op_load ty64 rfl (by repeat constructor) rfl) ?_
    refine SL.mv rfl <| SL.perm (own' := (BldO b (.pointer (some ⟨b, 0, none⟩)) (.slice (some ⟨g, 0, none⟩) l.length cap) :: own0) ++ [⟨g, Lib.byteCells l, 5, cap * 1⟩]) (permA (G := [_])) ?_
    refine SL.w (op_appendStr (own := BldO b (.pointer (some ⟨b, 0, none⟩)) (.slice (some ⟨g, 0, none⟩) l.length cap) :: own0) Tryz.underlying64 Tryz.underlying9 (infoStr_of (by kernel_rfl)) rfl rfl hc1 hc2 hc3 (by omega)) ?_
    rintro s' _ _ ⟨G', rfl, rfl, hG', _⟩
    obtain ⟨As', cps', rfl⟩ := hG'.form
    refine SL.v (op_nil rfl) <| SL.v (op_fieldAddr fa137_1 rfl) <| SL.w (op_store ty64 rfl rfl (by repeat constructor) rfl rfl rfl) ?_
    rintro _ _ _ ⟨rfl, rfl⟩
    refine SL.nil <| T.seq <| T.region <| SL.mv rfl <| SL.v (op_lenStr Tryz.underlying9 rfl) <| SL.as rfl <| SL.as rfl <| SL.nil <| T.retM2 (BldO b (.pointer (some ⟨b, 0, none⟩)) _ :: G') rfl (ResIs.tmp rfl) (ResIs.tmp rfl) permD ?_
    refine ⟨hX1, rfl, _, G', rfl, ?_⟩
    have e : Lib.byteCells (l ++ t.data.toList) = Lib.byteCells l ++ Lib.strCells t := by rw [Lib.byteCells_append]; rfl
    rw [BufG, e, List.length_append, hts]
    exact hG'
theorem growB_spec {X : PMap} {b : Nat} {p : Value} {k : Nat} (hk : k < 1000000000) (hk0 : 0 < k) : SpecM Tryz.prog 133 [.pointer (some ⟨b, 0, none⟩), .int .i64 (k : Int)] X [BldO b p (.slice none 0 0)] fun _ L' _ => ∃ s G, L' = BldO b p s :: G ∧ BufG [] s G := by
  refine SpecM.enter Tryz.func133 rfl Tryz.ntmps133 rfl ?_
  intro w0 X0 own0
  refine T.perm (own' := BldO b p (.slice none 0 0) :: own0) (List.Perm.refl _) ?_
  refine T.seq <| T.draw (by kernel_rfl) 16 [.t 0, .t 1, .t 2, .t 3, .t 4, .t 5, .t 6, .t 7, .t 9, .t 10, .t 11, .t 12, .t 13, .r 8, .t 14, .t 15] (by kernel_rfl) ?_
  refine SD.take rfl panicBody (op_move rfl) rfl rfl ?_
  refine SD.take rfl panicBody (op_nil rfl) rfl rfl ?_
  refine SD.take rfl panicBody (op_fieldAddr fa137_1 rfl) rfl rfl ?_
  refine SD.take rfl panicBody (op_load ty64 rfl (by repeat constructor) rfl) rfl rfl ?_
  refine SD.take rfl panicBody (op_capS Tryz.underlying64 rfl) rfl rfl ?_
  refine SD.take rfl panicBody (op_mulN (p := 2) (q := 0) rfl rfl (by omega)) rfl rfl ?_
  refine SD.take rfl panicBody (op_move rfl) rfl rfl ?_
  refine SD.take rfl panicBody (op_addN (p := 2 * 0) rfl rfl (by omega)) rfl rfl ?_
  refine SD.take rfl panicBody (op_move rfl) rfl rfl ?_
  refine SD.take rfl panicBody (op_nil rfl) rfl rfl ?_
  refine SD.take rfl panicBody (op_fieldAddr fa137_1 rfl) rfl rfl ?_
  refine SD.take rfl panicBody (op_load ty64 rfl (by repeat constructor) rfl) rfl rfl ?_
  refine SD.take rfl panicBody (op_lenS Tryz.underlying64 rfl) rfl rfl ?_
  refine SD.runK rfl (op_makeNoZero (ps := #[3]) (k := 2 * 0 + k) Tryz.func153 (by kernel_rfl) (by kernel_rfl) (by kernel_rfl) (by kernel_rfl) Tryz.underlying64 rfl (by omega)) (by rintro _ _ _ ⟨g, cap, rfl, rfl, rfl, _, _⟩; exact ⟨fun p hp => List.mem_cons_of_mem _ hp, PMap.le_refl _⟩) rfl rfl ?_
  rintro _ _ _ ⟨g, cap, rfl, rfl, rfl, hc1, hc2⟩
  refine SD.take rfl panicBody (op_sliceHiN (l := 0) Tryz.underlying64 ty5 rfl rfl rfl (by omega)) rfl rfl ?_
  refine SD.take rfl panicBody (op_assign rfl) rfl rfl ?_
  refine SD.nil ?_
  show SL _ _ _ _ _ _ _ [] _ _ _
  refine SL.nil <| T.seq <| T.region <| SL.mv rfl <| SL.mv rfl <| SL.v (op_nil rfl) <| SL.v (op_fieldAddr fa137_1 rfl) <| SL.v (op_load ty64 rfl (by repeat constructor) rfl) ?_
  refine SL.w (op_copyS (m := 0) (size := 1) (sl := 0) (news := []) Tryz.underlying64 (by kernel_rfl) rfl rfl AtO.here Src.nil rfl (by simp) (fun _ h => by cases h)) ?_
  rintro _ _ _ ⟨rfl, rfl, rfl⟩
  refine SL.nil <| T.region <| SL.mv rfl <| SL.mv rfl <| SL.v (op_nil rfl) <| SL.v (op_fieldAddr fa137_1 rfl) <| SL.w (op_store ty64 rfl rfl (by repeat constructor) rfl rfl rfl) ?_
  rintro _ _ _ ⟨rfl, rfl⟩
  refine SL.nil <| T.doneM0 (BldO b p _ :: [_]) rfl (List.Perm.swap _ _ _) ?_
  exact ⟨PMap.le_refl _, _, _, rfl, .inr ⟨g, cap, rfl, rfl, Nat.zero_le _, hc2, rfl⟩⟩
/-- Grow of a builder that holds nothing. -/
theorem growBld_spec {X : PMap} {b : Nat} {p : Value} {k : Nat} (hp : p = .pointer none ∨ p = .pointer (some ⟨b, 0, none⟩)) (hk : k < 1000000000) (hk0 : 0 < k) : SpecM Tryz.prog 77 [.pointer (some ⟨b, 0, none⟩), .int .i64 (k : Int)] X [BldO b p (.slice none 0 0)] fun _ L' _ => ∃ s G, L' = BldO b (.pointer (some ⟨b, 0, none⟩)) s :: G ∧ BufG [] s G := by
  refine SpecM.enter Tryz.func77 rfl Tryz.ntmps77 rfl ?_
  intro w0 X0 own0
  refine T.perm (own' := [BldO b p (.slice none 0 0)] ++ own0) (List.Perm.refl _) ?_
  refine T.seq <| T.region <| SL.mv rfl <| SL.w (op_callM en132 (vs := [_]) rfl (copyCheck_spec hp) rfl) ?_
  rintro _ _ X1 ⟨_, rfl, hX1, rfl, rfl⟩
  refine SL.nil <| T.seq <| T.seq <| T.region <| SL.mv rfl <| SL.v (op_lssF rfl rfl (by omega)) ?_
  refine SL.nil <| T.condF rfl <| T.skip <| T.seq <| T.draw (by kernel_rfl) 13 [.t 0, .t 1, .t 2, .t 3, .t 4, .t 5, .t 6, .t 7, .t 8, .t 9, .t 10, .t 11, .t 12] (by kernel_rfl) ?_
  refine SD.take rfl panicBody (op_move rfl) rfl rfl ?_
  refine SD.take rfl panicBody (op_nil rfl) rfl rfl ?_
  refine SD.take rfl panicBody (op_fieldAddr fa137_1 rfl) rfl rfl ?_
  refine SD.take rfl panicBody (op_load ty64 rfl (by repeat constructor) rfl) rfl rfl ?_
  refine SD.take rfl panicBody (op_capS Tryz.underlying64 rfl) rfl rfl ?_
  refine SD.take rfl panicBody (op_move rfl) rfl rfl ?_
  refine SD.take rfl panicBody (op_nil rfl) rfl rfl ?_
  refine SD.take rfl panicBody (op_fieldAddr fa137_1 rfl) rfl rfl ?_
  refine SD.take rfl panicBody (op_load ty64 rfl (by repeat constructor) rfl) rfl rfl ?_
  refine SD.take rfl panicBody (op_lenS Tryz.underlying64 rfl) rfl rfl ?_
  refine SD.take rfl panicBody (op_subN (p := 0) (q := 0) rfl rfl (by omega) (by omega)) rfl rfl ?_
  refine SD.take rfl panicBody (op_move rfl) rfl rfl ?_
  refine SD.take rfl panicBody (op_lssT rfl rfl (by omega)) rfl rfl ?_
  refine SD.nil ?_
  show SL _ _ _ _ _ _ _ [] _ _ _
  refine SL.nil <| T.condT rfl <| T.region <| SL.mv rfl <| SL.mv rfl <| SL.w (op_callM en133 (vs := [_, _]) rfl (growB_spec hk hk0) rfl) ?_
  rintro _ _ X2 ⟨_, rfl, hX2, s, G, rfl, hG⟩
  refine SL.nil <| T.doneM0 (BldO b _ s :: G) rfl (List.Perm.refl _) ?_
  exact ⟨hX1.trans' hX2, s, G, rfl, hG⟩
def joinL (sep : ByteArray) : List ByteArray → List UInt8
  | [] => []
  | s :: l => s.data.toList ++ (l.map fun t => sep.data.toList ++ t.data.toList).flatten
def sumS (l : List ByteArray) : Nat := (l.map (·.size)).sum
theorem sumS_snoc (l : List ByteArray) (s : ByteArray) : sumS (l ++ [s]) = sumS l + s.size := by simp [sumS]
theorem joinL_snoc (sep : ByteArray) (a : ByteArray) (l : List ByteArray) (s : ByteArray) : joinL sep (a :: (l ++ [s])) = joinL sep (a :: l) ++ sep.data.toList ++ s.data.toList := by simp [joinL]
theorem sumS_take_le : ∀ (l : List ByteArray) (k : Nat), sumS (l.take k) ≤ sumS l
  | [], k => by simp
  | s :: l, 0 => by simp [sumS]
  | s :: l, k + 1 => by
    have := sumS_take_le l k
    simp only [sumS, List.take_succ_cons, List.map_cons, List.sum_cons] at this ⊢; omega
theorem sumS_mem {x : ByteArray} : ∀ {l : List ByteArray}, x ∈ l → x.size ≤ sumS l
  | y :: l, hm => by
    simp only [sumS, List.map_cons, List.sum_cons]
    rcases List.mem_cons.1 hm with rfl | hm
    · omega
    · have := sumS_mem hm; simp only [sumS] at this; omega
theorem joinL_len (sep : ByteArray) : ∀ (a : ByteArray) (l : List ByteArray), (joinL sep (a :: l)).length = sumS (a :: l) + sep.size * l.length
  | a, [] => by simp [joinL, sumS]
  | a, s :: l => by
    have := joinL_len sep a l
    simp only [joinL, sumS, List.map_cons, List.flatten_cons, List.sum_cons, List.length_append, List.length_cons, Nat.mul_succ] at this ⊢
    have e1 : a.data.toList.length = a.size := by simp
    have e2 : s.data.toList.length = s.size := by simp
    have e3 : sep.data.toList.length = sep.size := by simp
    omega
theorem join_spec {X : PMap} {v : Value} {l : List ByteArray} {sep : ByteArray} (h : RowR (fun s : ByteArray => [Value.string s]) X v l) (h1 : 1 ≤ l.length) (hl : l.length < 1000) (hs : sumS l < 100000000) (hz : ∀ s ∈ l, 0 < s.size) (hsp : 0 < sep.size) (hsp2 : sep.size < 1000) : Spec Tryz.prog 116 [v, .string sep] X fun u _ => u = .string ⟨(joinL sep l).toArray⟩ := by
  obtain ⟨A, cp, rfl⟩ := h.form
  obtain ⟨b0, pre, rfl, hB⟩ := h.blk (by omega)
  have hcap := h.cap (by omega)
  have hrd : ∀ {i k' : Nat} {s : ByteArray}, l[i]? = some s → k' = pre.length + i * 1 → cread false 1 (pre ++ (l.map fun s : ByteArray => [Value.string s]).flatten) k' = some (.string s) := fun hi e => row_cell (sz := 1) (j := 0) (fun _ => rfl) hi rfl (by omega)
  obtain ⟨a, l', rfl⟩ : ∃ a l', l = a :: l' := by
    cases l with
    | nil => simp at h1
    | cons a l' => exact ⟨a, l', rfl⟩
  rcases Nat.eq_zero_or_pos l'.length with h0 | h0
  · obtain rfl : l' = [] := List.eq_nil_of_length_eq_zero h0
    refine Spec.enter Tryz.func116 rfl Tryz.ntmps116 rfl ?_
    intro w0 hw0
    refine T.seq <| T.region <| SL.as rfl <| SL.nil <| T.seq <| T.seq <| T.region <| SL.mv rfl <| SL.v (op_lenS Tryz.underlying37 rfl) <| SL.nil <| T.block <| T.seq <| T.region <| SL.v (op_eqlF rfl rfl (by omega)) ?_
    refine SL.as rfl <| SL.nil <| T.condF rfl <| T.seq <| T.region <| SL.v (op_eql rfl rfl) <| SL.as rfl <| SL.nil <| T.condT rfl <| T.seq <| T.region <| SL.mv rfl <| SL.v (op_index Tryz.underlying37 ty9 rfl rfl (by omega) (by omega)) ?_
    refine SL.v (op_loadX ty9 rfl hB (hrd (i := 0) rfl (by omega))) ?_
    refine SL.as rfl <| SL.nil <| T.ret1 rfl (ResIs.tmp rfl) ?_
    simp [joinL]
  · have hd := h.drop (sz := 1) (fun _ => rfl) (k := 1) (by omega)
    simp only [List.length_cons, Nat.add_sub_cancel, List.drop_succ_cons, List.drop_zero] at h hd hcap hl h1
    have hq := joinL_len sep a l'
    have hmul : sep.size * l'.length ≤ 1000 * 1000 := Nat.mul_le_mul (by omega) (by omega)
    have hdiv : 9223372036854775807 / 1000 ≤ 9223372036854775807 / l'.length := Nat.div_le_div_left (by omega) (by omega)
    have hdv : (9223372036854775807 : Nat) / 1000 = 9223372036854775 := by decide
    rw [hdv] at hdiv
    have hmx : maxLen = 9223372036854775807 := rfl
    have hsa : 0 < a.size := hz a (by simp)
    have hsum : sumS (a :: l') = a.size + sumS l' := by simp [sumS]
    simp only [List.length_cons]
    refine Spec.enter Tryz.func116 rfl Tryz.ntmps116 rfl ?_
    intro w0 hw0
    refine T.seq <| T.region <| SL.as rfl <| SL.nil <| T.seq <| T.seq <| T.region <| SL.mv rfl <| SL.v (op_lenS Tryz.underlying37 rfl) <| SL.nil <| T.block <| T.seq <| T.region <| SL.v (op_eqlF rfl rfl (by omega)) ?_
    refine SL.as rfl <| SL.nil <| T.condF rfl <| T.seq <| T.region <| SL.v (op_eqlF rfl rfl (by omega)) ?_
    refine SL.as rfl <| SL.nil <| T.condF rfl <| T.skip <| T.blk <| T.seq <| T.region <| SL.v (op_assign (v := .int .i64 ((0 : Nat) : Int)) rfl) <| SL.nil <| T.seq <| T.seq <| T.region <| SL.mv rfl <| SL.v (op_lenStr Tryz.underlying9 rfl) <| SL.v (op_gtrT rfl rfl (by omega)) ?_
    refine SL.nil <| T.condT rfl <| T.seq <| T.seq <| T.region <| SL.mv rfl <| SL.v (op_lenStr Tryz.underlying9 rfl) <| SL.mv rfl <| SL.v (op_lenS Tryz.underlying37 rfl) <| SL.v (op_subN (p := l'.length + 1) (q := 1) rfl rfl (by omega) (by omega)) ?_
    rw [Nat.add_sub_cancel]
    refine SL.v (op_quoN (p := 9223372036854775807) (q := l'.length) rfl rfl rfl (by omega) (by omega)) ?_
    refine SL.v (op_geqF rfl rfl (by omega)) ?_
    refine SL.nil <| T.condF rfl <| T.skip <| T.region <| SL.mv rfl <| SL.mv rfl <| SL.v (op_lenStr Tryz.underlying9 rfl) <| SL.mv rfl <| SL.v (op_lenS Tryz.underlying37 rfl) <| SL.v (op_subN (p := l'.length + 1) (q := 1) rfl rfl (by omega) (by omega)) ?_
    rw [Nat.add_sub_cancel]
    refine SL.v (op_mulN rfl rfl (by omega)) ?_
    refine SL.v (op_addN (p := 0) rfl rfl (by omega)) ?_
    rw [Nat.zero_add]
    refine SL.as rfl <| SL.nil <| T.seq <| T.seq <| T.region <| SL.mv rfl <| SL.v (op_lenS Tryz.underlying37 rfl) <| SL.v (op_move (v := .int .i64 ((0 : Nat) : Int)) rfl) <| SL.nil <| T.block <| T.loopW (fun m env own X' => ∃ i : Nat, m = l'.length + 1 - i ∧ i ≤ l'.length + 1 ∧ X.le X' ∧ env = [(0, .slice (some ⟨b0, pre.length, none⟩) (l'.length + 1) cp), (1, .string sep), (5, .int .i64 ((sep.size * l'.length + sumS ((a :: l').take i) : Nat) : Int)), (39, .slice (some ⟨b0, pre.length, none⟩) (l'.length + 1) cp), (40, .int .i64 ((l'.length + 1 : Nat) : Int)), (41, .int .i64 (i : Int))] ∧ own = []) (l'.length + 1) ⟨0, by simp, by omega, PMap.le_refl _, rfl, rfl⟩ (by repeat (first | exact Sub.nil | refine Sub.cons rfl ?_)) ?_
    rintro m _ _ X1 ⟨i, rfl, hi, hX1, rfl, rfl⟩
    have htl := sumS_take_le (a :: l') i
    rcases Nat.lt_or_ge i (l'.length + 1) with hil | hil
    · obtain ⟨x, hx⟩ : ∃ x, (a :: l')[i]? = some x := ⟨_, List.getElem?_eq_getElem (by simpa using hil)⟩
      have hts : sumS ((a :: l').take (i + 1)) = sumS ((a :: l').take i) + x.size := by
        obtain ⟨g1, g2⟩ := List.getElem?_eq_some_iff.1 hx
        rw [List.take_succ_eq_append_getElem g1, g2, sumS_snoc]
      have htl2 := sumS_take_le (a :: l') (i + 1)
      refine T.seq <| T.region <| SL.v (op_lssT rfl rfl (by omega)) ?_
      refine SL.nil <| T.seq <| T.condT rfl <| T.skip <| T.seq <| T.block <| T.seq <| T.region <| SL.v (op_indexN Tryz.underlying37 ty9 rfl rfl (by omega)) ?_
      refine SL.v (op_loadX ty9 rfl (hB.mono hX1) (hrd hx (by omega))) ?_
      refine SL.as rfl <| SL.nil <| T.seq <| T.seq <| T.region <| SL.mv rfl <| SL.v (op_lenStr Tryz.underlying9 rfl) <| SL.mv rfl <| SL.v (op_subN (p := 9223372036854775807) rfl rfl (by omega) (by omega)) ?_
      refine SL.v (op_gtrF rfl rfl (by omega)) ?_
      refine SL.nil <| T.condF rfl <| T.skip <| T.region <| SL.mv rfl <| SL.mv rfl <| SL.v (op_lenStr Tryz.underlying9 rfl) <| SL.v (op_addN rfl rfl (by omega)) ?_
      rw [show sep.size * l'.length + sumS ((a :: l').take i) + x.size = sep.size * l'.length + sumS ((a :: l').take (i + 1)) by omega]
      refine SL.as rfl <| SL.nil <| T.blk <| T.region <| SL.v (op_addN (q := 1) rfl rfl (by omega)) ?_
      refine SL.mv rfl <| SL.nil ?_
      exact T.backW (l'.length + 1 - (i + 1)) (by omega) ⟨i + 1, rfl, by omega, hX1, rfl, rfl⟩ (by repeat (first | exact Sub.nil | refine Sub.cons rfl ?_))
    · obtain rfl : i = l'.length + 1 := by omega
      rw [show (a :: l').take (l'.length + 1) = a :: l' from List.take_of_length_le (by simp)]
      refine T.seq <| T.region <| SL.v (op_lssF rfl rfl (by omega)) ?_
      refine SL.nil <| T.seq <| T.condF rfl ?_
      refine T.exit (T.exitCode (T.exitCut (T.exitBlk ?_)))
      refine T.seq <| T.region <| SL.w (op_alloc z137) ?_
      rintro _ _ _ ⟨B8, rfl, rfl, rfl⟩
      refine SL.nil <| T.seq <| T.region <| SL.mv rfl <| SL.w (op_callM en77 (vs := [_, _]) rfl (growBld_spec (.inl rfl) (by omega) (by omega)) rfl) ?_
      rintro _ _ X2 ⟨_, rfl, hX2, s2, G2, rfl, hG2⟩
      refine SL.nil <| T.seq <| T.region <| SL.mv rfl <| SL.v (op_index Tryz.underlying37 ty9 rfl rfl (by omega) (by omega)) ?_
      refine SL.v (op_loadX ty9 rfl ((hB.mono hX1).mono hX2) (hrd (i := 0) rfl (by omega))) ?_
      refine SL.w (op_callM en78 (vs := [_, _]) rfl (writeStr_spec (.inr rfl) hG2 (by simp) (by omega) hsa) rfl) ?_
      rintro _ _ X3 ⟨_, rfl, hX3, rfl, s3, G3, rfl, hG3⟩
      refine SL.nil <| T.seq <| T.seq <| T.region <| SL.mv rfl <| SL.v (op_sliceLo (l := 1) Tryz.underlying37 ty9 rfl rfl (by omega) (by omega)) ?_
      rw [Nat.add_sub_cancel]
      generalize slA (some ⟨b0, pre.length, none⟩) cp 1 1 = A1 at *
      rw [List.nil_append] at hG3
      refine SL.v (op_lenS Tryz.underlying37 rfl) <| SL.v (op_move (v := .int .i64 ((0 : Nat) : Int)) rfl) <| SL.nil <| T.block <| T.loopW (fun m env own X' => ∃ (i : Nat) (s : Value) (G : Own), m = l'.length - i ∧ i ≤ l'.length ∧ X3.le X' ∧ BufG (joinL sep (a :: l'.take i)) s G ∧ env = [(1, .string sep), (8, .pointer (some ⟨B8, 0, none⟩)), (63, .slice A1 l'.length (cp - 1)), (64, .int .i64 (l'.length : Int)), (65, .int .i64 (i : Int))] ∧ own = (BldO B8 (.pointer (some ⟨B8, 0, none⟩)) s :: G) ++ []) l'.length ⟨0, _, _, by simp, by omega, PMap.le_refl _, by simpa [joinL] using hG3, rfl, rfl⟩ (by repeat (first | exact Sub.nil | refine Sub.cons rfl ?_)) ?_
      rintro m _ _ X4 ⟨i, s, G, rfl, hi, hX4, hG, rfl, rfl⟩
      have hjl := joinL_len sep a (l'.take i)
      have hsl : sumS (a :: l'.take i) = a.size + sumS (l'.take i) := by simp [sumS]
      have hst := sumS_take_le l' i
      have hml : sep.size * (l'.take i).length ≤ 1000 * 1000 := Nat.mul_le_mul (by omega) (by rw [List.length_take]; omega)
      rcases Nat.lt_or_ge i l'.length with hil | hil
      · obtain ⟨x, hx⟩ : ∃ x, l'[i]? = some x := ⟨_, List.getElem?_eq_getElem hil⟩
        have hxz := hz x (by simp [List.mem_of_getElem? hx])
        have hxs := sumS_mem (List.mem_of_getElem? hx)
        obtain ⟨b5, pre5, rfl, hB5⟩ := hd.blk (by omega)
        have hX34 := (hX1.trans' hX2).trans' (hX3.trans' hX4)
        refine T.seq <| T.region <| SL.v (op_lssT rfl rfl (by omega)) ?_
        refine SL.nil <| T.seq <| T.condT rfl <| T.skip <| T.seq <| T.block <| T.seq <| T.region <| SL.v (op_indexN Tryz.underlying37 ty9 rfl rfl (by omega)) ?_
        refine SL.v (op_loadX ty9 rfl (hB5.mono hX34) (row_cell (sz := 1) (j := 0) (fun _ => rfl) hx rfl (by omega))) ?_
        refine SL.as rfl <| SL.nil <| T.seq <| T.region <| SL.mv rfl <| SL.w (op_callM en78 (vs := [_, _]) rfl (writeStr_spec (.inr rfl) hG (by omega) (by omega) hsp) rfl) ?_
        rintro _ _ X5 ⟨_, rfl, hX5, rfl, s5, G5, rfl, hG5⟩
        refine SL.nil <| T.region <| SL.mv rfl <| SL.w (op_callM en78 (vs := [_, _]) rfl (writeStr_spec (.inr rfl) hG5 (by rw [List.length_append]; simp; omega) (by omega) hxz) rfl) ?_
        rintro _ _ X6 ⟨_, rfl, hX6, rfl, s6, G6, rfl, hG6⟩
        have hts : l'.take (i + 1) = l'.take i ++ [x] := by
          obtain ⟨g1, g2⟩ := List.getElem?_eq_some_iff.1 hx
          rw [List.take_succ_eq_append_getElem g1, g2]
        rw [← joinL_snoc, ← hts] at hG6
        refine SL.nil <| T.blk <| T.region <| SL.v (op_addN (q := 1) rfl rfl (by omega)) ?_
        refine SL.mv rfl <| SL.nil ?_
        exact T.backW (l'.length - (i + 1)) (by omega) ⟨i + 1, _, _, rfl, by omega, (hX4.trans' hX5).trans' hX6, hG6, rfl, rfl⟩ (by repeat (first | exact Sub.nil | refine Sub.cons rfl ?_))
      · obtain rfl : i = l'.length := by omega
        rw [List.take_length] at hG
        refine T.seq <| T.region <| SL.v (op_lssF rfl rfl (by omega)) ?_
        refine SL.nil <| T.seq <| T.condF rfl ?_
        refine T.exit (T.exitCode (T.exitCut (T.exitBlk ?_)))
        refine T.seq <| T.region <| SL.w (op_callM en80 (vs := [_]) rfl (builderString_spec hG (fun h => by rw [h] at hq; simp at hq; omega) (by omega)) rfl) ?_
        rintro _ _ X5 ⟨_, rfl, hX5, rfl, rfl⟩
        refine SL.as rfl <| SL.nil <| T.ret1 rfl (ResIs.tmp rfl) ?_
        rfl
end Go.Proofs.YtnabbnhefjfegaaGreatDoor
namespace Go.Proofs.YtnabbnhefjfegaaGreatDoor
section
set_option maxRecDepth 100000
theorem en114 : Enters Tryz.prog 114 := enters_mk Tryz.func114 (by kernel_rfl) rfl
theorem en115 : Enters Tryz.prog 115 := enters_mk Tryz.func115 (by kernel_rfl) rfl
theorem en116 : Enters Tryz.prog 116 := enters_mk Tryz.func116 (by kernel_rfl) rfl
theorem en117 : Enters Tryz.prog 117 := enters_mk Tryz.func117 (by kernel_rfl) rfl
theorem en118 : Enters Tryz.prog 118 := enters_mk Tryz.func118 (by kernel_rfl) rfl
theorem en58 : Enters Tryz.prog 58 := enters_mk Tryz.func58 (by kernel_rfl) rfl
end
open Go.RowKit
theorem decG_len : ∀ f v : Nat, (decG f v).length ≤ f
  | 0, _ => by simp [decG]
  | f + 1, v => by
    rw [decG]
    split
    · simp
    · have := decG_len f (v / 10)
      rw [List.length_append]; simp; exact this
theorem decB_size (v : Nat) : (decB v).size ≤ 20 := by
  have := decG_len 20 v
  show (decG 20 v).toArray.size ≤ 20
  simpa using this
theorem joinG_len : ∀ l : List ByteArray, (joinG l).length ≤ 2 * wtS l
  | [] => by simp [joinG]
  | s :: l => by
    have hl : ∀ l : List ByteArray, (l.map fun t : ByteArray => [(44 : UInt8), 32] ++ t.data.toList).flatten.length ≤ 2 * wtS l := by
      intro l
      induction l with
      | nil => simp
      | cons t l ih =>
        simp only [wtS, List.map_cons, List.flatten_cons, List.sum_cons, List.length_append, List.length_cons, List.length_nil] at ih ⊢
        have e : t.data.toList.length = t.size := by simp
        omega
    have h2 := hl l
    have e : s.data.toList.length = s.size := by simp
    simp only [joinG, List.length_append]
    simp only [wtS, List.map_cons, List.sum_cons] at h2 ⊢
    omega
theorem joinB_size (l : List ByteArray) : (joinB l).size ≤ 2 * wtS l := by
  have := joinG_len l
  show (joinG l).toArray.size ≤ _
  simpa using this
theorem headD_size (ns : List ByteArray) : (ns.headD ⟨#[]⟩).size ≤ wtS ns := by
  cases ns with
  | nil => exact Nat.zero_le _
  | cons s l => simp only [List.headD_cons, wtS, List.map_cons, List.sum_cons]; omega
theorem parB_size (s : Nat) (t : ByteArray) (k : Nat) : (parB s t k).size ≤ t.size + 2 := by
  have k1 : (⟨#[40]⟩ : ByteArray).size = 1 := rfl
  have k2 : (⟨#[41]⟩ : ByteArray).size = 1 := rfl
  unfold parB
  split
  · simp only [ByteArray.size_append]; omega
  · omega
theorem wordB_size (op : Nat) : (wordB op).size ≤ 5 := by
  unfold wordB
  split <;> decide
mutual
theorem text_size : ∀ e : Ex, (textE e).size ≤ 40 * wtE e
  | .mk op n ns al => by
    have h0 := textL_size al
    have h1 := decB_size n.toNat
    have h2 := joinB_size ns
    have h3 := headD_size ns
    have k1 : (⟨#[116, 114, 117, 101]⟩ : ByteArray).size = 4 := rfl
    have k2 : (⟨#[102, 97, 108, 115, 101]⟩ : ByteArray).size = 5 := rfl
    have k3 : (⟨#[99, 111, 117, 110, 116, 40]⟩ : ByteArray).size = 6 := rfl
    have k4 : (⟨#[41]⟩ : ByteArray).size = 1 := rfl
    have k5 : (⟨#[109, 101, 109, 98, 101, 114, 115, 40]⟩ : ByteArray).size = 8 := rfl
    have k6 : (⟨#[110, 111, 116, 32]⟩ : ByteArray).size = 4 := rfl
    have k7 : (⟨#[]⟩ : ByteArray).size = 0 := rfl
    rw [textE, wtE]
    split
    · omega
    · split
      · omega
      · split
        · omega
        · split
          · omega
          · split
            · simp only [ByteArray.size_append]; omega
            · split
              · simp only [ByteArray.size_append]; omega
              · split
                · omega
                · rename_i x hx
                  rw [hx] at h0
                  have := parB_size x.1 x.2 4
                  simp only [List.map_cons, List.map_nil, List.sum_cons, List.sum_nil] at h0
                  simp only [ByteArray.size_append]; omega
                · rename_i x y l hx
                  rw [hx] at h0
                  have := parB_size x.1 x.2 (lefN op)
                  have := parB_size y.1 y.2 (rigN op)
                  have := wordB_size op
                  simp only [List.map_cons, List.sum_cons] at h0
                  simp only [ByteArray.size_append]; omega
theorem textL_size : ∀ l : List Ex, ((textL l).map fun x : Nat × ByteArray => x.2.size).sum ≤ 40 * wtL l
  | [] => by simp [textL, wtL]
  | a :: l => by
    have h1 := text_size a
    have h2 := textL_size l
    rw [textL, wtL, List.map_cons, List.sum_cons]
    simp only at h1 h2 ⊢
    omega
end
theorem strN_le (op : Nat) : strN op ≤ 7 := by
  unfold strN
  split
  · omega
  · skip
    split
    · omega
    · skip
      split
      · omega
      · skip
        split
        · omega
        · skip
          split
          · omega
          · skip
            split
            · omega
            · omega
theorem strength_spec {X : PMap} {op : Nat} : Spec Tryz.prog 114 [.int .u8 (op : Int)] X fun u _ => u = .int .i64 (strN op : Int) := by
  by_cases h1 : op = 10
  · refine Spec.enter Tryz.func114 rfl Tryz.ntmps114 rfl ?_
    intro w0 hw0
    refine T.seq <| T.region <| SL.v (op_assign (v := .int .i64 ((0 : Nat) : Int)) rfl) <| SL.nil <| T.seq <| T.block <| T.seq <| T.region <| SL.mv rfl <| SL.v (op_eqlT rfl rfl (by omega)) ?_
    refine SL.as rfl <| SL.nil <| T.condT rfl <| T.seq <| T.region <| SL.v (op_assign (v := .int .i64 ((1 : Nat) : Int)) rfl) <| SL.nil <| T.ret1 rfl (ResIs.tmp rfl) ?_
    rw [strN, if_pos h1]
  by_cases h2 : op = 9
  · refine Spec.enter Tryz.func114 rfl Tryz.ntmps114 rfl ?_
    intro w0 hw0
    refine T.seq <| T.region <| SL.v (op_assign (v := .int .i64 ((0 : Nat) : Int)) rfl) <| SL.nil <| T.seq <| T.block <| T.seq <| T.region <| SL.mv rfl <| SL.v (op_eqlF rfl rfl (by omega)) ?_
    refine SL.as rfl <| SL.nil <| T.condF rfl <| T.seq <| T.region <| SL.mv rfl <| SL.v (op_eqlT rfl rfl (by omega)) ?_
    refine SL.as rfl <| SL.nil <| T.condT rfl <| T.seq <| T.region <| SL.v (op_assign (v := .int .i64 ((2 : Nat) : Int)) rfl) <| SL.nil <| T.ret1 rfl (ResIs.tmp rfl) ?_
    rw [strN, if_neg h1, if_pos h2]
  by_cases h3 : op = 8
  · refine Spec.enter Tryz.func114 rfl Tryz.ntmps114 rfl ?_
    intro w0 hw0
    refine T.seq <| T.region <| SL.v (op_assign (v := .int .i64 ((0 : Nat) : Int)) rfl) <| SL.nil <| T.seq <| T.block <| T.seq <| T.region <| SL.mv rfl <| SL.v (op_eqlF rfl rfl (by omega)) ?_
    refine SL.as rfl <| SL.nil <| T.condF rfl <| T.seq <| T.region <| SL.mv rfl <| SL.v (op_eqlF rfl rfl (by omega)) ?_
    refine SL.as rfl <| SL.nil <| T.condF rfl <| T.seq <| T.region <| SL.mv rfl <| SL.v (op_eqlT rfl rfl (by omega)) ?_
    refine SL.as rfl <| SL.nil <| T.condT rfl <| T.seq <| T.region <| SL.v (op_assign (v := .int .i64 ((3 : Nat) : Int)) rfl) <| SL.nil <| T.ret1 rfl (ResIs.tmp rfl) ?_
    rw [strN, if_neg h1, if_neg h2, if_pos h3]
  by_cases h4 : op = 7
  · refine Spec.enter Tryz.func114 rfl Tryz.ntmps114 rfl ?_
    intro w0 hw0
    refine T.seq <| T.region <| SL.v (op_assign (v := .int .i64 ((0 : Nat) : Int)) rfl) <| SL.nil <| T.seq <| T.block <| T.seq <| T.region <| SL.mv rfl <| SL.v (op_eqlF rfl rfl (by omega)) ?_
    refine SL.as rfl <| SL.nil <| T.condF rfl <| T.seq <| T.region <| SL.mv rfl <| SL.v (op_eqlF rfl rfl (by omega)) ?_
    refine SL.as rfl <| SL.nil <| T.condF rfl <| T.seq <| T.region <| SL.mv rfl <| SL.v (op_eqlF rfl rfl (by omega)) ?_
    refine SL.as rfl <| SL.nil <| T.condF rfl <| T.seq <| T.region <| SL.mv rfl <| SL.v (op_eqlT rfl rfl (by omega)) ?_
    refine SL.as rfl <| SL.nil <| T.condT rfl <| T.seq <| T.region <| SL.v (op_assign (v := .int .i64 ((4 : Nat) : Int)) rfl) <| SL.nil <| T.ret1 rfl (ResIs.tmp rfl) ?_
    rw [strN, if_neg h1, if_neg h2, if_neg h3, if_pos h4]
  by_cases h5 : 11 ≤ op ∧ op ≤ 15
  · obtain ⟨g1, g2⟩ := h5
    refine Spec.enter Tryz.func114 rfl Tryz.ntmps114 rfl ?_
    intro w0 hw0
    refine T.seq <| T.region <| SL.v (op_assign (v := .int .i64 ((0 : Nat) : Int)) rfl) <| SL.nil <| T.seq <| T.block <| T.seq <| T.region <| SL.mv rfl <| SL.v (op_eqlF rfl rfl (by omega)) ?_
    refine SL.as rfl <| SL.nil <| T.condF rfl <| T.seq <| T.region <| SL.mv rfl <| SL.v (op_eqlF rfl rfl (by omega)) ?_
    refine SL.as rfl <| SL.nil <| T.condF rfl <| T.seq <| T.region <| SL.mv rfl <| SL.v (op_eqlF rfl rfl (by omega)) ?_
    refine SL.as rfl <| SL.nil <| T.condF rfl <| T.seq <| T.region <| SL.mv rfl <| SL.v (op_eqlF rfl rfl (by omega)) ?_
    refine SL.as rfl <| SL.nil <| T.condF rfl <| T.seq <| T.region <| SL.mv rfl <| SL.v (op_geqT rfl rfl (by omega)) ?_
    refine SL.mv rfl <| SL.mv rfl <| SL.v (op_leqT rfl rfl (by omega)) ?_
    refine SL.v (op_pickT rfl rfl) <| SL.as rfl <| SL.nil <| T.condT rfl <| T.seq <| T.region <| SL.v (op_assign (v := .int .i64 ((5 : Nat) : Int)) rfl) <| SL.nil <| T.ret1 rfl (ResIs.tmp rfl) ?_
    rw [strN, if_neg h1, if_neg h2, if_neg h3, if_neg h4, if_pos ⟨g1, g2⟩]
  by_cases h6 : op = 16
  · refine Spec.enter Tryz.func114 rfl Tryz.ntmps114 rfl ?_
    intro w0 hw0
    refine T.seq <| T.region <| SL.v (op_assign (v := .int .i64 ((0 : Nat) : Int)) rfl) <| SL.nil <| T.seq <| T.block <| T.seq <| T.region <| SL.mv rfl <| SL.v (op_eqlF rfl rfl (by omega)) ?_
    refine SL.as rfl <| SL.nil <| T.condF rfl <| T.seq <| T.region <| SL.mv rfl <| SL.v (op_eqlF rfl rfl (by omega)) ?_
    refine SL.as rfl <| SL.nil <| T.condF rfl <| T.seq <| T.region <| SL.mv rfl <| SL.v (op_eqlF rfl rfl (by omega)) ?_
    refine SL.as rfl <| SL.nil <| T.condF rfl <| T.seq <| T.region <| SL.mv rfl <| SL.v (op_eqlF rfl rfl (by omega)) ?_
    refine SL.as rfl <| SL.nil <| T.condF rfl <| T.seq <| T.region <| SL.mv rfl <| SL.v (op_geqT rfl rfl (by omega)) ?_
    refine SL.mv rfl <| SL.mv rfl <| SL.v (op_leqF rfl rfl (by omega)) ?_
    refine SL.v (op_pickT rfl rfl) <| SL.as rfl <| SL.nil <| T.condF rfl <| T.seq <| T.region <| SL.mv rfl <| SL.v (op_eqlT rfl rfl (by omega)) ?_
    refine SL.as rfl <| SL.nil <| T.condT rfl <| T.seq <| T.region <| SL.v (op_assign (v := .int .i64 ((6 : Nat) : Int)) rfl) <| SL.nil <| T.ret1 rfl (ResIs.tmp rfl) ?_
    rw [strN, if_neg h1, if_neg h2, if_neg h3, if_neg h4, if_neg h5, if_pos h6]
  by_cases h7 : 11 ≤ op
  · have h8 : ¬op ≤ 15 := fun h => h5 ⟨h7, h⟩
    refine Spec.enter Tryz.func114 rfl Tryz.ntmps114 rfl ?_
    intro w0 hw0
    refine T.seq <| T.region <| SL.v (op_assign (v := .int .i64 ((0 : Nat) : Int)) rfl) <| SL.nil <| T.seq <| T.block <| T.seq <| T.region <| SL.mv rfl <| SL.v (op_eqlF rfl rfl (by omega)) ?_
    refine SL.as rfl <| SL.nil <| T.condF rfl <| T.seq <| T.region <| SL.mv rfl <| SL.v (op_eqlF rfl rfl (by omega)) ?_
    refine SL.as rfl <| SL.nil <| T.condF rfl <| T.seq <| T.region <| SL.mv rfl <| SL.v (op_eqlF rfl rfl (by omega)) ?_
    refine SL.as rfl <| SL.nil <| T.condF rfl <| T.seq <| T.region <| SL.mv rfl <| SL.v (op_eqlF rfl rfl (by omega)) ?_
    refine SL.as rfl <| SL.nil <| T.condF rfl <| T.seq <| T.region <| SL.mv rfl <| SL.v (op_geqT rfl rfl (by omega)) ?_
    refine SL.mv rfl <| SL.mv rfl <| SL.v (op_leqF rfl rfl (by omega)) ?_
    refine SL.v (op_pickT rfl rfl) <| SL.as rfl <| SL.nil <| T.condF rfl <| T.seq <| T.region <| SL.mv rfl <| SL.v (op_eqlF rfl rfl (by omega)) ?_
    refine SL.as rfl <| SL.nil <| T.condF rfl <| T.skip <| T.blk <| T.seq <| T.region <| SL.v (op_assign (v := .int .i64 ((7 : Nat) : Int)) rfl) <| SL.nil <| T.ret1 rfl (ResIs.tmp rfl) ?_
    rw [strN, if_neg h1, if_neg h2, if_neg h3, if_neg h4, if_neg h5, if_neg h6]
  · refine Spec.enter Tryz.func114 rfl Tryz.ntmps114 rfl ?_
    intro w0 hw0
    refine T.seq <| T.region <| SL.v (op_assign (v := .int .i64 ((0 : Nat) : Int)) rfl) <| SL.nil <| T.seq <| T.block <| T.seq <| T.region <| SL.mv rfl <| SL.v (op_eqlF rfl rfl (by omega)) ?_
    refine SL.as rfl <| SL.nil <| T.condF rfl <| T.seq <| T.region <| SL.mv rfl <| SL.v (op_eqlF rfl rfl (by omega)) ?_
    refine SL.as rfl <| SL.nil <| T.condF rfl <| T.seq <| T.region <| SL.mv rfl <| SL.v (op_eqlF rfl rfl (by omega)) ?_
    refine SL.as rfl <| SL.nil <| T.condF rfl <| T.seq <| T.region <| SL.mv rfl <| SL.v (op_eqlF rfl rfl (by omega)) ?_
    refine SL.as rfl <| SL.nil <| T.condF rfl <| T.seq <| T.region <| SL.mv rfl <| SL.v (op_geqF rfl rfl (by omega)) ?_
    refine SL.mv rfl <| SL.skip rfl rfl ?_
    refine SL.skip rfl rfl ?_
    refine SL.v (op_pickF rfl rfl) <| SL.as rfl <| SL.nil <| T.condF rfl <| T.seq <| T.region <| SL.mv rfl <| SL.v (op_eqlF rfl rfl (by omega)) ?_
    refine SL.as rfl <| SL.nil <| T.condF rfl <| T.skip <| T.blk <| T.seq <| T.region <| SL.v (op_assign (v := .int .i64 ((7 : Nat) : Int)) rfl) <| SL.nil <| T.ret1 rfl (ResIs.tmp rfl) ?_
    rw [strN, if_neg h1, if_neg h2, if_neg h3, if_neg h4, if_neg h5, if_neg h6]
theorem operand_spec {X : PMap} {e : Ex} {r : Row4} {least : Nat} (hr : ExR .u8 X e r) (ht : ∀ {X' : PMap}, X.le X' → Spec Tryz.prog 58 [.agg #[r.1, r.2.1, r.2.2.1, r.2.2.2]] X' fun u _ => u = .string (textE e)) (hs : (textE e).size < 1000000000000) : Spec Tryz.prog 117 [.agg #[r.1, r.2.1, r.2.2.1, r.2.2.2], .int .i64 (least : Int)] X fun u _ => u = .string (parB (strN e.op) (textE e) least) := by
  have k1 : (⟨#[40]⟩ : ByteArray).size = 1 := rfl
  have k2 : (⟨#[41]⟩ : ByteArray).size = 1 := rfl
  cases hr with
  | @mk op n ns al vn va rows hn ha hl hr =>
  obtain ⟨Aa, ca, rfl⟩ := ha.form
  obtain ⟨An, cn, rfl⟩ := hn.form
  by_cases hc : strN op < least
  · refine Spec.enter Tryz.func117 rfl Tryz.ntmps117 rfl ?_
    intro w0 hw0
    refine T.seq <| T.region <| SL.w (op_box rfl) ?_
    rintro _ _ _ ⟨B2, rfl, rfl, rfl⟩
    refine SL.as rfl <| SL.nil <| T.seq <| T.seq <| T.region <| SL.v (op_fieldAddr fa40_0 rfl) <| SL.v (op_load ty36 rfl (by repeat constructor) rfl) ?_
    refine SL.w (op_callF en114 (vs := [_]) rfl (strength_spec (op := op))) ?_
    rintro _ _ X1 ⟨rfl, hX1, rfl⟩
    refine SL.mv rfl <| SL.v (op_lssT rfl rfl (by omega)) ?_
    refine SL.nil <| T.condT rfl <| T.seq <| T.region <| SL.v (op_load ty40 rfl (by repeat constructor) rfl) ?_
    refine SL.w (op_callF en58 (vs := [_]) rfl (ht hX1)) ?_
    rintro _ _ X2 ⟨rfl, hX2, rfl⟩
    refine SL.v (op_addStr rfl rfl (by first | omega | (simp only [ByteArray.size_append]; omega))) ?_
    refine SL.v (op_addStr rfl rfl (by first | omega | (simp only [ByteArray.size_append]; omega))) ?_
    refine SL.as rfl <| SL.nil <| T.ret1 rfl (ResIs.tmp rfl) ?_
    rw [parB, Ex.op, if_pos hc]
  · refine Spec.enter Tryz.func117 rfl Tryz.ntmps117 rfl ?_
    intro w0 hw0
    refine T.seq <| T.region <| SL.w (op_box rfl) ?_
    rintro _ _ _ ⟨B2, rfl, rfl, rfl⟩
    refine SL.as rfl <| SL.nil <| T.seq <| T.seq <| T.region <| SL.v (op_fieldAddr fa40_0 rfl) <| SL.v (op_load ty36 rfl (by repeat constructor) rfl) ?_
    refine SL.w (op_callF en114 (vs := [_]) rfl (strength_spec (op := op))) ?_
    rintro _ _ X1 ⟨rfl, hX1, rfl⟩
    refine SL.mv rfl <| SL.v (op_lssF rfl rfl (by omega)) ?_
    refine SL.nil <| T.condF rfl <| T.skip <| T.seq <| T.region <| SL.v (op_load ty40 rfl (by repeat constructor) rfl) ?_
    refine SL.w (op_callF en58 (vs := [_]) rfl (ht hX1)) ?_
    rintro _ _ X2 ⟨rfl, hX2, rfl⟩
    refine SL.as rfl <| SL.nil <| T.ret1 rfl (ResIs.tmp rfl) ?_
    rw [parB, Ex.op, if_neg hc]
def words9 : List ByteArray := [wordB 8, wordB 9, wordB 10, wordB 11, wordB 12, wordB 13, wordB 14, wordB 15, wordB 16]
theorem words9_at {op : Nat} (h1 : 8 ≤ op) (h2 : op ≤ 16) : words9[op - 8]? = some (wordB op) := by
  rcases (by omega : op = 8 ∨ op = 9 ∨ op = 10 ∨ op = 11 ∨ op = 12 ∨ op = 13 ∨ op = 14 ∨ op = 15 ∨ op = 16) with rfl | rfl | rfl | rfl | rfl | rfl | rfl | rfl | rfl <;> rfl
theorem wrapU8s {op : Nat} (h1 : 8 ≤ op) (h2 : op < 256) : IntKind.u8.wrap ((op : Int) - 8) = ((op - 8 : Nat) : Int) := by
  have := wrap_u8 (p := (op : Int) - 8) (by omega) (by omega)
  rw [this]; omega
theorem opw_spec {X : PMap} {op : Nat} (h1 : 8 ≤ op) (h2 : op ≤ 16) : Spec Tryz.prog 118 [.int .u8 (op : Int)] X fun u _ => u = .string (wordB op) := by
  have hw := strsC_at (words9_at h1 h2)
  refine Spec.enter Tryz.func118 rfl Tryz.ntmps118 rfl ?_
  intro w0 hw0
  refine T.seq <| T.region <| SL.as rfl <| SL.nil <| T.seq <| T.region <| SL.w (op_buildSlice Tryz.underlying37 bs9 (qs := [(0, _), (1, _), (2, _), (3, _), (4, _), (5, _), (6, _), (7, _), (8, _)]) rfl rfl rfl rfl rfl) ?_
  rintro _ _ _ ⟨B3, rfl, rfl, rfl⟩
  refine SL.mv rfl <| SL.v (op_subW rfl rfl) ?_
  rw [wrapU8s h1 (by omega)]
  refine SL.v (op_indexN Tryz.underlying37 ty9 rfl rfl (by omega)) ?_
  refine SL.v (op_load ty9 rfl (by repeat constructor) (cread1k' hw (by omega))) ?_
  refine SL.as rfl <| SL.nil <| T.ret1 rfl (ResIs.tmp rfl) ?_
  rfl
mutual
/-- All numbers are below M. -/
def numE (M : Nat) : Ex → Prop
  | .mk op n _ al => (op = 1 → n < (M : Int)) ∧ numL M al
def numL (M : Nat) : List Ex → Prop
  | [] => True
  | a :: al => numE M a ∧ numL M al
end
theorem numL_mem {M : Nat} {a : Ex} : ∀ {l : List Ex}, numL M l → a ∈ l → numE M a
  | x :: l, h, hm => by
    rw [numL] at h
    rcases List.mem_cons.1 hm with rfl | hm
    · exact h.1
    · exact numL_mem h.2 hm
/-- strconv.Itoa of numbers below M. -/
def ItoaOk (M : Nat) (X : PMap) : Prop := ∀ X' : PMap, X.le X' → ∀ v : Nat, v < M → Spec Tryz.prog 115 [.int .i64 (v : Int)] X' fun u _ => u = .string (decB v)
theorem ItoaOk.mono {M : Nat} {X X' : PMap} (h : ItoaOk M X) (hX : X.le X') : ItoaOk M X' := fun X1 h' v hv => h X1 (hX.trans' h') v hv
theorem etext_spec {M : Nat} (N : Nat) : ∀ {X : PMap} {e : Ex} {r : Row4}, ItoaOk M X → wtE e ≤ N → N < 1000000 → nodeE e = 0 → numE M e → ExR .u8 X e r → Spec Tryz.prog 58 [.agg #[r.1, r.2.1, r.2.2.1, r.2.2.2]] X fun u _ => u = .string (textE e) := by
  induction N with
  | zero => intro X e r _ h; cases e; rw [wtE] at h; omega
  | succ N ih =>
    intro X e r hI hN hB hnode hnum h
    have hopd : ∀ {X : PMap} {a : Ex} {r : Row4} {least : Nat}, ItoaOk M X → wtE a ≤ N → nodeE a = 0 → numE M a → ExR .u8 X a r → Spec Tryz.prog 117 [.agg #[r.1, r.2.1, r.2.2.1, r.2.2.2], .int .i64 (least : Int)] X fun u _ => u = .string (parB (strN a.op) (textE a) least) := fun h0 h1 h2 h3 h4 => operand_spec h4 (fun hX => ih (h0.mono hX) h1 (by omega) h2 h3 (h4.mono hX)) (Nat.lt_of_le_of_lt (text_size _) (by omega))
    cases h with
    | @mk op n ns al vn va rows hn ha hl hr =>
    obtain ⟨Aa, ca, rfl⟩ := ha.form
    obtain ⟨An, cn, rfl⟩ := hn.form
    have hlen := wtL_len al
    have hnl := wtS_len ns
    rw [wtE] at hN
    obtain ⟨hown, hargs⟩ := node_ok hnode
    obtain ⟨o1, o2, o3, o4, o5, o6, o7, o8, o9⟩ := own_ok hown
    obtain ⟨hn1, hnumL⟩ : (op = 1 → n < (M : Int)) ∧ numL M al := hnum
    have k1 : (⟨#[99, 111, 117, 110, 116, 40]⟩ : ByteArray).size = 6 := rfl
    have k2 : (⟨#[41]⟩ : ByteArray).size = 1 := rfl
    have k3 : (⟨#[109, 101, 109, 98, 101, 114, 115, 40]⟩ : ByteArray).size = 8 := rfl
    have k4 : (⟨#[110, 111, 116, 32]⟩ : ByteArray).size = 4 := rfl
    by_cases c1 : op = 1
    · obtain ⟨v, rfl⟩ := Int.eq_ofNat_of_zero_le o8
      refine Spec.enter Tryz.func58 rfl Tryz.ntmps58 rfl ?_
      intro w0 hw0
      refine T.seq <| T.region <| SL.w (op_box rfl) ?_
      rintro _ _ _ ⟨B1, rfl, rfl, rfl⟩
      refine SL.as rfl <| SL.nil <| T.seq <| T.region <| SL.v (op_fieldAddr fa40_0 rfl) <| SL.v (op_load ty36 rfl (by repeat constructor) rfl) ?_
      refine SL.w (op_callF en114 (vs := [_]) rfl (strength_spec (op := op))) ?_
      rintro _ _ X1 ⟨rfl, hX1, rfl⟩
      refine SL.as rfl <| SL.nil <| T.seq <| T.seq <| T.region <| SL.v (op_fieldAddr fa40_0 rfl) <| SL.v (op_load ty36 rfl (by repeat constructor) rfl) ?_
      refine SL.nil <| T.block <| T.seq <| T.region <| SL.v (op_eqlT rfl rfl (by omega)) ?_
      refine SL.as rfl <| SL.nil <| T.condT rfl <| T.seq <| T.region <| SL.v (op_fieldAddr fa40_1 rfl) <| SL.v (op_load ty3 rfl (by repeat constructor) rfl) ?_
      refine SL.w (op_callF en115 (vs := [_]) rfl (hI _ hX1 v (by have := hn1 c1; omega))) ?_
      rintro _ _ X2 ⟨rfl, hX2, rfl⟩
      refine SL.as rfl <| SL.nil <| T.ret1 rfl (ResIs.tmp rfl) ?_
      rw [textE, if_pos c1]; rfl
    by_cases c2 : op = 2
    · refine Spec.enter Tryz.func58 rfl Tryz.ntmps58 rfl ?_
      intro w0 hw0
      refine T.seq <| T.region <| SL.w (op_box rfl) ?_
      rintro _ _ _ ⟨B1, rfl, rfl, rfl⟩
      refine SL.as rfl <| SL.nil <| T.seq <| T.region <| SL.v (op_fieldAddr fa40_0 rfl) <| SL.v (op_load ty36 rfl (by repeat constructor) rfl) ?_
      refine SL.w (op_callF en114 (vs := [_]) rfl (strength_spec (op := op))) ?_
      rintro _ _ X1 ⟨rfl, hX1, rfl⟩
      refine SL.as rfl <| SL.nil <| T.seq <| T.seq <| T.region <| SL.v (op_fieldAddr fa40_0 rfl) <| SL.v (op_load ty36 rfl (by repeat constructor) rfl) ?_
      refine SL.nil <| T.block <| T.seq <| T.region <| SL.v (op_eqlF rfl rfl (by omega)) ?_
      refine SL.as rfl <| SL.nil <| T.condF rfl <| T.seq <| T.region <| SL.v (op_eqlT rfl rfl (by omega)) ?_
      refine SL.as rfl <| SL.nil <| T.condT rfl <| T.seq <| T.region <| SL.as rfl <| SL.nil <| T.ret1 rfl (ResIs.tmp rfl) ?_
      rw [textE, if_neg c1, if_pos c2]
    by_cases c3 : op = 3
    · refine Spec.enter Tryz.func58 rfl Tryz.ntmps58 rfl ?_
      intro w0 hw0
      refine T.seq <| T.region <| SL.w (op_box rfl) ?_
      rintro _ _ _ ⟨B1, rfl, rfl, rfl⟩
      refine SL.as rfl <| SL.nil <| T.seq <| T.region <| SL.v (op_fieldAddr fa40_0 rfl) <| SL.v (op_load ty36 rfl (by repeat constructor) rfl) ?_
      refine SL.w (op_callF en114 (vs := [_]) rfl (strength_spec (op := op))) ?_
      rintro _ _ X1 ⟨rfl, hX1, rfl⟩
      refine SL.as rfl <| SL.nil <| T.seq <| T.seq <| T.region <| SL.v (op_fieldAddr fa40_0 rfl) <| SL.v (op_load ty36 rfl (by repeat constructor) rfl) ?_
      refine SL.nil <| T.block <| T.seq <| T.region <| SL.v (op_eqlF rfl rfl (by omega)) ?_
      refine SL.as rfl <| SL.nil <| T.condF rfl <| T.seq <| T.region <| SL.v (op_eqlF rfl rfl (by omega)) ?_
      refine SL.as rfl <| SL.nil <| T.condF rfl <| T.seq <| T.region <| SL.v (op_eqlT rfl rfl (by omega)) ?_
      refine SL.as rfl <| SL.nil <| T.condT rfl <| T.seq <| T.region <| SL.as rfl <| SL.nil <| T.ret1 rfl (ResIs.tmp rfl) ?_
      rw [textE, if_neg c1, if_neg c2, if_pos c3]
    by_cases c4 : op = 4
    · have hl1 : ns.length = 1 := by simpa [namN, c4] using o5
      obtain ⟨s, rfl⟩ : ∃ s, ns = [s] := by
        match ns, hl1 with
        | [s], _ => exact ⟨s, rfl⟩
      obtain ⟨bN, pre, rfl, hB1⟩ := hn.blk (by simp)
      refine Spec.enter Tryz.func58 rfl Tryz.ntmps58 rfl ?_
      intro w0 hw0
      refine T.seq <| T.region <| SL.w (op_box rfl) ?_
      rintro _ _ _ ⟨B1, rfl, rfl, rfl⟩
      refine SL.as rfl <| SL.nil <| T.seq <| T.region <| SL.v (op_fieldAddr fa40_0 rfl) <| SL.v (op_load ty36 rfl (by repeat constructor) rfl) ?_
      refine SL.w (op_callF en114 (vs := [_]) rfl (strength_spec (op := op))) ?_
      rintro _ _ X1 ⟨rfl, hX1, rfl⟩
      refine SL.as rfl <| SL.nil <| T.seq <| T.seq <| T.region <| SL.v (op_fieldAddr fa40_0 rfl) <| SL.v (op_load ty36 rfl (by repeat constructor) rfl) ?_
      refine SL.nil <| T.block <| T.seq <| T.region <| SL.v (op_eqlF rfl rfl (by omega)) ?_
      refine SL.as rfl <| SL.nil <| T.condF rfl <| T.seq <| T.region <| SL.v (op_eqlF rfl rfl (by omega)) ?_
      refine SL.as rfl <| SL.nil <| T.condF rfl <| T.seq <| T.region <| SL.v (op_eqlF rfl rfl (by omega)) ?_
      refine SL.as rfl <| SL.nil <| T.condF rfl <| T.seq <| T.region <| SL.v (op_eqlT rfl rfl (by omega)) ?_
      refine SL.as rfl <| SL.nil <| T.condT rfl <| T.seq <| T.region <| SL.v (op_fieldAddr fa40_2 rfl) <| SL.v (op_load ty37 rfl (by repeat constructor) rfl) ?_
      refine SL.v (op_index Tryz.underlying37 ty9 rfl rfl (by omega) (by omega)) ?_
      refine SL.v (op_loadX ty9 rfl (hB1.mono hX1) (str_read (i := 0) rfl (by omega))) ?_
      refine SL.as rfl <| SL.nil <| T.ret1 rfl (ResIs.tmp rfl) ?_
      rw [textE, if_neg c1, if_neg c2, if_neg c3, if_pos c4]; rfl
    by_cases c5 : op = 5
    · have hl1 : 1 ≤ ns.length ∧ ns.length ≤ 8 := by simpa [namN, c5] using o5
      have hj := joinB_size ns
      have hsum : sumS ns < 100000000 := by
        have e : ∀ l : List ByteArray, sumS l ≤ wtS l := by
          intro l
          induction l with
          | nil => simp [sumS, wtS]
          | cons x l ih => simp only [sumS, wtS, List.map_cons, List.sum_cons] at ih ⊢; omega
        have := e ns; omega
      refine Spec.enter Tryz.func58 rfl Tryz.ntmps58 rfl ?_
      intro w0 hw0
      refine T.seq <| T.region <| SL.w (op_box rfl) ?_
      rintro _ _ _ ⟨B1, rfl, rfl, rfl⟩
      refine SL.as rfl <| SL.nil <| T.seq <| T.region <| SL.v (op_fieldAddr fa40_0 rfl) <| SL.v (op_load ty36 rfl (by repeat constructor) rfl) ?_
      refine SL.w (op_callF en114 (vs := [_]) rfl (strength_spec (op := op))) ?_
      rintro _ _ X1 ⟨rfl, hX1, rfl⟩
      refine SL.as rfl <| SL.nil <| T.seq <| T.seq <| T.region <| SL.v (op_fieldAddr fa40_0 rfl) <| SL.v (op_load ty36 rfl (by repeat constructor) rfl) ?_
      refine SL.nil <| T.block <| T.seq <| T.region <| SL.v (op_eqlF rfl rfl (by omega)) ?_
      refine SL.as rfl <| SL.nil <| T.condF rfl <| T.seq <| T.region <| SL.v (op_eqlF rfl rfl (by omega)) ?_
      refine SL.as rfl <| SL.nil <| T.condF rfl <| T.seq <| T.region <| SL.v (op_eqlF rfl rfl (by omega)) ?_
      refine SL.as rfl <| SL.nil <| T.condF rfl <| T.seq <| T.region <| SL.v (op_eqlF rfl rfl (by omega)) ?_
      refine SL.as rfl <| SL.nil <| T.condF rfl <| T.seq <| T.region <| SL.v (op_eqlT rfl rfl (by omega)) ?_
      refine SL.as rfl <| SL.nil <| T.condT rfl <| T.seq <| T.region <| SL.v (op_fieldAddr fa40_2 rfl) <| SL.v (op_load ty37 rfl (by repeat constructor) rfl) ?_
      have hjn := join_spec (sep := ⟨#[44, 32]⟩) (hn.mono hX1) hl1.1 (by omega) hsum (fun s hs => Nat.pos_of_ne_zero (o6 s hs).1) (by decide) (by decide)
      rw [show joinL ⟨#[44, 32]⟩ ns = joinG ns by cases ns <;> rfl] at hjn
      refine SL.w (op_callF en116 (vs := [_, _]) rfl (hjn)) ?_
      rintro _ _ X2 ⟨rfl, hX2, rfl⟩
      have hjs : (⟨(joinG ns).toArray⟩ : ByteArray).size ≤ 2 * wtS ns := hj
      refine SL.v (op_addStr rfl rfl (by first | omega | (simp only [ByteArray.size_append]; omega))) ?_
      refine SL.v (op_addStr rfl rfl (by first | omega | (simp only [ByteArray.size_append]; omega))) ?_
      refine SL.as rfl <| SL.nil <| T.ret1 rfl (ResIs.tmp rfl) ?_
      rw [textE, if_neg c1, if_neg c2, if_neg c3, if_neg c4, if_pos c5]; rfl
    by_cases c6 : op = 6
    · have hl1 : ns.length = 1 := by simpa [namN, c6] using o5
      obtain ⟨s, rfl⟩ : ∃ s, ns = [s] := by
        match ns, hl1 with
        | [s], _ => exact ⟨s, rfl⟩
      obtain ⟨bN, pre, rfl, hB1⟩ := hn.blk (by simp)
      have hsz := wtS_mem (ns := [s]) (s := s) (by simp)
      refine Spec.enter Tryz.func58 rfl Tryz.ntmps58 rfl ?_
      intro w0 hw0
      refine T.seq <| T.region <| SL.w (op_box rfl) ?_
      rintro _ _ _ ⟨B1, rfl, rfl, rfl⟩
      refine SL.as rfl <| SL.nil <| T.seq <| T.region <| SL.v (op_fieldAddr fa40_0 rfl) <| SL.v (op_load ty36 rfl (by repeat constructor) rfl) ?_
      refine SL.w (op_callF en114 (vs := [_]) rfl (strength_spec (op := op))) ?_
      rintro _ _ X1 ⟨rfl, hX1, rfl⟩
      refine SL.as rfl <| SL.nil <| T.seq <| T.seq <| T.region <| SL.v (op_fieldAddr fa40_0 rfl) <| SL.v (op_load ty36 rfl (by repeat constructor) rfl) ?_
      refine SL.nil <| T.block <| T.seq <| T.region <| SL.v (op_eqlF rfl rfl (by omega)) ?_
      refine SL.as rfl <| SL.nil <| T.condF rfl <| T.seq <| T.region <| SL.v (op_eqlF rfl rfl (by omega)) ?_
      refine SL.as rfl <| SL.nil <| T.condF rfl <| T.seq <| T.region <| SL.v (op_eqlF rfl rfl (by omega)) ?_
      refine SL.as rfl <| SL.nil <| T.condF rfl <| T.seq <| T.region <| SL.v (op_eqlF rfl rfl (by omega)) ?_
      refine SL.as rfl <| SL.nil <| T.condF rfl <| T.seq <| T.region <| SL.v (op_eqlF rfl rfl (by omega)) ?_
      refine SL.as rfl <| SL.nil <| T.condF rfl <| T.seq <| T.region <| SL.v (op_eqlT rfl rfl (by omega)) ?_
      refine SL.as rfl <| SL.nil <| T.condT rfl <| T.seq <| T.region <| SL.v (op_fieldAddr fa40_2 rfl) <| SL.v (op_load ty37 rfl (by repeat constructor) rfl) ?_
      refine SL.v (op_index Tryz.underlying37 ty9 rfl rfl (by omega) (by omega)) ?_
      refine SL.v (op_loadX ty9 rfl (hB1.mono hX1) (str_read (i := 0) rfl (by omega))) ?_
      refine SL.v (op_addStr rfl rfl (by first | omega | (simp only [ByteArray.size_append]; omega))) ?_
      refine SL.v (op_addStr rfl rfl (by first | omega | (simp only [ByteArray.size_append]; omega))) ?_
      refine SL.as rfl <| SL.nil <| T.ret1 rfl (ResIs.tmp rfl) ?_
      rw [textE, if_neg c1, if_neg c2, if_neg c3, if_neg c4, if_neg c5, if_pos c6]; rfl
    by_cases c7 : op = 7
    · have hal : al.length = 1 := by rw [o3, c7]; rfl
      obtain ⟨a, rfl⟩ : ∃ a, al = [a] := by
        match al, hal with
        | [a], _ => exact ⟨a, rfl⟩
      obtain ⟨ra, rfl⟩ : ∃ ra, rows = [ra] := by
        match rows, hl with
        | [ra], _ => exact ⟨ra, rfl⟩
      have hra := hr 0 a ra rfl rfl
      obtain ⟨bA, pre, rfl, hbA⟩ := ha.blk (by simp)
      obtain ⟨_, _, _, _, _, _, _, _, rfl⟩ := hra.form
      have hna := nodeL_zero hargs a (by simp)
      have hma := numL_mem hnumL (a := a) (by simp)
      have hwa : wtE a ≤ N := by rw [wtL, wtL] at hN; omega
      have hts := text_size a
      have hps := parB_size (strN a.op) (textE a) 4
      refine Spec.enter Tryz.func58 rfl Tryz.ntmps58 rfl ?_
      intro w0 hw0
      refine T.seq <| T.region <| SL.w (op_box rfl) ?_
      rintro _ _ _ ⟨B1, rfl, rfl, rfl⟩
      refine SL.as rfl <| SL.nil <| T.seq <| T.region <| SL.v (op_fieldAddr fa40_0 rfl) <| SL.v (op_load ty36 rfl (by repeat constructor) rfl) ?_
      refine SL.w (op_callF en114 (vs := [_]) rfl (strength_spec (op := op))) ?_
      rintro _ _ X1 ⟨rfl, hX1, rfl⟩
      rw [show strN op = 4 by rw [c7]; rfl]
      refine SL.as rfl <| SL.nil <| T.seq <| T.seq <| T.region <| SL.v (op_fieldAddr fa40_0 rfl) <| SL.v (op_load ty36 rfl (by repeat constructor) rfl) ?_
      refine SL.nil <| T.block <| T.seq <| T.region <| SL.v (op_eqlF rfl rfl (by omega)) ?_
      refine SL.as rfl <| SL.nil <| T.condF rfl <| T.seq <| T.region <| SL.v (op_eqlF rfl rfl (by omega)) ?_
      refine SL.as rfl <| SL.nil <| T.condF rfl <| T.seq <| T.region <| SL.v (op_eqlF rfl rfl (by omega)) ?_
      refine SL.as rfl <| SL.nil <| T.condF rfl <| T.seq <| T.region <| SL.v (op_eqlF rfl rfl (by omega)) ?_
      refine SL.as rfl <| SL.nil <| T.condF rfl <| T.seq <| T.region <| SL.v (op_eqlF rfl rfl (by omega)) ?_
      refine SL.as rfl <| SL.nil <| T.condF rfl <| T.seq <| T.region <| SL.v (op_eqlF rfl rfl (by omega)) ?_
      refine SL.as rfl <| SL.nil <| T.condF rfl <| T.seq <| T.region <| SL.v (op_eqlT rfl rfl (by omega)) ?_
      refine SL.as rfl <| SL.nil <| T.condT rfl <| T.seq <| T.region <| SL.v (op_fieldAddr fa40_3 rfl) <| SL.v (op_load ty38 rfl (by repeat constructor) rfl) ?_
      refine SL.v (op_index Tryz.underlying38 ty40 rfl rfl (by omega) (by omega)) ?_
      refine SL.v (op_loadX ty40 rfl (hbA.mono hX1) (row_read rc4_len (rs := [_]) (k := 0) rfl (by omega))) ?_
      refine SL.mv rfl <| SL.w (op_callF en117 (vs := [_, _]) rfl (hopd (hI.mono hX1) hwa hna hma (hra.mono hX1))) ?_
      rintro _ _ X2 ⟨rfl, hX2, rfl⟩
      refine SL.v (op_addStr rfl rfl (by first | omega | (simp only [ByteArray.size_append]; omega))) ?_
      refine SL.as rfl <| SL.nil <| T.ret1 rfl (ResIs.tmp rfl) ?_
      rw [textE, if_neg c1, if_neg c2, if_neg c3, if_neg c4, if_neg c5, if_neg c6, textL, textL]
    have hal : al.length = 2 := by rw [o3, argN, if_neg (by omega), if_neg c7]
    obtain ⟨a, a2, rfl⟩ : ∃ a a2, al = [a, a2] := by
      match al, hal with
      | [a, b], _ => exact ⟨a, b, rfl⟩
    obtain ⟨ra, rb, rfl⟩ : ∃ ra rb, rows = [ra, rb] := by
      match rows, hl with
      | [ra, rb], _ => exact ⟨ra, rb, rfl⟩
    have hra := hr 0 a ra rfl rfl
    have hrb := hr 1 a2 rb rfl rfl
    obtain ⟨bA, pre, rfl, hbA⟩ := ha.blk (by simp)
    obtain ⟨_, _, _, _, _, _, _, _, rfl⟩ := hra.form
    obtain ⟨_, _, _, _, _, _, _, _, rfl⟩ := hrb.form
    have hna := nodeL_zero hargs a (by simp)
    have hnb := nodeL_zero hargs a2 (by simp)
    have hma := numL_mem hnumL (a := a) (by simp)
    have hmb := numL_mem hnumL (a := a2) (by simp)
    have hwa : wtE a ≤ N ∧ wtE a2 ≤ N := by rw [wtL, wtL, wtL] at hN; omega
    have hts := text_size a
    have hts2 := text_size a2
    have hps := fun k => parB_size (strN a.op) (textE a) k
    have hps2 := fun k => parB_size (strN a2.op) (textE a2) k
    have hps3 := hps (lefN op)
    have hps4 := hps2 (rigN op)
    have hps5 := hps2 (lefN op)
    have hww := wordB_size op
    have hs7 := strN_le op
    by_cases c10 : op = 10
    · have el : lefN op = strN op + 1 := if_pos c10
      have er : rigN op = strN op := if_pos c10
      refine Spec.enter Tryz.func58 rfl Tryz.ntmps58 rfl ?_
      intro w0 hw0
      refine T.seq <| T.region <| SL.w (op_box rfl) ?_
      rintro _ _ _ ⟨B1, rfl, rfl, rfl⟩
      refine SL.as rfl <| SL.nil <| T.seq <| T.region <| SL.v (op_fieldAddr fa40_0 rfl) <| SL.v (op_load ty36 rfl (by repeat constructor) rfl) ?_
      refine SL.w (op_callF en114 (vs := [_]) rfl (strength_spec (op := op))) ?_
      rintro _ _ X1 ⟨rfl, hX1, rfl⟩
      refine SL.as rfl <| SL.nil <| T.seq <| T.seq <| T.region <| SL.v (op_fieldAddr fa40_0 rfl) <| SL.v (op_load ty36 rfl (by repeat constructor) rfl) ?_
      refine SL.nil <| T.block <| T.seq <| T.region <| SL.v (op_eqlF rfl rfl (by omega)) ?_
      refine SL.as rfl <| SL.nil <| T.condF rfl <| T.seq <| T.region <| SL.v (op_eqlF rfl rfl (by omega)) ?_
      refine SL.as rfl <| SL.nil <| T.condF rfl <| T.seq <| T.region <| SL.v (op_eqlF rfl rfl (by omega)) ?_
      refine SL.as rfl <| SL.nil <| T.condF rfl <| T.seq <| T.region <| SL.v (op_eqlF rfl rfl (by omega)) ?_
      refine SL.as rfl <| SL.nil <| T.condF rfl <| T.seq <| T.region <| SL.v (op_eqlF rfl rfl (by omega)) ?_
      refine SL.as rfl <| SL.nil <| T.condF rfl <| T.seq <| T.region <| SL.v (op_eqlF rfl rfl (by omega)) ?_
      refine SL.as rfl <| SL.nil <| T.condF rfl <| T.seq <| T.region <| SL.v (op_eqlF rfl rfl (by omega)) ?_
      refine SL.as rfl <| SL.nil <| T.condF rfl <| T.skip <| T.blk <| T.seq <| T.region <| SL.mv rfl <| SL.mv rfl <| SL.v (op_addN (q := 1) rfl rfl (by omega)) ?_
      refine SL.as rfl <| SL.as rfl <| SL.nil <| T.seq <| T.block <| T.seq <| T.region <| SL.v (op_fieldAddr fa40_0 rfl) <| SL.v (op_load ty36 rfl (by repeat constructor) rfl) ?_
      refine SL.v (op_eqlT rfl rfl (by omega)) ?_
      refine SL.as rfl <| SL.nil <| T.condT rfl <| T.region <| SL.mv rfl <| SL.v (op_addN (q := 1) rfl rfl (by omega)) ?_
      refine SL.mv rfl <| SL.as rfl <| SL.as rfl <| SL.nil <| T.blk ?_
      rw [← el, ← er]
      refine T.seq <| T.draw (by kernel_rfl) 18 [.t 0, .t 1, .t 2, .t 3, .t 4, .t 6, .t 7, .t 10, .t 11, .t 12, .t 13, .t 14, .r 5, .r 8, .t 9, .r 15, .t 16, .t 17] (by kernel_rfl) ?_
      refine SD.take rfl panicBody (op_fieldAddr fa40_3 rfl) rfl rfl ?_
      refine SD.take rfl panicBody (op_load ty38 rfl (by repeat constructor) rfl) rfl rfl ?_
      refine SD.take rfl panicBody (op_index Tryz.underlying38 ty40 rfl rfl (by omega) (by omega)) rfl rfl ?_
      refine SD.take rfl panicBody (op_loadX ty40 rfl (hbA.mono hX1) (row_read rc4_len (rs := [_, _]) (k := 0) rfl (by omega))) rfl rfl ?_
      refine SD.take rfl panicBody (op_move rfl) rfl rfl ?_
      refine SD.take rfl panicBody (op_fieldAddr fa40_0 rfl) rfl rfl ?_
      refine SD.take rfl panicBody (op_load ty36 rfl (by repeat constructor) rfl) rfl rfl ?_
      refine SD.take rfl panicBody (op_fieldAddr fa40_3 rfl) rfl rfl ?_
      refine SD.take rfl panicBody (op_load ty38 rfl (by repeat constructor) rfl) rfl rfl ?_
      refine SD.take rfl panicBody (op_index Tryz.underlying38 ty40 rfl rfl (by omega) (by omega)) rfl rfl ?_
      refine SD.take rfl panicBody (op_loadX ty40 rfl (hbA.mono hX1) (row_read rc4_len (rs := [_, _]) (k := 1) rfl (by omega))) rfl rfl ?_
      refine SD.take rfl panicBody (op_move rfl) rfl rfl ?_
      refine SD.run rfl (op_callF en117 (vs := [_, _]) rfl (hopd (hI.mono hX1) hwa.1 hna hma (hra.mono hX1))) rfl rfl ?_
      rintro _ _ X3 ⟨rfl, hX3, rfl⟩
      refine SD.run rfl (op_callF en118 (vs := [_]) rfl (opw_spec (op := op) (by omega) (by omega))) rfl rfl ?_
      rintro _ _ X4 ⟨rfl, hX4, rfl⟩
      refine SD.take rfl panicBody (op_addStr rfl rfl (by first | omega | (simp only [ByteArray.size_append]; omega))) rfl rfl ?_
      refine SD.run rfl (op_callF en117 (vs := [_, _]) rfl (hopd (((hI.mono hX1).mono hX3).mono hX4) hwa.2 hnb hmb (((hrb.mono hX1).mono hX3).mono hX4))) rfl rfl ?_
      rintro _ _ X5 ⟨rfl, hX5, rfl⟩
      refine SD.take rfl panicBody (op_addStr rfl rfl (by first | omega | (simp only [ByteArray.size_append]; omega))) rfl rfl ?_
      refine SD.take rfl panicBody (op_assign rfl) rfl rfl ?_
      refine SD.nil ?_
      show SL _ _ _ _ _ _ _ [] _ _ _
      refine SL.nil <| T.ret1 rfl (ResIs.tmp rfl) ?_
      rw [textE, if_neg c1, if_neg c2, if_neg c3, if_neg c4, if_neg c5, if_neg c6, textL, textL, textL]
    by_cases c5s : strN op = 5
    · have el : lefN op = strN op + 1 := by rw [lefN, if_neg c10, if_pos c5s]
      have er : rigN op = strN op + 1 := if_neg c10
      refine Spec.enter Tryz.func58 rfl Tryz.ntmps58 rfl ?_
      intro w0 hw0
      refine T.seq <| T.region <| SL.w (op_box rfl) ?_
      rintro _ _ _ ⟨B1, rfl, rfl, rfl⟩
      refine SL.as rfl <| SL.nil <| T.seq <| T.region <| SL.v (op_fieldAddr fa40_0 rfl) <| SL.v (op_load ty36 rfl (by repeat constructor) rfl) ?_
      refine SL.w (op_callF en114 (vs := [_]) rfl (strength_spec (op := op))) ?_
      rintro _ _ X1 ⟨rfl, hX1, rfl⟩
      refine SL.as rfl <| SL.nil <| T.seq <| T.seq <| T.region <| SL.v (op_fieldAddr fa40_0 rfl) <| SL.v (op_load ty36 rfl (by repeat constructor) rfl) ?_
      refine SL.nil <| T.block <| T.seq <| T.region <| SL.v (op_eqlF rfl rfl (by omega)) ?_
      refine SL.as rfl <| SL.nil <| T.condF rfl <| T.seq <| T.region <| SL.v (op_eqlF rfl rfl (by omega)) ?_
      refine SL.as rfl <| SL.nil <| T.condF rfl <| T.seq <| T.region <| SL.v (op_eqlF rfl rfl (by omega)) ?_
      refine SL.as rfl <| SL.nil <| T.condF rfl <| T.seq <| T.region <| SL.v (op_eqlF rfl rfl (by omega)) ?_
      refine SL.as rfl <| SL.nil <| T.condF rfl <| T.seq <| T.region <| SL.v (op_eqlF rfl rfl (by omega)) ?_
      refine SL.as rfl <| SL.nil <| T.condF rfl <| T.seq <| T.region <| SL.v (op_eqlF rfl rfl (by omega)) ?_
      refine SL.as rfl <| SL.nil <| T.condF rfl <| T.seq <| T.region <| SL.v (op_eqlF rfl rfl (by omega)) ?_
      refine SL.as rfl <| SL.nil <| T.condF rfl <| T.skip <| T.blk <| T.seq <| T.region <| SL.mv rfl <| SL.mv rfl <| SL.v (op_addN (q := 1) rfl rfl (by omega)) ?_
      refine SL.as rfl <| SL.as rfl <| SL.nil <| T.seq <| T.block <| T.seq <| T.region <| SL.v (op_fieldAddr fa40_0 rfl) <| SL.v (op_load ty36 rfl (by repeat constructor) rfl) ?_
      refine SL.v (op_eqlF rfl rfl (by omega)) ?_
      refine SL.as rfl <| SL.nil <| T.condF rfl <| T.seq <| T.region <| SL.mv rfl <| SL.w (op_callF en114 (vs := [_]) rfl (strength_spec (op := 11))) ?_
      rintro _ _ X2 ⟨rfl, hX2, rfl⟩
      rw [show strN 11 = 5 from rfl]
      refine SL.v (op_eqlT rfl rfl (by omega)) ?_
      refine SL.as rfl <| SL.nil <| T.condT rfl <| T.region <| SL.mv rfl <| SL.v (op_addN (q := 1) rfl rfl (by omega)) ?_
      refine SL.mv rfl <| SL.v (op_addN (q := 1) rfl rfl (by omega)) ?_
      refine SL.as rfl <| SL.as rfl <| SL.nil <| T.blk ?_
      rw [← el]
      refine T.seq <| T.draw (by kernel_rfl) 18 [.t 0, .t 1, .t 2, .t 3, .t 4, .t 6, .t 7, .t 10, .t 11, .t 12, .t 13, .t 14, .r 5, .r 8, .t 9, .r 15, .t 16, .t 17] (by kernel_rfl) ?_
      refine SD.take rfl panicBody (op_fieldAddr fa40_3 rfl) rfl rfl ?_
      refine SD.take rfl panicBody (op_load ty38 rfl (by repeat constructor) rfl) rfl rfl ?_
      refine SD.take rfl panicBody (op_index Tryz.underlying38 ty40 rfl rfl (by omega) (by omega)) rfl rfl ?_
      refine SD.take rfl panicBody (op_loadX ty40 rfl (hbA.mono (hX1.trans' hX2)) (row_read rc4_len (rs := [_, _]) (k := 0) rfl (by omega))) rfl rfl ?_
      refine SD.take rfl panicBody (op_move rfl) rfl rfl ?_
      refine SD.take rfl panicBody (op_fieldAddr fa40_0 rfl) rfl rfl ?_
      refine SD.take rfl panicBody (op_load ty36 rfl (by repeat constructor) rfl) rfl rfl ?_
      refine SD.take rfl panicBody (op_fieldAddr fa40_3 rfl) rfl rfl ?_
      refine SD.take rfl panicBody (op_load ty38 rfl (by repeat constructor) rfl) rfl rfl ?_
      refine SD.take rfl panicBody (op_index Tryz.underlying38 ty40 rfl rfl (by omega) (by omega)) rfl rfl ?_
      refine SD.take rfl panicBody (op_loadX ty40 rfl (hbA.mono (hX1.trans' hX2)) (row_read rc4_len (rs := [_, _]) (k := 1) rfl (by omega))) rfl rfl ?_
      refine SD.take rfl panicBody (op_move rfl) rfl rfl ?_
      refine SD.run rfl (op_callF en117 (vs := [_, _]) rfl (hopd (hI.mono (hX1.trans' hX2)) hwa.1 hna hma (hra.mono (hX1.trans' hX2)))) rfl rfl ?_
      rintro _ _ X3 ⟨rfl, hX3, rfl⟩
      refine SD.run rfl (op_callF en118 (vs := [_]) rfl (opw_spec (op := op) (by omega) (by omega))) rfl rfl ?_
      rintro _ _ X4 ⟨rfl, hX4, rfl⟩
      refine SD.take rfl panicBody (op_addStr rfl rfl (by first | omega | (simp only [ByteArray.size_append]; omega))) rfl rfl ?_
      refine SD.run rfl (op_callF en117 (vs := [_, _]) rfl (hopd (((hI.mono (hX1.trans' hX2)).mono hX3).mono hX4) hwa.2 hnb hmb (((hrb.mono (hX1.trans' hX2)).mono hX3).mono hX4))) rfl rfl ?_
      rintro _ _ X5 ⟨rfl, hX5, rfl⟩
      refine SD.take rfl panicBody (op_addStr rfl rfl (by first | omega | (simp only [ByteArray.size_append]; omega))) rfl rfl ?_
      refine SD.take rfl panicBody (op_assign rfl) rfl rfl ?_
      refine SD.nil ?_
      show SL _ _ _ _ _ _ _ [] _ _ _
      refine SL.nil <| T.ret1 rfl (ResIs.tmp rfl) ?_
      rw [textE, if_neg c1, if_neg c2, if_neg c3, if_neg c4, if_neg c5, if_neg c6, textL, textL, textL, er, ← el]
    · have el : lefN op = strN op := by rw [lefN, if_neg c10, if_neg c5s]
      have er : rigN op = strN op + 1 := if_neg c10
      refine Spec.enter Tryz.func58 rfl Tryz.ntmps58 rfl ?_
      intro w0 hw0
      refine T.seq <| T.region <| SL.w (op_box rfl) ?_
      rintro _ _ _ ⟨B1, rfl, rfl, rfl⟩
      refine SL.as rfl <| SL.nil <| T.seq <| T.region <| SL.v (op_fieldAddr fa40_0 rfl) <| SL.v (op_load ty36 rfl (by repeat constructor) rfl) ?_
      refine SL.w (op_callF en114 (vs := [_]) rfl (strength_spec (op := op))) ?_
      rintro _ _ X1 ⟨rfl, hX1, rfl⟩
      refine SL.as rfl <| SL.nil <| T.seq <| T.seq <| T.region <| SL.v (op_fieldAddr fa40_0 rfl) <| SL.v (op_load ty36 rfl (by repeat constructor) rfl) ?_
      refine SL.nil <| T.block <| T.seq <| T.region <| SL.v (op_eqlF rfl rfl (by omega)) ?_
      refine SL.as rfl <| SL.nil <| T.condF rfl <| T.seq <| T.region <| SL.v (op_eqlF rfl rfl (by omega)) ?_
      refine SL.as rfl <| SL.nil <| T.condF rfl <| T.seq <| T.region <| SL.v (op_eqlF rfl rfl (by omega)) ?_
      refine SL.as rfl <| SL.nil <| T.condF rfl <| T.seq <| T.region <| SL.v (op_eqlF rfl rfl (by omega)) ?_
      refine SL.as rfl <| SL.nil <| T.condF rfl <| T.seq <| T.region <| SL.v (op_eqlF rfl rfl (by omega)) ?_
      refine SL.as rfl <| SL.nil <| T.condF rfl <| T.seq <| T.region <| SL.v (op_eqlF rfl rfl (by omega)) ?_
      refine SL.as rfl <| SL.nil <| T.condF rfl <| T.seq <| T.region <| SL.v (op_eqlF rfl rfl (by omega)) ?_
      refine SL.as rfl <| SL.nil <| T.condF rfl <| T.skip <| T.blk <| T.seq <| T.region <| SL.mv rfl <| SL.mv rfl <| SL.v (op_addN (q := 1) rfl rfl (by omega)) ?_
      refine SL.as rfl <| SL.as rfl <| SL.nil <| T.seq <| T.block <| T.seq <| T.region <| SL.v (op_fieldAddr fa40_0 rfl) <| SL.v (op_load ty36 rfl (by repeat constructor) rfl) ?_
      refine SL.v (op_eqlF rfl rfl (by omega)) ?_
      refine SL.as rfl <| SL.nil <| T.condF rfl <| T.seq <| T.region <| SL.mv rfl <| SL.w (op_callF en114 (vs := [_]) rfl (strength_spec (op := 11))) ?_
      rintro _ _ X2 ⟨rfl, hX2, rfl⟩
      rw [show strN 11 = 5 from rfl]
      refine SL.v (op_eqlF rfl rfl (by omega)) ?_
      refine SL.as rfl <| SL.nil <| T.condF rfl <| T.skip <| T.blk ?_
      rw [← er, ← el]
      refine T.seq <| T.draw (by kernel_rfl) 18 [.t 0, .t 1, .t 2, .t 3, .t 4, .t 6, .t 7, .t 10, .t 11, .t 12, .t 13, .t 14, .r 5, .r 8, .t 9, .r 15, .t 16, .t 17] (by kernel_rfl) ?_
      refine SD.take rfl panicBody (op_fieldAddr fa40_3 rfl) rfl rfl ?_
      refine SD.take rfl panicBody (op_load ty38 rfl (by repeat constructor) rfl) rfl rfl ?_
      refine SD.take rfl panicBody (op_index Tryz.underlying38 ty40 rfl rfl (by omega) (by omega)) rfl rfl ?_
      refine SD.take rfl panicBody (op_loadX ty40 rfl (hbA.mono (hX1.trans' hX2)) (row_read rc4_len (rs := [_, _]) (k := 0) rfl (by omega))) rfl rfl ?_
      refine SD.take rfl panicBody (op_move rfl) rfl rfl ?_
      refine SD.take rfl panicBody (op_fieldAddr fa40_0 rfl) rfl rfl ?_
      refine SD.take rfl panicBody (op_load ty36 rfl (by repeat constructor) rfl) rfl rfl ?_
      refine SD.take rfl panicBody (op_fieldAddr fa40_3 rfl) rfl rfl ?_
      refine SD.take rfl panicBody (op_load ty38 rfl (by repeat constructor) rfl) rfl rfl ?_
      refine SD.take rfl panicBody (op_index Tryz.underlying38 ty40 rfl rfl (by omega) (by omega)) rfl rfl ?_
      refine SD.take rfl panicBody (op_loadX ty40 rfl (hbA.mono (hX1.trans' hX2)) (row_read rc4_len (rs := [_, _]) (k := 1) rfl (by omega))) rfl rfl ?_
      refine SD.take rfl panicBody (op_move rfl) rfl rfl ?_
      refine SD.run rfl (op_callF en117 (vs := [_, _]) rfl (hopd (hI.mono (hX1.trans' hX2)) hwa.1 hna hma (hra.mono (hX1.trans' hX2)))) rfl rfl ?_
      rintro _ _ X3 ⟨rfl, hX3, rfl⟩
      refine SD.run rfl (op_callF en118 (vs := [_]) rfl (opw_spec (op := op) (by omega) (by omega))) rfl rfl ?_
      rintro _ _ X4 ⟨rfl, hX4, rfl⟩
      refine SD.take rfl panicBody (op_addStr rfl rfl (by first | omega | (simp only [ByteArray.size_append]; omega))) rfl rfl ?_
      refine SD.run rfl (op_callF en117 (vs := [_, _]) rfl (hopd (((hI.mono (hX1.trans' hX2)).mono hX3).mono hX4) hwa.2 hnb hmb (((hrb.mono (hX1.trans' hX2)).mono hX3).mono hX4))) rfl rfl ?_
      rintro _ _ X5 ⟨rfl, hX5, rfl⟩
      refine SD.take rfl panicBody (op_addStr rfl rfl (by first | omega | (simp only [ByteArray.size_append]; omega))) rfl rfl ?_
      refine SD.take rfl panicBody (op_assign rfl) rfl rfl ?_
      refine SD.nil ?_
      show SL _ _ _ _ _ _ _ [] _ _ _
      refine SL.nil <| T.ret1 rfl (ResIs.tmp rfl) ?_
      rw [textE, if_neg c1, if_neg c2, if_neg c3, if_neg c4, if_neg c5, if_neg c6, textL, textL, textL]
end Go.Proofs.YtnabbnhefjfegaaGreatDoor
