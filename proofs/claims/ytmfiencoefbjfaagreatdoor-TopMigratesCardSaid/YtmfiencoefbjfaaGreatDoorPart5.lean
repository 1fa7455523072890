/- What the law's proof rests on: the engine, a small separation logic over the kit's walk, and contracts of the functions that the law reaches. Part 5. -/
import Derived.Test.YtmfiencoefbjfaaGreatDoorCards
import Derived.Test.YtmfiencoefbjfaaGreatDoorTie
import Derived.WalkKit
import Derived.ProofKit
import Derived.OpenShut
import Derived.Deep.DeepHandedRow
import Derived.Deep.Slices
import Derived.Lib.LaidTab
import Derived.Lib.SmallJoins
import Derived.Stop.LaidErr
import Derived.Test.YtmfiencoefbjfaaGreatDoorPart1
import Derived.Test.YtmfiencoefbjfaaGreatDoorPart2
import Derived.Test.YtmfiencoefbjfaaGreatDoorPart3
import Derived.Test.YtmfiencoefbjfaaGreatDoorPart4
namespace Go.Proofs.YtmfiencoefbjfaaGreatDoor
section
set_option maxRecDepth 100000
theorem en39 : Enters Tryz.prog 39 := enters_mk Tryz.func39 (by kernel_rfl) rfl
theorem en40 : Enters Tryz.prog 40 := enters_mk Tryz.func40 (by kernel_rfl) rfl
end
open Go.RowKit
set_option maxRecDepth 20000 in
theorem parse_spec {X : PMap} : Spec Tryz.prog 16 [.string s12] X fun u X' => ∃ w, u = .tuple #[w, .int .i64 0] ∧ MatR X' w 3 [3, 7, 6] := by
  have hmx : maxLen = 9223372036854775807 := rfl
  have hw10 : w1[0]? = some 49 := by decide
  have hw11 : w1[1]? = some 49 := by decide
  have hw12 : w1[2]? = some 48 := by decide
  have hw20 : w2[0]? = some 49 := by decide
  have hw21 : w2[1]? = some 49 := by decide
  have hw22 : w2[2]? = some 49 := by decide
  have hw30 : w3[0]? = some 48 := by decide
  have hw31 : w3[1]? = some 49 := by decide
  have hw32 : w3[2]? = some 49 := by decide
  refine Spec.enter Tryz.func16 rfl Tryz.ntmps16 rfl ?_
  intro w0 hw0
  refine T.seq <| T.region <| SL.as rfl <| SL.v (op_assign (v := .int .i64 ((0 : Nat) : Int)) rfl) <| SL.nil <| T.seq <| T.region <| SL.mv rfl <| SL.w (op_callF en39 (vs := [_, _]) rfl (split_spec)) ?_
  rintro _ _ X1 ⟨rfl, hX1, b, rfl, hB⟩
  refine SL.as rfl <| SL.nil <| T.seq <| T.region <| SL.mv rfl <| SL.mv rfl <| SL.v (op_lenS Tryz.underlying105 rfl) <| SL.v (op_subN (q := 1) rfl rfl (by omega) (by omega)) ?_
  refine SL.v (op_sliceHiN (l := 3) Tryz.underlying105 ty9 rfl rfl rfl (by decide)) ?_
  refine SL.as rfl <| SL.nil <| T.seq <| T.region <| SL.v (op_build st98 (qs := []) rfl rfl) <| SL.w (op_box rfl) ?_
  rintro _ _ _ ⟨B18, rfl, rfl, rfl⟩
  refine SL.as rfl <| SL.nil <| T.seq <| T.seq <| T.region <| SL.mv rfl <| SL.v (op_lenS Tryz.underlying105 rfl) <| SL.v (op_move (v := .int .i64 ((0 : Nat) : Int)) rfl) <| SL.nil <| T.block <| T.unrollStart 4 ?_
  have hG0 : GrowS 65 1 (.slice none 0 0) 0 [] [] := GrowS.nil
  have hC0 : SetsR X1 [] [] := ⟨rfl, fun i m h => by simp at h⟩
  refine T.unroll ?_
  refine T.seq <| T.region <| SL.v (op_lssT rfl rfl (by omega)) ?_
  refine SL.nil <| T.seq <| T.condT rfl <| T.skip <| T.seq <| T.block <| T.seq <| T.region <| SL.mv rfl <| SL.v (op_indexN Tryz.underlying105 ty9 rfl rfl (by omega)) ?_
  refine SL.v (op_loadX (v := .string w1) ty9 rfl hB rfl) <| SL.as rfl <| SL.as rfl <| SL.nil <| T.seq <| T.seq <| T.region <| SL.mv rfl <| SL.v (op_eqlT rfl rfl (by omega)) ?_
  refine SL.nil <| T.condT rfl <| T.region <| SL.mv rfl <| SL.mv rfl <| SL.v (op_lenStr Tryz.underlying9 rfl) <| SL.v (op_nil rfl) <| SL.v (op_fieldAddr fa98_0 rfl) <| SL.w (op_store ty3 rfl rfl (by repeat constructor) rfl rfl rfl) ?_
  rintro _ _ _ ⟨rfl, rfl⟩
  refine SL.nil <| T.seq <| T.region <| SL.as rfl <| SL.nil <| T.seq <| T.seq <| T.region <| SL.mv rfl <| SL.v (op_lenStr Tryz.underlying9 rfl) <| SL.v (op_move (v := .int .i64 ((0 : Nat) : Int)) rfl) <| SL.nil <| T.block <| T.unrollStart 4 ?_
  have g00 : GrowS 3 1 (.slice none 0 0) 0 (ints []) [] := GrowS.nil
  refine T.unroll ?_
  refine T.seq <| T.region <| SL.v (op_lss rfl rfl) <| SL.nil <| T.seq <| T.condT rfl <| T.skip <| T.seq <| T.block <| T.seq <| T.region <| SL.mv rfl <| SL.as rfl <| SL.nil <| T.seq ?_
  refine T.region <| SL.mv rfl <| SL.mv rfl <| SL.v (op_idxStr Tryz.underlying9 rfl rfl rfl (by assumption)) ?_
  refine SL.v (op_eql rfl rfl) <| SL.nil <| T.condT rfl <| T.region <| SL.mv rfl <| SL.mv rfl <| SL.w (op_buildSlice Tryz.underlying42 bs3 (qs := [(0, _)]) rfl rfl rfl rfl rfl) ?_
  rintro _ _ _ ⟨B44, rfl, rfl, rfl⟩
  refine SL.w (op_appendG (own0 := [_]) sl42 rfl g00 rfl rfl rfl (by omega) (by omega)) ?_
  rintro sv01 _ _ ⟨G01, rfl, rfl, g01⟩
  change GrowS 3 1 sv01 1 (ints [0]) G01 at g01
  refine SL.as rfl <| SL.nil <| T.blk <| T.region <| SL.v (op_addN (q := 1) rfl rfl (by omega)) ?_
  refine SL.mv rfl <| SL.nil <| T.unroll ?_
  refine T.seq <| T.region <| SL.v (op_lss rfl rfl) <| SL.nil <| T.seq <| T.condT rfl <| T.skip <| T.seq <| T.block <| T.seq <| T.region <| SL.mv rfl <| SL.as rfl <| SL.nil <| T.seq ?_
  refine T.region <| SL.mv rfl <| SL.mv rfl <| SL.v (op_idxStr Tryz.underlying9 rfl rfl rfl (by assumption)) ?_
  refine SL.v (op_eql rfl rfl) <| SL.nil <| T.condT rfl <| T.region <| SL.mv rfl <| SL.mv rfl <| SL.w (op_buildSlice Tryz.underlying42 bs3 (qs := [(0, _)]) rfl rfl rfl rfl rfl) ?_
  rintro _ _ _ ⟨B44, rfl, rfl, rfl⟩
  refine SL.w (op_appendG (own0 := [_]) sl42 rfl g01 rfl rfl rfl (by omega) (by omega)) ?_
  rintro sv02 _ _ ⟨G02, rfl, rfl, g02⟩
  change GrowS 3 1 sv02 2 (ints [0, 1]) G02 at g02
  refine SL.as rfl <| SL.nil <| T.blk <| T.region <| SL.v (op_addN (q := 1) rfl rfl (by omega)) ?_
  refine SL.mv rfl <| SL.nil <| T.unroll ?_
  refine T.seq <| T.region <| SL.v (op_lss rfl rfl) <| SL.nil <| T.seq <| T.condT rfl <| T.skip <| T.seq <| T.block <| T.seq <| T.region <| SL.mv rfl <| SL.as rfl <| SL.nil <| T.seq ?_
  refine T.region <| SL.mv rfl <| SL.mv rfl <| SL.v (op_idxStr Tryz.underlying9 rfl rfl rfl (by assumption)) ?_
  refine SL.v (op_eql rfl rfl) <| SL.nil <| T.condF rfl <| T.skip <| T.blk <| T.region <| SL.v (op_addN (q := 1) rfl rfl (by omega)) ?_
  refine SL.mv rfl <| SL.nil <| T.pubG (own0 := [_]) g02 ?_
  intro Y0 hY0 hS0
  refine T.unroll ?_
  refine T.seq <| T.region <| SL.v (op_lss rfl rfl) <| SL.nil <| T.seq <| T.condF rfl ?_
  refine T.exit (T.exitCode (T.exitMore (T.exitBlk ?_)))
  refine T.drawG (own0 := [_]) (by kernel_rfl) 9 [.t 0, .t 1, .t 2, .t 3, .t 4, .t 5, .r 6, .r 7, .r 8] (by kernel_rfl) ?_
  refine SD.take rfl panicBody (op_move rfl) rfl rfl ?_
  refine SD.take rfl panicBody (op_move rfl) rfl rfl ?_
  refine SD.take rfl panicBody (op_nil rfl) rfl rfl ?_
  refine SD.take rfl panicBody (op_fieldAddr fa98_1 rfl) rfl rfl ?_
  refine SD.take rfl panicBody (op_load ty62 rfl (by repeat constructor) rfl) rfl rfl ?_
  refine SD.take rfl panicBody (op_move rfl) rfl rfl ?_
  refine SD.run rfl (op_callF en17 (vs := [_]) rfl (of_spec (l := [0, 1]) hS0 (by decide) (by decide))) rfl rfl ?_
  rintro _ _ X2 ⟨rfl, hX2, t0⟩
  obtain ⟨A0, l0, c0, rfl⟩ := t0.form
  rw [show maskOf [0, 1] = 3 by decide] at t0
  refine SD.run rfl (op_buildSlice Tryz.underlying62 bs65 (qs := [(0, _)]) rfl rfl rfl rfl rfl) rfl rfl ?_
  rintro _ _ _ ⟨B54, rfl, rfl, rfl⟩
  refine SD.runK rfl (op_appendG (own0 := [_]) sl62 rfl hG0 rfl rfl rfl (by omega) (by omega)) (by rintro _ _ _ ⟨G', rfl, rfl, _⟩; exact ⟨fun p hp => List.mem_append_left _ hp, PMap.le_trans hX2 (PMap.le_refl _)⟩) rfl rfl ?_
  rintro s1 _ _ ⟨G1, rfl, rfl, hG1⟩
  refine SD.nil ?_
  show SL _ _ _ _ _ _ _ [_, _, _] _ _ _
  obtain ⟨q1, p1, rfl⟩ := hG1.form
  refine SL.v (op_nil rfl) <| SL.v (op_fieldAddr fa98_1 rfl) <| SL.w (op_store ty62 rfl rfl (by repeat constructor) rfl rfl rfl) ?_
  rintro _ _ _ ⟨rfl, rfl⟩
  refine SL.nil <| T.blk <| T.region <| SL.v (op_addN (q := 1) rfl rfl (by omega)) ?_
  refine SL.mv rfl <| SL.nil ?_
  have hC1 := ((hC0.mono hY0).mono hX2).snoc t0
  refine T.unroll ?_
  refine T.seq <| T.region <| SL.v (op_lssT rfl rfl (by omega)) ?_
  refine SL.nil <| T.seq <| T.condT rfl <| T.skip <| T.seq <| T.block <| T.seq <| T.region <| SL.mv rfl <| SL.v (op_indexN Tryz.underlying105 ty9 rfl rfl (by omega)) ?_
  refine SL.v (op_loadX (v := .string w2) ty9 rfl ((hB.mono hY0).mono hX2) rfl) <| SL.as rfl <| SL.as rfl <| SL.nil <| T.seq <| T.seq <| T.region <| SL.mv rfl <| SL.v (op_eqlF rfl rfl (by omega)) ?_
  refine SL.nil <| T.condF rfl <| T.skip <| T.seq <| T.region <| SL.as rfl <| SL.nil <| T.seq <| T.seq <| T.region <| SL.mv rfl <| SL.v (op_lenStr Tryz.underlying9 rfl) <| SL.v (op_move (v := .int .i64 ((0 : Nat) : Int)) rfl) <| SL.nil <| T.block ?_
  refine T.perm (own' := ([_] ++ G1) ++ []) (by rw [List.append_nil]; exact List.Perm.refl _) ?_
  refine T.unrollStart 4 ?_
  have g10 : GrowS 3 1 (.slice none 0 0) 0 (ints []) [] := GrowS.nil
  refine T.unroll ?_
  refine T.seq <| T.region <| SL.v (op_lss rfl rfl) <| SL.nil <| T.seq <| T.condT rfl <| T.skip <| T.seq <| T.block <| T.seq <| T.region <| SL.mv rfl <| SL.as rfl <| SL.nil <| T.seq ?_
  refine T.region <| SL.mv rfl <| SL.mv rfl <| SL.v (op_idxStr Tryz.underlying9 rfl rfl rfl (by assumption)) ?_
  refine SL.v (op_eql rfl rfl) <| SL.nil <| T.condT rfl <| T.region <| SL.mv rfl <| SL.mv rfl <| SL.w (op_buildSlice Tryz.underlying42 bs3 (qs := [(0, _)]) rfl rfl rfl rfl rfl) ?_
  rintro _ _ _ ⟨B44, rfl, rfl, rfl⟩
  refine SL.w (op_appendG (own0 := [_] ++ G1) sl42 rfl g10 rfl rfl rfl (by omega) (by omega)) ?_
  rintro sv11 _ _ ⟨G11, rfl, rfl, g11⟩
  change GrowS 3 1 sv11 1 (ints [0]) G11 at g11
  refine SL.as rfl <| SL.nil <| T.blk <| T.region <| SL.v (op_addN (q := 1) rfl rfl (by omega)) ?_
  refine SL.mv rfl <| SL.nil <| T.unroll ?_
  refine T.seq <| T.region <| SL.v (op_lss rfl rfl) <| SL.nil <| T.seq <| T.condT rfl <| T.skip <| T.seq <| T.block <| T.seq <| T.region <| SL.mv rfl <| SL.as rfl <| SL.nil <| T.seq ?_
  refine T.region <| SL.mv rfl <| SL.mv rfl <| SL.v (op_idxStr Tryz.underlying9 rfl rfl rfl (by assumption)) ?_
  refine SL.v (op_eql rfl rfl) <| SL.nil <| T.condT rfl <| T.region <| SL.mv rfl <| SL.mv rfl <| SL.w (op_buildSlice Tryz.underlying42 bs3 (qs := [(0, _)]) rfl rfl rfl rfl rfl) ?_
  rintro _ _ _ ⟨B44, rfl, rfl, rfl⟩
  refine SL.w (op_appendG (own0 := [_] ++ G1) sl42 rfl g11 rfl rfl rfl (by omega) (by omega)) ?_
  rintro sv12 _ _ ⟨G12, rfl, rfl, g12⟩
  change GrowS 3 1 sv12 2 (ints [0, 1]) G12 at g12
  refine SL.as rfl <| SL.nil <| T.blk <| T.region <| SL.v (op_addN (q := 1) rfl rfl (by omega)) ?_
  refine SL.mv rfl <| SL.nil <| T.unroll ?_
  refine T.seq <| T.region <| SL.v (op_lss rfl rfl) <| SL.nil <| T.seq <| T.condT rfl <| T.skip <| T.seq <| T.block <| T.seq <| T.region <| SL.mv rfl <| SL.as rfl <| SL.nil <| T.seq ?_
  refine T.region <| SL.mv rfl <| SL.mv rfl <| SL.v (op_idxStr Tryz.underlying9 rfl rfl rfl (by assumption)) ?_
  refine SL.v (op_eql rfl rfl) <| SL.nil <| T.condT rfl <| T.region <| SL.mv rfl <| SL.mv rfl <| SL.w (op_buildSlice Tryz.underlying42 bs3 (qs := [(0, _)]) rfl rfl rfl rfl rfl) ?_
  rintro _ _ _ ⟨B44, rfl, rfl, rfl⟩
  refine SL.w (op_appendG (own0 := [_] ++ G1) sl42 rfl g12 rfl rfl rfl (by omega) (by omega)) ?_
  rintro sv13 _ _ ⟨G13, rfl, rfl, g13⟩
  change GrowS 3 1 sv13 3 (ints [0, 1, 2]) G13 at g13
  refine SL.as rfl <| SL.nil <| T.blk <| T.region <| SL.v (op_addN (q := 1) rfl rfl (by omega)) ?_
  refine SL.mv rfl <| SL.nil <| T.pubG (own0 := [_] ++ G1) g13 ?_
  intro Y1 hY1 hS1
  refine T.unroll ?_
  refine T.seq <| T.region <| SL.v (op_lss rfl rfl) <| SL.nil <| T.seq <| T.condF rfl ?_
  refine T.exit (T.exitCode (T.exitMore (T.exitBlk ?_)))
  refine T.drawG (own0 := [_]) (by kernel_rfl) 9 [.t 0, .t 1, .t 2, .t 3, .t 4, .t 5, .r 6, .r 7, .r 8] (by kernel_rfl) ?_
  refine SD.take rfl panicBody (op_move rfl) rfl rfl ?_
  refine SD.take rfl panicBody (op_move rfl) rfl rfl ?_
  refine SD.take rfl panicBody (op_nil rfl) rfl rfl ?_
  refine SD.take rfl panicBody (op_fieldAddr fa98_1 rfl) rfl rfl ?_
  refine SD.take rfl panicBody (op_load ty62 rfl (by repeat constructor) rfl) rfl rfl ?_
  refine SD.take rfl panicBody (op_move rfl) rfl rfl ?_
  refine SD.run rfl (op_callF en17 (vs := [_]) rfl (of_spec (l := [0, 1, 2]) hS1 (by decide) (by decide))) rfl rfl ?_
  rintro _ _ X3 ⟨rfl, hX3, t1⟩
  obtain ⟨A1, l1, c1, rfl⟩ := t1.form
  rw [show maskOf [0, 1, 2] = 7 by decide] at t1
  refine SD.run rfl (op_buildSlice Tryz.underlying62 bs65 (qs := [(0, _)]) rfl rfl rfl rfl rfl) rfl rfl ?_
  rintro _ _ _ ⟨B54, rfl, rfl, rfl⟩
  refine SD.runK rfl (op_appendG (own0 := [_]) sl62 rfl hG1 rfl rfl rfl (by omega) (by omega)) (by rintro _ _ _ ⟨G', rfl, rfl, _⟩; exact ⟨fun p hp => List.mem_append_left _ hp, PMap.le_trans hX3 (PMap.le_refl _)⟩) rfl rfl ?_
  rintro s2 _ _ ⟨G2, rfl, rfl, hG2⟩
  refine SD.nil ?_
  show SL _ _ _ _ _ _ _ [_, _, _] _ _ _
  obtain ⟨q2, p2, rfl⟩ := hG2.form
  refine SL.v (op_nil rfl) <| SL.v (op_fieldAddr fa98_1 rfl) <| SL.w (op_store ty62 rfl rfl (by repeat constructor) rfl rfl rfl) ?_
  rintro _ _ _ ⟨rfl, rfl⟩
  refine SL.nil <| T.blk <| T.region <| SL.v (op_addN (q := 1) rfl rfl (by omega)) ?_
  refine SL.mv rfl <| SL.nil ?_
  have hC2 := ((hC1.mono hY1).mono hX3).snoc t1
  refine T.unroll ?_
  refine T.seq <| T.region <| SL.v (op_lssT rfl rfl (by omega)) ?_
  refine SL.nil <| T.seq <| T.condT rfl <| T.skip <| T.seq <| T.block <| T.seq <| T.region <| SL.mv rfl <| SL.v (op_indexN Tryz.underlying105 ty9 rfl rfl (by omega)) ?_
  refine SL.v (op_loadX (v := .string w3) ty9 rfl ((((hB.mono hY0).mono hX2).mono hY1).mono hX3) rfl) <| SL.as rfl <| SL.as rfl <| SL.nil <| T.seq <| T.seq <| T.region <| SL.mv rfl <| SL.v (op_eqlF rfl rfl (by omega)) ?_
  refine SL.nil <| T.condF rfl <| T.skip <| T.seq <| T.region <| SL.as rfl <| SL.nil <| T.seq <| T.seq <| T.region <| SL.mv rfl <| SL.v (op_lenStr Tryz.underlying9 rfl) <| SL.v (op_move (v := .int .i64 ((0 : Nat) : Int)) rfl) <| SL.nil <| T.block ?_
  refine T.perm (own' := ([_] ++ G2) ++ []) (by rw [List.append_nil]; exact List.Perm.refl _) ?_
  refine T.unrollStart 4 ?_
  have g20 : GrowS 3 1 (.slice none 0 0) 0 (ints []) [] := GrowS.nil
  refine T.unroll ?_
  refine T.seq <| T.region <| SL.v (op_lss rfl rfl) <| SL.nil <| T.seq <| T.condT rfl <| T.skip <| T.seq <| T.block <| T.seq <| T.region <| SL.mv rfl <| SL.as rfl <| SL.nil <| T.seq ?_
  refine T.region <| SL.mv rfl <| SL.mv rfl <| SL.v (op_idxStr Tryz.underlying9 rfl rfl rfl (by assumption)) ?_
  refine SL.v (op_eql rfl rfl) <| SL.nil <| T.condF rfl <| T.skip <| T.blk <| T.region <| SL.v (op_addN (q := 1) rfl rfl (by omega)) ?_
  refine SL.mv rfl <| SL.nil <| T.unroll ?_
  refine T.seq <| T.region <| SL.v (op_lss rfl rfl) <| SL.nil <| T.seq <| T.condT rfl <| T.skip <| T.seq <| T.block <| T.seq <| T.region <| SL.mv rfl <| SL.as rfl <| SL.nil <| T.seq ?_
  refine T.region <| SL.mv rfl <| SL.mv rfl <| SL.v (op_idxStr Tryz.underlying9 rfl rfl rfl (by assumption)) ?_
  refine SL.v (op_eql rfl rfl) <| SL.nil <| T.condT rfl <| T.region <| SL.mv rfl <| SL.mv rfl <| SL.w (op_buildSlice Tryz.underlying42 bs3 (qs := [(0, _)]) rfl rfl rfl rfl rfl) ?_
  rintro _ _ _ ⟨B44, rfl, rfl, rfl⟩
  refine SL.w (op_appendG (own0 := [_] ++ G2) sl42 rfl g20 rfl rfl rfl (by omega) (by omega)) ?_
  rintro sv21 _ _ ⟨G21, rfl, rfl, g21⟩
  change GrowS 3 1 sv21 1 (ints [1]) G21 at g21
  refine SL.as rfl <| SL.nil <| T.blk <| T.region <| SL.v (op_addN (q := 1) rfl rfl (by omega)) ?_
  refine SL.mv rfl <| SL.nil <| T.unroll ?_
  refine T.seq <| T.region <| SL.v (op_lss rfl rfl) <| SL.nil <| T.seq <| T.condT rfl <| T.skip <| T.seq <| T.block <| T.seq <| T.region <| SL.mv rfl <| SL.as rfl <| SL.nil <| T.seq ?_
  refine T.region <| SL.mv rfl <| SL.mv rfl <| SL.v (op_idxStr Tryz.underlying9 rfl rfl rfl (by assumption)) ?_
  refine SL.v (op_eql rfl rfl) <| SL.nil <| T.condT rfl <| T.region <| SL.mv rfl <| SL.mv rfl <| SL.w (op_buildSlice Tryz.underlying42 bs3 (qs := [(0, _)]) rfl rfl rfl rfl rfl) ?_
  rintro _ _ _ ⟨B44, rfl, rfl, rfl⟩
  refine SL.w (op_appendG (own0 := [_] ++ G2) sl42 rfl g21 rfl rfl rfl (by omega) (by omega)) ?_
  rintro sv22 _ _ ⟨G22, rfl, rfl, g22⟩
  change GrowS 3 1 sv22 2 (ints [1, 2]) G22 at g22
  refine SL.as rfl <| SL.nil <| T.blk <| T.region <| SL.v (op_addN (q := 1) rfl rfl (by omega)) ?_
  refine SL.mv rfl <| SL.nil <| T.pubG (own0 := [_] ++ G2) g22 ?_
  intro Y2 hY2 hS2
  refine T.unroll ?_
  refine T.seq <| T.region <| SL.v (op_lss rfl rfl) <| SL.nil <| T.seq <| T.condF rfl ?_
  refine T.exit (T.exitCode (T.exitMore (T.exitBlk ?_)))
  refine T.drawG (own0 := [_]) (by kernel_rfl) 9 [.t 0, .t 1, .t 2, .t 3, .t 4, .t 5, .r 6, .r 7, .r 8] (by kernel_rfl) ?_
  refine SD.take rfl panicBody (op_move rfl) rfl rfl ?_
  refine SD.take rfl panicBody (op_move rfl) rfl rfl ?_
  refine SD.take rfl panicBody (op_nil rfl) rfl rfl ?_
  refine SD.take rfl panicBody (op_fieldAddr fa98_1 rfl) rfl rfl ?_
  refine SD.take rfl panicBody (op_load ty62 rfl (by repeat constructor) rfl) rfl rfl ?_
  refine SD.take rfl panicBody (op_move rfl) rfl rfl ?_
  refine SD.run rfl (op_callF en17 (vs := [_]) rfl (of_spec (l := [1, 2]) hS2 (by decide) (by decide))) rfl rfl ?_
  rintro _ _ X4 ⟨rfl, hX4, t2⟩
  obtain ⟨A2, l2, c2, rfl⟩ := t2.form
  rw [show maskOf [1, 2] = 6 by decide] at t2
  refine SD.run rfl (op_buildSlice Tryz.underlying62 bs65 (qs := [(0, _)]) rfl rfl rfl rfl rfl) rfl rfl ?_
  rintro _ _ _ ⟨B54, rfl, rfl, rfl⟩
  refine SD.runK rfl (op_appendG (own0 := [_]) sl62 rfl hG2 rfl rfl rfl (by omega) (by omega)) (by rintro _ _ _ ⟨G', rfl, rfl, _⟩; exact ⟨fun p hp => List.mem_append_left _ hp, PMap.le_trans hX4 (PMap.le_refl _)⟩) rfl rfl ?_
  rintro s3 _ _ ⟨G3, rfl, rfl, hG3⟩
  refine SD.nil ?_
  show SL _ _ _ _ _ _ _ [_, _, _] _ _ _
  obtain ⟨q3, p3, rfl⟩ := hG3.form
  refine SL.v (op_nil rfl) <| SL.v (op_fieldAddr fa98_1 rfl) <| SL.w (op_store ty62 rfl rfl (by repeat constructor) rfl rfl rfl) ?_
  rintro _ _ _ ⟨rfl, rfl⟩
  refine SL.nil <| T.blk <| T.region <| SL.v (op_addN (q := 1) rfl rfl (by omega)) ?_
  refine SL.mv rfl <| SL.nil ?_
  have hC3 := ((hC2.mono hY2).mono hX4).snoc t2
  refine T.unroll ?_
  refine T.seq <| T.region <| SL.v (op_lssF rfl rfl (by omega)) ?_
  refine SL.nil <| T.seq <| T.condF rfl ?_
  refine T.exit (T.exitCode (T.exitMore (T.exitBlk ?_)))
  refine T.seq <| T.pubG (own0 := [_]) hG3 ?_
  intro Z1 hZ1 hS9
  refine T.pub B18 (by repeat constructor) ?_
  intro Z2 hZ2 hB9 _
  obtain ⟨b9, hb9, hb91⟩ := hS9.blk (by decide)
  have hM : MatR Z2 (.pointer (some ⟨B18, 0, none⟩)) 3 [3, 7, 6] := ⟨B18, _, _, _, rfl, hB9, ((hC3.mono hZ1).mono hZ2), fun _ => ⟨b9, hb9, hb91.mono hZ2⟩, by decide, by decide⟩
  refine T.seq <| T.region <| SL.mv rfl <| SL.v (op_nil rfl) <| SL.v (op_fieldAddr fa98_0 rfl) <| SL.v (op_loadX ty3 rfl hB9 rfl) <| SL.v (op_gtr rfl rfl) <| SL.mv rfl <| SL.mv rfl <| SL.v (op_nil rfl) <| SL.v (op_fieldAddr fa98_1 rfl) <| SL.v (op_loadX ty62 rfl hB9 rfl) <| SL.v (op_lenS Tryz.underlying62 rfl) <| SL.v (op_gtrF rfl rfl (by omega)) ?_
  refine SL.v (op_pickF rfl rfl) <| SL.mv rfl <| SL.mv rfl <| SL.w (op_callF en40 (vs := [_]) rfl (mtext_spec hM (by decide))) ?_
  rintro _ _ X9 ⟨rfl, hX9, rfl⟩
  rw [show (⟨(textK 3 [3, 7, 6] [3, 7, 6].length).toArray⟩ : ByteArray) = s12 by kernel_rfl]
  refine SL.mv rfl <| SL.v (op_neqStrD rfl rfl) <| SL.v (op_pickF rfl rfl) <| SL.nil <| T.condF rfl <| T.skip <| T.seq <| T.region <| SL.mv rfl <| SL.as rfl <| SL.v (op_assign (v := .int .i64 ((0 : Nat) : Int)) rfl) <| SL.nil <| T.ret2 rfl (ResIs.tmp rfl) (ResIs.tmp rfl) ?_
  exact ⟨_, rfl, hM.mono hX9⟩
end Go.Proofs.YtmfiencoefbjfaaGreatDoor
namespace Go.Proofs.YtmfiencoefbjfaaGreatDoor
section
set_option maxRecDepth 100000
theorem en16 : Enters Tryz.prog 16 := enters_mk Tryz.func16 (by kernel_rfl) rfl
end
open Go.RowKit
theorem conF_three : conF 3 [3, 7, 6] = [(7, 2), (6, 6), (3, 3), (2, 7)] := by decide +kernel
theorem cov_two : cov (conF 3 [3, 7, 6]) [3, 7, 6] 2 0 := by
  rw [conF_three]
  refine ⟨[1, 2], Nat.le_refl _, by decide, fun i j h => ?_⟩
  have hi : i < 3 := by
    rcases Nat.lt_or_ge i 3 with h1 | h1
    · exact h1
    · rw [inO, List.getD_eq_getElem?_getD, List.getElem?_eq_none (by simpa using h1)] at h; simp at h
  have hj : j < 3 := by
    refine bits_of_lt (a := [3, 7, 6].getD i 0) (c := 3) ?_ h
    have : ∀ i < 3, [3, 7, 6].getD i 0 < 2 ^ 3 := by decide
    exact this i hi
  have : ∀ i < 3, ∀ j < 3, inO [3, 7, 6] i j = true → ∃ k ∈ [1, 2], hasC [(7, 2), (6, 6), (3, 3), (2, 7)] k i j = true := by decide
  exact this i hi j hj h
theorem plan_more {c : Nat} {ms us ps : List Nat} (hc : c < 6) (hl : ms.length < 6) (hO : CfgOk c ms (ownU ms.length, ms)) (hR : CfgOk c ms (us, ps)) (hlt : ps.length < ms.length) : 0 < (planM (jntA (ownU ms.length, ms) (us, ps)) (jntB (ownU ms.length, ms) (us, ps))).length := by
  obtain ⟨hrun, _, _⟩ := runJ hO hR (by omega) hc
  refine Nat.pos_of_ne_zero fun h0 => ?_
  rw [List.eq_nil_of_length_eq_zero h0] at hrun
  have he : jntA (ownU ms.length, ms) (us, ps) = jntB (ownU ms.length, ms) (us, ps) := hrun
  have hle := hR.len
  obtain ⟨ext, e1, e2, e3, e4, e5, e6, _⟩ := numL_spec ms ps [] ms.length (Nat.le_refl _) List.nodup_nil (by simp)
  rw [List.nil_append] at e1 e6
  have hlo : (ownU ms.length).length = ms.length := by simp [ownU]
  simp only at hle
  unfold jntA jntB at he
  simp only at he
  generalize (numL ms ps [] ms.length).2 = n at *
  rw [e1] at he
  have hin : ∀ u ∈ List.range ms.length, u ∈ ext := fun u hu => by
    have hu3 := List.mem_range.1 hu
    have hA : Rel (overM (ownU ms.length) ms (List.range ms.length) n).1 u u = true :=
      (rel_overU (us := ownU ms.length) (ps := ms) (at' := List.range ms.length) (n := n) (by omega) (by simp) (by omega) (fun k hk => by have := List.mem_range.1 hk; omega) u u).2 ⟨u, by simpa using hu3, by simp [hu3], rel_ownU.2 ⟨hu3, rfl⟩⟩
    rw [he] at hA
    obtain ⟨r, g1, g2, _⟩ := (rel_overU (us := us) (ps := ps) (at' := ext) (n := n) (by omega) e2 (by omega) e6 u u).1 hA
    rw [List.getD_eq_getElem?_getD, List.getElem?_eq_getElem g1] at g2
    have g3 : ext[r] = u := g2
    rw [← g3]
    exact List.getElem_mem g1
  have := nodup_len (l := List.range ms.length) List.nodup_range hin
  rw [e2, List.length_range] at this
  omega
theorem awakeA_spec {X : PMap} (hT : Tab X) : Spec Tryz.prog 4 [] X fun u _ => u = .bool true := by
  refine Spec.enter Tryz.func4 rfl Tryz.ntmps4 rfl ?_
  intro w0 hw0
  refine T.seq <| T.region <| SL.as rfl <| SL.nil <| T.seq <| T.region <| SL.w (op_callF en16 (vs := [_]) rfl (parse_spec)) ?_
  rintro _ _ X1 ⟨rfl, hX1, v1, rfl, hM⟩
  obtain ⟨bm, rfl⟩ := hM.ptr
  refine SL.mv rfl <| SL.v (op_extract rfl rfl) <| SL.v (op_extract rfl rfl) <| SL.as rfl <| SL.as rfl <| SL.nil <| T.seq <| T.region <| SL.mv rfl <| SL.w (op_callF en7 (vs := [_, _]) rfl (minimal_spec (hT.mono hX1) hM (by decide) (by decide) (by decide) 100 (by omega) (by omega))) ?_
  rintro _ _ X2 ⟨rfl, hX2, wu, wp, q, mq, cq, Aq, ch, rfl, hMu, hMp, hmin⟩
  obtain ⟨bwu, rfl⟩ := hMu.ptr
  obtain ⟨bwp, rfl⟩ := hMp.ptr
  have hl2 := hmin.min 2 cov_two
  have hokR := rolOk (by decide) (by decide) hmin
  have hokO : CfgOk 3 [3, 7, 6] (ownU [3, 7, 6].length, [3, 7, 6]) := ownOk (by decide) (by decide) (by decide)
  have hrolW : CfgW X2 (.agg #[.pointer (some ⟨bwu, 0, none⟩), .pointer (some ⟨bwp, 0, none⟩)]) 3 (transM [3, 7, 6].length (ch.map (·.1)), ch.map (·.2)) :=
    ⟨bwu, bwp, rfl, (show MatR X2 _ (ch.map (·.2)).length _ by rw [List.length_map]; exact hMu), hMp, rows_lt hokR⟩
  have hpos := plan_more (by decide) (by decide) hokO hokR (by rw [List.length_map]; exact Nat.lt_of_le_of_lt hl2 (by decide))
  have hT2 := (hT.mono hX1).mono hX2
  have hon := fun {X : PMap} (h : MatR X (.pointer (some ⟨bm, 0, none⟩)) 3 [3, 7, 6]) => own_spec h (by decide)
  generalize hS : (ownU [3, 7, 6].length, [3, 7, 6]) = S at hokO hpos hon
  generalize hS' : (transM [3, 7, 6].length (ch.map (·.1)), ch.map (·.2)) = S' at hokR hpos hrolW
  have hpl := fun {X : PMap} (hT : Tab X) {v w : Value} (h : CfgW X v 3 S) (h' : CfgW X w 3 S') => plan_spec hT h h' (by rw [hokO.len, hokR.len]) hokO.per hokR.per (by have h1 := hokO.few; have h2 := hokR.few; omega)
  generalize planM (jntA S S') (jntB S S') = l at hpos hpl
  refine SL.mv rfl <| SL.v (op_extract rfl rfl) <| SL.v (op_extract rfl rfl) <| SL.v (op_extract rfl rfl) <| SL.w (op_alloc z33) ?_
  rintro _ _ _ ⟨B3, rfl, rfl, rfl⟩
  refine SL.w (op_alloc z36) ?_
  rintro _ _ _ ⟨B4, rfl, rfl, rfl⟩
  refine SL.w (op_store ty33 rfl rfl (by repeat constructor) rfl rfl rfl) ?_
  rintro _ _ _ ⟨rfl, rfl⟩
  refine SL.w (op_store ty36 rfl rfl (by repeat constructor) rfl rfl rfl) ?_
  rintro _ _ _ ⟨rfl, rfl⟩
  refine SL.as rfl <| SL.nil <| T.seq <| T.seq <| T.region <| SL.mv rfl <| SL.v (op_neqF rfl rfl (by omega)) ?_
  refine SL.mv rfl <| SL.mv rfl <| SL.v (op_neqF rfl rfl (by omega)) ?_
  refine SL.v (op_pickF rfl rfl) <| SL.nil <| T.condF rfl <| T.skip <| T.seq <| T.draw (by kernel_rfl) 9 [.t 0, .t 2, .r 1, .r 3, .t 4, .t 5, .t 6, .t 7, .t 8] (by kernel_rfl) ?_
  refine SD.take rfl panicBody (op_move rfl) rfl rfl ?_
  refine SD.take rfl panicBody (op_load ty33 rfl (by repeat constructor) rfl) rfl rfl ?_
  refine SD.run rfl (op_callF en8 (vs := [_]) rfl (hon (hM.mono hX2))) rfl rfl ?_
  rintro _ _ X3 ⟨rfl, hX3, hown⟩
  obtain ⟨bou, bop, rfl⟩ := cfgV hown
  refine SD.run rfl (op_callF en10 (vs := [_, _]) rfl (hpl (hT2.mono hX3) hown (hrolW.mono hX3))) rfl rfl ?_
  rintro _ _ X4 ⟨rfl, hX4, sl, rfl, hsl⟩
  obtain ⟨Al, cl, rfl⟩ := hsl.form
  refine SD.take rfl panicBody (op_move rfl) rfl rfl ?_
  refine SD.take rfl panicBody (op_extract rfl rfl) rfl rfl ?_
  refine SD.take rfl panicBody (op_extract rfl rfl) rfl rfl ?_
  refine SD.take rfl panicBody (op_assign rfl) rfl rfl ?_
  refine SD.take rfl panicBody (op_assign rfl) rfl rfl ?_
  refine SD.nil ?_
  show SL _ _ _ _ _ _ _ [] _ _ _
  refine SL.nil <| T.seq <| T.region <| SL.mv rfl <| SL.v (op_eqlT rfl rfl (by omega)) ?_
  refine SL.mv rfl <| SL.mv rfl <| SL.v (op_lenS Tryz.underlying45 rfl) <| SL.v (op_gtrT rfl rfl (by omega)) ?_
  refine SL.v (op_pickT rfl rfl) <| SL.as rfl <| SL.nil <| T.ret1 rfl (ResIs.tmp rfl) ?_
  rfl
end Go.Proofs.YtmfiencoefbjfaaGreatDoor
namespace Go.Proofs.YtmfiencoefbjfaaGreatDoor
open Go.ChangeShapes Go.WideShapes Go.ChangeAt Go.RowKit Go.Joins
/-- All blocks of a world. -/
def heapX (W : World) : PMap := fun k => W.heap[k]?
theorem heapX_in (W : World) : PIn (heapX W) W := fun _ _ h => h
theorem blk_of_cells {W : World} {b o : Nat} {cs : List Value} (h0 : 0 < cs.length) (h : ∀ i v, cs[i]? = some v → W.cell? ⟨b, o + i, none⟩ = some v) : ∃ pre, pre.length = o ∧ Blk (heapX W) b (pre ++ cs) := by
  have h1 := h 0 cs[0] (by simp)
  unfold World.cell? at h1
  cases hb : W.heap[b]? with
  | none => rw [hb] at h1; cases h1
  | some x =>
    cases x with
    | cells c ty fr =>
      have hget : ∀ i v, cs[i]? = some v → c[o + i]? = some v := fun i v hv => by
        have := h i v hv
        simp only [World.cell?, hb] at this
        simpa using this
      have ho : o < c.size := by
        have := hget 0 cs[0] (by simp)
        rw [Nat.add_zero] at this
        exact (Array.getElem?_eq_some_iff.1 this).1
      refine ⟨c.toList.take o, by simp; omega, c.toList.drop (o + cs.length), ty, fr, ?_⟩
      unfold heapX
      rw [hb]
      congr 2
      apply Array.toList_inj.1
      apply List.ext_getElem?
      intro k
      simp only [List.append_assoc]
      have hto : (c.toList.take o).length = o := by simp; omega
      rcases Nat.lt_or_ge k o with hk | hk
      · rw [List.getElem?_append_left (by simpa [hto] using hk), List.getElem?_take, if_pos hk]
      · rw [List.getElem?_append_right (by simpa [hto] using hk)]
        simp only [hto]
        rcases Nat.lt_or_ge (k - o) cs.length with hk2 | hk2
        · rw [List.getElem?_append_left hk2, List.getElem?_eq_getElem hk2]
          have := hget (k - o) cs[k - o] (List.getElem?_eq_getElem hk2)
          rw [show o + (k - o) = k by omega] at this
          simpa using this
        · rw [List.getElem?_append_right hk2, List.getElem?_drop]
          congr 1
          omega
    | _ => rw [hb] at h1; cases h1

theorem under24 : Tryz.prog.cellsOf 24 = 3 := by kernel_rfl
theorem cells5 : Tryz.prog.cellsOf 5 = 1 := by kernel_rfl
section
variable {H : Type} {enc : TypeId × Value → H} {W : World}
/-- A slice of bytes, opened; it reads the same behind a call. -/
theorem open_bytes {t : TypeId} (ht : Tryz.prog.underlying t = some (.slice 5)) {n : Nat} {v : Value} {x : DataW H × List MemPlace} (h : DataW.trod enc Tryz.prog W 0 (fun _ => true) true n t [v] = some x) :
    (∃ bs, BytesR (heapX W) v bs ∧ ∀ b ∈ bs, b < 256) ∧ ∀ W', Below W.heap.size W W' → ∀ sp : Nat → Bool, (∀ p ∈ x.2, sp p.block = true) → ∃ m, DataW.trod enc Tryz.prog W' 0 sp true m t [v] = some x := by
  rcases open_ints ht Tryz.underlying5 cells5 h with ⟨hcs, rfl⟩ | ⟨a, len, cap, zs, hcs, hb, hl, hm, hz, rfl, hcell, hwf⟩
  · obtain rfl : v = .slice none 0 0 := by simpa using hcs
    exact ⟨⟨[], .inl ⟨rfl, _, _, rfl⟩, by simp⟩, fun W' _ sp _ => ⟨1, by simp [DataW.trod, ht]⟩⟩
  · obtain rfl : v = .slice (some a) len cap := by simpa using hcs
    simp only [if_true] at hz
    have hblk : 0 < zs.length → a.block < W.heap.size ∧ a.spot = none := fun h => by
      have h1 := hcell 0 h
      have h2 : W.cell? a = some (.int .u8 (zs.getD 0 0)) := by simpa [Addr.add] using h1
      refine ⟨World.block_lt_of_cell? _ _ h2, ?_⟩
      unfold World.cell? at h2
      split at h2
      · split at h2
        · cases h2
        · rename_i hs; simpa using hs
      · cases h2
    have hnn : ∀ z ∈ zs, ∃ b : Nat, b < 256 ∧ z = (b : Int) := fun z hz => by
      have := hwf z hz
      simp only [Lit.wf, Bool.and_eq_true, decide_eq_true_eq] at this
      obtain ⟨this, that⟩ : (0 : Int) ≤ z ∧ z ≤ 255 := this
      obtain ⟨b, rfl⟩ := Int.eq_ofNat_of_zero_le (show 0 ≤ z by omega)
      exact ⟨b, by omega, rfl⟩
    refine ⟨⟨(zs.take len).map Int.toNat, ?_, fun b hb => ?_⟩, fun W' hB sp hsp => ⟨2, ?_⟩⟩
    · rcases Nat.eq_zero_or_pos len with h0 | h0
      · subst h0
        exact .inl ⟨by simp, _, _, rfl⟩
      · obtain ⟨hlt, hspot⟩ := hblk (by omega)
        obtain ⟨ab, ao, asp⟩ := a
        simp only at hspot
        subst hspot
        have hlen : ((zs.take len).map Int.toNat).length = len := by simp; omega
        obtain ⟨pre, hpre, hB⟩ := blk_of_cells (W := W) (b := ab) (o := ao) (cs := bytesC ((zs.take len).map Int.toNat)) (by simp [bytesC]; omega) (fun i v hv => by
          have hi := (List.getElem?_eq_some_iff.1 hv).1
          simp only [bytesC, List.length_map, List.length_take] at hi
          have h1 := hcell i (by omega)
          rw [Addr.add_mid] at h1
          rw [h1]
          have hil : i < zs.length := by omega
          obtain ⟨b, _, hbz⟩ := hnn zs[i] (List.getElem_mem hil)
          simp only [bytesC, List.getElem?_map, List.getElem?_take, show i < len by omega, if_true, List.getElem?_eq_getElem hil, Option.map_some, Option.some.injEq] at hv
          rw [← hv]
          simp [List.getD, List.getElem?_eq_getElem hil, hbz])
        refine .inr ⟨by omega, ab, cap, pre, ?_, hB⟩
        rw [hpre, hlen]
    · obtain ⟨z, hz1, rfl⟩ := List.mem_map.1 hb
      obtain ⟨b, h1, rfl⟩ := hnn z (List.mem_of_mem_take hz1)
      simpa using h1
    · refine shut_ints 0 ht Tryz.underlying5 cells5 hb hl hm ?_ (fun i hi => ?_) hwf
      · rcases Nat.eq_zero_or_pos zs.length with h0 | h0
        · split <;> omega
        · have : sp a.block = true := hsp (.cell a.block (a.off + 0)) (by
            simp only [MemPlace.row, List.mem_map, List.mem_range]
            exact ⟨0, h0, by simp⟩)
          rw [this, if_pos rfl]
          exact hz
      · rw [hB.cell (p := a.add i) (by rw [block_add]; exact (hblk (by omega)).1)]
        exact hcell i hi
end
set_option maxRecDepth 100000 in
/-- A raw matrix, opened; it reads the same behind a call. -/
theorem open_raw {H : Type} {enc : TypeId × Value → H} {W : World} {base : Nat} {v : Value} {d : DataW H} {p : List MemPlace} (hval : Value.okWide Tryz.prog W .any base 24 v) (h : DataW.Trod enc Tryz.prog W 0 (fun _ => true) true 24 v d p) :
    (∃ (R C : Nat) (s : Value) (bs : List Nat), v = .agg #[.int .u8 (R : Int), .int .u8 (C : Int), s] ∧ R < 256 ∧ C < 256 ∧ BytesR (heapX W) s bs) ∧
      ∀ W', Below W.heap.size W W' → ∀ sp : Nat → Bool, (∀ q ∈ p, sp q.block = true) → DataW.Trod enc Tryz.prog W' 0 sp true 24 v d p := by
  obtain ⟨v0, v1, v2, y0, y1, y2, n, rfl, rfl, rfl, h0, h1, h2⟩ := open_agg3 Tryz.underlying24 (by kernel_rfl) under24 hval h
  obtain ⟨za, e0, x0, w0⟩ := DataW.trod_int Tryz.underlying5 h0
  obtain ⟨zb, e1, x1, w1⟩ := DataW.trod_int Tryz.underlying5 h1
  obtain ⟨⟨bs, hbs, _⟩, again⟩ := open_bytes Tryz.underlying22 h2
  obtain rfl : v0 = .int .u8 za := by simpa using e0
  obtain rfl : v1 = .int .u8 zb := by simpa using e1
  subst x0 x1
  refine ⟨?_, fun W' hB sp hsp => ?_⟩
  · simp only [Lit.wf, Bool.and_eq_true, decide_eq_true_eq] at w0 w1
    obtain ⟨a0, b0⟩ : (0 : Int) ≤ za ∧ za ≤ 255 := w0
    obtain ⟨a1, b1⟩ : (0 : Int) ≤ zb ∧ zb ≤ 255 := w1
    obtain ⟨R, rfl⟩ := Int.eq_ofNat_of_zero_le a0
    obtain ⟨C, rfl⟩ := Int.eq_ofNat_of_zero_le a1
    exact ⟨R, C, v2, bs, rfl, by omega, by omega, hbs⟩
  · exact shut_agg3 Tryz.underlying24 (by kernel_rfl) under24 ⟨1, trod_int_mk 0 Tryz.underlying5 w0⟩ ⟨1, trod_int_mk 0 Tryz.underlying5 w1⟩ (again W' hB sp fun q hq => hsp q (by simp [hq]))
/-- The table of math/bits. -/
theorem gTab64 : Tryz.prog.globalNamed "math/bits.deBruijn64tab" = some 0 := by kernel_rfl
theorem gTab64T : (Tryz.prog.globals[0]?).map (·.type) = some 166 := by kernel_rfl
theorem cells133 : Tryz.prog.cellsOf 166 = 64 := by kernel_rfl
theorem tab_of {W : World} {x y : String × DataW Unit} (h : laidMet Tryz.prog [("math/bits.deBruijn64tab", Rows.laid_math_bits_deBruijn64tab), x, y] W) : Tab (heapX W) := by
  have ht : Lib.TabIs Tryz.prog W "math/bits.deBruijn64tab" .u8 (tab64.map fun (i : Nat) => (i : Int)) := Lib.tabIs_of_head gTab64 gTab64T Tryz.underlying166 Tryz.underlying5 cells5 cells133 h
  obtain ⟨pre, hpre, hB⟩ := blk_of_cells (W := W) (b := 0) (o := 0) (cs := tab64.map fun (i : Nat) => .int .u8 (i : Int)) (by decide) (fun i v hv => by
    have hi := (List.getElem?_eq_some_iff.1 hv).1
    have := ht.cell gTab64 i (by simpa using hi)
    rw [Nat.zero_add, this, ← hv]
    simp only [List.length_map] at hi
    simp [List.getD, hi])
  obtain rfl : pre = [] := List.eq_nil_of_length_eq_zero hpre
  exact hB
/-- A law's last step: it has returned true, and every argument reads as before. -/
theorem law_post {H : Type} {enc : TypeId × Value → H} {P : Program} {f : Func} {s : ChangeSpec} {W W' : World} {args : Array Value} {ds gs : List (DataW H)} {before : List MemPlace} {t : TypeId}
    (hW : DataW.Whole enc P f.params.toList s.vars false W args.toList ds gs before) (hv : s.vars = []) (hrt : f.resultTypes = #[t]) (hb : P.underlying t = some .bool)
    (hfn : (s.fn H (ds ++ gs)).results = [.lit (.bool true)]) (hfa : (s.fn H (ds ++ gs)).args = ds) (hfv : (s.fn H (ds ++ gs)).vars = [])
    (hargs : ∀ sp : Nat → Bool, (∀ p ∈ before, sp p.block = true) → DataW.TrodAll enc P W' 0 sp true f.params.toList args.toList ds before) (hB : Below W.heap.size W W') :
    s.post enc P f false true false false W args (.bool true) W' := by
  have hlt : ∀ p ∈ before, p.block < W.heap.size := fun p hp => hW.lt p hp
  have hold : ∀ p ∈ before, (fun b => decide (b < W.heap.size)) p.block = true := fun p hp => by simpa using hlt p hp
  have hres : ∀ (b : Nat) (sp : Nat → Bool) (hd : Bool), DataW.TrodAll enc P W' b sp hd f.resultTypes.toList ((Value.bool true).resultList f.resultTypes.size) (s.fn H (ds ++ gs)).results [] := fun b sp hd => by
    rw [hrt, hfn]
    exact trodAll_cons_mk (shut_bool hb _) trodAll_mk0
  have hargs' : ∀ sp : Nat → Bool, (∀ p ∈ before, sp p.block = true) → DataW.TrodAll enc P W' 0 sp true f.params.toList args.toList (s.fn H (ds ++ gs)).args before := by rw [hfa]; exact hargs
  have hvars : ∀ sp : Nat → Bool, DataW.TrodVars enc P W' sp s.vars (s.fn H (ds ++ gs)).vars [] := fun sp => by rw [hv, hfv]; rfl
  refine ⟨ds, gs, before, [], before, [], hW, hres _ _ _, hargs' _ hold, hvars _, World.keptBut_mono (fun p hp => ⟨hp, Or.inr (by simpa using hp)⟩) (hB.frame (· ∈ before)), fun hh => by cases hh⟩
theorem own : ownKnob Tryz.prog.godebug = none := by kernel_rfl
/-- What a list of data lays in cells: whole numbers, or rows of them. -/
def litCells : DataW Unit → Array Value
  | .agg l => (l.flatMap fun d => match d with | .lit (.int k n) => [Value.int k n] | .agg r => r.map (fun e => match e with | .lit (.int k n) => Value.int k n | _ => undef) | _ => [undef]).toArray
  | _ => #[]
def layAt (w : World) (g : Nat) (d : DataW Unit) : World :=
  { w with heap := w.heap.modify g fun
      | .cells _ t frozen => .cells (litCells d) t frozen
      | o => o }
/-- A world for the witness: the tables hold what their initialisers lay. -/
noncomputable def laidWorld (os : Os) : World :=
  layAt (layAt (layAt (World.holding Tryz.prog os ⟨#[], #[], []⟩) 0 Rows.laid_math_bits_deBruijn64tab) 3 Rows.laid_unicode_utf8_acceptRanges) 2 Rows.laid_unicode_utf8_first
end Go.Proofs.YtmfiencoefbjfaaGreatDoor
