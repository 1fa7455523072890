/- BOOLEAN MATRICES: made, transposed. -/
import Derived.Test.YtoheffglppbcbaaDoorEngine2
import Derived.Test.YtoheffglppbcbaaDoorLat2
namespace Go.Proofs.YtoheffglppbcbaaDoor
section
set_option maxRecDepth 100000
theorem en73 : Enters Tryd.prog 73 := enters_mk Tryd.func73 (by kernel_rfl) rfl
theorem mr59 : ∃ i z, Tryd.prog.info? 47 = some i ∧ i.size = 1 ∧ i.bytes = 24 ∧ i.zero = some z ∧ z.cells = ([.slice none 0 0] : List Value).toArray := mr_of (by kernel_rfl)
theorem z104 : Zero Tryd.prog 104 [.int .i64 0, .slice none 0 0] := ⟨zero_of (by kernel_rfl)⟩
theorem st104 : StT Tryd.prog 104 [(0, 1), (1, 1)] [.int .i64 0, .slice none 0 0] := ⟨⟨_, Tryd.underlying104, fun _ => by kernel_rfl, z104⟩⟩
end
open Go.RowKit
def zset : Value := .slice none 0 0
theorem mnew_spec {X : PMap} (r c : Nat) (hr : r < 64) (hc : c < 64) : SpecO Tryd.prog 73 [.int .i64 (r : Int), .int .i64 (c : Int)] X fun u own' X' => ∃ b b', u = .tuple #[.pointer (some ⟨b, 0, none⟩), .int .i64 0] ∧ own' = [⟨b, [.int .i64 (c : Int), .slice (some ⟨b', 0, none⟩) r r], 104, 2⟩, ⟨b', List.replicate r zset, 47, r⟩] ∧ X = X' := by
  refine SpecO.enter Tryd.func73 rfl Tryd.ntmps73 rfl ?_
  intro w0 hw0
  refine T.seq ?_
  refine T.region ?_
  refine SL.y (op_assign rfl) rfl rfl ?_
  refine SL.y (op_assign (v := .int .i64 ((0 : Nat) : Int)) rfl) rfl rfl ?_
  refine SL.nil ?_
  refine T.seq ?_
  refine T.seq ?_
  refine T.region ?_
  refine SL.y (op_move rfl) rfl rfl ?_
  first | refine SL.y (op_lssT rfl rfl (by omega)) rfl rfl ?_ | refine SL.y (op_lssF rfl rfl (by omega)) rfl rfl ?_ | refine SL.y (op_lss rfl rfl) rfl rfl ?_
  refine SL.y (op_move rfl) rfl rfl ?_
  first | refine SL.skip rfl rfl ?_ | refine SL.y (op_move rfl) rfl rfl ?_
  first | refine SL.skip rfl rfl ?_ | refine SL.y (op_gtrT rfl rfl (by omega)) rfl rfl ?_ | refine SL.y (op_gtrF rfl rfl (by omega)) rfl rfl ?_ | refine SL.y (op_gtr rfl rfl) rfl rfl ?_
  first | refine SL.y (op_pickT rfl rfl) rfl rfl ?_ | refine SL.y (op_pickF rfl rfl) rfl rfl ?_ | refine SL.y (op_pickB rfl rfl rfl) rfl rfl ?_
  refine SL.y (op_move rfl) rfl rfl ?_
  first | refine SL.skip rfl rfl ?_ | refine SL.y (op_move rfl) rfl rfl ?_
  first | refine SL.skip rfl rfl ?_ | refine SL.y (op_lssT rfl rfl (by omega)) rfl rfl ?_ | refine SL.y (op_lssF rfl rfl (by omega)) rfl rfl ?_ | refine SL.y (op_lss rfl rfl) rfl rfl ?_
  first | refine SL.y (op_pickT rfl rfl) rfl rfl ?_ | refine SL.y (op_pickF rfl rfl) rfl rfl ?_ | refine SL.y (op_pickB rfl rfl rfl) rfl rfl ?_
  refine SL.y (op_move rfl) rfl rfl ?_
  first | refine SL.skip rfl rfl ?_ | refine SL.y (op_move rfl) rfl rfl ?_
  first | refine SL.skip rfl rfl ?_ | refine SL.y (op_gtrT rfl rfl (by omega)) rfl rfl ?_ | refine SL.y (op_gtrF rfl rfl (by omega)) rfl rfl ?_ | refine SL.y (op_gtr rfl rfl) rfl rfl ?_
  first | refine SL.y (op_pickT rfl rfl) rfl rfl ?_ | refine SL.y (op_pickF rfl rfl) rfl rfl ?_ | refine SL.y (op_pickB rfl rfl rfl) rfl rfl ?_
  refine SL.nil ?_
  refine T.condF rfl ?_
  refine T.skip ?_
  refine T.seq ?_
  refine T.region ?_
  refine SL.y (op_move rfl) rfl rfl ?_
  refine SL.y (op_move rfl) rfl rfl ?_
  refine SL.x (op_makeR Tryd.underlying59 mr59 rfl rfl rfl (Nat.le_refl _) (by omega) (by omega)) rfl rfl ?_
  rintro _ _ _ ⟨B22, rfl, rfl, rfl⟩
  refine SL.y (op_build st104 (qs := [(0, _), (1, _)]) rfl rfl) rfl rfl ?_
  refine SL.x (op_box rfl) rfl rfl ?_
  rintro _ _ _ ⟨B24, rfl, rfl, rfl⟩
  refine SL.y (op_assign rfl) rfl rfl ?_
  refine SL.y (op_assign (v := .int .i64 ((0 : Nat) : Int)) rfl) rfl rfl ?_
  refine SL.nil ?_
  -- ret
  refine T.retO2 rfl (ResIs.tmp rfl) (ResIs.tmp rfl) ?_
  refine ⟨B24, B22, rfl, ?_, rfl⟩
  have e : (List.replicate r [zset]).flatten = List.replicate r zset := by induction r with
    | zero => rfl
    | succ r ih => simp [List.replicate_succ]
  rw [← e]
  simp [vcells, zset, csets]
theorem fill_step {cs : List Value} {k r : Nat} {x : Value} (h : cs[k]? = some x) (hr : cs.length = r) : (cs.take k ++ List.replicate (r - k) zset).set k x = cs.take (k + 1) ++ List.replicate (r - (k + 1)) zset := by
  obtain ⟨hk, hx⟩ := List.getElem?_eq_some_iff.1 h
  rw [List.set_append_right _ _ (by simp; omega), List.take_succ_eq_append_getElem hk]
  have e : r - k = (r - (k + 1)) + 1 := by omega
  rw [e, List.replicate_succ]
  have : k - (cs.take k).length = 0 := by simp; omega
  rw [this, List.set_cons_zero, hx]
  simp
theorem mof_spec {X : PMap} {s : Value} {cs : List Value} {ms : List Nat} (c : Nat) (hs : SliceR X s ms.length cs) (hS : SetsR X cs ms) (hr : ms.length < 64) (hc : c < 64) (hall : ∀ m ∈ ms, withinB m (2 ^ c - 1) = true) : Spec Tryd.prog 53 [.int .i64 (c : Int), s] X fun u X' => ∃ w, u = .tuple #[w, .int .i64 0] ∧ MatR X' w c ms := by
  obtain ⟨A, cp, rfl⟩ : ∃ A cp, s = .slice A ms.length cp := by
    rcases hs with ⟨h0, _, A, c, rfl⟩ | ⟨_, b, c, rfl, _⟩
    · exact ⟨A, c, by rw [h0]⟩
    · exact ⟨_, c, rfl⟩
  refine Spec.enter Tryd.func53 rfl Tryd.ntmps53 rfl ?_
  intro w0 hw0
  refine T.seq ?_
  refine T.region ?_
  refine SL.y (op_assign rfl) rfl rfl ?_
  refine SL.y (op_assign (v := .int .i64 ((0 : Nat) : Int)) rfl) rfl rfl ?_
  refine SL.nil ?_
  refine T.seq ?_
  refine T.region ?_
  refine SL.y (op_move rfl) rfl rfl ?_
  refine SL.y (op_lenS Tryd.underlying59 rfl) rfl rfl ?_
  refine SL.y (op_move rfl) rfl rfl ?_
  -- op
  refine SL.x (op_callO en73 (vs := [_, _]) rfl (mnew_spec ms.length c hr hc)) rfl rfl ?_
  rintro _ _ X1 ⟨_, rfl, hX1, b, b', rfl, rfl, rfl⟩
  refine SL.y (op_move rfl) rfl rfl ?_
  refine SL.y (op_extract rfl rfl) rfl rfl ?_
  refine SL.y (op_extract rfl rfl) rfl rfl ?_
  refine SL.y (op_assign rfl) rfl rfl ?_
  refine SL.y (op_assign rfl) rfl rfl ?_
  refine SL.nil ?_
  refine T.seq ?_
  refine T.seq ?_
  refine T.region ?_
  refine SL.y (op_move rfl) rfl rfl ?_
  first | refine SL.y (op_neqT rfl rfl (by omega)) rfl rfl ?_ | refine SL.y (op_neqF rfl rfl (by omega)) rfl rfl ?_ | refine SL.y (op_neq rfl rfl) rfl rfl ?_
  refine SL.nil ?_
  refine T.condF rfl ?_
  refine T.skip ?_
  refine T.seq ?_
  refine T.seq ?_
  refine T.region ?_
  refine SL.y (op_move rfl) rfl rfl ?_
  refine SL.y (op_lenS Tryd.underlying59 rfl) rfl rfl ?_
  refine SL.y (op_move (v := .int .i64 ((0 : Nat) : Int)) rfl) rfl rfl ?_
  refine SL.nil ?_
  refine T.block ?_
  -- loop live [0, 4, 5, 6, 20, 21, 22]
  refine T.loopW (fun m env own X' => ∃ k : Nat, m = ms.length - k ∧ k ≤ ms.length ∧ X.le X' ∧ env = [(0, .int .i64 (c : Int)), (1, .slice A ms.length cp), (6, .pointer (some ⟨b, 0, none⟩)), (20, .slice A ms.length cp), (21, .int .i64 (ms.length : Int)), (22, .int .i64 (k : Int))] ∧ own = [⟨b, [.int .i64 (c : Int), .slice (some ⟨b', 0, none⟩) ms.length ms.length], 104, 2⟩, ⟨b', cs.take k ++ List.replicate (ms.length - k) zset, 47, ms.length⟩]) ms.length ⟨0, by simp, by omega, PMap.le_refl _, rfl, by simp⟩ (by repeat (first | exact Sub.nil | refine Sub.cons rfl ?_)) ?_
  rintro m _ _ X2 ⟨k, rfl, hk, hX2, rfl, rfl⟩
  rcases Nat.lt_or_ge k ms.length with hkl | hkl
  · rcases hs with ⟨h0, _, _⟩ | ⟨_, br, cp', he, hBr⟩
    · omega
    · simp only [Value.slice.injEq] at he
      obtain ⟨rfl, _, rfl⟩ := he
      obtain ⟨cell, hcell, hset⟩ := hS.2 k ms[k] (by simp [hkl])
      obtain ⟨A1, l1, c1, hxe⟩ := hset.form
      obtain rfl : cell = .slice A1 l1 c1 := by simpa using hxe
      have hBr2 := hBr.mono hX2
      have hw := hall ms[k] (List.getElem_mem hkl)
      have hlen : cs.length = ms.length := hS.1
      refine T.seq ?_
      refine T.region ?_
      first | refine SL.y (op_lssT rfl rfl (by omega)) rfl rfl ?_ | refine SL.y (op_lssF rfl rfl (by omega)) rfl rfl ?_ | refine SL.y (op_lss rfl rfl) rfl rfl ?_
      refine SL.nil ?_
      refine T.seq ?_
      refine T.condT rfl ?_
      refine T.skip ?_
      refine T.seq ?_
      refine T.block ?_
      refine T.seq ?_
      refine T.region ?_
      refine SL.y (op_move rfl) rfl rfl ?_
      first | refine SL.y (op_indexN Tryd.underlying59 ty47 rfl rfl (by omega)) rfl rfl ?_ | refine SL.y (op_index Tryd.underlying59 ty47 rfl rfl (by omega) (by omega)) rfl rfl ?_
      -- to 26: op
      refine SL.y (op_loadX ty47 rfl hBr2 (creadR1 hcell)) rfl rfl ?_
      refine SL.x (op_alloc z47) rfl rfl ?_
      rintro _ _ _ ⟨B9, rfl, rfl, rfl⟩
      refine SL.y (op_assign rfl) rfl rfl ?_
      refine SL.x (op_store ty47 rfl rfl (by repeat (first | exact AtO.here | apply AtO.there)) rfl rfl rfl) rfl rfl ?_
      rintro _ _ _ ⟨rfl, rfl⟩
      refine SL.nil ?_
      refine T.seq ?_
      refine T.seq ?_
      refine T.draw (by kernel_rfl) 5 [.t 0, .t 1, .r 2, .r 3, .t 4] (by kernel_rfl) ?_
      first | refine SD.take rfl panicBody (op_load ty47 rfl (by repeat (first | exact AtO.here | apply AtO.there)) rfl) rfl rfl ?_ | refine SD.take rfl panicBody (op_loadX ty47 rfl (by assumption) rfl) rfl rfl ?_
      refine SD.take rfl panicBody (op_move rfl) rfl rfl ?_
      -- op
      refine SD.run rfl (op_callF en74 (vs := [_]) rfl (below_spec c hc)) rfl rfl ?_
      rintro _ _ X3 ⟨rfl, hX3, hS3⟩
      -- op
      refine SD.run rfl (op_callF en26 (vs := [_, _]) rfl (within_spec ((hset.mono hX2).mono hX3) hS3)) rfl rfl ?_
      rintro _ _ X4 ⟨rfl, hX4, rfl⟩
      rw [show decide (ms[k] &&& (18446744073709551615 - (2 ^ c - 1)) = 0) = true from hw]
      refine SD.take rfl panicBody (op_not rfl) rfl rfl ?_
      refine SD.nil ?_
      show SL _ _ _ _ _ _ _ [] _ _ _
      refine SL.nil ?_
      refine T.condF rfl ?_
      refine T.skip ?_
      refine T.draw (by kernel_rfl) 7 [.t 0, .t 1, .t 2, .t 3, .t 4, .t 5, .t 6] (by kernel_rfl) ?_
      refine SD.take rfl panicBody (op_move rfl) rfl rfl ?_
      first | refine SD.take rfl panicBody (op_nil rfl) rfl rfl ?_ | refine SD.take rfl panicBody (op_nilFn rfl) rfl rfl ?_
      refine SD.take rfl panicBody (op_fieldAddr fa104_1 rfl) rfl rfl ?_
      first | refine SD.take rfl panicBody (op_load ty59 rfl (by repeat (first | exact AtO.here | apply AtO.there)) rfl) rfl rfl ?_ | refine SD.take rfl panicBody (op_loadX ty59 rfl (by assumption) rfl) rfl rfl ?_
      refine SD.take rfl panicBody (op_move rfl) rfl rfl ?_
      first | refine SD.take rfl panicBody (op_load ty47 rfl (by repeat (first | exact AtO.here | apply AtO.there)) rfl) rfl rfl ?_ | refine SD.take rfl panicBody (op_loadX ty47 rfl (by assumption) rfl) rfl rfl ?_
      first | refine SD.take rfl panicBody (op_indexN Tryd.underlying59 ty47 rfl rfl (by omega)) rfl rfl ?_ | refine SD.take rfl panicBody (op_index Tryd.underlying59 ty47 rfl rfl (by omega) (by omega)) rfl rfl ?_
      refine SD.nil ?_
      show SL _ _ _ _ _ _ _ [_] _ _ _
      -- to store: op
      refine SL.x (op_store ty47 rfl rfl (by repeat (first | exact AtO.here | apply AtO.there)) rfl rfl (Nat.ble_eq_true_of_le (by simp; omega))) rfl rfl ?_
      rintro _ _ _ ⟨rfl, rfl⟩
      rw [show 0 + k * 1 = k by omega]
      refine SL.nil ?_
      refine T.blk ?_
      refine T.region ?_
      first | refine SL.y (op_addN (q := 1) rfl rfl (by omega)) rfl rfl ?_ | refine SL.y (op_add rfl rfl (by omega) (by omega)) rfl rfl ?_ | refine SL.y (op_addW rfl rfl) rfl rfl ?_
      refine SL.y (op_move rfl) rfl rfl ?_
      refine SL.nil ?_
      -- cut
      refine T.drop B9 (by repeat (first | exact AtO.here | apply AtO.there)) ?_
      exact T.backW (ms.length - (k + 1)) (by omega) ⟨k + 1, rfl, by omega, (hX2.trans' hX3).trans' hX4, rfl, by rw [← fill_step hcell hlen]; rfl⟩ (by repeat (first | exact Sub.nil | refine Sub.cons rfl ?_))
  · obtain rfl : k = ms.length := by omega
    refine T.seq ?_
    refine T.region ?_
    first | refine SL.y (op_lssT rfl rfl (by omega)) rfl rfl ?_ | refine SL.y (op_lssF rfl rfl (by omega)) rfl rfl ?_ | refine SL.y (op_lss rfl rfl) rfl rfl ?_
    refine SL.nil ?_
    refine T.seq ?_
    refine T.condF rfl ?_
    refine T.exit (T.exitCode (T.exitCut (T.exitBlk ?_)))
    refine T.seq ?_
    refine T.region ?_
    refine SL.y (op_move rfl) rfl rfl ?_
    refine SL.y (op_assign rfl) rfl rfl ?_
    refine SL.y (op_assign (v := .int .i64 ((0 : Nat) : Int)) rfl) rfl rfl ?_
    refine SL.nil ?_
    -- ret
    refine T.pub b' (by repeat (first | exact AtO.here | apply AtO.there)) ?_
    intro X3 hX3 hB3 _
    refine T.pub b (by repeat (first | exact AtO.here | apply AtO.there)) ?_
    intro X4 hX4 hB4 _
    refine T.ret2 rfl (ResIs.tmp rfl) (ResIs.tmp rfl) ?_
    have hSx := ((hS.mono hX2).mono hX3).mono hX4
    have hlen : cs.length = ms.length := hS.1
    rw [← hlen, List.take_length, Nat.sub_self, List.replicate_zero, List.append_nil] at hB3
    exact ⟨_, rfl, b, _, _, cs, rfl, hB4, hSx, fun _ => ⟨b', rfl, hB3.mono hX4⟩, hr, hc⟩
end Go.Proofs.YtoheffglppbcbaaDoor
