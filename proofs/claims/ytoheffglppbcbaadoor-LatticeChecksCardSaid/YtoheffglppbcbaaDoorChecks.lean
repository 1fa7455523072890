/- LatticeChecks answers true: exactly the list of all concepts in their order is accepted. -/
import Derived.Test.YtoheffglppbcbaaDoorLaws
import Derived.Test.YtoheffglppbcbaaDoorLend
namespace Go.Proofs.YtoheffglppbcbaaDoor
section
set_option maxRecDepth 100000
theorem en49 : Enters Tryd.prog 49 := enters_mk Tryd.func49 (by kernel_rfl) rfl
theorem en50 : Enters Tryd.prog 50 := enters_mk Tryd.func50 (by kernel_rfl) rfl
end
open Go.RowKit
theorem lnewNilK_spec {X : PMap} (k : Int) : Spec Tryd.prog 15 [.pointer none, .int .i64 k] X fun u _ => u = .tuple #[.pointer none, .int .i64 1] := by
  refine Spec.enter Tryd.func15 rfl Tryd.ntmps15 rfl ?_
  intro w0 hw0
  refine T.seq ?_
  refine T.region ?_
  refine SL.y (op_assign rfl) rfl rfl ?_
  refine SL.y (op_assign (v := .int .i64 ((0 : Nat) : Int)) rfl) rfl rfl ?_
  refine SL.nil ?_
  refine T.seq ?_
  refine T.seq ?_
  refine T.region ?_
  refine SL.y (op_move rfl) rfl rfl ?_
  refine SL.y (op_eqlNil Tryd.underlying27 rfl rfl) rfl rfl ?_
  refine SL.y (op_move rfl) rfl rfl ?_
  first | refine SL.skip rfl rfl ?_ | refine SL.y (op_move rfl) rfl rfl ?_
  first | refine SL.skip rfl rfl ?_ | refine SL.y (op_lssT rfl rfl (by omega)) rfl rfl ?_ | refine SL.y (op_lssF rfl rfl (by omega)) rfl rfl ?_ | refine SL.y (op_lss rfl rfl) rfl rfl ?_
  first | refine SL.y (op_pickT rfl rfl) rfl rfl ?_ | refine SL.y (op_pickF rfl rfl) rfl rfl ?_ | refine SL.y (op_pickB rfl rfl rfl) rfl rfl ?_
  refine SL.nil ?_
  refine T.condT rfl ?_
  refine T.seq ?_
  refine T.region ?_
  refine SL.y (op_assign rfl) rfl rfl ?_
  refine SL.y (op_assign (v := .int .i64 ((1 : Nat) : Int)) rfl) rfl rfl ?_
  refine SL.nil ?_
  -- ret
  refine T.ret2 rfl (ResIs.tmp rfl) (ResIs.tmp rfl) ?_
  rfl
theorem clone_spec {X : PMap} {v : Value} {len : Nat} {cs : List Value} (h : SliceR X v len cs) (h0 : 0 < len) (hcs : cs.length = len * 2) (h1 : ∀ y ∈ cs, y.oneCell' = true) (hl : len < 100000) : SpecO Tryd.prog 50 [v] X fun u own1 _ => GrowS 49 2 u len cs own1 := by
  obtain ⟨A, cp, rfl⟩ := h.form
  obtain ⟨b, rfl, hB⟩ := h.blk h0
  refine SpecO.enter Tryd.func50 rfl Tryd.ntmps50 rfl ?_
  intro w0 hw0
  refine T.seq ?_
  refine T.region ?_
  refine SL.y (op_assign rfl) rfl rfl ?_
  refine SL.nil ?_
  refine T.seq ?_
  refine T.seq ?_
  refine T.region ?_
  refine SL.y (op_move rfl) rfl rfl ?_
  refine SL.y (op_eqlSNil Tryd.underlying80 rfl rfl) rfl rfl ?_
  refine SL.nil ?_
  refine T.condF rfl ?_
  refine T.skip ?_
  refine T.seq ?_
  refine T.region ?_
  refine SL.x (op_buildSlice Tryd.underlying80 bs49 (qs := []) rfl rfl rfl rfl rfl) rfl rfl ?_
  rintro _ _ _ ⟨B5, rfl, rfl, rfl⟩
  refine SL.y (op_move rfl) rfl rfl ?_
  -- to 7: op
  refine SL.x (op_append (m := len) (news := cs) sl80 rfl rfl (by repeat (first | exact AtO.here | apply AtO.there)) rfl rfl (Nat.le_refl _) (by decide) (Src.ofExt0 hB hcs.symm) h1 (by (have : maxLen = 9223372036854775807 := rfl); omega) (by omega)) rfl rfl ?_
  rintro _ _ _ ⟨b7, cap7, rfl, rfl, rfl, hc7, hm7⟩
  refine SL.y (op_assign rfl) rfl rfl ?_
  refine SL.nil ?_
  -- ret
  refine T.retO1 rfl (ResIs.tmp rfl) ?_
  exact .inr ⟨b7, cap7, by rw [Nat.zero_add], rfl, by omega, hm7, hcs⟩
/-- v is a list of concepts, wherever it begins. -/
def LisR (X : PMap) (v : Value) (l : List (Nat × Nat)) : Prop := ∃ A cap, v = .slice A l.length cap ∧ (0 < l.length → ∃ b pre cs, A = some ⟨b, List.length pre, none⟩ ∧ Blk X b (pre ++ cs) ∧ ConsR X cs l)
theorem check_len {X : PMap} (hT : Tab X) {v : Value} {c : Nat} {ms : List Nat} (hM : MatR X v c ms) (hc : c < 6) {A : Option Addr} {len cap : Nat} (hne : len ≠ (allR c ms).length) (hl : len < 1000) : Spec Tryd.prog 49 [v, .slice A len cap] X fun u _ => u = .bool false := by
  obtain ⟨bm, rfl⟩ := hM.ptr
  refine Spec.enter Tryd.func49 rfl Tryd.ntmps49 rfl ?_
  intro w0 hw0
  refine T.seq ?_
  refine T.region ?_
  refine SL.y (op_assign rfl) rfl rfl ?_
  refine SL.nil ?_
  refine T.seq ?_
  refine T.region ?_
  refine SL.y (op_move rfl) rfl rfl ?_
  refine SL.y (op_move rfl) rfl rfl ?_
  refine SL.y (op_lenS Tryd.underlying80 rfl) rfl rfl ?_
  -- to 13: op
  refine SL.y (op_maxN (q := 1) rfl rfl) rfl rfl ?_
  -- op
  refine SL.x (op_callF en15 (vs := [_, _]) rfl (lnewA_spec hT hM hc (max len 1) (by omega) (by omega))) rfl rfl ?_
  rintro u3 _ X3 ⟨rfl, hX3, hL⟩
  by_cases hle : (allR c ms).length ≤ max len 1
  · rw [if_pos hle] at hL
    obtain ⟨w, rfl, hL⟩ := hL
    refine SL.y (op_move rfl) rfl rfl ?_
    refine SL.y (op_extract rfl rfl) rfl rfl ?_
    refine SL.y (op_extract rfl rfl) rfl rfl ?_
    refine SL.y (op_assign rfl) rfl rfl ?_
    refine SL.y (op_assign rfl) rfl rfl ?_
    refine SL.nil ?_
    refine T.seq ?_
    refine T.seq ?_
    refine T.region ?_
    refine SL.y (op_move rfl) rfl rfl ?_
    first | refine SL.y (op_neqT rfl rfl (by omega)) rfl rfl ?_ | refine SL.y (op_neqF rfl rfl (by omega)) rfl rfl ?_ | refine SL.y (op_neq rfl rfl) rfl rfl ?_
    refine SL.y (op_move rfl) rfl rfl ?_
    first | refine SL.skip rfl rfl ?_ | refine SL.y (op_move rfl) rfl rfl ?_
    -- op
    refine SL.x (op_callF en16 (vs := [_]) rfl (llen_spec (.inl hL))) rfl rfl ?_
    rintro _ _ X4 ⟨rfl, hX4, rfl⟩
    first | refine SL.skip rfl rfl ?_ | refine SL.y (op_move rfl) rfl rfl ?_
    first | refine SL.skip rfl rfl ?_ | refine SL.y (op_lenS Tryd.underlying80 rfl) rfl rfl ?_
    first | refine SL.skip rfl rfl ?_ | refine SL.y (op_neqT rfl rfl (by omega)) rfl rfl ?_ | refine SL.y (op_neqF rfl rfl (by omega)) rfl rfl ?_ | refine SL.y (op_neq rfl rfl) rfl rfl ?_
    first | refine SL.y (op_pickT rfl rfl) rfl rfl ?_ | refine SL.y (op_pickF rfl rfl) rfl rfl ?_ | refine SL.y (op_pickB rfl rfl rfl) rfl rfl ?_
    refine SL.nil ?_
    refine T.condT rfl ?_
    refine T.seq ?_
    refine T.region ?_
    refine SL.y (op_assign rfl) rfl rfl ?_
    refine SL.nil ?_
    -- ret
    refine T.ret1 rfl (ResIs.tmp rfl) ?_
    rfl
  · rw [if_neg hle] at hL
    subst hL
    refine SL.y (op_move rfl) rfl rfl ?_
    refine SL.y (op_extract rfl rfl) rfl rfl ?_
    refine SL.y (op_extract rfl rfl) rfl rfl ?_
    refine SL.y (op_assign rfl) rfl rfl ?_
    refine SL.y (op_assign rfl) rfl rfl ?_
    refine SL.nil ?_
    refine T.seq ?_
    refine T.seq ?_
    refine T.region ?_
    refine SL.y (op_move rfl) rfl rfl ?_
    first | refine SL.y (op_neqT rfl rfl (by omega)) rfl rfl ?_ | refine SL.y (op_neqF rfl rfl (by omega)) rfl rfl ?_ | refine SL.y (op_neq rfl rfl) rfl rfl ?_
    refine SL.y (op_move rfl) rfl rfl ?_
    first | refine SL.skip rfl rfl ?_ | refine SL.y (op_move rfl) rfl rfl ?_
    -- op
    refine SL.skip rfl rfl ?_
    first | refine SL.skip rfl rfl ?_ | refine SL.y (op_move rfl) rfl rfl ?_
    first | refine SL.skip rfl rfl ?_ | refine SL.y (op_lenS Tryd.underlying80 rfl) rfl rfl ?_
    first | refine SL.skip rfl rfl ?_ | refine SL.y (op_neqT rfl rfl (by omega)) rfl rfl ?_ | refine SL.y (op_neqF rfl rfl (by omega)) rfl rfl ?_ | refine SL.y (op_neq rfl rfl) rfl rfl ?_
    first | refine SL.y (op_pickT rfl rfl) rfl rfl ?_ | refine SL.y (op_pickF rfl rfl) rfl rfl ?_ | refine SL.y (op_pickB rfl rfl rfl) rfl rfl ?_
    refine SL.nil ?_
    refine T.condT rfl ?_
    refine T.seq ?_
    refine T.region ?_
    refine SL.y (op_assign rfl) rfl rfl ?_
    refine SL.nil ?_
    -- ret
    refine T.ret1 rfl (ResIs.tmp rfl) ?_
    rfl
theorem check_nil {X : PMap} {A : Option Addr} {len cap : Nat} : Spec Tryd.prog 49 [.pointer none, .slice A len cap] X fun u _ => u = .bool false := by
  refine Spec.enter Tryd.func49 rfl Tryd.ntmps49 rfl ?_
  intro w0 hw0
  refine T.seq ?_
  refine T.region ?_
  refine SL.y (op_assign rfl) rfl rfl ?_
  refine SL.nil ?_
  refine T.seq ?_
  refine T.region ?_
  refine SL.y (op_move rfl) rfl rfl ?_
  refine SL.y (op_move rfl) rfl rfl ?_
  refine SL.y (op_lenS Tryd.underlying80 rfl) rfl rfl ?_
  -- to 13: op
  refine SL.y (op_maxN (q := 1) rfl rfl) rfl rfl ?_
  -- op
  refine SL.x (op_callF en15 (vs := [_, _]) rfl (lnewNilK_spec _)) rfl rfl ?_
  rintro _ _ X3 ⟨rfl, hX3, rfl⟩
  refine SL.y (op_move rfl) rfl rfl ?_
  refine SL.y (op_extract rfl rfl) rfl rfl ?_
  refine SL.y (op_extract rfl rfl) rfl rfl ?_
  refine SL.y (op_assign rfl) rfl rfl ?_
  refine SL.y (op_assign rfl) rfl rfl ?_
  refine SL.nil ?_
  refine T.seq ?_
  refine T.seq ?_
  refine T.region ?_
  refine SL.y (op_move rfl) rfl rfl ?_
  first | refine SL.y (op_neqT rfl rfl (by omega)) rfl rfl ?_ | refine SL.y (op_neqF rfl rfl (by omega)) rfl rfl ?_ | refine SL.y (op_neq rfl rfl) rfl rfl ?_
  refine SL.y (op_move rfl) rfl rfl ?_
  first | refine SL.skip rfl rfl ?_ | refine SL.y (op_move rfl) rfl rfl ?_
  -- op
  refine SL.skip rfl rfl ?_
  first | refine SL.skip rfl rfl ?_ | refine SL.y (op_move rfl) rfl rfl ?_
  first | refine SL.skip rfl rfl ?_ | refine SL.y (op_lenS Tryd.underlying80 rfl) rfl rfl ?_
  first | refine SL.skip rfl rfl ?_ | refine SL.y (op_neqT rfl rfl (by omega)) rfl rfl ?_ | refine SL.y (op_neqF rfl rfl (by omega)) rfl rfl ?_ | refine SL.y (op_neq rfl rfl) rfl rfl ?_
  first | refine SL.y (op_pickT rfl rfl) rfl rfl ?_ | refine SL.y (op_pickF rfl rfl) rfl rfl ?_ | refine SL.y (op_pickB rfl rfl rfl) rfl rfl ?_
  refine SL.nil ?_
  refine T.condT rfl ?_
  refine T.seq ?_
  refine T.region ?_
  refine SL.y (op_assign rfl) rfl rfl ?_
  refine SL.nil ?_
  -- ret
  refine T.ret1 rfl (ResIs.tmp rfl) ?_
  rfl
theorem check_spec {X : PMap} (hT : Tab X) {v s : Value} {c : Nat} {ms : List Nat} (hM : MatR X v c ms) (hc : c < 6) {l : List (Nat × Nat)} (hs : LisR X s l) (hl : l.length = (allR c ms).length) (h0 : 0 < l.length) (hsm : l.length < 1000) : Spec Tryd.prog 49 [v, s] X fun u _ => u = .bool (decide (l = allR c ms)) := by
  obtain ⟨bm, rfl⟩ := hM.ptr
  obtain ⟨A, cap, rfl, hdat⟩ := hs
  obtain ⟨b, pre, cs, rfl, hB1, hC1⟩ := hdat h0
  refine Spec.enter Tryd.func49 rfl Tryd.ntmps49 rfl ?_
  intro w0 hw0
  refine T.seq ?_
  refine T.region ?_
  refine SL.y (op_assign rfl) rfl rfl ?_
  refine SL.nil ?_
  refine T.seq ?_
  refine T.region ?_
  refine SL.y (op_move rfl) rfl rfl ?_
  refine SL.y (op_move rfl) rfl rfl ?_
  refine SL.y (op_lenS Tryd.underlying80 rfl) rfl rfl ?_
  -- to 13: op
  refine SL.y (op_maxN (q := 1) rfl rfl) rfl rfl ?_
  -- op
  refine SL.x (op_callF en15 (vs := [_, _]) rfl (lnewA_spec hT hM hc (max l.length 1) (by omega) (by omega))) rfl rfl ?_
  rintro u3 _ X3 ⟨rfl, hX3, hL⟩
  rw [if_pos (by omega)] at hL
  obtain ⟨w, rfl, hL⟩ := hL
  have hL0 := hL
  obtain ⟨bl, A2, cap2, cs2, pm, rfl, hB2, _, hC2, hA2, _⟩ := hL
  obtain ⟨br2, rfl, hBr2⟩ := hA2 (by omega)
  refine SL.y (op_move rfl) rfl rfl ?_
  refine SL.y (op_extract rfl rfl) rfl rfl ?_
  refine SL.y (op_extract rfl rfl) rfl rfl ?_
  refine SL.y (op_assign rfl) rfl rfl ?_
  refine SL.y (op_assign rfl) rfl rfl ?_
  refine SL.nil ?_
  refine T.seq ?_
  refine T.seq ?_
  refine T.region ?_
  refine SL.y (op_move rfl) rfl rfl ?_
  first | refine SL.y (op_neqT rfl rfl (by omega)) rfl rfl ?_ | refine SL.y (op_neqF rfl rfl (by omega)) rfl rfl ?_ | refine SL.y (op_neq rfl rfl) rfl rfl ?_
  refine SL.y (op_move rfl) rfl rfl ?_
  first | refine SL.skip rfl rfl ?_ | refine SL.y (op_move rfl) rfl rfl ?_
  -- op
  refine SL.x (op_callF en16 (vs := [_]) rfl (llen_spec (.inl hL0))) rfl rfl ?_
  rintro _ _ X4 ⟨rfl, hX4, rfl⟩
  have hX04 := hX3.trans' hX4
  first | refine SL.skip rfl rfl ?_ | refine SL.y (op_move rfl) rfl rfl ?_
  first | refine SL.skip rfl rfl ?_ | refine SL.y (op_lenS Tryd.underlying80 rfl) rfl rfl ?_
  first | refine SL.skip rfl rfl ?_ | refine SL.y (op_neqT rfl rfl (by omega)) rfl rfl ?_ | refine SL.y (op_neqF rfl rfl (by omega)) rfl rfl ?_ | refine SL.y (op_neq rfl rfl) rfl rfl ?_
  first | refine SL.y (op_pickT rfl rfl) rfl rfl ?_ | refine SL.y (op_pickF rfl rfl) rfl rfl ?_ | refine SL.y (op_pickB rfl rfl rfl) rfl rfl ?_
  refine SL.nil ?_
  refine T.condF rfl ?_
  refine T.skip ?_
  refine T.seq ?_
  refine T.seq ?_
  refine T.region ?_
  refine SL.y (op_move rfl) rfl rfl ?_
  refine SL.y (op_lenS Tryd.underlying80 rfl) rfl rfl ?_
  refine SL.y (op_move (v := .int .i64 ((0 : Nat) : Int)) rfl) rfl rfl ?_
  refine SL.nil ?_
  refine T.block ?_
  -- loop live [4, 5, 26, 27, 28]
  refine T.loopW (fun m env own X' => ∃ k : Nat, m = l.length - k ∧ k ≤ l.length ∧ X4.le X' ∧ l.take k = (allR c ms).take k ∧ env = [(1, .slice (some ⟨b, pre.length, none⟩) l.length cap), (5, .pointer (some ⟨bl, 0, none⟩)), (26, .slice (some ⟨b, pre.length, none⟩) l.length cap), (27, .int .i64 (l.length : Int)), (28, .int .i64 (k : Int))] ∧ own = []) l.length ⟨0, by simp, by omega, PMap.le_refl _, rfl, rfl, rfl⟩ (by repeat (first | exact Sub.nil | refine Sub.cons rfl ?_)) ?_
  rintro m _ _ X5 ⟨k, rfl, hk, hX5, hpre, rfl, rfl⟩
  rcases Nat.lt_or_ge k l.length with hkl | hkl
  · have hB1' := (hB1.mono hX04).mono hX5
    have hB2' := (hB2.mono hX4).mono hX5
    have hBr2' := (hBr2.mono hX4).mono hX5
    obtain ⟨x, y, gx, gy, sx, sy⟩ := hC1.2 k l[k] (by simp [hkl])
    obtain ⟨x2, y2, gx2, gy2, sx2, sy2⟩ := hC2.2 k ((allR c ms)[k]'(by omega)) (by simp [show k < (allR c ms).length by omega])
    obtain ⟨Ax, lx, cx, hxe⟩ := sx.form
    obtain ⟨Ay, ly, cy, hye⟩ := sy.form
    obtain rfl : x = .slice Ax lx cx := by simpa using hxe
    obtain rfl : y = .slice Ay ly cy := by simpa using hye
    have gx' : (pre ++ cs)[pre.length + k * 2]? = some (.slice Ax lx cx) := by rw [List.getElem?_append_right (by omega), show pre.length + k * 2 - pre.length = k * 2 by omega]; exact gx
    have gy' : (pre ++ cs)[pre.length + k * 2 + 1]? = some (.slice Ay ly cy) := by rw [List.getElem?_append_right (by omega), show pre.length + k * 2 + 1 - pre.length = k * 2 + 1 by omega]; exact gy
    have sx' := (sx.mono hX04).mono hX5
    have sy' := (sy.mono hX04).mono hX5
    have sx2' := (sx2.mono hX4).mono hX5
    have sy2' := (sy2.mono hX4).mono hX5
    have hko : k < (allR c ms).length := by omega
    refine T.seq ?_
    refine T.region ?_
    first | refine SL.y (op_lssT rfl rfl (by omega)) rfl rfl ?_ | refine SL.y (op_lssF rfl rfl (by omega)) rfl rfl ?_ | refine SL.y (op_lss rfl rfl) rfl rfl ?_
    refine SL.nil ?_
    refine T.seq ?_
    refine T.condT rfl ?_
    refine T.skip ?_
    refine T.seq ?_
    refine T.block ?_
    refine T.seq ?_
    refine T.region ?_
    refine SL.y (op_move rfl) rfl rfl ?_
    first | refine SL.y (op_indexN Tryd.underlying80 ty49 rfl rfl (by omega)) rfl rfl ?_ | refine SL.y (op_index Tryd.underlying80 ty49 rfl rfl (by omega) (by omega)) rfl rfl ?_
    -- to 32: op
    refine SL.y (op_loadX ty49 rfl hB1' (creadR2 gx' gy' (by omega))) rfl rfl ?_
    refine SL.x (op_alloc z49) rfl rfl ?_
    rintro _ _ _ ⟨B8, rfl, rfl, rfl⟩
    refine SL.y (op_assign rfl) rfl rfl ?_
    refine SL.x (op_store ty49 rfl rfl (by repeat (first | exact AtO.here | apply AtO.there)) rfl rfl rfl) rfl rfl ?_
    rintro _ _ _ ⟨rfl, rfl⟩
    refine SL.nil ?_
    refine T.seq ?_
    refine T.draw (by kernel_rfl) 26 [.t 0, .t 1, .t 2, .t 3, .t 4, .t 5, .t 6, .t 7, .t 8, .t 9, .r 10, .t 11, .t 12, .t 13, .t 14, .t 15, .t 16, .t 17, .t 18, .t 19, .t 20, .t 21, .t 22, .r 23, .t 24, .t 25] (by kernel_rfl) ?_
    refine SD.take rfl panicBody (op_fieldAddr fa49_0 rfl) rfl rfl ?_
    first | refine SD.take rfl panicBody (op_load ty47 rfl (by repeat (first | exact AtO.here | apply AtO.there)) rfl) rfl rfl ?_ | refine SD.take rfl panicBody (op_loadX ty47 rfl (by assumption) rfl) rfl rfl ?_
    refine SD.take rfl panicBody (op_move rfl) rfl rfl ?_
    first | refine SD.take rfl panicBody (op_nil rfl) rfl rfl ?_ | refine SD.take rfl panicBody (op_nilFn rfl) rfl rfl ?_
    refine SD.take rfl panicBody (op_fieldAddr fa96_1 rfl) rfl rfl ?_
    first | refine SD.take rfl panicBody (op_load ty80 rfl (by repeat (first | exact AtO.here | apply AtO.there)) rfl) rfl rfl ?_ | refine SD.take rfl panicBody (op_loadX ty80 rfl (by assumption) rfl) rfl rfl ?_
    refine SD.take rfl panicBody (op_move rfl) rfl rfl ?_
    first | refine SD.take rfl panicBody (op_indexN Tryd.underlying80 ty49 rfl rfl (by omega)) rfl rfl ?_ | refine SD.take rfl panicBody (op_index Tryd.underlying80 ty49 rfl rfl (by omega) (by omega)) rfl rfl ?_
    refine SD.take rfl panicBody (op_fieldAddr fa49_0 rfl) rfl rfl ?_
    -- to 42: op
    refine SD.take rfl panicBody (op_loadX ty47 rfl hBr2' (creadRk gx2 (by omega))) rfl rfl ?_
    -- op
    refine SD.run rfl (op_callF en37 (vs := [_, _]) rfl (equal_spec sx' sx2')) rfl rfl ?_
    rintro _ _ X6 ⟨rfl, hX6, rfl⟩
    by_cases he : l[k].1 = ((allR c ms)[k]'hko).1
    · rw [decide_eq_true he]
      refine SD.take rfl panicBody (op_not rfl) rfl rfl ?_
      refine SD.take rfl panicBody (op_move rfl) rfl rfl ?_
      first | refine SD.skip rfl panicBody rfl rfl ?_ | refine SD.take rfl panicBody (op_fieldAddr fa49_1 rfl) rfl rfl ?_
      first | refine SD.skip rfl panicBody rfl rfl ?_ | refine SD.take rfl panicBody (op_load ty47 rfl (by repeat (first | exact AtO.here | apply AtO.there)) rfl) rfl rfl ?_ | refine SD.take rfl panicBody (op_loadX ty47 rfl (by assumption) rfl) rfl rfl ?_
      first | refine SD.skip rfl panicBody rfl rfl ?_ | refine SD.take rfl panicBody (op_move rfl) rfl rfl ?_
      first | refine SD.skip rfl panicBody rfl rfl ?_ | refine SD.take rfl panicBody (op_nil rfl) rfl rfl ?_ | refine SD.take rfl panicBody (op_nilFn rfl) rfl rfl ?_
      first | refine SD.skip rfl panicBody rfl rfl ?_ | refine SD.take rfl panicBody (op_fieldAddr fa96_1 rfl) rfl rfl ?_
      first | refine SD.skip rfl panicBody rfl rfl ?_ | refine SD.take rfl panicBody (op_load ty80 rfl (by repeat (first | exact AtO.here | apply AtO.there)) rfl) rfl rfl ?_ | refine SD.take rfl panicBody (op_loadX ty80 rfl (by assumption) rfl) rfl rfl ?_
      first | refine SD.skip rfl panicBody rfl rfl ?_ | refine SD.take rfl panicBody (op_move rfl) rfl rfl ?_
      first | refine SD.skip rfl panicBody rfl rfl ?_ | refine SD.take rfl panicBody (op_indexN Tryd.underlying80 ty49 rfl rfl (by omega)) rfl rfl ?_ | refine SD.take rfl panicBody (op_index Tryd.underlying80 ty49 rfl rfl (by omega) (by omega)) rfl rfl ?_
      first | refine SD.skip rfl panicBody rfl rfl ?_ | refine SD.take rfl panicBody (op_fieldAddr fa49_1 rfl) rfl rfl ?_
      -- to 55: op
      refine SD.take rfl panicBody (op_loadX ty47 rfl hBr2' (creadRk gy2 (by omega))) rfl rfl ?_
      -- op
      refine SD.run rfl (op_callF en37 (vs := [_, _]) rfl (equal_spec (sy'.mono hX6) (sy2'.mono hX6))) rfl rfl ?_
      rintro _ _ X7 ⟨rfl, hX7, rfl⟩
      by_cases he2 : l[k].2 = ((allR c ms)[k]'hko).2
      · rw [decide_eq_true he2]
        first | refine SD.skip rfl panicBody rfl rfl ?_ | refine SD.take rfl panicBody (op_not rfl) rfl rfl ?_
        first | refine SD.take rfl panicBody (op_pickT rfl rfl) rfl rfl ?_ | refine SD.take rfl panicBody (op_pickF rfl rfl) rfl rfl ?_ | refine SD.take rfl panicBody (op_pickB rfl rfl rfl) rfl rfl ?_
        refine SD.nil ?_
        show SL _ _ _ _ _ _ _ [] _ _ _
        refine SL.nil ?_
        refine T.condF rfl ?_
        refine T.skip ?_
        refine T.blk ?_
        refine T.region ?_
        first | refine SL.y (op_addN (q := 1) rfl rfl (by omega)) rfl rfl ?_ | refine SL.y (op_add rfl rfl (by omega) (by omega)) rfl rfl ?_ | refine SL.y (op_addW rfl rfl) rfl rfl ?_
        refine SL.y (op_move rfl) rfl rfl ?_
        refine SL.nil ?_
        -- cut
        refine T.drop B8 (by repeat (first | exact AtO.here | apply AtO.there)) ?_
        exact T.backW (l.length - (k + 1)) (by omega) ⟨k + 1, rfl, by omega, (hX5.trans' hX6).trans' hX7, by rw [List.take_succ_eq_append_getElem hkl, List.take_succ_eq_append_getElem hko, hpre, Prod.ext he he2], rfl, rfl⟩ (by repeat (first | exact Sub.nil | refine Sub.cons rfl ?_))
      · rw [decide_eq_false he2]
        first | refine SD.skip rfl panicBody rfl rfl ?_ | refine SD.take rfl panicBody (op_not rfl) rfl rfl ?_
        first | refine SD.take rfl panicBody (op_pickT rfl rfl) rfl rfl ?_ | refine SD.take rfl panicBody (op_pickF rfl rfl) rfl rfl ?_ | refine SD.take rfl panicBody (op_pickB rfl rfl rfl) rfl rfl ?_
        refine SD.nil ?_
        show SL _ _ _ _ _ _ _ [] _ _ _
        refine SL.nil ?_
        refine T.condT rfl ?_
        refine T.seq ?_
        refine T.region ?_
        refine SL.y (op_assign rfl) rfl rfl ?_
        refine SL.nil ?_
        -- ret
        refine T.ret1 rfl (ResIs.tmp rfl) ?_
        rw [decide_eq_false (fun e => he2 (by simp [e]))]
    · rw [decide_eq_false he]
      refine SD.take rfl panicBody (op_not rfl) rfl rfl ?_
      refine SD.take rfl panicBody (op_move rfl) rfl rfl ?_
      first | refine SD.skip rfl panicBody rfl rfl ?_ | refine SD.take rfl panicBody (op_fieldAddr fa49_1 rfl) rfl rfl ?_
      first | refine SD.skip rfl panicBody rfl rfl ?_ | refine SD.take rfl panicBody (op_load ty47 rfl (by repeat (first | exact AtO.here | apply AtO.there)) rfl) rfl rfl ?_ | refine SD.take rfl panicBody (op_loadX ty47 rfl (by assumption) rfl) rfl rfl ?_
      first | refine SD.skip rfl panicBody rfl rfl ?_ | refine SD.take rfl panicBody (op_move rfl) rfl rfl ?_
      first | refine SD.skip rfl panicBody rfl rfl ?_ | refine SD.take rfl panicBody (op_nil rfl) rfl rfl ?_ | refine SD.take rfl panicBody (op_nilFn rfl) rfl rfl ?_
      first | refine SD.skip rfl panicBody rfl rfl ?_ | refine SD.take rfl panicBody (op_fieldAddr fa96_1 rfl) rfl rfl ?_
      first | refine SD.skip rfl panicBody rfl rfl ?_ | refine SD.take rfl panicBody (op_load ty80 rfl (by repeat (first | exact AtO.here | apply AtO.there)) rfl) rfl rfl ?_ | refine SD.take rfl panicBody (op_loadX ty80 rfl (by assumption) rfl) rfl rfl ?_
      first | refine SD.skip rfl panicBody rfl rfl ?_ | refine SD.take rfl panicBody (op_move rfl) rfl rfl ?_
      first | refine SD.skip rfl panicBody rfl rfl ?_ | refine SD.take rfl panicBody (op_indexN Tryd.underlying80 ty49 rfl rfl (by omega)) rfl rfl ?_ | refine SD.take rfl panicBody (op_index Tryd.underlying80 ty49 rfl rfl (by omega) (by omega)) rfl rfl ?_
      first | refine SD.skip rfl panicBody rfl rfl ?_ | refine SD.take rfl panicBody (op_fieldAddr fa49_1 rfl) rfl rfl ?_
      first | refine SD.skip rfl panicBody rfl rfl ?_ | refine SD.take rfl panicBody (op_load ty47 rfl (by repeat (first | exact AtO.here | apply AtO.there)) rfl) rfl rfl ?_ | refine SD.take rfl panicBody (op_loadX ty47 rfl (by assumption) rfl) rfl rfl ?_
      -- op
      refine SD.skipF rfl rfl rfl ?_
      first | refine SD.skip rfl panicBody rfl rfl ?_ | refine SD.take rfl panicBody (op_not rfl) rfl rfl ?_
      first | refine SD.take rfl panicBody (op_pickT rfl rfl) rfl rfl ?_ | refine SD.take rfl panicBody (op_pickF rfl rfl) rfl rfl ?_ | refine SD.take rfl panicBody (op_pickB rfl rfl rfl) rfl rfl ?_
      refine SD.nil ?_
      show SL _ _ _ _ _ _ _ [] _ _ _
      refine SL.nil ?_
      refine T.condT rfl ?_
      refine T.seq ?_
      refine T.region ?_
      refine SL.y (op_assign rfl) rfl rfl ?_
      refine SL.nil ?_
      -- ret
      refine T.ret1 rfl (ResIs.tmp rfl) ?_
      rw [decide_eq_false (fun e => he (by simp [e]))]
  · obtain rfl : k = l.length := by omega
    refine T.seq ?_
    refine T.region ?_
    first | refine SL.y (op_lssT rfl rfl (by omega)) rfl rfl ?_ | refine SL.y (op_lssF rfl rfl (by omega)) rfl rfl ?_ | refine SL.y (op_lss rfl rfl) rfl rfl ?_
    refine SL.nil ?_
    refine T.seq ?_
    refine T.condF rfl ?_
    refine T.exit (T.exitCode (T.exitCut (T.exitBlk ?_)))
    refine T.seq ?_
    refine T.region ?_
    refine SL.y (op_assign rfl) rfl rfl ?_
    refine SL.nil ?_
    -- ret
    refine T.ret1 rfl (ResIs.tmp rfl) ?_
    rw [List.take_length, hl, List.take_length] at hpre
    rw [decide_eq_true hpre]
theorem csets2 (cs : List Value) (i : Nat) (x y : Value) : csets cs i [x, y] = (cs.set i x).set (i + 1) y := rfl
theorem ConsR.set {X : PMap} {cs : List Value} {l : List (Nat × Nat)} (h : ConsR X cs l) {i : Nat} {x y : Value} {p : Nat × Nat} (hx : SetR X (.agg #[x]) p.1) (hy : SetR X (.agg #[y]) p.2) : ConsR X (csets cs (i * 2) [x, y]) (l.set i p) := by
  rw [csets2]
  refine ⟨by simp [h.1], fun q r hq => ?_⟩
  rw [List.getElem?_set] at hq
  by_cases e : i = q
  · subst e
    simp only [if_true] at hq
    split at hq
    · rename_i hlt
      obtain rfl : p = r := by simpa using hq
      have hl := h.1
      exact ⟨x, y, by rw [List.getElem?_set_ne (by omega), List.getElem?_set_self (by omega)], by rw [List.getElem?_set_self (by simp; omega)], hx, hy⟩
    · cases hq
  · rw [if_neg e] at hq
    obtain ⟨a, b, h1, h2, h3, h4⟩ := h.2 q r hq
    exact ⟨a, b, by rw [List.getElem?_set_ne (by omega), List.getElem?_set_ne (by omega)]; exact h1, by rw [List.getElem?_set_ne (by omega), List.getElem?_set_ne (by omega)]; exact h2, h3, h4⟩
theorem ConsR.set1 {X : PMap} {cs : List Value} {l : List (Nat × Nat)} (h : ConsR X cs l) {i : Nat} {x : Value} {p : Nat × Nat} (hp : l[i]? = some p) {m : Nat} (hx : SetR X (.agg #[x]) m) : ConsR X (cs.set (i * 2) x) (l.set i (m, p.2)) := by
  obtain ⟨a0, b0, h1, h2, h3, h4⟩ := h.2 i p hp
  have := h.set (i := i) (p := (m, p.2)) hx h4
  rw [csets2] at this
  have e : ((cs.set (i * 2) x).set (i * 2 + 1) b0) = cs.set (i * 2) x := by
    apply List.ext_getElem?
    intro q
    rw [List.getElem?_set]
    split
    · rename_i e
      subst e
      rw [List.getElem?_set_ne (by omega)]
      have hl := (List.getElem?_eq_some_iff.1 h2).1
      rw [if_pos (by simpa using hl), h2]
    · rfl
  rwa [e] at this
theorem ConsR.at {X : PMap} {cs : List Value} {l : List (Nat × Nat)} (h : ConsR X cs l) {i : Nat} {p : Nat × Nat} (hp : l[i]? = some p) : ∃ A1 l1 c1 A2 l2 c2, cs[i * 2]? = some (.slice A1 l1 c1) ∧ cs[i * 2 + 1]? = some (.slice A2 l2 c2) ∧ SetR X (.agg #[.slice A1 l1 c1]) p.1 ∧ SetR X (.agg #[.slice A2 l2 c2]) p.2 := by
  obtain ⟨x, y, h1, h2, h3, h4⟩ := h.2 i p hp
  obtain ⟨A1, l1, c1, e1⟩ := h3.form
  obtain ⟨A2, l2, c2, e2⟩ := h4.form
  obtain rfl : x = .slice A1 l1 c1 := by simpa using e1
  obtain rfl : y = .slice A2 l2 c2 := by simpa using e2
  exact ⟨A1, l1, c1, A2, l2, c2, h1, h2, h3, h4⟩
theorem ConsR.one {X : PMap} {cs : List Value} {l : List (Nat × Nat)} (h : ConsR X cs l) : ∀ y ∈ cs, y.oneCell' = true := fun y hy => by
  obtain ⟨q, hq, rfl⟩ := List.getElem_of_mem hy
  have hl := h.1
  obtain ⟨A1, l1, c1, A2, l2, c2, h1, h2, _⟩ := h.at (i := q / 2) (p := l[q / 2]'(by omega)) (by simp [show q / 2 < l.length by omega])
  rcases Nat.mod_two_eq_zero_or_one q with e | e
  · rw [show q / 2 * 2 = q by omega, List.getElem?_eq_getElem hq] at h1
    rw [Option.some.inj h1]; rfl
  · rw [show q / 2 * 2 + 1 = q by omega, List.getElem?_eq_getElem hq] at h2
    rw [Option.some.inj h2]; rfl
def swapL (l : List (Nat × Nat)) (i k : Nat) : List (Nat × Nat) := (l.set i (l.getD k (0, 0))).set k (l.getD i (0, 0))
theorem swapL_len (l : List (Nat × Nat)) (i k : Nat) : (swapL l i k).length = l.length := by simp [swapL]
theorem swap_iff {c : Nat} {ms : List Nat} (hr : ms.length < 64) (hc : c < 6) {i k : Nat} (hi : i < (allR c ms).length) (hk : k < (allR c ms).length) : swapL (allR c ms) i k = allR c ms ↔ i = k := by
  have e := allR_lenC (ms := ms) hr hc
  constructor
  · intro h
    refine Classical.byContradiction fun hne => ?_
    have h1 : (swapL (allR c ms) i k)[i]? = (allR c ms)[i]? := by rw [h]
    rw [swapL, List.getElem?_set_ne (fun e => hne e.symm), List.getElem?_set_self hi, List.getElem?_eq_getElem hi] at h1
    have h2 : (allR c ms)[k] = (allR c ms)[i] := by
      have := Option.some.inj h1
      simpa [List.getD, hk] using this
    rw [allR_at hr hc hi, allR_at hr hc hk, Prod.mk.injEq] at h2
    have := allC_inj hr hc (by omega) (by omega) h2.2
    omega
  · rintro rfl
    apply List.ext_getElem?
    intro q
    rw [swapL, List.getElem?_set]
    split
    · rename_i e2; subst e2; simp [hi]
    · rename_i e2; rw [List.getElem?_set_ne e2]
theorem nine_ne {c : Nat} {ms : List Nat} (hr : ms.length < 6) (hc : c < 6) {l : List (Nat × Nat)} {i m y : Nat} (hi : i < l.length) : l.set i (m ||| 2 ^ 9, y) ≠ allR c ms := fun h => by
  have hl : i < (allR c ms).length := by rw [← h]; simpa using hi
  have h1 : (l.set i (m ||| 2 ^ 9, y))[i]? = (allR c ms)[i]? := by rw [h]
  rw [List.getElem?_set_self hi, List.getElem?_eq_getElem hl, allR_at (by omega) hc hl] at h1
  have h2 := congrArg Prod.fst (Option.some.inj h1)
  simp only at h2
  have h3 := hav_lt (c := c) (ms := ms) (by omega) (by omega) ((allC c ms)[i]'(by have := allR_lenC (ms := ms) (by omega) hc; omega))
  rw [← h2] at h3
  have h4 : (m ||| 2 ^ 9).testBit 9 = true := by rw [Nat.testBit_or, Nat.testBit_two_pow]; simp
  have h5 := bits_of_lt h3 h4
  omega
theorem checks_spec {X : PMap} (hT : Tab X) {s : Value} {bs : List Nat} (R C : Nat) (hR : R < 256) (hC : C < 256) (h : BytesR X s bs) (u0 u1 : Nat) (hu0 : u0 < 256) (hu1 : u1 < 256) :
    Spec Tryd.prog 11 [.agg #[.int .u8 (R : Int), .int .u8 (C : Int), s], .agg #[.int .u8 (u0 : Int), .int .u8 (u1 : Int)]] X fun u _ => u = .bool true := by
  obtain ⟨A, cp, rfl⟩ := h.form
  have hc6 : C % 6 < 6 := Nat.mod_lt _ (by omega)
  have hr6 : R % 6 < 6 := Nat.mod_lt _ (by omega)
  have hlen := rawRows_len bs (R % 6) (C % 6)
  have hmk := fun (X : PMap) (hT : Tab X) (h : BytesR X (.slice A bs.length cp) bs) => make_spec hT R C hR hC h
  have hms := rawRows_lt bs (R % 6) (C % 6)
  generalize rawRows bs (R % 6) (C % 6) = ms at *
  generalize C % 6 = c at *
  have hr : ms.length < 64 := by omega
  have hal := allR_len (c := c) (ms := ms) hr hc6
  have hal2 := allR_lenC (ms := ms) hr hc6
  have hpos := allC_pos (ms := ms) hr hc6
  refine Spec.enter Tryd.func11 rfl Tryd.ntmps11 rfl ?_
  intro w0 hw0
  refine T.seq ?_
  refine T.region ?_
  refine SL.x (op_box rfl) rfl rfl ?_
  rintro _ _ _ ⟨B2, rfl, rfl, rfl⟩
  refine SL.x (op_box rfl) rfl rfl ?_
  rintro _ _ _ ⟨B3, rfl, rfl, rfl⟩
  refine SL.y (op_assign rfl) rfl rfl ?_
  refine SL.nil ?_
  refine T.seq ?_
  refine T.seq ?_
  refine T.region ?_
  -- op
  refine SL.x (op_callF en13 (vs := []) rfl (awake_spec hT)) rfl rfl ?_
  rintro _ _ X1 ⟨rfl, hX1, rfl⟩
  refine SL.y (op_not rfl) rfl rfl ?_
  refine SL.nil ?_
  refine T.condF rfl ?_
  refine T.skip ?_
  refine T.seq ?_
  refine T.region ?_
  first | refine SL.y (op_load ty24 rfl (by repeat (first | exact AtO.here | apply AtO.there)) rfl) rfl rfl ?_ | refine SL.y (op_loadX ty24 rfl (by assumption) rfl) rfl rfl ?_
  -- op
  refine SL.x (op_callF en14 (vs := [_]) rfl (hmk _ (hT.mono hX1) (h.mono hX1))) rfl rfl ?_
  rintro _ _ X2 ⟨rfl, hX2, pm, lat, t, rfl, hM, hL, hC⟩
  obtain ⟨bm, rfl⟩ := hM.ptr
  obtain ⟨bl, rfl⟩ := hL.ptr
  obtain ⟨At, cpt, rfl⟩ := hC.1.form
  have hT2 := (hT.mono hX1).mono hX2
  have hN : LatN X2 (.pointer (some ⟨bl, 0, none⟩)) c ms (allR c ms) := .inl hL
  refine SL.y (op_move rfl) rfl rfl ?_
  refine SL.y (op_extract rfl rfl) rfl rfl ?_
  refine SL.y (op_extract rfl rfl) rfl rfl ?_
  refine SL.y (op_extract rfl rfl) rfl rfl ?_
  refine SL.y (op_assign rfl) rfl rfl ?_
  refine SL.y (op_assign rfl) rfl rfl ?_
  refine SL.y (op_assign rfl) rfl rfl ?_
  refine SL.nil ?_
  refine T.seq ?_
  refine T.seq ?_
  refine T.region ?_
  refine SL.y (op_move rfl) rfl rfl ?_
  refine SL.y (op_eqlNil Tryd.underlying28 rfl rfl) rfl rfl ?_
  refine SL.y (op_move rfl) rfl rfl ?_
  first | refine SL.skip rfl rfl ?_ | refine SL.y (op_move rfl) rfl rfl ?_
  first | refine SL.skip rfl rfl ?_ | refine SL.y (op_lenS Tryd.underlying29 rfl) rfl rfl ?_
  first | refine SL.skip rfl rfl ?_ | refine SL.y (op_eqlT rfl rfl (by omega)) rfl rfl ?_ | refine SL.y (op_eqlF rfl rfl (by omega)) rfl rfl ?_ | refine SL.y (op_eql rfl rfl) rfl rfl ?_
  first | refine SL.y (op_pickT rfl rfl) rfl rfl ?_ | refine SL.y (op_pickF rfl rfl) rfl rfl ?_ | refine SL.y (op_pickB rfl rfl rfl) rfl rfl ?_
  refine SL.nil ?_
  refine T.condF rfl ?_
  refine T.skip ?_
  refine T.seq ?_
  refine T.region ?_
  refine SL.y (op_assign rfl) rfl rfl ?_
  refine SL.nil ?_
  refine T.seq ?_
  refine T.seq ?_
  refine T.region ?_
  refine SL.y (op_move rfl) rfl rfl ?_
  refine SL.y (op_lenS Tryd.underlying29 rfl) rfl rfl ?_
  refine SL.y (op_move (v := .int .i64 ((0 : Nat) : Int)) rfl) rfl rfl ?_
  refine SL.nil ?_
  refine T.block ?_
  -- loop live [3, 4, 5, 6, 7, 8, 30, 31]
  refine T.drop B2 (by repeat (first | exact AtO.here | apply AtO.there)) ?_
  refine T.loopW (fun m env own X' => ∃ (k : Nat) (sv : Value) (G : Own) (cs : List Value), m = (allR c ms).length - k ∧ k ≤ (allR c ms).length ∧ X2.le X' ∧ GrowS 49 2 sv k cs G ∧ ConsR X' cs ((allR c ms).take k) ∧ env = [(3, .pointer (some ⟨B3, 0, none⟩)), (5, .pointer (some ⟨bm, 0, none⟩)), (6, .pointer (some ⟨bl, 0, none⟩)), (7, .slice At (allR c ms).length cpt), (8, sv), (30, .int .i64 ((allR c ms).length : Int)), (31, .int .i64 (k : Int))] ∧ own = ⟨B3, [.int .u8 (u0 : Int), .int .u8 (u1 : Int)], 79, 2⟩ :: G) (allR c ms).length ⟨0, _, _, [], by simp, by omega, PMap.le_refl _, GrowS.nil, ConsR.nil, rfl, rfl⟩ (by repeat (first | exact Sub.nil | refine Sub.cons rfl ?_)) ?_
  rintro m _ _ X3 ⟨k, sv, G, cs, rfl, hk, hX3, hG, hCs, rfl, rfl⟩
  rcases Nat.lt_or_ge k (allR c ms).length with hkl | hkl
  · obtain ⟨Asv, cpsv, rfl⟩ := hG.form
    refine T.seq ?_
    refine T.region ?_
    first | refine SL.y (op_lssT rfl rfl (by omega)) rfl rfl ?_ | refine SL.y (op_lssF rfl rfl (by omega)) rfl rfl ?_ | refine SL.y (op_lss rfl rfl) rfl rfl ?_
    refine SL.nil ?_
    refine T.seq ?_
    refine T.condT rfl ?_
    refine T.skip ?_
    refine T.seq ?_
    refine T.block ?_
    refine T.seq ?_
    refine T.region ?_
    refine SL.y (op_move rfl) rfl rfl ?_
    refine SL.y (op_assign rfl) rfl rfl ?_
    refine SL.nil ?_
    refine T.seq ?_
    refine T.region ?_
    refine SL.y (op_move rfl) rfl rfl ?_
    refine SL.y (op_move rfl) rfl rfl ?_
    -- op
    refine SL.x (op_callF en25 (vs := [_, _]) rfl (at_val (hN.mono hX3) hkl)) rfl rfl ?_
    rintro _ _ X4 ⟨rfl, hX4, x, y, rfl, hx, hy⟩
    obtain ⟨Ax, lx, cx, hxe⟩ := hx.form
    obtain ⟨Ay, ly, cy, hye⟩ := hy.form
    obtain rfl : x = .slice Ax lx cx := by simpa using hxe
    obtain rfl : y = .slice Ay ly cy := by simpa using hye
    refine SL.y (op_move rfl) rfl rfl ?_
    refine SL.y (op_extract rfl rfl) rfl rfl ?_
    refine SL.y (op_extract rfl rfl) rfl rfl ?_
    refine SL.x (op_alloc z49) rfl rfl ?_
    rintro _ _ _ ⟨B10, rfl, rfl, rfl⟩
    refine SL.x (op_store ty49 rfl rfl (by repeat (first | exact AtO.here | apply AtO.there)) rfl rfl rfl) rfl rfl ?_
    rintro _ _ _ ⟨rfl, rfl⟩
    refine SL.y (op_assign rfl) rfl rfl ?_
    refine SL.nil ?_
    refine T.region ?_
    refine SL.y (op_move rfl) rfl rfl ?_
    first | refine SL.y (op_load ty49 rfl (by repeat (first | exact AtO.here | apply AtO.there)) rfl) rfl rfl ?_ | refine SL.y (op_loadX ty49 rfl (by assumption) rfl) rfl rfl ?_
    refine SL.x (op_buildSlice Tryd.underlying80 bs49 (qs := [(0, _)]) rfl rfl rfl rfl rfl) rfl rfl ?_
    rintro _ _ _ ⟨B42, rfl, rfl, rfl⟩
    -- op
    refine SL.x (op_appendG (own0 := [_, _]) sl80 rfl hG rfl rfl rfl (by (have : maxLen = 9223372036854775807 := rfl); omega) (by omega)) rfl rfl ?_
    rintro s' _ _ ⟨G', rfl, rfl, hG'⟩
    obtain ⟨As', cps', rfl⟩ := hG'.form
    refine SL.y (op_assign rfl) rfl rfl ?_
    refine SL.nil ?_
    refine T.blk ?_
    refine T.region ?_
    first | refine SL.y (op_addN (q := 1) rfl rfl (by omega)) rfl rfl ?_ | refine SL.y (op_add rfl rfl (by omega) (by omega)) rfl rfl ?_ | refine SL.y (op_addW rfl rfl) rfl rfl ?_
    refine SL.y (op_move rfl) rfl rfl ?_
    refine SL.nil ?_
    -- cut
    refine T.drop B10 (by repeat (first | exact AtO.here | apply AtO.there)) ?_
    exact T.backW ((allR c ms).length - (k + 1)) (by omega) ⟨k + 1, _, G', _, rfl, by omega, hX3.trans' hX4, hG', by rw [List.take_succ_eq_append_getElem hkl]; have := (hCs.mono hX4).snoc (p := (allR c ms)[k]) hx hy; simpa [csets, vcells] using this, rfl, rfl⟩ (by repeat (first | exact Sub.nil | refine Sub.cons rfl ?_))
  · obtain rfl : k = (allR c ms).length := by omega
    rw [List.take_length] at hCs
    rcases hG with ⟨g0, _⟩ | ⟨g, cap, rfl, rfl, hc1, hc2, hc3⟩
    · omega
    have hT3 := hT2.mono hX3
    have hM3 := hM.mono hX3
    have hlis : ∀ X1 : PMap, X3.le X1 → Blk X1 g cs → LisR X1 (.slice (some ⟨g, 0, none⟩) (allR c ms).length cap) (allR c ms) := fun X1 h1 h2 =>
      ⟨_, cap, rfl, fun _ => ⟨g, [], cs, rfl, h2, hCs.mono h1⟩⟩
    have hn : 0 < (allR c ms).length := by omega
    obtain ⟨A1, l1, c1, A2, l2, c2, g1, g2, s1, s2⟩ := hCs.at (i := 0) (p := (allR c ms)[0]) (by simp [hn])
    have hone := hCs.one
    have hsl : ∀ X1 : PMap, Blk X1 g cs → SliceR X1 (.slice (some ⟨g, 0, none⟩) (allR c ms).length cap) (allR c ms).length cs := fun X1 h => .inr ⟨hn, g, cap, rfl, h⟩
    refine T.seq ?_
    refine T.region ?_
    first | refine SL.y (op_lssT rfl rfl (by omega)) rfl rfl ?_ | refine SL.y (op_lssF rfl rfl (by omega)) rfl rfl ?_ | refine SL.y (op_lss rfl rfl) rfl rfl ?_
    refine SL.nil ?_
    refine T.seq ?_
    refine T.condF rfl ?_
    refine T.exit (T.exitCode (T.exitCut (T.exitBlk ?_)))
    refine T.seq ?_
    refine T.seq ?_
    refine T.draw (by kernel_rfl) 23 [.t 0, .t 1, .r 2, .t 3, .t 4, .t 5, .r 6, .t 7, .t 8, .t 9, .t 10, .t 11, .r 12, .t 13, .t 14, .t 15, .t 16, .t 18, .t 19, .t 20, .f 17 21, .r 22] (by kernel_rfl) ?_
    refine SD.take rfl panicBody (op_move rfl) rfl rfl ?_
    refine SD.take rfl panicBody (op_move rfl) rfl rfl ?_
    -- op
    refine SD.run rfl (op_callLend en49 (vs := [_, _]) rfl ((fun X1 h1 h2 => ((check_spec (hT3.mono h1) (hM3.mono h1) hc6 (hlis X1 h1 (h2 ⟨g, cs, 49, cap * 2⟩ (by simp))) rfl hn (by omega)).mono (fun _ _ _ hv => by rw [hv]; simp) : Spec _ _ _ _ fun u _ => u = .bool true)))) rfl rfl ?_
    rintro _ _ _ ⟨rfl, rfl, rfl⟩
    refine SD.take rfl panicBody (op_not rfl) rfl rfl ?_
    refine SD.take rfl panicBody (op_move rfl) rfl rfl ?_
    first | refine SD.skip rfl panicBody rfl rfl ?_ | refine SD.take rfl panicBody (op_move rfl) rfl rfl ?_
    -- op
    refine SD.run rfl (op_callLend en49 (vs := [_, _]) rfl ((fun X1 h1 h2 => (check_nil : Spec _ _ _ _ fun u _ => u = .bool false)))) rfl rfl ?_
    rintro _ _ _ ⟨rfl, rfl, rfl⟩
    first | refine SD.take rfl panicBody (op_pickT rfl rfl) rfl rfl ?_ | refine SD.take rfl panicBody (op_pickF rfl rfl) rfl rfl ?_ | refine SD.take rfl panicBody (op_pickB rfl rfl rfl) rfl rfl ?_
    refine SD.take rfl panicBody (op_move rfl) rfl rfl ?_
    first | refine SD.skip rfl panicBody rfl rfl ?_ | refine SD.take rfl panicBody (op_move rfl) rfl rfl ?_
    first | refine SD.skip rfl panicBody rfl rfl ?_ | refine SD.take rfl panicBody (op_move rfl) rfl rfl ?_
    -- to 56: op
    refine SD.take rfl panicBody (op_sliceLo (l := 1) Tryd.underlying80 ty49 rfl rfl (by omega) hc1) rfl rfl ?_
    refine SD.run rfl (op_callLend en49 (vs := [_, _]) rfl ((fun X1 h1 h2 => (check_len (hT3.mono h1) (hM3.mono h1) hc6 (by omega) (by omega) : Spec _ _ _ _ fun u _ => u = .bool false)))) rfl rfl ?_
    rintro _ _ _ ⟨rfl, rfl, rfl⟩
    first | refine SD.take rfl panicBody (op_pickT rfl rfl) rfl rfl ?_ | refine SD.take rfl panicBody (op_pickF rfl rfl) rfl rfl ?_ | refine SD.take rfl panicBody (op_pickB rfl rfl rfl) rfl rfl ?_
    refine SD.take rfl panicBody (op_move rfl) rfl rfl ?_
    first | refine SD.skip rfl panicBody rfl rfl ?_ | refine SD.take rfl panicBody (op_move rfl) rfl rfl ?_
    first | refine SD.skip rfl panicBody rfl rfl ?_ | refine SD.take rfl panicBody (op_move rfl) rfl rfl ?_
    first | refine SD.skip rfl panicBody rfl rfl ?_ | refine SD.take rfl panicBody (op_move rfl) rfl rfl ?_
    first | refine SD.skip rfl panicBody rfl rfl ?_ | refine SD.take rfl panicBody (op_indexN Tryd.underlying80 ty49 rfl rfl (by omega)) rfl rfl ?_ | refine SD.take rfl panicBody (op_index Tryd.underlying80 ty49 rfl rfl (by omega) (by omega)) rfl rfl ?_
    -- to 65: op
    refine SD.take rfl panicBody (op_load ty49 rfl (by repeat (first | exact AtO.here | apply AtO.there)) (creadR2 g1 g2 (by first | rfl | omega))) rfl rfl ?_
    -- fork 17 21
    refine SD.fork rfl rfl (K := (fun v1 v2 own' X' => ∃ bc capc bb, v1 = .slice (some ⟨bc, 0, none⟩) (allR c ms).length capc ∧ v2 = .slice (some ⟨bb, 0, none⟩) 1 1 ∧ own' = [⟨bb, [.slice A1 l1 c1, .slice A2 l2 c2], 49, 2⟩, ⟨bc, cs, 49, capc * 2⟩, ⟨B3, [.int .u8 (u0 : Int), .int .u8 (u1 : Int)], 79, 2⟩, ⟨g, cs, 49, cap * 2⟩] ∧ X3 = X' ∧ (allR c ms).length ≤ capc ∧ capc ≤ maxLen)) ((op_callLendO (vs := [_]) en50 rfl (fun X1 h1 h2 => clone_spec (hsl X1 (h2 ⟨g, cs, 49, cap * 2⟩ (by simp))) hn hCs.1 hone (by omega))).mono (by rintro v own' X' ⟨own1, rfl, rfl, hG⟩; obtain ⟨bc, capc, rfl, rfl, hd1, hd2⟩ := hG.pos hn; exact (op_buildSlice Tryd.underlying80 bs49 (qs := [(0, _)]) rfl rfl rfl rfl rfl).mono (by rintro v2 own2 X2 ⟨bb, rfl, rfl, rfl⟩; exact ⟨bc, capc, bb, rfl, rfl, rfl, rfl, hd1, hd2⟩))) ((op_buildSlice Tryd.underlying80 bs49 (qs := [(0, _)]) rfl rfl rfl rfl rfl).mono (by rintro v2 own2 X2 ⟨bb, rfl, rfl, rfl⟩; exact (op_callLendO (vs := [_]) en50 rfl (fun X1 h1 h2 => clone_spec (hsl X1 (h2 ⟨g, cs, 49, cap * 2⟩ (by simp))) hn hCs.1 hone (by omega))).mono (by rintro v own' X' ⟨own1, rfl, rfl, hG⟩; obtain ⟨bc, capc, rfl, rfl, hd1, hd2⟩ := hG.pos hn; exact ⟨_, List.Perm.swap .., bc, capc, bb, rfl, rfl, rfl, rfl, hd1, hd2⟩))) rfl (fun _ => rfl) rfl (fun _ => rfl) rfl rfl rfl ?_
    rintro _ _ _ _ ⟨bc, capc, bb, rfl, rfl, rfl, rfl, hd1, hd2⟩
    refine SD.runK rfl (op_append (m := 1) (news := [.slice A1 l1 c1, .slice A2 l2 c2]) sl80 rfl rfl (AtO.there AtO.here) rfl hCs.1 hd1 hd2 (Src.ofOwn0 AtO.here rfl) (by intro y hy; simp at hy; rcases hy with rfl | rfl <;> rfl) (by (have : maxLen = 9223372036854775807 := rfl); omega) (by omega)) (by rintro _ _ _ ⟨b', cap', rfl, rfl, rfl, _, _⟩; exact ⟨fun p hp => List.mem_cons_of_mem _ (List.mem_cons_of_mem _ hp), PMap.le_refl _⟩) rfl rfl ?_
    rintro _ _ _ ⟨b', cap', rfl, rfl, rfl, he1, he2⟩
    refine SD.nil ?_
    show SL _ _ _ _ _ _ _ [_, _] _ _ _
    -- op
    refine SL.x (op_callLend en49 (vs := [_, _]) rfl ((fun X1 h1 h2 => (check_len (hT3.mono h1) (hM3.mono h1) hc6 (by omega) (by omega) : Spec _ _ _ _ fun u _ => u = .bool false)))) rfl rfl ?_
    rintro _ _ _ ⟨rfl, rfl, rfl⟩
    first | refine SL.y (op_pickT rfl rfl) rfl rfl ?_ | refine SL.y (op_pickF rfl rfl) rfl rfl ?_ | refine SL.y (op_pickB rfl rfl rfl) rfl rfl ?_
    refine SL.nil ?_
    refine T.condF rfl ?_
    refine T.skip ?_
    refine T.seq ?_
    refine T.draw (by kernel_rfl) 14 [.t 0, .t 1, .t 2, .t 3, .t 4, .t 5, .t 6, .t 7, .t 8, .t 9, .t 10, .t 11, .t 12, .t 13] (by kernel_rfl) ?_
    refine SD.take rfl panicBody (op_indexA (i := 0) Tryd.underlying79 ty5 rfl rfl (by omega)) rfl rfl ?_
    first | refine SD.take rfl panicBody (op_load ty5 rfl (by repeat (first | exact AtO.here | apply AtO.there)) rfl) rfl rfl ?_ | refine SD.take rfl panicBody (op_loadX ty5 rfl (by assumption) rfl) rfl rfl ?_
    first | refine SD.take rfl panicBody (op_convI64 Tryd.underlying5 Tryd.underlying3 rfl (by omega) (by omega)) rfl rfl ?_ | refine SD.take rfl panicBody (op_convert Tryd.underlying5 Tryd.underlying3 rfl) rfl rfl ?_
    refine SD.take rfl panicBody (op_move rfl) rfl rfl ?_
    refine SD.take rfl panicBody (op_lenS Tryd.underlying29 rfl) rfl rfl ?_
    -- to 75: op
    refine SD.take rfl panicBody (op_remN (q := (allR c ms).length) rfl rfl rfl (by omega)) rfl rfl ?_
    refine SD.take rfl panicBody (op_indexA (i := 1) Tryd.underlying79 ty5 rfl rfl (by omega)) rfl rfl ?_
    first | refine SD.take rfl panicBody (op_load ty5 rfl (by repeat (first | exact AtO.here | apply AtO.there)) rfl) rfl rfl ?_ | refine SD.take rfl panicBody (op_loadX ty5 rfl (by assumption) rfl) rfl rfl ?_
    first | refine SD.take rfl panicBody (op_convI64 Tryd.underlying5 Tryd.underlying3 rfl (by omega) (by omega)) rfl rfl ?_ | refine SD.take rfl panicBody (op_convert Tryd.underlying5 Tryd.underlying3 rfl) rfl rfl ?_
    refine SD.take rfl panicBody (op_move rfl) rfl rfl ?_
    refine SD.take rfl panicBody (op_lenS Tryd.underlying29 rfl) rfl rfl ?_
    -- to 81: op
    refine SD.take rfl panicBody (op_remN (q := (allR c ms).length) rfl rfl rfl (by omega)) rfl rfl ?_
    have hi0 : u0 % (allR c ms).length < (allR c ms).length := Nat.mod_lt _ (by omega)
    have hk0 : u1 % (allR c ms).length < (allR c ms).length := Nat.mod_lt _ (by omega)
    generalize u0 % (allR c ms).length = i at *
    generalize u1 % (allR c ms).length = k at *
    obtain ⟨Ai, li, ci, Aj, lj, cj, gi1, gi2, si1, si2⟩ := hCs.at (i := i) (p := (allR c ms)[i]) (by simp [hi0])
    obtain ⟨Ak, lk, ck, Am, lm, cm, gk1, gk2, sk1, sk2⟩ := hCs.at (i := k) (p := (allR c ms)[k]) (by simp [hk0])
    have hlc : cs.length = (allR c ms).length * 2 := hCs.1
    refine SD.take rfl panicBody (op_assign rfl) rfl rfl ?_
    refine SD.take rfl panicBody (op_assign rfl) rfl rfl ?_
    refine SD.nil ?_
    show SL _ _ _ _ _ _ _ [] _ _ _
    refine SL.nil ?_
    refine T.seq ?_
    refine T.drawS 13 (by kernel_rfl) 14 [.t 0, .t 1, .m 2, .m 3, .t 4, .t 5, .t 6, .t 7, .m 8, .m 9, .m 10, .t 11, .t 12, .r 13] (by kernel_rfl) ?_
    refine SD.take rfl panicBody (op_move rfl) rfl rfl ?_
    refine SD.take rfl panicBody (op_move rfl) rfl rfl ?_
    refine SD.takeM rfl panicBody (op_move rfl) rfl rfl ?_
    refine SD.takeM rfl panicBody (op_move rfl) rfl rfl ?_
    refine SD.take rfl panicBody (op_move rfl) rfl rfl ?_
    refine SD.take rfl panicBody (op_move rfl) rfl rfl ?_
    first | refine SD.take rfl panicBody (op_indexN Tryd.underlying80 ty49 rfl rfl (by omega)) rfl rfl ?_ | refine SD.take rfl panicBody (op_index Tryd.underlying80 ty49 rfl rfl (by omega) (by omega)) rfl rfl ?_
    -- to 89: op
    refine SD.take rfl panicBody (op_load ty49 rfl (by repeat (first | exact AtO.here | apply AtO.there)) (creadR2 gk1 gk2 (by omega))) rfl rfl ?_
    refine SD.takeM rfl panicBody (op_move rfl) rfl rfl ?_
    refine SD.takeM rfl panicBody (op_move rfl) rfl rfl ?_
    first | refine SD.takeM rfl panicBody (op_indexN Tryd.underlying80 ty49 rfl rfl (by omega)) rfl rfl ?_ | refine SD.takeM rfl panicBody (op_index Tryd.underlying80 ty49 rfl rfl (by omega) (by omega)) rfl rfl ?_
    -- to 93: op
    refine SD.take rfl panicBody (op_load ty49 rfl (by repeat (first | exact AtO.here | apply AtO.there)) (creadR2 gi1 gi2 (by omega))) rfl rfl ?_
    first | refine SD.take rfl panicBody (op_indexN Tryd.underlying80 ty49 rfl rfl (by omega)) rfl rfl ?_ | refine SD.take rfl panicBody (op_index Tryd.underlying80 ty49 rfl rfl (by omega) (by omega)) rfl rfl ?_
    -- to store: op
    refine SD.runS rfl (op_store ty49 rfl rfl (by repeat (first | exact AtO.here | apply AtO.there)) rfl rfl (Nat.ble_eq_true_of_le (by simp; omega))) rfl rfl ?_
    rintro _ _ _ ⟨rfl, rfl⟩
    refine SD.nil ?_
    show SL _ _ _ _ _ _ _ [_, _] _ _ _
    first | refine SL.y (op_indexN Tryd.underlying80 ty49 rfl rfl (by omega)) rfl rfl ?_ | refine SL.y (op_index Tryd.underlying80 ty49 rfl rfl (by omega) (by omega)) rfl rfl ?_
    -- to store: op
    refine SL.x (op_store ty49 rfl rfl (by repeat (first | exact AtO.here | apply AtO.there)) rfl rfl (Nat.ble_eq_true_of_le (by simp [csets_length]; omega))) rfl rfl ?_
    rintro _ _ _ ⟨rfl, rfl⟩
    have hC2 : ConsR X3 (csets (csets cs (i * 2) [.slice Ak lk ck, .slice Am lm cm]) (k * 2) [.slice Ai li ci, .slice Aj lj cj]) (swapL (allR c ms) i k) := by
      have := (hCs.set (i := i) (p := (allR c ms)[k]) sk1 sk2).set (i := k) (p := (allR c ms)[i]) si1 si2
      simpa [swapL, List.getD, hi0, hk0] using this
    obtain ⟨cs2, hcs2⟩ : ∃ cs2, cs2 = csets (csets cs (i * 2) [.slice Ak lk ck, .slice Am lm cm]) (k * 2) [.slice Ai li ci, .slice Aj lj cj] := ⟨_, rfl⟩
    rw [← hcs2] at hC2
    refine SL.perm (own' := [_, _, _, ⟨g, cs2, 49, cap * 2⟩]) (List.Perm.of_eq (by rw [hcs2]; simp only [Nat.zero_add]; rfl)) ?_
    have hsw := swap_iff (ms := ms) hr hc6 hi0 hk0
    have hlis2 : ∀ X1 : PMap, X3.le X1 → Blk X1 g cs2 → LisR X1 (.slice (some ⟨g, 0, none⟩) (allR c ms).length cap) (swapL (allR c ms) i k) := fun X1 h1 h2 =>
      ⟨_, cap, by rw [swapL_len]; rfl, fun _ => ⟨g, [], cs2, rfl, h2, hC2.mono h1⟩⟩
    refine SL.nil ?_
    refine T.seq ?_
    refine T.seq ?_
    refine T.region ?_
    refine SL.y (op_move rfl) rfl rfl ?_
    refine SL.y (op_move rfl) rfl rfl ?_
    -- op
    refine SL.x (op_callLend en49 (vs := [_, _]) rfl ((fun X1 h1 h2 => ((check_spec (hT3.mono h1) (hM3.mono h1) hc6 (hlis2 X1 h1 (h2 ⟨g, cs2, 49, cap * 2⟩ (by simp))) (swapL_len ..) (by rw [swapL_len]; exact hn) (by rw [swapL_len]; omega)).mono (fun _ _ _ hv => by rw [hv, decide_eq_decide.2 hsw]) : Spec _ _ _ _ fun u _ => u = .bool (decide (i = k)))))) rfl rfl ?_
    rintro _ _ _ ⟨rfl, rfl, rfl⟩
    refine SL.y (op_move rfl) rfl rfl ?_
    refine SL.y (op_move rfl) rfl rfl ?_
    -- to 101: op
    refine SL.y (op_eqlN (p := i) (q := k) rfl rfl) rfl rfl ?_
    refine SL.y (op_neqBS Tryd.underlying4 rfl rfl) rfl rfl ?_
    have hil : i < (swapL (allR c ms) i k).length := by rw [swapL_len]; exact hi0
    have hlc2 : cs2.length = (allR c ms).length * 2 := by rw [hC2.1, swapL_len]
    obtain ⟨Bi, mi, di, Bj, mj, dj, hi1, hi2, ri1, ri2⟩ := hC2.at (i := i) (p := (swapL (allR c ms) i k)[i]) (by simp [hil])
    refine SL.nil ?_
    refine T.condF rfl ?_
    refine T.skip ?_
    refine T.seq ?_
    refine T.region ?_
    refine SL.y (op_move rfl) rfl rfl ?_
    refine SL.y (op_move rfl) rfl rfl ?_
    refine SL.y (op_move rfl) rfl rfl ?_
    refine SL.y (op_move rfl) rfl rfl ?_
    first | refine SL.y (op_indexN Tryd.underlying80 ty49 rfl rfl (by omega)) rfl rfl ?_ | refine SL.y (op_index Tryd.underlying80 ty49 rfl rfl (by omega) (by omega)) rfl rfl ?_
    refine SL.y (op_fieldAddr fa49_0 rfl) rfl rfl ?_
    -- to 109: op
    refine SL.y (op_load ty47 rfl (by repeat (first | exact AtO.here | apply AtO.there)) (creadRk hi1 (by omega))) rfl rfl ?_
    -- op
    refine SL.x (op_callF en51 (vs := [_, _]) rfl (with_spec ri1 9 (by omega))) rfl rfl ?_
    rintro v _ X4 ⟨rfl, hX4, hv⟩
    obtain ⟨Av, lv, cv, rfl⟩ := hv.form
    first | refine SL.y (op_indexN Tryd.underlying80 ty49 rfl rfl (by omega)) rfl rfl ?_ | refine SL.y (op_index Tryd.underlying80 ty49 rfl rfl (by omega) (by omega)) rfl rfl ?_
    refine SL.y (op_fieldAddr fa49_0 rfl) rfl rfl ?_
    -- to store: op
    refine SL.x (op_store ty47 rfl rfl (by repeat (first | exact AtO.here | apply AtO.there)) rfl rfl (Nat.ble_eq_true_of_le (by simp; omega))) rfl rfl ?_
    rintro _ _ _ ⟨rfl, rfl⟩
    have hC3 := (hC2.mono hX4).set1 (i := i) (p := (swapL (allR c ms) i k)[i]) (by simp [hil]) hv
    refine SL.perm (own' := [_, _, _, ⟨g, cs2.set (i * 2) (.slice Av lv cv), 49, cap * 2⟩]) (List.Perm.of_eq (by simp only [Nat.zero_add]; rfl)) ?_
    refine SL.nil ?_
    refine T.seq ?_
    refine T.region ?_
    refine SL.y (op_move rfl) rfl rfl ?_
    refine SL.y (op_move rfl) rfl rfl ?_
    -- op
    refine SL.x (op_callLend en49 (vs := [_, _]) rfl ((fun X1 h1 h2 => ((check_spec (hT3.mono (hX4.trans' h1)) (hM3.mono (hX4.trans' h1)) hc6 (⟨_, cap, by rw [List.length_set, swapL_len]; rfl, fun _ => ⟨g, [], _, rfl, h2 ⟨g, cs2.set (i * 2) (.slice Av lv cv), 49, cap * 2⟩ (by simp), hC3.mono h1⟩⟩) (by rw [List.length_set, swapL_len]) (by rw [List.length_set, swapL_len]; exact hn) (by rw [List.length_set, swapL_len]; omega)).mono (fun _ _ _ hv => by rw [hv, decide_eq_false (nine_ne (by omega) hc6 hil)]) : Spec _ _ _ _ fun u _ => u = .bool false)))) rfl rfl ?_
    rintro _ _ _ ⟨rfl, rfl, rfl⟩
    refine SL.y (op_not rfl) rfl rfl ?_
    refine SL.y (op_assign rfl) rfl rfl ?_
    refine SL.nil ?_
    -- ret
    refine T.ret1 rfl (ResIs.tmp rfl) ?_
    rfl
end Go.Proofs.YtoheffglppbcbaaDoor
