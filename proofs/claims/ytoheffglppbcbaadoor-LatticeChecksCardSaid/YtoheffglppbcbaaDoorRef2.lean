/- THE REFERENCE's MATRICES (arbacref44). -/
import Derived.Test.YtoheffglppbcbaaDoorRef1
import Derived.Test.YtoheffglppbcbaaDoorMat2
namespace Go.Proofs.YtoheffglppbcbaaDoor
open Go.RowKit
def bytesC (bs : List Nat) : List Value := bs.map fun (b : Nat) => .int .u8 (b : Int)
def bitB (bs : List Nat) (k : Nat) : Bool := decide (k / 8 < bs.length) && (bs.getD (k / 8) 0).testBit (k % 8)
/-- v is a slice of these bytes, wherever it begins. -/
def BytesR (X : PMap) (v : Value) (bs : List Nat) : Prop :=
  (bs = [] ∧ ∃ A c, v = .slice A 0 c) ∨ (0 < bs.length ∧ ∃ b c pre, v = .slice (some ⟨b, pre.length, none⟩) bs.length c ∧ Blk X b (pre ++ bytesC bs))
theorem BytesR.mono {X X' : PMap} {v : Value} {bs : List Nat} (h : BytesR X v bs) (hX : X.le X') : BytesR X' v bs := by
  rcases h with h | ⟨h0, b, c, pre, hv, hb⟩
  · exact .inl h
  · exact .inr ⟨h0, b, c, pre, hv, hb.mono hX⟩
theorem BytesR.form {X : PMap} {v : Value} {bs : List Nat} (h : BytesR X v bs) : ∃ A cp, v = .slice A bs.length cp := by
  rcases h with ⟨rfl, A, c, rfl⟩ | ⟨h0, b, c, pre, rfl, hb⟩
  · exact ⟨_, _, rfl⟩
  · exact ⟨_, _, rfl⟩
theorem BytesR.blk {X : PMap} {A : Option Addr} {cp len : Nat} {bs : List Nat} (h : BytesR X (.slice A len cp) bs) (h0 : 0 < bs.length) : ∃ b pre, A = some ⟨b, pre.length, none⟩ ∧ Blk X b (pre ++ bytesC bs) := by
  rcases h with ⟨rfl, _⟩ | ⟨_, b, c, pre, hv, hb⟩
  · simp at h0
  · simp only [Value.slice.injEq] at hv
    exact ⟨b, pre, hv.1, hb⟩
theorem cread1k' {cs : List Value} {k k' : Nat} {v : Value} (h : cs[k]? = some v) (e : k' = k) : cread false 1 cs k' = some v := by
  subst e
  simpa [cread] using h
theorem bit44_spec {X : PMap} {v : Value} {bs : List Nat} (h : BytesR X v bs) (k : Nat) (hk : k < 2147483648) : Spec Tryd.prog 82 [v, .int .i64 (k : Int)] X fun u _ => u = .bool (bitB bs k) := by
  obtain ⟨A, cp, rfl⟩ := h.form
  by_cases hl : k / 8 < bs.length
  · obtain ⟨b, pre, rfl, hB⟩ := h.blk (by omega)
    have hget : (pre ++ bytesC bs)[pre.length + k / 8]? = some (.int .u8 (bs[k / 8] : Int)) := by
      rw [List.getElem?_append_right (by omega)]
      simp [bytesC, hl]
    have h8 : k % 8 < 8 := Nat.mod_lt _ (by omega)
    refine Spec.enter Tryd.func82 rfl Tryd.ntmps82 rfl ?_
    intro w0 hw0
    refine T.seq ?_
    refine T.region ?_
    refine SL.y (op_assign rfl) rfl rfl ?_
    refine SL.nil ?_
    refine T.seq ?_
    refine T.region ?_
    refine SL.y (op_move rfl) rfl rfl ?_
    -- to 6: op
    refine SL.y (op_quoN (q := 8) rfl rfl rfl (by omega) (by decide)) rfl rfl ?_
    refine SL.y (op_move rfl) rfl rfl ?_
    refine SL.y (op_lenS Tryd.underlying22 rfl) rfl rfl ?_
    first | refine SL.y (op_lssT rfl rfl (by omega)) rfl rfl ?_ | refine SL.y (op_lssF rfl rfl (by omega)) rfl rfl ?_ | refine SL.y (op_lss rfl rfl) rfl rfl ?_
    refine SL.y (op_move rfl) rfl rfl ?_
    first | refine SL.skip rfl rfl ?_ | refine SL.y (op_move rfl) rfl rfl ?_
    first | refine SL.skip rfl rfl ?_ | refine SL.y (op_move rfl) rfl rfl ?_
    -- to 13: op
    refine SL.y (op_quoN (q := 8) rfl rfl rfl (by omega) (by decide)) rfl rfl ?_
    first | refine SL.skip rfl rfl ?_ | refine SL.y (op_indexN Tryd.underlying22 ty5 rfl rfl (by omega)) rfl rfl ?_ | refine SL.y (op_index Tryd.underlying22 ty5 rfl rfl (by omega) (by omega)) rfl rfl ?_
    -- to 15: op
    refine SL.y (op_loadX ty5 rfl hB (cread1k' hget (by omega))) rfl rfl ?_
    first | refine SL.skip rfl rfl ?_ | refine SL.y (op_move rfl) rfl rfl ?_
    -- to 17: op
    refine SL.y (op_remN (q := 8) rfl rfl rfl (by decide)) rfl rfl ?_
    first | refine SL.skip rfl rfl ?_ | refine SL.y (op_convU64 Tryd.underlying3 Tryd.underlying129 rfl (by omega) (by omega)) rfl rfl ?_ | refine SL.y (op_convert Tryd.underlying3 Tryd.underlying129 rfl) rfl rfl ?_
    first | refine SL.skip rfl rfl ?_ | refine SL.y (op_shrK rfl rfl (by show _ ≤ 8; omega)) rfl rfl ?_ | refine SL.y (op_shr rfl rfl) rfl rfl ?_
    -- to 20: op
    refine SL.y (op_remN (q := 2) rfl rfl rfl (by decide)) rfl rfl ?_
    refine SL.y (op_eql rfl rfl) rfl rfl ?_
    rw [bit_dec]
    first | refine SL.y (op_pickT rfl rfl) rfl rfl ?_ | refine SL.y (op_pickF rfl rfl) rfl rfl ?_ | refine SL.y (op_pickB rfl rfl rfl) rfl rfl ?_
    refine SL.y (op_assign rfl) rfl rfl ?_
    refine SL.nil ?_
    -- ret
    refine T.ret1 rfl (ResIs.tmp rfl) ?_
    simp [bitB, hl]
  · refine Spec.enter Tryd.func82 rfl Tryd.ntmps82 rfl ?_
    intro w0 hw0
    refine T.seq ?_
    refine T.region ?_
    refine SL.y (op_assign rfl) rfl rfl ?_
    refine SL.nil ?_
    refine T.seq ?_
    refine T.region ?_
    refine SL.y (op_move rfl) rfl rfl ?_
    -- to 6: op
    refine SL.y (op_quoN (q := 8) rfl rfl rfl (by omega) (by decide)) rfl rfl ?_
    refine SL.y (op_move rfl) rfl rfl ?_
    refine SL.y (op_lenS Tryd.underlying22 rfl) rfl rfl ?_
    first | refine SL.y (op_lssT rfl rfl (by omega)) rfl rfl ?_ | refine SL.y (op_lssF rfl rfl (by omega)) rfl rfl ?_ | refine SL.y (op_lss rfl rfl) rfl rfl ?_
    refine SL.y (op_move rfl) rfl rfl ?_
    first | refine SL.skip rfl rfl ?_ | refine SL.y (op_move rfl) rfl rfl ?_
    first | refine SL.skip rfl rfl ?_ | refine SL.y (op_move rfl) rfl rfl ?_
    first | refine SL.skip rfl rfl ?_ | refine SL.y (op_quo0 (q := 8) rfl rfl rfl (by omega) (by omega)) rfl rfl ?_ | refine SL.y (op_quoN (q := 8) rfl rfl rfl (by omega) (by decide)) rfl rfl ?_ | refine SL.y (op_quo rfl rfl (by omega) (by omega) (by omega)) rfl rfl ?_
    first | refine SL.skip rfl rfl ?_ | refine SL.y (op_indexN Tryd.underlying22 ty5 rfl rfl (by omega)) rfl rfl ?_ | refine SL.y (op_index Tryd.underlying22 ty5 rfl rfl (by omega) (by omega)) rfl rfl ?_
    first | refine SL.skip rfl rfl ?_ | refine SL.y (op_load ty5 rfl (by repeat (first | exact AtO.here | apply AtO.there)) rfl) rfl rfl ?_ | refine SL.y (op_loadX ty5 rfl (by assumption) rfl) rfl rfl ?_
    first | refine SL.skip rfl rfl ?_ | refine SL.y (op_move rfl) rfl rfl ?_
    first | refine SL.skip rfl rfl ?_ | refine SL.y (op_remS (q := 8) rfl rfl rfl (by omega)) rfl rfl ?_ | refine SL.y (op_remN (q := 8) rfl rfl rfl (by decide)) rfl rfl ?_ | refine SL.y (op_rem rfl rfl (by omega) (by omega)) rfl rfl ?_
    first | refine SL.skip rfl rfl ?_ | refine SL.y (op_convU64 Tryd.underlying3 Tryd.underlying129 rfl (by omega) (by omega)) rfl rfl ?_ | refine SL.y (op_convert Tryd.underlying3 Tryd.underlying129 rfl) rfl rfl ?_
    first | refine SL.skip rfl rfl ?_ | refine SL.y (op_shrK rfl rfl (by show _ ≤ 8; omega)) rfl rfl ?_ | refine SL.y (op_shr rfl rfl) rfl rfl ?_
    first | refine SL.skip rfl rfl ?_ | refine SL.y (op_remS (q := 2) rfl rfl rfl (by omega)) rfl rfl ?_ | refine SL.y (op_remN (q := 2) rfl rfl rfl (by decide)) rfl rfl ?_ | refine SL.y (op_rem rfl rfl (by omega) (by omega)) rfl rfl ?_
    first | refine SL.skip rfl rfl ?_ | refine SL.y (op_eqlT rfl rfl (by omega)) rfl rfl ?_ | refine SL.y (op_eqlF rfl rfl (by omega)) rfl rfl ?_ | refine SL.y (op_eql rfl rfl) rfl rfl ?_
    first | refine SL.y (op_pickT rfl rfl) rfl rfl ?_ | refine SL.y (op_pickF rfl rfl) rfl rfl ?_ | refine SL.y (op_pickB rfl rfl rfl) rfl rfl ?_
    refine SL.y (op_assign rfl) rfl rfl ?_
    refine SL.nil ?_
    -- ret
    refine T.ret1 rfl (ResIs.tmp rfl) ?_
    simp [bitB, hl]
end Go.Proofs.YtoheffglppbcbaaDoor
