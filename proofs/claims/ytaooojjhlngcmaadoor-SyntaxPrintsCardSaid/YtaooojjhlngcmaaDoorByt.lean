/- Slices of bytes, wherever they begin. No program is named here. -/
import Derived.Test.YtaooojjhlngcmaaDoorEngine2
namespace Go.Proofs.YtaooojjhlngcmaaDoor
open Go.RowKit
def bytesC (bs : List Nat) : List Value := bs.map fun (b : Nat) => .int .u8 (b : Int)
/-- v is a slice of these bytes, wherever it begins. -/
def BytesR (X : PMap) (v : Value) (bs : List Nat) : Prop :=
  (bs = [] ∧ ∃ A c, v = .slice A 0 c) ∨ (0 < bs.length ∧ ∃ b c pre, v = .slice (some ⟨b, pre.length, none⟩) bs.length c ∧ Blk X b (pre ++ bytesC bs))
theorem BytesR.mono {X X' : PMap} {v : Value} {bs : List Nat} (h : BytesR X v bs) (hX : X.le X') : BytesR X' v bs := by
  rcases h with h | ⟨h0, b, c, pre, hv, hb⟩
  · exact .inl h
  · exact .inr ⟨h0, b, c, pre, hv, hb.mono hX⟩
theorem BytesR.form {X : PMap} {v : Value} {bs : List Nat} (h : BytesR X v bs) : ∃ A cp, v = .slice A bs.length cp := by
  rcases h with ⟨rfl, A, c, rfl⟩ | ⟨h0, b, c, pre, rfl, hb⟩
  · exact ⟨_, _, rfl⟩
  · exact ⟨_, _, rfl⟩
theorem BytesR.blk {X : PMap} {A : Option Addr} {cp len : Nat} {bs : List Nat} (h : BytesR X (.slice A len cp) bs) (h0 : 0 < bs.length) : ∃ b pre, A = some ⟨b, pre.length, none⟩ ∧ Blk X b (pre ++ bytesC bs) := by
  rcases h with ⟨rfl, _⟩ | ⟨_, b, c, pre, hv, hb⟩
  · simp at h0
  · simp only [Value.slice.injEq] at hv
    exact ⟨b, pre, hv.1, hb⟩
theorem cread1k' {cs : List Value} {k k' : Nat} {v : Value} (h : cs[k]? = some v) (e : k' = k) : cread false 1 cs k' = some v := by
  subst e
  simpa [cread] using h
end Go.Proofs.YtaooojjhlngcmaaDoor
