/- Expressions in memory. -/
import Derived.Test.YtaooojjhlngcmaaDoorEx
import Derived.Test.YtaooojjhlngcmaaDoorRows2
import Derived.Test.YtaooojjhlngcmaaDoorStrs
namespace Go.Proofs.YtaooojjhlngcmaaDoor
open Go.RowKit
def strC (s : ByteArray) : List Value := [.string s]
theorem strC_len (s : ByteArray) : (strC s).length = 1 := rfl
abbrev Row4 := Value × Value × Value × Value
def rc4 (r : Row4) : List Value := [r.1, r.2.1, r.2.2.1, r.2.2.2]
theorem rc4_len (r : Row4) : (rc4 r).length = 4 := rfl
/-- The four fields of an expression whose operator is of kind k. -/
inductive ExR (k : IntKind) (X : PMap) : Ex → Row4 → Prop
  | mk {op : Nat} {n : Int} {ns : List ByteArray} {al : List Ex} {vn va : Value} {rows : List Row4} (hn : RowR strC X vn ns) (ha : RowR rc4 X va rows) (hl : rows.length = al.length)
      (hr : ∀ (i : Nat) (a : Ex) (r : Row4), al[i]? = some a → rows[i]? = some r → ExR k X a r) : ExR k X (.mk op n ns al) (.int k (op : Int), .int .i64 n, vn, va)
theorem ExR.mono {k : IntKind} {X X' : PMap} {e : Ex} {r : Row4} (h : ExR k X e r) (hX : X.le X') : ExR k X' e r := by
  induction h with
  | mk hn ha hl hr ih => exact .mk (hn.mono hX) (ha.mono hX) hl ih
theorem ExR.form {k : IntKind} {X : PMap} {e : Ex} {r : Row4} (h : ExR k X e r) : ∃ (o : Nat) (n : Int) (A B : Option Addr) (l c l' c' : Nat), r = (.int k (o : Int), .int .i64 n, .slice A l c, .slice B l' c') := by
  cases h with
  | mk hn ha hl hr =>
    obtain ⟨A, c, rfl⟩ := hn.form
    obtain ⟨B, c', rfl⟩ := ha.form
    exact ⟨_, _, _, _, _, _, _, _, rfl⟩
theorem RowR.ofG {α : Type} {rc : α → List Value} {X : PMap} {e : TypeId} {size : Nat} {v : Value} {rs : List α} {G : Own} (hg : GrowS e size v rs.length (rs.map rc).flatten G) (h : SliceR X v rs.length (rs.map rc).flatten) : RowR rc X v rs := by
  rcases h with ⟨h0, _, A, c, rfl⟩ | ⟨h0, b, c, rfl, hB⟩
  · exact .inl ⟨List.eq_nil_of_length_eq_zero h0, _, _, rfl⟩
  · rcases hg with ⟨h1, _⟩ | ⟨b', cap, hv, _, h2, h3, _⟩
    · omega
    · simp only [Value.slice.injEq] at hv
      exact .inr ⟨h0, b, c, [], rfl, by simpa using hB, by omega, by omega⟩
theorem strs_flat : ∀ l : List ByteArray, (l.map strC).flatten = l.map Value.string
  | [] => rfl
  | s :: l => by rw [List.map_cons, List.flatten_cons, strs_flat l]; rfl
/-- A name of a list, read. -/
theorem str_read {pre : List Value} {ns : List ByteArray} {i k' : Nat} {s : ByteArray} (h : ns[i]? = some s) (e : k' = pre.length + i * 1) : cread false 1 (pre ++ (ns.map strC).flatten) k' = some (.string s) :=
  row_cell (sz := 1) (j := 0) strC_len h rfl (by omega)
end Go.Proofs.YtaooojjhlngcmaaDoor
