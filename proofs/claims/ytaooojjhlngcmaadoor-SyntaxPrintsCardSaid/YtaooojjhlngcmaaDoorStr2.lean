/- Strings of bytes. No program is named here. -/
import Derived.Test.YtaooojjhlngcmaaDoorStrs
import Derived.Laws.IdiomStrings
namespace Go.Proofs.YtaooojjhlngcmaaDoor
open Go.RowKit
section
variable {P : Program} {n : NM} {w0 : Base} {X0 X : PMap} {own : Own} {env : Env}
/-- string(b) of bytes that are known. -/
theorem op_strBytes {src dst e : TypeId} {x : Operand} {a : Addr} {cap : Nat} {l : List UInt8} (hs : P.underlying src = some (.slice e)) (he : P.underlying e = some (.int .u8)) (hd : P.underlying dst = some .string)
    (hx : eev env x = some (.slice (some a) l.length cap)) (hc : ∀ W, Stab own X W → ∀ j (hj : j < l.length), W.cell? (a.add j) = some (.int .u8 (l[j].toNat : Int))) : OpY P n env own X (.convert src dst x) (.string ⟨l.toArray⟩) := by
  intro A W oper hop ha hst
  have hr := run_convert_bytes_back (P := P) W src dst e a cap l hs he hd (hc W hst)
  simp only [execOp, hop, ha.eval hx, Sem.run_bind, Sem.run_pure, Result.andThen_ok, hr]
/-- string([]byte{c}). -/
theorem op_str1 {src dst e ty : TypeId} {x : Operand} {b cap sz j : Nat} {c : UInt8} (hs : P.underlying src = some (.slice e)) (he : P.underlying e = some (.int .u8)) (hd : P.underlying dst = some .string)
    (hx : eev env x = some (.slice (some ⟨b, 0, none⟩) 1 cap)) (ho : AtO own b [.int .u8 (c.toNat : Int)] ty sz j) : OpY P n env own X (.convert src dst x) (.string ⟨#[c]⟩) :=
  op_strBytes (l := [c]) hs he hd hx fun W hst j hj => by
    obtain rfl : j = 0 := by simpa using hj
    exact (hst.own _ ho.mem).cell rfl
end
end Go.Proofs.YtaooojjhlngcmaaDoor
