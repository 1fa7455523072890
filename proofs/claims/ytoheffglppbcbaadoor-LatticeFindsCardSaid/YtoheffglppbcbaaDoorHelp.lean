/- THE ENGINE, last part: how the facts on types and functions are laid; small forms of some operations. No program is named here. -/
import Derived.Test.YtoheffglppbcbaaDoorMem3
namespace Go.Proofs.YtoheffglppbcbaaDoor
open Go.RowKit

section
variable {P : Program}
theorem zero_of {t : TypeId} {zs : List Value} (h : (P.info? t).map (fun i => i.zero.map fun z => z.cells) = some (some zs.toArray)) : ∃ i z, P.info? t = some i ∧ i.zero = some z ∧ z.cells = zs.toArray := by
  cases hi : P.info? t with
  | none => simp [hi] at h
  | some i =>
    cases hz : i.zero with
    | none => simp [hi, hz] at h
    | some z => exact ⟨i, z, rfl, hz, by simpa [hi, hz] using h⟩
theorem bs_of {e : TypeId} {size : Nat} {zs : List Value} (h : (P.info? e).map (fun i => (i.size, i.zero.map fun z => z.cells)) = some (size, some zs.toArray)) : ∃ i z, P.info? e = some i ∧ i.size = size ∧ i.zero = some z ∧ z.cells = zs.toArray := by
  cases hi : P.info? e with
  | none => simp [hi] at h
  | some i =>
    cases hz : i.zero with
    | none => simp [hi, hz] at h
    | some z =>
      simp only [hi, Option.map_some, hz, Option.some.injEq, Prod.mk.injEq] at h
      exact ⟨i, z, rfl, h.1, hz, h.2⟩
theorem mk_of {e : TypeId} {bytes : Nat} {z : Value} (h : (P.info? e).map (fun i => (i.size, i.bytes, i.zero)) = some (1, bytes, some z)) : ∃ i, P.info? e = some i ∧ i.size = 1 ∧ i.bytes = bytes ∧ i.zero = some z := by
  cases hi : P.info? e with
  | none => simp [hi] at h
  | some i =>
    simp only [hi, Option.map_some, Option.some.injEq, Prod.mk.injEq] at h
    exact ⟨i, rfl, h.1, h.2.1, h.2.2⟩
theorem sl_of {e : TypeId} {size bytes : Nat} (h : (P.info? e).map (fun i => (i.size, i.bytes, i.zero.map fun z => z.cells.size)) = some (size, bytes, some size)) (h0 : 0 < size) : ∃ i z, P.info? e = some i ∧ i.size = size ∧ i.bytes = bytes ∧ i.zero = some z ∧ z.cells.size = size ∧ 0 < size := by
  cases hi : P.info? e with
  | none => simp [hi] at h
  | some i =>
    cases hz : i.zero with
    | none => simp [hi, hz] at h
    | some z =>
      simp only [hi, Option.map_some, hz, Option.some.injEq, Prod.mk.injEq] at h
      exact ⟨i, z, rfl, h.1, h.2.1, hz, h.2.2, h0⟩
theorem fadr_mk {s : TypeId} {f off : Nat} {fields : Array Field} {fl : Field} (h1 : P.underlying s = some (.struct fields)) (h2 : fields[f]? = some fl) (h3 : fl.offset = off) (h4 : (P.info? fl.type).map (fun i => Nat.beq i.size 0) = some false) : FAdr P s f off := by
  cases hi : P.info? fl.type with
  | none => simp [hi] at h4
  | some i =>
    simp only [hi, Option.map_some, Option.some.injEq] at h4
    exact ⟨⟨fields, fl, i, h1, h2, h3, hi, Nat.ne_of_beq_eq_false h4⟩⟩
theorem enters_mk {f : FuncId} {fn : Func} (hf : P.funcs[f]? = some fn) (hn : (fn.name == "runtime.NumGoroutine") = false) (hb : fn.body.isNone = false) : Enters P f := by
  intro args W
  simp only [callFunc, program, Sem.run_bind, Sem.run, Result.andThen_ok, hf]
  rw [if_neg (by rw [hn]; simp), if_neg (by rw [hb]; simp)]
  rfl

variable {n : NM} {X : PMap} {own : Own} {env : Env} {t t' : TypeId} {x y : Operand} {k : IntKind}
theorem op_quoN {p q : Nat} {q' : Int} (hx : eev env x = some (.int .i64 (p : Int))) (hy : eev env y = some (.int .i64 q')) (hq' : q' = Int.ofNat q) (h1 : p ≤ 9223372036854775807) (hq : 0 < q) : OpY P n env own X (.binOp .quo t x y t') (.int .i64 ((p / q : Nat) : Int)) := by
  subst hq'
  have hy' : eev env y = some (.int .i64 (q : Int)) := hy
  have := op_quo (P := P) (n := n) (own := own) (X := X) (t := t) (t' := t') hx hy' (by omega) (by omega) (by omega)
  simpa using this
theorem op_remN {p q : Nat} {q' : Int} (hx : eev env x = some (.int k (p : Int))) (hy : eev env y = some (.int k q')) (hq' : q' = Int.ofNat q) (hq : 0 < q) : OpY P n env own X (.binOp .rem t x y t') (.int k ((p % q : Nat) : Int)) := by
  subst hq'
  have hy' : eev env y = some (.int k (q : Int)) := hy
  have := op_rem (P := P) (n := n) (own := own) (X := X) (t := t) (t' := t') hx hy' (by omega) (by omega)
  simpa using this
theorem op_maxN {p q : Nat} {ts : Array TypeId} (hx : eev env x = some (.int k (p : Int))) (hy : eev env y = some (.int k (q : Int))) : OpY P n env own X (.call { callee := .builtin .max, args := #[x, y], argTypes := ts }) (.int k ((max p q : Nat) : Int)) :=
  op_max hx hy (by split <;> omega)
theorem op_minN {p q : Nat} {ts : Array TypeId} (hx : eev env x = some (.int k (p : Int))) (hy : eev env y = some (.int k (q : Int))) : OpY P n env own X (.call { callee := .builtin .min, args := #[x, y], argTypes := ts }) (.int k ((min p q : Nat) : Int)) :=
  op_min hx hy (by split <;> omega)
theorem op_maxL {p q : Int} {ts : Array TypeId} (hx : eev env x = some (.int k p)) (hy : eev env y = some (.int k q)) (h : q ≤ p) : OpY P n env own X (.call { callee := .builtin .max, args := #[x, y], argTypes := ts }) (.int k p) := op_max hx hy (if_neg (by omega))
theorem op_maxR {p q : Int} {ts : Array TypeId} (hx : eev env x = some (.int k p)) (hy : eev env y = some (.int k q)) (h : p ≤ q) : OpY P n env own X (.call { callee := .builtin .max, args := #[x, y], argTypes := ts }) (.int k q) := op_max hx hy (by split <;> omega)
theorem op_minL {p q : Int} {ts : Array TypeId} (hx : eev env x = some (.int k p)) (hy : eev env y = some (.int k q)) (h : p ≤ q) : OpY P n env own X (.call { callee := .builtin .min, args := #[x, y], argTypes := ts }) (.int k p) := op_min hx hy (if_neg (by omega))
theorem op_minR {p q : Int} {ts : Array TypeId} (hx : eev env x = some (.int k p)) (hy : eev env y = some (.int k q)) (h : q ≤ p) : OpY P n env own X (.call { callee := .builtin .min, args := #[x, y], argTypes := ts }) (.int k q) := op_min hx hy (by split <;> omega)
end

/-- The slots that are named here hold what they are said to hold. -/
inductive Sub (env : Env) : Env → Prop
  | nil : Sub env []
  | cons {t : Nat} {v : Value} {r : Env} : eget env t = some v → Sub env r → Sub env ((t, v) :: r)
theorem Sub.get {env env' : Env} (h : Sub env env') : ∀ t v, eget env' t = some v → eget env t = some v := by
  induction h with
  | nil => intro t v h; cases h
  | cons h _ ih =>
    intro t v hv
    simp only [eget] at hv
    rename_i t0 v0 r0 _
    cases hb : Nat.beq t0 t with
    | true =>
      rw [hb] at hv
      simp only [cond_true, Option.some.injEq] at hv
      rw [← Nat.eq_of_beq_eq_true hb, ← hv]; exact h
    | false => rw [hb] at hv; exact ih t v hv
end Go.Proofs.YtoheffglppbcbaaDoor
