/- THE ENGINE, fourth part: one lemma for each kind of operation. No program is named here. -/
import Derived.Test.YtoheffglppbcbaaDoorRun
namespace Go.Proofs.YtoheffglppbcbaaDoor
open Go.RowKit

section
variable {P : Program} {n : NM} {w0 : Base} {X0 X : PMap} {own : Own} {env : Env}

/-! ## values -/
theorem op_move {x : Operand} {v : Value} (hx : eev env x = some v) : OpY P n env own X (.move x) v := by
  intro a W oper ho ha _
  simp [execOp, ho, ha.eval hx]
theorem op_assign {x : Operand} {v : Value} (hx : eev env x = some v) : OpY P n env own X (.assign x) v := by
  intro a W oper ho ha _
  simp [execOp, ho, ha.eval hx]
theorem op_pickT {c x y : Operand} {v : Value} (hc : eev env c = some (.bool true)) (hx : eev env x = some v) : OpY P n env own X (.pick c x y) v := by
  intro a W oper ho ha _
  simp [execOp, ho, ha.eval hc, ha.eval hx, asBool]
theorem op_pickF {c x y : Operand} {v : Value} (hc : eev env c = some (.bool false)) (hy : eev env y = some v) : OpY P n env own X (.pick c x y) v := by
  intro a W oper ho ha _
  simp [execOp, ho, ha.eval hc, ha.eval hy, asBool]
theorem op_pickB {c x y : Operand} {b p q : Bool} (hc : eev env c = some (.bool b)) (hx : eev env x = some (.bool p)) (hy : eev env y = some (.bool q)) : OpY P n env own X (.pick c x y) (.bool (bif b then p else q)) := by
  cases b
  · exact op_pickF hc hy
  · exact op_pickT hc hx
theorem op_extract {x : Operand} {i : Nat} {vs : Array Value} {v : Value} (hx : eev env x = some (.tuple vs)) (hi : vs[i]? = some v) : OpY P n env own X (.extract x i) v := by
  intro a W oper ho ha _
  simp [execOp, ho, ha.eval hx, Instr.extract, hi]
theorem op_not {x : Operand} {ty : TypeId} {b : Bool} (hx : eev env x = some (.bool b)) : OpY P n env own X (.unOp .not ty x) (.bool (!b)) := by
  intro a W oper ho ha _
  simp [execOp, ho, ha.eval hx, Op.unary]
theorem op_nil {x : Operand} {a0 : Addr} (hx : eev env x = some (.pointer (some a0))) : OpY P n env own X (.nilCheck x) (.pointer (some a0)) := by
  intro a W oper ho ha _
  simp [execOp, ho, ha.eval hx]
theorem op_nilFn {x : Operand} {f : FuncId} {fs cs : Array Value} (hx : eev env x = some (.func (.func f) fs cs)) : OpY P n env own X (.nilCheck x) (.func (.func f) fs cs) := by
  intro a W oper ho ha _
  simp [execOp, ho, ha.eval hx]
theorem op_makeFunc {fn : Fn} {fs cs : Array Operand} {vs us : List Value} (hf : fs.toList.map (eev env) = vs.map some) (hc : cs.toList.map (eev env) = us.map some) : OpY P n env own X (.makeFunc fn fs cs) (.func fn vs.toArray us.toArray) := by
  intro a W oper ho ha _
  have all : ∀ (xs : List Operand) (vs : List Value), xs.map (eev env) = vs.map some → xs.map a.eval = vs := by
    intro xs
    induction xs with
    | nil => intro vs h; cases vs <;> simp_all
    | cons x xs ih =>
      intro vs h
      cases vs with
      | nil => simp at h
      | cons v vs =>
        simp only [List.map_cons, List.cons.injEq] at h
        simp [ha.eval h.1, ih vs h.2]
  have h1 : fs.map a.eval = vs.toArray := by apply Array.toList_inj.1; simp [all _ _ hf]
  have h2 : cs.map a.eval = us.toArray := by apply Array.toList_inj.1; simp [all _ _ hc]
  simp [execOp, ho, Instr.makeFunc, h1, h2]

/-! ## comparisons of integers, and of bools -/
section
variable {t t' : TypeId} {x y : Operand} {k : IntKind} {p q : Int}
theorem op_cmp {op : BinOp} {b : Bool} (hx : eev env x = some (.int k p)) (hy : eev env y = some (.int k q)) (hb : Op.intCmp op p q = pure (.bool b)) (ho : op = .lss ∨ op = .leq ∨ op = .gtr ∨ op = .geq ∨ op = .eql ∨ op = .neq) : OpY P n env own X (.binOp op t x y t') (.bool b) := by
  intro a W oper hop ha _
  rcases ho with rfl | rfl | rfl | rfl | rfl | rfl <;> simp [execOp, hop, ha.eval hx, ha.eval hy, binOp, hb, eqGuard]
theorem op_lss (hx : eev env x = some (.int k p)) (hy : eev env y = some (.int k q)) : OpY P n env own X (.binOp .lss t x y t') (.bool (decide (p < q))) := op_cmp hx hy rfl (by simp)
theorem op_lssT (hx : eev env x = some (.int k p)) (hy : eev env y = some (.int k q)) (h : p < q) : OpY P n env own X (.binOp .lss t x y t') (.bool true) := by have := op_lss (P := P) (n := n) (own := own) (X := X) (t := t) (t' := t') hx hy; rwa [decide_eq_true h] at this
theorem op_lssF (hx : eev env x = some (.int k p)) (hy : eev env y = some (.int k q)) (h : q ≤ p) : OpY P n env own X (.binOp .lss t x y t') (.bool false) := by have := op_lss (P := P) (n := n) (own := own) (X := X) (t := t) (t' := t') hx hy; rwa [decide_eq_false (by omega)] at this
theorem op_leq (hx : eev env x = some (.int k p)) (hy : eev env y = some (.int k q)) : OpY P n env own X (.binOp .leq t x y t') (.bool (decide (p ≤ q))) := op_cmp hx hy rfl (by simp)
theorem op_leqT (hx : eev env x = some (.int k p)) (hy : eev env y = some (.int k q)) (h : p ≤ q) : OpY P n env own X (.binOp .leq t x y t') (.bool true) := by have := op_leq (P := P) (n := n) (own := own) (X := X) (t := t) (t' := t') hx hy; rwa [decide_eq_true h] at this
theorem op_leqF (hx : eev env x = some (.int k p)) (hy : eev env y = some (.int k q)) (h : q < p) : OpY P n env own X (.binOp .leq t x y t') (.bool false) := by have := op_leq (P := P) (n := n) (own := own) (X := X) (t := t) (t' := t') hx hy; rwa [decide_eq_false (by omega)] at this
theorem op_gtr (hx : eev env x = some (.int k p)) (hy : eev env y = some (.int k q)) : OpY P n env own X (.binOp .gtr t x y t') (.bool (decide (q < p))) := op_cmp hx hy rfl (by simp)
theorem op_gtrT (hx : eev env x = some (.int k p)) (hy : eev env y = some (.int k q)) (h : q < p) : OpY P n env own X (.binOp .gtr t x y t') (.bool true) := by have := op_gtr (P := P) (n := n) (own := own) (X := X) (t := t) (t' := t') hx hy; rwa [decide_eq_true h] at this
theorem op_gtrF (hx : eev env x = some (.int k p)) (hy : eev env y = some (.int k q)) (h : p ≤ q) : OpY P n env own X (.binOp .gtr t x y t') (.bool false) := by have := op_gtr (P := P) (n := n) (own := own) (X := X) (t := t) (t' := t') hx hy; rwa [decide_eq_false (by omega)] at this
theorem op_geq (hx : eev env x = some (.int k p)) (hy : eev env y = some (.int k q)) : OpY P n env own X (.binOp .geq t x y t') (.bool (decide (q ≤ p))) := op_cmp hx hy rfl (by simp)
theorem op_geqT (hx : eev env x = some (.int k p)) (hy : eev env y = some (.int k q)) (h : q ≤ p) : OpY P n env own X (.binOp .geq t x y t') (.bool true) := by have := op_geq (P := P) (n := n) (own := own) (X := X) (t := t) (t' := t') hx hy; rwa [decide_eq_true h] at this
theorem op_geqF (hx : eev env x = some (.int k p)) (hy : eev env y = some (.int k q)) (h : p < q) : OpY P n env own X (.binOp .geq t x y t') (.bool false) := by have := op_geq (P := P) (n := n) (own := own) (X := X) (t := t) (t' := t') hx hy; rwa [decide_eq_false (by omega)] at this
theorem op_eql (hx : eev env x = some (.int k p)) (hy : eev env y = some (.int k q)) : OpY P n env own X (.binOp .eql t x y t') (.bool (decide (p = q))) := op_cmp hx hy (by simp [Op.intCmp]; rfl) (by simp)
theorem op_eqlT (hx : eev env x = some (.int k p)) (hy : eev env y = some (.int k q)) (h : p = q) : OpY P n env own X (.binOp .eql t x y t') (.bool true) := by have := op_eql (P := P) (n := n) (own := own) (X := X) (t := t) (t' := t') hx hy; rwa [decide_eq_true h] at this
theorem op_eqlF (hx : eev env x = some (.int k p)) (hy : eev env y = some (.int k q)) (h : p ≠ q) : OpY P n env own X (.binOp .eql t x y t') (.bool false) := by have := op_eql (P := P) (n := n) (own := own) (X := X) (t := t) (t' := t') hx hy; rwa [decide_eq_false h] at this
theorem op_neq (hx : eev env x = some (.int k p)) (hy : eev env y = some (.int k q)) : OpY P n env own X (.binOp .neq t x y t') (.bool (decide (p ≠ q))) := op_cmp hx hy (by simp [Op.intCmp, bne]; rfl) (by simp)
theorem op_neqT (hx : eev env x = some (.int k p)) (hy : eev env y = some (.int k q)) (h : p ≠ q) : OpY P n env own X (.binOp .neq t x y t') (.bool true) := by have := op_neq (P := P) (n := n) (own := own) (X := X) (t := t) (t' := t') hx hy; rwa [decide_eq_true h] at this
theorem op_neqF (hx : eev env x = some (.int k p)) (hy : eev env y = some (.int k q)) (h : p = q) : OpY P n env own X (.binOp .neq t x y t') (.bool false) := by have := op_neq (P := P) (n := n) (own := own) (X := X) (t := t) (t' := t') hx hy; rwa [decide_eq_false (by simpa using h)] at this
theorem run_equalB {b c : Bool} (ht : P.underlying t = some .bool) (W : World) : (Op.equal t (.bool b) (.bool c)).run P W = .ok (b == c) W := by
  have h : ∀ d : Nat, (Op.equalIn (d + 1) t (.bool b) (.bool c)).run P W = .ok (b == c) W := fun d => by
    simp [Op.equalIn, run_underlying ht]
  exact h 9999
theorem op_eqlB {b c : Bool} (ht : P.underlying t = some .bool) (hx : eev env x = some (.bool b)) (hy : eev env y = some (.bool c)) : OpY P n env own X (.binOp .eql t x y t') (.bool (b == c)) := by
  intro a W oper hop ha _
  have h0 : ∀ (e : BinOp) (u v : Operand), eqGuard e t u v (.bool b) (.bool c) = pure () := fun e u v => by cases e <;> rfl
  simp only [execOp, hop, ha.eval hx, ha.eval hy, binOp, h0, Sem.run_bind, Sem.run_pure, Result.andThen_ok, run_equalB ht]
theorem op_neqB {b c : Bool} (ht : P.underlying t = some .bool) (hx : eev env x = some (.bool b)) (hy : eev env y = some (.bool c)) : OpY P n env own X (.binOp .neq t x y t') (.bool (b != c)) := by
  intro a W oper hop ha _
  have h0 : ∀ (e : BinOp) (u v : Operand), eqGuard e t u v (.bool b) (.bool c) = pure () := fun e u v => by cases e <;> rfl
  simp only [execOp, hop, ha.eval hx, ha.eval hy, binOp, h0, Sem.run_bind, Sem.run_pure, Result.andThen_ok, run_equalB ht, bne]
/-- A pointer, a slice held against nil. -/
theorem run_equalPtrNil {e : TypeId} (ht : P.underlying t = some (.pointer e)) (o : Option Addr) (W : World) : (Op.equal t (.pointer o) (.pointer none)).run P W = .ok o.isNone W := by
  have h : ∀ d : Nat, (Op.equalIn (d + 1) t (.pointer o) (.pointer none)).run P W = .ok o.isNone W := fun d => by
    cases o <;> simp [Op.equalIn, run_underlying ht]
  exact h 9999
theorem op_eqlNil {e : TypeId} {o : Option Addr} (ht : P.underlying t = some (.pointer e)) (hx : eev env x = some (.pointer o)) (hy : eev env y = some (.pointer none)) : OpY P n env own X (.binOp .eql t x y t') (.bool o.isNone) := by
  intro a W oper hop ha _
  have h0 : ∀ (e : BinOp) (u v : Operand), eqGuard e t u v (.pointer o) (.pointer none) = pure () := fun e u v => by cases e <;> rfl
  simp only [execOp, hop, ha.eval hx, ha.eval hy, binOp, h0, Sem.run_bind, Sem.run_pure, Result.andThen_ok, run_equalPtrNil ht]
theorem op_neqNil {e : TypeId} {o : Option Addr} (ht : P.underlying t = some (.pointer e)) (hx : eev env x = some (.pointer o)) (hy : eev env y = some (.pointer none)) : OpY P n env own X (.binOp .neq t x y t') (.bool (!o.isNone)) := by
  intro a W oper hop ha _
  have h0 : ∀ (e : BinOp) (u v : Operand), eqGuard e t u v (.pointer o) (.pointer none) = pure () := fun e u v => by cases e <;> rfl
  simp only [execOp, hop, ha.eval hx, ha.eval hy, binOp, h0, Sem.run_bind, Sem.run_pure, Result.andThen_ok, run_equalPtrNil ht]
theorem run_equalSliceNil {e : TypeId} (ht : P.underlying t = some (.slice e)) (o : Option Addr) (l c l' c' : Nat) (W : World) : (Op.equal t (.slice o l c) (.slice none l' c')).run P W = .ok o.isNone W := by
  have h : ∀ d : Nat, (Op.equalIn (d + 1) t (.slice o l c) (.slice none l' c')).run P W = .ok o.isNone W := fun d => by
    cases o <;> simp [Op.equalIn, run_underlying ht]
  exact h 9999
theorem op_eqlSNil {e : TypeId} {o : Option Addr} {l c l' c' : Nat} (ht : P.underlying t = some (.slice e)) (hx : eev env x = some (.slice o l c)) (hy : eev env y = some (.slice none l' c')) : OpY P n env own X (.binOp .eql t x y t') (.bool o.isNone) := by
  intro a W oper hop ha _
  have h0 : ∀ (e : BinOp) (u v : Operand), eqGuard e t u v (.slice o l c) (.slice none l' c') = pure () := fun e u v => by cases e <;> rfl
  simp only [execOp, hop, ha.eval hx, ha.eval hy, binOp, h0, Sem.run_bind, Sem.run_pure, Result.andThen_ok, run_equalSliceNil ht]

/-! ## arithmetic -/
theorem op_arith {op : BinOp} {r : Int} (hx : eev env x = some (.int k p)) (hy : eev env y = some (.int k q)) (ho : op = .add ∧ r = p + q ∨ op = .sub ∧ r = p - q ∨ op = .mul ∧ r = p * q) : OpY P n env own X (.binOp op t x y t') (.int k (k.wrap r)) := by
  intro a W oper hop ha _
  rcases ho with ⟨rfl, rfl⟩ | ⟨rfl, rfl⟩ | ⟨rfl, rfl⟩ <;> simp [execOp, hop, ha.eval hx, ha.eval hy, binOp, eqGuard, Op.intArith]
theorem op_addW (hx : eev env x = some (.int k p)) (hy : eev env y = some (.int k q)) : OpY P n env own X (.binOp .add t x y t') (.int k (k.wrap (p + q))) := op_arith hx hy (by simp)
theorem op_subW (hx : eev env x = some (.int k p)) (hy : eev env y = some (.int k q)) : OpY P n env own X (.binOp .sub t x y t') (.int k (k.wrap (p - q))) := op_arith hx hy (by simp)
theorem op_mulW (hx : eev env x = some (.int k p)) (hy : eev env y = some (.int k q)) : OpY P n env own X (.binOp .mul t x y t') (.int k (k.wrap (p * q))) := op_arith hx hy (by simp)
theorem wrap_i64_in {r : Int} (h1 : -9223372036854775808 ≤ r) (h2 : r ≤ 9223372036854775807) : IntKind.i64.wrap r = r := IntWalk.i64_in r ⟨h1, h2⟩
theorem op_add (hx : eev env x = some (.int .i64 p)) (hy : eev env y = some (.int .i64 q)) (h1 : -9223372036854775808 ≤ p + q) (h2 : p + q ≤ 9223372036854775807) : OpY P n env own X (.binOp .add t x y t') (.int .i64 (p + q)) := by
  have := op_addW (P := P) (n := n) (own := own) (X := X) (t := t) (t' := t') hx hy; rwa [wrap_i64_in h1 h2] at this
theorem op_sub (hx : eev env x = some (.int .i64 p)) (hy : eev env y = some (.int .i64 q)) (h1 : -9223372036854775808 ≤ p - q) (h2 : p - q ≤ 9223372036854775807) : OpY P n env own X (.binOp .sub t x y t') (.int .i64 (p - q)) := by
  have := op_subW (P := P) (n := n) (own := own) (X := X) (t := t) (t' := t') hx hy; rwa [wrap_i64_in h1 h2] at this
theorem op_mul (hx : eev env x = some (.int .i64 p)) (hy : eev env y = some (.int .i64 q)) (h1 : -9223372036854775808 ≤ p * q) (h2 : p * q ≤ 9223372036854775807) : OpY P n env own X (.binOp .mul t x y t') (.int .i64 (p * q)) := by
  have := op_mulW (P := P) (n := n) (own := own) (X := X) (t := t) (t' := t') hx hy; rwa [wrap_i64_in h1 h2] at this
/-- 'i++' of a counter. -/
theorem op_inc {i : Nat} (hx : eev env x = some (.int .i64 (i : Int))) (hy : eev env y = some (.int .i64 1)) (h2 : i < 9223372036854775807) : OpY P n env own X (.binOp .add t x y t') (.int .i64 ((i + 1 : Nat) : Int)) := by
  have := op_add (P := P) (n := n) (own := own) (X := X) (t := t) (t' := t') hx hy (by omega) (by omega)
  exact this
theorem op_quo (hx : eev env x = some (.int .i64 p)) (hy : eev env y = some (.int .i64 q)) (h0 : 0 ≤ p) (h1 : p ≤ 9223372036854775807) (hq : 0 < q) : OpY P n env own X (.binOp .quo t x y t') (.int .i64 (p / q)) := by
  intro a W oper hop ha _
  have e : p.tdiv q = p / q := Int.tdiv_eq_ediv_of_nonneg h0
  have hl : p / q ≤ p := Int.ediv_le_self _ h0
  have h3 : 0 ≤ p / q := Int.ediv_nonneg h0 (by omega)
  simp [execOp, hop, ha.eval hx, ha.eval hy, binOp, eqGuard, Op.intDiv, show q ≠ 0 by omega, e, wrap_i64_in (show -9223372036854775808 ≤ p / q by omega) (by omega)]
theorem op_rem (hx : eev env x = some (.int k p)) (hy : eev env y = some (.int k q)) (h0 : 0 ≤ p) (hq : q ≠ 0) : OpY P n env own X (.binOp .rem t x y t') (.int k (p % q)) := by
  intro a W oper hop ha _
  have e : p.tmod q = p % q := Int.tmod_eq_emod_of_nonneg h0
  simp [execOp, hop, ha.eval hx, ha.eval hy, binOp, eqGuard, Op.intDiv, hq, e]
end
end
end Go.Proofs.YtoheffglppbcbaaDoor
