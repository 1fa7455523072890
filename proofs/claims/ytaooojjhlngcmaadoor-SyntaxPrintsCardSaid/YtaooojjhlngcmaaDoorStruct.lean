/- THE ENGINE: structs of three numbers, held against each other. No program is named here. -/
import Derived.Test.YtaooojjhlngcmaaDoorCopy
namespace Go.Proofs.YtaooojjhlngcmaaDoor
open Go.RowKit
section
variable {P : Program} {n : NM} {own : Own} {X : PMap} {env : Env}
theorem run_eqStruct3 {t e : TypeId} {k : IntKind} {f0 f1 f2 : Field} {a b c a' b' c' : Int} (ht : P.underlying t = some (.struct #[f0, f1, f2])) (he : P.underlying e = some (.int k)) (hs : P.stoodInHeld t = false)
    (n0 : f0.name ≠ "_") (n1 : f1.name ≠ "_") (n2 : f2.name ≠ "_") (t0 : f0.type = e) (t1 : f1.type = e) (t2 : f2.type = e) (o0 : f0.offset = 0) (o1 : f1.offset = 1) (o2 : f2.offset = 2) (W : World) :
    (Op.equal t (.agg #[.int k a, .int k b, .int k c]) (.agg #[.int k a', .int k b', .int k c'])).run P W = .ok (decide (a = a' ∧ b = b' ∧ c = c')) W := by
  have hin : ∀ (m : Nat) (p q : Int), (Op.equalIn (m + 1) e (.int k p) (.int k q)).run P W = .ok (p == q) W := fun m p q => by
    simp [Op.equalIn, run_underlying he]
  have hp0 : ∀ (u v w : Value), (part e #[u, v, w] 0).run P W = .ok u W := fun u v w => by
    simp [part, isAgg_row he W, TypeDesc.isRow]
  have hp1 : ∀ (u v w : Value), (part e #[u, v, w] 1).run P W = .ok v W := fun u v w => by
    simp [part, isAgg_row he W, TypeDesc.isRow]
  have hp2 : ∀ (u v w : Value), (part e #[u, v, w] 2).run P W = .ok w W := fun u v w => by
    simp [part, isAgg_row he W, TypeDesc.isRow]
  show (Op.equalIn (9998 + 1 + 1) t _ _).run P W = _
  rw [Op.equalIn]
  simp [run_underlying ht, hs, n0, n1, n2, t0, t1, t2, o0, o1, o2, hp0, hp1, hp2, hin]
  by_cases h1 : a = a' <;> by_cases h2 : b = b' <;> by_cases h3 : c = c' <;> simp [h1, h2, h3]
theorem op_neqStruct3 {t e t' : TypeId} {x y : Operand} {k : IntKind} {f0 f1 f2 : Field} {a b c a' b' c' : Int} (ht : P.underlying t = some (.struct #[f0, f1, f2])) (he : P.underlying e = some (.int k)) (hs : P.stoodInHeld t = false)
    (n0 : f0.name ≠ "_") (n1 : f1.name ≠ "_") (n2 : f2.name ≠ "_") (t0 : f0.type = e) (t1 : f1.type = e) (t2 : f2.type = e) (o0 : f0.offset = 0) (o1 : f1.offset = 1) (o2 : f2.offset = 2) (hg : P.eqGuardType P.depth t = false)
    (hx : eev env x = some (.agg #[.int k a, .int k b, .int k c])) (hy : eev env y = some (.agg #[.int k a', .int k b', .int k c'])) : OpY P n env own X (.binOp .neq t x y t') (.bool (!decide (a = a' ∧ b = b' ∧ c = c'))) := by
  intro act W oper hop ha _
  have h0 : (eqGuard .neq t x y (.agg #[.int k a, .int k b, .int k c]) (.agg #[.int k a', .int k b', .int k c'])).run P W = .ok () W := by
    simp [eqGuard, hg]
  have h2 := run_eqStruct3 (P := P) (a := a) (b := b) (c := c) (a' := a') (b' := b') (c' := c') ht he hs n0 n1 n2 t0 t1 t2 o0 o1 o2 W
  simp only [execOp, hop, ha.eval hx, ha.eval hy, binOp, h0, Sem.run_bind, Sem.run_pure, Result.andThen_ok, h2]
theorem op_eqlStruct3 {t e t' : TypeId} {x y : Operand} {k : IntKind} {f0 f1 f2 : Field} {a b c a' b' c' : Int} (ht : P.underlying t = some (.struct #[f0, f1, f2])) (he : P.underlying e = some (.int k)) (hs : P.stoodInHeld t = false)
    (n0 : f0.name ≠ "_") (n1 : f1.name ≠ "_") (n2 : f2.name ≠ "_") (t0 : f0.type = e) (t1 : f1.type = e) (t2 : f2.type = e) (o0 : f0.offset = 0) (o1 : f1.offset = 1) (o2 : f2.offset = 2) (hg : P.eqGuardType P.depth t = false)
    (hx : eev env x = some (.agg #[.int k a, .int k b, .int k c])) (hy : eev env y = some (.agg #[.int k a', .int k b', .int k c'])) : OpY P n env own X (.binOp .eql t x y t') (.bool (decide (a = a' ∧ b = b' ∧ c = c'))) := by
  intro act W oper hop ha _
  have h0 : (eqGuard .eql t x y (.agg #[.int k a, .int k b, .int k c]) (.agg #[.int k a', .int k b', .int k c'])).run P W = .ok () W := by
    simp [eqGuard, hg]
  have h2 := run_eqStruct3 (P := P) (a := a) (b := b) (c := c) (a' := a') (b' := b') (c' := c') ht he hs n0 n1 n2 t0 t1 t2 o0 o1 o2 W
  simp only [execOp, hop, ha.eval hx, ha.eval hy, binOp, h0, Sem.run_bind, Sem.run_pure, Result.andThen_ok, h2]
end
theorem SpecO.pubG {P : Program} {f : FuncId} {args : List Value} {X : PMap} {ty : TypeId} {size : Nat} {len : Nat} {cs : List Value} (h : SpecO P f args X fun u own1 _ => GrowS ty size u len cs own1) : Spec P f args X fun u X' => SliceR X' u len cs := fun w hw =>
  (h w hw).mono fun e w' ⟨v, own, X', he, hs, hG⟩ => by
    have hs' : Sat ⟨w, []⟩ X ([] ++ own) X' w' := ⟨by simpa using hs, fun p hp => by cases hp⟩
    obtain ⟨X2, h1, h2, h3⟩ := hs'.pubG hG
    exact ⟨v, X2, he, h3.below, h3.stab.pers, h3.old, h2⟩
end Go.Proofs.YtaooojjhlngcmaaDoor
