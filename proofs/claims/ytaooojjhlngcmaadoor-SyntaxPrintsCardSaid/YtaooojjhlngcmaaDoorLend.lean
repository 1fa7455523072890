/- THE ENGINE: blocks of the caller's own are lent to a call that only reads them. No program is named here. -/
import Derived.Test.YtaooojjhlngcmaaDoorEngine2
namespace Go.Proofs.YtaooojjhlngcmaaDoor
open Go.RowKit
/-- The map with all of the own blocks in it, as they are. -/
def PMap.lent (X : PMap) (own : Own) (W : World) : PMap := fun k => if own.any (fun p => Nat.beq p.b k) then W.heap[k]? else X k
theorem lent_in {X : PMap} {own : Own} {W : World} (h : PIn X W) : PIn (X.lent own W) W := fun k o hk => by
  unfold PMap.lent at hk
  split at hk
  · exact hk
  · exact h k o hk
theorem lent_le {X : PMap} {own : Own} {W : World} (h : PIn X W) : X.le (X.lent own W) := fun k o hk => by
  unfold PMap.lent
  split
  · exact h k o hk
  · exact hk
theorem lent_blk {X : PMap} {own : Own} {W : World} (h : Stab own X W) {p : Ow} (hp : p ∈ own) : Blk (X.lent own W) p.b p.cs := by
  obtain ⟨r, hr, _⟩ := h.own p hp
  refine ⟨r, p.ty, (0, 0), ?_⟩
  unfold PMap.lent
  rw [if_pos (List.any_eq_true.2 ⟨p, hp, Nat.beq_refl _⟩)]
  exact hr
section
variable {ro : Option Nat} {P : Program} {n : NM} {w0 : Base} {X0 X : PMap} {own : Own} {env : Env}
theorem args_all {a : Act} (ha : EOk n env a) : ∀ (xs : List Operand) (vs : List Value), xs.map (eev env) = vs.map some → xs.map a.eval = vs
  | [], vs, h => by cases vs <;> simp_all
  | x :: xs, vs, h => by
    cases vs with
    | nil => simp at h
    | cons v vs =>
      simp only [List.map_cons, List.cons.injEq] at h
      simp [ha.eval h.1, args_all ha xs vs h.2]
/-- A call that reads own blocks and answers what has nothing to do with memory. -/
theorem op_callLend {f : FuncId} {xs : Array Operand} {ts : Array TypeId} {vs : List Value} {Ψ : Value → Prop} (he : Enters P f) (hx : xs.toList.map (eev env) = vs.map some)
    (h : ∀ X1 : PMap, X.le X1 → (∀ p ∈ own, Blk X1 p.b p.cs) → Spec P f vs X1 fun u _ => Ψ u) : OpX P n w0 X0 env own X (.call { callee := .value (.func f), args := xs, argTypes := ts }) true fun v own' X' => own = own' ∧ X = X' ∧ Ψ v := by
  intro a W oper K Q ro hop ha hs hK
  have h1 : xs.map a.eval = vs.toArray := by apply Array.toList_inj.1; simp [args_all ha _ _ hx]
  have hex : (execOp a.eval oper).run P W = .ok (.enter f vs.toArray) W := by
    have hc : a.eval (.func f) = .func (.func f) #[] #[] := ha.eval rfl
    simp only [execOp, hop, resolve, hc, h1, Deferred.ofValue, invoke, Sem.run_bind, Sem.run_pure, Result.andThen_ok]
    simpa using he vs.toArray W
  have hin := lent_in (own := own) hs.stab.pers
  refine wp_enters (noDefer_spec (by rw [hop]; rfl)) hex ((h (X.lent own W) (lent_le hs.stab.pers) (fun p hp => lent_blk hs.stab hp) W hin).mono fun e w' hfin => ?_)
  obtain ⟨v, X', rfl, hb, _, _, hΨ⟩ := hfin
  refine ⟨v, rfl, hK v own X w' ⟨rfl, rfl, hΨ⟩ (hs.call hb ((Grow.of_below hb).pin hs.stab.pers) (fun _ _ => rfl)) fun _ => Grow.of_below hb⟩
/-- A call that reads own blocks and hands over new ones. -/
theorem op_callLendO {f : FuncId} {xs : Array Operand} {ts : Array TypeId} {vs : List Value} {Φ : Value → Own → Prop} (he : Enters P f) (hx : xs.toList.map (eev env) = vs.map some)
    (h : ∀ X1 : PMap, X.le X1 → (∀ p ∈ own, Blk X1 p.b p.cs) → SpecO P f vs X1 fun u own1 _ => Φ u own1) : OpX P n w0 X0 env own X (.call { callee := .value (.func f), args := xs, argTypes := ts }) true fun v own' X' => ∃ own1, own' = own1 ++ own ∧ X = X' ∧ Φ v own1 := by
  intro a W oper K Q ro hop ha hs hK
  have h1 : xs.map a.eval = vs.toArray := by apply Array.toList_inj.1; simp [args_all ha _ _ hx]
  have hex : (execOp a.eval oper).run P W = .ok (.enter f vs.toArray) W := by
    have hc : a.eval (.func f) = .func (.func f) #[] #[] := ha.eval rfl
    simp only [execOp, hop, resolve, hc, h1, Deferred.ofValue, invoke, Sem.run_bind, Sem.run_pure, Result.andThen_ok]
    simpa using he vs.toArray W
  have hin := lent_in (own := own) hs.stab.pers
  refine wp_enters (noDefer_spec (by rw [hop]; rfl)) hex ((h (X.lent own W) (lent_le hs.stab.pers) (fun p hp => lent_blk hs.stab hp) W hin).mono fun e w' hfin => ?_)
  obtain ⟨v, own1, X', rfl, hc, hΦ⟩ := hfin
  have hg := Grow.of_below hc.below
  have hc' : SatC W X own1 X w' := ⟨hc.below, fun _ _ => rfl, ⟨hc.stab.own, hg.pin hs.stab.pers⟩, hc.new, fun p hp => by
    have hn := hc.new p hp
    cases hx : X p.b with
    | none => rfl
    | some o => have := hs.stab.pers.lt hx; omega, hc.nodup⟩
  exact ⟨v, rfl, hK v _ X w' ⟨own1, rfl, rfl, hΦ⟩ (hs.callO hc') fun _ => hg⟩
theorem OpX.mono {o : Op} {g : Bool} {k k' : Value → Own → PMap → Prop} (h : OpX P n w0 X0 env own X o g k) (hk : ∀ v own' X', k v own' X' → k' v own' X') : OpX P n w0 X0 env own X o g k' :=
  fun a W oper K Q ro hop ha hs hK => h a W oper K Q ro hop ha hs fun v own' X' W' hkk => hK v own' X' W' (hk v own' X' hkk)
theorem GrowS.pos {e : TypeId} {size len : Nat} {v : Value} {cs : List Value} {G : Own} (h : GrowS e size v len cs G) (h0 : 0 < len) : ∃ b cap, v = .slice (some ⟨b, 0, none⟩) len cap ∧ G = [⟨b, cs, e, cap * size⟩] ∧ len ≤ cap ∧ cap ≤ maxLen := by
  rcases h with ⟨h1, _⟩ | ⟨b, cap, h1, h2, h3, h4, _⟩
  · omega
  · exact ⟨b, cap, h1, h2, h3, h4⟩
theorem op_eqlN {t t' : TypeId} {x y : Operand} {k : IntKind} {p q : Nat} (hx : eev env x = some (.int k (p : Int))) (hy : eev env y = some (.int k (q : Int))) : OpY P n env own X (.binOp .eql t x y t') (.bool (decide (p = q))) := by
  have h := op_eql (P := P) (n := n) (own := own) (X := X) (t := t) (t' := t') hx hy
  rwa [show decide ((p : Int) = (q : Int)) = decide (p = q) from decide_eq_decide.2 (by omega)] at h
theorem op_neqBS {t t' : TypeId} {x y : Operand} {b : Bool} (ht : P.underlying t = some .bool) (hx : eev env x = some (.bool b)) (hy : eev env y = some (.bool b)) : OpY P n env own X (.binOp .neq t x y t') (.bool false) := by
  have := op_neqB (P := P) (n := n) (own := own) (X := X) (t' := t') ht hx hy
  rwa [show (b != b) = false by cases b <;> rfl] at this
theorem op_eqlBS {t t' : TypeId} {x y : Operand} {b : Bool} (ht : P.underlying t = some .bool) (hx : eev env x = some (.bool b)) (hy : eev env y = some (.bool b)) : OpY P n env own X (.binOp .eql t x y t') (.bool true) := by
  have := op_eqlB (P := P) (n := n) (own := own) (X := X) (t' := t') ht hx hy
  rwa [show (b == b) = true by cases b <;> rfl] at this
end
end Go.Proofs.YtaooojjhlngcmaaDoor
