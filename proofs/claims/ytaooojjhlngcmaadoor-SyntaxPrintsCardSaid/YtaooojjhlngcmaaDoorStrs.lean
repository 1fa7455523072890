/- Strings: joined, compared; their order. No program is named here. -/
import Derived.Test.YtaooojjhlngcmaaDoorEngine2
import Derived.Laws.Strings
namespace Go.Proofs.YtaooojjhlngcmaaDoor
open Go.RowKit
section
variable {P : Program} {n : NM} {own : Own} {X : PMap} {env : Env} {t t' : TypeId} {x y : Operand} {s s' : ByteArray}
theorem str_ext {a b : ByteArray} (h : a.toList = b.toList) : a = b := by
  rw [ByteArray.toList_eq, ByteArray.toList_eq] at h
  exact ByteArray.ext (Array.toList_inj.mp h)
theorem str_beq : (s.toList == s'.toList) = decide (s = s') := by
  rw [Bool.eq_iff_iff, beq_iff_eq, decide_eq_true_eq]
  exact ⟨str_ext, fun h => by rw [h]⟩
theorem op_addStr (hx : eev env x = some (.string s)) (hy : eev env y = some (.string s')) (h : s.size + s'.size ≤ 9223372036854775807) : OpY P n env own X (.binOp .add t x y t') (.string (s ++ s')) := by
  intro a W oper hop ha _
  have h0 : ∀ (e : BinOp) (u v : Operand), eqGuard e t u v (.string s) (.string s') = pure () := fun e u v => by cases e <;> rfl
  have h1 : ¬(((s.size + s'.size : Nat) : Int) > IntKind.i64.max) := by
    have : IntKind.i64.max = 9223372036854775807 := rfl
    omega
  have h2 : (Op.stringOp .add s s').run P W = .ok (.string (s ++ s')) W := by simp only [Op.stringOp, if_neg h1, Sem.run_pure]
  simp only [execOp, hop, ha.eval hx, ha.eval hy, binOp, h0, Sem.run_bind, Sem.run_pure, Result.andThen_ok, h2]
theorem op_lssStr (hx : eev env x = some (.string s)) (hy : eev env y = some (.string s')) : OpY P n env own X (.binOp .lss t x y t') (.bool (Op.bytesLess s.toList s'.toList)) := by
  intro a W oper hop ha _
  have h0 : ∀ (e : BinOp) (u v : Operand), eqGuard e t u v (.string s) (.string s') = pure () := fun e u v => by cases e <;> rfl
  have h2 : (Op.stringOp .lss s s').run P W = .ok (.bool (Op.bytesLess s.toList s'.toList)) W := by simp [Op.stringOp]
  simp only [execOp, hop, ha.eval hx, ha.eval hy, binOp, h0, Sem.run_bind, Sem.run_pure, Result.andThen_ok, h2]
theorem op_eqlStrD (hx : eev env x = some (.string s)) (hy : eev env y = some (.string s')) : OpY P n env own X (.binOp .eql t x y t') (.bool (decide (s = s'))) := by
  intro a W oper hop ha _
  have h0 : ∀ (e : BinOp) (u v : Operand), eqGuard e t u v (.string s) (.string s') = pure () := fun e u v => by cases e <;> rfl
  have h2 : (Op.stringOp .eql s s').run P W = .ok (.bool (decide (s = s'))) W := by simp [Op.stringOp, str_beq]
  simp only [execOp, hop, ha.eval hx, ha.eval hy, binOp, h0, Sem.run_bind, Sem.run_pure, Result.andThen_ok, h2]
theorem op_neqStrD (hx : eev env x = some (.string s)) (hy : eev env y = some (.string s')) : OpY P n env own X (.binOp .neq t x y t') (.bool (!decide (s = s'))) := by
  intro a W oper hop ha _
  have h0 : ∀ (e : BinOp) (u v : Operand), eqGuard e t u v (.string s) (.string s') = pure () := fun e u v => by cases e <;> rfl
  have h2 : (Op.stringOp .neq s s').run P W = .ok (.bool (!decide (s = s'))) W := by simp [Op.stringOp, str_beq]
  simp only [execOp, hop, ha.eval hx, ha.eval hy, binOp, h0, Sem.run_bind, Sem.run_pure, Result.andThen_ok, h2]
theorem op_neqStrT (hx : eev env x = some (.string s)) (hy : eev env y = some (.string s)) : OpY P n env own X (.binOp .neq t x y t') (.bool false) := by
  have := op_neqStrD (P := P) (n := n) (own := own) (X := X) (t := t) (t' := t') hx hy
  rwa [decide_eq_true rfl, Bool.not_true] at this
end
noncomputable instance memDec (s : ByteArray) (l : List ByteArray) : Decidable (s ∈ l) := Classical.propDecidable _
/-- The order of strings. -/
def ltS (a b : ByteArray) : Bool := Op.bytesLess a.toList b.toList
theorem bl_irr : ∀ a : List UInt8, Op.bytesLess a a = false
  | [] => rfl
  | x :: a => by simp [Op.bytesLess, bl_irr a]
theorem bl_tot : ∀ a b : List UInt8, Op.bytesLess a b = false → Op.bytesLess b a = false → a = b
  | [], [], _, _ => rfl
  | [], _ :: _, h, _ => by simp [Op.bytesLess] at h
  | _ :: _, [], _, h => by simp [Op.bytesLess] at h
  | x :: a, y :: b, h1, h2 => by
    simp only [Op.bytesLess, Bool.or_eq_false_iff, decide_eq_false_iff_not, Bool.and_eq_false_iff, beq_eq_false_iff_ne] at h1 h2
    have e : x = y := UInt8.toNat_inj.1 (by
      have := mt UInt8.lt_iff_toNat_lt.2 h1.1
      have := mt UInt8.lt_iff_toNat_lt.2 h2.1
      omega)
    subst e
    rw [bl_tot a b (by simpa using h1.2) (by simpa using h2.2)]
theorem bl_trans : ∀ a b c : List UInt8, Op.bytesLess a b = true → Op.bytesLess b c = true → Op.bytesLess a c = true
  | _, _, [], _, h => by simp [Op.bytesLess] at h
  | _, [], _ :: _, h, _ => by simp [Op.bytesLess] at h
  | [], _ :: _, _ :: _, _, _ => by simp [Op.bytesLess]
  | x :: a, y :: b, z :: c, h1, h2 => by
    simp only [Op.bytesLess, Bool.or_eq_true, decide_eq_true_eq, Bool.and_eq_true, beq_iff_eq] at h1 h2 ⊢
    rcases h1 with h1 | ⟨rfl, h1⟩
    · rcases h2 with h2 | ⟨rfl, _⟩
      · left
        have := UInt8.lt_iff_toNat_lt.1 h1
        have := UInt8.lt_iff_toNat_lt.1 h2
        exact UInt8.lt_iff_toNat_lt.2 (by omega)
      · exact .inl h1
    · rcases h2 with h2 | ⟨rfl, h2⟩
      · exact .inl h2
      · exact .inr ⟨rfl, bl_trans a b c h1 h2⟩
theorem lt_irr (a : ByteArray) : ltS a a = false := bl_irr _
theorem lt_tot {a b : ByteArray} (h1 : ltS a b = false) (h2 : ltS b a = false) : a = b := str_ext (bl_tot _ _ h1 h2)
theorem lt_trans' {a b c : ByteArray} (h1 : ltS a b = true) (h2 : ltS b c = true) : ltS a c = true := bl_trans _ _ _ h1 h2
theorem lt_asym {a b : ByteArray} (h : ltS a b = true) : ltS b a = false := by
  cases h2 : ltS b a with
  | false => rfl
  | true => have := lt_trans' h h2; rw [lt_irr] at this; cases this
/-- Not below is transitive. -/
theorem le_trans' {a b c : ByteArray} (h1 : ltS b a = false) (h2 : ltS c b = false) : ltS c a = false := by
  cases h : ltS c a with
  | false => rfl
  | true =>
    cases h3 : ltS a b with
    | true => have := lt_trans' h h3; rw [h2] at this; cases this
    | false =>
      obtain rfl := lt_tot h3 h1
      rw [h] at h2; cases h2
/-- Ascending, the same one after the other not shut out. -/
def AscS (l : List ByteArray) : Prop := l.Pairwise fun a b => ltS b a = false
/-- One behind the other, the same left out. -/
def compactS : List ByteArray → List ByteArray
  | [] => []
  | [a] => [a]
  | a :: b :: l => if a = b then compactS (b :: l) else a :: compactS (b :: l)
theorem compact_len : ∀ l : List ByteArray, (compactS l).length ≤ l.length
  | [] => by simp [compactS]
  | [a] => by simp [compactS]
  | a :: b :: l => by
    have := compact_len (b :: l)
    rw [compactS]
    split
    · simp only [List.length_cons] at this ⊢; omega
    · simp only [List.length_cons] at this ⊢; omega
/-- Fewer exactly if one stands there twice. -/
theorem compact_nodup : ∀ {l : List ByteArray}, AscS l → ((compactS l).length = l.length ↔ l.Nodup)
  | [], _ => by simp [compactS]
  | [a], _ => by simp [compactS]
  | a :: b :: l, h => by
    have h0 := h
    rw [AscS, List.pairwise_cons] at h
    have ih := compact_nodup (l := b :: l) h.2
    have hl := compact_len (b :: l)
    rw [compactS]
    by_cases e : a = b
    · subst e
      rw [if_pos rfl]
      constructor
      · intro hh; simp only [List.length_cons] at hh hl; omega
      · intro hh; simp at hh
    · rw [if_neg e]
      rw [List.length_cons, List.length_cons, Nat.succ_inj, ih, List.nodup_cons (a := a)]
      constructor
      · intro hh
        refine ⟨fun hm => ?_, hh⟩
        rcases List.mem_cons.1 hm with rfl | hm
        · exact e rfl
        · have h1 := h.1 b (by simp)
          have h2 := h.2
          rw [List.pairwise_cons] at h2
          have h3 := h2.1 a hm
          exact e (lt_tot h3 h1)
      · exact fun hh => hh.2
end Go.Proofs.YtaooojjhlngcmaaDoor
