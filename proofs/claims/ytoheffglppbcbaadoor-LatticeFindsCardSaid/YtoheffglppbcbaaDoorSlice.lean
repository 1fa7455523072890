/- THE ENGINE: slices of slices, nil or not, that are read by append. No program is named here. -/
import Derived.Test.YtoheffglppbcbaaDoorOwn
namespace Go.Proofs.YtoheffglppbcbaaDoor
open Go.RowKit
section
variable {P : Program} {n : NM} {w0 : Base} {X0 X : PMap} {own : Own} {env : Env}
/-- The start of a slice of a slice. -/
def slA (A : Option Addr) (cap l size : Nat) : Option Addr := if cap = l then A else A.map (·.add (l * size))
theorem op_sliceA {t e : TypeId} {x : Operand} {lo hi : Option Operand} {A : Option Addr} {len cap size l h : Nat} {row : Bool} (ht : P.underlying t = some (.slice e)) (he : Ty P e row size) (hx : eev env x = some (.slice A len cap))
    (hl : ∀ q, lo = some q → ∃ k, eev env q = some (.int k (l : Int))) (hl0 : lo = none → l = 0) (hh : ∀ q, hi = some q → ∃ k, eev env q = some (.int k (h : Int))) (hh0 : hi = none → h = len) (h1 : l ≤ h) (h2 : h ≤ cap) :
    OpY P n env own X (.slice t x lo hi none) (.slice (slA A cap l size) (h - l) (cap - l)) := by
  intro a W oper hop ha _
  have hinf := he.info
  have hinf' : ∃ inf, P.info? e = some inf ∧ inf.size = size := by
    cases hq : P.info? e with
    | none => simp [hq] at hinf
    | some inf => exact ⟨inf, rfl, by simpa [hq] using hinf⟩
  obtain ⟨inf, hq, hsz⟩ := hinf'
  have hsl : ∀ (lo' hi' : Option Value), (∀ v, lo' = some v → ∃ k, v = .int k (l : Int)) → (lo' = none → l = 0) → (∀ v, hi' = some v → ∃ k, v = .int k (h : Int)) → (hi' = none → h = len) →
      (Instr.sliceAt t (.slice A len cap) lo' hi' none).run P W = .ok (.slice (slA A cap l size) (h - l) (cap - l)) W := by
    intro lo' hi' a1 a2 a3 a4
    have hb2 : (Instr.sliceBounds true len cap lo' hi' none).run P W = .ok (l, h, cap) W := by
      cases lo' with
      | none =>
        have := a2 rfl
        subst this
        cases hi' with
        | none => have := a4 rfl; subst this; simp [Instr.sliceBounds]
        | some v => obtain ⟨k, rfl⟩ := a3 v rfl; simp [Instr.sliceBounds, Instr.sliceBound, asIntOf, h2]
      | some u =>
        obtain ⟨k', rfl⟩ := a1 u rfl
        cases hi' with
        | none => have := a4 rfl; subst this; simp [Instr.sliceBounds, Instr.sliceBound, asIntOf, h1]
        | some v => obtain ⟨k, rfl⟩ := a3 v rfl; simp [Instr.sliceBounds, Instr.sliceBound, asIntOf, h2, h1]
    simp only [Instr.sliceAt, Sem.run_bind, run_underlying ht, Result.andThen_ok, Instr.slice, hb2, sizeOf, typeInfo, slA]
    by_cases hc : cap = l <;> simp [hc, hq, hsz]
  have := hsl (lo.map a.eval) (hi.map a.eval) (fun v hv => by
      cases lo with
      | none => simp at hv
      | some q => obtain ⟨k, hk⟩ := hl q rfl; simp only [Option.map_some, Option.some.injEq] at hv; exact ⟨k, by rw [← hv, ha.eval hk]⟩)
    (fun hv => hl0 (by cases lo <;> simp_all)) (fun v hv => by
      cases hi with
      | none => simp at hv
      | some q => obtain ⟨k, hk⟩ := hh q rfl; simp only [Option.map_some, Option.some.injEq] at hv; exact ⟨k, by rw [← hv, ha.eval hk]⟩)
    (fun hv => hh0 (by cases hi <;> simp_all))
  simp [execOp, hop, ha.eval hx, this]
theorem op_sliceLo {t e : TypeId} {x y : Operand} {A : Option Addr} {len cap size l : Nat} {row : Bool} {kk : IntKind} (ht : P.underlying t = some (.slice e)) (he : Ty P e row size) (hx : eev env x = some (.slice A len cap))
    (hy : eev env y = some (.int kk (l : Int))) (h1 : l ≤ len) (h2 : len ≤ cap) : OpY P n env own X (.slice t x (some y) none none) (.slice (slA A cap l size) (len - l) (cap - l)) :=
  op_sliceA ht he hx (fun q h => by cases h; exact ⟨kk, hy⟩) (fun h => by cases h) (fun _ h => by cases h) (fun _ => rfl) h1 h2
theorem op_sliceHi {t e : TypeId} {x y : Operand} {A : Option Addr} {len cap size l : Nat} {row : Bool} {kk : IntKind} (ht : P.underlying t = some (.slice e)) (he : Ty P e row size) (hx : eev env x = some (.slice A len cap))
    (hy : eev env y = some (.int kk (l : Int))) (h2 : l ≤ cap) : OpY P n env own X (.slice t x none (some y) none) (.slice (slA A cap 0 size) l cap) := by
  have := op_sliceA (n := n) (own := own) (X := X) (lo := none) (hi := some y) (l := 0) ht he hx (fun _ h => by cases h) (fun _ => rfl) (fun q h => by cases h; exact ⟨kk, hy⟩) (fun h => by cases h) (Nat.zero_le _) h2
  simpa using this
/-- The part of a slice from l on, read. -/
theorem Src.lo {s : Value} {len size l cap : Nat} {A : Option Addr} {cs : List Value} (h : SliceR X s len cs) (hs : s = .slice A len cap) (hc : cs.length = len * size) (h1 : l ≤ len) (h2 : len ≤ cap) : Src own X (.slice (slA A cap l size) (len - l) (cap - l)) (len - l) size (cs.drop (l * size)) := by
  subst hs
  rcases h with ⟨rfl, rfl, _⟩ | ⟨h0, b, c, hv, hb⟩
  · obtain rfl : l = 0 := by omega
    simpa using Src.nil
  · simp only [Value.slice.injEq, true_and] at hv
    obtain ⟨rfl, rfl⟩ := hv
    unfold slA
    by_cases he : cap = l
    · rw [if_pos he]
      have e : len = l := by omega
      rw [e, Nat.sub_self, List.drop_eq_nil_of_le (by rw [hc, e]; exact Nat.le_refl _)]
      exact Src.nil
    · rw [if_neg he]
      have hm : l * size + (len - l) * size = len * size := by rw [← Nat.add_mul]; congr 1; omega
      have := Src.ofExt (own := own) (m := len - l) (c := cap - l) (size := size) (o := l * size) hb (by omega)
      have e2 : (cs.drop (l * size)).take ((len - l) * size) = cs.drop (l * size) := List.take_of_length_le (by simp; omega)
      rw [e2] at this
      show Src own X (.slice (some (Addr.add ⟨b, 0, none⟩ (l * size))) _ _) _ _ _
      rw [Addr.add_mid, Nat.zero_add]
      exact this
/-- The first l elements of a slice, read. -/
theorem Src.hi {s : Value} {len size l cap : Nat} {A : Option Addr} {cs : List Value} (h : SliceR X s len cs) (hs : s = .slice A len cap) (hc : cs.length = len * size) (h1 : l ≤ len) : Src own X (.slice (slA A cap 0 size) l cap) l size (cs.take (l * size)) := by
  subst hs
  have hA : slA A cap 0 size = if cap = 0 then A else A.map (·.add 0) := by simp [slA]
  rcases h with ⟨rfl, rfl, _⟩ | ⟨h0, b, c, hv, hb⟩
  · obtain rfl : l = 0 := by omega
    simpa using Src.nil
  · simp only [Value.slice.injEq, true_and] at hv
    obtain ⟨rfl, rfl⟩ := hv
    have hle : l * size ≤ len * size := Nat.mul_le_mul_right _ h1
    have := Src.ofExt (own := own) (m := l) (c := cap) (size := size) (o := 0) hb (by omega)
    rw [hA]
    split <;> simpa [Addr.add] using this
end
end Go.Proofs.YtoheffglppbcbaaDoor
