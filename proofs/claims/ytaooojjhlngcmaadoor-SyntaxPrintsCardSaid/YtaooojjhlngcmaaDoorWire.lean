/- Package wire: the writer. -/
import Derived.Test.YtaooojjhlngcmaaDoorByt
import Derived.Test.YtaooojjhlngcmaaDoorCut
import Derived.Test.YtaooojjhlngcmaaDoorFacts
import Derived.Test.YtaooojjhlngcmaaDoorRef1
namespace Go.Proofs.YtaooojjhlngcmaaDoor
open Go.RowKit
set_option maxRecDepth 20000 in
theorem u8_or128 : ∀ p : _root_.Fin 128, bits .or .u8 (p.val : Int) 128 = ((128 + p.val : Nat) : Int) := by decide
set_option maxRecDepth 20000 in
theorem u8_and127 : ∀ p : _root_.Fin 256, bits .and .u8 (p.val : Int) 127 = ((p.val % 128 : Nat) : Int) := by decide
section
variable {ro : Option Nat} {P : Program} {n : NM} {w0 : Base} {X0 X : PMap} {own : Own} {env : Env} {t t' : TypeId} {x y : Operand}
theorem op_or128 {p : Nat} (hx : eev env x = some (.int .u8 (p : Int))) (hy : eev env y = some (.int .u8 128)) (h : p < 128) : OpY P n env own X (.binOp .or t x y t') (.int .u8 ((128 + p : Nat) : Int)) := op_bits hx hy (by simp) (u8_or128 ⟨p, h⟩)
theorem op_and127 {p : Nat} (hx : eev env x = some (.int .u8 (p : Int))) (hy : eev env y = some (.int .u8 127)) (h : p < 256) : OpY P n env own X (.binOp .and t x y t') (.int .u8 ((p % 128 : Nat) : Int)) := op_bits hx hy (by simp) (u8_and127 ⟨p, h⟩)
theorem op_and127L {p : Nat} (hx : eev env x = some (.int .u64 (p : Int))) (hy : eev env y = some (.int .u64 127)) (h : p < 18446744073709551616) : OpY P n env own X (.binOp .and t x y t') (.int .u64 ((p % 128 : Nat) : Int)) := by
  have := op_and (P := P) (n := n) (own := own) (X := X) (t := t) (t' := t') (q := 127) hx hy h (by omega)
  rwa [show p &&& 127 = p % 128 from Nat.and_two_pow_sub_one_eq_mod p 7] at this
/-- append of a slice onto what has grown. -/
theorem op_appendGM {e : TypeId} {s : Operand} {v u : Value} {len m size bytes : Nat} {cs news : List Value} {own0 G : Own} (ht : SlT P t e size bytes) (hs : eev env s = some v) (hg : GrowS e size v len cs G) (hx : eev env x = some u)
    (hsrc : Src (own0 ++ G) X u m size news) (hm : 0 < m) (h1 : ∀ y ∈ news, y.oneCell' = true) (hlen : len + m ≤ maxLen) (hby : (len + m) * bytes ≤ 140737488355328) :
    OpX P n w0 X0 env (own0 ++ G) X (.call { callee := .builtin .append, args := #[s, x], argTypes := #[t, t] }) false fun v' own' X' => ∃ G', own' = own0 ++ G' ∧ X = X' ∧ GrowS e size v' (len + m) (cs ++ news) G' := by
  have hnl := hsrc.1
  rcases hg with ⟨rfl, rfl, rfl, rfl⟩ | ⟨b, cap, rfl, rfl, hlc, hcm, hcl⟩
  · refine (op_appendNil (m := m) (news := news) ht hs hx hsrc hm h1 (by simpa using hlen) (by simpa using hby)).weaken ?_
    rintro v' own' X' ⟨b', cap', rfl, rfl, rfl, hc1, hc2⟩
    refine ⟨own0 ++ [⟨b', news, e, cap' * size⟩], ⟨b', news, e, cap' * size⟩ :: own0, ⟨_, rfl, rfl, .inr ⟨b', cap', by simp, by simp, by omega, hc2, by simp [hnl]⟩⟩, ?_, (List.perm_append_singleton ..).symm⟩
    rw [List.append_nil]
    exact List.Sublist.refl _
  · refine (op_append (m := m) (news := news) (j := own0.length + 0) ht hs hx ((AtO.here (l := []) (b := b) (cs := cs) (ty := e) (sz := cap * size)).append own0) rfl hcl hlc hcm hsrc h1 hlen hby).weaken ?_
    rintro v' own' X' ⟨b', cap', rfl, rfl, rfl, hc1, hc2⟩
    refine ⟨own0 ++ [⟨b', cs ++ news, e, cap' * size⟩], _, ⟨_, rfl, rfl, .inr ⟨b', cap', rfl, rfl, hc1, hc2, by simp [hcl, hnl, Nat.add_mul]⟩⟩, ?_, .refl _⟩
    have e1 : (own0 ++ [(⟨b, cs, e, cap * size⟩ : Ow)]).set (own0.length + 0) ⟨b', cs ++ news, e, cap' * size⟩ = own0 ++ [⟨b', cs ++ news, e, cap' * size⟩] := by
      simp
    rw [e1]
    exact List.Sublist.refl _
end
theorem bytesC_append (l m : List Nat) : bytesC (l ++ m) = bytesC l ++ bytesC m := by simp [bytesC]
theorem bytesC_len (l : List Nat) : (bytesC l).length = l.length := by simp [bytesC]
theorem bytesC_one (l : List Nat) : ∀ y ∈ bytesC l, y.oneCell' = true := fun y hy => by
  simp only [bytesC, List.mem_map] at hy
  obtain ⟨b, _, rfl⟩ := hy; rfl
theorem bytesC_at {l : List Nat} {i b : Nat} (h : l[i]? = some b) : (bytesC l)[i]? = some (.int .u8 (b : Int)) := by simp [bytesC, h]
theorem Src.ofBytes {own : Own} {X : PMap} {v : Value} {bs : List Nat} (h : BytesR X v bs) : Src own X v bs.length 1 (bytesC bs) := by
  rcases h with ⟨rfl, A, c, rfl⟩ | ⟨h0, b, c, pre, rfl, hb⟩
  · exact Src.nil
  · have := Src.ofExt (own := own) (m := bs.length) (c := c) (size := 1) (o := pre.length) hb (by rw [List.length_append, bytesC_len]; omega)
    rwa [List.drop_left, List.take_of_length_le (by rw [bytesC_len]; omega)] at this
theorem BytesR.ofS {X : PMap} {v : Value} {bs : List Nat} (h : SliceR X v bs.length (bytesC bs)) : BytesR X v bs := by
  rcases h with ⟨h1, _, A, c, rfl⟩ | ⟨h0, b, c, rfl, hb⟩
  · have : bs = [] := List.eq_nil_of_length_eq_zero h1
    subst this
    exact .inl ⟨rfl, _, _, rfl⟩
  · exact .inr ⟨h0, b, c, [], rfl, hb⟩
/-- The groups of a number, the last one ahead. -/
def numHi (n : Nat) : List Nat := if n = 0 then [] else numHi (n / 128) ++ [128 + n % 128]
termination_by n
decreasing_by omega
def numB (n : Nat) : List Nat := numHi (n / 128) ++ [n % 128]
theorem numHi_zero : numHi 0 = [] := by rw [numHi]; rfl
theorem numHi_pos {n : Nat} (h : n ≠ 0) : numHi n = numHi (n / 128) ++ [128 + n % 128] := by rw [numHi, if_neg h]
theorem numHi_len : ∀ (k n : Nat), n < 128 ^ k → (numHi n).length ≤ k
  | 0, n, h => by
    have : n = 0 := by simpa using h
    subst this; rw [numHi_zero]; simp
  | k + 1, n, h => by
    by_cases h0 : n = 0
    · subst h0; rw [numHi_zero]; simp
    · rw [numHi_pos h0, List.length_append]
      have := numHi_len k (n / 128) (by rw [Nat.pow_succ] at h; exact Nat.div_lt_of_lt_mul (by rw [Nat.mul_comm]; exact h))
      simp; omega
theorem numB_len {n : Nat} (h : n < 18446744073709551616) : (numB n).length ≤ 10 := by
  have := numHi_len 9 (n / 128) (by omega)
  rw [numB, List.length_append]; simp; omega
theorem numB_pos (n : Nat) : 0 < (numB n).length := by rw [numB, List.length_append]; simp
theorem bset {l : List Nat} {i b : Nat} : (bytesC l).set i (.int .u8 (b : Int)) = bytesC (l.set i b) := by simp [bytesC, List.map_set]
/-- Of these bytes, those before i and those behind j have changed places. -/
def RevI (l m : List Nat) (i j : Nat) : Prop := m.length = l.length ∧ ∀ q, q < l.length → m[q]? = if q < i ∨ j < q then l[l.length - 1 - q]? else l[q]?
theorem RevI.fin {l m : List Nat} {i j : Nat} (h : RevI l m i j) (hij : i + j = l.length - 1) (hi : j ≤ i) : m = l.reverse := by
  apply List.ext_getElem?
  intro q
  rcases Nat.lt_or_ge q l.length with hq | hq
  · rw [h.2 q hq, List.getElem?_reverse hq]
    split
    · rfl
    · have : l.length - 1 - q = q := by omega
      rw [this]
  · rw [List.getElem?_eq_none (by rw [h.1]; omega), List.getElem?_eq_none (by simpa using hq)]
theorem RevI.step {l m : List Nat} {i j x y : Nat} (h : RevI l m i j) (hij : i + j = l.length - 1) (hi : i < j) (h0 : 0 < l.length) (hx : m[i]? = some x) (hy : m[j]? = some y) : RevI l ((m.set i y).set j x) (i + 1) (j - 1) := by
  refine ⟨by simp [h.1], fun q hq => ?_⟩
  have hml := h.1
  have ex : l[i]? = some x := by have := h.2 i (by omega); rw [if_neg (by omega), hx] at this; exact this.symm
  have ey : l[j]? = some y := by have := h.2 j (by omega); rw [if_neg (by omega), hy] at this; exact this.symm
  by_cases e1 : j = q
  · subst e1
    rw [List.getElem?_set_self (by simp; omega), if_pos (by omega), show l.length - 1 - j = i by omega, ex]
  · rw [List.getElem?_set_ne e1]
    by_cases e2 : i = q
    · subst e2
      rw [List.getElem?_set_self (by omega), if_pos (by omega), show l.length - 1 - i = j by omega, ey]
    · rw [List.getElem?_set_ne e2, h.2 q hq]
      by_cases hc : q < i ∨ j < q
      · rw [if_pos hc, if_pos (by omega)]
      · rw [if_neg hc, if_neg (by omega)]
end Go.Proofs.YtaooojjhlngcmaaDoor
