/- SHORT ARRAYS OF BYTES among the arguments: opened; they read the same behind a call. -/
import Derived.Test.YtkmnlogacfkjmaaDoorProg
import Derived.WalkKit
import Derived.OpenShut
import Derived.Lib.SmallJoins
import Derived.Laws.IdiomArrays
namespace Go.Proofs.YtkmnlogacfkjmaaDoor
open Go.ChangeShapes Go.WideShapes Go.ChangeAt Go.RowKit Go.Joins
theorem u8_nat {x : Int} (h : (Lit.int .u8 x).wf = true) : ∃ b : Nat, x = (b : Int) ∧ b < 256 := by
  simp only [Lit.wf, Bool.and_eq_true, decide_eq_true_eq] at h
  obtain ⟨h1, h2⟩ : (0 : Int) ≤ x ∧ x ≤ 255 := h
  obtain ⟨b, rfl⟩ := Int.eq_ofNat_of_zero_le h1
  exact ⟨b, rfl, by omega⟩
theorem okWide_agg {P : Program} {W : World} {base n : Nat} {t e : TypeId} {v : Value} (ht : P.underlying t = some (.array n e)) (h : Value.okWide P W .any base t v) : ∃ cs : Array Value, v = .agg cs ∧ cs.size = P.cellsOf t := by
  simp only [Value.okWide, ht] at h
  obtain ⟨cs, h1, h2, _⟩ := h
  exact ⟨cs, h1, h2⟩
section
variable {H : Type} {enc : TypeId × Value → H} {P : Program} {W : World} {base : Nat} {t e : TypeId} {v : Value} {d : DataW H} {p : List MemPlace}
theorem open_u8x3 (ht : P.underlying t = some (.array 3 e)) (he : P.underlying e = some (.int .u8)) (hce : P.cellsOf e = 1) (hct : P.cellsOf t = 3) (hval : Value.okWide P W .any base t v) (h : DataW.Trod enc P W 0 (fun _ => true) true t v d p) :
    (∃ a b c : Nat, v = .agg #[.int .u8 (a : Int), .int .u8 (b : Int), .int .u8 (c : Int)] ∧ a < 256 ∧ b < 256 ∧ c < 256) ∧ p = [] ∧ ∀ (W' : World) (sp : Nat → Bool), DataW.Trod enc P W' 0 sp true t v d [] := by
  obtain ⟨cs, rfl, hsz⟩ := okWide_agg ht hval
  obtain ⟨c0, c1, c2, rfl⟩ := array3 (hsz.trans hct)
  obtain ⟨fuel, hf⟩ := h
  obtain ⟨y0, y1, y2, n, hx, h0, h1, h2⟩ := trod_array3 ht hce (by simpa [Value.cells] using hf)
  obtain ⟨xa, ea, rfl, wa⟩ := DataW.trod_int he h0
  obtain ⟨xb, eb, rfl, wb⟩ := DataW.trod_int he h1
  obtain ⟨xc, ec, rfl, wc⟩ := DataW.trod_int he h2
  obtain rfl : c0 = .int .u8 xa := by simpa using ea
  obtain rfl : c1 = .int .u8 xb := by simpa using eb
  obtain rfl : c2 = .int .u8 xc := by simpa using ec
  simp only [Prod.mk.injEq] at hx
  obtain ⟨rfl, rfl⟩ := hx
  obtain ⟨a, rfl, ha⟩ := u8_nat wa
  obtain ⟨b, rfl, hb⟩ := u8_nat wb
  obtain ⟨c, rfl, hc⟩ := u8_nat wc
  refine ⟨⟨a, b, c, rfl, ha, hb, hc⟩, rfl, fun W' sp => ⟨2, ?_⟩⟩
  have r3 : List.range 3 = [0, 1, 2] := rfl
  unfold DataW.trod
  rw [ht]
  simp [r3, hce, hct, Value.cells, trod_int_mk (enc := enc) (P := P) 0 he wa, trod_int_mk (enc := enc) (P := P) 0 he wb, trod_int_mk (enc := enc) (P := P) 0 he wc]
theorem trod_array2 {fuel : Nat} {c0 c1 : Value} {x : DataW H × List MemPlace} {sp : Nat → Bool} (ht : P.underlying t = some (.array 2 e)) (hce : P.cellsOf e = 1) (h : DataW.trod enc P W base sp true fuel t [c0, c1] = some x) :
    ∃ y0 y1 n, x = (.agg [y0.1, y1.1], y0.2 ++ y1.2) ∧ DataW.trod enc P W base sp true n e [c0] = some y0 ∧ DataW.trod enc P W base sp true n e [c1] = some y1 := by
  obtain ⟨xs, m, _, rfl, _, hl, hi⟩ := DataW.trod_array ht h
  match xs, hl with
  | [y0, y1], _ =>
    have h0 := hi 0 (by omega)
    have h1 := hi 1 (by omega)
    rw [hce] at h0 h1
    exact ⟨y0, y1, m, by simp, by simpa using h0, by simpa using h1⟩
theorem open_u8x2 (ht : P.underlying t = some (.array 2 e)) (he : P.underlying e = some (.int .u8)) (hce : P.cellsOf e = 1) (hct : P.cellsOf t = 2) (hval : Value.okWide P W .any base t v) (h : DataW.Trod enc P W 0 (fun _ => true) true t v d p) :
    (∃ a b : Nat, v = .agg #[.int .u8 (a : Int), .int .u8 (b : Int)] ∧ a < 256 ∧ b < 256) ∧ p = [] ∧ ∀ (W' : World) (sp : Nat → Bool), DataW.Trod enc P W' 0 sp true t v d [] := by
  obtain ⟨cs, rfl, hsz⟩ := okWide_agg ht hval
  obtain ⟨c0, c1, rfl⟩ := array2 (hsz.trans hct)
  obtain ⟨fuel, hf⟩ := h
  obtain ⟨y0, y1, n, hx, h0, h1⟩ := trod_array2 ht hce (by simpa [Value.cells] using hf)
  obtain ⟨xa, ea, rfl, wa⟩ := DataW.trod_int he h0
  obtain ⟨xb, eb, rfl, wb⟩ := DataW.trod_int he h1
  obtain rfl : c0 = .int .u8 xa := by simpa using ea
  obtain rfl : c1 = .int .u8 xb := by simpa using eb
  simp only [Prod.mk.injEq] at hx
  obtain ⟨rfl, rfl⟩ := hx
  obtain ⟨a, rfl, ha⟩ := u8_nat wa
  obtain ⟨b, rfl, hb⟩ := u8_nat wb
  refine ⟨⟨a, b, rfl, ha, hb⟩, rfl, fun W' sp => ⟨2, ?_⟩⟩
  have r2 : List.range 2 = [0, 1] := rfl
  unfold DataW.trod
  rw [ht]
  simp [r2, hce, hct, Value.cells, trod_int_mk (enc := enc) (P := P) 0 he wa, trod_int_mk (enc := enc) (P := P) 0 he wb]
end
end Go.Proofs.YtkmnlogacfkjmaaDoor
