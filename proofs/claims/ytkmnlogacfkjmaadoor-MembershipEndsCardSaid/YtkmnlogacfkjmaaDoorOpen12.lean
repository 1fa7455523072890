/- The arguments of Membership's laws, opened. -/
import Derived.Test.YtkmnlogacfkjmaaDoorShut
import Derived.Test.YtkmnlogacfkjmaaDoorMk
namespace Go.Proofs.YtkmnlogacfkjmaaDoor
open Go.ChangeShapes Go.WideShapes Go.ChangeAt Go.RowKit Go.Joins Go.Deep
theorem u8_of {z : Int} (h : (Lit.int .u8 z).wf = true) : ∃ b : Nat, z = (b : Int) ∧ b < 256 := by
  simp only [Lit.wf, Bool.and_eq_true, decide_eq_true_eq] at h
  obtain ⟨h1, h2⟩ : (0 : Int) ≤ z ∧ z ≤ 255 := h
  obtain ⟨b, rfl⟩ := Int.eq_ofNat_of_zero_le h1
  exact ⟨b, rfl, by omega⟩
theorem okWide_slice {P : Program} {W : World} {base : Nat} {t e : TypeId} {v : Value} (ht : P.underlying t = some (.slice e)) (h : Value.okWide P W .any base t v) : ∃ A len cap, v = .slice A len cap := by
  simp only [Value.okWide, Cell.okWide, ht] at h
  simp only [Cell.ok, ht] at h
  cases v <;> simp_all
section
variable {H : Type} {enc : TypeId × Value → H} {W : World}
theorem raw_cells : Tryd.prog.cellsOf 50 = 3 := by kernel_rfl
set_option maxRecDepth 100000 in
theorem raw_el {n : Nat} {cs : List Value} {y : DataW H × List MemPlace} (hl : cs.length = 3) (h : DataW.trod enc Tryd.prog W 0 (fun _ => true) true n 50 cs = some y) : ∃ x : Rw, cs = rC x ∧ (x.1 < 256 ∧ x.2.1 < 256 ∧ x.2.2 < 256) := by
  obtain ⟨xs, m, _, rfl, _, hlen, hf⟩ := DataW.trod_struct Tryd.underlying50 h
  match cs, hl with
  | [a, b, c], _ =>
    have f0 : DataW.trod enc Tryd.prog W 0 (fun _ => true) true m 5 (List.take (Tryd.prog.cellsOf 5) (List.drop 0 [a, b, c])) = xs[0]? := hf 0 _ rfl
    have f1 : DataW.trod enc Tryd.prog W 0 (fun _ => true) true m 5 (List.take (Tryd.prog.cellsOf 5) (List.drop 1 [a, b, c])) = xs[1]? := hf 1 _ rfl
    have f2 : DataW.trod enc Tryd.prog W 0 (fun _ => true) true m 5 (List.take (Tryd.prog.cellsOf 5) (List.drop 2 [a, b, c])) = xs[2]? := hf 2 _ rfl
    rw [cells5] at f0 f1 f2
    match xs, hlen with
    | [x0, x1, x2], _ =>
      obtain ⟨za, e0, _, w0⟩ := DataW.trod_int Tryd.underlying5 f0
      obtain ⟨zb, e1, _, w1⟩ := DataW.trod_int Tryd.underlying5 f1
      obtain ⟨zc, e2, _, w2⟩ := DataW.trod_int Tryd.underlying5 f2
      obtain ⟨na, rfl, ha⟩ := u8_of w0
      obtain ⟨nb, rfl, hb⟩ := u8_of w1
      obtain ⟨nc, rfl, hc⟩ := u8_of w2
      refine ⟨(na, nb, nc), ?_, ha, hb, hc⟩
      simp at e0 e1 e2
      subst e0 e1 e2
      rfl
set_option maxRecDepth 100000 in
theorem open_raws {base : Nat} {v : Value} {d : DataW H} {p : List MemPlace} (hval : Value.okWide Tryd.prog W .any base 22 v) (h : DataW.Trod enc Tryd.prog W 0 (fun _ => true) true 22 v d p) : ∃ rs, rawOk rs ∧ RawR (heapX W) v rs := by
  obtain ⟨rs, h1, h2⟩ := open_rows (rc := rC) Tryd.underlying22 raw_cells (by omega) (fun _ => rfl) (fun hl h => raw_el hl h) (okWide_slice Tryd.underlying22 hval) h
  exact ⟨rs, h1, h2⟩
end
end Go.Proofs.YtkmnlogacfkjmaaDoor
