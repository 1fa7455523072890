/- Calls among the arguments, opened. -/
import Derived.Test.YtkmnlogacfkjmaaDoorOpen12
import Derived.Test.YtkmnlogacfkjmaaDoorPlays
namespace Go.Proofs.YtkmnlogacfkjmaaDoor
open Go.ChangeShapes Go.WideShapes Go.ChangeAt Go.RowKit Go.Joins Go.Deep
section
variable {H : Type} {enc : TypeId × Value → H} {W : World}
theorem cal_cells : Tryd.prog.cellsOf 61 = 5 := by kernel_rfl
theorem cells_i16 : Tryd.prog.cellsOf 59 = 1 := by kernel_rfl
theorem cells_bool : Tryd.prog.cellsOf 4 = 1 := by kernel_rfl
set_option maxRecDepth 100000 in
theorem cal_el {n : Nat} {cs : List Value} {y : DataW H × List MemPlace} (hl : cs.length = 5) (h : DataW.trod enc Tryd.prog W 0 (fun _ => true) true n 61 cs = some y) : ∃ x : Cal, cs = calC x ∧ calOk x := by
  obtain ⟨xs, m, _, rfl, _, hlen, hf⟩ := DataW.trod_struct Tryd.underlying61 h
  match cs, hl with
  | [a, b, c, d, e], _ =>
    have f0 : DataW.trod enc Tryd.prog W 0 (fun _ => true) true m 5 (List.take (Tryd.prog.cellsOf 5) (List.drop 0 [a, b, c, d, e])) = xs[0]? := hf 0 _ rfl
    have f1 : DataW.trod enc Tryd.prog W 0 (fun _ => true) true m 5 (List.take (Tryd.prog.cellsOf 5) (List.drop 1 [a, b, c, d, e])) = xs[1]? := hf 1 _ rfl
    have f2 : DataW.trod enc Tryd.prog W 0 (fun _ => true) true m 5 (List.take (Tryd.prog.cellsOf 5) (List.drop 2 [a, b, c, d, e])) = xs[2]? := hf 2 _ rfl
    have f3 : DataW.trod enc Tryd.prog W 0 (fun _ => true) true m 59 (List.take (Tryd.prog.cellsOf 59) (List.drop 3 [a, b, c, d, e])) = xs[3]? := hf 3 _ rfl
    have f4 : DataW.trod enc Tryd.prog W 0 (fun _ => true) true m 4 (List.take (Tryd.prog.cellsOf 4) (List.drop 4 [a, b, c, d, e])) = xs[4]? := hf 4 _ rfl
    rw [cells5] at f0 f1 f2
    rw [cells_i16] at f3
    rw [cells_bool] at f4
    match xs, hlen with
    | [x0, x1, x2, x3, x4], _ =>
      obtain ⟨za, e0, _, w0⟩ := DataW.trod_int Tryd.underlying5 f0
      obtain ⟨zb, e1, _, w1⟩ := DataW.trod_int Tryd.underlying5 f1
      obtain ⟨zc, e2, _, w2⟩ := DataW.trod_int Tryd.underlying5 f2
      obtain ⟨zd, e3, _, w3⟩ := DataW.trod_int Tryd.underlying59 f3
      obtain ⟨ze, e4, _⟩ := DataW.trod_bool Tryd.underlying4 f4
      obtain ⟨na, rfl, ha⟩ := u8_of w0
      obtain ⟨nb, rfl, hb⟩ := u8_of w1
      obtain ⟨nc, rfl, hc⟩ := u8_of w2
      simp only [Lit.wf, Bool.and_eq_true, decide_eq_true_eq] at w3
      obtain ⟨l3, u3⟩ : (-32768 : Int) ≤ zd ∧ zd ≤ 32767 := w3
      refine ⟨⟨na, nb, nc, zd, ze⟩, ?_, ha, hb, hc, l3, u3⟩
      simp at e0 e1 e2 e3 e4
      subst e0 e1 e2 e3 e4
      rfl
set_option maxRecDepth 100000 in
theorem open_calls {base : Nat} {v : Value} {d : DataW H} {p : List MemPlace} (hval : Value.okWide Tryd.prog W .any base 58 v) (h : DataW.Trod enc Tryd.prog W 0 (fun _ => true) true 58 v d p) : ∃ rs, (∀ c ∈ rs, calOk c) ∧ RowR calC (heapX W) v rs :=
  open_rows (rc := calC) Tryd.underlying58 cal_cells (by omega) (fun _ => rfl) (fun hl h => cal_el hl h) (okWide_slice Tryd.underlying58 hval) h
end
end Go.Proofs.YtkmnlogacfkjmaaDoor
