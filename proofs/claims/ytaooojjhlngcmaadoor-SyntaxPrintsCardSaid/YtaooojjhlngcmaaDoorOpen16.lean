/- The arguments of Syntax's laws, opened: nodes. -/
import Derived.Test.YtaooojjhlngcmaaDoorShut
import Derived.Test.YtaooojjhlngcmaaDoorBuild
namespace Go.Proofs.YtaooojjhlngcmaaDoor
open Go.ChangeShapes Go.WideShapes Go.ChangeAt Go.RowKit Go.Joins Go.Deep
theorem u8_of {z : Int} (h : (Lit.int .u8 z).wf = true) : ∃ b : Nat, z = (b : Int) ∧ b < 256 := by
  simp only [Lit.wf, Bool.and_eq_true, decide_eq_true_eq] at h
  obtain ⟨h1, h2⟩ : (0 : Int) ≤ z ∧ z ≤ 255 := h
  obtain ⟨b, rfl⟩ := Int.eq_ofNat_of_zero_le h1
  exact ⟨b, rfl, by omega⟩
theorem okWide_slice {P : Program} {W : World} {base : Nat} {t e : TypeId} {v : Value} (ht : P.underlying t = some (.slice e)) (h : Value.okWide P W .any base t v) : ∃ A len cap, v = .slice A len cap := by
  simp only [Value.okWide, Cell.okWide, ht] at h
  simp only [Cell.ok, ht] at h
  cases v <;> simp_all
section
variable {H : Type} {enc : TypeId × Value → H} {W : World}
theorem node_cells : Tryd.prog.cellsOf 98 = 4 := by kernel_rfl
set_option maxRecDepth 100000 in
theorem node_el {n : Nat} {cs : List Value} {y : DataW H × List MemPlace} (hl : cs.length = 4) (h : DataW.trod enc Tryd.prog W 0 (fun _ => true) true n 98 cs = some y) : ∃ x : Nd, cs = ndC x ∧ ndOk x := by
  obtain ⟨xs, m, _, rfl, _, hlen, hf⟩ := DataW.trod_struct Tryd.underlying98 h
  match cs, hl with
  | [a, b, c, d], _ =>
    have f0 : DataW.trod enc Tryd.prog W 0 (fun _ => true) true m 5 (List.take (Tryd.prog.cellsOf 5) (List.drop 0 [a, b, c, d])) = xs[0]? := hf 0 _ rfl
    have f1 : DataW.trod enc Tryd.prog W 0 (fun _ => true) true m 5 (List.take (Tryd.prog.cellsOf 5) (List.drop 1 [a, b, c, d])) = xs[1]? := hf 1 _ rfl
    have f2 : DataW.trod enc Tryd.prog W 0 (fun _ => true) true m 5 (List.take (Tryd.prog.cellsOf 5) (List.drop 2 [a, b, c, d])) = xs[2]? := hf 2 _ rfl
    have f3 : DataW.trod enc Tryd.prog W 0 (fun _ => true) true m 3 (List.take (Tryd.prog.cellsOf 3) (List.drop 3 [a, b, c, d])) = xs[3]? := hf 3 _ rfl
    rw [cells5] at f0 f1 f2
    rw [show Tryd.prog.cellsOf 3 = 1 by kernel_rfl] at f3
    match xs, hlen with
    | [x0, x1, x2, x3], _ =>
      obtain ⟨za, e0, _, w0⟩ := DataW.trod_int Tryd.underlying5 f0
      obtain ⟨zb, e1, _, w1⟩ := DataW.trod_int Tryd.underlying5 f1
      obtain ⟨zc, e2, _, w2⟩ := DataW.trod_int Tryd.underlying5 f2
      obtain ⟨zd, e3, _, w3⟩ := DataW.trod_int Tryd.underlying3 f3
      obtain ⟨na, rfl, ha⟩ := u8_of w0
      obtain ⟨nb, rfl, hb⟩ := u8_of w1
      obtain ⟨nc, rfl, hc⟩ := u8_of w2
      refine ⟨⟨na, nb, nc, zd⟩, ?_, ha, hb, hc⟩
      simp at e0 e1 e2 e3
      subst e0 e1 e2 e3
      rfl
set_option maxRecDepth 100000 in
theorem open_nodes {base : Nat} {v : Value} {d : DataW H} {p : List MemPlace} (hval : Value.okWide Tryd.prog W .any base 22 v) (h : DataW.Trod enc Tryd.prog W 0 (fun _ => true) true 22 v d p) : ∃ rs : List Nd, (∀ x ∈ rs, ndOk x) ∧ RowR ndC (heapX W) v rs :=
  open_rows (rc := ndC) Tryd.underlying22 node_cells (by omega) (fun _ => rfl) (fun hl h => node_el hl h) (okWide_slice Tryd.underlying22 hval) h
end
end Go.Proofs.YtaooojjhlngcmaaDoor
