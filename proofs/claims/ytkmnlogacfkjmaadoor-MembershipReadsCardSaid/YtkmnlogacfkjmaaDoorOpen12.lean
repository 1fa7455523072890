/- The arguments of Membership's laws, opened. -/
import Derived.Test.YtkmnlogacfkjmaaDoorShut
import Derived.Test.YtkmnlogacfkjmaaDoorMk
import Derived.Test.YtkmnlogacfkjmaaDoorOpenArr
import Derived.Test.YtkmnlogacfkjmaaDoorRead
namespace Go.Proofs.YtkmnlogacfkjmaaDoor
open Go.ChangeShapes Go.WideShapes Go.ChangeAt Go.RowKit Go.Joins Go.Deep
theorem u8_of {z : Int} (h : (Lit.int .u8 z).wf = true) : ∃ b : Nat, z = (b : Int) ∧ b < 256 := by
  simp only [Lit.wf, Bool.and_eq_true, decide_eq_true_eq] at h
  obtain ⟨h1, h2⟩ : (0 : Int) ≤ z ∧ z ≤ 255 := h
  obtain ⟨b, rfl⟩ := Int.eq_ofNat_of_zero_le h1
  exact ⟨b, rfl, by omega⟩
theorem okWide_slice {P : Program} {W : World} {base : Nat} {t e : TypeId} {v : Value} (ht : P.underlying t = some (.slice e)) (h : Value.okWide P W .any base t v) : ∃ A len cap, v = .slice A len cap := by
  simp only [Value.okWide, Cell.okWide, ht] at h
  simp only [Cell.ok, ht] at h
  cases v <;> simp_all
section
variable {H : Type} {enc : TypeId × Value → H} {W : World}
theorem raw_cells : Tryd.prog.cellsOf 50 = 3 := by kernel_rfl
set_option maxRecDepth 100000 in
theorem raw_el {n : Nat} {cs : List Value} {y : DataW H × List MemPlace} (hl : cs.length = 3) (h : DataW.trod enc Tryd.prog W 0 (fun _ => true) true n 50 cs = some y) : ∃ x : Rw, cs = rC x ∧ (x.1 < 256 ∧ x.2.1 < 256 ∧ x.2.2 < 256) := by
  obtain ⟨xs, m, _, rfl, _, hlen, hf⟩ := DataW.trod_struct Tryd.underlying50 h
  match cs, hl with
  | [a, b, c], _ =>
    have f0 : DataW.trod enc Tryd.prog W 0 (fun _ => true) true m 5 (List.take (Tryd.prog.cellsOf 5) (List.drop 0 [a, b, c])) = xs[0]? := hf 0 _ rfl
    have f1 : DataW.trod enc Tryd.prog W 0 (fun _ => true) true m 5 (List.take (Tryd.prog.cellsOf 5) (List.drop 1 [a, b, c])) = xs[1]? := hf 1 _ rfl
    have f2 : DataW.trod enc Tryd.prog W 0 (fun _ => true) true m 5 (List.take (Tryd.prog.cellsOf 5) (List.drop 2 [a, b, c])) = xs[2]? := hf 2 _ rfl
    rw [cells5] at f0 f1 f2
    match xs, hlen with
    | [x0, x1, x2], _ =>
      obtain ⟨za, e0, _, w0⟩ := DataW.trod_int Tryd.underlying5 f0
      obtain ⟨zb, e1, _, w1⟩ := DataW.trod_int Tryd.underlying5 f1
      obtain ⟨zc, e2, _, w2⟩ := DataW.trod_int Tryd.underlying5 f2
      obtain ⟨na, rfl, ha⟩ := u8_of w0
      obtain ⟨nb, rfl, hb⟩ := u8_of w1
      obtain ⟨nc, rfl, hc⟩ := u8_of w2
      refine ⟨(na, nb, nc), ?_, ha, hb, hc⟩
      simp at e0 e1 e2
      subst e0 e1 e2
      rfl
set_option maxRecDepth 100000 in
theorem open_raws {base : Nat} {v : Value} {d : DataW H} {p : List MemPlace} (hval : Value.okWide Tryd.prog W .any base 22 v) (h : DataW.Trod enc Tryd.prog W 0 (fun _ => true) true 22 v d p) : ∃ rs, rawOk rs ∧ RawR (heapX W) v rs := by
  obtain ⟨rs, h1, h2⟩ := open_rows (rc := rC) Tryd.underlying22 raw_cells (by omega) (fun _ => rfl) (fun hl h => raw_el hl h) (okWide_slice Tryd.underlying22 hval) h
  exact ⟨rs, h1, h2.imp id fun ⟨a, b, c, pre, e, hB, _⟩ => ⟨a, b, c, pre, e, hB⟩⟩
theorem okWide_struct {P : Program} {W : World} {base : Nat} {t : TypeId} {fs : Array Field} {v : Value} (ht : P.underlying t = some (.struct fs)) (h : Value.okWide P W .any base t v) : ∃ cs : Array Value, v = .agg cs ∧ cs.size = P.cellsOf t := by
  simp only [Value.okWide, ht] at h
  obtain ⟨cs, h1, h2, _⟩ := h
  exact ⟨cs, h1, h2⟩
set_option maxRecDepth 100000 in
theorem open_raw1 {base : Nat} {v : Value} {d : DataW H} {p : List MemPlace} (hval : Value.okWide Tryd.prog W .any base 50 v) (h : DataW.Trod enc Tryd.prog W 0 (fun _ => true) true 50 v d p) : ∃ x : Rw, v = .agg #[.int .u8 (x.1 : Int), .int .u8 (x.2.1 : Int), .int .u8 (x.2.2 : Int)] ∧ (x.1 < 256 ∧ x.2.1 < 256 ∧ x.2.2 < 256) := by
  obtain ⟨cs, rfl, hsz⟩ := okWide_struct Tryd.underlying50 hval
  obtain ⟨fuel, hf⟩ := h
  obtain ⟨x, hx, ho⟩ := raw_el (cs := cs.toList) (by simp [hsz, raw_cells]) (by simpa [Value.cells] using hf)
  refine ⟨x, ?_, ho⟩
  congr 1
  apply Array.ext'
  exact hx
theorem cells_int : Tryd.prog.cellsOf 3 = 1 := by kernel_rfl
theorem cells_pair : Tryd.prog.cellsOf 68 = 2 := by kernel_rfl
set_option maxRecDepth 100000 in
theorem open_pair {base : Nat} {v : Value} {d : DataW H} {p : List MemPlace} (hval : Value.okWide Tryd.prog W .any base 68 v) (h : DataW.Trod enc Tryd.prog W 0 (fun _ => true) true 68 v d p) : ∃ a b : Int, v = .agg #[.int .i64 a, .int .i64 b] := by
  obtain ⟨cs, rfl, hsz⟩ := okWide_agg Tryd.underlying68 hval
  obtain ⟨c0, c1, rfl⟩ := array2 (hsz.trans cells_pair)
  obtain ⟨fuel, hf⟩ := h
  obtain ⟨y0, y1, n, hx, h0, h1⟩ := trod_array2 Tryd.underlying68 cells_int (by simpa [Value.cells] using hf)
  obtain ⟨xa, ea, _, wa⟩ := DataW.trod_int Tryd.underlying3 h0
  obtain ⟨xb, eb, _, wb⟩ := DataW.trod_int Tryd.underlying3 h1
  obtain rfl : c0 = .int .i64 xa := by simpa using ea
  obtain rfl : c1 = .int .i64 xb := by simpa using eb
  exact ⟨_, _, rfl⟩
theorem cells_spot : Tryd.prog.cellsOf 80 = 2 := by kernel_rfl
set_option maxRecDepth 100000 in
theorem open_spot {base : Nat} {v : Value} {d : DataW H} {p : List MemPlace} (hval : Value.okWide Tryd.prog W .any base 80 v) (h : DataW.Trod enc Tryd.prog W 0 (fun _ => true) true 80 v d p) : ∃ a b : Nat, v = .agg #[.int .u8 (a : Int), .int .u8 (b : Int)] ∧ a < 256 ∧ b < 256 :=
  (open_u8x2 Tryd.underlying80 Tryd.underlying5 cells5 cells_spot hval h).1
theorem u8_flat : ∀ bs : List Nat, (bs.map fun (b : Nat) => [Value.int .u8 (b : Int)]).flatten = bytesC bs
  | [] => rfl
  | b :: bs => by rw [List.map_cons, List.flatten_cons, u8_flat bs]; rfl
set_option maxRecDepth 100000 in
theorem u8_el {n : Nat} {cs : List Value} {y : DataW H × List MemPlace} (h : DataW.trod enc Tryd.prog W 0 (fun _ => true) true n 5 cs = some y) : ∃ b : Nat, cs = [.int .u8 (b : Int)] ∧ b < 256 := by
  obtain ⟨z, e, _, w⟩ := DataW.trod_int Tryd.underlying5 h
  obtain ⟨b, rfl, hb⟩ := u8_of w
  exact ⟨b, e, hb⟩
set_option maxRecDepth 100000 in
theorem open_bytes {base : Nat} {v : Value} {d : DataW H} {p : List MemPlace} (hval : Value.okWide Tryd.prog W .any base 77 v) (h : DataW.Trod enc Tryd.prog W 0 (fun _ => true) true 77 v d p) : ∃ bs, CutR (heapX W) v bs := by
  obtain ⟨rs, h1, h2⟩ := open_rows (rc := fun b : Nat => [.int .u8 (b : Int)]) (ok := fun b => b < 256) Tryd.underlying77 cells5 (by omega) (fun _ => rfl) (fun _ h => u8_el h) (okWide_slice Tryd.underlying77 hval) h
  have hw := okWide_slice Tryd.underlying77 hval
  rcases h2 with ⟨rfl, A, c, rfl⟩ | ⟨h0, b, c, pre, rfl, hB, hc, _⟩
  · exact ⟨[], .inl ⟨rfl, _, _, rfl⟩, ⟨_, _, rfl, by simp⟩, fun _ h => by cases h⟩
  · rw [u8_flat] at hB
    exact ⟨rs, .inr ⟨h0, b, c, pre, rfl, hB⟩, ⟨_, _, rfl, hc⟩, h1⟩
end
end Go.Proofs.YtkmnlogacfkjmaaDoor
