/- FROM A CONTRACT TO A STATEMENT: what the arguments hold, read again behind the call; the tables; the witness. -/
import Derived.Test.YtoheffglppbcbaaDoorLimits
import Derived.Test.YtoheffglppbcbaaDoorCards
import Derived.Test.YtoheffglppbcbaaDoorTie
import Derived.WalkKit
import Derived.ProofKit
import Derived.OpenShut
import Derived.Deep.DeepHandedRow
import Derived.Deep.Slices
import Derived.Lib.LaidTab
import Derived.Lib.SmallJoins
import Derived.Stop.LaidErr
namespace Go.Proofs.YtoheffglppbcbaaDoor
open Go.ChangeShapes Go.WideShapes Go.ChangeAt Go.RowKit Go.Joins
/-- All blocks of a world. -/
def heapX (W : World) : PMap := fun k => W.heap[k]?
theorem heapX_in (W : World) : PIn (heapX W) W := fun _ _ h => h
theorem blk_of_cells {W : World} {b o : Nat} {cs : List Value} (h0 : 0 < cs.length) (h : ∀ i v, cs[i]? = some v → W.cell? ⟨b, o + i, none⟩ = some v) : ∃ pre, pre.length = o ∧ Blk (heapX W) b (pre ++ cs) := by
  have h1 := h 0 cs[0] (by simp)
  unfold World.cell? at h1
  cases hb : W.heap[b]? with
  | none => rw [hb] at h1; cases h1
  | some x =>
    cases x with
    | cells c ty fr =>
      have hget : ∀ i v, cs[i]? = some v → c[o + i]? = some v := fun i v hv => by
        have := h i v hv
        simp only [World.cell?, hb] at this
        simpa using this
      have ho : o < c.size := by
        have := hget 0 cs[0] (by simp)
        rw [Nat.add_zero] at this
        exact (Array.getElem?_eq_some_iff.1 this).1
      refine ⟨c.toList.take o, by simp; omega, c.toList.drop (o + cs.length), ty, fr, ?_⟩
      unfold heapX
      rw [hb]
      congr 2
      apply Array.toList_inj.1
      apply List.ext_getElem?
      intro k
      simp only [List.append_assoc]
      have hto : (c.toList.take o).length = o := by simp; omega
      rcases Nat.lt_or_ge k o with hk | hk
      · rw [List.getElem?_append_left (by simpa [hto] using hk), List.getElem?_take, if_pos hk]
      · rw [List.getElem?_append_right (by simpa [hto] using hk)]
        simp only [hto]
        rcases Nat.lt_or_ge (k - o) cs.length with hk2 | hk2
        · rw [List.getElem?_append_left hk2, List.getElem?_eq_getElem hk2]
          have := hget (k - o) cs[k - o] (List.getElem?_eq_getElem hk2)
          rw [show o + (k - o) = k by omega] at this
          simpa using this
        · rw [List.getElem?_append_right hk2, List.getElem?_drop]
          congr 1
          omega
    | _ => rw [hb] at h1; cases h1

theorem under24 : Tryd.prog.cellsOf 24 = 3 := by kernel_rfl
theorem cells5 : Tryd.prog.cellsOf 5 = 1 := by kernel_rfl
section
variable {H : Type} {enc : TypeId × Value → H} {W : World}
/-- A slice of bytes, opened; it reads the same behind a call. -/
theorem open_bytes {t : TypeId} (ht : Tryd.prog.underlying t = some (.slice 5)) {n : Nat} {v : Value} {x : DataW H × List MemPlace} (h : DataW.trod enc Tryd.prog W 0 (fun _ => true) true n t [v] = some x) :
    (∃ bs, BytesR (heapX W) v bs ∧ ∀ b ∈ bs, b < 256) ∧ ∀ W', Below W.heap.size W W' → ∀ sp : Nat → Bool, (∀ p ∈ x.2, sp p.block = true) → ∃ m, DataW.trod enc Tryd.prog W' 0 sp true m t [v] = some x := by
  rcases open_ints ht Tryd.underlying5 cells5 h with ⟨hcs, rfl⟩ | ⟨a, len, cap, zs, hcs, hb, hl, hm, hz, rfl, hcell, hwf⟩
  · obtain rfl : v = .slice none 0 0 := by simpa using hcs
    exact ⟨⟨[], .inl ⟨rfl, _, _, rfl⟩, by simp⟩, fun W' _ sp _ => ⟨1, by simp [DataW.trod, ht]⟩⟩
  · obtain rfl : v = .slice (some a) len cap := by simpa using hcs
    simp only [if_true] at hz
    have hblk : 0 < zs.length → a.block < W.heap.size ∧ a.spot = none := fun h => by
      have h1 := hcell 0 h
      have h2 : W.cell? a = some (.int .u8 (zs.getD 0 0)) := by simpa [Addr.add] using h1
      refine ⟨World.block_lt_of_cell? _ _ h2, ?_⟩
      unfold World.cell? at h2
      split at h2
      · split at h2
        · cases h2
        · rename_i hs; simpa using hs
      · cases h2
    have hnn : ∀ z ∈ zs, ∃ b : Nat, b < 256 ∧ z = (b : Int) := fun z hz => by
      have := hwf z hz
      simp only [Lit.wf, Bool.and_eq_true, decide_eq_true_eq] at this
      obtain ⟨this, that⟩ : (0 : Int) ≤ z ∧ z ≤ 255 := this
      obtain ⟨b, rfl⟩ := Int.eq_ofNat_of_zero_le (show 0 ≤ z by omega)
      exact ⟨b, by omega, rfl⟩
    refine ⟨⟨(zs.take len).map Int.toNat, ?_, fun b hb => ?_⟩, fun W' hB sp hsp => ⟨2, ?_⟩⟩
    · rcases Nat.eq_zero_or_pos len with h0 | h0
      · subst h0
        exact .inl ⟨by simp, _, _, rfl⟩
      · obtain ⟨hlt, hspot⟩ := hblk (by omega)
        obtain ⟨ab, ao, asp⟩ := a
        simp only at hspot
        subst hspot
        have hlen : ((zs.take len).map Int.toNat).length = len := by simp; omega
        obtain ⟨pre, hpre, hB⟩ := blk_of_cells (W := W) (b := ab) (o := ao) (cs := bytesC ((zs.take len).map Int.toNat)) (by simp [bytesC]; omega) (fun i v hv => by
          have hi := (List.getElem?_eq_some_iff.1 hv).1
          simp only [bytesC, List.length_map, List.length_take] at hi
          have h1 := hcell i (by omega)
          rw [Addr.add_mid] at h1
          rw [h1]
          have hil : i < zs.length := by omega
          obtain ⟨b, _, hbz⟩ := hnn zs[i] (List.getElem_mem hil)
          simp only [bytesC, List.getElem?_map, List.getElem?_take, show i < len by omega, if_true, List.getElem?_eq_getElem hil, Option.map_some, Option.some.injEq] at hv
          rw [← hv]
          simp [List.getD, List.getElem?_eq_getElem hil, hbz])
        refine .inr ⟨by omega, ab, cap, pre, ?_, hB⟩
        rw [hpre, hlen]
    · obtain ⟨z, hz1, rfl⟩ := List.mem_map.1 hb
      obtain ⟨b, h1, rfl⟩ := hnn z (List.mem_of_mem_take hz1)
      simpa using h1
    · refine shut_ints 0 ht Tryd.underlying5 cells5 hb hl hm ?_ (fun i hi => ?_) hwf
      · rcases Nat.eq_zero_or_pos zs.length with h0 | h0
        · split <;> omega
        · have : sp a.block = true := hsp (.cell a.block (a.off + 0)) (by
            simp only [MemPlace.row, List.mem_map, List.mem_range]
            exact ⟨0, h0, by simp⟩)
          rw [this, if_pos rfl]
          exact hz
      · rw [hB.cell (p := a.add i) (by rw [block_add]; exact (hblk (by omega)).1)]
        exact hcell i hi
end
set_option maxRecDepth 100000 in
/-- A raw matrix, opened; it reads the same behind a call. -/
theorem open_raw {H : Type} {enc : TypeId × Value → H} {W : World} {base : Nat} {v : Value} {d : DataW H} {p : List MemPlace} (hval : Value.okWide Tryd.prog W .any base 24 v) (h : DataW.Trod enc Tryd.prog W 0 (fun _ => true) true 24 v d p) :
    (∃ (R C : Nat) (s : Value) (bs : List Nat), v = .agg #[.int .u8 (R : Int), .int .u8 (C : Int), s] ∧ R < 256 ∧ C < 256 ∧ BytesR (heapX W) s bs) ∧
      ∀ W', Below W.heap.size W W' → ∀ sp : Nat → Bool, (∀ q ∈ p, sp q.block = true) → DataW.Trod enc Tryd.prog W' 0 sp true 24 v d p := by
  obtain ⟨v0, v1, v2, y0, y1, y2, n, rfl, rfl, rfl, h0, h1, h2⟩ := open_agg3 Tryd.underlying24 (by kernel_rfl) under24 hval h
  obtain ⟨za, e0, x0, w0⟩ := DataW.trod_int Tryd.underlying5 h0
  obtain ⟨zb, e1, x1, w1⟩ := DataW.trod_int Tryd.underlying5 h1
  obtain ⟨⟨bs, hbs, _⟩, again⟩ := open_bytes Tryd.underlying22 h2
  obtain rfl : v0 = .int .u8 za := by simpa using e0
  obtain rfl : v1 = .int .u8 zb := by simpa using e1
  subst x0 x1
  refine ⟨?_, fun W' hB sp hsp => ?_⟩
  · simp only [Lit.wf, Bool.and_eq_true, decide_eq_true_eq] at w0 w1
    obtain ⟨a0, b0⟩ : (0 : Int) ≤ za ∧ za ≤ 255 := w0
    obtain ⟨a1, b1⟩ : (0 : Int) ≤ zb ∧ zb ≤ 255 := w1
    obtain ⟨R, rfl⟩ := Int.eq_ofNat_of_zero_le a0
    obtain ⟨C, rfl⟩ := Int.eq_ofNat_of_zero_le a1
    exact ⟨R, C, v2, bs, rfl, by omega, by omega, hbs⟩
  · exact shut_agg3 Tryd.underlying24 (by kernel_rfl) under24 ⟨1, trod_int_mk 0 Tryd.underlying5 w0⟩ ⟨1, trod_int_mk 0 Tryd.underlying5 w1⟩ (again W' hB sp fun q hq => hsp q (by simp [hq]))
/-- The table of math/bits. -/
theorem gTab64 : Tryd.prog.globalNamed "math/bits.deBruijn64tab" = some 0 := by kernel_rfl
theorem gTab64T : (Tryd.prog.globals[0]?).map (·.type) = some 133 := by kernel_rfl
theorem cells133 : Tryd.prog.cellsOf 133 = 64 := by kernel_rfl
theorem tab_of {W : World} {x y : String × DataW Unit} (h : laidMet Tryd.prog [x, ("math/bits.deBruijn64tab", Rows.laid_math_bits_deBruijn64tab), y] W) : Tab (heapX W) := by
  have ht : Lib.TabIs Tryd.prog W "math/bits.deBruijn64tab" .u8 (tab64.map fun (i : Nat) => (i : Int)) := Lib.tabIs_of_head gTab64 gTab64T Tryd.underlying133 Tryd.underlying5 cells5 cells133 h.tail
  obtain ⟨pre, hpre, hB⟩ := blk_of_cells (W := W) (b := 0) (o := 0) (cs := tab64.map fun (i : Nat) => .int .u8 (i : Int)) (by decide) (fun i v hv => by
    have hi := (List.getElem?_eq_some_iff.1 hv).1
    have := ht.cell gTab64 i (by simpa using hi)
    rw [Nat.zero_add, this, ← hv]
    simp only [List.length_map] at hi
    simp [List.getD, hi])
  obtain rfl : pre = [] := List.eq_nil_of_length_eq_zero hpre
  exact hB
/-- A law's last step: it has returned true, and every argument reads as before. -/
theorem law_post {H : Type} {enc : TypeId × Value → H} {P : Program} {f : Func} {s : ChangeSpec} {W W' : World} {args : Array Value} {ds gs : List (DataW H)} {before : List MemPlace} {t : TypeId}
    (hW : DataW.Whole enc P f.params.toList s.vars false W args.toList ds gs before) (hv : s.vars = []) (hrt : f.resultTypes = #[t]) (hb : P.underlying t = some .bool)
    (hfn : (s.fn H (ds ++ gs)).results = [.lit (.bool true)]) (hfa : (s.fn H (ds ++ gs)).args = ds) (hfv : (s.fn H (ds ++ gs)).vars = [])
    (hargs : ∀ sp : Nat → Bool, (∀ p ∈ before, sp p.block = true) → DataW.TrodAll enc P W' 0 sp true f.params.toList args.toList ds before) (hB : Below W.heap.size W W') :
    s.post enc P f false true false false W args (.bool true) W' := by
  have hlt : ∀ p ∈ before, p.block < W.heap.size := fun p hp => hW.lt p hp
  have hold : ∀ p ∈ before, (fun b => decide (b < W.heap.size)) p.block = true := fun p hp => by simpa using hlt p hp
  have hres : ∀ (b : Nat) (sp : Nat → Bool) (hd : Bool), DataW.TrodAll enc P W' b sp hd f.resultTypes.toList ((Value.bool true).resultList f.resultTypes.size) (s.fn H (ds ++ gs)).results [] := fun b sp hd => by
    rw [hrt, hfn]
    exact trodAll_cons_mk (shut_bool hb _) trodAll_mk0
  have hargs' : ∀ sp : Nat → Bool, (∀ p ∈ before, sp p.block = true) → DataW.TrodAll enc P W' 0 sp true f.params.toList args.toList (s.fn H (ds ++ gs)).args before := by rw [hfa]; exact hargs
  have hvars : ∀ sp : Nat → Bool, DataW.TrodVars enc P W' sp s.vars (s.fn H (ds ++ gs)).vars [] := fun sp => by rw [hv, hfv]; rfl
  refine ⟨ds, gs, before, [], before, [], hW, hres _ _ _, hargs' _ hold, hvars _, World.keptBut_mono (fun p hp => ⟨hp, Or.inr (by simpa using hp)⟩) (hB.frame (· ∈ before)), fun hh => by cases hh⟩
theorem own : ownKnob Tryd.prog.godebug = none := by kernel_rfl
/-- What a list of data lays in cells: whole numbers. -/
def litCells : DataW Unit → Array Value
  | .agg l => (l.map fun d => match d with | .lit (.int k n) => Value.int k n | _ => undef).toArray
  | _ => #[]
def layAt (w : World) (g : Nat) (d : DataW Unit) : World :=
  { w with heap := w.heap.modify g fun
      | .cells _ t frozen => .cells (litCells d) t frozen
      | o => o }
/-- A world for the witness: the tables hold what their initialisers lay. -/
noncomputable def laidWorld (os : Os) : World :=
  layAt (layAt (layAt (World.holding Tryd.prog os ⟨#[], #[], []⟩) 2 Rows.laid_math_bits_deBruijn32tab) 0 Rows.laid_math_bits_deBruijn64tab) 1 Rows.laid_internal_strconv_uint64pow10
end Go.Proofs.YtoheffglppbcbaaDoor
