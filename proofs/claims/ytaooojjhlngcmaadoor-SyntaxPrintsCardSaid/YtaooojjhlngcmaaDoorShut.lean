/- FROM A CONTRACT TO A STATEMENT, whatever the arguments' types: they read the same behind the call; slices of rows opened; the tables; the witness. -/
import Derived.Test.YtaooojjhlngcmaaDoorWire
import Derived.Test.YtaooojjhlngcmaaDoorRows2
import Derived.Test.YtaooojjhlngcmaaDoorCards
import Derived.Test.YtaooojjhlngcmaaDoorTie
import Derived.WalkKit
import Derived.ProofKit
import Derived.OpenShut
import Derived.Deep.DeepHandedRow
import Derived.Deep.Slices
import Derived.Lib.LaidTab
import Derived.Lib.SmallJoins
import Derived.Stop.LaidErr
import Derived.WideKeyArgs
namespace Go.Proofs.YtaooojjhlngcmaaDoor
open Go.ChangeShapes Go.WideShapes Go.ChangeAt Go.RowKit Go.Joins Go.Deep
/-- All blocks of a world. -/
def heapX (W : World) : PMap := fun k => W.heap[k]?
theorem heapX_in (W : World) : PIn (heapX W) W := fun _ _ h => h
theorem blk_of_cells {W : World} {b o : Nat} {cs : List Value} (h0 : 0 < cs.length) (h : ∀ i v, cs[i]? = some v → W.cell? ⟨b, o + i, none⟩ = some v) : ∃ pre, pre.length = o ∧ Blk (heapX W) b (pre ++ cs) := by
  have h1 := h 0 cs[0] (by simp)
  unfold World.cell? at h1
  cases hb : W.heap[b]? with
  | none => rw [hb] at h1; cases h1
  | some x =>
    cases x with
    | cells c ty fr =>
      have hget : ∀ i v, cs[i]? = some v → c[o + i]? = some v := fun i v hv => by
        have := h i v hv
        simp only [World.cell?, hb] at this
        simpa using this
      have ho : o < c.size := by
        have := hget 0 cs[0] (by simp)
        rw [Nat.add_zero] at this
        exact (Array.getElem?_eq_some_iff.1 this).1
      refine ⟨c.toList.take o, by simp; omega, c.toList.drop (o + cs.length), ty, fr, ?_⟩
      unfold heapX
      rw [hb]
      congr 2
      apply Array.toList_inj.1
      apply List.ext_getElem?
      intro k
      simp only [List.append_assoc]
      have hto : (c.toList.take o).length = o := by simp; omega
      rcases Nat.lt_or_ge k o with hk | hk
      · rw [List.getElem?_append_left (by simpa [hto] using hk), List.getElem?_take, if_pos hk]
      · rw [List.getElem?_append_right (by simpa [hto] using hk)]
        simp only [hto]
        rcases Nat.lt_or_ge (k - o) cs.length with hk2 | hk2
        · rw [List.getElem?_append_left hk2, List.getElem?_eq_getElem hk2]
          have := hget (k - o) cs[k - o] (List.getElem?_eq_getElem hk2)
          rw [show o + (k - o) = k by omega] at this
          simpa using this
        · rw [List.getElem?_append_right hk2, List.getElem?_drop]
          congr 1
          omega
    | _ => rw [hb] at h1; cases h1
theorem cells5 : Tryd.prog.cellsOf 5 = 1 := by kernel_rfl
section
variable {H : Type} {enc : TypeId × Value → H} {P : Program}
/-- What a list of arguments reads is read the same behind a call. -/
theorem trodAll_stays {W W' : World} {sp' : Nat → Bool} (hl : laidOutB P = true) : ∀ (ts : List TypeId) (vs : List Value) (ds : List (DataW H)) (ps : List MemPlace), (∀ t ∈ ts, P.readableRec t = true ∧ t < P.types.size) →
    DataW.TrodAll enc P W 0 (fun _ => true) true ts vs ds ps → (∀ p ∈ ps, W.sameAt W' p) → (∀ p ∈ ps, sp' p.block = true) → DataW.TrodAll enc P W' 0 sp' true ts vs ds ps
  | [], vs, ds, ps, _, h, _, _ => by
    obtain ⟨rfl, rfl, rfl⟩ := trodAll_nil h
    exact trodAll_mk0
  | t :: ts, vs, ds, ps, ht, h, hs, hsp => by
    obtain ⟨v, vs', d, ds', p, q, rfl, rfl, rfl, h0, r0⟩ := trodAll_cons h
    obtain ⟨h1, h2⟩ := ht t (by simp)
    exact trodAll_cons_mk (Go.WideElems.Trod_stays hl h1 h2 h0 (fun x hx => hs x (by simp [hx])) (fun x hx => hsp x (by simp [hx]))) (trodAll_stays hl ts vs' ds' q (fun t ht' => ht t (by simp [ht'])) r0 (fun x hx => hs x (by simp [hx])) (fun x hx => hsp x (by simp [hx])))
theorem same_below {W W' : World} (hB : Below W.heap.size W W') {p : MemPlace} (h : p.block < W.heap.size) : W.sameAt W' p := by
  cases p with
  | cell b off => exact hB.cell (p := ⟨b, off, none⟩) h
  | map b => exact hB.block b h
/-- A law's last step: it has returned true, and every argument reads as before. -/
theorem law_post {f : Func} {s : ChangeSpec} {W W' : World} {args : Array Value} {ds gs : List (DataW H)} {before : List MemPlace} {t : TypeId}
    (hW : DataW.Whole enc P f.params.toList s.vars false W args.toList ds gs before) (hA : DataW.TrodAll enc P W 0 (fun _ => true) true f.params.toList args.toList ds before) (hl : laidOutB P = true) (hts : ∀ t ∈ f.params.toList, P.readableRec t = true ∧ t < P.types.size)
    (hv : s.vars = []) (hrt : f.resultTypes = #[t]) (hb : P.underlying t = some .bool)
    (hfn : (s.fn H (ds ++ gs)).results = [.lit (.bool true)]) (hfa : (s.fn H (ds ++ gs)).args = ds) (hfv : (s.fn H (ds ++ gs)).vars = []) (hB : Below W.heap.size W W') :
    s.post enc P f false true false false W args (.bool true) W' := by
  have hlt : ∀ p ∈ before, p.block < W.heap.size := fun p hp => hW.lt p hp
  have hold : ∀ p ∈ before, (fun b => decide (b < W.heap.size)) p.block = true := fun p hp => by simpa using hlt p hp
  have hres : ∀ (b : Nat) (sp : Nat → Bool) (hd : Bool), DataW.TrodAll enc P W' b sp hd f.resultTypes.toList ((Value.bool true).resultList f.resultTypes.size) (s.fn H (ds ++ gs)).results [] := fun b sp hd => by
    rw [hrt, hfn]
    exact trodAll_cons_mk (shut_bool hb _) trodAll_mk0
  have hargs' : ∀ sp : Nat → Bool, (∀ p ∈ before, sp p.block = true) → DataW.TrodAll enc P W' 0 sp true f.params.toList args.toList (s.fn H (ds ++ gs)).args before := by
    rw [hfa]
    exact fun sp hsp => trodAll_stays hl _ _ _ _ hts hA (fun p hp => same_below hB (hlt p hp)) hsp
  have hvars : ∀ sp : Nat → Bool, DataW.TrodVars enc P W' sp s.vars (s.fn H (ds ++ gs)).vars [] := fun sp => by rw [hv, hfv]; rfl
  refine ⟨ds, gs, before, [], before, [], hW, hres _ _ _, hargs' _ hold, hvars _, World.keptBut_mono (fun p hp => ⟨hp, Or.inr (by simpa using hp)⟩) (hB.frame (· ∈ before)), fun hh => by cases hh⟩
theorem exists_list {α : Type} {p : Nat → α → Prop} : ∀ n : Nat, (∀ i, i < n → ∃ x, p i x) → ∃ l : List α, l.length = n ∧ ∀ i x, l[i]? = some x → p i x
  | 0, _ => ⟨[], rfl, fun i x h => by cases h⟩
  | n + 1, h => by
    obtain ⟨l, hl, hp⟩ := exists_list n fun i hi => h i (by omega)
    obtain ⟨x, hx⟩ := h n (by omega)
    refine ⟨l ++ [x], by simp [hl], fun i y hy => ?_⟩
    rcases Nat.lt_or_ge i l.length with hi | hi
    · rw [List.getElem?_append_left hi] at hy; exact hp i y hy
    · rw [List.getElem?_append_right hi] at hy
      have h0 : i - l.length = 0 := by
        have := (List.getElem?_eq_some_iff.1 hy).1
        simp at this; omega
      rw [h0] at hy
      obtain rfl : x = y := by simpa using hy
      rw [show i = n by omega]; exact hx
theorem flat_at {α : Type} {sz : Nat} : ∀ {css : List (List α)} {q : Nat} {v : α}, (∀ c ∈ css, c.length = sz) → 0 < sz → css.flatten[q]? = some v → ∃ c, css[q / sz]? = some c ∧ c[q % sz]? = some v
  | [], q, v, _, _, h => by simp at h
  | c :: css, q, v, hc, h0, h => by
    have hl := hc c (by simp)
    rw [List.flatten_cons] at h
    rcases Nat.lt_or_ge q sz with hq | hq
    · rw [List.getElem?_append_left (by omega)] at h
      exact ⟨c, by rw [Nat.div_eq_of_lt hq]; rfl, by rw [Nat.mod_eq_of_lt hq]; exact h⟩
    · rw [List.getElem?_append_right (by omega), hl] at h
      obtain ⟨c', h1, h2⟩ := flat_at (fun x hx => hc x (by simp [hx])) h0 h
      refine ⟨c', ?_, ?_⟩
      · rw [show q / sz = (q - sz) / sz + 1 from by rw [Nat.div_eq_sub_div h0 hq]]; exact h1
      · rw [Nat.mod_eq_sub_mod hq]; exact h2
theorem cell_spot {W : World} {a : Addr} {u : Value} (h : W.cell? a = some u) : a.spot = none := by
  unfold World.cell? at h
  split at h
  · split at h
    · cases h
    · rename_i hs; simpa using hs
  · cases h
/-- A slice of rows, opened: its elements' cells lie in one block. -/
theorem open_rows {W : World} {t e : TypeId} {sz : Nat} {α : Type} {rc : α → List Value} {ok : α → Prop} (ht : P.underlying t = some (.slice e)) (hc : P.cellsOf e = sz) (h0 : 0 < sz) (hrc : ∀ x, (rc x).length = sz)
    (hel : ∀ {n : Nat} {cs : List Value} {y : DataW H × List MemPlace}, cs.length = sz → DataW.trod enc P W 0 (fun _ => true) true n e cs = some y → ∃ x, cs = rc x ∧ ok x)
    {v : Value} {d : DataW H} {p : List MemPlace} (hval : ∃ A len cap, v = .slice A len cap) (h : DataW.Trod enc P W 0 (fun _ => true) true t v d p) :
    ∃ (rs : List α), (∀ r ∈ rs, ok r) ∧ RowR rc (heapX W) v rs := by
  obtain ⟨A, len, cap, rfl⟩ := hval
  obtain ⟨fuel, hf⟩ := h
  rcases open_slice ht hf with ⟨hcs, _⟩ | ⟨a, len', cap', m, n, D, Pl, hcs, hb, hl, hm, hmm, hx, hcell⟩
  · obtain ⟨rfl, rfl, rfl⟩ : A = none ∧ len = 0 ∧ cap = 0 := by simpa [Value.cells] using hcs
    exact ⟨[], by simp, .inl ⟨rfl, _, _, rfl⟩⟩
  · obtain ⟨rfl, rfl, rfl⟩ : A = some a ∧ len = len' ∧ cap = cap' := by simpa [Value.cells] using hcs
    simp only [if_true] at hmm
    subst hmm
    rcases Nat.eq_zero_or_pos len with hz | hz
    · subst hz
      exact ⟨[], by simp, .inl ⟨rfl, _, _, rfl⟩⟩
    obtain ⟨rs, hrl, hrs⟩ := exists_list (p := fun i x => ok x ∧ W.cells? 0 (a.add (i * sz)) sz = some (rc x)) len (fun i hi => by
      obtain ⟨cs', h1, h2⟩ := hcell i (by omega)
      rw [hc] at h1
      obtain ⟨_, h4, _⟩ := World.cells?_some h1
      obtain ⟨x, h3, h5⟩ := hel h4 h2
      exact ⟨x, h5, by rw [← h3]; exact h1⟩)
    have hok : ∀ r ∈ rs, ok r := fun r hr => by
      obtain ⟨i, hi, hx⟩ := List.getElem_of_mem hr
      exact (hrs i r (by rw [List.getElem?_eq_getElem hi, hx])).1
    have hspot : a.spot = none := by
      have hr0 : rs[0]? = some rs[0] := List.getElem?_eq_getElem (by omega)
      obtain ⟨o1, o2⟩ := hrs 0 _ hr0
      obtain ⟨_, _, h3⟩ := World.cells?_some o2
      have h4 := cell_spot ((h3 0 h0).trans (List.getElem?_eq_getElem (by rw [hrc]; exact h0)))
      simpa [Addr.add] using h4
    obtain ⟨ab, ao, asp⟩ := a
    obtain rfl : asp = none := hspot
    have hcl : ∀ c ∈ rs.map rc, c.length = sz := fun c hc => by
      obtain ⟨x, _, rfl⟩ := List.mem_map.1 hc; exact hrc x
    have hfl : (rs.map rc).flatten.length = rs.length * sz := by
      rw [List.length_flatten, List.map_map, show (List.length ∘ rc) = fun _ => sz from funext hrc]
      rw [List.map_const', List.sum_replicate_nat]
    obtain ⟨pre, hpre, hB⟩ := blk_of_cells (W := W) (b := ab) (o := ao) (cs := (rs.map rc).flatten) (by rw [hfl]; exact Nat.mul_pos (by omega) h0) (fun i v hv => by
      obtain ⟨c, h1, h2⟩ := flat_at hcl h0 hv
      rw [List.getElem?_map] at h1
      cases hq : rs[i / sz]? with
      | none => rw [hq] at h1; cases h1
      | some x =>
        rw [hq] at h1
        obtain rfl : rc x = c := by simpa using h1
        obtain ⟨_, o2⟩ := hrs _ _ hq
        obtain ⟨_, _, h3⟩ := World.cells?_some o2
        have h4 := h3 (i % sz) (Nat.mod_lt _ h0)
        rw [h2, Addr.add_mid, Addr.add_mid] at h4
        have e : ao + i / sz * sz + i % sz = ao + i := by
          have := Nat.div_add_mod i sz
          rw [Nat.mul_comm] at this
          omega
        rw [e] at h4
        exact h4)
    exact ⟨rs, hok, .inr ⟨by omega, ab, _, pre, by rw [hpre, hrl], hB, by omega, by omega⟩⟩
end
/-- The table of math/bits. -/
theorem gTab64 : Tryd.prog.globalNamed "math/bits.deBruijn64tab" = some 3 := by kernel_rfl
theorem gTab64T : (Tryd.prog.globals[3]?).map (·.type) = some 166 := by kernel_rfl
theorem cells133 : Tryd.prog.cellsOf 166 = 64 := by kernel_rfl
theorem tab_of {W : World} {x y : String × DataW Unit} (h : laidMet Tryd.prog [x, ("math/bits.deBruijn64tab", Rows.laid_math_bits_deBruijn64tab), y] W) : Tab (heapX W) := by
  have ht : Lib.TabIs Tryd.prog W "math/bits.deBruijn64tab" .u8 (tab64.map fun (i : Nat) => (i : Int)) := Lib.tabIs_of_head gTab64 gTab64T Tryd.underlying166 Tryd.underlying5 cells5 cells133 h.tail
  obtain ⟨pre, hpre, hB⟩ := blk_of_cells (W := W) (b := 3) (o := 0) (cs := tab64.map fun (i : Nat) => .int .u8 (i : Int)) (by decide) (fun i v hv => by
    have hi := (List.getElem?_eq_some_iff.1 hv).1
    have := ht.cell gTab64 i (by simpa using hi)
    rw [Nat.zero_add, this, ← hv]
    simp only [List.length_map] at hi
    simp [List.getD, hi])
  obtain rfl : pre = [] := List.eq_nil_of_length_eq_zero hpre
  exact hB
theorem own : ownKnob Tryd.prog.godebug = none := by kernel_rfl
/-- What a list of data lays in cells: whole numbers. -/
def litCells : DataW Unit → Array Value
  | .agg l => (l.map fun d => match d with | .lit (.int k n) => Value.int k n | _ => undef).toArray
  | _ => #[]
def layAt (w : World) (g : Nat) (d : DataW Unit) : World :=
  { w with heap := w.heap.modify g fun
      | .cells _ t frozen => .cells (litCells d) t frozen
      | o => o }
/-- A world for the witness: the tables hold what their initialisers lay. -/
noncomputable def laidWorld (os : Os) : World :=
  layAt (layAt (layAt (World.holding Tryd.prog os ⟨#[], #[], []⟩) 2 Rows.laid_math_bits_deBruijn32tab) 3 Rows.laid_math_bits_deBruijn64tab) 0 Rows.laid_internal_strconv_uint64pow10
theorem laid_out : laidOutB Tryd.prog = true := by kernel_rfl
end Go.Proofs.YtaooojjhlngcmaaDoor
