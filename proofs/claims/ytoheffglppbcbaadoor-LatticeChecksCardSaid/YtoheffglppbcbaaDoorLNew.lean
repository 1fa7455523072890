/- ALL CONCEPTS (package lattice): the list, made one by one. -/
import Derived.Test.YtoheffglppbcbaaDoorNext
namespace Go.Proofs.YtoheffglppbcbaaDoor
section
set_option maxRecDepth 100000
theorem bs49 : ∃ i z, Tryd.prog.info? 49 = some i ∧ i.size = 2 ∧ i.zero = some z ∧ z.cells = ([.slice none 0 0, .slice none 0 0] : List Value).toArray := bs_of (by kernel_rfl)
theorem en36 : Enters Tryd.prog 36 := enters_mk Tryd.func36 (by kernel_rfl) rfl
theorem en59 : Enters Tryd.prog 59 := enters_mk Tryd.func59 (by kernel_rfl) rfl
theorem fa96_1 : FAdr Tryd.prog 96 1 1 := fadr_mk Tryd.underlying96 rfl rfl (by kernel_rfl)
theorem sl80 : SlT Tryd.prog 80 49 2 48 := ⟨Tryd.underlying80, sl_of (by kernel_rfl) (by decide)⟩
theorem z96 : Zero Tryd.prog 96 [.pointer none, .slice none 0 0] := ⟨zero_of (by kernel_rfl)⟩
theorem st96 : StT Tryd.prog 96 [(0, 1), (1, 1)] [.pointer none, .slice none 0 0] := ⟨⟨_, Tryd.underlying96, fun _ => by kernel_rfl, z96⟩⟩
theorem ty80 : Ty Tryd.prog 80 false 1 := ⟨⟨_, Tryd.underlying80, rfl⟩, by kernel_rfl⟩
end
open Go.RowKit
/-- The closed sets from a on; none: there are more than the number allows. -/
def gen (c : Nat) (ms : List Nat) : Nat → Nat → Option (List Nat)
  | 0, _ => none
  | k + 1, a => match nextM c ms c a with
    | none => some [a]
    | some b => (gen c ms k b).map (a :: ·)
/-- Cells of concepts, two a concept. -/
def ConsR (X : PMap) (cs : List Value) (l : List (Nat × Nat)) : Prop :=
  cs.length = l.length * 2 ∧ ∀ (i : Nat) (p : Nat × Nat), l[i]? = some p → ∃ x y : Value, cs[i * 2]? = some x ∧ cs[i * 2 + 1]? = some y ∧ SetR X (.agg #[x]) p.1 ∧ SetR X (.agg #[y]) p.2
theorem ConsR.mono {X X' : PMap} {cs : List Value} {l : List (Nat × Nat)} (h : ConsR X cs l) (hX : X.le X') : ConsR X' cs l :=
  ⟨h.1, fun i p hp => let ⟨x, y, h1, h2, h3, h4⟩ := h.2 i p hp; ⟨x, y, h1, h2, h3.mono hX, h4.mono hX⟩⟩
theorem ConsR.nil {X : PMap} : ConsR X [] [] := ⟨rfl, fun i p h => by simp at h⟩
theorem ConsR.snoc {X : PMap} {cs : List Value} {l : List (Nat × Nat)} (h : ConsR X cs l) {x y : Value} {p : Nat × Nat} (hx : SetR X (.agg #[x]) p.1) (hy : SetR X (.agg #[y]) p.2) : ConsR X (cs ++ [x, y]) (l ++ [p]) := by
  refine ⟨by simp [h.1]; omega, fun i q hq => ?_⟩
  rcases Nat.lt_or_ge i l.length with hi | hi
  · rw [List.getElem?_append_left hi] at hq
    obtain ⟨x', y', h1, h2, h3, h4⟩ := h.2 i q hq
    have g1 := (List.getElem?_eq_some_iff.1 h1).1
    have g2 := (List.getElem?_eq_some_iff.1 h2).1
    exact ⟨x', y', by rw [List.getElem?_append_left g1]; exact h1, by rw [List.getElem?_append_left g2]; exact h2, h3, h4⟩
  · have hl := (List.getElem?_eq_some_iff.1 hq).1
    simp at hl
    have e : i = l.length := by omega
    subst e
    have : q = p := by simpa using hq.symm
    subst this
    have e1 : (cs ++ [x, y])[l.length * 2]? = some x := by rw [← h.1, List.getElem?_append_right (Nat.le_refl _)]; simp
    have e2 : (cs ++ [x, y])[l.length * 2 + 1]? = some y := by rw [← h.1, List.getElem?_append_right (by omega)]; simp
    exact ⟨x, y, e1, e2, hx, hy⟩
/-- v points to the lattice of the matrix, with the concepts l. -/
def LatR (X : PMap) (v : Value) (c : Nat) (ms : List Nat) (l : List (Nat × Nat)) : Prop :=
  ∃ b A cap cs pm, v = .pointer (some ⟨b, 0, none⟩) ∧ Blk X b [pm, .slice A l.length cap] ∧ MatR X pm c ms ∧ ConsR X cs l ∧ (0 < l.length → ∃ br, A = some ⟨br, 0, none⟩ ∧ Blk X br cs) ∧ l.length < 2147483648
theorem LatR.mono {X X' : PMap} {v : Value} {c : Nat} {ms : List Nat} {l : List (Nat × Nat)} (h : LatR X v c ms l) (hX : X.le X') : LatR X' v c ms l := by
  obtain ⟨b, A, cap, cs, pm, h1, h2, h3, h4, h5, h6⟩ := h
  exact ⟨b, A, cap, cs, pm, h1, h2.mono hX, h3.mono hX, h4.mono hX, fun h => let ⟨br, g1, g2⟩ := h5 h; ⟨br, g1, g2.mono hX⟩, h6⟩
/-- The concept of a closed set. -/
def conOf (c : Nat) (ms : List Nat) (a : Nat) : Nat × Nat := (hav c ms a, clo c ms a)

/-- What New returns: the lattice, or nil and the error that says that there are too many. -/
def NewR (X : PMap) (u : Value) (c : Nat) (ms : List Nat) : Option (List Nat) → Prop
  | none => u = .tuple #[.pointer none, .int .i64 3]
  | some l => ∃ v, u = .tuple #[v, .int .i64 0] ∧ LatR X v c ms (l.map (conOf c ms))
theorem gen_step {c : Nat} {ms : List Nat} {most a : Nat} {acc : List Nat} {res : Option (List Nat)} {X : PMap} {Aw : Option Addr} {lw cw : Nat} (h : (gen c ms (most - acc.length) a).map (acc ++ ·) = res) (hw : SetR X (.agg #[.slice Aw lw cw]) ((nextM c ms c a).getD 0)) (hlt : acc.length < most) :
    match nextM c ms c a with | some b => (gen c ms (most - (acc ++ [a]).length) b).map ((acc ++ [a]) ++ ·) = res ∧ SetR X (.agg #[.slice Aw lw cw]) b | none => some (acc ++ [a]) = res := by
  obtain ⟨k, hk⟩ : ∃ k, most - acc.length = k + 1 := ⟨most - acc.length - 1, by omega⟩
  rw [hk, gen] at h
  have hk' : most - (acc ++ [a]).length = k := by simp; omega
  rw [hk']
  cases hn : nextM c ms c a with
  | none => rw [hn] at h; simpa using h
  | some b =>
    rw [hn] at h hw
    refine ⟨?_, hw⟩
    rw [← h]
    simp only [Option.map_map]
    congr 1
    funext l
    simp
theorem lnew_spec {X : PMap} (hT : Tab X) {v : Value} {c : Nat} {ms : List Nat} (h : MatR X v c ms) (most : Nat) (h1 : 1 ≤ most) (h2 : most < 2147483648) : Spec Tryd.prog 15 [v, .int .i64 (most : Int)] X fun u X' => NewR X' u c ms (gen c ms most (clo c ms 0)) := by
  obtain ⟨hr, hc⟩ := h.lens
  obtain ⟨bm, rfl⟩ := h.ptr
  generalize hgoal : gen c ms most (clo c ms 0) = res
  refine Spec.enter Tryd.func15 rfl Tryd.ntmps15 rfl ?_
  intro w0 hw0
  refine T.seq ?_
  refine T.region ?_
  refine SL.y (op_assign rfl) rfl rfl ?_
  refine SL.y (op_assign (v := .int .i64 ((0 : Nat) : Int)) rfl) rfl rfl ?_
  refine SL.nil ?_
  refine T.seq ?_
  refine T.seq ?_
  refine T.region ?_
  refine SL.y (op_move rfl) rfl rfl ?_
  refine SL.y (op_eqlNil Tryd.underlying27 rfl rfl) rfl rfl ?_
  refine SL.y (op_move rfl) rfl rfl ?_
  first | refine SL.skip rfl rfl ?_ | refine SL.y (op_move rfl) rfl rfl ?_
  first | refine SL.skip rfl rfl ?_ | refine SL.y (op_lssT rfl rfl (by omega)) rfl rfl ?_ | refine SL.y (op_lssF rfl rfl (by omega)) rfl rfl ?_ | refine SL.y (op_lss rfl rfl) rfl rfl ?_
  first | refine SL.y (op_pickT rfl rfl) rfl rfl ?_ | refine SL.y (op_pickF rfl rfl) rfl rfl ?_ | refine SL.y (op_pickB rfl rfl rfl) rfl rfl ?_
  refine SL.nil ?_
  refine T.condF rfl ?_
  refine T.skip ?_
  refine T.seq ?_
  refine T.region ?_
  refine SL.y (op_move rfl) rfl rfl ?_
  refine SL.y (op_build st96 (qs := [(0, _)]) rfl rfl) rfl rfl ?_
  refine SL.x (op_box rfl) rfl rfl ?_
  rintro _ _ _ ⟨B17, rfl, rfl, rfl⟩
  refine SL.y (op_assign rfl) rfl rfl ?_
  refine SL.nil ?_
  refine T.seq ?_
  refine T.region ?_
  refine SL.y (op_move rfl) rfl rfl ?_
  refine SL.y (op_build st47 (qs := []) rfl rfl) rfl rfl ?_
  -- op
  refine SL.x (op_callF en58 (vs := [_, _]) rfl (close_spec hT h SetR.zero)) rfl rfl ?_
  rintro _ _ X1 ⟨rfl, hX1, hS1⟩
  obtain ⟨A1, l1, c1, rfl⟩ := hS1.form
  refine SL.x (op_alloc z47) rfl rfl ?_
  rintro _ _ _ ⟨B7, rfl, rfl, rfl⟩
  refine SL.x (op_store ty47 rfl rfl (by repeat (first | exact AtO.here | apply AtO.there)) rfl rfl rfl) rfl rfl ?_
  rintro _ _ _ ⟨rfl, rfl⟩
  refine SL.y (op_assign rfl) rfl rfl ?_
  refine SL.nil ?_
  refine T.seq ?_
  refine T.block ?_
  -- loop live [0, 1, 4, 5, 6, 7, 8]
  refine T.loopW (fun m env own X' => ∃ (acc : List Nat) (cur : Option Nat) (A' : Option Addr) (l' c' : Nat) (sv : Value) (G : Own) (cs : List Value), m = most - acc.length + (if cur.isSome then 1 else 0) ∧ acc.length ≤ most ∧ X1.le X' ∧ (match cur with | some a => (gen c ms (most - acc.length) a).map (acc ++ ·) = res ∧ SetR X' (.agg #[.slice A' l' c']) a | none => some acc = res) ∧ GrowS 49 2 sv acc.length cs G ∧ ConsR X' cs (acc.map (conOf c ms)) ∧ env = [(0, .pointer (some ⟨bm, 0, none⟩)), (1, .int .i64 (most : Int)), (6, .pointer (some ⟨B17, 0, none⟩)), (7, .pointer (some ⟨B7, 0, none⟩)), (8, .bool cur.isSome)] ∧ own = ⟨B7, [.slice A' l' c'], 47, 1⟩ :: ⟨B17, [.pointer (some ⟨bm, 0, none⟩), sv], 96, 2⟩ :: G) (most + 1) ⟨[], some (clo c ms 0), A1, l1, c1, _, _, [], by simp, by simp, PMap.le_refl _, ⟨by simpa using hgoal, hS1⟩, GrowS.nil, ConsR.nil, rfl, rfl⟩ (by repeat (first | exact Sub.nil | refine Sub.cons rfl ?_)) ?_
  rintro m _ _ X2 ⟨acc, cur, A2, l2, c2, sv, G, cs, rfl, hacc, hX2, hcur, hG, hC, rfl, rfl⟩
  rcases cur with _ | a
  · skip
    refine T.seq ?_
    refine T.seq ?_
    refine T.region ?_
    refine SL.y (op_move rfl) rfl rfl ?_
    refine SL.nil ?_
    refine T.condF rfl ?_
    refine T.exit (T.exitCode (T.exitCut (T.exitBlk ?_)))
    refine T.seq ?_
    refine T.region ?_
    refine SL.y (op_move rfl) rfl rfl ?_
    refine SL.y (op_assign rfl) rfl rfl ?_
    refine SL.y (op_assign (v := .int .i64 ((0 : Nat) : Int)) rfl) rfl rfl ?_
    refine SL.nil ?_
    -- ret
    refine T.pubG (own0 := [_, _]) hG ?_
    intro X3 hX3 hS3
    refine T.pub B17 (by repeat (first | exact AtO.here | apply AtO.there)) ?_
    intro X4 hX4 hB4 _
    refine T.ret2 rfl (ResIs.tmp rfl) (ResIs.tmp rfl) ?_
    simp only at hcur
    rw [← hcur]
    obtain ⟨A3, cap3, rfl⟩ := hG.form
    refine ⟨_, rfl, B17, A3, cap3, cs, _, rfl, by simpa using hB4, (((h.mono hX1).mono hX2).mono hX3).mono hX4, (hC.mono hX3).mono hX4, fun h0 => ?_, by simp; omega⟩
    rcases hS3 with ⟨g1, _⟩ | ⟨_, br, cp, he, hb⟩
    · simp at h0; omega
    · simp only [Value.slice.injEq] at he
      exact ⟨br, he.1, hb.mono hX4⟩
  · obtain ⟨hgen, hS2⟩ := hcur
    obtain ⟨As, cps, rfl⟩ := hG.form
    by_cases hlim : acc.length = most
    · skip
      refine T.seq ?_
      refine T.seq ?_
      refine T.region ?_
      refine SL.y (op_move rfl) rfl rfl ?_
      refine SL.nil ?_
      refine T.condT rfl ?_
      refine T.skip ?_
      refine T.block ?_
      refine T.seq ?_
      refine T.seq ?_
      refine T.region ?_
      refine SL.y (op_move rfl) rfl rfl ?_
      first | refine SL.y (op_nil rfl) rfl rfl ?_ | refine SL.y (op_nilFn rfl) rfl rfl ?_
      refine SL.y (op_fieldAddr fa96_1 rfl) rfl rfl ?_
      first | refine SL.y (op_load ty80 rfl (by repeat (first | exact AtO.here | apply AtO.there)) rfl) rfl rfl ?_ | refine SL.y (op_loadX ty80 rfl (by assumption) rfl) rfl rfl ?_
      refine SL.y (op_lenS Tryd.underlying80 rfl) rfl rfl ?_
      refine SL.y (op_move rfl) rfl rfl ?_
      first | refine SL.y (op_eqlT rfl rfl (by omega)) rfl rfl ?_ | refine SL.y (op_eqlF rfl rfl (by omega)) rfl rfl ?_ | refine SL.y (op_eql rfl rfl) rfl rfl ?_
      refine SL.nil ?_
      refine T.condT rfl ?_
      refine T.seq ?_
      refine T.region ?_
      refine SL.y (op_assign rfl) rfl rfl ?_
      refine SL.y (op_assign (v := .int .i64 ((3 : Nat) : Int)) rfl) rfl rfl ?_
      refine SL.nil ?_
      -- ret
      refine T.ret2 rfl (ResIs.tmp rfl) (ResIs.tmp rfl) ?_
      rw [show most - acc.length = 0 by omega] at hgen
      rw [← hgen]
      rfl
    · skip
      refine T.seq ?_
      refine T.seq ?_
      refine T.region ?_
      refine SL.y (op_move rfl) rfl rfl ?_
      refine SL.nil ?_
      refine T.condT rfl ?_
      refine T.skip ?_
      refine T.block ?_
      refine T.seq ?_
      refine T.seq ?_
      refine T.region ?_
      refine SL.y (op_move rfl) rfl rfl ?_
      first | refine SL.y (op_nil rfl) rfl rfl ?_ | refine SL.y (op_nilFn rfl) rfl rfl ?_
      refine SL.y (op_fieldAddr fa96_1 rfl) rfl rfl ?_
      first | refine SL.y (op_load ty80 rfl (by repeat (first | exact AtO.here | apply AtO.there)) rfl) rfl rfl ?_ | refine SL.y (op_loadX ty80 rfl (by assumption) rfl) rfl rfl ?_
      refine SL.y (op_lenS Tryd.underlying80 rfl) rfl rfl ?_
      refine SL.y (op_move rfl) rfl rfl ?_
      first | refine SL.y (op_eqlT rfl rfl (by omega)) rfl rfl ?_ | refine SL.y (op_eqlF rfl rfl (by omega)) rfl rfl ?_ | refine SL.y (op_eql rfl rfl) rfl rfl ?_
      refine SL.nil ?_
      refine T.condF rfl ?_
      refine T.skip ?_
      refine T.seq ?_
      refine T.drawG (own0 := [_, _]) (by kernel_rfl) 10 [.t 0, .t 1, .t 2, .t 3, .t 4, .t 5, .t 6, .r 7, .r 8, .r 9] (by kernel_rfl) ?_
      refine SD.take rfl panicBody (op_move rfl) rfl rfl ?_
      refine SD.take rfl panicBody (op_move rfl) rfl rfl ?_
      first | refine SD.take rfl panicBody (op_nil rfl) rfl rfl ?_ | refine SD.take rfl panicBody (op_nilFn rfl) rfl rfl ?_
      refine SD.take rfl panicBody (op_fieldAddr fa96_1 rfl) rfl rfl ?_
      first | refine SD.take rfl panicBody (op_load ty80 rfl (by repeat (first | exact AtO.here | apply AtO.there)) rfl) rfl rfl ?_ | refine SD.take rfl panicBody (op_loadX ty80 rfl (by assumption) rfl) rfl rfl ?_
      refine SD.take rfl panicBody (op_move rfl) rfl rfl ?_
      first | refine SD.take rfl panicBody (op_load ty47 rfl (by repeat (first | exact AtO.here | apply AtO.there)) rfl) rfl rfl ?_ | refine SD.take rfl panicBody (op_loadX ty47 rfl (by assumption) rfl) rfl rfl ?_
      -- op
      refine SD.run rfl (op_callF en36 (vs := [_, _]) rfl (cof_spec ((hT.mono hX1).mono hX2) ((h.mono hX1).mono hX2) hS2)) rfl rfl ?_
      rintro _ _ X3 ⟨rfl, hX3, x, y, rfl, hx, hy⟩
      obtain ⟨Ax, lx, cx, hxe⟩ := hx.form
      obtain ⟨Ay, ly, cy, hye⟩ := hy.form
      obtain rfl : x = .slice Ax lx cx := by simpa using hxe
      obtain rfl : y = .slice Ay ly cy := by simpa using hye
      refine SD.run rfl (op_buildSlice Tryd.underlying80 bs49 (qs := [(0, _)]) rfl rfl rfl rfl rfl) rfl rfl ?_
      rintro _ _ _ ⟨B37, rfl, rfl, rfl⟩
      -- op
      refine SD.runK rfl (op_appendG (own0 := [_, _]) sl80 rfl hG rfl rfl rfl (by (have : maxLen = 9223372036854775807 := rfl); omega) (by omega)) (by rintro _ _ _ ⟨G', rfl, rfl, _⟩; exact ⟨fun p hp => List.mem_append_left _ hp, PMap.le_trans hX3 (PMap.le_refl _)⟩) rfl rfl ?_
      rintro s' _ _ ⟨G', rfl, rfl, hG'⟩
      refine SD.nil ?_
      show SL _ _ _ _ _ _ _ [_, _, _] _ _ _
      obtain ⟨As', cps', rfl⟩ := hG'.form
      first | refine SL.y (op_nil rfl) rfl rfl ?_ | refine SL.y (op_nilFn rfl) rfl rfl ?_
      refine SL.y (op_fieldAddr fa96_1 rfl) rfl rfl ?_
      refine SL.x (op_store ty80 rfl rfl (by repeat (first | exact AtO.here | apply AtO.there)) rfl rfl rfl) rfl rfl ?_
      rintro _ _ _ ⟨rfl, rfl⟩
      refine SL.nil ?_
      refine T.region ?_
      refine SL.y (op_move rfl) rfl rfl ?_
      first | refine SL.y (op_load ty47 rfl (by repeat (first | exact AtO.here | apply AtO.there)) rfl) rfl rfl ?_ | refine SL.y (op_loadX ty47 rfl (by assumption) rfl) rfl rfl ?_
      -- op
      refine SL.x (op_callF en59 (vs := [_, _]) rfl (next_spec (((hT.mono hX1).mono hX2).mono hX3) (((h.mono hX1).mono hX2).mono hX3) (hS2.mono hX3))) rfl rfl ?_
      rintro _ _ X4 ⟨rfl, hX4, w, rfl, hw⟩
      obtain ⟨Aw, lw, cw, rfl⟩ := hw.form
      refine SL.y (op_move rfl) rfl rfl ?_
      refine SL.y (op_extract rfl rfl) rfl rfl ?_
      refine SL.y (op_extract rfl rfl) rfl rfl ?_
      refine SL.x (op_store ty47 rfl rfl (by repeat (first | exact AtO.here | apply AtO.there)) rfl rfl rfl) rfl rfl ?_
      rintro _ _ _ ⟨rfl, rfl⟩
      refine SL.y (op_assign rfl) rfl rfl ?_
      refine SL.nil ?_
      refine T.blk ?_
      -- cut
      exact T.backW (most - (acc ++ [a]).length + (if (nextM c ms c a).isSome then 1 else 0)) (by simp only [List.length_append, List.length_singleton, Option.isSome_some, if_true]; split <;> omega) ⟨acc ++ [a], nextM c ms c a, Aw, lw, cw, _, G', _, rfl, by simp; omega, (hX2.trans' hX3).trans' hX4, gen_step hgen hw (by omega), by simpa using hG', (by have := (hC.mono hX3).snoc (p := conOf c ms a) hx hy; simpa [csets, vcells] using this.mono hX4), rfl, rfl⟩ (by repeat (first | exact Sub.nil | refine Sub.cons rfl ?_))
end Go.Proofs.YtoheffglppbcbaaDoor
