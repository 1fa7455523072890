/- The names of an expression, the specification's. -/
import Derived.Test.YtaooojjhlngcmaaDoorNamesA
namespace Go.Proofs.YtaooojjhlngcmaaDoor
section
set_option maxRecDepth 100000
theorem en52 : Enters Tryd.prog 52 := enters_mk Tryd.func52 (by kernel_rfl) rfl
theorem en80 : Enters Tryd.prog 80 := enters_mk Tryd.func80 (by kernel_rfl) rfl
theorem fa27_2 : FAdr Tryd.prog 27 2 2 := fadr_mk Tryd.underlying27 rfl rfl (by kernel_rfl)
end
open Go.RowKit
/-- One element of the list, with the string put in ahead of the first greater one. -/
def insStep (s : ByteArray) (r : List ByteArray × Bool) (x : ByteArray) : List ByteArray × Bool := if r.2 = false ∧ ltS s x = true then (r.1 ++ [s] ++ [x], true) else (r.1 ++ [x], r.2)
def insR (s : ByteArray) (l : List ByteArray) : List ByteArray × Bool := l.foldl (insStep s) ([], false)
noncomputable def insS (l : List ByteArray) (s : ByteArray) : List ByteArray := if s ∈ l then l else if (insR s l).2 then (insR s l).1 else (insR s l).1 ++ [s]
theorem insR_snoc {s x : ByteArray} {l : List ByteArray} {i : Nat} (h : l[i]? = some x) : insR s (l.take (i + 1)) = insStep s (insR s (l.take i)) x := by
  rw [take_snoc h, insR, insR, List.foldl_append]; rfl
theorem insR_len (s : ByteArray) (l : List ByteArray) : (insR s l).1.length ≤ l.length + (if (insR s l).2 then 1 else 0) := by
  have key : ∀ (l : List ByteArray) (r : List ByteArray × Bool), (l.foldl (insStep s) r).1.length + (if r.2 then 1 else 0) = r.1.length + l.length + (if (l.foldl (insStep s) r).2 then 1 else 0) := by
    intro l
    induction l with
    | nil => intro r; rfl
    | cons x l ih =>
      intro r
      have := ih (insStep s r x)
      rw [List.foldl_cons]
      unfold insStep at this ⊢
      split at this
      · rename_i h
        rw [if_pos h]
        simp only [h.1, List.length_append, List.length_cons, List.length_nil, if_true, Bool.false_eq_true, if_false] at this ⊢
        omega
      · rename_i h
        rw [if_neg h]
        simp only [List.length_append, List.length_cons, List.length_nil] at this ⊢
        omega
  have := key l ([], false)
  simp only [Bool.false_eq_true, if_false, List.length_nil] at this
  rw [insR]; omega
/-- Ascending, each one once. -/
def StrS (l : List ByteArray) : Prop := l.Pairwise fun a b => ltS a b = true
theorem StrS.nodup {l : List ByteArray} (h : StrS l) : l.Nodup := h.imp fun {a b} hab e => by subst e; rw [lt_irr] at hab; cases hab
theorem StrS.same : ∀ {l m : List ByteArray}, StrS l → StrS m → (∀ x, x ∈ l ↔ x ∈ m) → l = m
  | [], [], _, _, _ => rfl
  | [], b :: m, _, _, h => by have := (h b).2 (by simp); cases this
  | a :: l, [], _, _, h => by have := (h a).1 (by simp); cases this
  | a :: l, b :: m, h1, h2, h => by
    obtain ⟨g1, g2⟩ := List.pairwise_cons.1 h1
    obtain ⟨k1, k2⟩ := List.pairwise_cons.1 h2
    have hab : a = b := by
      rcases List.mem_cons.1 ((h a).1 (by simp)) with e | hm
      · exact e
      · rcases List.mem_cons.1 ((h b).2 (by simp)) with e | hl
        · exact e.symm
        · have := lt_asym (k1 a hm)
          rw [g1 b hl] at this; cases this
    subst hab
    rw [StrS.same g2 k2 fun x => ?_]
    have hx := h x
    constructor
    · intro hxl
      rcases List.mem_cons.1 (hx.1 (by simp [hxl])) with e | hm
      · subst e; have := g1 x hxl; rw [lt_irr] at this; cases this
      · exact hm
    · intro hxm
      rcases List.mem_cons.1 (hx.2 (by simp [hxm])) with e | hm
      · subst e; have := k1 x hxm; rw [lt_irr] at this; cases this
      · exact hm
/-- What the rounds have made of the elements before. -/
theorem insR_inv {s : ByteArray} : ∀ (l : List ByteArray), StrS l → s ∉ l → StrS (insR s l).1 ∧ (∀ x, x ∈ (insR s l).1 ↔ x ∈ l ∨ ((insR s l).2 = true ∧ x = s)) ∧ ((insR s l).2 = false → ∀ x ∈ l, ltS x s = true) := by
  intro l
  have key : ∀ n, n ≤ l.length → StrS l → s ∉ l → StrS (insR s (l.take n)).1 ∧ (∀ x, x ∈ (insR s (l.take n)).1 ↔ x ∈ l.take n ∨ ((insR s (l.take n)).2 = true ∧ x = s)) ∧ ((insR s (l.take n)).2 = false → ∀ x ∈ l.take n, ltS x s = true) ∧ ((insR s (l.take n)).2 = true → ∃ x ∈ l.take n, ltS s x = true) := by
    intro n
    induction n with
    | zero => intro _ _ _; simp [insR, StrS]
    | succ n ih =>
      intro hn hl hs
      obtain ⟨i1, i2, i3, i4⟩ := ih (by omega) hl hs
      have hx : l[n]? = some l[n] := List.getElem?_eq_getElem (by omega)
      have hmem : l[n] ∈ l := List.getElem_mem _
      have hgt : ∀ y ∈ l.take n, ltS y l[n] = true := fun y hy => by
        obtain ⟨k, hk, rfl⟩ := List.getElem_of_mem hy
        rw [List.length_take] at hk
        rw [List.getElem_take]
        exact List.pairwise_iff_getElem.1 hl k n (by omega) (by omega) (by omega)
      rw [insR_snoc hx, take_snoc hx]
      generalize insR s (l.take n) = r at *
      by_cases hc : r.2 = false ∧ ltS s l[n] = true
      · rw [insStep, if_pos hc]
        have hb := i3 hc.1
        have hr : ∀ x, x ∈ r.1 ↔ x ∈ l.take n := fun x => by rw [i2 x, hc.1]; simp
        refine ⟨?_, fun x => ?_, fun h => by simp at h, fun _ => ⟨l[n], List.mem_append_right _ (List.mem_singleton.2 rfl), hc.2⟩⟩
        · refine List.pairwise_append.2 ⟨List.pairwise_append.2 ⟨i1, by simp, fun a ha b hb' => ?_⟩, by simp, fun a ha b hb' => ?_⟩
          · rw [List.mem_singleton.1 hb']; exact hb a ((hr a).1 ha)
          · rw [List.mem_singleton.1 hb']
            rcases List.mem_append.1 ha with ha | ha
            · exact hgt a ((hr a).1 ha)
            · rw [List.mem_singleton.1 ha]; exact hc.2
        · simp only [List.mem_append, List.mem_singleton, hr]
          constructor
          · rintro ((h | h) | h)
            · exact .inl (.inl h)
            · exact .inr ⟨trivial, h⟩
            · exact .inl (.inr h)
          · rintro ((h | h) | ⟨_, h⟩)
            · exact .inl (.inl h)
            · exact .inr h
            · exact .inl (.inr h)
      · rw [insStep, if_neg hc]
        have hlast : r.2 = false → ltS l[n] s = true := fun h => by
          cases h1 : ltS l[n] s with
          | true => rfl
          | false =>
            cases h2 : ltS s l[n] with
            | true => exact absurd ⟨h, h2⟩ hc
            | false => exact absurd (lt_tot h1 h2 ▸ hmem) hs
        refine ⟨?_, fun x => ?_, fun h x hxm => ?_, fun h => ?_⟩
        · refine List.pairwise_append.2 ⟨i1, by simp, fun a ha b hb' => ?_⟩
          rw [List.mem_singleton.1 hb']
          rcases (i2 a).1 ha with h | ⟨h, rfl⟩
          · exact hgt a h
          · obtain ⟨y, hy, hlt⟩ := i4 h
            exact lt_trans' hlt (hgt y hy)
        · simp only [List.mem_append, List.mem_singleton, i2]
          constructor
          · rintro ((h | h) | h)
            · exact .inl (.inl h)
            · exact .inr h
            · exact .inl (.inr h)
          · rintro ((h | h) | h)
            · exact .inl (.inl h)
            · exact .inr h
            · exact .inl (.inr h)
        · rcases List.mem_append.1 hxm with h' | h'
          · exact i3 h x h'
          · rw [List.mem_singleton.1 h']; exact hlast h
        · obtain ⟨y, hy, hlt⟩ := i4 h
          exact ⟨y, List.mem_append_left _ hy, hlt⟩
  intro h1 h2
  have := key l.length (Nat.le_refl _) h1 h2
  rw [List.take_length] at this
  exact ⟨this.1, this.2.1, this.2.2.1⟩
theorem insS_str {l : List ByteArray} {s : ByteArray} (h : StrS l) : StrS (insS l s) ∧ ∀ x, x ∈ insS l s ↔ x ∈ l ∨ x = s := by
  unfold insS
  by_cases hm : s ∈ l
  · rw [if_pos hm]
    exact ⟨h, fun x => ⟨.inl, fun hx => hx.elim id fun e => e ▸ hm⟩⟩
  · rw [if_neg hm]
    obtain ⟨h1, h2, h3⟩ := insR_inv l h hm
    cases hr : (insR s l).2 with
    | true =>
      rw [if_pos rfl]
      refine ⟨h1, fun x => ?_⟩
      rw [h2 x, hr]; simp
    | false =>
      rw [if_neg (by simp)]
      have hb := h3 hr
      have hme : ∀ x, x ∈ (insR s l).1 ↔ x ∈ l := fun x => by rw [h2 x, hr]; simp
      refine ⟨List.pairwise_append.2 ⟨h1, by simp, fun a ha b hb' => ?_⟩, fun x => ?_⟩
      · rw [List.mem_singleton.1 hb']; exact hb a ((hme a).1 ha)
      · simp only [List.mem_append, List.mem_singleton, hme]
theorem insS_len (l : List ByteArray) (s : ByteArray) : (insS l s).length ≤ l.length + 1 := by
  unfold insS
  have := insR_len s l
  split
  · omega
  · split
    · rename_i h; rw [if_pos h] at this; exact this
    · rename_i h; rw [if_neg h] at this; rw [List.length_append]; simp; omega
noncomputable def insAll (l ns : List ByteArray) : List ByteArray := ns.foldl insS l
theorem insAll_str : ∀ {ns l : List ByteArray}, StrS l → StrS (insAll l ns) ∧ ∀ x, x ∈ insAll l ns ↔ x ∈ l ∨ x ∈ ns
  | [], l, h => ⟨h, fun x => by simp [insAll]⟩
  | s :: ns, l, h => by
    obtain ⟨h1, h2⟩ := insS_str (s := s) h
    obtain ⟨h3, h4⟩ := insAll_str (ns := ns) h1
    refine ⟨h3, fun x => ?_⟩
    rw [insAll, List.foldl_cons]
    have := h4 x
    rw [insAll] at this
    rw [this, h2 x, List.mem_cons, or_assoc]
theorem insAll_len : ∀ (ns l : List ByteArray), (insAll l ns).length ≤ l.length + ns.length
  | [], l => by simp [insAll]
  | s :: ns, l => by
    have h1 := insS_len l s
    have h2 := insAll_len ns (insS l s)
    rw [insAll, List.foldl_cons]
    rw [insAll] at h2
    rw [List.length_cons]; omega
theorem compactS_mem : ∀ (l : List ByteArray) (x : ByteArray), x ∈ compactS l ↔ x ∈ l
  | [], x => by simp [compactS]
  | [a], x => by simp [compactS]
  | a :: b :: l, x => by
    rw [compactS]
    split
    · rename_i e
      subst e
      rw [compactS_mem (a :: l) x]; simp
    · rw [List.mem_cons, compactS_mem (b :: l) x]; simp
theorem compactS_str : ∀ {l : List ByteArray}, AscS l → StrS (compactS l)
  | [], _ => List.Pairwise.nil
  | [a], _ => List.pairwise_singleton _ _
  | a :: b :: l, h => by
    obtain ⟨h1, h2⟩ := List.pairwise_cons.1 h
    rw [compactS]
    have ih := compactS_str (l := b :: l) h2
    split
    · exact ih
    · rename_i hne
      refine List.pairwise_cons.2 ⟨fun x hx => ?_, ih⟩
      have hx' := (compactS_mem _ _).1 hx
      have hxa := h1 x hx'
      cases hax : ltS a x with
      | true => rfl
      | false =>
        have hex := lt_tot hax hxa
        subst hex
        rcases List.mem_cons.1 hx' with e | hx''
        · exact absurd e hne
        · have h3 := (List.pairwise_cons.1 h2).1 a hx''
          exact absurd (lt_tot h3 (h1 b (by simp))) hne
/-- Both lists of names. -/
theorem names_same {l' ns : List ByteArray} (hp : l'.Perm ns) (ha : AscS l') : compactS l' = insAll [] ns := by
  obtain ⟨h1, h2⟩ := insAll_str (ns := ns) (l := []) List.Pairwise.nil
  exact StrS.same (compactS_str ha) h1 fun x => by rw [compactS_mem, hp.mem_iff, h2 x]; simp
theorem strs_snoc (l : List ByteArray) (s : ByteArray) : strsC l ++ [.string s] = strsC (l ++ [s]) := by simp [strsC]
theorem growS_snoc {y : ByteArray} {vo : Value} {cs : List ByteArray} {G : Own} (h : GrowS 9 1 vo (cs.length + 1) (strsC cs ++ [.string y]) G) : GrowS 9 1 vo (cs ++ [y]).length (strsC (cs ++ [y])) G := by rw [List.length_append, ← strs_snoc]; exact h
theorem rinsert_spec {X : PMap} {v : Value} {l : List ByteArray} {s : ByteArray} (h : RowR strC X v l) (hl : l.length < 1000000) : Spec Tryd.prog 80 [v, .string s] X fun u X' => RowR strC X' u (insS l s) := by
  obtain ⟨A, cp, rfl⟩ := h.form
  have hmx : maxLen = 9223372036854775807 := rfl
  refine Spec.enter Tryd.func80 rfl Tryd.ntmps80 rfl ?_
  intro w0 hw0
  refine T.seq ?_
  refine T.region ?_
  refine SL.y (op_assign rfl) rfl rfl ?_
  refine SL.nil ?_
  refine T.seq ?_
  refine T.region ?_
  refine SL.y (op_assign rfl) rfl rfl ?_
  refine SL.nil ?_
  refine T.seq ?_
  refine T.region ?_
  refine SL.y (op_assign rfl) rfl rfl ?_
  refine SL.nil ?_
  refine T.seq ?_
  refine T.seq ?_
  refine T.region ?_
  refine SL.y (op_move rfl) rfl rfl ?_
  refine SL.y (op_lenS Tryd.underlying24 rfl) rfl rfl ?_
  refine SL.y (op_move (v := .int .i64 ((0 : Nat) : Int)) rfl) rfl rfl ?_
  refine SL.nil ?_
  refine T.block ?_
  -- loop live [0, 1, 4, 5, 6, 9, 10, 11]
  refine T.loopW (fun m env own X' => ∃ (i : Nat) (vo : Value) (G : Own), m = l.length - i ∧ i ≤ l.length ∧ X.le X' ∧ s ∉ l.take i ∧ GrowS 9 1 vo (insR s (l.take i)).1.length (strsC (insR s (l.take i)).1) G ∧ env = [(0, .slice A l.length cp), (1, .string s), (5, vo), (6, .bool (insR s (l.take i)).2), (9, .slice A l.length cp), (10, .int .i64 (l.length : Int)), (11, .int .i64 (i : Int))] ∧ own = G) l.length ⟨0, _, _, by simp, by omega, PMap.le_refl _, by simp, GrowS.nil, rfl, rfl⟩ (by repeat (first | exact Sub.nil | refine Sub.cons rfl ?_)) ?_
  rintro m _ _ X1 ⟨i, vo, G, rfl, hi, hX1, hns, hG, rfl, rfl⟩
  have hlen := insR_len s (l.take i)
  have hlt : (l.take i).length ≤ l.length := by rw [List.length_take]; omega
  have hle : (if (insR s (l.take i)).2 then 1 else 0) ≤ 1 := by split <;> omega
  rcases Nat.lt_or_ge i l.length with hil | hil
  · obtain ⟨x, hx⟩ : ∃ x, l[i]? = some x := ⟨_, List.getElem?_eq_getElem hil⟩
    obtain ⟨b, pre, rfl, hB⟩ := h.blk (by omega)
    have hst := insR_snoc (s := s) hx
    have hts := take_snoc hx
    obtain ⟨Av, cv, rfl⟩ := hG.form
    refine T.seq ?_
    refine T.region ?_
    first | refine SL.y (op_lssT rfl rfl (by omega)) rfl rfl ?_ | refine SL.y (op_lssF rfl rfl (by omega)) rfl rfl ?_ | refine SL.y (op_lss rfl rfl) rfl rfl ?_
    refine SL.nil ?_
    refine T.seq ?_
    refine T.condT rfl ?_
    refine T.skip ?_
    refine T.seq ?_
    refine T.block ?_
    refine T.seq ?_
    refine T.region ?_
    first | refine SL.y (op_indexN Tryd.underlying24 ty9 rfl rfl (by omega)) rfl rfl ?_ | refine SL.y (op_index Tryd.underlying24 ty9 rfl rfl (by omega) (by omega)) rfl rfl ?_
    -- to 14: op
    refine SL.y (op_loadX ty9 rfl (hB.mono hX1) (str_read hx (by omega))) rfl rfl ?_
    refine SL.y (op_assign rfl) rfl rfl ?_
    refine SL.nil ?_
    refine T.seq ?_
    refine T.seq ?_
    refine T.region ?_
    refine SL.y (op_move rfl) rfl rfl ?_
    refine SL.y (op_move rfl) rfl rfl ?_
    refine SL.y (op_eqlStrD rfl rfl) rfl rfl ?_
    refine SL.nil ?_
    -- cond
    by_cases hxs : x = s
    · rw [decide_eq_true hxs]
      refine T.condT rfl ?_
      refine T.seq ?_
      refine T.region ?_
      refine SL.y (op_move rfl) rfl rfl ?_
      refine SL.y (op_assign rfl) rfl rfl ?_
      refine SL.nil ?_
      -- ret
      refine T.ret1 rfl (ResIs.tmp rfl) ?_
      rw [insS, if_pos (hxs ▸ List.mem_of_getElem? hx)]
      exact h.mono hX1
    · rw [decide_eq_false hxs]
      have hns2 : s ∉ l.take (i + 1) := by rw [hts]; simp [hns, Ne.symm hxs]
      cases hd : (insR s (l.take i)).2 with
      | true =>
        have hst2 : insR s (l.take (i + 1)) = ((insR s (l.take i)).1 ++ [x], true) := by rw [hst, insStep, hd]; simp
        refine T.condF rfl ?_
        refine T.skip ?_
        refine T.seq ?_
        refine T.seq ?_
        refine T.region ?_
        refine SL.y (op_move rfl) rfl rfl ?_
        refine SL.y (op_not rfl) rfl rfl ?_
        refine SL.y (op_move rfl) rfl rfl ?_
        first | refine SL.skip rfl rfl ?_ | refine SL.y (op_move rfl) rfl rfl ?_
        first | refine SL.skip rfl rfl ?_ | refine SL.y (op_move rfl) rfl rfl ?_
        first | refine SL.skip rfl rfl ?_ | refine SL.y (op_lssStr rfl rfl) rfl rfl ?_
        first | refine SL.y (op_pickT rfl rfl) rfl rfl ?_ | refine SL.y (op_pickF rfl rfl) rfl rfl ?_ | refine SL.y (op_pickB rfl rfl rfl) rfl rfl ?_
        refine SL.nil ?_
        refine T.condF rfl ?_
        refine T.skip ?_
        refine T.region ?_
        refine SL.y (op_move rfl) rfl rfl ?_
        refine SL.y (op_move rfl) rfl rfl ?_
        refine SL.x (op_buildSlice Tryd.underlying24 bs9 (qs := [(0, _)]) rfl rfl rfl rfl rfl) rfl rfl ?_
        rintro _ _ _ ⟨B32, rfl, rfl, rfl⟩
        -- op
        refine SL.x (op_appendG (own0 := []) sl24 rfl hG rfl rfl rfl (by omega) (by omega)) rfl rfl ?_
        rintro vo2 _ _ ⟨G2, rfl, rfl, hG2⟩
        refine SL.y (op_assign rfl) rfl rfl ?_
        refine SL.nil ?_
        refine T.blk ?_
        refine T.region ?_
        first | refine SL.y (op_addN (q := 1) rfl rfl (by omega)) rfl rfl ?_ | refine SL.y (op_add rfl rfl (by omega) (by omega)) rfl rfl ?_ | refine SL.y (op_addW rfl rfl) rfl rfl ?_
        refine SL.y (op_move rfl) rfl rfl ?_
        refine SL.nil ?_
        -- cut
        exact T.backW (l.length - (i + 1)) (by omega) ⟨i + 1, vo2, _, rfl, by omega, hX1, hns2, by rw [hst2]; exact growS_snoc hG2, by rw [hst2], rfl⟩ (by repeat (first | exact Sub.nil | refine Sub.cons rfl ?_))
      | false =>
        refine T.condF rfl ?_
        refine T.skip ?_
        refine T.seq ?_
        refine T.seq ?_
        refine T.region ?_
        refine SL.y (op_move rfl) rfl rfl ?_
        refine SL.y (op_not rfl) rfl rfl ?_
        refine SL.y (op_move rfl) rfl rfl ?_
        first | refine SL.skip rfl rfl ?_ | refine SL.y (op_move rfl) rfl rfl ?_
        first | refine SL.skip rfl rfl ?_ | refine SL.y (op_move rfl) rfl rfl ?_
        first | refine SL.skip rfl rfl ?_ | refine SL.y (op_lssStr rfl rfl) rfl rfl ?_
        first | refine SL.y (op_pickT rfl rfl) rfl rfl ?_ | refine SL.y (op_pickF rfl rfl) rfl rfl ?_ | refine SL.y (op_pickB rfl rfl rfl) rfl rfl ?_
        refine SL.nil ?_
        -- cond
        rw [show Op.bytesLess s.toList x.toList = ltS s x from rfl]
        cases hlt2 : ltS s x with
        | true =>
          have hst2 : insR s (l.take (i + 1)) = ((insR s (l.take i)).1 ++ [s] ++ [x], true) := by rw [hst, insStep, hd]; simp [hlt2]
          refine T.condT rfl ?_
          refine T.seq ?_
          refine T.region ?_
          refine SL.y (op_move rfl) rfl rfl ?_
          refine SL.y (op_move rfl) rfl rfl ?_
          refine SL.x (op_buildSlice Tryd.underlying24 bs9 (qs := [(0, _)]) rfl rfl rfl rfl rfl) rfl rfl ?_
          rintro _ _ _ ⟨B28, rfl, rfl, rfl⟩
          -- op
          refine SL.x (op_appendG (own0 := []) sl24 rfl hG rfl rfl rfl (by omega) (by omega)) rfl rfl ?_
          rintro vo2 _ _ ⟨G2, rfl, rfl, hG2⟩
          have hG2 := growS_snoc hG2
          obtain ⟨Av2, cv2, rfl⟩ := hG2.form
          refine SL.y (op_assign rfl) rfl rfl ?_
          refine SL.nil ?_
          refine T.region ?_
          refine SL.y (op_assign rfl) rfl rfl ?_
          refine SL.nil ?_
          refine T.region ?_
          refine SL.y (op_move rfl) rfl rfl ?_
          refine SL.y (op_move rfl) rfl rfl ?_
          refine SL.x (op_buildSlice Tryd.underlying24 bs9 (qs := [(0, _)]) rfl rfl rfl rfl rfl) rfl rfl ?_
          rintro _ _ _ ⟨B32, rfl, rfl, rfl⟩
          -- op
          refine SL.x (op_appendG (own0 := []) sl24 rfl hG2 rfl rfl rfl (by rw [List.length_append]; simp; omega) (by rw [List.length_append]; simp; omega)) rfl rfl ?_
          rintro vo3 _ _ ⟨G3, rfl, rfl, hG3⟩
          refine SL.y (op_assign rfl) rfl rfl ?_
          refine SL.nil ?_
          refine T.blk ?_
          refine T.region ?_
          first | refine SL.y (op_addN (q := 1) rfl rfl (by omega)) rfl rfl ?_ | refine SL.y (op_add rfl rfl (by omega) (by omega)) rfl rfl ?_ | refine SL.y (op_addW rfl rfl) rfl rfl ?_
          refine SL.y (op_move rfl) rfl rfl ?_
          refine SL.nil ?_
          -- cut
          exact T.backW (l.length - (i + 1)) (by omega) ⟨i + 1, vo3, _, rfl, by omega, hX1, hns2, by rw [hst2]; exact growS_snoc hG3, by rw [hst2], rfl⟩ (by repeat (first | exact Sub.nil | refine Sub.cons rfl ?_))
        | false =>
          have hst2 : insR s (l.take (i + 1)) = ((insR s (l.take i)).1 ++ [x], false) := by rw [hst, insStep, hd]; simp [hlt2]
          refine T.condF rfl ?_
          refine T.skip ?_
          refine T.region ?_
          refine SL.y (op_move rfl) rfl rfl ?_
          refine SL.y (op_move rfl) rfl rfl ?_
          refine SL.x (op_buildSlice Tryd.underlying24 bs9 (qs := [(0, _)]) rfl rfl rfl rfl rfl) rfl rfl ?_
          rintro _ _ _ ⟨B32, rfl, rfl, rfl⟩
          -- op
          refine SL.x (op_appendG (own0 := []) sl24 rfl hG rfl rfl rfl (by omega) (by omega)) rfl rfl ?_
          rintro vo2 _ _ ⟨G2, rfl, rfl, hG2⟩
          refine SL.y (op_assign rfl) rfl rfl ?_
          refine SL.nil ?_
          refine T.blk ?_
          refine T.region ?_
          first | refine SL.y (op_addN (q := 1) rfl rfl (by omega)) rfl rfl ?_ | refine SL.y (op_add rfl rfl (by omega) (by omega)) rfl rfl ?_ | refine SL.y (op_addW rfl rfl) rfl rfl ?_
          refine SL.y (op_move rfl) rfl rfl ?_
          refine SL.nil ?_
          -- cut
          exact T.backW (l.length - (i + 1)) (by omega) ⟨i + 1, vo2, _, rfl, by omega, hX1, hns2, by rw [hst2]; exact growS_snoc hG2, by rw [hst2], rfl⟩ (by repeat (first | exact Sub.nil | refine Sub.cons rfl ?_))
  · obtain rfl : i = l.length := by omega
    rw [List.take_length] at *
    obtain ⟨Av, cv, rfl⟩ := hG.form
    cases hd : (insR s l).2 with
    | true =>
      refine T.seq ?_
      refine T.region ?_
      first | refine SL.y (op_lssT rfl rfl (by omega)) rfl rfl ?_ | refine SL.y (op_lssF rfl rfl (by omega)) rfl rfl ?_ | refine SL.y (op_lss rfl rfl) rfl rfl ?_
      refine SL.nil ?_
      refine T.seq ?_
      refine T.condF rfl ?_
      refine T.exit (T.exitCode (T.exitCut (T.exitBlk ?_)))
      refine T.seq ?_
      refine T.seq ?_
      refine T.region ?_
      refine SL.y (op_move rfl) rfl rfl ?_
      refine SL.y (op_not rfl) rfl rfl ?_
      refine SL.nil ?_
      refine T.condF rfl ?_
      refine T.skip ?_
      refine T.seq ?_
      refine T.region ?_
      refine SL.y (op_move rfl) rfl rfl ?_
      refine SL.y (op_assign rfl) rfl rfl ?_
      refine SL.nil ?_
      -- ret
      refine T.pubG (own0 := []) hG ?_
      intro X9 hX9 hS9
      refine T.ret1 rfl (ResIs.tmp rfl) ?_
      rw [insS, if_neg hns, hd, if_pos rfl]
      exact RowR.ofG (rc := strC) (by rw [strsC_flat]; exact hG) (by rw [strsC_flat]; exact hS9)
    | false =>
      refine T.seq ?_
      refine T.region ?_
      first | refine SL.y (op_lssT rfl rfl (by omega)) rfl rfl ?_ | refine SL.y (op_lssF rfl rfl (by omega)) rfl rfl ?_ | refine SL.y (op_lss rfl rfl) rfl rfl ?_
      refine SL.nil ?_
      refine T.seq ?_
      refine T.condF rfl ?_
      refine T.exit (T.exitCode (T.exitCut (T.exitBlk ?_)))
      refine T.seq ?_
      refine T.seq ?_
      refine T.region ?_
      refine SL.y (op_move rfl) rfl rfl ?_
      refine SL.y (op_not rfl) rfl rfl ?_
      refine SL.nil ?_
      refine T.condT rfl ?_
      refine T.region ?_
      refine SL.y (op_move rfl) rfl rfl ?_
      refine SL.y (op_move rfl) rfl rfl ?_
      refine SL.x (op_buildSlice Tryd.underlying24 bs9 (qs := [(0, _)]) rfl rfl rfl rfl rfl) rfl rfl ?_
      rintro _ _ _ ⟨B39, rfl, rfl, rfl⟩
      -- op
      refine SL.x (op_appendG (own0 := []) sl24 rfl hG rfl rfl rfl (by omega) (by omega)) rfl rfl ?_
      rintro vo2 _ _ ⟨G2, rfl, rfl, hG2⟩
      have hG2 := growS_snoc hG2
      obtain ⟨Av2, cv2, rfl⟩ := hG2.form
      refine SL.y (op_assign rfl) rfl rfl ?_
      refine SL.nil ?_
      refine T.seq ?_
      refine T.region ?_
      refine SL.y (op_move rfl) rfl rfl ?_
      refine SL.y (op_assign rfl) rfl rfl ?_
      refine SL.nil ?_
      -- ret
      refine T.pubG (own0 := []) hG2 ?_
      intro X9 hX9 hS9
      refine T.ret1 rfl (ResIs.tmp rfl) ?_
      rw [insS, if_neg hns, hd, if_neg (by simp)]
      exact RowR.ofG (rc := strC) (by rw [strsC_flat]; exact hG2) (by rw [strsC_flat]; exact hS9)
theorem insAll_snoc (l ns : List ByteArray) (s : ByteArray) : insAll l (ns ++ [s]) = insS (insAll l ns) s := by simp [insAll]
theorem insAll_app (l a b : List ByteArray) : insAll l (a ++ b) = insAll (insAll l a) b := by simp [insAll]
theorem rgather_spec (N : Nat) : ∀ {X : PMap} {e : Ex} {r : Row4} {lv : Value} {l : List ByteArray}, wtE e ≤ N → l.length + wtE e < 900000 → ExR .i64 X e r → RowR strC X lv l →
    Spec Tryd.prog 52 [lv, .agg #[r.1, r.2.1, r.2.2.1, r.2.2.2]] X fun u X' => RowR strC X' u (insAll l (allE e)) := by
  induction N with
  | zero => intro X e r lv l h; cases e; rw [wtE] at h; omega
  | succ N ih =>
    intro X e r lv l hN hB h hl0
    have hmx : maxLen = 9223372036854775807 := rfl
    cases h with
    | @mk op n ns al vn va rows hn ha hl hr =>
    obtain ⟨Aa, ca, rfl⟩ := ha.form
    obtain ⟨An, cn, rfl⟩ := hn.form
    have hlen := wtL_len al
    have hnl := wtS_len ns
    rw [wtE] at hN hB
    refine Spec.enter Tryd.func52 rfl Tryd.ntmps52 rfl ?_
    intro w0 hw0
    refine T.seq ?_
    refine T.region ?_
    refine SL.x (op_box rfl) rfl rfl ?_
    rintro _ _ _ ⟨B3, rfl, rfl, rfl⟩
    refine SL.y (op_assign rfl) rfl rfl ?_
    refine SL.nil ?_
    refine T.seq ?_
    refine T.seq ?_
    refine T.region ?_
    refine SL.y (op_fieldAddr fa27_2 rfl) rfl rfl ?_
    first | refine SL.y (op_load ty24 rfl (by repeat (first | exact AtO.here | apply AtO.there)) rfl) rfl rfl ?_ | refine SL.y (op_loadX ty24 rfl (by assumption) rfl) rfl rfl ?_
    refine SL.y (op_lenS Tryd.underlying24 rfl) rfl rfl ?_
    refine SL.y (op_move (v := .int .i64 ((0 : Nat) : Int)) rfl) rfl rfl ?_
    refine SL.nil ?_
    refine T.block ?_
    -- loop live [0, 3, 4, 10, 11, 12]
    refine T.loopW (fun m env own X' => ∃ (i : Nat) (lv : Value), m = ns.length - i ∧ i ≤ ns.length ∧ X.le X' ∧ RowR strC X' lv (insAll l (ns.take i)) ∧ env = [(0, lv), (3, .pointer (some ⟨B3, 0, none⟩)), (10, .slice An ns.length cn), (11, .int .i64 (ns.length : Int)), (12, .int .i64 (i : Int))] ∧ own = [⟨B3, [.int .i64 (op : Int), .int .i64 n, .slice An ns.length cn, .slice Aa rows.length ca], 27, 4⟩]) ns.length ⟨0, _, by simp, by omega, PMap.le_refl _, by simpa [insAll] using hl0, rfl, rfl⟩ (by repeat (first | exact Sub.nil | refine Sub.cons rfl ?_)) ?_
    rintro m _ _ X1 ⟨i, lv1, rfl, hi, hX1, hL1, rfl, rfl⟩
    have hle := insAll_len (ns.take i) l
    have hti : (ns.take i).length ≤ ns.length := by rw [List.length_take]; omega
    rcases Nat.lt_or_ge i ns.length with hil | hil
    · obtain ⟨x, hx⟩ : ∃ x, ns[i]? = some x := ⟨_, List.getElem?_eq_getElem hil⟩
      obtain ⟨b, pre, rfl, hB1⟩ := hn.blk (by omega)
      refine T.seq ?_
      refine T.region ?_
      first | refine SL.y (op_lssT rfl rfl (by omega)) rfl rfl ?_ | refine SL.y (op_lssF rfl rfl (by omega)) rfl rfl ?_ | refine SL.y (op_lss rfl rfl) rfl rfl ?_
      refine SL.nil ?_
      refine T.seq ?_
      refine T.condT rfl ?_
      refine T.skip ?_
      refine T.seq ?_
      refine T.block ?_
      refine T.seq ?_
      refine T.region ?_
      first | refine SL.y (op_indexN Tryd.underlying24 ty9 rfl rfl (by omega)) rfl rfl ?_ | refine SL.y (op_index Tryd.underlying24 ty9 rfl rfl (by omega) (by omega)) rfl rfl ?_
      -- to 15: op
      refine SL.y (op_loadX ty9 rfl (hB1.mono hX1) (str_read hx (by omega))) rfl rfl ?_
      refine SL.y (op_assign rfl) rfl rfl ?_
      refine SL.nil ?_
      refine T.region ?_
      refine SL.y (op_move rfl) rfl rfl ?_
      refine SL.y (op_move rfl) rfl rfl ?_
      -- op
      refine SL.x (op_callF en80 (vs := [_, _]) rfl (rinsert_spec hL1 (by omega))) rfl rfl ?_
      rintro lv2 _ X2 ⟨rfl, hX2, hL2⟩
      rw [← insAll_snoc, ← take_snoc hx] at hL2
      refine SL.y (op_assign rfl) rfl rfl ?_
      refine SL.nil ?_
      refine T.blk ?_
      refine T.region ?_
      first | refine SL.y (op_addN (q := 1) rfl rfl (by omega)) rfl rfl ?_ | refine SL.y (op_add rfl rfl (by omega) (by omega)) rfl rfl ?_ | refine SL.y (op_addW rfl rfl) rfl rfl ?_
      refine SL.y (op_move rfl) rfl rfl ?_
      refine SL.nil ?_
      -- cut
      exact T.backW (ns.length - (i + 1)) (by omega) ⟨i + 1, lv2, rfl, by omega, hX1.trans' hX2, hL2, rfl, rfl⟩ (by repeat (first | exact Sub.nil | refine Sub.cons rfl ?_))
    obtain rfl : i = ns.length := by omega
    rw [List.take_length] at hL1
    refine T.seq ?_
    refine T.region ?_
    first | refine SL.y (op_lssT rfl rfl (by omega)) rfl rfl ?_ | refine SL.y (op_lssF rfl rfl (by omega)) rfl rfl ?_ | refine SL.y (op_lss rfl rfl) rfl rfl ?_
    refine SL.nil ?_
    refine T.seq ?_
    refine T.condF rfl ?_
    refine T.exit (T.exitCode (T.exitCut (T.exitBlk ?_)))
    refine T.seq ?_
    refine T.seq ?_
    refine T.region ?_
    refine SL.y (op_fieldAddr fa27_3 rfl) rfl rfl ?_
    first | refine SL.y (op_load ty25 rfl (by repeat (first | exact AtO.here | apply AtO.there)) rfl) rfl rfl ?_ | refine SL.y (op_loadX ty25 rfl (by assumption) rfl) rfl rfl ?_
    refine SL.y (op_lenS Tryd.underlying25 rfl) rfl rfl ?_
    refine SL.y (op_move (v := .int .i64 ((0 : Nat) : Int)) rfl) rfl rfl ?_
    refine SL.nil ?_
    refine T.block ?_
    -- loop live [0, 4, 21, 22, 23]
    refine T.drop B3 (by repeat (first | exact AtO.here | apply AtO.there)) ?_
    refine T.loopW (fun m env own X' => ∃ (i : Nat) (lv : Value), m = rows.length - i ∧ i ≤ rows.length ∧ X1.le X' ∧ RowR strC X' lv (insAll l (ns ++ allL (al.take i))) ∧ env = [(0, lv), (21, .slice Aa rows.length ca), (22, .int .i64 (rows.length : Int)), (23, .int .i64 (i : Int))] ∧ own = []) rows.length ⟨0, _, by simp, by omega, PMap.le_refl _, by simpa [allL] using hL1, rfl, rfl⟩ (by repeat (first | exact Sub.nil | refine Sub.cons rfl ?_)) ?_
    rintro m _ _ X2 ⟨i, lv2, rfl, hi, hX2, hL2, rfl, rfl⟩
    have hwa2 := allL_wt (al.take i)
    have hle2 := insAll_len (ns ++ allL (al.take i)) l
    have hw0 : wtL (al.take i) ≤ wtL al := by
      have := wtL_app (al.drop i) (al.take i)
      rw [List.take_append_drop] at this; omega
    rw [List.length_append] at hle2
    rcases Nat.lt_or_ge i rows.length with hil | hil
    · obtain ⟨r2, hr2⟩ : ∃ r2, rows[i]? = some r2 := ⟨_, List.getElem?_eq_getElem hil⟩
      obtain ⟨a, ha2⟩ : ∃ a, al[i]? = some a := ⟨_, List.getElem?_eq_getElem (by omega)⟩
      have hra := hr i a r2 ha2 hr2
      obtain ⟨bA, pre, rfl, hbA⟩ := ha.blk (by omega)
      obtain ⟨_, _, _, _, _, _, _, _, rfl⟩ := hra.form
      have hts := take_snoc ha2
      have hwa := wtL_mem (List.mem_of_getElem? ha2)
      have hw1 : wtL (al.take (i + 1)) ≤ wtL al := by
        have := wtL_app (al.drop (i + 1)) (al.take (i + 1))
        rw [List.take_append_drop] at this; omega
      have hw2 : wtL (al.take (i + 1)) = wtL (al.take i) + wtE a := by rw [hts, wtL_snoc]
      refine T.seq ?_
      refine T.region ?_
      first | refine SL.y (op_lssT rfl rfl (by omega)) rfl rfl ?_ | refine SL.y (op_lssF rfl rfl (by omega)) rfl rfl ?_ | refine SL.y (op_lss rfl rfl) rfl rfl ?_
      refine SL.nil ?_
      refine T.seq ?_
      refine T.condT rfl ?_
      refine T.skip ?_
      refine T.seq ?_
      refine T.block ?_
      refine T.seq ?_
      refine T.region ?_
      first | refine SL.y (op_indexN Tryd.underlying25 ty27 rfl rfl (by omega)) rfl rfl ?_ | refine SL.y (op_index Tryd.underlying25 ty27 rfl rfl (by omega) (by omega)) rfl rfl ?_
      -- to 26: op
      refine SL.y (op_loadX ty27 rfl (hbA.mono (hX1.trans' hX2)) (row_read rc4_len hr2 (by omega))) rfl rfl ?_
      refine SL.x (op_alloc z27) rfl rfl ?_
      rintro _ _ _ ⟨B8, rfl, rfl, rfl⟩
      refine SL.x (op_store ty27 rfl rfl (by repeat (first | exact AtO.here | apply AtO.there)) rfl rfl rfl) rfl rfl ?_
      rintro _ _ _ ⟨rfl, rfl⟩
      refine SL.nil ?_
      refine T.region ?_
      refine SL.y (op_move rfl) rfl rfl ?_
      first | refine SL.y (op_load ty27 rfl (by repeat (first | exact AtO.here | apply AtO.there)) rfl) rfl rfl ?_ | refine SL.y (op_loadX ty27 rfl (by assumption) rfl) rfl rfl ?_
      -- op
      refine SL.x (op_callF en52 (vs := [_, _]) rfl (ih (by omega) (by omega) (hra.mono (hX1.trans' hX2)) hL2)) rfl rfl ?_
      rintro lv3 _ X3 ⟨rfl, hX3, hL3⟩
      rw [← insAll_app, List.append_assoc, ← allL_snoc, ← hts] at hL3
      refine SL.y (op_assign rfl) rfl rfl ?_
      refine SL.nil ?_
      refine T.blk ?_
      refine T.region ?_
      first | refine SL.y (op_addN (q := 1) rfl rfl (by omega)) rfl rfl ?_ | refine SL.y (op_add rfl rfl (by omega) (by omega)) rfl rfl ?_ | refine SL.y (op_addW rfl rfl) rfl rfl ?_
      refine SL.y (op_move rfl) rfl rfl ?_
      refine SL.nil ?_
      -- cut
      refine T.drop B8 (by repeat (first | exact AtO.here | apply AtO.there)) ?_
      exact T.backW (rows.length - (i + 1)) (by omega) ⟨i + 1, lv3, rfl, by omega, hX2.trans' hX3, hL3, rfl, rfl⟩ (by repeat (first | exact Sub.nil | refine Sub.cons rfl ?_))
    · obtain rfl : i = rows.length := by omega
      rw [show al.take rows.length = al from List.take_of_length_le (by omega)] at hL2
      refine T.seq ?_
      refine T.region ?_
      first | refine SL.y (op_lssT rfl rfl (by omega)) rfl rfl ?_ | refine SL.y (op_lssF rfl rfl (by omega)) rfl rfl ?_ | refine SL.y (op_lss rfl rfl) rfl rfl ?_
      refine SL.nil ?_
      refine T.seq ?_
      refine T.condF rfl ?_
      refine T.exit (T.exitCode (T.exitCut (T.exitBlk ?_)))
      refine T.seq ?_
      refine T.region ?_
      refine SL.y (op_move rfl) rfl rfl ?_
      refine SL.y (op_assign rfl) rfl rfl ?_
      refine SL.nil ?_
      -- ret
      refine T.ret1 rfl (ResIs.tmp rfl) ?_
      rw [allE]; exact hL2
theorem rnames_spec {X : PMap} {e : Ex} {r : Row4} (hw : wtE e < 900000) (h : ExR .i64 X e r) : Spec Tryd.prog 21 [.agg #[r.1, r.2.1, r.2.2.1, r.2.2.2]] X fun u X' => RowR strC X' u (insAll [] (allE e)) := by
  obtain ⟨_, _, _, _, _, _, _, _, rfl⟩ := h.form
  refine Spec.enter Tryd.func21 rfl Tryd.ntmps21 rfl ?_
  intro w0 hw0
  refine T.seq ?_
  refine T.region ?_
  refine SL.x (op_box rfl) rfl rfl ?_
  rintro _ _ _ ⟨B1, rfl, rfl, rfl⟩
  refine SL.y (op_assign rfl) rfl rfl ?_
  refine SL.nil ?_
  refine T.seq ?_
  refine T.region ?_
  first | refine SL.y (op_load ty27 rfl (by repeat (first | exact AtO.here | apply AtO.there)) rfl) rfl rfl ?_ | refine SL.y (op_loadX ty27 rfl (by assumption) rfl) rfl rfl ?_
  -- op
  refine SL.x (op_callF en52 (vs := [_, _]) rfl (rgather_spec _ (Nat.le_refl _) (l := []) (by simp; omega) h (.inl ⟨rfl, _, _, rfl⟩))) rfl rfl ?_
  rintro u _ X1 ⟨rfl, hX1, hu⟩
  refine SL.y (op_assign rfl) rfl rfl ?_
  refine SL.nil ?_
  -- ret
  refine T.ret1 rfl (ResIs.tmp rfl) ?_
  exact hu
end Go.Proofs.YtaooojjhlngcmaaDoor
