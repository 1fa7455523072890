/- Books of assignments: lists of entries in memory; Clone and Insert. -/
import Derived.Test.YtkmnlogacfkjmaaDoorCopy
import Derived.Test.YtkmnlogacfkjmaaDoorFacts
import Derived.Test.YtkmnlogacfkjmaaDoorRef1
namespace Go.Proofs.YtkmnlogacfkjmaaDoor
section
set_option maxRecDepth 100000
theorem bs76 : ∃ i z, Tryd.prog.info? 76 = some i ∧ i.size = 3 ∧ i.zero = some z ∧ z.cells = ([.int .i64 0, .int .i64 0, .int .i64 0] : List Value).toArray := bs_of (by kernel_rfl)
theorem sl74 : SlT Tryd.prog 74 76 3 24 := ⟨Tryd.underlying74, sl_of (by kernel_rfl) (by decide)⟩
theorem ty76 : Ty Tryd.prog 76 true 3 := ⟨⟨_, Tryd.underlying76, rfl⟩, by kernel_rfl⟩
end
open Go.RowKit
abbrev En := Int × Int × Int
def eC (e : En) : List Value := [.int .i64 e.1, .int .i64 e.2.1, .int .i64 e.2.2]
def enC (l : List En) : List Value := (l.map eC).flatten
theorem enC_len (l : List En) : (enC l).length = l.length * 3 := by
  induction l with
  | nil => rfl
  | cons e l ih => rw [enC, List.map_cons, List.flatten_cons, List.length_append, ← enC, ih]; simp [eC]; omega
theorem enC_nil : enC [] = [] := rfl
theorem enC_cons (e : En) (l : List En) : enC (e :: l) = eC e ++ enC l := rfl
theorem enC_append (l m : List En) : enC (l ++ m) = enC l ++ enC m := by simp [enC]
theorem enC_one (l : List En) : ∀ y ∈ enC l, y.oneCell' = true := fun y hy => by
  simp only [enC, List.mem_flatten, List.mem_map] at hy
  obtain ⟨_, ⟨e, _, rfl⟩, hy⟩ := hy
  simp only [eC, List.mem_cons, List.not_mem_nil, or_false] at hy
  rcases hy with rfl | rfl | rfl <;> rfl
theorem eC_one (e : En) : ∀ y ∈ eC e, y.oneCell' = true := fun y hy => enC_one [e] y (by simpa [enC] using hy)
theorem enC_drop (l : List En) (k : Nat) : (enC l).drop (k * 3) = enC (l.drop k) := by
  rcases Nat.lt_or_ge l.length k with h | h
  · rw [List.drop_eq_nil_of_le (by rw [enC_len]; omega), List.drop_eq_nil_of_le (by omega)]; rfl
  · have := enC_append (l.take k) (l.drop k)
    rw [List.take_append_drop] at this
    rw [this, List.drop_left' (by rw [enC_len, List.length_take]; congr 1; omega)]
theorem enC_take (l : List En) (k : Nat) : (enC l).take (k * 3) = enC (l.take k) := by
  rcases Nat.lt_or_ge l.length k with h | h
  · rw [List.take_of_length_le (by rw [enC_len]; omega), List.take_of_length_le (by omega)]
  · have := enC_append (l.take k) (l.drop k)
    rw [List.take_append_drop] at this
    rw [this, List.take_left' (by rw [enC_len, List.length_take]; congr 1; omega)]
theorem enC_at {l : List En} {i : Nat} {e : En} (h : l[i]? = some e) : (enC l)[i * 3]? = some (.int .i64 e.1) ∧ (enC l)[i * 3 + 1]? = some (.int .i64 e.2.1) ∧ (enC l)[i * 3 + 2]? = some (.int .i64 e.2.2) := by
  have hl := (List.getElem?_eq_some_iff.1 h).1
  have hd : l.drop i = e :: l.drop (i + 1) := by rw [List.drop_eq_getElem_cons hl, (List.getElem?_eq_some_iff.1 h).2]
  have hx : ∀ q, (enC l)[i * 3 + q]? = (eC e ++ enC (l.drop (i + 1)))[q]? := fun q => by
    rw [← List.getElem?_drop, enC_drop, hd, enC_cons]
  exact ⟨by have := hx 0; simpa [eC] using this, by have := hx 1; simpa [eC] using this, by have := hx 2; simpa [eC] using this⟩
theorem cread3 {cs : List Value} {k k' : Nat} {x y z : Value} (hx : cs[k]? = some x) (hy : cs[k + 1]? = some y) (hz : cs[k + 2]? = some z) (e : k' = k) : cread true 3 cs k' = some (.agg #[x, y, z]) := by
  subst e
  have hl := (List.getElem?_eq_some_iff.1 hz).1
  have h1 : (cs.drop k').take 3 = [x, y, z] := by
    apply List.ext_getElem?
    intro i
    rcases i with _ | _ | _ | i
    · simp [hx]
    · simp [hy]
    · simp [hz]
    · simp
      omega
  have hb : Nat.ble (k' + 3) cs.length = true := Nat.ble_eq_true_of_le (by omega)
  simp [cread, hb, h1]
/-- Cells replaced in the middle. -/
theorem csets_mid : ∀ (vs old pre suf : List Value), old.length = vs.length → csets (pre ++ old ++ suf) pre.length vs = pre ++ vs ++ suf
  | [], old, pre, suf, h => by
    have : old = [] := List.eq_nil_of_length_eq_zero h
    subst this; rfl
  | v :: vs, [], pre, suf, h => by simp at h
  | v :: vs, o :: old, pre, suf, h => by
    rw [csets]
    have e1 : (pre ++ o :: old ++ suf).set pre.length v = (pre ++ [v]) ++ old ++ suf := by simp
    have e2 := csets_mid vs old (pre ++ [v]) suf (by simpa using h)
    rw [List.length_append, List.length_singleton] at e2
    rw [e1, e2]
    simp
theorem csets_mid' {vs old pre suf cs : List Value} {o : Nat} (hc : cs = pre ++ old ++ suf) (ho : o = pre.length) (h : old.length = vs.length) : csets cs o vs = pre ++ vs ++ suf := by
  subst hc ho; exact csets_mid vs old pre suf h
theorem Src.ofR {own : Own} {X : PMap} {v : Value} {len size : Nat} {cs : List Value} (h : SliceR X v len cs) (hc : cs.length = len * size) : Src own X v len size cs := by
  rcases h with ⟨rfl, rfl, A, c, rfl⟩ | ⟨h0, b, c, rfl, hb⟩
  · exact Src.nil
  · exact Src.ofExt0 hb hc.symm
theorem enR_none {X : PMap} {len c : Nat} {cs : List Value} (h : SliceR X (.slice none len c) len cs) : len = 0 ∧ cs = [] := by
  rcases h with ⟨h1, h2, _⟩ | ⟨_, b, c', hv, _⟩
  · exact ⟨h1, h2⟩
  · cases hv
theorem Src.ownDrop {own : Own} {X : PMap} {b o m c size sz j : Nat} {cs : List Value} {ty : TypeId} (ho : AtO own b cs ty sz j) (he : o + m * size = cs.length) : Src own X (.slice (some ⟨b, o, none⟩) m c) m size (cs.drop o) := by
  have := Src.ofOwn (X := X) (m := m) (c := c) (size := size) ho (Nat.le_of_eq he)
  rwa [List.take_of_length_le (by rw [List.length_drop]; omega)] at this
def zE : List Value := [.int .i64 0, .int .i64 0, .int .i64 0]
theorem zE_len (m : Nat) : ((List.replicate m zE).flatten).length = m * 3 := by simp [zE]
theorem eC_len (e : En) : (eC e).length = 3 := rfl
theorem ins_grow {l : List En} {x : En} {k o1 o2 o3 : Nat} (hk : k < l.length) (h1 : o1 = k * 3) (h2 : o2 = (k + 1) * 3) (h3 : o3 = k * 3) :
    csets (csets (enC (l.take k) ++ (List.replicate (l.length + 1 - k) zE).flatten) o1 ((eC x).take (1 * 3))) o2 (((enC l).drop o3).take ((l.length - k) * 3)) = enC (l.take k ++ x :: l.drop k) := by
  have hz : List.replicate (l.length + 1 - k) zE = zE :: List.replicate (l.length - k) zE := by rw [show l.length + 1 - k = (l.length - k) + 1 by omega, List.replicate_succ]
  have hx : (eC x).take (1 * 3) = eC x := rfl
  have ht : (enC (l.take k)).length = k * 3 := by rw [enC_len, List.length_take]; congr 1; omega
  have ht2 : (enC (l.drop k)).take ((l.length - k) * 3) = enC (l.drop k) := List.take_of_length_le (by rw [enC_len, List.length_drop]; exact Nat.le_refl _)
  rw [hz, hx, List.flatten_cons, ← List.append_assoc, csets_mid' (vs := eC x) (pre := enC (l.take k)) (old := zE) rfl (by rw [h1, ht]) rfl, h3, enC_drop, ht2,
    csets_mid' (pre := enC (l.take k) ++ eC x) (old := (List.replicate (l.length - k) zE).flatten) (suf := []) (by simp) (by rw [List.length_append, ht, h2, eC_len]; omega) (by rw [zE_len, enC_len, List.length_drop])]
  rw [enC_append, enC_cons]; simp
theorem ins_room {l : List En} {x : En} {ds : List Value} {k o1 o2 o3 : Nat} (hk : k < l.length) (hd : ds.length = 3) (h1 : o1 = (k + 1) * 3) (h2 : o2 = k * 3) (h3 : o3 = k * 3) :
    csets (csets (enC l ++ ds) o1 (((enC l ++ ds).drop o3).take ((l.length - k) * 3))) o2 ((eC x).take (1 * 3)) = enC (l.take k ++ x :: l.drop k) := by
  have hx : (eC x).take (1 * 3) = eC x := rfl
  have ht : ∀ q, q ≤ l.length → (enC (l.take q)).length = q * 3 := fun q hq => by rw [enC_len, List.length_take]; congr 1; omega
  have hn : ((enC l ++ ds).drop o3).take ((l.length - k) * 3) = enC (l.drop k) := by
    rw [h3, List.drop_append_of_le_length (by rw [enC_len]; omega), enC_drop, List.take_left' (by rw [enC_len, List.length_drop])]
  have hl : enC l ++ ds = enC (l.take (k + 1)) ++ (enC (l.drop (k + 1)) ++ ds) ++ [] := by
    rw [List.append_nil, ← List.append_assoc, ← enC_append, List.take_append_drop]
  rw [hn, hx, csets_mid' hl (by rw [h1, ht _ (by omega)]) (by rw [List.length_append, enC_len, enC_len, hd, List.length_drop, List.length_drop]; omega),
    csets_mid' (vs := eC x) (pre := enC (l.take k)) (old := eC l[k]) (suf := enC (l.drop k)) (by rw [List.take_succ_eq_append_getElem hk, enC_append]; simp [enC]) (by rw [h2, ht _ (by omega)]) rfl]
  rw [enC_append, enC_cons]; simp
theorem eclone_spec {X : PMap} {v : Value} {l : List En} (h : SliceR X v l.length (enC l)) (hl : l.length < 100000) : SpecO Tryd.prog 47 [v] X fun u own1 _ => GrowS 76 3 u l.length (enC l) own1 := by
  obtain ⟨A, cp, rfl⟩ := h.form
  rcases A with _ | ad
  · obtain ⟨h1, h2⟩ := enR_none h
    refine SpecO.enter Tryd.func47 rfl Tryd.ntmps47 rfl ?_
    intro w0 hw0
    refine T.seq ?_
    refine T.region ?_
    refine SL.y (op_assign rfl) rfl rfl ?_
    refine SL.nil ?_
    refine T.seq ?_
    refine T.seq ?_
    refine T.region ?_
    refine SL.y (op_move rfl) rfl rfl ?_
    refine SL.y (op_eqlSNil Tryd.underlying74 rfl rfl) rfl rfl ?_
    refine SL.nil ?_
    refine T.condT rfl ?_
    refine T.seq ?_
    refine T.region ?_
    refine SL.y (op_assign rfl) rfl rfl ?_
    refine SL.nil ?_
    -- ret
    refine T.retO1 rfl (ResIs.tmp rfl) ?_
    exact .inl ⟨h1, h2, rfl, rfl⟩
  · refine SpecO.enter Tryd.func47 rfl Tryd.ntmps47 rfl ?_
    intro w0 hw0
    refine T.seq ?_
    refine T.region ?_
    refine SL.y (op_assign rfl) rfl rfl ?_
    refine SL.nil ?_
    refine T.seq ?_
    refine T.seq ?_
    refine T.region ?_
    refine SL.y (op_move rfl) rfl rfl ?_
    refine SL.y (op_eqlSNil Tryd.underlying74 rfl rfl) rfl rfl ?_
    refine SL.nil ?_
    refine T.condF rfl ?_
    refine T.skip ?_
    refine T.seq ?_
    refine T.region ?_
    refine SL.x (op_buildSlice Tryd.underlying74 bs76 (qs := []) rfl rfl rfl rfl rfl) rfl rfl ?_
    rintro _ _ _ ⟨B5, rfl, rfl, rfl⟩
    refine SL.y (op_move rfl) rfl rfl ?_
    -- to 7: op
    refine SL.x (op_append (m := l.length) (news := enC l) sl74 rfl rfl (by repeat (first | exact AtO.here | apply AtO.there)) rfl rfl (Nat.le_refl _) (by decide) (Src.ofR h (enC_len l)) (enC_one l) (by (have : maxLen = 9223372036854775807 := rfl); omega) (by omega)) rfl rfl ?_
    rintro _ _ _ ⟨b7, cap7, rfl, rfl, rfl, hc7, hm7⟩
    refine SL.y (op_assign rfl) rfl rfl ?_
    refine SL.nil ?_
    -- ret
    refine T.retO1 rfl (ResIs.tmp rfl) ?_
    exact .inr ⟨b7, cap7, by rw [Nat.zero_add], rfl, by omega, hm7, enC_len l⟩
theorem insert_spec {X : PMap} {sv : Value} {l : List En} {G : Own} {vb : Nat} {x : En} (hG : GrowS 76 3 sv l.length (enC l) G) {k : Nat} (hk : k ≤ l.length) (hl : l.length < 100000) :
    SpecM Tryd.prog 49 [sv, .int .i64 (k : Int), .slice (some ⟨vb, 0, none⟩) 1 1] X (⟨vb, eC x, 76, 3⟩ :: G) fun u L' _ => GrowS 76 3 u (l.length + 1) (enC (l.take k ++ x :: l.drop k)) L' := by
  have hmx : maxLen = 9223372036854775807 := rfl
  have hel := enC_len l
  rcases hG with ⟨h0, h1, rfl, rfl⟩ | ⟨b, cap, rfl, rfl, hc1, hc2, hc3⟩
  · obtain rfl : k = 0 := by omega
    obtain rfl : l = [] := List.eq_nil_of_length_eq_zero h0
    refine SpecM.enter Tryd.func49 rfl Tryd.ntmps49 rfl ?_
    intro w0 X0 own0
    refine T.perm (own' := ⟨vb, eC x, 76, 3⟩ :: own0) (List.Perm.refl _) ?_
    refine T.seq ?_
    refine T.region ?_
    refine SL.y (op_assign rfl) rfl rfl ?_
    refine SL.nil ?_
    refine T.seq ?_
    refine T.region ?_
    refine SL.y (op_move rfl) rfl rfl ?_
    refine SL.y (op_move rfl) rfl rfl ?_
    -- to 12: op
    refine SL.y (op_sliceLo (l := 0) Tryd.underlying74 ty76 rfl rfl (by omega) (by omega)) rfl rfl ?_
    refine SL.nil ?_
    refine T.seq ?_
    refine T.region ?_
    refine SL.y (op_move rfl) rfl rfl ?_
    refine SL.y (op_lenS Tryd.underlying74 rfl) rfl rfl ?_
    refine SL.y (op_assign rfl) rfl rfl ?_
    refine SL.nil ?_
    refine T.seq ?_
    refine T.seq ?_
    refine T.region ?_
    refine SL.y (op_move rfl) rfl rfl ?_
    first | refine SL.y (op_eqlT rfl rfl (by omega)) rfl rfl ?_ | refine SL.y (op_eqlF rfl rfl (by omega)) rfl rfl ?_ | refine SL.y (op_eql rfl rfl) rfl rfl ?_
    refine SL.nil ?_
    refine T.condF rfl ?_
    refine T.skip ?_
    refine T.seq ?_
    refine T.region ?_
    refine SL.y (op_move rfl) rfl rfl ?_
    refine SL.y (op_lenS Tryd.underlying74 rfl) rfl rfl ?_
    refine SL.y (op_assign rfl) rfl rfl ?_
    refine SL.nil ?_
    refine T.seq ?_
    refine T.seq ?_
    refine T.region ?_
    refine SL.y (op_move rfl) rfl rfl ?_
    refine SL.y (op_move rfl) rfl rfl ?_
    first | refine SL.y (op_eqlT rfl rfl (by omega)) rfl rfl ?_ | refine SL.y (op_eqlF rfl rfl (by omega)) rfl rfl ?_ | refine SL.y (op_eql rfl rfl) rfl rfl ?_
    refine SL.nil ?_
    refine T.condT rfl ?_
    refine T.seq ?_
    refine T.region ?_
    refine SL.y (op_move rfl) rfl rfl ?_
    refine SL.y (op_move rfl) rfl rfl ?_
    -- to 25: op
    refine SL.x (op_appendNil (m := 1) (news := eC x) sl74 rfl rfl (Src.ofOwn0 AtO.here rfl) (by omega) (eC_one x) (by omega) (by omega)) rfl rfl ?_
    rintro _ _ _ ⟨b7, cap7, rfl, rfl, rfl, hc7, hm7⟩
    refine SL.y (op_assign rfl) rfl rfl ?_
    refine SL.nil ?_
    -- ret
    refine T.drop vb (by repeat (first | exact AtO.here | apply AtO.there)) ?_
    refine T.retM1 [⟨b7, eC x, 76, cap7 * 3⟩] rfl (ResIs.tmp rfl) (List.Perm.refl _) ?_
    exact ⟨PMap.le_refl _, .inr ⟨b7, cap7, rfl, rfl, by simpa using hc7, hm7, rfl⟩⟩
  · rcases Nat.lt_or_ge k l.length with hkl | hkl
    · refine SpecM.enter Tryd.func49 rfl Tryd.ntmps49 rfl ?_
      intro w0 X0 own0
      refine T.perm (own' := ⟨vb, eC x, 76, 3⟩ :: ⟨b, enC l, 76, cap * 3⟩ :: own0) (List.Perm.refl _) ?_
      refine T.seq ?_
      refine T.region ?_
      refine SL.y (op_assign rfl) rfl rfl ?_
      refine SL.nil ?_
      refine T.seq ?_
      refine T.region ?_
      refine SL.y (op_move rfl) rfl rfl ?_
      refine SL.y (op_move rfl) rfl rfl ?_
      -- to 12: op
      refine SL.y (op_sliceLo (l := k) Tryd.underlying74 ty76 rfl rfl (by omega) (by omega)) rfl rfl ?_
      refine SL.nil ?_
      refine T.seq ?_
      refine T.region ?_
      refine SL.y (op_move rfl) rfl rfl ?_
      refine SL.y (op_lenS Tryd.underlying74 rfl) rfl rfl ?_
      refine SL.y (op_assign rfl) rfl rfl ?_
      refine SL.nil ?_
      refine T.seq ?_
      refine T.seq ?_
      refine T.region ?_
      refine SL.y (op_move rfl) rfl rfl ?_
      first | refine SL.y (op_eqlT rfl rfl (by omega)) rfl rfl ?_ | refine SL.y (op_eqlF rfl rfl (by omega)) rfl rfl ?_ | refine SL.y (op_eql rfl rfl) rfl rfl ?_
      refine SL.nil ?_
      refine T.condF rfl ?_
      refine T.skip ?_
      refine T.seq ?_
      refine T.region ?_
      refine SL.y (op_move rfl) rfl rfl ?_
      refine SL.y (op_lenS Tryd.underlying74 rfl) rfl rfl ?_
      refine SL.y (op_assign rfl) rfl rfl ?_
      refine SL.nil ?_
      refine T.seq ?_
      refine T.seq ?_
      refine T.region ?_
      refine SL.y (op_move rfl) rfl rfl ?_
      refine SL.y (op_move rfl) rfl rfl ?_
      first | refine SL.y (op_eqlT rfl rfl (by omega)) rfl rfl ?_ | refine SL.y (op_eqlF rfl rfl (by omega)) rfl rfl ?_ | refine SL.y (op_eql rfl rfl) rfl rfl ?_
      refine SL.nil ?_
      refine T.condF rfl ?_
      refine T.skip ?_
      refine T.seq ?_
      refine T.seq ?_
      refine T.region ?_
      refine SL.y (op_move rfl) rfl rfl ?_
      refine SL.y (op_move rfl) rfl rfl ?_
      -- to 28: op
      refine SL.y (op_addN (q := 1) rfl rfl (by omega)) rfl rfl ?_
      refine SL.y (op_move rfl) rfl rfl ?_
      -- to 30: op
      refine SL.y (op_capS Tryd.underlying74 rfl) rfl rfl ?_
      have hk1 : l.length + 1 - k = (l.length - k) + 1 := by omega
      have hspl := List.take_append_drop k l
      rcases Nat.lt_or_ge cap (l.length + 1) with hcp | hcp
      · skip
        first | refine SL.y (op_gtrT rfl rfl (by omega)) rfl rfl ?_ | refine SL.y (op_gtrF rfl rfl (by omega)) rfl rfl ?_ | refine SL.y (op_gtr rfl rfl) rfl rfl ?_
        refine SL.nil ?_
        refine T.condT rfl ?_
        refine T.seq ?_
        refine T.region ?_
        refine SL.y (op_move rfl) rfl rfl ?_
        refine SL.y (op_move rfl) rfl rfl ?_
        -- to 34: op
        refine SL.y (op_sliceHiN (l := k) Tryd.underlying74 ty76 rfl rfl rfl (by omega)) rfl rfl ?_
        refine SL.y (op_move rfl) rfl rfl ?_
        refine SL.y (op_move rfl) rfl rfl ?_
        -- to 37: op
        refine SL.y (op_addN (q := 1) rfl rfl (by omega)) rfl rfl ?_
        refine SL.y (op_move rfl) rfl rfl ?_
        -- to 39: op
        refine SL.y (op_subN (p := l.length + 1) (q := k) rfl rfl (by omega) (by omega)) rfl rfl ?_
        refine SL.x (op_appendMake (k := l.length + 1 - k) (olds := enC (l.take k)) (zs := zE) sl74 Tryd.underlying3 rfl rfl rfl (by have := Src.ofOwn (own := ⟨vb, eC x, 76, 3⟩ :: ⟨b, enC l, 76, cap * 3⟩ :: own0) (X := X) (o := 0) (m := k) (c := cap) (size := 3) (AtO.there AtO.here) (by rw [enC_len]; omega); rwa [List.drop_zero, enC_take] at this) (by obtain ⟨i, z, a, _, b, c⟩ := bs76; exact ⟨i, z, a, b, c⟩) (by omega) (by omega) (by omega) (by omega)) rfl rfl ?_
        rintro _ _ _ ⟨b9, cap9, rfl, rfl, rfl, hd1, hd2⟩
        have hkn : k + (l.length + 1 - k) = l.length + 1 := by omega
        refine SL.y (op_assign rfl) rfl rfl ?_
        refine SL.nil ?_
        refine T.seq ?_
        refine T.region ?_
        refine SL.y (op_move rfl) rfl rfl ?_
        refine SL.y (op_move rfl) rfl rfl ?_
        -- to 43: op
        refine SL.y (op_sliceLoN (l := k) Tryd.underlying74 ty76 rfl rfl rfl (by omega) (by omega) (by omega)) rfl rfl ?_
        refine SL.y (op_move rfl) rfl rfl ?_
        -- to 45: op
        refine SL.x (op_copyS (m := 1) (size := 3) Tryd.underlying74 (by kernel_rfl) rfl rfl (by repeat (first | exact AtO.here | apply AtO.there)) (Src.ofOwn0 (AtO.there AtO.here) rfl) (by show 1 = min 1 _; omega) (by rw [List.length_append, enC_len, List.length_take, zE_len]; omega) (fun y hy => eC_one x y (List.mem_of_mem_take hy))) rfl rfl ?_
        rintro _ _ _ ⟨rfl, rfl, rfl⟩
        refine SL.nil ?_
        refine T.seq ?_
        refine T.draw (by kernel_rfl) 8 [.t 0, .t 1, .t 2, .t 3, .t 4, .t 5, .t 6, .t 7] (by kernel_rfl) ?_
        refine SD.take rfl panicBody (op_move rfl) rfl rfl ?_
        refine SD.take rfl panicBody (op_move rfl) rfl rfl ?_
        refine SD.take rfl panicBody (op_move rfl) rfl rfl ?_
        -- to 49: op
        refine SD.take rfl panicBody (op_addN (q := 1) rfl rfl (by omega)) rfl rfl ?_
        -- to 50: op
        refine SD.take rfl panicBody (op_sliceLoN (l := k + 1) Tryd.underlying74 ty76 rfl rfl rfl (by omega) (by omega) (by omega)) rfl rfl ?_
        refine SD.take rfl panicBody (op_move rfl) rfl rfl ?_
        refine SD.take rfl panicBody (op_move rfl) rfl rfl ?_
        -- to 53: op
        refine SD.take rfl panicBody (op_sliceLoN (l := k) Tryd.underlying74 ty76 rfl rfl rfl (by omega) (by omega) (by omega)) rfl rfl ?_
        refine SD.nil ?_
        show SL _ _ _ _ _ _ _ [_] _ _ _
        -- to 54: op
        refine SL.x (op_copyS (m := l.length - k) (size := 3) Tryd.underlying74 (by kernel_rfl) rfl rfl (by repeat (first | exact AtO.here | apply AtO.there)) (Src.ownDrop (AtO.there (AtO.there AtO.here)) (by rw [enC_len]; omega)) (by show l.length - k = min _ _; omega) (by rw [csets_length, List.length_append, enC_len, List.length_take, zE_len]; omega) (fun y hy => enC_one l y (List.mem_of_mem_drop (List.mem_of_mem_take hy)))) rfl rfl ?_
        rintro _ _ _ ⟨rfl, rfl, rfl⟩
        refine SL.nil ?_
        refine T.seq ?_
        refine T.region ?_
        refine SL.y (op_move rfl) rfl rfl ?_
        refine SL.y (op_assign rfl) rfl rfl ?_
        refine SL.nil ?_
        -- ret
        refine T.drop vb (by repeat (first | exact AtO.here | apply AtO.there)) ?_
        refine T.drop b (by repeat (first | exact AtO.here | apply AtO.there)) ?_
        refine T.retM1 [⟨b9, _, 76, cap9 * 3⟩] rfl (ResIs.tmp rfl) (List.Perm.refl _) ?_
        refine ⟨PMap.le_refl _, .inr ⟨b9, cap9, by rw [hkn], ?_, by omega, hd2, ?_⟩⟩
        · rw [ins_grow hkl (by omega) (by omega) (by omega)]
        · rw [enC_len]; simp; omega
      · first | refine SL.y (op_gtrT rfl rfl (by omega)) rfl rfl ?_ | refine SL.y (op_gtrF rfl rfl (by omega)) rfl rfl ?_ | refine SL.y (op_gtr rfl rfl) rfl rfl ?_
        refine SL.nil ?_
        refine T.condF rfl ?_
        refine T.skip ?_
        refine T.seq ?_
        refine T.region ?_
        refine SL.y (op_move rfl) rfl rfl ?_
        refine SL.y (op_move rfl) rfl rfl ?_
        refine SL.y (op_move rfl) rfl rfl ?_
        -- to 59: op
        refine SL.y (op_addN (q := 1) rfl rfl (by omega)) rfl rfl ?_
        refine SL.extend 3 (AtO.there AtO.here) (by rw [enC_len]; omega) ?_
        intro ds hds
        refine SL.perm (own' := ⟨vb, eC x, 76, 3⟩ :: ⟨b, enC l ++ ds, 76, cap * 3⟩ :: own0) (List.Perm.refl _) ?_
        -- to 60: op
        refine SL.y (op_sliceHiN (l := l.length + 1) Tryd.underlying74 ty76 rfl rfl rfl (by omega)) rfl rfl ?_
        refine SL.y (op_assign rfl) rfl rfl ?_
        refine SL.nil ?_
        refine T.seq ?_
        refine T.seq ?_
        refine T.region ?_
        refine SL.y (op_move rfl) rfl rfl ?_
        refine SL.y (op_move rfl) rfl rfl ?_
        refine SL.y (op_move rfl) rfl rfl ?_
        refine SL.y (op_move rfl) rfl rfl ?_
        -- to 65: op
        refine SL.y (op_addN (q := 1) rfl rfl (by omega)) rfl rfl ?_
        -- to 66: op
        refine SL.y (op_sliceLoN (l := k + 1) Tryd.underlying74 ty76 rfl rfl rfl (by omega) (by omega) (by omega)) rfl rfl ?_
        -- to 67: op
        refine SL.ne (AtO.here) (AtO.there AtO.here) (by decide) ?_
        intro hvb
        refine SL.y (op_overlaps (size := 3) (tR := 4) Tryd.func80 (by kernel_rfl) (by kernel_rfl) (by kernel_rfl) (by kernel_rfl) Tryd.underlying74 (by kernel_rfl) rfl rfl AtO.here (AtO.there AtO.here) hvb (by omega)) rfl rfl ?_
        refine SL.y (op_not rfl) rfl rfl ?_
        refine SL.nil ?_
        refine T.condT rfl ?_
        refine T.seq ?_
        refine T.draw (by kernel_rfl) 8 [.t 0, .t 1, .t 2, .t 3, .t 4, .t 5, .t 6, .t 7] (by kernel_rfl) ?_
        refine SD.take rfl panicBody (op_move rfl) rfl rfl ?_
        refine SD.take rfl panicBody (op_move rfl) rfl rfl ?_
        refine SD.take rfl panicBody (op_move rfl) rfl rfl ?_
        -- to 72: op
        refine SD.take rfl panicBody (op_addN (q := 1) rfl rfl (by omega)) rfl rfl ?_
        -- to 73: op
        refine SD.take rfl panicBody (op_sliceLoN (l := k + 1) Tryd.underlying74 ty76 rfl rfl rfl (by omega) (by omega) (by omega)) rfl rfl ?_
        refine SD.take rfl panicBody (op_move rfl) rfl rfl ?_
        refine SD.take rfl panicBody (op_move rfl) rfl rfl ?_
        -- to 76: op
        refine SD.take rfl panicBody (op_sliceLoN (l := k) Tryd.underlying74 ty76 rfl rfl rfl (by omega) (by omega) (by omega)) rfl rfl ?_
        refine SD.nil ?_
        show SL _ _ _ _ _ _ _ [_] _ _ _
        -- to 77: op
        refine SL.x (op_copyS (m := l.length - k) (size := 3) Tryd.underlying74 (by kernel_rfl) rfl rfl (by repeat (first | exact AtO.here | apply AtO.there)) (Src.ownDrop (AtO.there AtO.here) (by rw [List.length_append, enC_len]; omega)) (by show l.length - k = min _ _; omega) (by rw [List.length_append, enC_len]; omega) (fun y hy => by rw [List.drop_append_of_le_length (by rw [enC_len]; omega), List.take_append_of_le_length (by rw [List.length_drop, enC_len]; omega)] at hy; exact enC_one l y (List.mem_of_mem_drop (List.mem_of_mem_take hy)))) rfl rfl ?_
        rintro _ _ _ ⟨rfl, rfl, rfl⟩
        refine SL.nil ?_
        refine T.seq ?_
        refine T.region ?_
        refine SL.y (op_move rfl) rfl rfl ?_
        refine SL.y (op_move rfl) rfl rfl ?_
        -- to 80: op
        refine SL.y (op_sliceLoN (l := k) Tryd.underlying74 ty76 rfl rfl rfl (by omega) (by omega) (by omega)) rfl rfl ?_
        refine SL.y (op_move rfl) rfl rfl ?_
        -- to 82: op
        refine SL.x (op_copyS (m := 1) (size := 3) Tryd.underlying74 (by kernel_rfl) rfl rfl (by repeat (first | exact AtO.here | apply AtO.there)) (Src.ofOwn0 AtO.here rfl) (by show 1 = min 1 _; omega) (by rw [csets_length, List.length_append, enC_len]; omega) (fun y hy => eC_one x y (List.mem_of_mem_take hy))) rfl rfl ?_
        rintro _ _ _ ⟨rfl, rfl, rfl⟩
        refine SL.nil ?_
        refine T.seq ?_
        refine T.region ?_
        refine SL.y (op_move rfl) rfl rfl ?_
        refine SL.y (op_assign rfl) rfl rfl ?_
        refine SL.nil ?_
        -- ret
        refine T.drop vb (by repeat (first | exact AtO.here | apply AtO.there)) ?_
        refine T.retM1 [⟨b, _, 76, cap * 3⟩] rfl (ResIs.tmp rfl) (List.Perm.refl _) ?_
        refine ⟨PMap.le_refl _, .inr ⟨b, cap, rfl, ?_, by omega, hc2, ?_⟩⟩
        · rw [ins_room hkl hds (by omega) (by omega) (by omega)]
        · rw [enC_len]; simp; omega
    · obtain rfl : k = l.length := by omega
      refine SpecM.enter Tryd.func49 rfl Tryd.ntmps49 rfl ?_
      intro w0 X0 own0
      refine T.perm (own' := ⟨vb, eC x, 76, 3⟩ :: ⟨b, enC l, 76, cap * 3⟩ :: own0) (List.Perm.refl _) ?_
      refine T.seq ?_
      refine T.region ?_
      refine SL.y (op_assign rfl) rfl rfl ?_
      refine SL.nil ?_
      refine T.seq ?_
      refine T.region ?_
      refine SL.y (op_move rfl) rfl rfl ?_
      refine SL.y (op_move rfl) rfl rfl ?_
      -- to 12: op
      refine SL.y (op_sliceLo (l := l.length) Tryd.underlying74 ty76 rfl rfl (by omega) (by omega)) rfl rfl ?_
      refine SL.nil ?_
      refine T.seq ?_
      refine T.region ?_
      refine SL.y (op_move rfl) rfl rfl ?_
      refine SL.y (op_lenS Tryd.underlying74 rfl) rfl rfl ?_
      refine SL.y (op_assign rfl) rfl rfl ?_
      refine SL.nil ?_
      refine T.seq ?_
      refine T.seq ?_
      refine T.region ?_
      refine SL.y (op_move rfl) rfl rfl ?_
      first | refine SL.y (op_eqlT rfl rfl (by omega)) rfl rfl ?_ | refine SL.y (op_eqlF rfl rfl (by omega)) rfl rfl ?_ | refine SL.y (op_eql rfl rfl) rfl rfl ?_
      refine SL.nil ?_
      refine T.condF rfl ?_
      refine T.skip ?_
      refine T.seq ?_
      refine T.region ?_
      refine SL.y (op_move rfl) rfl rfl ?_
      refine SL.y (op_lenS Tryd.underlying74 rfl) rfl rfl ?_
      refine SL.y (op_assign rfl) rfl rfl ?_
      refine SL.nil ?_
      refine T.seq ?_
      refine T.seq ?_
      refine T.region ?_
      refine SL.y (op_move rfl) rfl rfl ?_
      refine SL.y (op_move rfl) rfl rfl ?_
      first | refine SL.y (op_eqlT rfl rfl (by omega)) rfl rfl ?_ | refine SL.y (op_eqlF rfl rfl (by omega)) rfl rfl ?_ | refine SL.y (op_eql rfl rfl) rfl rfl ?_
      refine SL.nil ?_
      refine T.condT rfl ?_
      refine T.seq ?_
      refine T.region ?_
      refine SL.y (op_move rfl) rfl rfl ?_
      refine SL.y (op_move rfl) rfl rfl ?_
      -- to 25: op
      refine SL.x (op_append (m := 1) (news := eC x) sl74 rfl rfl (by repeat (first | exact AtO.here | apply AtO.there)) rfl hel hc1 hc2 (Src.ofOwn0 AtO.here rfl) (eC_one x) (by omega) (by omega)) rfl rfl ?_
      rintro _ _ _ ⟨b7, cap7, rfl, rfl, rfl, hc7, hm7⟩
      refine SL.y (op_assign rfl) rfl rfl ?_
      refine SL.nil ?_
      -- ret
      refine T.drop vb (by repeat (first | exact AtO.here | apply AtO.there)) ?_
      refine T.retM1 [⟨b7, _, 76, cap7 * 3⟩] rfl (ResIs.tmp rfl) (List.Perm.refl _) ?_
      refine ⟨PMap.le_refl _, .inr ⟨b7, cap7, rfl, ?_, by omega, hm7, ?_⟩⟩
      · rw [List.take_length, List.drop_length, enC_append, enC_cons, enC_nil, List.append_nil]
      · rw [enC_len]; simp
end Go.Proofs.YtkmnlogacfkjmaaDoor
