/- THE ENGINE, sixth part: make, append, copy, slices of slices, composite literals, bits. No program is named here. -/
import Derived.Test.YtoheffglppbcbaaDoorMem
namespace Go.Proofs.YtoheffglppbcbaaDoor
open Go.RowKit

section
variable {P : Program} {n : NM} {w0 : Base} {X0 X : PMap} {own : Own} {env : Env}

/-- What is known of a slice's type: its element, the element's cells and bytes. -/
structure SlT (P : Program) (t e : TypeId) (size bytes : Nat) : Prop where
  und : P.underlying t = some (.slice e)
  info : ∃ i z, P.info? e = some i ∧ i.size = size ∧ i.bytes = bytes ∧ i.zero = some z ∧ z.cells.size = size ∧ 0 < size

/-- The slice value v has m elements, whose cells are news. -/
def Src (own : Own) (X : PMap) (v : Value) (m size : Nat) (news : List Value) : Prop :=
  news.length = m * size ∧ ∃ A c, v = .slice A m c ∧ (0 < m → ∃ b o, A = some ⟨b, o, none⟩ ∧ ∀ W, Stab own X W → ∀ j u, news[j]? = some u → W.cell? ⟨b, o + j, none⟩ = some u)
theorem Src.nil {A : Option Addr} {c size : Nat} : Src own X (.slice A 0 c) 0 size [] := ⟨by simp, A, c, rfl, fun h => absurd h (by omega)⟩
theorem Src.ofOwn {b o m c size sz j : Nat} {cs : List Value} {ty : TypeId} (ho : AtO own b cs ty sz j) (hl : o + m * size ≤ cs.length) : Src own X (.slice (some ⟨b, o, none⟩) m c) m size ((cs.drop o).take (m * size)) := by
  refine ⟨by simp; omega, _, _, rfl, fun _ => ⟨b, o, rfl, fun W hW q u hu => ?_⟩⟩
  rw [List.getElem?_take] at hu
  split at hu
  · rw [List.getElem?_drop] at hu; exact (hW.own _ ho.mem).cell hu
  · cases hu
theorem Src.ofOwn0 {b m c size sz j : Nat} {cs : List Value} {ty : TypeId} (ho : AtO own b cs ty sz j) (hl : m * size = cs.length) : Src own X (.slice (some ⟨b, 0, none⟩) m c) m size cs :=
  ⟨hl.symm, _, _, rfl, fun _ => ⟨b, 0, rfl, fun W hW q u hu => by rw [Nat.zero_add]; exact (hW.own _ ho.mem).cell hu⟩⟩
theorem Src.ofExt {b o m c size : Nat} {cs : List Value} (ho : Blk X b cs) (hl : o + m * size ≤ cs.length) : Src own X (.slice (some ⟨b, o, none⟩) m c) m size ((cs.drop o).take (m * size)) := by
  refine ⟨by simp; omega, _, _, rfl, fun _ => ⟨b, o, rfl, fun W hW q u hu => ?_⟩⟩
  rw [List.getElem?_take] at hu
  split at hu
  · rw [List.getElem?_drop] at hu; exact ho.cell hW.pers hu
  · cases hu
theorem Src.ofExt0 {b m c size : Nat} {cs : List Value} (ho : Blk X b cs) (hl : m * size = cs.length) : Src own X (.slice (some ⟨b, 0, none⟩) m c) m size cs :=
  ⟨hl.symm, _, _, rfl, fun _ => ⟨b, 0, rfl, fun W hW q u hu => by rw [Nat.zero_add]; exact ho.cell hW.pers hu⟩⟩

/-! ## append -/
/-- Only the block of row j may have changed, or a new one stands for it. -/
theorem SatC.regrow {w0 : World} {W W' : World} (h : SatC w0 X0 own X W) {b sz j : Nat} {cs : List Value} {ty : TypeId} (hj : own[j]? = some ⟨b, cs, ty, sz⟩) (hg : W.grownBy W' (some b)) {b' : Nat} (hb : b' = b ∨ b' = W.heap.size) {cs' : List Value} {ty' : TypeId} {sz' : Nat} (hin : Ow.In ⟨b', cs', ty', sz'⟩ W') :
    SatC w0 X0 (own.set j ⟨b', cs', ty', sz'⟩) X W' := by
  have hm : (⟨b, cs, ty, sz⟩ : Ow) ∈ own := List.mem_of_getElem? hj
  have hjl : j < own.length := by
    rcases Nat.lt_or_ge j own.length with h1 | h1
    · exact h1
    · rw [List.getElem?_eq_none h1] at hj; cases hj
  have hjv : own[j] = ⟨b, cs, ty, sz⟩ := by rw [List.getElem?_eq_getElem hjl] at hj; exact Option.some.inj hj
  have hb0 := h.new _ hm
  simp only at hb0
  have hother : ∀ k (hk : k < own.length), k ≠ j → own[k].b ≠ b := fun k hk hne => by
    have hp := List.pairwise_iff_getElem.1 h.nodup
    rcases Nat.lt_or_gt_of_ne hne with hlt | hgt
    · have := hp k j hk hjl hlt; rw [hjv] at this; exact this
    · have := hp j k hjl hk hgt; rw [hjv] at this; exact fun e => this e.symm
  have hnew : ∀ q ∈ own, q.b ≠ b → q.b ≠ b' := fun q hq hne => by
    rcases hb with rfl | rfl
    · exact hne
    · exact Nat.ne_of_lt (h.stab.own q hq).lt
  have hget : ∀ q ∈ own.set j ⟨b', cs', ty', sz'⟩, q = ⟨b', cs', ty', sz'⟩ ∨ (q ∈ own ∧ q.b ≠ b) := fun q hq => by
    obtain ⟨k, hk, rfl⟩ := List.getElem_of_mem hq
    have hk' : k < own.length := by simpa using hk
    by_cases e : j = k
    · subst e; left; simp
    · right
      rw [List.getElem_set_ne e]
      exact ⟨List.getElem_mem hk', hother k hk' (Ne.symm e)⟩
  have hXb' : X b' = none := by
    rcases hb with rfl | rfl
    · exact h.apart _ hm
    · exact h.stab.pers.fresh
  refine ⟨h.below.grown hg h.below.size (fun k e => by cases e; exact hb0), h.old, ⟨fun q hq => ?_, fun k o hk => ?_⟩, fun q hq => ?_, fun q hq => ?_, ?_⟩
  · rcases hget q hq with rfl | ⟨hq, hne⟩
    · exact hin
    · have hl := (h.stab.own q hq).lt
      obtain ⟨r, hr, hz⟩ := h.stab.own q hq
      exact ⟨r, (hg.block q.b hl (fun e => hne (by injection e))).trans hr, hz⟩
  · have hkb : k ≠ b := fun e => by subst e; rw [h.apart _ hm] at hk; cases hk
    exact (hg.block k (h.stab.pers.lt hk) (fun e => hkb (by injection e))).trans (h.stab.pers k o hk)
  · rcases hget q hq with rfl | ⟨hq, _⟩
    · rcases hb with rfl | rfl
      · exact hb0
      · exact h.below.size
    · exact h.new q hq
  · rcases hget q hq with rfl | ⟨hq, _⟩
    · exact hXb'
    · exact h.apart q hq
  · refine List.pairwise_iff_getElem.2 fun x y hx hy hxy => ?_
    have hx' : x < own.length := by simpa using hx
    have hy' : y < own.length := by simpa using hy
    have hp := List.pairwise_iff_getElem.1 h.nodup x y hx' hy' hxy
    by_cases ex : j = x
    · subst ex
      rw [List.getElem_set_self, List.getElem_set_ne (by omega)]
      exact fun e => hnew _ (List.getElem_mem hy') (hother y hy' (by omega)) e.symm
    · by_cases ey : j = y
      · subst ey
        rw [List.getElem_set_self, List.getElem_set_ne (by omega)]
        exact hnew _ (List.getElem_mem hx') (hother x hx' (by omega))
      · rw [List.getElem_set_ne ex, List.getElem_set_ne ey]; exact hp
/-- A new block, and nothing else has changed. -/
theorem SatC.newRow {w0 : World} {W W' : World} (h : SatC w0 X0 own X W) (hg : W.grownBy W' none) {b' : Nat} (hb : W.heap.size ≤ b') {cs' : List Value} {ty' : TypeId} {sz' : Nat} (hin : Ow.In ⟨b', cs', ty', sz'⟩ W') (hX : X b' = none) :
    SatC w0 X0 (⟨b', cs', ty', sz'⟩ :: own) X W' := by
  have hgr : Grow W W' := ⟨hg.size, fun k hk => hg.block k hk (by simp)⟩
  refine ⟨h.below.grown hg h.below.size (fun k e => by cases e), h.old, ⟨fun q hq => ?_, hgr.pin h.stab.pers⟩, fun q hq => ?_, fun q hq => ?_, .cons (fun q hq => ?_) h.nodup⟩
  · rcases List.mem_cons.1 hq with rfl | hq
    · exact hin
    · exact hgr.ow (h.stab.own q hq)
  · rcases List.mem_cons.1 hq with rfl | hq
    · exact Nat.le_trans h.below.size hb
    · exact h.new q hq
  · rcases List.mem_cons.1 hq with rfl | hq
    · exact hX
    · exact h.apart q hq
  · have := (h.stab.own q hq).lt
    simp only
    omega

theorem Sat.regrow {W W' : World} (h : Sat w0 X0 own X W) {b sz j : Nat} {cs : List Value} {ty : TypeId} (hj : own[j]? = some ⟨b, cs, ty, sz⟩) (hg : W.grownBy W' (some b)) {b' : Nat} (hb : b' = b ∨ b' = W.heap.size) {cs' : List Value} {ty' : TypeId} {sz' : Nat} (hin : Ow.In ⟨b', cs', ty', sz'⟩ W') :
    Sat w0 X0 (own.set j ⟨b', cs', ty', sz'⟩) X W' :=
  ⟨h.toSatC.regrow hj hg hb hin, fun p hp => by
    obtain ⟨h1, h2, h3, h4⟩ := h.res p hp
    have hbp : b ≠ p.1 := h3 _ (List.mem_of_getElem? hj)
    refine ⟨(hg.block p.1 (get_lt h1) (fun e => hbp (by injection e with e; exact e.symm))).trans h1, h2, fun q hq => ?_, h4⟩
    rcases set_b hq with rfl | hq
    · rcases hb with rfl | rfl
      · exact hbp
      · exact Ne.symm (Nat.ne_of_lt (get_lt h1))
    · exact h3 q hq⟩
theorem Sat.newRow {W W' : World} (h : Sat w0 X0 own X W) (hg : W.grownBy W' none) {b' : Nat} (hb : W.heap.size ≤ b') {cs' : List Value} {ty' : TypeId} {sz' : Nat} (hin : Ow.In ⟨b', cs', ty', sz'⟩ W') (hX : X b' = none) :
    Sat w0 X0 (⟨b', cs', ty', sz'⟩ :: own) X W' :=
  ⟨h.toSatC.newRow hg hb hin hX, fun p hp => by
    obtain ⟨h1, h2, h3, h4⟩ := h.res p hp
    refine ⟨(hg.block p.1 (get_lt h1) (by simp)).trans h1, h2, fun q hq => ?_, h4⟩
    rcases List.mem_cons.1 hq with rfl | hq
    · have := get_lt h1
      simp only
      omega
    · exact h3 q hq⟩
theorem run_append_none {t ty e : TypeId} {size bytes : Nat} (ht : SlT P t e size bytes) {W : World} {A : Option Addr} {m cap c : Nat} (h : A = none → m = 0) : (Builtin.append_ #[t, t] ty #[.slice A m cap, .slice none 0 c]).run P W = .ok (.slice A m (if m ≤ cap then cap else cap)) W ∨ ¬ m ≤ cap := by
  obtain ⟨i, z, h1, h2, h3, h4, h5, h6⟩ := ht.info
  by_cases hm : m ≤ cap
  · left
    cases A <;> simp [Builtin.append_, run_underlying ht.und, sizeOf, typeInfo, h1, Builtin.lenOf, Builtin.firstCells, hm, storeCells]
  · exact .inr hm

theorem execAppend {t : TypeId} {s x : Operand} {a : Act} {W W' : World} {oper : Oper} {v u v' : Value} (ho : oper.op = .call { callee := .builtin .append, args := #[s, x], argTypes := #[t, t] }) (hs : a.eval s = v) (hx : a.eval x = u)
    (h : (Builtin.append_ #[t, t] oper.type #[v, u]).run P W = .ok v' W') : (execOp a.eval oper).run P W = .ok (.value v') W' := by
  simp only [execOp, ho, resolve, invoke, builtin, Sem.run_bind, Sem.run_pure, Result.andThen_ok, List.map_toArray, List.map_cons, List.map_nil, hs, hx, h]

/-- append onto a row of the call's own. -/
theorem op_append {t e : TypeId} {s x : Operand} {b q cap sz j m size bytes : Nat} {cs news : List Value} {u : Value} (ht : SlT P t e size bytes) (hs : eev env s = some (.slice (some ⟨b, 0, none⟩) q cap)) (hx : eev env x = some u)
    (ho : AtO own b cs e sz j) (hsz : sz = cap * size) (hq : cs.length = q * size) (hqc : q ≤ cap) (hcap : cap ≤ maxLen) (hsrc : Src own X u m size news) (h1 : ∀ y ∈ news, y.oneCell' = true) (h63 : q + m ≤ maxLen) (hby : (q + m) * bytes ≤ 140737488355328) :
    OpX P n w0 X0 env own X (.call { callee := .builtin .append, args := #[s, x], argTypes := #[t, t] }) false fun v own' X' => ∃ b' cap', v = .slice (some ⟨b', 0, none⟩) (q + m) cap' ∧ own' = own.set j ⟨b', cs ++ news, e, cap' * size⟩ ∧ X = X' ∧ q + m ≤ cap' ∧ cap' ≤ maxLen := by
  intro a W oper K Q ro hop ha hsat hK
  obtain ⟨i, z, i1, i2, i3, i4, i5, i6⟩ := ht.info
  have hin := hsat.stab.own _ ho.mem
  have hb0 := hsat.new _ ho.mem
  obtain ⟨r, hr, hz⟩ := hin
  simp only at hr hz hb0
  have hrow : W.ownsRow w0.heap.size e size (.slice (some ⟨b, 0, none⟩) q cap) q cs :=
    ⟨hq, .inr ⟨b, cap, (cs ++ r).toArray, rfl, hb0, hr, hqc, hcap, by simp; omega, by simp [← hq]⟩⟩
  obtain ⟨hnl, A, c, rfl, hA⟩ := hsrc
  have fin : ∀ v' W', W'.ownsRow w0.heap.size e size v' (q + m) (cs ++ news) → W.grownBy W' (some b) → (∃ g, v'.ownBlock = some g ∧ (g = b ∨ g = W.heap.size)) → K (a.put oper.dst v') W' := by
    intro v' W' hown hg ⟨g, hg1, hg2⟩
    rcases hown.2 with ⟨rfl, _⟩ | ⟨g', cap', cur, rfl, hg0, hcur, hn, hmx, hsz', htk⟩
    · simp [Value.ownBlock] at hg1
    · have hgg : g' = g := by simpa [Value.ownBlock] using hg1
      subst hgg
      have hin' : Ow.In ⟨g', cs ++ news, e, cap' * size⟩ W' := by
        refine ⟨cur.toList.drop ((q + m) * size), ?_, ?_⟩
        · rw [← htk, List.take_append_drop]; exact hcur
        · have hmul : (q + m) * size ≤ cap' * size := Nat.mul_le_mul_right _ hn
          have hl := hown.1
          simp only at hl ⊢
          rw [hl, List.length_drop, Array.length_toList, hsz']; omega
      exact hK _ _ X W' ⟨g', cap', rfl, rfl, rfl, hn, hmx⟩ (hsat.regrow ho.get hg hg2 hin') (fun h => by cases h)
  have key : ∃ v' W', (Builtin.append_ #[t, t] oper.type #[.slice (some ⟨b, 0, none⟩) q cap, .slice A m c]).run P W = .ok v' W' ∧ W'.ownsRow w0.heap.size e size v' (q + m) (cs ++ news) ∧ W.grownBy W' (some b) ∧ ∃ g, v'.ownBlock = some g ∧ (g = b ∨ g = W.heap.size) := by
    have have0 : ∀ (ad : Addr), (∀ j u, news[j]? = some u → W.cell? (ad.add j) = some u) → ∃ v' W', (Builtin.append_ #[t, t] oper.type #[.slice (some ⟨b, 0, none⟩) q cap, .slice (some ad) m c]).run P W = .ok v' W' ∧ W'.ownsRow w0.heap.size e size v' (q + m) (cs ++ news) ∧ W.grownBy W' (some b) ∧ ∃ g, v'.ownBlock = some g ∧ (g = b ∨ g = W.heap.size) := fun ad had => by
      obtain ⟨v', W', r1, r2, r3, _, r5⟩ := run_append_own_at (P := P) W w0.heap.size t oper.type e i z size bytes ht.und i1 i4 i2 i3 i5 i6 _ q cs hrow ad m c news hnl had h1 h63 hby hsat.below.size
      refine ⟨v', W', r1, r2, r3, ?_⟩
      rcases r5 with r5 | r5
      · exact ⟨b, r5, .inl rfl⟩
      · exact ⟨_, r5, .inr rfl⟩
    rcases A with _ | ad
    · have hm : m = 0 := by
        rcases Nat.eq_zero_or_pos m with h0 | h0
        · exact h0
        · obtain ⟨_, _, h, _⟩ := hA h0; cases h
      subst hm
      have hn0 : news = [] := List.eq_nil_of_length_eq_zero (by simpa using hnl)
      subst hn0
      rcases run_append_none (P := P) (ty := oper.type) ht (W := W) (A := some ⟨b, 0, none⟩) (m := q) (cap := cap) (c := c) (fun h => by cases h) with h | h
      · refine ⟨_, W, h, ?_, World.grownBy.refl W _, b, by simp [Value.ownBlock], .inl rfl⟩
        simpa using hrow
      · exact absurd hqc h
    · refine have0 ad fun q' u hu => ?_
      have hm : 0 < m := by
        rcases Nat.eq_zero_or_pos m with h0 | h0
        · subst h0
          have hn0 : news = [] := List.eq_nil_of_length_eq_zero (by simpa using hnl)
          subst hn0; simp at hu
        · exact h0
      obtain ⟨b2, o2, hA2, hc2⟩ := hA hm
      cases hA2
      rw [Addr.add_mid]
      exact hc2 W hsat.stab _ _ hu
  obtain ⟨v', W', r1, r2, r3, r4⟩ := key
  refine wp_value (noDefer_spec (by rw [hop]; rfl)) (execAppend hop (ha.eval hs) (ha.eval hx) r1) ?_
  exact fin v' W' r2 r3 r4
/-- append onto nil: a new row. -/
theorem op_appendNil {t e : TypeId} {s x : Operand} {m size bytes : Nat} {news : List Value} {u : Value} (ht : SlT P t e size bytes) (hs : eev env s = some (.slice none 0 0)) (hx : eev env x = some u)
    (hsrc : Src own X u m size news) (hm : 0 < m) (h1 : ∀ y ∈ news, y.oneCell' = true) (h63 : m ≤ maxLen) (hby : m * bytes ≤ 140737488355328) :
    OpX P n w0 X0 env own X (.call { callee := .builtin .append, args := #[s, x], argTypes := #[t, t] }) true fun v own' X' => ∃ b' cap', v = .slice (some ⟨b', 0, none⟩) m cap' ∧ own' = ⟨b', news, e, cap' * size⟩ :: own ∧ X = X' ∧ m ≤ cap' ∧ cap' ≤ maxLen := by
  intro a W oper K Q ro hop ha hsat hK
  obtain ⟨i, z, i1, i2, i3, i4, i5, i6⟩ := ht.info
  obtain ⟨hnl, A, c, rfl, hA⟩ := hsrc
  obtain ⟨b2, o2, rfl, hc2⟩ := hA hm
  obtain ⟨v', W', r1, r2, r3, _, r5⟩ := run_append_own_at (P := P) W W.heap.size t oper.type e i z size bytes ht.und i1 i4 i2 i3 i5 i6 _ 0 [] (World.ownsRow_nil W _ e size) ⟨b2, o2, none⟩ m c news hnl (fun q u hu => by rw [Addr.add_mid]; exact hc2 W hsat.stab _ _ hu) h1 (by simpa using h63) (by simpa using hby) (Nat.le_refl _)
  rw [Nat.zero_add, List.nil_append] at r2
  refine wp_value (noDefer_spec (by rw [hop]; rfl)) (execAppend hop (ha.eval hs) (ha.eval hx) r1) ?_
  rcases r2.2 with ⟨_, h0⟩ | ⟨g', cap', cur, rfl, hg0, hcur, hn, hmx, hsz', htk⟩
  · omega
  · have hg3 : W.grownBy W' none := r3
    have hgs : g' = W.heap.size := by simpa [Value.ownBlock] using r5
    have hin' : Ow.In ⟨g', news, e, cap' * size⟩ W' := by
      refine ⟨cur.toList.drop (m * size), ?_, ?_⟩
      · rw [← htk, List.take_append_drop]; exact hcur
      · have hmul : m * size ≤ cap' * size := Nat.mul_le_mul_right _ hn
        simp only
        rw [hnl, List.length_drop, Array.length_toList, hsz']; omega
    subst hgs
    exact hK _ _ X W' ⟨_, cap', rfl, rfl, rfl, hn, hmx⟩ (hsat.newRow hg3 hg0 hin' hsat.stab.pers.fresh) (fun _ => ⟨hg3.size, fun k hk => hg3.block k hk (by simp)⟩)
/-- append of nothing onto nil. -/
theorem op_appendNil0 {t e : TypeId} {s x : Operand} {size bytes : Nat} {A : Option Addr} {c : Nat} (ht : SlT P t e size bytes) (hs : eev env s = some (.slice none 0 0)) (hx : eev env x = some (.slice A 0 c)) :
    OpY P n env own X (.call { callee := .builtin .append, args := #[s, x], argTypes := #[t, t] }) (.slice none 0 0) := by
  intro a W oper hop ha _
  obtain ⟨i, z, i1, i2, i3, i4, i5, i6⟩ := ht.info
  refine execAppend hop (ha.eval hs) (ha.eval hx) ?_
  have hl : ∀ (x : Addr), (loadCells x 0).run P W = .ok #[] W := fun x => by simpa using run_loadCells_list (P := P) W x [] (by simp)
  cases A <;> simp [Builtin.append_, run_underlying ht.und, sizeOf, typeInfo, i1, Builtin.lenOf, Builtin.firstCells, hl]
end
end Go.Proofs.YtoheffglppbcbaaDoor
