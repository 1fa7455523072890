/- THE ENGINE: copy at elements of any size, append of zeros, slices.overlaps. No program is named here. -/
import Derived.Test.YtaooojjhlngcmaaDoorLend
import Derived.Lib.Overlaps
import Derived.Lib.AppendZerosOnto
namespace Go.Proofs.YtaooojjhlngcmaaDoor
open Go.RowKit
theorem rep_cellsA (zs : List Value) {c : Array Value} (m : Nat) (h : c = zs.toArray) : Builtin.zeroCells c m = ((List.replicate m zs).flatten).toArray := by
  subst h
  rw [← rep_cells]
  apply Array.ext'
  simp [Builtin.zeroCells]
section
variable {P : Program}
theorem run_copy_cellsS (w : World) (dT sT ty elem : TypeId) (b o dLen dCap size : Nat) (a : Addr) (sLen sCap : Nat) (cs : List Value)
    (hu : P.underlying dT = some (.slice elem)) (hs : (P.info? elem).map (·.size) = some size) (hn : cs.length = Nat.min sLen dLen * size)
    (hsrc : ∀ j v, cs[j]? = some v → w.cell? (a.add j) = some v) (hc : ∀ j, j < cs.length → (w.cell? ⟨b, o + j, none⟩).isSome = true) (hf : ∀ j, j < cs.length → w.frozen? ⟨b, o + j, none⟩ = false) (h1 : ∀ v ∈ cs, v.oneCell' = true) :
    (Builtin.copy_ #[dT, sT] ty #[.slice (some ⟨b, o, none⟩) dLen dCap, .slice (some a) sLen sCap]).run P w = .ok (goInt (Nat.min sLen dLen)) (w.setCells b o cs) := by
  have hl := run_loadCells_list (P := P) w a cs hsrc
  have hst := run_storeCells_cells (P := P) b o cs 0 w (by simpa using hc) (by simpa using hf) h1
  cases hq : P.info? elem with
  | none => simp [hq] at hs
  | some i =>
    have hi : i.size = size := by simpa [hq] using hs
    simp [Builtin.copy_, run_underlying hu, Builtin.lenOf, Builtin.firstCells, sizeOf, typeInfo, hq, hi, ← hn, hl, hst]
theorem run_copy_noneS (w : World) (dT sT ty elem : TypeId) (d a : Option Addr) (dLen dCap sLen sCap size : Nat) (hu : P.underlying dT = some (.slice elem)) (hs : (P.info? elem).map (·.size) = some size) (hn : Nat.min sLen dLen = 0) :
    (Builtin.copy_ #[dT, sT] ty #[.slice d dLen dCap, .slice a sLen sCap]).run P w = .ok (goInt 0) w := by
  cases hq : P.info? elem with
  | none => simp [hq] at hs
  | some i =>
    have hl : ∀ (x : Addr), (loadCells x 0).run P w = .ok #[] w := fun x => by simpa using run_loadCells_list (P := P) w x [] (by simp)
    cases d <;> cases a <;> simp [Builtin.copy_, run_underlying hu, Builtin.lenOf, Builtin.firstCells, sizeOf, typeInfo, hq, hn, storeCells, hl]
end
section
variable {ro : Option Nat} {P : Program} {n : NM} {w0 : Base} {X0 X : PMap} {own : Own} {env : Env}
theorem op_capS {t e : TypeId} {x : Operand} {o : Option Addr} {len cap : Nat} (ht : P.underlying t = some (.slice e)) (hx : eev env x = some (.slice o len cap)) : OpY P n env own X (.call { callee := .builtin .cap, args := #[x], argTypes := #[t] }) (.int .i64 cap) := by
  intro a W oper hop ha _
  simp [execOp, hop, resolve, invoke, builtin, Builtin.cap_, run_underlying ht, ha.eval hx, goInt]
/-- An element of an array value. -/
theorem op_idxArr {t e : TypeId} {d : TypeDesc} {x y : Operand} {k : IntKind} {ii : Int} {i len : Nat} {cs : Array Value} {v : Value} (ht : P.underlying t = some (.array len e)) (he : P.underlying e = some d) (hd : d.isRow = false) (hz : (P.info? e).map (·.size) = some 1)
    (hx : eev env x = some (.agg cs)) (hy : eev env y = some (.int k ii)) (hii : ii = (i : Int)) (hi : i < len) (hv : cs[i]? = some v) : OpY P n env own X (.index t x y) v := by
  intro a W oper hop ha _
  subst hii
  obtain ⟨inf, h1, h2⟩ := Option.map_eq_some_iff.1 hz
  simp [execOp, hop, Instr.index, asIntOf, ha.eval hx, ha.eval hy, run_underlying ht, hi, sizeOf, typeInfo, h1, h2, part, isAgg_row he W, hd, hv]
/-- A byte of a string. -/
theorem op_idxStr {t : TypeId} {x y : Operand} {k : IntKind} {ii : Int} {i : Nat} {s : ByteArray} {b : UInt8} (ht : P.underlying t = some .string) (hx : eev env x = some (.string s)) (hy : eev env y = some (.int k ii)) (hii : ii = (i : Int)) (hv : s[i]? = some b) :
    OpY P n env own X (.index t x y) (.int .u8 (b.toNat : Int)) := by
  intro a W oper hop ha _
  subst hii
  simp [execOp, hop, Instr.index, asIntOf, ha.eval hx, ha.eval hy, run_underlying ht, hv]
/-- copy onto a row of the call's own. -/
theorem op_copyS {t t' e : TypeId} {x y : Operand} {b o dl dc j sz m size : Nat} {cs news : List Value} {ty : TypeId} {u : Value} {sl : Nat} (ht : P.underlying t = some (.slice e)) (he : (P.info? e).map (·.size) = some size)
    (hx : eev env x = some (.slice (some ⟨b, o, none⟩) dl dc)) (hy : eev env y = some u) (ho : AtO own b cs ty sz j) (hsrc : Src own X u sl size news) (hm : m = Nat.min sl dl) (hfit : o + m * size ≤ cs.length) (h1 : ∀ v ∈ news.take (m * size), v.oneCell' = true) :
    OpX P n w0 X0 env own X (.call { callee := .builtin .copy, args := #[x, y], argTypes := #[t, t'] }) false fun v own' X' => v = .int .i64 m ∧ own' = own.set j ⟨b, csets cs o (news.take (m * size)), ty, sz⟩ ∧ X = X' := by
  intro a W oper K Q ro hop ha hs hK
  have hin := hs.stab.own _ ho.mem
  obtain ⟨hnl, A, c, rfl, hA⟩ := hsrc
  have hex : ∀ v' W', (Builtin.copy_ #[t, t'] oper.type #[.slice (some ⟨b, o, none⟩) dl dc, .slice A sl c]).run P W = .ok v' W' → (execOp a.eval oper).run P W = .ok (.value v') W' := fun v' W' h => by
    simp only [execOp, hop, resolve, invoke, builtin, Sem.run_bind, Sem.run_pure, Result.andThen_ok, List.map_toArray, List.map_cons, List.map_nil, ha.eval hx, ha.eval hy, h]
  have hmsl : m ≤ sl := by rw [hm]; exact Nat.min_le_left _ _
  have hlen : (news.take (m * size)).length = m * size := by
    rw [List.length_take, hnl]; exact Nat.min_eq_left (Nat.mul_le_mul_right _ hmsl)
  rcases Nat.eq_zero_or_pos m with h0 | h0
  · have hr := run_copy_noneS (P := P) W t t' oper.type e (some ⟨b, o, none⟩) A dl dc sl c size ht he (by omega)
    refine wp_value (noDefer_spec (by rw [hop]; rfl)) (hex _ _ hr) ?_
    subst h0
    have hset : own.set j ⟨b, csets cs o (news.take (0 * size)), ty, sz⟩ = own := by
      rw [Nat.zero_mul]
      apply List.ext_getElem?
      intro k
      by_cases e : j = k
      · subst e
        have hjl : j < own.length := by
          have := ho.get
          rcases Nat.lt_or_ge j own.length with h1 | h1
          · exact h1
          · rw [List.getElem?_eq_none h1] at this; cases this
        rw [List.getElem?_set_self hjl, ho.get]; rfl
      · rw [List.getElem?_set_ne e]
    exact hK _ _ X W ⟨rfl, rfl, rfl⟩ (by rw [hset]; exact hs) (fun h => by cases h)
  · obtain ⟨b2, o2, rfl, hc2⟩ := hA (by omega)
    have hr := run_copy_cellsS (P := P) W t t' oper.type e b o dl dc size ⟨b2, o2, none⟩ sl c (news.take (m * size)) ht he (by rw [hlen, hm])
      (fun q v hv => by
        rw [Addr.add_mid]
        rw [List.getElem?_take] at hv
        split at hv
        · exact hc2 W hs.stab _ _ hv
        · cases hv)
      (fun q hq => by
        have hlt : o + q < cs.length := by omega
        rw [hin.cell (v := cs[o + q]) (by simp [hlt])]; rfl)
      (fun q _ => hin.frozen _) h1
    refine wp_value (noDefer_spec (by rw [hop]; rfl)) (hex _ _ hr) ?_
    exact hK _ _ X _ ⟨by rw [hm]; rfl, rfl, rfl⟩ (hs.puts _ _ _ _ _ ho.get (by omega)) (fun h => by cases h)
/-- slices.overlaps at two blocks of the call's own. -/
theorem op_overlaps {f : FuncId} {gn : Func} {tS tR e : TypeId} {x y : Operand} {ts : Array TypeId} {b1 o1 l1 c1 b2 o2 l2 c2 size sz1 sz2 j1 j2 : Nat} {cs1 cs2 : List Value} {tyA tyB : TypeId} (hf : P.funcs[f]? = some gn) (h1 : (gn.name == "runtime.NumGoroutine") = false) (h2 : gn.body.isNone = true) (h3 : Extern.findNext gn = none)
    (h4 : Extern.find gn = some (Extern.SlicesOverlaps.overlaps #[tS, tS] #[tR])) (ht : P.underlying tS = some (.slice e)) (hz : (P.info? e).map (·.size) = some size)
    (hx : eev env x = some (.slice (some ⟨b1, o1, none⟩) l1 c1)) (hy : eev env y = some (.slice (some ⟨b2, o2, none⟩) l2 c2)) (ho1 : AtO own b1 cs1 tyA sz1 j1) (ho2 : AtO own b2 cs2 tyB sz2 j2) (hne : b1 ≠ b2) (hsz : sz2 ≠ 0) :
    OpY P n env own X (.call { callee := .value (.func f), args := #[x, y], argTypes := ts }) (.bool false) := by
  intro a W oper hop ha hst
  have hc : a.eval (.func f) = .func (.func f) #[] #[] := ha.eval rfl
  have i1 := hst.own _ ho1.mem
  have i2 := hst.own _ ho2.mem
  have hzz : ∀ w, (Go.sizeOf e).run P w = .ok size w := fun w => by
    obtain ⟨i, hi, hs⟩ := Option.map_eq_some_iff.1 hz
    simp [sizeOf, typeInfo, hi, hs]
  have hr := run_callFunc_extern hf h1 h2 h3 h4 #[.slice (some ⟨b1, o1, none⟩) l1 c1, .slice (some ⟨b2, o2, none⟩) l2 c2] W
  rw [Lib.run_overlaps_apart W tS tR e ht size hzz ⟨b1, o1, none⟩ ⟨b2, o2, none⟩ l1 c1 l2 c2 hne tyA tyB sz1 sz2 i1.shape i2.shape hsz (i1.frozen _) (i1.frozen _)] at hr
  simp only [execOp, hop, resolve, hc, Deferred.ofValue, invoke, Sem.run_bind, Sem.run_pure, Result.andThen_ok]
  simpa [ha.eval hx, ha.eval hy] using hr
/-- append(s, make([]T, k)...) where there is no room: a new row. -/
theorem op_appendMake {t tn e : TypeId} {s x : Operand} {kn : IntKind} {A : Option Addr} {sl cap k size bytes : Nat} {kk : Int} {olds zs : List Value} (ht : SlT P t e size bytes) (htn : P.underlying tn = some (.int kn)) (hs : eev env s = some (.slice A sl cap)) (hx : eev env x = some (.int .i64 kk)) (hkk : kk = (k : Int))
    (hsrc : Src own X (.slice A sl cap) sl size olds) (hzs : ∃ i z, P.info? e = some i ∧ i.zero = some z ∧ z.cells = zs.toArray) (h0 : 0 < k) (hg : cap < sl + k) (h63 : sl + k ≤ maxLen) (hby : (sl + k) * bytes ≤ 140737488355328) :
    OpX P n w0 X0 env own X (.call { callee := .builtin .append, args := #[s, x], argTypes := #[t, tn] }) true fun v own' X' => ∃ b' cap', v = .slice (some ⟨b', 0, none⟩) (sl + k) cap' ∧ own' = ⟨b', olds ++ (List.replicate k zs).flatten, e, cap' * size⟩ :: own ∧ X = X' ∧ sl + k ≤ cap' ∧ cap' ≤ maxLen := by
  intro a W oper K Q ro hop ha hsat hK
  subst hkk
  obtain ⟨i, z, i1, i2, i3, i4, i5, i6⟩ := ht.info
  obtain ⟨i', z', j1, j2, j3⟩ := hzs
  obtain rfl : i' = i := by rw [i1] at j1; exact (Option.some.inj j1).symm
  obtain rfl : z' = z := by rw [i4] at j2; exact (Option.some.inj j2).symm
  obtain ⟨hnl, A', c', he, hA⟩ := hsrc
  obtain ⟨rfl, rfl⟩ : A' = A ∧ c' = cap := by injection he with h1 h2 h3; exact ⟨h1.symm, h3.symm⟩
  have hmx : maxLen = 9223372036854775807 := rfl
  have hk48 : k * i'.bytes ≤ 281474976710656 := by
    rw [i3]
    have : k * bytes ≤ (sl + k) * bytes := Nat.mul_le_mul_right _ (by omega)
    omega
  have hold : (Builtin.firstCells i'.size sl (.slice A' sl c')).run P W.drew = .ok olds.toArray W.drew := by
    rcases Nat.eq_zero_or_pos sl with hs0 | hs0
    · subst hs0
      have : olds = [] := List.eq_nil_of_length_eq_zero (by rw [hnl]; simp)
      subst this
      cases A' with
      | none => simp [Builtin.firstCells]
      | some ad => simpa [Builtin.firstCells] using run_loadCells_list (P := P) W.drew ad [] (by simp)
    · obtain ⟨b, o, rfl, hc⟩ := hA hs0
      have := run_loadCells_list (P := P) W.drew ⟨b, o, none⟩ olds (fun j v hv => by rw [Addr.add_mid]; exact hc W hsat.stab _ _ hv)
      rw [hnl] at this
      simpa [Builtin.firstCells, i2] using this
  have hr := Lib.run_append_grow_zeros (P := P) W t tn oper.type e i' z' .i64 kn ht.und htn i1 i4 A' sl c' olds hold k h0 (by rw [i2]; exact i6) hg (by omega) hk48 (by rw [i3]; exact growslice_fits hg hby)
  have hex : (execOp a.eval oper).run P W = .ok (.value (.slice (some ⟨W.heap.size, 0, none⟩) (sl + k) (grownCap W (sl + k) c' e))) (W.drew.alloc (.cells (olds.toArray ++ Builtin.zeroCells z'.cells k ++ Builtin.zeroCells z'.cells (grownCap W (sl + k) c' e - (sl + k))) e)) := by
    simp only [execOp, hop, resolve, invoke, builtin, Sem.run_bind, Sem.run_pure, Result.andThen_ok, List.map_toArray, List.map_cons, List.map_nil, ha.eval hs, ha.eval hx, hr]
  refine wp_value (noDefer_spec (by rw [hop]; rfl)) hex ?_
  have hge := grownCap_ge W (sl + k) c' e
  have hzl : zs.length = size := by rw [← i5, j3]; simp
  have hz0 : ∀ m, Builtin.zeroCells z'.cells m = ((List.replicate m zs).flatten).toArray := fun m => rep_cellsA zs m j3
  have hal := (hsat.draw (W.drawn + 1)).alloc (olds ++ (List.replicate k zs).flatten ++ (List.replicate (grownCap W (sl + k) c' e - (sl + k)) zs).flatten) e
  have hfl : ∀ m, ((List.replicate m zs).flatten).length = m * size := fun m => by simp [hzl]
  have hlen : (olds ++ (List.replicate k zs).flatten ++ (List.replicate (grownCap W (sl + k) c' e - (sl + k)) zs).flatten).length = grownCap W (sl + k) c' e * size := by
    rw [List.length_append, List.length_append, hnl, hfl, hfl, ← Nat.add_mul, ← Nat.add_mul]
    congr 1; omega
  rw [hlen] at hal
  refine hK _ _ X _ ⟨_, _, rfl, rfl, rfl, hge, grownCap_le_maxLen W _ _ e h63⟩ ?_ (fun _ => ?_)
  · have := hal.forget
    rw [hz0, hz0]
    simpa using this
  · have := Grow.alloc { W with drawn := W.drawn + 1 } (.cells (olds ++ (List.replicate k zs).flatten ++ (List.replicate (grownCap W (sl + k) c' e - (sl + k)) zs).flatten).toArray e)
    rw [hz0, hz0]
    exact ⟨by simp, fun q hq => by simpa using this.same q hq⟩
theorem Sat.extend {W : World} (h : Sat w0 X0 own X W) {j b sz k : Nat} {cs : List Value} {ty : TypeId} (hj : own[j]? = some ⟨b, cs, ty, sz⟩) (hk : cs.length + k ≤ sz) : ∃ ds : List Value, ds.length = k ∧ Sat w0 X0 (own.set j ⟨b, cs ++ ds, ty, sz⟩) X W := by
  obtain ⟨r, hr, hz⟩ := h.stab.own _ (List.mem_of_getElem? hj)
  simp only at hr hz
  refine ⟨r.take k, by rw [List.length_take]; omega, h.regrow hj ⟨rfl, rfl, rfl, Nat.le_refl _, fun _ _ _ => rfl⟩ (.inl rfl) ⟨r.drop k, ?_, ?_⟩⟩
  · rw [List.append_assoc, List.take_append_drop]; exact hr
  · simp only [List.length_append, List.length_take, List.length_drop]; omega
theorem SL.extend {Q : Exit → Act → World → Prop} {ops : Array Oper} {l : List Oper} (k : Nat) {j b sz : Nat} {cs : List Value} {ty : TypeId} (hj : AtO own b cs ty sz j) (hk : cs.length + k ≤ sz)
    (h : ∀ ds : List Value, ds.length = k → SL ro P n w0 X0 ops Q l env (own.set j ⟨b, cs ++ ds, ty, sz⟩) X) : SL ro P n w0 X0 ops Q l env own X := by
  intro a W ha hs
  obtain ⟨ds, h1, h2⟩ := hs.extend hj.get hk
  exact h ds h1 a W ha h2
theorem T.extend {Q : Exit → Act → World → Prop} {kk : List It} {e : Option Nat} (k : Nat) {j b sz : Nat} {cs : List Value} {ty : TypeId} (hj : AtO own b cs ty sz j) (hk : cs.length + k ≤ sz)
    (h : ∀ ds : List Value, ds.length = k → T ro P n w0 X0 Q kk e env (own.set j ⟨b, cs ++ ds, ty, sz⟩) X) : T ro P n w0 X0 Q kk e env own X := by
  intro a W ha hs
  obtain ⟨ds, h1, h2⟩ := hs.extend hj.get hk
  exact h ds h1 a W ha h2
theorem Sat.ne {W : World} (h : Sat w0 X0 own X W) {b1 b2 j1 j2 : Nat} {p1 p2 : Ow} (h1 : own[j1]? = some p1) (h2 : own[j2]? = some p2) (hne : j1 ≠ j2) (e1 : p1.b = b1) (e2 : p2.b = b2) : b1 ≠ b2 := by
  obtain ⟨l1, g1⟩ := List.getElem?_eq_some_iff.1 h1
  obtain ⟨l2, g2⟩ := List.getElem?_eq_some_iff.1 h2
  have hp := List.pairwise_iff_getElem.1 h.nodup
  subst e1 e2
  rcases Nat.lt_or_gt_of_ne hne with hlt | hgt
  · have := hp j1 j2 l1 l2 hlt; rw [g1, g2] at this; exact this
  · have := hp j2 j1 l2 l1 hgt; rw [g1, g2] at this; exact fun e => this e.symm
theorem SL.ne {Q : Exit → Act → World → Prop} {ops : Array Oper} {l : List Oper} {b1 b2 sz1 sz2 j1 j2 : Nat} {cs1 cs2 : List Value} {tyA tyB : TypeId} (h1 : AtO own b1 cs1 tyA sz1 j1) (h2 : AtO own b2 cs2 tyB sz2 j2) (hne : j1 ≠ j2)
    (h : b1 ≠ b2 → SL ro P n w0 X0 ops Q l env own X) : SL ro P n w0 X0 ops Q l env own X := fun a W ha hs => h (hs.ne h1.get h2.get hne rfl rfl) a W ha hs
theorem T.ne {Q : Exit → Act → World → Prop} {k : List It} {e : Option Nat} {b1 b2 sz1 sz2 j1 j2 : Nat} {cs1 cs2 : List Value} {tyA tyB : TypeId} (h1 : AtO own b1 cs1 tyA sz1 j1) (h2 : AtO own b2 cs2 tyB sz2 j2) (hne : j1 ≠ j2)
    (h : b1 ≠ b2 → T ro P n w0 X0 Q k e env own X) : T ro P n w0 X0 Q k e env own X := fun a W ha hs => h (hs.ne h1.get h2.get hne rfl rfl) a W ha hs
theorem op_sliceLoN {t e : TypeId} {x y : Operand} {b o len cap size l : Nat} {row : Bool} {kk : IntKind} {ll : Int} (ht : P.underlying t = some (.slice e)) (he : Ty P e row size) (hx : eev env x = some (.slice (some ⟨b, o, none⟩) len cap))
    (hy : eev env y = some (.int kk ll)) (hl : ll = (l : Int)) (h0 : l < cap) (h1 : l ≤ len) (h2 : len ≤ cap) : OpY P n env own X (.slice t x (some y) none none) (.slice (some ⟨b, o + l * size, none⟩) (len - l) (cap - l)) := by
  subst hl
  have := op_slice (n := n) (own := own) (X := X) (lo := some y) (hi := none) (h := len) ht he hx (fun q h => by cases h; exact ⟨kk, hy⟩) (fun h => by cases h) (fun _ h => by cases h) (fun _ => rfl) h1 h2
  rwa [if_neg (by omega)] at this
theorem op_sliceHiN {t e : TypeId} {x y : Operand} {b o len cap size l : Nat} {row : Bool} {kk : IntKind} {ll : Int} (ht : P.underlying t = some (.slice e)) (he : Ty P e row size) (hx : eev env x = some (.slice (some ⟨b, o, none⟩) len cap))
    (hy : eev env y = some (.int kk ll)) (hl : ll = (l : Int)) (h2 : l ≤ cap) : OpY P n env own X (.slice t x none (some y) none) (.slice (some ⟨b, o, none⟩) l cap) := by
  subst hl
  have := op_slice (n := n) (own := own) (X := X) (lo := none) (hi := some y) (l := 0) (h := l) ht he hx (fun _ h => by cases h) (fun _ => rfl) (fun q h => by cases h; exact ⟨kk, hy⟩) (fun h => by cases h) (Nat.zero_le _) h2
  simpa using this
end
end Go.Proofs.YtaooojjhlngcmaaDoor
