/- THE ENGINE: parts of rows taken out (append in place, clear, slices with three numbers). No program is named here. -/
import Derived.Test.YtaooojjhlngcmaaDoorStruct
namespace Go.Proofs.YtaooojjhlngcmaaDoor
open Go.RowKit
section
variable {P : Program}
theorem run_appendIn (w : World) (t ty e : TypeId) (b o q cap size : Nat) (a : Option Addr) (m c : Nat) (cs : List Value)
    (hu : P.underlying t = some (.slice e)) (hs : (P.info? e).map (·.size) = some size) (hn : cs.length = m * size) (hr : q + m ≤ cap)
    (hsrc : 0 < m → ∃ ad, a = some ad ∧ ∀ j v, cs[j]? = some v → w.cell? (ad.add j) = some v) (hc : ∀ j, j < cs.length → (w.cell? ⟨b, o + q * size + j, none⟩).isSome = true) (hf : ∀ j, j < cs.length → w.frozen? ⟨b, o + q * size + j, none⟩ = false) (h1 : ∀ v ∈ cs, v.oneCell' = true) :
    (Builtin.append_ #[t, t] ty #[.slice (some ⟨b, o, none⟩) q cap, .slice a m c]).run P w = .ok (.slice (some ⟨b, o, none⟩) (q + m) cap) (w.setCells b (o + q * size) cs) := by
  have hst := run_storeCells_cells (P := P) b (o + q * size) cs 0 w (by simpa using hc) (by simpa using hf) h1
  have hadd : (⟨b, o, none⟩ : Addr).add (q * size) = ⟨b, o + q * size, none⟩ := Addr.add_mid ..
  cases hq : P.info? e with
  | none => simp [hq] at hs
  | some i =>
    have hi : i.size = size := by simpa [hq] using hs
    rcases Nat.eq_zero_or_pos m with h0 | h0
    · subst h0
      have : cs = [] := List.eq_nil_of_length_eq_zero (by simpa using hn)
      subst this
      have hl : ∀ (x : Addr), (loadCells x 0).run P w = .ok #[] w := fun x => by simpa using run_loadCells_list (P := P) w x [] (by simp)
      have hr' : q ≤ cap := by omega
      cases a <;> simp [Builtin.append_, run_underlying hu, Builtin.lenOf, Builtin.firstCells, sizeOf, typeInfo, hq, hi, hl, hr', storeCells, World.setCells]
    · obtain ⟨ad, rfl, hsrc2⟩ := hsrc h0
      have hl := run_loadCells_list (P := P) w ad cs hsrc2
      rw [hn] at hl
      simp [Builtin.append_, run_underlying hu, Builtin.lenOf, Builtin.firstCells, sizeOf, typeInfo, hq, hi, hl, hr, hadd] at hst ⊢
      rw [hst]; rfl
theorem run_clearS (w : World) (t e ty : TypeId) (zs : List Value) (hu : P.underlying t = some (.slice e)) (hz : ∃ i z, P.info? e = some i ∧ i.zero = some z ∧ z.cells = zs.toArray) (b o m c : Nat) (h0 : 0 < m)
    (hc : ∀ j, j < m * zs.length → (w.cell? ⟨b, o + j, none⟩).isSome = true) (hf : ∀ j, j < m * zs.length → w.frozen? ⟨b, o + j, none⟩ = false) (h1 : ∀ v ∈ zs, v.oneCell' = true) :
    (Builtin.clear_ #[t] ty #[.slice (some ⟨b, o, none⟩) m c]).run P w = .ok (.tuple #[]) (w.setCells b o (List.replicate m zs).flatten) := by
  obtain ⟨i, z, i1, i2, i3⟩ := hz
  have hlen : ((List.replicate m zs).flatten).length = m * zs.length := by simp
  have hst := run_storeCells_cells (P := P) b o ((List.replicate m zs).flatten) 0 w (by rw [hlen]; simpa using hc) (by rw [hlen]; simpa using hf) (fun v hv => by
    obtain ⟨l, hl, hv⟩ := List.mem_flatten.1 hv
    rw [List.mem_replicate] at hl
    exact h1 v (hl.2 ▸ hv))
  have hzc := rep_cellsA zs m i3
  cases m with
  | zero => omega
  | succ m =>
    simp [Builtin.clear_, run_underlying hu, zeroValue, typeInfo, i1, i2, hzc] at hst ⊢
    rw [hst]; rfl
end
section
variable {ro : Option Nat} {P : Program} {n : NM} {w0 : Base} {X0 X : PMap} {own : Own} {env : Env}
/-- append onto the first elements of an own row: there is room. -/
theorem op_appendIn {t e : TypeId} {s x : Operand} {b o q cap sz j m size : Nat} {cs news : List Value} {ty : TypeId} {u : Value} (ht : P.underlying t = some (.slice e)) (he : (P.info? e).map (·.size) = some size) (hs : eev env s = some (.slice (some ⟨b, o, none⟩) q cap)) (hx : eev env x = some u)
    (ho : AtO own b cs ty sz j) (hsrc : Src own X u m size news) (hr : q + m ≤ cap) (hfit : o + q * size + m * size ≤ cs.length) (h1 : ∀ v ∈ news, v.oneCell' = true) :
    OpX P n w0 X0 env own X (.call { callee := .builtin .append, args := #[s, x], argTypes := #[t, t] }) false fun v own' X' => v = .slice (some ⟨b, o, none⟩) (q + m) cap ∧ own' = own.set j ⟨b, csets cs (o + q * size) news, ty, sz⟩ ∧ X = X' := by
  intro a W oper K Q ro hop ha hst hK
  have hin := hst.stab.own _ ho.mem
  obtain ⟨hnl, A, c, rfl, hA⟩ := hsrc
  have hr := run_appendIn (P := P) W t oper.type e b o q cap size A m c news ht he hnl hr (fun h0 => by
      obtain ⟨b2, o2, rfl, hc2⟩ := hA h0
      exact ⟨_, rfl, fun j v hv => by rw [Addr.add_mid]; exact hc2 W hst.stab _ _ hv⟩)
    (fun q' hq => by
      have hlt : o + q * size + q' < cs.length := by omega
      rw [hin.cell (v := cs[o + q * size + q']) (by simp [hlt])]; rfl)
    (fun q' _ => hin.frozen _) h1
  refine wp_value (noDefer_spec (by rw [hop]; rfl)) (execAppend hop (ha.eval hs) (ha.eval hx) hr) ?_
  exact hK _ _ X _ ⟨rfl, rfl, rfl⟩ (hst.puts _ _ _ _ _ ho.get (by omega)) (fun h => by cases h)
/-- clear of elements of an own row. -/
theorem op_clear {t e : TypeId} {x : Operand} {b o m c sz j : Nat} {cs zs : List Value} {ty : TypeId} (ht : P.underlying t = some (.slice e)) (hz : ∃ i z, P.info? e = some i ∧ i.zero = some z ∧ z.cells = zs.toArray) (hx : eev env x = some (.slice (some ⟨b, o, none⟩) m c))
    (ho : AtO own b cs ty sz j) (h0 : 0 < m) (hfit : o + m * zs.length ≤ cs.length) (h1 : ∀ v ∈ zs, v.oneCell' = true) :
    OpX P n w0 X0 env own X (.call { callee := .builtin .clear, args := #[x], argTypes := #[t] }) false fun _ own' X' => own' = own.set j ⟨b, csets cs o (List.replicate m zs).flatten, ty, sz⟩ ∧ X = X' := by
  intro a W oper K Q ro hop ha hst hK
  have hin := hst.stab.own _ ho.mem
  have hr := run_clearS (P := P) W t e oper.type zs ht hz b o m c h0 (fun q hq => by
      have hlt : o + q < cs.length := by omega
      rw [hin.cell (v := cs[o + q]) (by simp [hlt])]; rfl)
    (fun q _ => hin.frozen _) h1
  have hex : (execOp a.eval oper).run P W = .ok (.value (.tuple #[])) (W.setCells b o (List.replicate m zs).flatten) := by
    simp only [execOp, hop, resolve, invoke, builtin, Sem.run_bind, Sem.run_pure, Result.andThen_ok, List.map_toArray, List.map_cons, List.map_nil, ha.eval hx, hr]
  refine wp_value (noDefer_spec (by rw [hop]; rfl)) hex ?_
  exact hK _ _ X _ ⟨rfl, rfl⟩ (hst.puts _ _ _ _ _ ho.get (by simp; omega)) (fun h => by cases h)
/-- A slice with three numbers. -/
theorem op_slice3 {t e : TypeId} {x y z u : Operand} {A : Option Addr} {len cap size l h m : Nat} {row : Bool} {k1 k2 k3 : IntKind} {ll hh mm : Int} (ht : P.underlying t = some (.slice e)) (he : Ty P e row size) (hx : eev env x = some (.slice A len cap))
    (hy : eev env y = some (.int k1 ll)) (hz : eev env z = some (.int k2 hh)) (hu : eev env u = some (.int k3 mm)) (e1 : ll = (l : Int)) (e2 : hh = (h : Int)) (e3 : mm = (m : Int)) (h1 : l ≤ h) (h2 : h ≤ m) (h3 : m ≤ cap) :
    OpY P n env own X (.slice t x (some y) (some z) (some u)) (.slice (slA A m l size) (h - l) (m - l)) := by
  intro a W oper hop ha _
  subst e1 e2 e3
  have hinf := he.info
  have hinf' : ∃ inf, P.info? e = some inf ∧ inf.size = size := by
    cases hq : P.info? e with
    | none => simp [hq] at hinf
    | some inf => exact ⟨inf, rfl, by simpa [hq] using hinf⟩
  obtain ⟨inf, hq, hsz⟩ := hinf'
  have hb2 : (Instr.sliceBounds true len cap (some (.int k1 (l : Int))) (some (.int k2 (h : Int))) (some (.int k3 (m : Int)))).run P W = .ok (l, h, m) W := by
    simp [Instr.sliceBounds, Instr.sliceBound, asIntOf, h1, h2, h3]
  have hsl : (Instr.sliceAt t (.slice A len cap) (some (.int k1 (l : Int))) (some (.int k2 (h : Int))) (some (.int k3 (m : Int)))).run P W = .ok (.slice (slA A m l size) (h - l) (m - l)) W := by
    simp only [Instr.sliceAt, Sem.run_bind, run_underlying ht, Result.andThen_ok, Instr.slice, hb2, sizeOf, typeInfo, slA]
    by_cases hc : m = l <;> simp [hc, hq, hsz]
  simp [execOp, hop, ha.eval hx, ha.eval hy, ha.eval hz, ha.eval hu, hsl]
/-- Less is known of an own row. -/
theorem Sat.less {W : World} (h : Sat w0 X0 own X W) {j b sz : Nat} {cs ds : List Value} {ty : TypeId} (hj : own[j]? = some ⟨b, cs ++ ds, ty, sz⟩) : Sat w0 X0 (own.set j ⟨b, cs, ty, sz⟩) X W := by
  obtain ⟨r, hr, hz⟩ := h.stab.own _ (List.mem_of_getElem? hj)
  simp only at hr hz
  refine h.regrow hj ⟨rfl, rfl, rfl, Nat.le_refl _, fun _ _ _ => rfl⟩ (.inl rfl) ⟨ds ++ r, ?_, ?_⟩
  · rw [← List.append_assoc]; exact hr
  · simp only [List.length_append] at hz ⊢; omega
theorem SL.cut {Q : Exit → Act → World → Prop} {ops : Array Oper} {l : List Oper} {j b sz : Nat} {cs ds : List Value} {ty : TypeId} (hj : AtO own b (cs ++ ds) ty sz j)
    (h : SL ro P n w0 X0 ops Q l env (own.set j ⟨b, cs, ty, sz⟩) X) : SL ro P n w0 X0 ops Q l env own X := fun a W ha hs => h a W ha (hs.less hj.get)
theorem T.cut {Q : Exit → Act → World → Prop} {k : List It} {ex : Option Nat} {j b sz : Nat} {cs ds : List Value} {ty : TypeId} (hj : AtO own b (cs ++ ds) ty sz j)
    (h : T ro P n w0 X0 Q k ex env (own.set j ⟨b, cs, ty, sz⟩) X) : T ro P n w0 X0 Q k ex env own X := fun a W ha hs => h a W ha (hs.less hj.get)
end
end Go.Proofs.YtaooojjhlngcmaaDoor
