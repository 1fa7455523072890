/- THE ENGINE, fifth part: operations on memory; calls. No program is named here. -/
import Derived.Test.YtoheffglppbcbaaDoorKinds
import Derived.Maps.AppendAt
namespace Go.Proofs.YtoheffglppbcbaaDoor
open Go.RowKit

section
variable {P : Program} {n : NM} {w0 : Base} {X0 X : PMap} {own : Own} {env : Env}

/-! ## loads -/
theorem execLoad {t : TypeId} {x : Operand} {b i : Nat} {v : Value} {a : Act} {W : World} {oper : Oper} (ho : oper.op = .load t x) (hx : a.eval x = .pointer (some ⟨b, i, none⟩)) (h : (loadVar t ⟨b, i, none⟩).run P W = .ok v W) : (execOp a.eval oper).run P W = .ok (.value v) W := by
  simp [execOp, ho, hx, Instr.loadAt, Instr.sureAddr, h]
theorem op_load {t : TypeId} {x : Operand} {b i j sz size : Nat} {row : Bool} {cs : List Value} {ty : TypeId} {v : Value} (ht : Ty P t row size) (hx : eev env x = some (.pointer (some ⟨b, i, none⟩))) (ho : AtO own b cs ty sz j) (hv : cread row size cs i = some v) : OpY P n env own X (.load t x) v := by
  intro a W oper hop ha hs
  exact execLoad hop (ha.eval hx) (run_loadVar_cells ht (fun _ _ hu => (hs.own _ ho.mem).cell hu) hv)
theorem Blk.cell {b : Nat} {cs : List Value} {W : World} (h : Blk X b cs) (hp : PIn X W) {i : Nat} {v : Value} (hi : cs[i]? = some v) : W.cell? ⟨b, i, none⟩ = some v := by
  obtain ⟨r, _, _, h⟩ := h
  have h := hp _ _ h
  have hl : i < cs.length := by
    rcases Nat.lt_or_ge i cs.length with h1 | h1
    · exact h1
    · rw [List.getElem?_eq_none h1] at hi; cases hi
  simp [World.cell?, h, List.getElem?_append_left hl, hi]
theorem op_loadX {t : TypeId} {x : Operand} {b i size : Nat} {row : Bool} {cs : List Value} {v : Value} (ht : Ty P t row size) (hx : eev env x = some (.pointer (some ⟨b, i, none⟩))) (ho : Blk X b cs) (hv : cread row size cs i = some v) : OpY P n env own X (.load t x) v := by
  intro a W oper hop ha hs
  exact execLoad hop (ha.eval hx) (run_loadVar_cells ht (fun _ _ hu => ho.cell hs.pers hu) hv)

/-! ## new blocks -/
def vcells : Value → List Value
  | .agg cs => cs.toList
  | v => [v]
theorem vcells_spec (v : Value) : v.cells.toList = vcells v := by cases v <;> rfl
theorem op_new {oper : Oper} {a : Act} {W : World} {K : Act → World → Prop} {Q : Exit → Act → World → Prop} {ro : Option Nat} (hnd : ∀ c, oper.op ≠ .defer c) (hs : Sat w0 X0 own X W) {cs : List Value} {ty : TypeId} {v : Value}
    (hr : (execOp a.eval oper).run P W = .ok (.value v) (W.alloc (.cells cs.toArray ty)))
    {k : Value → Own → PMap → Prop} (hk : k v (⟨W.heap.size, cs, ty, cs.length⟩ :: own) X)
    (hK : ∀ v own' X' W', k v own' X' → Sat w0 X0 own' X' W' → (true = true → Grow W W') → K (a.put oper.dst v) W') : oper.wpIn (FR ro) DEP P a W K Q :=
  wp_value hnd hr (hK v _ X _ hk (hs.alloc cs ty) fun _ => Grow.alloc W _)
theorem op_box {t : TypeId} {x : Operand} {v : Value} (hx : eev env x = some v) :
    OpX P n w0 X0 env own X (.box t x) true fun u own' X' => ∃ b, u = .pointer (some ⟨b, 0, none⟩) ∧ own' = ⟨b, vcells v, t, (vcells v).length⟩ :: own ∧ X = X' := by
  intro a W oper K Q ro hop ha hs hK
  refine op_new (noDefer_spec (by rw [hop]; rfl)) hs (cs := vcells v) (ty := t) (v := .pointer (some ⟨W.heap.size, 0, none⟩)) ?_ ⟨_, rfl, rfl, rfl⟩ hK
  have : v.cells = (vcells v).toArray := by rw [← vcells_spec]
  simp [execOp, hop, ha.eval hx, Instr.box, newVar, newRow, this, newObj, Sem.run, World.alloc_eq]
/-- The zero value of a type, as cells. -/
structure Zero (P : Program) (t : TypeId) (zs : List Value) : Prop where
  out : ∃ i z, P.info? t = some i ∧ i.zero = some z ∧ z.cells = zs.toArray
theorem Zero.run {t : TypeId} {zs : List Value} (h : Zero P t zs) : ∃ z, z.cells = zs.toArray ∧ ∀ W, (zeroValue t).run P W = .ok z W := by
  obtain ⟨i, z, hi, hz, hc⟩ := h.out
  exact ⟨z, hc, fun W => by simp [zeroValue, typeInfo, hi, hz]⟩
theorem op_alloc {t : TypeId} {zs : List Value} (hz : Zero P t zs) :
    OpX P n w0 X0 env own X (.alloc t) true fun u own' X' => ∃ b, u = .pointer (some ⟨b, 0, none⟩) ∧ own' = ⟨b, zs, t, zs.length⟩ :: own ∧ X = X' := by
  intro a W oper K Q ro hop ha hs hK
  obtain ⟨z, hc, hr⟩ := hz.run
  refine op_new (noDefer_spec (by rw [hop]; rfl)) hs (cs := zs) (ty := t) (v := .pointer (some ⟨W.heap.size, 0, none⟩)) ?_ ⟨_, rfl, rfl, rfl⟩ hK
  simp [execOp, hop, Instr.alloc, hr, newVar, newRow, hc, newObj, Sem.run, World.alloc_eq]

/-! ## stores -/
theorem op_store {t : TypeId} {x y : Operand} {b i j sz size : Nat} {row : Bool} {cs : List Value} {ty : TypeId} {v : Value} (ht : Ty P t row size) (hx : eev env x = some (.pointer (some ⟨b, i, none⟩))) (hy : eev env y = some v) (ho : AtO own b cs ty sz j)
    (h1 : (vcells v).all (·.oneCell') = true) (hl : (vcells v).length = size) (hi : Nat.ble (i + size) cs.length = true) :
    OpX P n w0 X0 env own X (.store t x y) false fun _ own' X' => own' = own.set j ⟨b, csets cs i (vcells v), ty, sz⟩ ∧ X = X' := by
  intro a W oper K Q ro hop ha hs hK
  have hle : i + size ≤ cs.length := Nat.le_of_ble_eq_true hi
  have hin := hs.stab.own _ ho.mem
  have hrun : (storeVar t ⟨b, i, none⟩ v).run P W = .ok () (W.setCells b i (vcells v)) := by
    have ht' : W.there b i (vcells v).length := fun q hq => by
      have hlt : i + q < cs.length := by omega
      exact ⟨by rw [hin.cell (v := cs[i + q]) (by simp [hlt])]; rfl, hin.frozen _⟩
    have := run_storeCells_cells (P := P) b i (vcells v) 0 W (fun q hq => (ht' q hq).1) (fun q hq => (ht' q hq).2) (fun u hu => List.all_eq_true.1 h1 u hu)
    have hinf := ht.info
    cases hq : P.info? t with
    | none => simp [hq] at hinf
    | some inf =>
      have hsz : inf.size = size := by simpa [hq] using hinf
      have hcl : v.cells.toList = vcells v := vcells_spec v
      have hcs : v.cells.size = size := by rw [← Array.length_toList, hcl, hl]
      simp only [Nat.add_zero] at this
      simp [storeVar, sizeOf, typeInfo, hq, hcs, hsz, hcl, this]
  have hex : (execOp a.eval oper).run P W = .ok .skip (W.setCells b i (vcells v)) := by
    simp [execOp, hop, ha.eval hx, ha.eval hy, Instr.storeAt, Instr.sureAddr, hrun]
  exact wp_skipped (noDefer_spec (by rw [hop]; rfl)) hex (hK undef _ X _ ⟨rfl, rfl⟩ (hs.puts _ _ _ _ _ ho.get (by omega)) (fun h => by cases h))

/-! ## addresses -/
/-- Field f of struct s lies at offset off. -/
structure FAdr (P : Program) (s : TypeId) (f off : Nat) : Prop where
  out : ∃ (fields : Array Field) (fl : Field) (i : TypeInfo), P.underlying s = some (.struct fields) ∧ fields[f]? = some fl ∧ fl.offset = off ∧ P.info? fl.type = some i ∧ i.size ≠ 0
theorem op_fieldAddr {s : TypeId} {x : Operand} {f off b i : Nat} (hf : FAdr P s f off) (hx : eev env x = some (.pointer (some ⟨b, i, none⟩))) : OpY P n env own X (.fieldAddr s x f) (.pointer (some ⟨b, i + off, none⟩)) := by
  intro a W oper hop ha _
  obtain ⟨fields, fl, inf, h1, h2, h3, h4, h5⟩ := hf.out
  simp [execOp, hop, ha.eval hx, Instr.fieldAt, run_underlying h1, h2, Instr.sureAddr, fieldPlace, sizeOf, typeInfo, h4, h5, h3, Addr.add_mid]
/-- Field f of a struct value. -/
structure FVal (P : Program) (s : TypeId) (f off : Nat) (row : Bool) (size : Nat) : Prop where
  out : ∃ (fields : Array Field) (fl : Field), P.underlying s = some (.struct fields) ∧ fields[f]? = some fl ∧ fl.offset = off ∧ Ty P fl.type row size
theorem op_field1 {s : TypeId} {x : Operand} {f off size : Nat} {cs : Array Value} {v : Value} (hf : FVal P s f off false size) (hx : eev env x = some (.agg cs)) (hv : cs[off]? = some v) : OpY P n env own X (.field s x f) v := by
  intro a W oper hop ha _
  obtain ⟨fields, fl, h1, h2, h3, h4⟩ := hf.out
  obtain ⟨d, hd, hr⟩ := h4.und
  simp [execOp, hop, ha.eval hx, Instr.field, run_underlying h1, h2, h3, asAgg, part, isAgg_row hd, hr, hv]
theorem op_fieldR {s : TypeId} {x : Operand} {f off size : Nat} {cs : Array Value} (hf : FVal P s f off true size) (hx : eev env x = some (.agg cs)) : OpY P n env own X (.field s x f) (.agg (cs.extract off (off + size))) := by
  intro a W oper hop ha _
  obtain ⟨fields, fl, h1, h2, h3, h4⟩ := hf.out
  obtain ⟨d, hd, hr⟩ := h4.und
  have hinf := h4.info
  cases hq : P.info? fl.type with
  | none => simp [hq] at hinf
  | some inf =>
    have hsz : inf.size = size := by simpa [hq] using hinf
    simp [execOp, hop, ha.eval hx, Instr.field, run_underlying h1, h2, h3, asAgg, part, isAgg_row hd, hr, sizeOf, typeInfo, hq, hsz]
theorem op_index {t e : TypeId} {x ix : Operand} {b o len cap size : Nat} {row : Bool} {k : IntKind} {i : Int} (ht : P.underlying t = some (.slice e)) (he : Ty P e row size) (hx : eev env x = some (.slice (some ⟨b, o, none⟩) len cap)) (hi : eev env ix = some (.int k i)) (h0 : 0 ≤ i) (h1 : i < len) :
    OpY P n env own X (.indexAddr t x ix) (.pointer (some ⟨b, o + i.toNat * size, none⟩)) := by
  intro a W oper hop ha _
  have hinf := he.info
  cases hq : P.info? e with
  | none => simp [hq] at hinf
  | some inf =>
    have hsz : inf.size = size := by simpa [hq] using hinf
    simp [execOp, hop, ha.eval hx, ha.eval hi, Instr.indexAt, asIntOf, run_underlying ht, h0, h1, sizeOf, typeInfo, hq, hsz, Addr.add_mid]
theorem op_indexN {t e : TypeId} {x ix : Operand} {b o len cap size : Nat} {row : Bool} {k : IntKind} {i : Nat} (ht : P.underlying t = some (.slice e)) (he : Ty P e row size) (hx : eev env x = some (.slice (some ⟨b, o, none⟩) len cap)) (hi : eev env ix = some (.int k (i : Int))) (h1 : i < len) :
    OpY P n env own X (.indexAddr t x ix) (.pointer (some ⟨b, o + i * size, none⟩)) := by
  have := op_index (P := P) (n := n) (own := own) (X := X) ht he hx hi (by omega) (by omega)
  simpa using this

/-! ## lengths -/
theorem op_lenS {t e : TypeId} {x : Operand} {o : Option Addr} {len cap : Nat} (ht : P.underlying t = some (.slice e)) (hx : eev env x = some (.slice o len cap)) : OpY P n env own X (.call { callee := .builtin .len, args := #[x], argTypes := #[t] }) (.int .i64 len) := by
  intro a W oper hop ha _
  simp [execOp, hop, resolve, invoke, builtin, Builtin.len_, run_underlying ht, ha.eval hx, goInt]
theorem op_lenStr {t : TypeId} {x : Operand} {s : ByteArray} (ht : P.underlying t = some .string) (hx : eev env x = some (.string s)) : OpY P n env own X (.call { callee := .builtin .len, args := #[x], argTypes := #[t] }) (.int .i64 s.size) := by
  intro a W oper hop ha _
  simp [execOp, hop, resolve, invoke, builtin, Builtin.len_, run_underlying ht, ha.eval hx, goInt]
theorem op_max {x y : Operand} {ts : Array TypeId} {k : IntKind} {p q r : Int} (hx : eev env x = some (.int k p)) (hy : eev env y = some (.int k q)) (hr : (if q > p then q else p) = r) : OpY P n env own X (.call { callee := .builtin .max, args := #[x, y], argTypes := ts }) (.int k r) := by
  intro a W oper hop ha _
  simp [execOp, hop, resolve, invoke, builtin, Builtin.max_, Builtin.max2, ha.eval hx, ha.eval hy, ← hr]
theorem op_min {x y : Operand} {ts : Array TypeId} {k : IntKind} {p q r : Int} (hx : eev env x = some (.int k p)) (hy : eev env y = some (.int k q)) (hr : (if q < p then q else p) = r) : OpY P n env own X (.call { callee := .builtin .min, args := #[x, y], argTypes := ts }) (.int k r) := by
  intro a W oper hop ha _
  simp [execOp, hop, resolve, invoke, builtin, Builtin.min_, Builtin.min2, ha.eval hx, ha.eval hy, ← hr]

/-! ## calls -/
def Enters (P : Program) (f : FuncId) : Prop := ∀ args W, (callFunc f args).run P W = .ok (.enter f args) W
theorem op_call {c : Operand} {f : FuncId} {xs : Array Operand} {ts : Array TypeId} {fs cs : Array Value} {vs : List Value} {Φ : Value → PMap → Prop} (he : Enters P f) (hc : eev env c = some (.func (.func f) fs cs)) (hx : xs.toList.map (eev env) = vs.map some)
    (h : Spec P f (fs.toList ++ vs ++ cs.toList) X Φ) : OpX P n w0 X0 env own X (.call { callee := .value c, args := xs, argTypes := ts }) true fun v own' X' => own = own' ∧ X.le X' ∧ Φ v X' := by
  intro a W oper K Q ro hop ha hs hK
  have all : ∀ (xs : List Operand) (vs : List Value), xs.map (eev env) = vs.map some → xs.map a.eval = vs := by
    intro xs
    induction xs with
    | nil => intro vs h; cases vs <;> simp_all
    | cons x xs ih =>
      intro vs h
      cases vs with
      | nil => simp at h
      | cons v vs =>
        simp only [List.map_cons, List.cons.injEq] at h
        simp [ha.eval h.1, ih vs h.2]
  have h1 : xs.map a.eval = vs.toArray := by apply Array.toList_inj.1; simp [all _ _ hx]
  have hex : (execOp a.eval oper).run P W = .ok (.enter f (fs.toList ++ vs ++ cs.toList).toArray) W := by
    have hargs : fs ++ vs.toArray ++ cs = (fs.toList ++ vs ++ cs.toList).toArray := by apply Array.toList_inj.1; simp
    simp only [execOp, hop, resolve, ha.eval hc, h1, Deferred.ofValue, invoke, Sem.run_bind, Sem.run_pure, Result.andThen_ok]
    rw [hargs]
    exact he _ _
  refine wp_enters (noDefer_spec (by rw [hop]; rfl)) hex ((h W hs.stab.pers).mono fun e w' hfin => ?_)
  obtain ⟨v, X', rfl, hb, hp, hk, hΦ⟩ := hfin
  refine ⟨v, rfl, ?_⟩
  exact hK v own X' w' ⟨rfl, fun q o hq => (hk q (hs.stab.pers.lt hq)).trans hq, hΦ⟩ (hs.call hb hp hk) fun _ => Grow.of_below hb
/-- A call of a function by its name. -/
theorem op_callF {f : FuncId} {xs : Array Operand} {ts : Array TypeId} {vs : List Value} {Φ : Value → PMap → Prop} (he : Enters P f) (hx : xs.toList.map (eev env) = vs.map some)
    (h : Spec P f vs X Φ) : OpX P n w0 X0 env own X (.call { callee := .value (.func f), args := xs, argTypes := ts }) true fun v own' X' => own = own' ∧ X.le X' ∧ Φ v X' :=
  op_call he rfl hx (by simpa using h)
end
end Go.Proofs.YtoheffglppbcbaaDoor
