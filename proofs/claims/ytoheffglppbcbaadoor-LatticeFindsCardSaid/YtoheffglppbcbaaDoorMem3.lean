/- THE ENGINE, seventh part: make, copy, slices of slices, composite literals, bits, conversions. No program is named here. -/
import Derived.Test.YtoheffglppbcbaaDoorMem2
namespace Go.Proofs.YtoheffglppbcbaaDoor
open Go.RowKit

section
variable {P : Program} {n : NM} {w0 : Base} {X0 X : PMap} {own : Own} {env : Env}

/-! ## make -/
theorem madeCells_one (z : Value) (q : Nat) : madeCells #[z] q = (List.replicate q z).toArray := by
  apply Array.ext
  · simp [madeCells]
  · intro i h1 h2
    simp [madeCells, Nat.mod_one]
/-- make([]T, l, c), an element one cell. -/
theorem op_make {t e : TypeId} {x y : Operand} {bytes l c : Nat} {kl kc : IntKind} {z : Value} (ht : P.underlying t = some (.slice e)) (he : ∃ i, P.info? e = some i ∧ i.size = 1 ∧ i.bytes = bytes ∧ i.zero = some z) (hz : z.cells = #[z])
    (hx : eev env x = some (.int kl (l : Int))) (hy : eev env y = some (.int kc (c : Int))) (hlc : l ≤ c) (hb : bytes * c ≤ 140737488355328) (hc : c ≤ 9223372036854775807) :
    OpX P n w0 X0 env own X (.makeSlice t x y) true fun v own' X' => ∃ b, v = .slice (some ⟨b, 0, none⟩) l c ∧ own' = ⟨b, List.replicate l z, e, c⟩ :: own ∧ X = X' := by
  intro a W oper K Q ro hop ha hs hK
  obtain ⟨i, h1, h2, h3, h4⟩ := he
  have hbi : (i.bytes : Int) * (c : Int) ≤ 281474976710656 := by
    have : ((i.bytes * c : Nat) : Int) ≤ 281474976710656 := by rw [h3]; omega
    rwa [Int.natCast_mul] at this
  have hr := run_make (P := P) W t e i z ht h1 h4 kl kc (l : Int) (c : Int) (by omega) (by omega) hbi (by omega)
  simp only [Int.toNat_natCast, h2, Nat.mul_one, hz, madeCells_one] at hr
  refine wp_value (v := .slice (some ⟨W.heap.size, 0, none⟩) l c) (W' := W.alloc (.cells (List.replicate c z).toArray e)) (noDefer_spec (by rw [hop]; rfl)) ?_ (hK _ (⟨W.heap.size, List.replicate l z, e, c⟩ :: own) X _ ⟨_, rfl, rfl, rfl⟩ ?_ fun _ => Grow.alloc W _)
  · simp [execOp, hop, ha.eval hx, ha.eval hy, hr]
  · have h1 := hs.alloc (List.replicate c z) e
    have e1 : List.replicate c z = List.replicate l z ++ List.replicate (c - l) z := by rw [List.replicate_append_replicate]; congr 1; omega
    rw [List.length_replicate] at h1
    rw [show (⟨W.heap.size, List.replicate c z, e, c⟩ : Ow) = ⟨W.heap.size, List.replicate l z ++ List.replicate (c - l) z, e, c⟩ by rw [← e1]] at h1
    exact h1.forget

/-! ## copy -/
theorem op_copy {t t' e : TypeId} {x y : Operand} {b o dl dc j sz m : Nat} {cs news : List Value} {ty : TypeId} {u : Value} {sl : Nat} (ht : P.underlying t = some (.slice e)) (he : (P.info? e).map (·.size) = some 1)
    (hx : eev env x = some (.slice (some ⟨b, o, none⟩) dl dc)) (hy : eev env y = some u) (ho : AtO own b cs ty sz j) (hsrc : Src own X u sl 1 news) (hm : m = Nat.min sl dl) (hfit : o + m ≤ cs.length) (h1 : ∀ v ∈ news, v.oneCell' = true) :
    OpX P n w0 X0 env own X (.call { callee := .builtin .copy, args := #[x, y], argTypes := #[t, t'] }) false fun v own' X' => v = .int .i64 m ∧ own' = own.set j ⟨b, csets cs o (news.take m), ty, sz⟩ ∧ X = X' := by
  intro a W oper K Q ro hop ha hs hK
  have hin := hs.stab.own _ ho.mem
  obtain ⟨hnl, A, c, rfl, hA⟩ := hsrc
  have hex : ∀ v' W', (Builtin.copy_ #[t, t'] oper.type #[.slice (some ⟨b, o, none⟩) dl dc, .slice A sl c]).run P W = .ok v' W' → (execOp a.eval oper).run P W = .ok (.value v') W' := fun v' W' h => by
    simp only [execOp, hop, resolve, invoke, builtin, Sem.run_bind, Sem.run_pure, Result.andThen_ok, List.map_toArray, List.map_cons, List.map_nil, ha.eval hx, ha.eval hy, h]
  have hmsl : m ≤ sl := by rw [hm]; exact Nat.min_le_left _ _
  have hlen : (news.take m).length = m := by rw [List.length_take]; omega
  rcases Nat.eq_zero_or_pos m with h0 | h0
  · have hr := run_copy_none (P := P) W t t' oper.type e (some ⟨b, o, none⟩) A dl dc sl c ht he (by omega)
    refine wp_value (noDefer_spec (by rw [hop]; rfl)) (hex _ _ hr) ?_
    subst h0
    have hset : own.set j ⟨b, csets cs o (news.take 0), ty, sz⟩ = own := by
      apply List.ext_getElem?
      intro k
      by_cases e : j = k
      · subst e
        have hjl : j < own.length := by
          have := ho.get
          rcases Nat.lt_or_ge j own.length with h1 | h1
          · exact h1
          · rw [List.getElem?_eq_none h1] at this; cases this
        rw [List.getElem?_set_self hjl, ho.get]; rfl
      · rw [List.getElem?_set_ne e]
    exact hK _ _ X W ⟨rfl, rfl, rfl⟩ (by rw [hset]; exact hs) (fun h => by cases h)
  · obtain ⟨b2, o2, rfl, hc2⟩ := hA (by omega)
    have hr := run_copy_cells (P := P) W t t' oper.type e b o dl dc ⟨b2, o2, none⟩ sl c (news.take m) ht he (by rw [hlen, hm])
      (fun q v hv => by
        rw [Addr.add_mid]
        rw [List.getElem?_take] at hv
        split at hv
        · exact hc2 W hs.stab _ _ hv
        · cases hv)
      (fun q hq => by
        have hlt : o + q < cs.length := by omega
        rw [hin.cell (v := cs[o + q]) (by simp [hlt])]; rfl)
      (fun q _ => hin.frozen _) (fun v hv => h1 v (List.mem_of_mem_take hv))
    refine wp_value (noDefer_spec (by rw [hop]; rfl)) (hex _ _ hr) ?_
    exact hK _ _ X _ ⟨by rw [hlen]; rfl, rfl, rfl⟩ (hs.puts _ _ _ _ _ ho.get (by omega)) (fun h => by cases h)

/-! ## slices of slices -/
theorem op_slice {t e : TypeId} {x : Operand} {lo hi : Option Operand} {b o len cap size l h : Nat} {row : Bool} (ht : P.underlying t = some (.slice e)) (he : Ty P e row size) (hx : eev env x = some (.slice (some ⟨b, o, none⟩) len cap))
    (hl : ∀ q, lo = some q → ∃ k, eev env q = some (.int k (l : Int))) (hl0 : lo = none → l = 0) (hh : ∀ q, hi = some q → ∃ k, eev env q = some (.int k (h : Int))) (hh0 : hi = none → h = len) (h1 : l ≤ h) (h2 : h ≤ cap) :
    OpY P n env own X (.slice t x lo hi none) (.slice (some (if cap = l then ⟨b, o, none⟩ else ⟨b, o + l * size, none⟩)) (h - l) (cap - l)) := by
  intro a W oper hop ha _
  have hinf := he.info
  have hinf' : ∃ inf, P.info? e = some inf ∧ inf.size = size := by
    cases hq : P.info? e with
    | none => simp [hq] at hinf
    | some inf => exact ⟨inf, rfl, by simpa [hq] using hinf⟩
  obtain ⟨inf, hq, hsz⟩ := hinf'
  have hsl : ∀ (lo' hi' : Option Value), (∀ v, lo' = some v → ∃ k, v = .int k (l : Int)) → (lo' = none → l = 0) → (∀ v, hi' = some v → ∃ k, v = .int k (h : Int)) → (hi' = none → h = len) →
      (Instr.sliceAt t (.slice (some ⟨b, o, none⟩) len cap) lo' hi' none).run P W = .ok (.slice (some (if cap = l then ⟨b, o, none⟩ else ⟨b, o + l * size, none⟩)) (h - l) (cap - l)) W := by
    intro lo' hi' a1 a2 a3 a4
    have hb2 : (Instr.sliceBounds true len cap lo' hi' none).run P W = .ok (l, h, cap) W := by
      cases lo' with
      | none =>
        have := a2 rfl
        subst this
        cases hi' with
        | none => have := a4 rfl; subst this; simp [Instr.sliceBounds]
        | some v => obtain ⟨k, rfl⟩ := a3 v rfl; simp [Instr.sliceBounds, Instr.sliceBound, asIntOf, h2]
      | some u =>
        obtain ⟨k', rfl⟩ := a1 u rfl
        cases hi' with
        | none => have := a4 rfl; subst this; simp [Instr.sliceBounds, Instr.sliceBound, asIntOf, h1]
        | some v => obtain ⟨k, rfl⟩ := a3 v rfl; simp [Instr.sliceBounds, Instr.sliceBound, asIntOf, h2, h1]
    simp only [Instr.sliceAt, Sem.run_bind, run_underlying ht, Result.andThen_ok, Instr.slice, hb2, sizeOf, typeInfo]
    by_cases hc : cap = l <;> simp [hc, hq, hsz, Addr.add_mid]
  have := hsl (lo.map a.eval) (hi.map a.eval) (fun v hv => by
      cases lo with
      | none => simp at hv
      | some q => obtain ⟨k, hk⟩ := hl q rfl; simp only [Option.map_some, Option.some.injEq] at hv; exact ⟨k, by rw [← hv, ha.eval hk]⟩)
    (fun hv => hl0 (by cases lo <;> simp_all)) (fun v hv => by
      cases hi with
      | none => simp at hv
      | some q => obtain ⟨k, hk⟩ := hh q rfl; simp only [Option.map_some, Option.some.injEq] at hv; exact ⟨k, by rw [← hv, ha.eval hk]⟩)
    (fun hv => hh0 (by cases hi <;> simp_all))
  simp [execOp, hop, ha.eval hx, this]

/-! ## composite literals -/
/-- Fields written into zeros. -/
def bfill (fs : List (Nat × Nat)) : List Value → List (Nat × Value) → Option (List Value)
  | cells, [] => some cells
  | cells, (i, v) :: r =>
    match fs[i]? with
    | none => none
    | some (off, size) => bif Nat.beq (vcells v).length size && Nat.ble (off + size) cells.length then bfill fs (csets cells off (vcells v)) r else none
theorem csets_foldl (off : Nat) : ∀ (vs : List Value) (cs : Array Value) (q : Nat), (vs.zipIdx q).foldl (fun (cs : Array Value) (p : Value × Nat) => cs.setIfInBounds (off + p.2) p.1) cs = (csets cs.toList (off + q) vs).toArray
  | [], cs, q => by simp [csets]
  | v :: vs, cs, q => by
    rw [List.zipIdx_cons, List.foldl_cons, csets_foldl off vs _ (q + 1)]
    simp [csets, Nat.add_assoc]
theorem fill_bfill {fs : List (Nat × Nat)} : ∀ (parts : List (Nat × Value)) (cells : List Value) (out : List Value), bfill fs cells parts = some out → Instr.fill (fun i => fs[i]?) cells.toArray parts = some out.toArray
  | [], cells, out, h => by simp only [bfill, Option.some.injEq] at h; subst h; rfl
  | (i, v) :: r, cells, out, h => by
    simp only [bfill] at h
    simp only [Instr.fill]
    cases hf : fs[i]? with
    | none => rw [hf] at h; cases h
    | some os =>
      obtain ⟨off, size⟩ := os
      rw [hf] at h
      simp only at h ⊢
      cases hb : Nat.beq (vcells v).length size && Nat.ble (off + size) cells.length with
      | false => rw [hb] at h; cases h
      | true =>
        rw [hb] at h
        simp only [Bool.and_eq_true] at hb
        have e1 : (vcells v).length = size := Nat.eq_of_beq_eq_true hb.1
        have e2 : off + size ≤ cells.length := Nat.le_of_ble_eq_true hb.2
        have hvs : v.cells.size = size := by rw [← Array.length_toList, vcells_spec, e1]
        have hcond : (decide (v.cells.size ≠ size) || decide (off + v.cells.size > cells.toArray.size)) = false := by simp [hvs]; omega
        simp only [hcond, Bool.false_eq_true, if_false]
        have := csets_foldl off (vcells v) cells.toArray 0
        rw [Nat.add_zero] at this
        have hz : v.cells.zipIdx.foldl (fun (cs : Array Value) (p : Value × Nat) => cs.setIfInBounds (off + p.2) p.1) cells.toArray = (csets cells off (vcells v)).toArray := by
          rw [← this, ← vcells_spec]
          rw [← Array.foldl_toList]
          simp
        have hz' : (v.cells.zipIdx.foldl (fun cs (x : Value × Nat) => match x with | (c, j) => cs.setIfInBounds (off + j) c) cells.toArray) = (csets cells off (vcells v)).toArray := hz
        rw [hz']
        exact fill_bfill r _ out h

theorem evalParts {ps : Array (Nat × Operand)} {qs : List (Nat × Value)} {a : Act} (ha : EOk n env a) (h : ps.toList.map (fun p => (p.1, eev env p.2)) = qs.map fun p => (p.1, some p.2)) : (ps.map fun (p : Nat × Operand) => (p.1, a.eval p.2)) = qs.toArray := by
  have all : ∀ (xs : List (Nat × Operand)) (vs : List (Nat × Value)), xs.map (fun p => (p.1, eev env p.2)) = vs.map (fun p => (p.1, some p.2)) → xs.map (fun p => (p.1, a.eval p.2)) = vs := by
    intro xs
    induction xs with
    | nil => intro vs h; cases vs <;> simp_all
    | cons x xs ih =>
      intro vs h
      cases vs with
      | nil => simp at h
      | cons v vs =>
        simp only [List.map_cons, List.cons.injEq, Prod.mk.injEq] at h
        obtain ⟨⟨h1, h2⟩, h3⟩ := h
        simp only [List.map_cons, ha.eval h2, ih vs h3, h1]
  apply Array.toList_inj.1
  simp [all _ _ h]
/-- What is known of a struct's type. -/
structure StT (P : Program) (t : TypeId) (fs : List (Nat × Nat)) (zs : List Value) : Prop where
  out : ∃ fields : Array Field, P.underlying t = some (.struct fields) ∧ (∀ W, (fields.mapM fun (f : Field) => (do pure (f.offset, ← sizeOf f.type) : Sem (Nat × Nat))).run P W = .ok fs.toArray W) ∧ Zero P t zs
theorem op_build {t : TypeId} {ps : Array (Nat × Operand)} {qs : List (Nat × Value)} {fs : List (Nat × Nat)} {zs out : List Value} (ht : StT P t fs zs) (hp : ps.toList.map (fun p => (p.1, eev env p.2)) = qs.map fun p => (p.1, some p.2)) (hf : bfill fs zs qs = some out) :
    OpY P n env own X (.build t ps) (.agg out.toArray) := by
  intro a W oper hop ha _
  obtain ⟨fields, h1, h2, h3⟩ := ht.out
  obtain ⟨z, hc, hr⟩ := h3.run
  have hfl := fill_bfill qs zs out hf
  have hb : (Instr.build t qs.toArray).run P W = .ok (.agg out.toArray) W := by
    simp only [Instr.build, Sem.run_bind, hr, Result.andThen_ok, run_underlying h1, h2, hc, List.getElem?_toArray, hfl, Sem.run_pure]
  have he := evalParts ha hp
  simp only [execOp, hop]
  have he' : (ps.map fun (x : Nat × Operand) => match x with | (i, x) => (i, a.eval x)) = qs.toArray := he
  rw [he']
  simp [hb]
theorem rep_cells (zs : List Value) : ∀ (len : Nat), (List.range (len * zs.length)).map (fun i => zs[i % zs.length]!) = (List.replicate len zs).flatten
  | 0 => by simp
  | len + 1 => by
    have h := rep_cells zs len
    rw [Nat.add_mul, Nat.one_mul, List.range_add, List.map_append, h, List.replicate_succ', List.flatten_append]
    congr 1
    simp only [List.map_map, List.flatten_cons, List.flatten_nil, List.append_nil]
    apply List.ext_getElem
    · simp
    · intro i h1 h2
      have hi : (len * zs.length + i) % zs.length = i := by rw [Nat.mul_comm, Nat.mul_add_mod]; exact Nat.mod_eq_of_lt h2
      simp [hi, h2]
theorem op_buildSlice {t e : TypeId} {len size : Nat} {ps : Array (Nat × Operand)} {qs : List (Nat × Value)} {zs out : List Value} (ht : P.underlying t = some (.slice e)) (he : ∃ i z, P.info? e = some i ∧ i.size = size ∧ i.zero = some z ∧ z.cells = zs.toArray) (hp : ps.toList.map (fun p => (p.1, eev env p.2)) = qs.map fun p => (p.1, some p.2))
    (hlen : Nat.ble (len * size) 16777216 = true) (hf : bfill ((List.range len).map fun i => (i * size, size)) (List.replicate len zs).flatten qs = some out) (hzs : zs.length = size) (hlq : qs.all (fun p => Nat.blt p.1 len) = true) :
    OpX P n w0 X0 env own X (.buildSlice t len ps) true fun v own' X' => ∃ b, v = .slice (some ⟨b, 0, none⟩) len len ∧ own' = ⟨b, out, e, out.length⟩ :: own ∧ X = X' := by
  intro a W oper K Q ro hop ha hs hK
  obtain ⟨i, z, h1, h2, h4, h5⟩ := he
  have hle : len * size ≤ 16777216 := Nat.le_of_ble_eq_true hlen
  have hrep := rep_cells zs len
  rw [hzs] at hrep
  have hcells : ∀ zc : Array Value, (len * size = 0 → True) → (len * size ≠ 0 → zc = zs.toArray) → (Array.range (len * size)).map (zc[· % zc.size]!) = (List.replicate len zs).flatten.toArray := by
    intro zc _ hzc
    by_cases h0 : len * size = 0
    · rw [← hrep]; simp [h0]
    · rw [hzc h0, ← hrep]
      apply Array.toList_inj.1
      simp [hzs]
  have hfl := fill_bfill qs _ out hf
  have hfl2 : Instr.fill (fun i => some (i * size, size)) (List.replicate len zs).flatten.toArray qs = some out.toArray := by
    have key : ∀ (parts : List (Nat × Value)) (cells : Array Value), (∀ p ∈ parts, p.1 < len) → Instr.fill (fun i => some (i * size, size)) cells parts = Instr.fill (fun i => ((List.range len).map fun i => (i * size, size))[i]?) cells parts := by
      intro parts
      induction parts with
      | nil => intro cells _; rfl
      | cons p r ih =>
        intro cells hlt
        obtain ⟨i, v⟩ := p
        have hi : i < len := hlt (i, v) (by simp)
        simp only [Instr.fill]
        have hg : ((List.range len).map fun i => (i * size, size))[i]? = some (i * size, size) := by simp [hi]
        rw [hg]
        simp only
        split
        · rfl
        · exact ih _ fun p hp => hlt p (by simp [hp])
    rw [key qs _ fun p hp => Nat.le_of_ble_eq_true (List.all_eq_true.1 hlq p hp)]
    exact hfl
  have hb : (Instr.buildSlice t len qs.toArray).run P W = .ok (.slice (some ⟨W.heap.size, 0, none⟩) len len) (W.alloc (.cells out.toArray e)) := by
    have hn : ¬ (16777216 < len * size) := by omega
    simp only [Instr.buildSlice, Sem.run_bind, run_underlying ht, Result.andThen_ok]
    by_cases h0 : len * size = 0
    · have hc0 := hcells #[] (fun _ => trivial) (fun h => absurd h0 h)
      simp only [h0] at hc0
      simp [sizeOf, typeInfo, h1, h2, h0, newRow, newObj]
      simp at hc0
      rw [← hc0] at hfl2
      simp [hfl2, Sem.run, World.alloc_eq]
    · have hc0 := hcells z.cells (fun h => absurd h h0) (fun _ => h5)
      simp [sizeOf, typeInfo, h1, h2, h0, hn, zeroValue, h4, newRow, newObj, Sem.run, World.alloc_eq, hc0, hfl2]
  refine op_new (noDefer_spec (by rw [hop]; rfl)) hs (cs := out) (ty := e) (v := .slice (some ⟨W.heap.size, 0, none⟩) len len) ?_ ⟨_, rfl, rfl, rfl⟩ hK
  have he' : (ps.map fun (x : Nat × Operand) => match x with | (i, x) => (i, a.eval x)) = qs.toArray := evalParts ha hp
  simp only [execOp, hop]
  rw [he']
  simp [hb]

/-! ## bits of uint64, shifts, conversions -/
section
variable {t t' : TypeId} {x y : Operand}
theorem op_bits {op : BinOp} {k : IntKind} {p q r : Int} (hx : eev env x = some (.int k p)) (hy : eev env y = some (.int k q)) (ho : op = .and ∨ op = .or ∨ op = .xor ∨ op = .andNot) (hr : bits op k p q = r) : OpY P n env own X (.binOp op t x y t') (.int k r) := by
  intro a W oper hop ha _
  subst hr
  rcases ho with rfl | rfl | rfl | rfl <;> simp [execOp, hop, ha.eval hx, ha.eval hy, binOp, eqGuard, Op.intBits, bits]
theorem op_and {p q : Nat} (hx : eev env x = some (.int .u64 (p : Int))) (hy : eev env y = some (.int .u64 (q : Int))) (h1 : p < 18446744073709551616) (h2 : q < 18446744073709551616) : OpY P n env own X (.binOp .and t x y t') (.int .u64 ((p &&& q : Nat) : Int)) := op_bits hx hy (by simp) (u64_and_nat p q h1 h2)
theorem op_or {p q : Nat} (hx : eev env x = some (.int .u64 (p : Int))) (hy : eev env y = some (.int .u64 (q : Int))) (h1 : p < 18446744073709551616) (h2 : q < 18446744073709551616) : OpY P n env own X (.binOp .or t x y t') (.int .u64 ((p ||| q : Nat) : Int)) := op_bits hx hy (by simp) (u64_or_nat p q h1 h2)
theorem op_xor {p q : Nat} (hx : eev env x = some (.int .u64 (p : Int))) (hy : eev env y = some (.int .u64 (q : Int))) (h1 : p < 18446744073709551616) (h2 : q < 18446744073709551616) : OpY P n env own X (.binOp .xor t x y t') (.int .u64 ((p ^^^ q : Nat) : Int)) := op_bits hx hy (by simp) (u64_xor_nat p q h1 h2)
theorem op_andNot {p q : Nat} (hx : eev env x = some (.int .u64 (p : Int))) (hy : eev env y = some (.int .u64 (q : Int))) (h1 : p < 18446744073709551616) (h2 : q < 18446744073709551616) : OpY P n env own X (.binOp .andNot t x y t') (.int .u64 ((p &&& (18446744073709551615 - q) : Nat) : Int)) := op_bits hx hy (by simp) (u64_andNot_nat p q h1 h2)
theorem op_shl {k k' : IntKind} {p : Int} {q : Nat} (hx : eev env x = some (.int k p)) (hy : eev env y = some (.int k' (q : Int))) : OpY P n env own X (.binOp .shl t x y t') (.int k (k.wrap (p * 2 ^ (min q k.bits)))) := by
  intro a W oper hop ha _
  have hq : ¬ ((q : Int) < 0) := by omega
  simp [execOp, hop, ha.eval hx, ha.eval hy, binOp, eqGuard, Op.shift, hq]
theorem op_shr {k k' : IntKind} {p : Int} {q : Nat} (hx : eev env x = some (.int k p)) (hy : eev env y = some (.int k' (q : Int))) : OpY P n env own X (.binOp .shr t x y t') (.int k (p.fdiv (2 ^ (min q k.bits)))) := by
  intro a W oper hop ha _
  have hq : ¬ ((q : Int) < 0) := by omega
  simp [execOp, hop, ha.eval hx, ha.eval hy, binOp, eqGuard, Op.shift, hq]
/-- A mask to the right by fewer than 64. -/
theorem op_shrN {k' : IntKind} {p q : Nat} (hx : eev env x = some (.int .u64 (p : Int))) (hy : eev env y = some (.int k' (q : Int))) (hq : q < 64) : OpY P n env own X (.binOp .shr t x y t') (.int .u64 ((p >>> q : Nat) : Int)) := by
  have h := op_shr (P := P) (n := n) (own := own) (X := X) (t := t) (t' := t') hx hy
  have e : min q IntKind.u64.bits = q := Nat.min_eq_left (by show q ≤ 64; omega)
  rw [e] at h
  have e2 : (p : Int).fdiv (2 ^ q) = ((p >>> q : Nat) : Int) := by
    rw [Nat.shiftRight_eq_div_pow]
    have : ((2 : Int) ^ q) = ((2 ^ q : Nat) : Int) := by simp
    rw [this, Int.fdiv_eq_ediv_of_nonneg _ (Int.natCast_nonneg _)]
    simp
  rwa [e2] at h
/-- One to the left by fewer than 64. -/
theorem op_bit {k' : IntKind} {q : Nat} (hx : eev env x = some (.int .u64 1)) (hy : eev env y = some (.int k' (q : Int))) (hq : q < 64) : OpY P n env own X (.binOp .shl t x y t') (.int .u64 ((2 ^ q : Nat) : Int)) := by
  have h := op_shl (P := P) (n := n) (own := own) (X := X) (t := t) (t' := t') hx hy
  have e : min q IntKind.u64.bits = q := Nat.min_eq_left (by show q ≤ 64; omega)
  rw [e] at h
  have hlt : 2 ^ q < 18446744073709551616 := Nat.pow_lt_pow_right (a := 2) (by omega) hq
  have e2 : IntKind.u64.wrap (1 * 2 ^ q) = ((2 ^ q : Nat) : Int) := by
    have : ((1 : Int) * 2 ^ q) = ((2 ^ q : Nat) : Int) := by simp
    rw [this]
    generalize 2 ^ q = z at hlt
    simp [IntKind.wrap, IntKind.signed, IntKind.bits]
    omega
  rwa [e2] at h
theorem op_convert {src dst : TypeId} {k k' : IntKind} {p : Int} {d : TypeDesc} (hs : P.underlying src = some d) (hd : P.underlying dst = some (.int k)) (hx : eev env x = some (.int k' p)) : OpY P n env own X (.convert src dst x) (.int k (k.wrap p)) := by
  intro a W oper hop ha _
  simp [execOp, hop, ha.eval hx, convert, run_underlying hs, run_underlying hd, Conv.intToInt]
end
end
end Go.Proofs.YtoheffglppbcbaaDoor
