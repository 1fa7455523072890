/- THE ENGINE: operations on numbers that are not negative, in forms that stay numbers; arrays. No program is named here. -/
import Derived.Test.YtoheffglppbcbaaDoorHelp
namespace Go.Proofs.YtoheffglppbcbaaDoor
open Go.RowKit
section
variable {P : Program} {n : NM} {X : PMap} {own : Own} {env : Env} {t t' : TypeId} {x y : Operand} {k : IntKind}
theorem wrap_u64 {p : Nat} (h : p < 18446744073709551616) : IntKind.u64.wrap (p : Int) = (p : Int) := by simp [IntKind.wrap, IntKind.signed, IntKind.bits]; omega
theorem wrap_u64' (p : Nat) : IntKind.u64.wrap (p : Int) = ((p % 18446744073709551616 : Nat) : Int) := by simp [IntKind.wrap, IntKind.signed, IntKind.bits]
theorem wrap_u8 {p : Int} (h0 : 0 ≤ p) (h : p < 256) : IntKind.u8.wrap p = p := by simp [IntKind.wrap, IntKind.signed, IntKind.bits]; omega
theorem wrap_u16 {p : Int} (h0 : 0 ≤ p) (h : p < 65536) : IntKind.u16.wrap p = p := by simp [IntKind.wrap, IntKind.signed, IntKind.bits]; omega
theorem wrap_u32 {p : Int} (h0 : 0 ≤ p) (h : p < 4294967296) : IntKind.u32.wrap p = p := by simp [IntKind.wrap, IntKind.signed, IntKind.bits]; omega
theorem wrap_u64i {p : Int} (h0 : 0 ≤ p) (h : p < 18446744073709551616) : IntKind.u64.wrap p = p := by simp [IntKind.wrap, IntKind.signed, IntKind.bits]; omega
theorem wrap_i32 {p : Int} (h0 : -2147483648 ≤ p) (h : p ≤ 2147483647) : IntKind.i32.wrap p = p := by
  simp [IntKind.wrap, IntKind.signed, IntKind.bits]
  split <;> omega
theorem op_addN {p q : Nat} (hx : eev env x = some (.int .i64 (p : Int))) (hy : eev env y = some (.int .i64 (q : Int))) (h : p + q ≤ 9223372036854775807) : OpY P n env own X (.binOp .add t x y t') (.int .i64 ((p + q : Nat) : Int)) := by
  have := op_add (P := P) (n := n) (own := own) (X := X) (t := t) (t' := t') hx hy (by omega) (by omega)
  simpa using this
theorem op_subN {p q : Nat} (hx : eev env x = some (.int .i64 (p : Int))) (hy : eev env y = some (.int .i64 (q : Int))) (h : q ≤ p) (h' : p ≤ 9223372036854775807) : OpY P n env own X (.binOp .sub t x y t') (.int .i64 ((p - q : Nat) : Int)) := by
  have := op_sub (P := P) (n := n) (own := own) (X := X) (t := t) (t' := t') hx hy (by omega) (by omega)
  rwa [show (p : Int) - (q : Int) = ((p - q : Nat) : Int) by omega] at this
theorem op_mulN {p q : Nat} (hx : eev env x = some (.int .i64 (p : Int))) (hy : eev env y = some (.int .i64 (q : Int))) (h : p * q ≤ 9223372036854775807) : OpY P n env own X (.binOp .mul t x y t') (.int .i64 ((p * q : Nat) : Int)) := by
  have e : (p : Int) * (q : Int) = ((p * q : Nat) : Int) := by simp
  have := op_mul (P := P) (n := n) (own := own) (X := X) (t := t) (t' := t') hx hy (by rw [e]; omega) (by rw [e]; omega)
  rwa [e] at this
theorem op_addU {p q : Nat} (hx : eev env x = some (.int .u64 (p : Int))) (hy : eev env y = some (.int .u64 (q : Int))) (h : p + q < 18446744073709551616) : OpY P n env own X (.binOp .add t x y t') (.int .u64 ((p + q : Nat) : Int)) := by
  have := op_addW (P := P) (n := n) (own := own) (X := X) (t := t) (t' := t') hx hy
  rwa [show (p : Int) + (q : Int) = ((p + q : Nat) : Int) by omega, wrap_u64 h] at this
theorem op_subU {p q : Nat} (hx : eev env x = some (.int .u64 (p : Int))) (hy : eev env y = some (.int .u64 (q : Int))) (h : q ≤ p) (h' : p < 18446744073709551616) : OpY P n env own X (.binOp .sub t x y t') (.int .u64 ((p - q : Nat) : Int)) := by
  have := op_subW (P := P) (n := n) (own := own) (X := X) (t := t) (t' := t') hx hy
  rwa [show (p : Int) - (q : Int) = ((p - q : Nat) : Int) by omega, wrap_u64 (by omega)] at this
theorem op_mulU {p q : Nat} (hx : eev env x = some (.int .u64 (p : Int))) (hy : eev env y = some (.int .u64 (q : Int))) : OpY P n env own X (.binOp .mul t x y t') (.int .u64 ((p * q % 18446744073709551616 : Nat) : Int)) := by
  have := op_mulW (P := P) (n := n) (own := own) (X := X) (t := t) (t' := t') hx hy
  rwa [show (p : Int) * (q : Int) = ((p * q : Nat) : Int) by simp, wrap_u64'] at this
theorem op_negU {p : Nat} (hx : eev env x = some (.int .u64 (p : Int))) (h0 : 0 < p) (h : p < 18446744073709551616) : OpY P n env own X (.unOp .neg t x) (.int .u64 ((18446744073709551616 - p : Nat) : Int)) := by
  intro a W oper ho ha _
  have e : IntKind.u64.wrap (0 - (p : Int)) = ((18446744073709551616 - p : Nat) : Int) := by simp [IntKind.wrap, IntKind.signed, IntKind.bits]; omega
  simp only [execOp, ho, ha.eval hx, Op.unary, Op.intArith]
  simp only [Int.zero_sub] at e
  simp [e]
theorem op_quo0 {p q : Nat} {q' : Int} (hx : eev env x = some (.int .i64 (p : Int))) (hy : eev env y = some (.int .i64 q')) (hq' : q' = Int.ofNat q) (h1 : p ≤ 9223372036854775807) (hq : p < q) : OpY P n env own X (.binOp .quo t x y t') (.int .i64 ((0 : Nat) : Int)) := by
  have := op_quoN (P := P) (n := n) (own := own) (X := X) (t := t) (t' := t') hx hy hq' h1 (by omega)
  rwa [Nat.div_eq_of_lt hq] at this
theorem op_remS {p q : Nat} {q' : Int} (hx : eev env x = some (.int k (p : Int))) (hy : eev env y = some (.int k q')) (hq' : q' = Int.ofNat q) (hq : p < q) : OpY P n env own X (.binOp .rem t x y t') (.int k (p : Int)) := by
  have := op_remN (P := P) (n := n) (own := own) (X := X) (t := t) (t' := t') hx hy hq' (by omega)
  rwa [Nat.mod_eq_of_lt hq] at this
theorem op_shrK {k' : IntKind} {p q : Nat} (hx : eev env x = some (.int k (p : Int))) (hy : eev env y = some (.int k' (q : Int))) (hq : q ≤ k.bits) : OpY P n env own X (.binOp .shr t x y t') (.int k ((p >>> q : Nat) : Int)) := by
  have h := op_shr (P := P) (n := n) (own := own) (X := X) (t := t) (t' := t') hx hy
  have e : min q k.bits = q := Nat.min_eq_left hq
  rw [e] at h
  have e2 : (p : Int).fdiv (2 ^ q) = ((p >>> q : Nat) : Int) := by
    rw [Nat.shiftRight_eq_div_pow]
    have : ((2 : Int) ^ q) = ((2 ^ q : Nat) : Int) := by simp
    rw [this, Int.fdiv_eq_ediv_of_nonneg _ (Int.natCast_nonneg _)]
    simp
  rwa [e2] at h
theorem op_indexA {e : TypeId} {ix : Operand} {b o len size : Nat} {row : Bool} {i : Nat} (ht : P.underlying t = some (.array len e)) (he : Ty P e row size) (hx : eev env x = some (.pointer (some ⟨b, o, none⟩))) (hi : eev env ix = some (.int k (i : Int))) (h1 : i < len) :
    OpY P n env own X (.indexAddr t x ix) (.pointer (some ⟨b, o + i * size, none⟩)) := by
  intro a W oper hop ha _
  have hinf := he.info
  cases hq : P.info? e with
  | none => simp [hq] at hinf
  | some inf =>
    have hsz : inf.size = size := by simpa [hq] using hinf
    have h1' : (i : Int) < (len : Int) := by omega
    simp [execOp, hop, ha.eval hx, ha.eval hi, Instr.indexAt, asIntOf, run_underlying ht, h1, sizeOf, typeInfo, hq, hsz, Addr.add_mid, Instr.sureAddr]
theorem op_convI64 {src dst : TypeId} {k' : IntKind} {p : Int} {d : TypeDesc} (hs : P.underlying src = some d) (hd : P.underlying dst = some (.int .i64)) (hx : eev env x = some (.int k' p)) (h0 : -9223372036854775808 ≤ p) (h1 : p ≤ 9223372036854775807) : OpY P n env own X (.convert src dst x) (.int .i64 p) := by
  have := op_convert (n := n) (own := own) (X := X) hs hd hx
  rwa [wrap_i64_in h0 h1] at this
theorem op_convI32 {src dst : TypeId} {k' : IntKind} {p : Int} {d : TypeDesc} (hs : P.underlying src = some d) (hd : P.underlying dst = some (.int .i32)) (hx : eev env x = some (.int k' p)) (h0 : -2147483648 ≤ p) (h1 : p ≤ 2147483647) : OpY P n env own X (.convert src dst x) (.int .i32 p) := by
  have := op_convert (n := n) (own := own) (X := X) hs hd hx
  rwa [wrap_i32 h0 h1] at this
theorem op_convU64 {src dst : TypeId} {k' : IntKind} {p : Int} {d : TypeDesc} (hs : P.underlying src = some d) (hd : P.underlying dst = some (.int .u64)) (hx : eev env x = some (.int k' p)) (h0 : 0 ≤ p) (h1 : p < 18446744073709551616) : OpY P n env own X (.convert src dst x) (.int .u64 p) := by
  have := op_convert (n := n) (own := own) (X := X) hs hd hx
  rwa [wrap_u64i h0 h1] at this
theorem op_convU32 {src dst : TypeId} {k' : IntKind} {p : Int} {d : TypeDesc} (hs : P.underlying src = some d) (hd : P.underlying dst = some (.int .u32)) (hx : eev env x = some (.int k' p)) (h0 : 0 ≤ p) (h1 : p < 4294967296) : OpY P n env own X (.convert src dst x) (.int .u32 p) := by
  have := op_convert (n := n) (own := own) (X := X) hs hd hx
  rwa [wrap_u32 h0 h1] at this
theorem op_convU8 {src dst : TypeId} {k' : IntKind} {p : Int} {d : TypeDesc} (hs : P.underlying src = some d) (hd : P.underlying dst = some (.int .u8)) (hx : eev env x = some (.int k' p)) (h0 : 0 ≤ p) (h1 : p < 256) : OpY P n env own X (.convert src dst x) (.int .u8 p) := by
  have := op_convert (n := n) (own := own) (X := X) hs hd hx
  rwa [wrap_u8 h0 h1] at this
end
/-! ## an array, built -/
section
variable {P : Program} {n : NM} {X : PMap} {own : Own} {env : Env}
theorem op_buildA {t e : TypeId} {len size : Nat} {ps : Array (Nat × Operand)} {qs : List (Nat × Value)} {zs out : List Value} (ht : P.underlying t = some (.array len e)) (hz : Zero P t zs) (he : (P.info? e).map (·.size) = some size) (hp : ps.toList.map (fun p => (p.1, eev env p.2)) = qs.map fun p => (p.1, some p.2))
    (hf : bfill ((List.range len).map fun i => (i * size, size)) zs qs = some out) (hlq : qs.all (fun p => Nat.blt p.1 len) = true) : OpY P n env own X (.build t ps) (.agg out.toArray) := by
  intro a W oper hop ha _
  obtain ⟨z, hc, hr⟩ := hz.run
  have hfl := fill_bfill qs zs out hf
  have hfl2 : Instr.fill (fun i => some (i * size, size)) zs.toArray qs = some out.toArray := by
    have key : ∀ (parts : List (Nat × Value)) (cells : Array Value), (∀ p ∈ parts, p.1 < len) → Instr.fill (fun i => some (i * size, size)) cells parts = Instr.fill (fun i => ((List.range len).map fun i => (i * size, size))[i]?) cells parts := by
      intro parts
      induction parts with
      | nil => intro cells _; rfl
      | cons p r ih =>
        intro cells hlt
        obtain ⟨i, v⟩ := p
        have hi : i < len := hlt (i, v) (by simp)
        simp only [Instr.fill]
        have hg : ((List.range len).map fun i => (i * size, size))[i]? = some (i * size, size) := by simp [hi]
        rw [hg]
        simp only
        split
        · rfl
        · exact ih _ fun p hp => hlt p (by simp [hp])
    rw [key qs _ fun p hp => Nat.le_of_ble_eq_true (List.all_eq_true.1 hlq p hp)]
    exact hfl
  have hsz : ∃ i, P.info? e = some i ∧ i.size = size := by
    cases hq : P.info? e with
    | none => simp [hq] at he
    | some i => exact ⟨i, rfl, by simpa [hq] using he⟩
  obtain ⟨i, h1, h2⟩ := hsz
  have hb : (Instr.build t qs.toArray).run P W = .ok (.agg out.toArray) W := by
    simp only [Instr.build, Sem.run_bind, hr, Result.andThen_ok, run_underlying ht, hc]
    simp [sizeOf, typeInfo, h1, h2, hfl2]
  have he' : (ps.map fun (x : Nat × Operand) => match x with | (i, x) => (i, a.eval x)) = qs.toArray := evalParts ha hp
  simp only [execOp, hop]
  rw [he']
  simp [hb]
end
/-! ## an operation of whose result little is said -/
section
variable {P : Program} {n : NM} {w0 : Base} {X0 X : PMap} {own : Own} {env : Env}
theorem opx_of {o : Op} {v : Value} (k : Value → Prop) (h : OpY P n env own X o v) (hk : k v) (hd : noDefer o = true) : OpX P n w0 X0 env own X o true (fun u own' X' => k u ∧ own = own' ∧ X = X') := by
  intro a W oper K Q ro hop ha hs hK
  exact wp_value (noDefer_spec (by rw [hop]; exact hd)) (h a W oper hop ha hs.stab) (hK v own X W ⟨hk, rfl, rfl⟩ hs fun _ => ⟨Nat.le_refl _, fun _ _ => rfl⟩)
def isU64 (v : Value) : Prop := ∃ r : Nat, r < 18446744073709551616 ∧ v = .int .u64 (r : Int)
theorem isU64_wrap (p : Int) : isU64 (.int .u64 (IntKind.u64.wrap p)) := by
  refine ⟨(p % 18446744073709551616).toNat, by omega, ?_⟩
  have : IntKind.u64.wrap p = p % 18446744073709551616 := by simp [IntKind.wrap, IntKind.signed, IntKind.bits]
  rw [this, Int.toNat_of_nonneg (by omega)]
theorem isU64_nat {r : Nat} (h : r < 18446744073709551616) : isU64 (.int .u64 (r : Int)) := ⟨r, h, rfl⟩
theorem and127 (p : Int) : ∃ k : Nat, k < 128 ∧ bits .and .i64 p 127 = (k : Int) := by
  refine ⟨(BitVec.ofInt 64 p).toNat &&& 127, Nat.lt_of_le_of_lt Nat.and_le_right (by omega), ?_⟩
  have h : (BitVec.ofInt 64 p).toNat &&& 127 ≤ 127 := Nat.and_le_right
  have e : (BitVec.ofInt 64 p &&& BitVec.ofInt 64 127).toNat = (BitVec.ofInt 64 p).toNat &&& 127 := by rw [BitVec.toNat_and]; rfl
  show IntKind.i64.wrap ((BitVec.ofInt 64 p &&& BitVec.ofInt 64 127).toNat : Int) = _
  rw [e]
  exact wrap_i64_in (by omega) (by omega)
end
/-! ## loops -/
section
variable {ro : Option Nat} {P : Program} {n : NM} {w0 : Base} {X0 X : PMap} {own : Own} {env : Env} {Q : Exit → Act → World → Prop}
theorem T.less {k : List It} {e : Option Nat} {own' : Own} (hs : own'.Sublist own) (h : T ro P n w0 X0 Q k e env own' X) : T ro P n w0 X0 Q k e env own X := fun a W ha hsat => h a W ha (hsat.sub hs)
theorem T.drop {k : List It} {e : Option Nat} (b : Nat) {cs : List Value} {ty : TypeId} {sz j : Nat} (_ : AtO own b cs ty sz j) (h : T ro P n w0 X0 Q k e env (own.eraseIdx j) X) : T ro P n w0 X0 Q k e env own X := T.less (List.eraseIdx_sublist ..) h
theorem T.dropAt {ops : Array Oper} {l : List Oper} (b : Nat) {cs : List Value} {ty : TypeId} {sz j : Nat} (_ : AtO own b cs ty sz j) (h : SL ro P n w0 X0 ops Q l env (own.eraseIdx j) X) : SL ro P n w0 X0 ops Q l env own X := fun a W ha hs => h a W ha (hs.sub (List.eraseIdx_sublist ..))
theorem T.loopW {c : Code} {k : List It} (I : Fam) (m : Nat) {env' : Env} (h0 : I m env' own X) (hw : Sub env env')
    (round : ∀ m env own X, I m env own X → T ro P n w0 X0 Q (.code c :: backTo n w0 X0 I m :: k) none env own X) : T ro P n w0 X0 Q (.code (.loop c) :: k) none env own X := T.weaken hw.get (T.loop I m h0 round)
theorem T.backW {I : Fam} {m : Nat} {k : List It} (m' : Nat) (hm : m' < m) {env' : Env} (hI : I m' env' own X) (hw : Sub env env') : T ro P n w0 X0 Q (backTo n w0 X0 I m :: k) none env own X := T.back m' hm hI hw.get
end
end Go.Proofs.YtoheffglppbcbaaDoor
