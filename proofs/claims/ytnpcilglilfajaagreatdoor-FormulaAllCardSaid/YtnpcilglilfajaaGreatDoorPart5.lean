/- What the law's proof rests on: the engine, a small separation logic over the kit's walk, and contracts of the functions that the law reaches. Part 5. -/
import Derived.Test.YtnpcilglilfajaaGreatDoorPart1
import Derived.Test.YtnpcilglilfajaaGreatDoorPart2
import Derived.Test.YtnpcilglilfajaaGreatDoorPart3
import Derived.Test.YtnpcilglilfajaaGreatDoorPart4
namespace Go.Proofs.YtnpcilglilfajaaGreatDoor
open Go.RowKit
theorem and127n {p : Nat} (h : p < 9223372036854775808) : bits .and .i64 (p : Int) 127 = ((p % 128 : Nat) : Int) := by
  have e : (BitVec.ofInt 64 (p : Int) &&& BitVec.ofInt 64 127).toNat = p % 128 := by
    rw [BitVec.toNat_and, BitVec.toNat_ofInt, BitVec.toNat_ofInt, show (127 : Int) % ((2 ^ 64 : Nat) : Int) = ((127 : Nat) : Int) from rfl, Int.toNat_natCast, show (p : Int) % ((2 ^ 64 : Nat) : Int) = (p : Int) by omega, Int.toNat_natCast, show (127 : Nat) = 2 ^ 7 - 1 from rfl, Nat.and_two_pow_sub_one_eq_mod]
  show IntKind.i64.wrap ((BitVec.ofInt 64 (p : Int) &&& BitVec.ofInt 64 127).toNat : Int) = _
  rw [e]
  exact wrap_i64_in (by omega) (by omega)
theorem ones_exact {X : PMap} {m : Nat} (hlt : m < 18446744073709551616) : Spec Tryz.prog 70 [.int .u64 (m : Int)] X fun u _ => u = .int .i64 (cntB 64 m : Int) := by
  obtain ⟨a, b, c, e1, ha, e2, hb, hb2, e3, hc1, hc2, hc3, hfin, hle⟩ := swar hlt
  have hc0 : c < 18446744073709551616 := by omega
  refine Spec.enter Tryz.func70 rfl Tryz.ntmps70 rfl ?_
  intro w0 hw0
  refine T.seq <| T.region <| SL.v (op_assign (v := .int .i64 ((0 : Nat) : Int)) rfl) <| SL.nil <| T.seq <| T.region <| SL.mv rfl <| SL.v (op_shrN (q := 1) rfl rfl (by omega)) ?_
  refine SL.v (op_and (q := 6148914691236517205) rfl rfl (Nat.lt_of_le_of_lt (Nat.shiftRight_le ..) hlt) (by decide)) ?_
  refine SL.mv rfl <| SL.v (op_and (q := 6148914691236517205) rfl rfl hlt (by decide)) ?_
  refine SL.v (op_addU rfl rfl (by rw [e1]; exact ha)) ?_
  rw [e1]
  refine SL.as rfl <| SL.nil <| T.seq <| T.region <| SL.mv rfl <| SL.v (op_shrN (q := 2) rfl rfl (by omega)) ?_
  refine SL.v (op_and (q := 3689348814741910323) rfl rfl (Nat.lt_of_le_of_lt (Nat.shiftRight_le ..) ha) (by decide)) ?_
  refine SL.mv rfl <| SL.v (op_and (q := 3689348814741910323) rfl rfl ha (by decide)) ?_
  refine SL.v (op_addU rfl rfl (by rw [e2]; exact hb)) ?_
  rw [e2]
  refine SL.as rfl <| SL.nil <| T.seq <| T.region <| SL.mv rfl <| SL.v (op_shrN (q := 4) rfl rfl (by omega)) ?_
  refine SL.mv rfl <| SL.v (op_addU rfl rfl hb2) <| SL.v (op_and (q := 1085102592571150095) rfl rfl hb2 (by decide)) ?_
  rw [e3]
  refine SL.as rfl <| SL.nil <| T.seq <| T.region <| SL.mv rfl <| SL.mv rfl <| SL.v (op_shrN (q := 8) rfl rfl (by omega)) ?_
  refine SL.v (op_addU rfl rfl hc1) <| SL.as rfl <| SL.nil <| T.seq <| T.region <| SL.mv rfl <| SL.mv rfl <| SL.v (op_shrN (q := 16) rfl rfl (by omega)) ?_
  refine SL.v (op_addU rfl rfl hc2) <| SL.as rfl <| SL.nil <| T.seq <| T.region <| SL.mv rfl <| SL.mv rfl <| SL.v (op_shrN (q := 32) rfl rfl (by omega)) ?_
  refine SL.v (op_addU rfl rfl (by omega)) ?_
  generalize ((c + c >>> 8) + (c + c >>> 8) >>> 16) + ((c + c >>> 8) + (c + c >>> 8) >>> 16) >>> 32 = f at *
  refine SL.as rfl <| SL.nil <| T.seq <| T.region <| SL.mv rfl <| SL.v (op_convI64 Tryz.underlying58 Tryz.underlying3 rfl (by omega) (by omega)) ?_
  refine SL.v (op_bits (op := .and) rfl rfl (by simp) (and127n hc3)) ?_
  refine SL.as rfl <| SL.nil <| T.ret1 rfl (ResIs.tmp rfl) ?_
  rw [hfin]
theorem len_exact {X : PMap} {v : Value} {m : Nat} (h : SetR X v m) : Spec Tryz.prog 22 [v] X fun u _ => u = .int .i64 ((mem64 m).length : Int) := by
  have hcnt : ∀ m, (mem64 m).length = cntB 64 m := fun m => by rw [mem64, cntB, List.countP_eq_length_filter]
  rcases h with ⟨rfl, A, c, rfl⟩ | ⟨_, h1, b, c, rest, rfl, hB⟩
  · refine Spec.enter Tryz.func22 rfl Tryz.ntmps22 rfl ?_
    intro w0 hw0
    refine T.seq <| T.region <| SL.w (op_box rfl) ?_
    rintro _ _ _ ⟨B1, rfl, rfl, rfl⟩
    refine SL.v (op_assign (v := .int .i64 ((0 : Nat) : Int)) rfl) <| SL.nil <| T.seq <| T.region <| SL.v (op_assign (v := .int .i64 ((0 : Nat) : Int)) rfl) <| SL.nil <| T.seq <| T.seq <| T.region <| SL.v (op_fieldAddr fa53_0 rfl) <| SL.v (op_load ty51 rfl (by repeat constructor) rfl) ?_
    refine SL.v (op_lenS Tryz.underlying51 rfl) <| SL.v (op_move (v := .int .i64 ((0 : Nat) : Int)) rfl) <| SL.nil <| T.block <| T.unrollStart 1 ?_
    refine T.unroll ?_
    refine T.seq <| T.region <| SL.v (op_lssF rfl rfl (by omega)) ?_
    refine SL.nil <| T.seq <| T.condF rfl ?_
    refine T.exit (T.exitCode (T.exitMore (T.exitBlk ?_)))
    refine T.seq <| T.region <| SL.mv rfl <| SL.as rfl <| SL.nil <| T.ret1 rfl (ResIs.tmp rfl) ?_
    rw [mem64_zero]
    rfl
  · have hle := cnt_le m
    refine Spec.enter Tryz.func22 rfl Tryz.ntmps22 rfl ?_
    intro w0 hw0
    refine T.seq <| T.region <| SL.w (op_box rfl) ?_
    rintro _ _ _ ⟨B1, rfl, rfl, rfl⟩
    refine SL.v (op_assign (v := .int .i64 ((0 : Nat) : Int)) rfl) <| SL.nil <| T.seq <| T.region <| SL.v (op_assign (v := .int .i64 ((0 : Nat) : Int)) rfl) <| SL.nil <| T.seq <| T.seq <| T.region <| SL.v (op_fieldAddr fa53_0 rfl) <| SL.v (op_load ty51 rfl (by repeat constructor) rfl) ?_
    refine SL.v (op_lenS Tryz.underlying51 rfl) <| SL.v (op_move (v := .int .i64 ((0 : Nat) : Int)) rfl) <| SL.nil <| T.block <| T.unrollStart 2 ?_
    refine T.unroll ?_
    refine T.seq <| T.region <| SL.v (op_lssT rfl rfl (by omega)) ?_
    refine SL.nil <| T.seq <| T.condT rfl <| T.skip <| T.seq <| T.block <| T.seq <| T.region <| SL.v (op_indexN Tryz.underlying51 ty58 rfl rfl (by omega)) ?_
    refine SL.v (op_loadX ty58 rfl (by assumption) rfl) ?_
    refine SL.as rfl <| SL.nil <| T.region <| SL.mv rfl <| SL.mv rfl <| SL.w (op_callF en70 (vs := [_]) rfl (ones_exact h1)) ?_
    rintro _ _ X1 ⟨rfl, hX1, rfl⟩
    refine SL.v (op_addN rfl rfl (by omega)) ?_
    refine SL.as rfl <| SL.nil <| T.blk <| T.region <| SL.v (op_addN (q := 1) rfl rfl (by omega)) ?_
    refine SL.mv rfl <| SL.nil <| T.unroll ?_
    refine T.seq <| T.region <| SL.v (op_lssF rfl rfl (by omega)) ?_
    refine SL.nil <| T.seq <| T.condF rfl ?_
    refine T.exit (T.exitCode (T.exitMore (T.exitBlk ?_)))
    refine T.seq <| T.region <| SL.mv rfl <| SL.as rfl <| SL.nil <| T.ret1 rfl (ResIs.tmp rfl) ?_
    rw [hcnt, Nat.zero_add]
end Go.Proofs.YtnpcilglilfajaaGreatDoor
namespace Go.Proofs.YtnpcilglilfajaaGreatDoor
section
set_option maxRecDepth 100000
theorem en112 : Enters Tryz.prog 112 := enters_mk Tryz.func112 (by kernel_rfl) rfl
theorem fa36_3 : FAdr Tryz.prog 36 3 3 := fadr_mk Tryz.underlying36 rfl rfl (by kernel_rfl)
theorem ty34 : Ty Tryz.prog 34 false 1 := ⟨⟨_, Tryz.underlying34, rfl⟩, by kernel_rfl⟩
theorem ty36 : Ty Tryz.prog 36 true 4 := ⟨⟨_, Tryz.underlying36, rfl⟩, by kernel_rfl⟩
theorem z36 : Zero Tryz.prog 36 [.int .u8 0, .int .i64 0, .slice none 0 0, .slice none 0 0] := ⟨zero_of (by kernel_rfl)⟩
end
open Go.RowKit
/-- A slice of small numbers. -/
def IntsR (X : PMap) (v : Value) (rs : List Nat) : Prop := SliceR X v rs.length (ints rs) ∧ ∃ A c, v = .slice A rs.length c ∧ rs.length ≤ c
theorem IntsR.mono {X X' : PMap} {v : Value} {rs : List Nat} (h : IntsR X v rs) (hX : X.le X') : IntsR X' v rs := ⟨h.1.mono hX, h.2⟩
theorem IntsR.form {X : PMap} {v : Value} {rs : List Nat} (h : IntsR X v rs) : ∃ A c, v = .slice A rs.length c := by
  obtain ⟨_, A, c, hv, _⟩ := h
  exact ⟨A, c, hv⟩
theorem IntsR.cap {X : PMap} {A : Option Addr} {l c : Nat} {rs : List Nat} (h : IntsR X (.slice A l c) rs) : rs.length ≤ c := by
  obtain ⟨_, A', c', hv, hc⟩ := h
  cases hv
  exact hc
theorem IntsR.blk {X : PMap} {A : Option Addr} {c : Nat} {rs : List Nat} (h : IntsR X (.slice A rs.length c) rs) (h0 : 0 < rs.length) : ∃ b, A = some ⟨b, 0, none⟩ ∧ Blk X b (ints rs) := SliceR.blk h.1 h0
theorem IntsR.nil {X : PMap} {A : Option Addr} {c : Nat} : IntsR X (.slice A 0 c) [] := ⟨.inl ⟨rfl, rfl, _, _, rfl⟩, _, _, rfl, Nat.zero_le _⟩
theorem IntsR.ofG {X : PMap} {e : TypeId} {v : Value} {rs : List Nat} {G : Own} (hg : GrowS e 1 v rs.length (ints rs) G) (h : SliceR X v rs.length (ints rs)) : IntsR X v rs := by
  refine ⟨h, ?_⟩
  rcases hg with ⟨h0, _, hv, _⟩ | ⟨b, cap, hv, _, h2, _⟩
  · exact ⟨_, _, by rw [hv, h0], by omega⟩
  · exact ⟨_, _, hv, h2⟩
/-- The four fields of a formula whose operator is of kind k. -/
inductive FmR (k : IntKind) (X : PMap) : Fm → Row4 → Prop
  | mk {op : Nat} {n : Int} {rs : List Nat} {al : List Fm} {vn va : Value} {rows : List Row4} (hn : IntsR X vn rs) (ha : RowR rc4 X va rows) (hl : rows.length = al.length)
      (hr : ∀ (i : Nat) (a : Fm) (r : Row4), al[i]? = some a → rows[i]? = some r → FmR k X a r) : FmR k X (.mk op n rs al) (.int k (op : Int), .int .i64 n, vn, va)
theorem FmR.mono {k : IntKind} {X X' : PMap} {e : Fm} {r : Row4} (h : FmR k X e r) (hX : X.le X') : FmR k X' e r := by
  induction h with
  | mk hn ha hl hr ih => exact .mk (hn.mono hX) (ha.mono hX) hl ih
theorem FmR.form {k : IntKind} {X : PMap} {e : Fm} {r : Row4} (h : FmR k X e r) : ∃ (o : Nat) (n : Int) (A B : Option Addr) (l c l' c' : Nat), r = (.int k (o : Int), .int .i64 n, .slice A l c, .slice B l' c') := by
  cases h with
  | mk hn ha hl hr =>
    obtain ⟨A, c, rfl⟩ := hn.form
    obtain ⟨B, c', rfl⟩ := ha.form
    exact ⟨_, _, _, _, _, _, _, _, rfl⟩
theorem FmR.op {k : IntKind} {X : PMap} {e : Fm} {r : Row4} (h : FmR k X e r) : r.1 = .int k (e.op : Int) := by
  cases h; rfl
theorem fmeas_spec (N : Nat) : ∀ {X : PMap} {e : Fm} {r : Row4}, wtF e ≤ N → N < 4000000000000 → FmR .u8 X e r → Spec Tryz.prog 112 [.agg #[r.1, r.2.1, r.2.2.1, r.2.2.2]] X fun u _ => u = .tuple #[.int .i64 (depF e : Int), .int .i64 (sizF e : Int)] := by
  induction N with
  | zero => intro X e r h; have := wtF_pos e; omega
  | succ N ih =>
    intro X e r hN hB h
    cases h with
    | @mk op n rs al vn va rows hn ha hl hr =>
    obtain ⟨Aa, ca, rfl⟩ := ha.form
    have hlen := wtFL_len al
    rw [wtF] at hN
    refine Spec.enter Tryz.func112 rfl Tryz.ntmps112 rfl ?_
    intro w0 hw0
    refine T.seq <| T.region <| SL.w (op_box rfl) ?_
    rintro _ _ _ ⟨B1, rfl, rfl, rfl⟩
    refine SL.v (op_assign (v := .int .i64 ((0 : Nat) : Int)) rfl) <| SL.v (op_assign (v := .int .i64 ((0 : Nat) : Int)) rfl) <| SL.nil <| T.seq <| T.seq <| T.region <| SL.v (op_fieldAddr fa36_3 rfl) <| SL.v (op_load ty34 rfl (by repeat constructor) rfl) ?_
    refine SL.v (op_lenS Tryz.underlying34 rfl) <| SL.v (op_move (v := .int .i64 ((0 : Nat) : Int)) rfl) <| SL.nil <| T.block <| T.drop B1 (by repeat constructor) ?_
    refine T.loopW (fun m env own X' => ∃ i : Nat, m = rows.length - i ∧ i ≤ rows.length ∧ X.le X' ∧ env = [(2, .int .i64 (depFL (al.take i) : Int)), (3, .int .i64 (sizFL (al.take i) : Int)), (9, .slice Aa rows.length ca), (10, .int .i64 (rows.length : Int)), (11, .int .i64 (i : Int))] ∧ own = []) rows.length ⟨0, by simp, by omega, PMap.le_refl _, rfl, rfl⟩ (by repeat (first | exact Sub.nil | refine Sub.cons rfl ?_)) ?_
    rintro m _ _ X1 ⟨i, rfl, hi, hX1, rfl, rfl⟩
    rcases Nat.lt_or_ge i rows.length with hil | hil
    · obtain ⟨r2, hr2⟩ : ∃ r2, rows[i]? = some r2 := ⟨_, List.getElem?_eq_getElem hil⟩
      obtain ⟨a, ha2⟩ : ∃ a, al[i]? = some a := ⟨_, List.getElem?_eq_getElem (by omega)⟩
      have hra := hr i a r2 ha2 hr2
      obtain ⟨bA, pre, rfl, hbA⟩ := ha.blk (by omega)
      obtain ⟨_, _, _, _, _, _, _, _, rfl⟩ := hra.form
      have hwa := wtFL_mem (List.mem_of_getElem? ha2)
      have hts := take_snoc ha2
      have hw1 : wtFL (al.take (i + 1)) ≤ wtFL al := by
        have := wtFL_app (al.drop (i + 1)) (al.take (i + 1))
        rw [List.take_append_drop] at this; omega
      have hw2 : wtFL (al.take (i + 1)) = wtFL (al.take i) + wtF a := by rw [hts, wtFL_snoc]
      have q1 := siz_wtFL (al.take i)
      have q2 := siz_wtF a
      have q3 := dep_wtFL (al.take i)
      have q4 := dep_wtF a
      refine T.seq <| T.region <| SL.v (op_lssT rfl rfl (by omega)) ?_
      refine SL.nil <| T.seq <| T.condT rfl <| T.skip <| T.seq <| T.block <| T.seq <| T.region <| SL.v (op_indexN Tryz.underlying34 ty36 rfl rfl (by omega)) ?_
      refine SL.v (op_loadX ty36 rfl (hbA.mono hX1) (row_read rc4_len hr2 (by omega))) ?_
      refine SL.w (op_alloc z36) ?_
      rintro _ _ _ ⟨B5, rfl, rfl, rfl⟩
      refine SL.w (op_store ty36 rfl rfl (by repeat constructor) rfl rfl rfl) ?_
      rintro _ _ _ ⟨rfl, rfl⟩
      refine SL.nil <| T.seq <| T.region <| SL.v (op_load ty36 rfl (by repeat constructor) rfl) ?_
      refine SL.w (op_callF en112 (vs := [_]) rfl (ih (by omega) (by omega) (hra.mono hX1))) ?_
      rintro _ _ X2 ⟨rfl, hX2, rfl⟩
      refine SL.mv rfl <| SL.v (op_extract rfl rfl) <| SL.v (op_extract rfl rfl) <| SL.as rfl <| SL.as rfl <| SL.nil <| T.region <| SL.mv rfl <| SL.mv rfl <| SL.v (op_maxN rfl rfl) ?_
      rw [show max (depFL (al.take i)) (depF a) = depFL (al.take (i + 1)) by rw [hts, depFL_snoc]]
      refine SL.mv rfl <| SL.mv rfl <| SL.v (op_addN (p := sizFL (al.take i)) (q := sizF a) rfl rfl (by omega)) ?_
      rw [show sizFL (al.take i) + sizF a = sizFL (al.take (i + 1)) by rw [hts, sizFL_snoc]]
      refine SL.as rfl <| SL.as rfl <| SL.nil <| T.blk <| T.region <| SL.v (op_addN (q := 1) rfl rfl (by omega)) ?_
      refine SL.mv rfl <| SL.nil <| T.drop B5 (by repeat constructor) ?_
      exact T.backW (rows.length - (i + 1)) (by omega) ⟨i + 1, rfl, by omega, hX1.trans' hX2, rfl, rfl⟩ (by repeat (first | exact Sub.nil | refine Sub.cons rfl ?_))
    · obtain rfl : i = rows.length := by omega
      rw [show al.take rows.length = al from List.take_of_length_le (by omega)]
      have q1 := siz_wtFL al
      have q3 := dep_wtFL al
      refine T.seq <| T.region <| SL.v (op_lssF rfl rfl (by omega)) ?_
      refine SL.nil <| T.seq <| T.condF rfl ?_
      refine T.exit (T.exitCode (T.exitCut (T.exitBlk ?_)))
      refine T.seq <| T.region <| SL.mv rfl <| SL.v (op_addN (q := 1) rfl rfl (by omega)) ?_
      refine SL.mv rfl <| SL.v (op_addN (q := 1) rfl rfl (by omega)) ?_
      refine SL.as rfl <| SL.as rfl <| SL.nil <| T.ret2 rfl (ResIs.tmp rfl) (ResIs.tmp rfl) ?_
      rw [depF, sizF]
end Go.Proofs.YtnpcilglilfajaaGreatDoor
namespace Go.Proofs.YtnpcilglilfajaaGreatDoor
open Go.RowKit
section
variable {P : Program} {n : NM} {own : Own} {X : PMap} {env : Env}
/-- The number of a name in a map of names, and whether it is there. -/
theorem op_lookupN2 {xT kt et : TypeId} {x y : Operand} {om : Option Nat} {ns : List ByteArray} {s : ByteArray} (ht : P.underlying xT = some (.map kt et)) (hk : P.underlying kt = some .string) (hz : (P.info? et).bind (·.zero) = some (.int .i64 0))
    (hx : eev env x = some (.map om)) (hy : eev env y = some (.string s)) (hm : MapAt X ns om) :
    OpY P n env own X (.lookup xT x y true) (.tuple #[.int .i64 (posN s ns : Int), .bool (decide (posN s ns ≠ 0))]) := by
  intro a W oper hop ha hst
  obtain ⟨i, hi, hiz⟩ := Option.bind_eq_some_iff.1 hz
  have hzr : (zeroValue et).run P W = .ok (.int .i64 0) W := by simp [zeroValue, typeInfo, hi, hiz]
  obtain ⟨r, h1, h2, h3⟩ := findNow_pos s ns (fun q => .int .i64 ((q : Int) + 1)) (fun q => q) 0
  have hf : (Instr.findKey kt (.string s) (entsOf ns)).run P W = .ok r W := MapKept.run_findKey hk h1
  have hck : ∀ e, (Instr.checkKey e 10000 kt (.string s)).run P W = .ok () W := fun e => MapKept.run_checkKey hk (by trivial) e 9999
  have hl : (Instr.lookup xT (.map om) (.string s) true).run P W = .ok (.tuple #[.int .i64 (posN s ns : Int), .bool (decide (posN s ns ≠ 0))]) W := by
    have key : ∀ es : Array MapEntry, es.toList = entsOf ns → (om = none → es = #[]) → (∀ b, om = some b → ∃ clk, W.heap[b]? = some (.map es clk)) → (Instr.lookup xT (.map om) (.string s) true).run P W = .ok (.tuple #[.int .i64 (posN s ns : Int), .bool (decide (posN s ns ≠ 0))]) W := by
      intro es he ho hb
      rw [← he] at hf
      rcases Nat.eq_zero_or_pos (posN s ns) with h0 | h0
      · obtain rfl := h2 h0
        cases om with
        | none => have ho : es = #[] := ho rfl; subst ho; simp [Instr.lookup, run_underlying ht, hck, hf, hzr, h0, Result.andThen]
        | some b => obtain ⟨clk, hb⟩ := hb b rfl; simp [Instr.lookup, run_underlying ht, MapKept.run_getObj_map hb, hck, hf, hzr, h0, Result.andThen]
      · obtain ⟨k, hk'⟩ : ∃ k, posN s ns = k + 1 := ⟨posN s ns - 1, by omega⟩
        obtain ⟨q, rfl⟩ := h3 k hk'
        cases om with
        | none => have ho : es = #[] := ho rfl; subst ho; simp [Instr.lookup, run_underlying ht, hck, hf, hk', Result.andThen]
        | some b => obtain ⟨clk, hb⟩ := hb b rfl; simp [Instr.lookup, run_underlying ht, MapKept.run_getObj_map hb, hck, hf, hk', Result.andThen]
    cases om with
    | none => have hm : ns = [] := hm; subst hm; exact key #[] rfl (fun _ => rfl) (fun _ h => by cases h)
    | some b => exact key (entsOf ns).toArray rfl (fun h => by cases h) (fun b' h => by cases h; exact ⟨_, hst.pers b _ hm⟩)
  simp [execOp, hop, ha.eval hx, ha.eval hy, hl]
end
theorem numT_spec {X : PMap} {v : Value} {ns : List ByteArray} {s : ByteArray} (h : TabR X v ns) : Spec Tryz.prog 36 [v, .string s] X fun u _ => u = .tuple #[.int .i64 (posN s ns : Int), .bool (decide (posN s ns ≠ 0))] := by
  obtain ⟨b, vs, om, rfl, hB, hR, hM⟩ := h
  obtain ⟨A, cp, rfl⟩ := hR.form
  refine Spec.enter Tryz.func36 rfl Tryz.ntmps36 rfl ?_
  intro w0 hw0
  refine T.seq <| T.region <| SL.v (op_assign (v := .int .i64 ((0 : Nat) : Int)) rfl) <| SL.as rfl <| SL.nil <| T.seq <| T.seq <| T.region <| SL.mv rfl <| SL.v (op_eqlNil Tryz.underlying64 rfl rfl) <| SL.nil <| T.condF rfl <| T.skip <| T.seq <| T.region ?_
  refine SL.mv rfl <| SL.v (op_nil rfl) <| SL.v (op_fieldAddr fa166_1 rfl) <| SL.v (op_loadX ty164 rfl (by assumption) rfl) ?_
  refine SL.mv rfl <| SL.v (op_lookupN2 (s := s) Tryz.underlying164 Tryz.underlying9 (by kernel_rfl) rfl rfl hM) ?_
  refine SL.mv rfl <| SL.v (op_extract rfl rfl) <| SL.v (op_extract rfl rfl) <| SL.as rfl <| SL.as rfl <| SL.nil <| T.seq <| T.region <| SL.mv rfl <| SL.mv rfl <| SL.as rfl <| SL.as rfl <| SL.nil <| T.ret2 rfl (ResIs.tmp rfl) (ResIs.tmp rfl) ?_
  rfl
end Go.Proofs.YtnpcilglilfajaaGreatDoor
namespace Go.Proofs.YtnpcilglilfajaaGreatDoor
open Go.RowKit
/-- The zero formula. -/
def zeF : Fm := .mk 0 0 [] []
def badN (ns : List ByteArray) (adm : Nat) (s : ByteArray) : Prop := posN s ns = 0 ∨ adm.testBit (posN s ns) = true
instance (ns : List ByteArray) (adm : Nat) (s : ByteArray) : Decidable (badN ns adm s) := inferInstanceAs (Decidable (_ ∨ _))
def numbN (ns : List ByteArray) (adm : Nat) : List ByteArray → Option (List Nat)
  | [] => some []
  | s :: l => if badN ns adm s then none else (numbN ns adm l).map (posN s ns :: ·)
mutual
def numbF (ns : List ByteArray) (adm : Nat) : Ex → Option Fm
  | .mk op n l al => match numbN ns adm l with
    | none => none
    | some rs => match numbL ns adm al with
      | none => none
      | some bl => some (.mk op n rs bl)
def numbL (ns : List ByteArray) (adm : Nat) : List Ex → Option (List Fm)
  | [] => some []
  | a :: al => match numbF ns adm a with
    | none => none
    | some f => match numbL ns adm al with
      | none => none
      | some fl => some (f :: fl)
end
theorem numbN_app (ns : List ByteArray) (adm : Nat) (b : List ByteArray) : ∀ a : List ByteArray, numbN ns adm (a ++ b) = match numbN ns adm a with | none => none | some q => (numbN ns adm b).map (q ++ ·)
  | [] => by simp [numbN]
  | s :: a => by
    rw [List.cons_append, numbN, numbN, numbN_app ns adm b a]
    split
    · rfl
    · cases numbN ns adm a with
      | none => rfl
      | some q => cases numbN ns adm b <;> rfl
theorem numbL_app (ns : List ByteArray) (adm : Nat) (b : List Ex) : ∀ a : List Ex, numbL ns adm (a ++ b) = match numbL ns adm a with | none => none | some q => (numbL ns adm b).map (q ++ ·)
  | [] => by simp [numbL]
  | s :: a => by
    rw [List.cons_append, numbL, numbL, numbL_app ns adm b a]
    cases numbF ns adm s with
    | none => rfl
    | some f =>
      cases numbL ns adm a with
      | none => rfl
      | some q => cases numbL ns adm b <;> rfl
theorem numbN_bad {ns : List ByteArray} {adm : Nat} {l : List ByteArray} {i : Nat} {s : ByteArray} (hs : l[i]? = some s) (hb : badN ns adm s) : numbN ns adm l = none := by
  have e : l = l.take i ++ (s :: l.drop (i + 1)) := by
    obtain ⟨hi, he⟩ := List.getElem?_eq_some_iff.1 hs
    rw [← he, ← List.drop_eq_getElem_cons hi, List.take_append_drop]
  rw [e, numbN_app]
  cases numbN ns adm (l.take i) with
  | none => rfl
  | some q => simp [numbN, if_pos hb]
theorem numbN_snoc {ns : List ByteArray} {adm : Nat} {l : List ByteArray} {i : Nat} {s : ByteArray} {q : List Nat} (hs : l[i]? = some s) (hb : ¬badN ns adm s) (hq : numbN ns adm (l.take i) = some q) : numbN ns adm (l.take (i + 1)) = some (q ++ [posN s ns]) := by
  rw [take_snoc hs, numbN_app, hq]
  simp [numbN, if_neg hb]
theorem numbL_bad {ns : List ByteArray} {adm : Nat} {l : List Ex} {i : Nat} {a : Ex} (hs : l[i]? = some a) (hb : numbF ns adm a = none) : numbL ns adm l = none := by
  have e : l = l.take i ++ (a :: l.drop (i + 1)) := by
    obtain ⟨hi, he⟩ := List.getElem?_eq_some_iff.1 hs
    rw [← he, ← List.drop_eq_getElem_cons hi, List.take_append_drop]
  rw [e, numbL_app]
  cases numbL ns adm (l.take i) with
  | none => rfl
  | some q => simp [numbL, hb]
theorem numbL_snoc {ns : List ByteArray} {adm : Nat} {l : List Ex} {i : Nat} {a : Ex} {f : Fm} {q : List Fm} (hs : l[i]? = some a) (hb : numbF ns adm a = some f) (hq : numbL ns adm (l.take i) = some q) : numbL ns adm (l.take (i + 1)) = some (q ++ [f]) := by
  rw [take_snoc hs, numbL_app, hq]
  simp [numbL, hb]
theorem zeF_R {k : IntKind} {X : PMap} : FmR k X zeF (.int k 0, .int .i64 0, .slice none 0 0, .slice none 0 0) := .mk (rows := []) (op := 0) IntsR.nil (.inl ⟨rfl, _, _, rfl⟩) rfl (fun i a r h => by simp at h)
/-- Room of a formula whose names were replaced. -/
theorem numbN_len {ns : List ByteArray} {adm : Nat} : ∀ {l : List ByteArray} {q : List Nat}, numbN ns adm l = some q → q.length = l.length
  | [], q, h => by cases h; rfl
  | s :: l, q, h => by
    rw [numbN] at h
    split at h
    · cases h
    · obtain ⟨q', h1, rfl⟩ := Option.map_eq_some_iff.1 h
      rw [List.length_cons, List.length_cons, numbN_len h1]
mutual
theorem numbF_wt {ns : List ByteArray} {adm : Nat} : ∀ (e : Ex) {f : Fm}, numbF ns adm e = some f → wtF f ≤ wtE e
  | .mk op n l al, f, h => by
    rw [numbF] at h
    cases h1 : numbN ns adm l with
    | none => rw [h1] at h; cases h
    | some rs =>
      cases h2 : numbL ns adm al with
      | none => rw [h1, h2] at h; cases h
      | some bl =>
        rw [h1, h2] at h
        cases h
        have := numbL_wt al h2
        have := numbN_len h1
        have := wtS_len l
        rw [wtF, wtE]; omega
theorem numbL_wt {ns : List ByteArray} {adm : Nat} : ∀ (l : List Ex) {q : List Fm}, numbL ns adm l = some q → wtFL q ≤ wtL l
  | [], q, h => by cases h; simp [wtFL]
  | a :: al, q, h => by
    rw [numbL] at h
    cases h1 : numbF ns adm a with
    | none => rw [h1] at h; cases h
    | some f =>
      cases h2 : numbL ns adm al with
      | none => rw [h1, h2] at h; cases h
      | some fl =>
        rw [h1, h2] at h
        cases h
        have := numbF_wt a h1
        have := numbL_wt al h2
        rw [wtFL, wtL]; omega
end
theorem numb_mk {ns : List ByteArray} {adm op : Nat} {n : Int} {l : List ByteArray} {al : List Ex} {rs : List Nat} {bl : List Fm} (h1 : numbN ns adm l = some rs) (h2 : numbL ns adm al = some bl) : numbF ns adm (.mk op n l al) = some (.mk op n rs bl) := by rw [numbF, h1]; simp only [h2]
theorem numb_no1 {ns : List ByteArray} {adm op : Nat} {n : Int} {l : List ByteArray} {al : List Ex} (h1 : numbN ns adm l = none) : numbF ns adm (.mk op n l al) = none := by rw [numbF, h1]
theorem numb_no2 {ns : List ByteArray} {adm op : Nat} {n : Int} {l : List ByteArray} {al : List Ex} (h2 : numbL ns adm al = none) : numbF ns adm (.mk op n l al) = none := by
  rw [numbF]
  cases numbN ns adm l with
  | none => rfl
  | some rs => simp only [h2]
theorem rows_snoc2 {α β : Type} {R : α → β → Prop} {l : List α} {q : List β} {a : α} {b : β} (hl : l.length = q.length) (h : ∀ (i : Nat) (x : α) (y : β), l[i]? = some x → q[i]? = some y → R x y) (hab : R a b) : ∀ (i : Nat) (x : α) (y : β), (l ++ [a])[i]? = some x → (q ++ [b])[i]? = some y → R x y := by
  intro i x y h1 h2
  rcases Nat.lt_or_ge i l.length with hi | hi
  · rw [List.getElem?_append_left hi] at h1
    rw [List.getElem?_append_left (by omega)] at h2
    exact h i x y h1 h2
  · have hi2 : i = l.length := by
      have := (List.getElem?_eq_some_iff.1 h1).1
      rw [List.length_append] at this; simp at this; omega
    subst hi2
    rw [List.getElem?_append_right (Nat.le_refl _), Nat.sub_self] at h1
    rw [hl, List.getElem?_append_right (Nat.le_refl _), Nat.sub_self] at h2
    simp only [List.getElem?_cons_zero, Option.some.injEq] at h1 h2
    subst h1 h2
    exact hab
end Go.Proofs.YtnpcilglilfajaaGreatDoor
namespace Go.Proofs.YtnpcilglilfajaaGreatDoor
section
set_option maxRecDepth 100000
theorem en190 : Enters Tryz.prog 190 := enters_mk Tryz.func190 (by kernel_rfl) rfl
theorem fa36_0 : FAdr Tryz.prog 36 0 0 := fadr_mk Tryz.underlying36 rfl rfl (by kernel_rfl)
theorem fa36_1 : FAdr Tryz.prog 36 1 1 := fadr_mk Tryz.underlying36 rfl rfl (by kernel_rfl)
theorem fa36_2 : FAdr Tryz.prog 36 2 2 := fadr_mk Tryz.underlying36 rfl rfl (by kernel_rfl)
end
open Go.RowKit
theorem arity_spec {X : PMap} {op : Nat} : Spec Tryz.prog 190 [.int .u8 (op : Int)] X fun u _ => u = .tuple #[.int .i64 (argF op : Int), .int .i64 (leaF op : Int), .int .i64 (mosF op : Int)] := by
  unfold argF leaF mosF
  by_cases c8 : 8 ≤ op
  · rw [if_neg (by omega), if_neg (by omega), if_neg (by omega), if_neg (by omega), if_neg (by omega)]
    refine Spec.enter Tryz.func190 rfl Tryz.ntmps190 rfl ?_
    intro w0 hw0
    refine T.seq <| T.region <| SL.v (op_assign (v := .int .i64 ((0 : Nat) : Int)) rfl) <| SL.v (op_assign (v := .int .i64 ((0 : Nat) : Int)) rfl) <| SL.v (op_assign (v := .int .i64 ((0 : Nat) : Int)) rfl) <| SL.nil <| T.seq <| T.block <| T.seq <| T.region <| SL.mv rfl <| SL.v (op_geqT rfl rfl (by omega)) ?_
    refine SL.as rfl <| SL.nil <| T.condT rfl <| T.seq <| T.region <| SL.v (op_assign (v := .int .i64 ((2 : Nat) : Int)) rfl) <| SL.v (op_assign (v := .int .i64 ((0 : Nat) : Int)) rfl) <| SL.v (op_assign (v := .int .i64 ((0 : Nat) : Int)) rfl) <| SL.nil <| T.ret3 rfl rfl rfl rfl ?_
    rfl
  by_cases c7 : op = 7
  · rw [if_neg (by omega), if_pos c7, if_neg (by omega), if_neg (by omega), if_neg (by omega)]
    refine Spec.enter Tryz.func190 rfl Tryz.ntmps190 rfl ?_
    intro w0 hw0
    refine T.seq <| T.region <| SL.v (op_assign (v := .int .i64 ((0 : Nat) : Int)) rfl) <| SL.v (op_assign (v := .int .i64 ((0 : Nat) : Int)) rfl) <| SL.v (op_assign (v := .int .i64 ((0 : Nat) : Int)) rfl) <| SL.nil <| T.seq <| T.block <| T.seq <| T.region <| SL.mv rfl <| SL.v (op_geqF rfl rfl (by omega)) ?_
    refine SL.as rfl <| SL.nil <| T.condF rfl <| T.seq <| T.region <| SL.mv rfl <| SL.v (op_eqlT rfl rfl (by omega)) ?_
    refine SL.as rfl <| SL.nil <| T.condT rfl <| T.seq <| T.region <| SL.v (op_assign (v := .int .i64 ((1 : Nat) : Int)) rfl) <| SL.v (op_assign (v := .int .i64 ((0 : Nat) : Int)) rfl) <| SL.v (op_assign (v := .int .i64 ((0 : Nat) : Int)) rfl) <| SL.nil <| T.ret3 rfl rfl rfl rfl ?_
    rfl
  rw [if_pos (by omega)]
  by_cases c4 : op = 4
  · rw [if_pos (by omega), if_pos (by omega)]
    refine Spec.enter Tryz.func190 rfl Tryz.ntmps190 rfl ?_
    intro w0 hw0
    refine T.seq <| T.region <| SL.v (op_assign (v := .int .i64 ((0 : Nat) : Int)) rfl) <| SL.v (op_assign (v := .int .i64 ((0 : Nat) : Int)) rfl) <| SL.v (op_assign (v := .int .i64 ((0 : Nat) : Int)) rfl) <| SL.nil <| T.seq <| T.block <| T.seq <| T.region <| SL.mv rfl <| SL.v (op_geqF rfl rfl (by omega)) ?_
    refine SL.as rfl <| SL.nil <| T.condF rfl <| T.seq <| T.region <| SL.mv rfl <| SL.v (op_eqlF rfl rfl (by omega)) ?_
    refine SL.as rfl <| SL.nil <| T.condF rfl <| T.seq <| T.region <| SL.mv rfl <| SL.v (op_eqlT rfl rfl (by omega)) ?_
    refine SL.mv rfl <| SL.skip rfl rfl ?_
    refine SL.skip rfl rfl ?_
    refine SL.v (op_pickT rfl rfl) <| SL.as rfl <| SL.nil <| T.condT rfl <| T.seq <| T.region <| SL.v (op_assign (v := .int .i64 ((0 : Nat) : Int)) rfl) <| SL.v (op_assign (v := .int .i64 ((1 : Nat) : Int)) rfl) <| SL.v (op_assign (v := .int .i64 ((1 : Nat) : Int)) rfl) <| SL.nil <| T.ret3 rfl rfl rfl rfl ?_
    rfl
  by_cases c6 : op = 6
  · rw [if_pos (by omega), if_pos (by omega)]
    refine Spec.enter Tryz.func190 rfl Tryz.ntmps190 rfl ?_
    intro w0 hw0
    refine T.seq <| T.region <| SL.v (op_assign (v := .int .i64 ((0 : Nat) : Int)) rfl) <| SL.v (op_assign (v := .int .i64 ((0 : Nat) : Int)) rfl) <| SL.v (op_assign (v := .int .i64 ((0 : Nat) : Int)) rfl) <| SL.nil <| T.seq <| T.block <| T.seq <| T.region <| SL.mv rfl <| SL.v (op_geqF rfl rfl (by omega)) ?_
    refine SL.as rfl <| SL.nil <| T.condF rfl <| T.seq <| T.region <| SL.mv rfl <| SL.v (op_eqlF rfl rfl (by omega)) ?_
    refine SL.as rfl <| SL.nil <| T.condF rfl <| T.seq <| T.region <| SL.mv rfl <| SL.v (op_eqlF rfl rfl (by omega)) ?_
    refine SL.mv rfl <| SL.mv rfl <| SL.v (op_eqlT rfl rfl (by omega)) ?_
    refine SL.v (op_pickF rfl rfl) <| SL.as rfl <| SL.nil <| T.condT rfl <| T.seq <| T.region <| SL.v (op_assign (v := .int .i64 ((0 : Nat) : Int)) rfl) <| SL.v (op_assign (v := .int .i64 ((1 : Nat) : Int)) rfl) <| SL.v (op_assign (v := .int .i64 ((1 : Nat) : Int)) rfl) <| SL.nil <| T.ret3 rfl rfl rfl rfl ?_
    rfl
  by_cases c5 : op = 5
  · rw [if_pos (by omega), if_neg (by omega), if_pos c5]
    refine Spec.enter Tryz.func190 rfl Tryz.ntmps190 rfl ?_
    intro w0 hw0
    refine T.seq <| T.region <| SL.v (op_assign (v := .int .i64 ((0 : Nat) : Int)) rfl) <| SL.v (op_assign (v := .int .i64 ((0 : Nat) : Int)) rfl) <| SL.v (op_assign (v := .int .i64 ((0 : Nat) : Int)) rfl) <| SL.nil <| T.seq <| T.block <| T.seq <| T.region <| SL.mv rfl <| SL.v (op_geqF rfl rfl (by omega)) ?_
    refine SL.as rfl <| SL.nil <| T.condF rfl <| T.seq <| T.region <| SL.mv rfl <| SL.v (op_eqlF rfl rfl (by omega)) ?_
    refine SL.as rfl <| SL.nil <| T.condF rfl <| T.seq <| T.region <| SL.mv rfl <| SL.v (op_eqlF rfl rfl (by omega)) ?_
    refine SL.mv rfl <| SL.mv rfl <| SL.v (op_eqlF rfl rfl (by omega)) ?_
    refine SL.v (op_pickF rfl rfl) <| SL.as rfl <| SL.nil <| T.condF rfl <| T.seq <| T.region <| SL.mv rfl <| SL.v (op_eqlT rfl rfl (by omega)) ?_
    refine SL.as rfl <| SL.nil <| T.condT rfl <| T.seq <| T.region <| SL.v (op_assign (v := .int .i64 ((0 : Nat) : Int)) rfl) <| SL.v (op_assign (v := .int .i64 ((1 : Nat) : Int)) rfl) <| SL.v (op_assign (v := .int .i64 ((8 : Nat) : Int)) rfl) <| SL.nil <| T.ret3 rfl rfl rfl rfl ?_
    rfl
  rw [if_neg (by omega), if_neg (by omega), if_neg c5]
  refine Spec.enter Tryz.func190 rfl Tryz.ntmps190 rfl ?_
  intro w0 hw0
  refine T.seq <| T.region <| SL.v (op_assign (v := .int .i64 ((0 : Nat) : Int)) rfl) <| SL.v (op_assign (v := .int .i64 ((0 : Nat) : Int)) rfl) <| SL.v (op_assign (v := .int .i64 ((0 : Nat) : Int)) rfl) <| SL.nil <| T.seq <| T.block <| T.seq <| T.region <| SL.mv rfl <| SL.v (op_geqF rfl rfl (by omega)) ?_
  refine SL.as rfl <| SL.nil <| T.condF rfl <| T.seq <| T.region <| SL.mv rfl <| SL.v (op_eqlF rfl rfl (by omega)) ?_
  refine SL.as rfl <| SL.nil <| T.condF rfl <| T.seq <| T.region <| SL.mv rfl <| SL.v (op_eqlF rfl rfl (by omega)) ?_
  refine SL.mv rfl <| SL.mv rfl <| SL.v (op_eqlF rfl rfl (by omega)) ?_
  refine SL.v (op_pickF rfl rfl) <| SL.as rfl <| SL.nil <| T.condF rfl <| T.seq <| T.region <| SL.mv rfl <| SL.v (op_eqlF rfl rfl (by omega)) ?_
  refine SL.as rfl <| SL.nil <| T.condF rfl <| T.skip <| T.blk <| T.seq <| T.region <| SL.v (op_assign (v := .int .i64 ((0 : Nat) : Int)) rfl) <| SL.v (op_assign (v := .int .i64 ((0 : Nat) : Int)) rfl) <| SL.v (op_assign (v := .int .i64 ((0 : Nat) : Int)) rfl) <| SL.nil <| T.ret3 rfl rfl rfl rfl ?_
  rfl
theorem result_spec {X : PMap} {op : Nat} : Spec Tryz.prog 61 [.int .u8 (op : Int)] X fun u _ => u = .int .u8 (resT op : Int) := by
  unfold resT
  by_cases c1 : op = 1
  · rw [if_pos (by omega)]
    refine Spec.enter Tryz.func61 rfl Tryz.ntmps61 rfl ?_
    intro w0 hw0
    refine T.seq <| T.region <| SL.v (op_assign (v := .int .u8 ((0 : Nat) : Int)) rfl) <| SL.nil <| T.seq <| T.seq <| T.region <| SL.mv rfl <| SL.nil <| T.block <| T.seq <| T.seq <| T.region <| SL.v (op_eqlT rfl rfl (by omega)) ?_
    refine SL.as rfl <| SL.nil <| T.condT rfl <| T.skip <| T.condT rfl <| T.seq <| T.region <| SL.v (op_assign (v := .int .u8 ((2 : Nat) : Int)) rfl) <| SL.nil <| T.ret1 rfl (ResIs.tmp rfl) ?_
    rfl
  by_cases c5 : op = 5
  · rw [if_pos (by omega)]
    refine Spec.enter Tryz.func61 rfl Tryz.ntmps61 rfl ?_
    intro w0 hw0
    refine T.seq <| T.region <| SL.v (op_assign (v := .int .u8 ((0 : Nat) : Int)) rfl) <| SL.nil <| T.seq <| T.seq <| T.region <| SL.mv rfl <| SL.nil <| T.block <| T.seq <| T.seq <| T.region <| SL.v (op_eqlF rfl rfl (by omega)) ?_
    refine SL.as rfl <| SL.nil <| T.condF rfl <| T.seq <| T.region <| SL.v (op_eqlT rfl rfl (by omega)) ?_
    refine SL.as rfl <| SL.nil <| T.condT rfl <| T.skip <| T.condT rfl <| T.seq <| T.region <| SL.v (op_assign (v := .int .u8 ((2 : Nat) : Int)) rfl) <| SL.nil <| T.ret1 rfl (ResIs.tmp rfl) ?_
    rfl
  by_cases c6 : op = 6
  · rw [if_pos (by omega)]
    refine Spec.enter Tryz.func61 rfl Tryz.ntmps61 rfl ?_
    intro w0 hw0
    refine T.seq <| T.region <| SL.v (op_assign (v := .int .u8 ((0 : Nat) : Int)) rfl) <| SL.nil <| T.seq <| T.seq <| T.region <| SL.mv rfl <| SL.nil <| T.block <| T.seq <| T.seq <| T.region <| SL.v (op_eqlF rfl rfl (by omega)) ?_
    refine SL.as rfl <| SL.nil <| T.condF rfl <| T.seq <| T.region <| SL.v (op_eqlF rfl rfl (by omega)) ?_
    refine SL.as rfl <| SL.nil <| T.condF rfl <| T.seq <| T.region <| SL.v (op_eqlT rfl rfl (by omega)) ?_
    refine SL.as rfl <| SL.nil <| T.condT rfl <| T.skip <| T.condT rfl <| T.seq <| T.region <| SL.v (op_assign (v := .int .u8 ((2 : Nat) : Int)) rfl) <| SL.nil <| T.ret1 rfl (ResIs.tmp rfl) ?_
    rfl
  by_cases c16 : op = 16
  · rw [if_pos (by omega)]
    refine Spec.enter Tryz.func61 rfl Tryz.ntmps61 rfl ?_
    intro w0 hw0
    refine T.seq <| T.region <| SL.v (op_assign (v := .int .u8 ((0 : Nat) : Int)) rfl) <| SL.nil <| T.seq <| T.seq <| T.region <| SL.mv rfl <| SL.nil <| T.block <| T.seq <| T.seq <| T.region <| SL.v (op_eqlF rfl rfl (by omega)) ?_
    refine SL.as rfl <| SL.nil <| T.condF rfl <| T.seq <| T.region <| SL.v (op_eqlF rfl rfl (by omega)) ?_
    refine SL.as rfl <| SL.nil <| T.condF rfl <| T.seq <| T.region <| SL.v (op_eqlF rfl rfl (by omega)) ?_
    refine SL.as rfl <| SL.nil <| T.condF rfl <| T.region <| SL.v (op_eqlT rfl rfl (by omega)) ?_
    refine SL.as rfl <| SL.nil <| T.condT rfl <| T.seq <| T.region <| SL.v (op_assign (v := .int .u8 ((2 : Nat) : Int)) rfl) <| SL.nil <| T.ret1 rfl (ResIs.tmp rfl) ?_
    rfl
  rw [if_neg (by omega)]
  refine Spec.enter Tryz.func61 rfl Tryz.ntmps61 rfl ?_
  intro w0 hw0
  refine T.seq <| T.region <| SL.v (op_assign (v := .int .u8 ((0 : Nat) : Int)) rfl) <| SL.nil <| T.seq <| T.seq <| T.region <| SL.mv rfl <| SL.nil <| T.block <| T.seq <| T.seq <| T.region <| SL.v (op_eqlF rfl rfl (by omega)) ?_
  refine SL.as rfl <| SL.nil <| T.condF rfl <| T.seq <| T.region <| SL.v (op_eqlF rfl rfl (by omega)) ?_
  refine SL.as rfl <| SL.nil <| T.condF rfl <| T.seq <| T.region <| SL.v (op_eqlF rfl rfl (by omega)) ?_
  refine SL.as rfl <| SL.nil <| T.condF rfl <| T.region <| SL.v (op_eqlF rfl rfl (by omega)) ?_
  refine SL.as rfl <| SL.nil <| T.condF rfl <| T.skip <| T.blk <| T.seq <| T.region <| SL.v (op_assign (v := .int .u8 ((1 : Nat) : Int)) rfl) <| SL.nil <| T.ret1 rfl (ResIs.tmp rfl) ?_
  rfl
theorem maskOf_msk : maskOf = mskF := rfl
theorem cnt_mem (m : Nat) : (mem64 m).length = cntB 64 m := by rw [mem64, cntB, List.countP_eq_length_filter]
theorem fnode_spec {X : PMap} {op : Nat} {n : Int} {rs : List Nat} {al : List Fm} {r : Row4} (hrl : rs.length < 1000000) (_hal : al.length < 1000000) (h : FmR .u8 X (.mk op n rs al) r) : Spec Tryz.prog 158 [.agg #[r.1, r.2.1, r.2.2.1, r.2.2.2]] X fun u _ => u = .int .i64 (ownF op n rs al.length) := by
  cases h with
  | @mk _ _ _ _ vn va rows hn ha hl hr =>
  obtain ⟨Aa, ca, rfl⟩ := ha.form
  obtain ⟨An, cn, rfl⟩ := hn.form
  have harg : argF op ≤ 2 := by unfold argF; split <;> (try split) <;> omega
  have hmos : mosF op ≤ 8 := by unfold mosF; split <;> (try split) <;> omega
  have hlea : leaF op ≤ 1 := by unfold leaF; split <;> omega
  rw [← hl] at _hal ⊢
  by_cases c1 : op < 1 ∨ 16 < op ∨ rows.length ≠ argF op
  · have e : ownF op n rs rows.length = 1 := by rw [ownF, if_pos c1]
    rw [e]
    by_cases d1 : op < 1
    · refine Spec.enter Tryz.func158 rfl Tryz.ntmps158 rfl ?_
      intro w0 hw0
      refine T.seq <| T.region <| SL.w (op_box rfl) ?_
      rintro _ _ _ ⟨B1, rfl, rfl, rfl⟩
      refine SL.v (op_assign (v := .int .i64 ((0 : Nat) : Int)) rfl) <| SL.nil <| T.seq <| T.region <| SL.v (op_fieldAddr fa36_0 rfl) <| SL.v (op_load ty33 rfl (by repeat constructor) rfl) ?_
      refine SL.w (op_callF en190 (vs := [_]) rfl (arity_spec)) ?_
      rintro _ _ X1 ⟨rfl, hX1, rfl⟩
      refine SL.mv rfl <| SL.v (op_extract rfl rfl) <| SL.v (op_extract rfl rfl) <| SL.v (op_extract rfl rfl) <| SL.as rfl <| SL.as rfl <| SL.as rfl <| SL.nil <| T.seq <| T.seq <| T.region <| SL.v (op_fieldAddr fa36_0 rfl) <| SL.v (op_load ty33 rfl (by repeat constructor) rfl) ?_
      refine SL.v (op_lssT rfl rfl (by omega)) ?_
      refine SL.mv rfl <| SL.skip rfl rfl ?_
      refine SL.skip rfl rfl ?_
      refine SL.skip rfl rfl ?_
      refine SL.v (op_pickT rfl rfl) <| SL.mv rfl <| SL.skip rfl rfl ?_
      refine SL.skip rfl rfl ?_
      refine SL.skip rfl rfl ?_
      refine SL.skip rfl rfl ?_
      refine SL.skip rfl rfl ?_
      refine SL.v (op_pickT rfl rfl) <| SL.nil <| T.condT rfl <| T.seq <| T.region <| SL.v (op_assign (v := .int .i64 ((1 : Nat) : Int)) rfl) <| SL.nil <| T.ret1 rfl (ResIs.tmp rfl) ?_
      rfl
    by_cases d2 : 16 < op
    · refine Spec.enter Tryz.func158 rfl Tryz.ntmps158 rfl ?_
      intro w0 hw0
      refine T.seq <| T.region <| SL.w (op_box rfl) ?_
      rintro _ _ _ ⟨B1, rfl, rfl, rfl⟩
      refine SL.v (op_assign (v := .int .i64 ((0 : Nat) : Int)) rfl) <| SL.nil <| T.seq <| T.region <| SL.v (op_fieldAddr fa36_0 rfl) <| SL.v (op_load ty33 rfl (by repeat constructor) rfl) ?_
      refine SL.w (op_callF en190 (vs := [_]) rfl (arity_spec)) ?_
      rintro _ _ X1 ⟨rfl, hX1, rfl⟩
      refine SL.mv rfl <| SL.v (op_extract rfl rfl) <| SL.v (op_extract rfl rfl) <| SL.v (op_extract rfl rfl) <| SL.as rfl <| SL.as rfl <| SL.as rfl <| SL.nil <| T.seq <| T.seq <| T.region <| SL.v (op_fieldAddr fa36_0 rfl) <| SL.v (op_load ty33 rfl (by repeat constructor) rfl) ?_
      refine SL.v (op_lssF rfl rfl (by omega)) ?_
      refine SL.mv rfl <| SL.v (op_fieldAddr fa36_0 rfl) <| SL.v (op_load ty33 rfl (by repeat constructor) rfl) ?_
      refine SL.v (op_gtrT rfl rfl (by omega)) ?_
      refine SL.v (op_pickF rfl rfl) <| SL.mv rfl <| SL.skip rfl rfl ?_
      refine SL.skip rfl rfl ?_
      refine SL.skip rfl rfl ?_
      refine SL.skip rfl rfl ?_
      refine SL.skip rfl rfl ?_
      refine SL.v (op_pickT rfl rfl) <| SL.nil <| T.condT rfl <| T.seq <| T.region <| SL.v (op_assign (v := .int .i64 ((1 : Nat) : Int)) rfl) <| SL.nil <| T.ret1 rfl (ResIs.tmp rfl) ?_
      rfl
    have d3 : rows.length ≠ argF op := by omega
    refine Spec.enter Tryz.func158 rfl Tryz.ntmps158 rfl ?_
    intro w0 hw0
    refine T.seq <| T.region <| SL.w (op_box rfl) ?_
    rintro _ _ _ ⟨B1, rfl, rfl, rfl⟩
    refine SL.v (op_assign (v := .int .i64 ((0 : Nat) : Int)) rfl) <| SL.nil <| T.seq <| T.region <| SL.v (op_fieldAddr fa36_0 rfl) <| SL.v (op_load ty33 rfl (by repeat constructor) rfl) ?_
    refine SL.w (op_callF en190 (vs := [_]) rfl (arity_spec)) ?_
    rintro _ _ X1 ⟨rfl, hX1, rfl⟩
    refine SL.mv rfl <| SL.v (op_extract rfl rfl) <| SL.v (op_extract rfl rfl) <| SL.v (op_extract rfl rfl) <| SL.as rfl <| SL.as rfl <| SL.as rfl <| SL.nil <| T.seq <| T.seq <| T.region <| SL.v (op_fieldAddr fa36_0 rfl) <| SL.v (op_load ty33 rfl (by repeat constructor) rfl) ?_
    refine SL.v (op_lssF rfl rfl (by omega)) ?_
    refine SL.mv rfl <| SL.v (op_fieldAddr fa36_0 rfl) <| SL.v (op_load ty33 rfl (by repeat constructor) rfl) ?_
    refine SL.v (op_gtrF rfl rfl (by omega)) ?_
    refine SL.v (op_pickF rfl rfl) <| SL.mv rfl <| SL.v (op_fieldAddr fa36_3 rfl) <| SL.v (op_load ty34 rfl (by repeat constructor) rfl) ?_
    refine SL.v (op_lenS Tryz.underlying34 rfl) <| SL.mv rfl <| SL.v (op_neqT rfl rfl (by omega)) ?_
    refine SL.v (op_pickF rfl rfl) <| SL.nil <| T.condT rfl <| T.seq <| T.region <| SL.v (op_assign (v := .int .i64 ((1 : Nat) : Int)) rfl) <| SL.nil <| T.ret1 rfl (ResIs.tmp rfl) ?_
    rfl
  have c1a : ¬op < 1 := fun h => c1 (.inl h)
  have c1b : ¬16 < op := fun h => c1 (.inr (.inl h))
  have c1c : rows.length = argF op := by omega
  by_cases c2 : (op ≠ 1 ∧ n ≠ 0) ∨ rs.length < leaF op ∨ mosF op < rs.length
  · have e : ownF op n rs rows.length = 6 := by rw [ownF, if_neg c1, if_pos c2]
    rw [e]
    by_cases d1 : op = 1
    · by_cases d2 : rs.length < leaF op
      · refine Spec.enter Tryz.func158 rfl Tryz.ntmps158 rfl ?_
        intro w0 hw0
        refine T.seq <| T.region <| SL.w (op_box rfl) ?_
        rintro _ _ _ ⟨B1, rfl, rfl, rfl⟩
        refine SL.v (op_assign (v := .int .i64 ((0 : Nat) : Int)) rfl) <| SL.nil <| T.seq <| T.region <| SL.v (op_fieldAddr fa36_0 rfl) <| SL.v (op_load ty33 rfl (by repeat constructor) rfl) ?_
        refine SL.w (op_callF en190 (vs := [_]) rfl (arity_spec)) ?_
        rintro _ _ X1 ⟨rfl, hX1, rfl⟩
        refine SL.mv rfl <| SL.v (op_extract rfl rfl) <| SL.v (op_extract rfl rfl) <| SL.v (op_extract rfl rfl) <| SL.as rfl <| SL.as rfl <| SL.as rfl <| SL.nil <| T.seq <| T.seq <| T.region <| SL.v (op_fieldAddr fa36_0 rfl) <| SL.v (op_load ty33 rfl (by repeat constructor) rfl) ?_
        refine SL.v (op_lssF rfl rfl (by omega)) ?_
        refine SL.mv rfl <| SL.v (op_fieldAddr fa36_0 rfl) <| SL.v (op_load ty33 rfl (by repeat constructor) rfl) ?_
        refine SL.v (op_gtrF rfl rfl (by omega)) ?_
        refine SL.v (op_pickF rfl rfl) <| SL.mv rfl <| SL.v (op_fieldAddr fa36_3 rfl) <| SL.v (op_load ty34 rfl (by repeat constructor) rfl) ?_
        refine SL.v (op_lenS Tryz.underlying34 rfl) <| SL.mv rfl <| SL.v (op_neqF rfl rfl (by omega)) ?_
        refine SL.v (op_pickF rfl rfl) <| SL.nil <| T.condF rfl <| T.skip <| T.seq <| T.seq <| T.region <| SL.v (op_fieldAddr fa36_0 rfl) <| SL.v (op_load ty33 rfl (by repeat constructor) rfl) ?_
        refine SL.v (op_neqF rfl rfl (by omega)) ?_
        refine SL.mv rfl <| SL.skip rfl rfl ?_
        refine SL.skip rfl rfl ?_
        refine SL.skip rfl rfl ?_
        refine SL.v (op_pickF rfl rfl) <| SL.mv rfl <| SL.v (op_fieldAddr fa36_2 rfl) <| SL.v (op_load ty24 rfl (by repeat constructor) rfl) ?_
        refine SL.v (op_lenS Tryz.underlying24 rfl) <| SL.mv rfl <| SL.v (op_lssT rfl rfl (by omega)) ?_
        refine SL.v (op_pickF rfl rfl) <| SL.mv rfl <| SL.skip rfl rfl ?_
        refine SL.skip rfl rfl ?_
        refine SL.skip rfl rfl ?_
        refine SL.skip rfl rfl ?_
        refine SL.skip rfl rfl ?_
        refine SL.v (op_pickT rfl rfl) <| SL.nil <| T.condT rfl <| T.seq <| T.region <| SL.v (op_assign (v := .int .i64 ((6 : Nat) : Int)) rfl) <| SL.nil <| T.ret1 rfl (ResIs.tmp rfl) ?_
        rfl
      · have d3 : mosF op < rs.length := by omega
        refine Spec.enter Tryz.func158 rfl Tryz.ntmps158 rfl ?_
        intro w0 hw0
        refine T.seq <| T.region <| SL.w (op_box rfl) ?_
        rintro _ _ _ ⟨B1, rfl, rfl, rfl⟩
        refine SL.v (op_assign (v := .int .i64 ((0 : Nat) : Int)) rfl) <| SL.nil <| T.seq <| T.region <| SL.v (op_fieldAddr fa36_0 rfl) <| SL.v (op_load ty33 rfl (by repeat constructor) rfl) ?_
        refine SL.w (op_callF en190 (vs := [_]) rfl (arity_spec)) ?_
        rintro _ _ X1 ⟨rfl, hX1, rfl⟩
        refine SL.mv rfl <| SL.v (op_extract rfl rfl) <| SL.v (op_extract rfl rfl) <| SL.v (op_extract rfl rfl) <| SL.as rfl <| SL.as rfl <| SL.as rfl <| SL.nil <| T.seq <| T.seq <| T.region <| SL.v (op_fieldAddr fa36_0 rfl) <| SL.v (op_load ty33 rfl (by repeat constructor) rfl) ?_
        refine SL.v (op_lssF rfl rfl (by omega)) ?_
        refine SL.mv rfl <| SL.v (op_fieldAddr fa36_0 rfl) <| SL.v (op_load ty33 rfl (by repeat constructor) rfl) ?_
        refine SL.v (op_gtrF rfl rfl (by omega)) ?_
        refine SL.v (op_pickF rfl rfl) <| SL.mv rfl <| SL.v (op_fieldAddr fa36_3 rfl) <| SL.v (op_load ty34 rfl (by repeat constructor) rfl) ?_
        refine SL.v (op_lenS Tryz.underlying34 rfl) <| SL.mv rfl <| SL.v (op_neqF rfl rfl (by omega)) ?_
        refine SL.v (op_pickF rfl rfl) <| SL.nil <| T.condF rfl <| T.skip <| T.seq <| T.seq <| T.region <| SL.v (op_fieldAddr fa36_0 rfl) <| SL.v (op_load ty33 rfl (by repeat constructor) rfl) ?_
        refine SL.v (op_neqF rfl rfl (by omega)) ?_
        refine SL.mv rfl <| SL.skip rfl rfl ?_
        refine SL.skip rfl rfl ?_
        refine SL.skip rfl rfl ?_
        refine SL.v (op_pickF rfl rfl) <| SL.mv rfl <| SL.v (op_fieldAddr fa36_2 rfl) <| SL.v (op_load ty24 rfl (by repeat constructor) rfl) ?_
        refine SL.v (op_lenS Tryz.underlying24 rfl) <| SL.mv rfl <| SL.v (op_lssF rfl rfl (by omega)) ?_
        refine SL.v (op_pickF rfl rfl) <| SL.mv rfl <| SL.v (op_fieldAddr fa36_2 rfl) <| SL.v (op_load ty24 rfl (by repeat constructor) rfl) ?_
        refine SL.v (op_lenS Tryz.underlying24 rfl) <| SL.mv rfl <| SL.v (op_gtrT rfl rfl (by omega)) ?_
        refine SL.v (op_pickF rfl rfl) <| SL.nil <| T.condT rfl <| T.seq <| T.region <| SL.v (op_assign (v := .int .i64 ((6 : Nat) : Int)) rfl) <| SL.nil <| T.ret1 rfl (ResIs.tmp rfl) ?_
        rfl
    · by_cases d0 : n = 0
      · by_cases d2 : rs.length < leaF op
        · refine Spec.enter Tryz.func158 rfl Tryz.ntmps158 rfl ?_
          intro w0 hw0
          refine T.seq <| T.region <| SL.w (op_box rfl) ?_
          rintro _ _ _ ⟨B1, rfl, rfl, rfl⟩
          refine SL.v (op_assign (v := .int .i64 ((0 : Nat) : Int)) rfl) <| SL.nil <| T.seq <| T.region <| SL.v (op_fieldAddr fa36_0 rfl) <| SL.v (op_load ty33 rfl (by repeat constructor) rfl) ?_
          refine SL.w (op_callF en190 (vs := [_]) rfl (arity_spec)) ?_
          rintro _ _ X1 ⟨rfl, hX1, rfl⟩
          refine SL.mv rfl <| SL.v (op_extract rfl rfl) <| SL.v (op_extract rfl rfl) <| SL.v (op_extract rfl rfl) <| SL.as rfl <| SL.as rfl <| SL.as rfl <| SL.nil <| T.seq <| T.seq <| T.region <| SL.v (op_fieldAddr fa36_0 rfl) <| SL.v (op_load ty33 rfl (by repeat constructor) rfl) ?_
          refine SL.v (op_lssF rfl rfl (by omega)) ?_
          refine SL.mv rfl <| SL.v (op_fieldAddr fa36_0 rfl) <| SL.v (op_load ty33 rfl (by repeat constructor) rfl) ?_
          refine SL.v (op_gtrF rfl rfl (by omega)) ?_
          refine SL.v (op_pickF rfl rfl) <| SL.mv rfl <| SL.v (op_fieldAddr fa36_3 rfl) <| SL.v (op_load ty34 rfl (by repeat constructor) rfl) ?_
          refine SL.v (op_lenS Tryz.underlying34 rfl) <| SL.mv rfl <| SL.v (op_neqF rfl rfl (by omega)) ?_
          refine SL.v (op_pickF rfl rfl) <| SL.nil <| T.condF rfl <| T.skip <| T.seq <| T.seq <| T.region <| SL.v (op_fieldAddr fa36_0 rfl) <| SL.v (op_load ty33 rfl (by repeat constructor) rfl) ?_
          refine SL.v (op_neqT rfl rfl (by omega)) ?_
          refine SL.mv rfl <| SL.v (op_fieldAddr fa36_1 rfl) <| SL.v (op_load ty3 rfl (by repeat constructor) rfl) ?_
          refine SL.v (op_neqF rfl rfl (by omega)) ?_
          refine SL.v (op_pickT rfl rfl) <| SL.mv rfl <| SL.v (op_fieldAddr fa36_2 rfl) <| SL.v (op_load ty24 rfl (by repeat constructor) rfl) ?_
          refine SL.v (op_lenS Tryz.underlying24 rfl) <| SL.mv rfl <| SL.v (op_lssT rfl rfl (by omega)) ?_
          refine SL.v (op_pickF rfl rfl) <| SL.mv rfl <| SL.skip rfl rfl ?_
          refine SL.skip rfl rfl ?_
          refine SL.skip rfl rfl ?_
          refine SL.skip rfl rfl ?_
          refine SL.skip rfl rfl ?_
          refine SL.v (op_pickT rfl rfl) <| SL.nil <| T.condT rfl <| T.seq <| T.region <| SL.v (op_assign (v := .int .i64 ((6 : Nat) : Int)) rfl) <| SL.nil <| T.ret1 rfl (ResIs.tmp rfl) ?_
          rfl
        · have d3 : mosF op < rs.length := by omega
          refine Spec.enter Tryz.func158 rfl Tryz.ntmps158 rfl ?_
          intro w0 hw0
          refine T.seq <| T.region <| SL.w (op_box rfl) ?_
          rintro _ _ _ ⟨B1, rfl, rfl, rfl⟩
          refine SL.v (op_assign (v := .int .i64 ((0 : Nat) : Int)) rfl) <| SL.nil <| T.seq <| T.region <| SL.v (op_fieldAddr fa36_0 rfl) <| SL.v (op_load ty33 rfl (by repeat constructor) rfl) ?_
          refine SL.w (op_callF en190 (vs := [_]) rfl (arity_spec)) ?_
          rintro _ _ X1 ⟨rfl, hX1, rfl⟩
          refine SL.mv rfl <| SL.v (op_extract rfl rfl) <| SL.v (op_extract rfl rfl) <| SL.v (op_extract rfl rfl) <| SL.as rfl <| SL.as rfl <| SL.as rfl <| SL.nil <| T.seq <| T.seq <| T.region <| SL.v (op_fieldAddr fa36_0 rfl) <| SL.v (op_load ty33 rfl (by repeat constructor) rfl) ?_
          refine SL.v (op_lssF rfl rfl (by omega)) ?_
          refine SL.mv rfl <| SL.v (op_fieldAddr fa36_0 rfl) <| SL.v (op_load ty33 rfl (by repeat constructor) rfl) ?_
          refine SL.v (op_gtrF rfl rfl (by omega)) ?_
          refine SL.v (op_pickF rfl rfl) <| SL.mv rfl <| SL.v (op_fieldAddr fa36_3 rfl) <| SL.v (op_load ty34 rfl (by repeat constructor) rfl) ?_
          refine SL.v (op_lenS Tryz.underlying34 rfl) <| SL.mv rfl <| SL.v (op_neqF rfl rfl (by omega)) ?_
          refine SL.v (op_pickF rfl rfl) <| SL.nil <| T.condF rfl <| T.skip <| T.seq <| T.seq <| T.region <| SL.v (op_fieldAddr fa36_0 rfl) <| SL.v (op_load ty33 rfl (by repeat constructor) rfl) ?_
          refine SL.v (op_neqT rfl rfl (by omega)) ?_
          refine SL.mv rfl <| SL.v (op_fieldAddr fa36_1 rfl) <| SL.v (op_load ty3 rfl (by repeat constructor) rfl) ?_
          refine SL.v (op_neqF rfl rfl (by omega)) ?_
          refine SL.v (op_pickT rfl rfl) <| SL.mv rfl <| SL.v (op_fieldAddr fa36_2 rfl) <| SL.v (op_load ty24 rfl (by repeat constructor) rfl) ?_
          refine SL.v (op_lenS Tryz.underlying24 rfl) <| SL.mv rfl <| SL.v (op_lssF rfl rfl (by omega)) ?_
          refine SL.v (op_pickF rfl rfl) <| SL.mv rfl <| SL.v (op_fieldAddr fa36_2 rfl) <| SL.v (op_load ty24 rfl (by repeat constructor) rfl) ?_
          refine SL.v (op_lenS Tryz.underlying24 rfl) <| SL.mv rfl <| SL.v (op_gtrT rfl rfl (by omega)) ?_
          refine SL.v (op_pickF rfl rfl) <| SL.nil <| T.condT rfl <| T.seq <| T.region <| SL.v (op_assign (v := .int .i64 ((6 : Nat) : Int)) rfl) <| SL.nil <| T.ret1 rfl (ResIs.tmp rfl) ?_
          rfl
      · refine Spec.enter Tryz.func158 rfl Tryz.ntmps158 rfl ?_
        intro w0 hw0
        refine T.seq <| T.region <| SL.w (op_box rfl) ?_
        rintro _ _ _ ⟨B1, rfl, rfl, rfl⟩
        refine SL.v (op_assign (v := .int .i64 ((0 : Nat) : Int)) rfl) <| SL.nil <| T.seq <| T.region <| SL.v (op_fieldAddr fa36_0 rfl) <| SL.v (op_load ty33 rfl (by repeat constructor) rfl) ?_
        refine SL.w (op_callF en190 (vs := [_]) rfl (arity_spec)) ?_
        rintro _ _ X1 ⟨rfl, hX1, rfl⟩
        refine SL.mv rfl <| SL.v (op_extract rfl rfl) <| SL.v (op_extract rfl rfl) <| SL.v (op_extract rfl rfl) <| SL.as rfl <| SL.as rfl <| SL.as rfl <| SL.nil <| T.seq <| T.seq <| T.region <| SL.v (op_fieldAddr fa36_0 rfl) <| SL.v (op_load ty33 rfl (by repeat constructor) rfl) ?_
        refine SL.v (op_lssF rfl rfl (by omega)) ?_
        refine SL.mv rfl <| SL.v (op_fieldAddr fa36_0 rfl) <| SL.v (op_load ty33 rfl (by repeat constructor) rfl) ?_
        refine SL.v (op_gtrF rfl rfl (by omega)) ?_
        refine SL.v (op_pickF rfl rfl) <| SL.mv rfl <| SL.v (op_fieldAddr fa36_3 rfl) <| SL.v (op_load ty34 rfl (by repeat constructor) rfl) ?_
        refine SL.v (op_lenS Tryz.underlying34 rfl) <| SL.mv rfl <| SL.v (op_neqF rfl rfl (by omega)) ?_
        refine SL.v (op_pickF rfl rfl) <| SL.nil <| T.condF rfl <| T.skip <| T.seq <| T.seq <| T.region <| SL.v (op_fieldAddr fa36_0 rfl) <| SL.v (op_load ty33 rfl (by repeat constructor) rfl) ?_
        refine SL.v (op_neqT rfl rfl (by omega)) ?_
        refine SL.mv rfl <| SL.v (op_fieldAddr fa36_1 rfl) <| SL.v (op_load ty3 rfl (by repeat constructor) rfl) ?_
        refine SL.v (op_neqT rfl rfl (by omega)) ?_
        refine SL.v (op_pickT rfl rfl) <| SL.mv rfl <| SL.skip rfl rfl ?_
        refine SL.skip rfl rfl ?_
        refine SL.skip rfl rfl ?_
        refine SL.skip rfl rfl ?_
        refine SL.skip rfl rfl ?_
        refine SL.v (op_pickT rfl rfl) <| SL.mv rfl <| SL.skip rfl rfl ?_
        refine SL.skip rfl rfl ?_
        refine SL.skip rfl rfl ?_
        refine SL.skip rfl rfl ?_
        refine SL.skip rfl rfl ?_
        refine SL.v (op_pickT rfl rfl) <| SL.nil <| T.condT rfl <| T.seq <| T.region <| SL.v (op_assign (v := .int .i64 ((6 : Nat) : Int)) rfl) <| SL.nil <| T.ret1 rfl (ResIs.tmp rfl) ?_
        rfl
  have c2a : ¬rs.length < leaF op := fun h => c2 (.inr (.inl h))
  have c2b : ¬mosF op < rs.length := fun h => c2 (.inr (.inr h))
  refine Spec.enter Tryz.func158 rfl Tryz.ntmps158 rfl ?_
  intro w0 hw0
  refine T.seq <| T.region <| SL.w (op_box rfl) ?_
  rintro _ _ _ ⟨B1, rfl, rfl, rfl⟩
  refine SL.v (op_assign (v := .int .i64 ((0 : Nat) : Int)) rfl) <| SL.nil <| T.seq <| T.region <| SL.v (op_fieldAddr fa36_0 rfl) <| SL.v (op_load ty33 rfl (by repeat constructor) rfl) ?_
  refine SL.w (op_callF en190 (vs := [_]) rfl (arity_spec)) ?_
  rintro _ _ X1 ⟨rfl, hX1, rfl⟩
  refine SL.mv rfl <| SL.v (op_extract rfl rfl) <| SL.v (op_extract rfl rfl) <| SL.v (op_extract rfl rfl) <| SL.as rfl <| SL.as rfl <| SL.as rfl <| SL.nil <| T.seq <| T.seq <| T.region <| SL.v (op_fieldAddr fa36_0 rfl) <| SL.v (op_load ty33 rfl (by repeat constructor) rfl) ?_
  refine SL.v (op_lssF rfl rfl (by omega)) ?_
  refine SL.mv rfl <| SL.v (op_fieldAddr fa36_0 rfl) <| SL.v (op_load ty33 rfl (by repeat constructor) rfl) ?_
  refine SL.v (op_gtrF rfl rfl (by omega)) ?_
  refine SL.v (op_pickF rfl rfl) <| SL.mv rfl <| SL.v (op_fieldAddr fa36_3 rfl) <| SL.v (op_load ty34 rfl (by repeat constructor) rfl) ?_
  refine SL.v (op_lenS Tryz.underlying34 rfl) <| SL.mv rfl <| SL.v (op_neqF rfl rfl (by omega)) ?_
  refine SL.v (op_pickF rfl rfl) <| SL.nil <| T.condF rfl <| T.skip <| T.seq <| T.meet (fun _ env own X' => X1.le X' ∧ env = [(1, .pointer (some ⟨B1, 0, none⟩))] ∧ own = [⟨B1, [.int .u8 (op : Int), .int .i64 n, .slice An rs.length cn, .slice Aa rows.length ca], 36, 4⟩]) ?_ ?_
  · by_cases d1 : op = 1
    · skip
      refine T.seq <| T.region <| SL.v (op_fieldAddr fa36_0 rfl) <| SL.v (op_load ty33 rfl (by repeat constructor) rfl) ?_
      refine SL.v (op_neqF rfl rfl (by omega)) ?_
      refine SL.mv rfl <| SL.skip rfl rfl ?_
      refine SL.skip rfl rfl ?_
      refine SL.skip rfl rfl ?_
      refine SL.v (op_pickF rfl rfl) <| SL.mv rfl <| SL.v (op_fieldAddr fa36_2 rfl) <| SL.v (op_load ty24 rfl (by repeat constructor) rfl) ?_
      refine SL.v (op_lenS Tryz.underlying24 rfl) <| SL.mv rfl <| SL.v (op_lssF rfl rfl (by omega)) ?_
      refine SL.v (op_pickF rfl rfl) <| SL.mv rfl <| SL.v (op_fieldAddr fa36_2 rfl) <| SL.v (op_load ty24 rfl (by repeat constructor) rfl) ?_
      refine SL.v (op_lenS Tryz.underlying24 rfl) <| SL.mv rfl <| SL.v (op_gtrF rfl rfl (by omega)) ?_
      refine SL.v (op_pickF rfl rfl) <| SL.nil <| T.condF rfl <| T.skip ?_
      exact T.backW 0 (by omega) ⟨PMap.le_refl _, rfl, rfl⟩ (by repeat (first | exact Sub.nil | refine Sub.cons rfl ?_))
    · have d0 : n = 0 := Classical.byContradiction fun h => c2 (.inl ⟨d1, h⟩)
      refine T.seq <| T.region <| SL.v (op_fieldAddr fa36_0 rfl) <| SL.v (op_load ty33 rfl (by repeat constructor) rfl) ?_
      refine SL.v (op_neqT rfl rfl (by omega)) ?_
      refine SL.mv rfl <| SL.v (op_fieldAddr fa36_1 rfl) <| SL.v (op_load ty3 rfl (by repeat constructor) rfl) ?_
      refine SL.v (op_neqF rfl rfl (by omega)) ?_
      refine SL.v (op_pickT rfl rfl) <| SL.mv rfl <| SL.v (op_fieldAddr fa36_2 rfl) <| SL.v (op_load ty24 rfl (by repeat constructor) rfl) ?_
      refine SL.v (op_lenS Tryz.underlying24 rfl) <| SL.mv rfl <| SL.v (op_lssF rfl rfl (by omega)) ?_
      refine SL.v (op_pickF rfl rfl) <| SL.mv rfl <| SL.v (op_fieldAddr fa36_2 rfl) <| SL.v (op_load ty24 rfl (by repeat constructor) rfl) ?_
      refine SL.v (op_lenS Tryz.underlying24 rfl) <| SL.mv rfl <| SL.v (op_gtrF rfl rfl (by omega)) ?_
      refine SL.v (op_pickF rfl rfl) <| SL.nil <| T.condF rfl <| T.skip ?_
      exact T.backW 0 (by omega) ⟨PMap.le_refl _, rfl, rfl⟩ (by repeat (first | exact Sub.nil | refine Sub.cons rfl ?_))
  rintro _ _ _ X2 ⟨hX2, rfl, rfl⟩
  by_cases c3 : n < 0 ∨ 999999 < n
  · have e : ownF op n rs rows.length = 2 := by rw [ownF, if_neg c1, if_neg c2, if_pos c3]
    rw [e]
    by_cases d1 : n < 0
    · skip
      refine T.seq <| T.seq <| T.region <| SL.v (op_fieldAddr fa36_1 rfl) <| SL.v (op_load ty3 rfl (by repeat constructor) rfl) ?_
      refine SL.v (op_lssT rfl rfl (by omega)) ?_
      refine SL.mv rfl <| SL.skip rfl rfl ?_
      refine SL.skip rfl rfl ?_
      refine SL.skip rfl rfl ?_
      refine SL.v (op_pickT rfl rfl) <| SL.nil <| T.condT rfl <| T.seq <| T.region <| SL.v (op_assign (v := .int .i64 ((2 : Nat) : Int)) rfl) <| SL.nil <| T.ret1 rfl (ResIs.tmp rfl) ?_
      rfl
    · have d2 : 999999 < n := by omega
      refine T.seq <| T.seq <| T.region <| SL.v (op_fieldAddr fa36_1 rfl) <| SL.v (op_load ty3 rfl (by repeat constructor) rfl) ?_
      refine SL.v (op_lssF rfl rfl (by omega)) ?_
      refine SL.mv rfl <| SL.v (op_fieldAddr fa36_1 rfl) <| SL.v (op_load ty3 rfl (by repeat constructor) rfl) ?_
      refine SL.v (op_gtrT rfl rfl (by omega)) ?_
      refine SL.v (op_pickF rfl rfl) <| SL.nil <| T.condT rfl <| T.seq <| T.region <| SL.v (op_assign (v := .int .i64 ((2 : Nat) : Int)) rfl) <| SL.nil <| T.ret1 rfl (ResIs.tmp rfl) ?_
      rfl
  have c3a : ¬n < 0 := fun h => c3 (.inl h)
  have c3b : ¬999999 < n := fun h => c3 (.inr h)
  refine T.seq <| T.seq <| T.region <| SL.v (op_fieldAddr fa36_1 rfl) <| SL.v (op_load ty3 rfl (by repeat constructor) rfl) ?_
  refine SL.v (op_lssF rfl rfl (by omega)) ?_
  refine SL.mv rfl <| SL.v (op_fieldAddr fa36_1 rfl) <| SL.v (op_load ty3 rfl (by repeat constructor) rfl) ?_
  refine SL.v (op_gtrF rfl rfl (by omega)) ?_
  refine SL.v (op_pickF rfl rfl) <| SL.nil <| T.condF rfl <| T.skip <| T.seq <| T.seq <| T.region <| SL.v (op_fieldAddr fa36_2 rfl) <| SL.v (op_load ty24 rfl (by repeat constructor) rfl) ?_
  refine SL.v (op_lenS Tryz.underlying24 rfl) <| SL.v (op_move (v := .int .i64 ((0 : Nat) : Int)) rfl) <| SL.nil <| T.block <| T.loopW (fun m env own X' => ∃ i : Nat, m = rs.length - i ∧ i ≤ rs.length ∧ X2.le X' ∧ (∀ r ∈ rs.take i, 1 ≤ r ∧ r ≤ 63) ∧ env = [(1, .pointer (some ⟨B1, 0, none⟩)), (61, .slice An rs.length cn), (62, .int .i64 (rs.length : Int)), (63, .int .i64 (i : Int))] ∧ own = [⟨B1, [.int .u8 (op : Int), .int .i64 n, .slice An rs.length cn, .slice Aa rows.length ca], 36, 4⟩]) rs.length ⟨0, by simp, by omega, PMap.le_refl _, (fun r hr => by simp at hr), rfl, rfl⟩ (by repeat (first | exact Sub.nil | refine Sub.cons rfl ?_)) ?_
  rintro m _ _ X3 ⟨i, rfl, hi, hX3, hall, rfl, rfl⟩
  rcases Nat.lt_or_ge i rs.length with hil | hil
  · obtain ⟨b, rfl, hB⟩ := hn.blk (by omega)
    have hB3 := ((hB.mono hX1).mono hX2).mono hX3
    have hmem : rs[i] ∈ rs := List.getElem_mem hil
    by_cases d : rs[i] < 1 ∨ 63 < rs[i]
    · have e : ownF op n rs rows.length = 2 := by rw [ownF, if_neg c1, if_neg c2, if_neg c3, if_pos ⟨_, hmem, d⟩]
      rw [e]
      by_cases d1 : rs[i] < 1
      · skip
        refine T.seq <| T.region <| SL.v (op_lssT rfl rfl (by omega)) ?_
        refine SL.nil <| T.seq <| T.condT rfl <| T.skip <| T.seq <| T.block <| T.seq <| T.region <| SL.v (op_indexN Tryz.underlying24 ty3 rfl rfl (by omega)) ?_
        refine SL.v (op_loadX ty3 rfl hB3 (cread1 (ints_get rs i hil))) <| SL.as rfl <| SL.nil <| T.seq <| T.region <| SL.mv rfl <| SL.v (op_lssT rfl rfl (by omega)) ?_
        refine SL.mv rfl <| SL.skip rfl rfl ?_
        refine SL.skip rfl rfl ?_
        refine SL.v (op_pickT rfl rfl) <| SL.nil <| T.condT rfl <| T.seq <| T.region <| SL.v (op_assign (v := .int .i64 ((2 : Nat) : Int)) rfl) <| SL.nil <| T.ret1 rfl (ResIs.tmp rfl) ?_
        rfl
      · have d2 : 63 < rs[i] := by omega
        refine T.seq <| T.region <| SL.v (op_lssT rfl rfl (by omega)) ?_
        refine SL.nil <| T.seq <| T.condT rfl <| T.skip <| T.seq <| T.block <| T.seq <| T.region <| SL.v (op_indexN Tryz.underlying24 ty3 rfl rfl (by omega)) ?_
        refine SL.v (op_loadX ty3 rfl hB3 (cread1 (ints_get rs i hil))) <| SL.as rfl <| SL.nil <| T.seq <| T.region <| SL.mv rfl <| SL.v (op_lssF rfl rfl (by omega)) ?_
        refine SL.mv rfl <| SL.mv rfl <| SL.v (op_gtrT rfl rfl (by omega)) ?_
        refine SL.v (op_pickF rfl rfl) <| SL.nil <| T.condT rfl <| T.seq <| T.region <| SL.v (op_assign (v := .int .i64 ((2 : Nat) : Int)) rfl) <| SL.nil <| T.ret1 rfl (ResIs.tmp rfl) ?_
        rfl
    · have da : ¬rs[i] < 1 := fun h => d (.inl h)
      have db : ¬63 < rs[i] := fun h => d (.inr h)
      have htk : rs.take (i + 1) = rs.take i ++ [rs[i]] := List.take_succ_eq_append_getElem hil
      refine T.seq <| T.region <| SL.v (op_lssT rfl rfl (by omega)) ?_
      refine SL.nil <| T.seq <| T.condT rfl <| T.skip <| T.seq <| T.block <| T.seq <| T.region <| SL.v (op_indexN Tryz.underlying24 ty3 rfl rfl (by omega)) ?_
      refine SL.v (op_loadX ty3 rfl hB3 (cread1 (ints_get rs i hil))) <| SL.as rfl <| SL.nil <| T.seq <| T.region <| SL.mv rfl <| SL.v (op_lssF rfl rfl (by omega)) ?_
      refine SL.mv rfl <| SL.mv rfl <| SL.v (op_gtrF rfl rfl (by omega)) ?_
      refine SL.v (op_pickF rfl rfl) <| SL.nil <| T.condF rfl <| T.skip <| T.blk <| T.region <| SL.v (op_addN (q := 1) rfl rfl (by omega)) ?_
      refine SL.mv rfl <| SL.nil ?_
      exact T.backW (rs.length - (i + 1)) (by omega) ⟨i + 1, rfl, by omega, hX3, (fun r hr => by rw [htk] at hr; rcases List.mem_append.1 hr with hr | hr; exact hall r hr; rw [List.mem_singleton.1 hr]; omega), rfl, rfl⟩ (by repeat (first | exact Sub.nil | refine Sub.cons rfl ?_))
  · obtain rfl : i = rs.length := by omega
    rw [List.take_of_length_le (Nat.le_refl _)] at hall
    have c4 : ¬∃ r ∈ rs, r < 1 ∨ 63 < r := fun ⟨r, hr, hh⟩ => by have := hall r hr; omega
    have h64 : ∀ r ∈ rs, r < 64 := fun r hr => by have := hall r hr; omega
    have hcnt := cnt_msk h64
    refine T.seq <| T.region <| SL.v (op_lssF rfl rfl (by omega)) ?_
    refine SL.nil <| T.seq <| T.condF rfl ?_
    refine T.exit (T.exitCode (T.exitCut (T.exitBlk ?_)))
    refine T.seq <| T.seq <| T.draw (by kernel_rfl) 8 [.t 0, .t 1, .t 4, .t 5, .t 6, .r 2, .r 3, .t 7] (by kernel_rfl) ?_
    refine SD.take rfl panicBody (op_fieldAddr fa36_2 rfl) rfl rfl ?_
    refine SD.take rfl panicBody (op_load ty24 rfl (by repeat constructor) rfl) rfl rfl ?_
    refine SD.take rfl panicBody (op_fieldAddr fa36_2 rfl) rfl rfl ?_
    refine SD.take rfl panicBody (op_load ty24 rfl (by repeat constructor) rfl) rfl rfl ?_
    refine SD.take rfl panicBody (op_lenS Tryz.underlying24 rfl) rfl rfl ?_
    refine SD.run rfl (op_callF en38 (vs := [_]) rfl (of_spec (((hn.mono hX1).mono hX2).mono hX3).1 h64 (by omega))) rfl rfl ?_
    rintro _ _ X4 ⟨rfl, hX4, hS⟩
    obtain ⟨A4, l4, c4', rfl⟩ := hS.form
    refine SD.run rfl (op_callF en22 (vs := [_]) rfl (len_exact hS)) rfl rfl ?_
    rintro _ _ X5 ⟨rfl, hX5, rfl⟩
    rw [maskOf_msk, cnt_mem]
    have hle := cnt_le (mskF rs)
    by_cases c5 : rs.Nodup
    · have hq := hcnt.2 c5
      have e : ownF op n rs rows.length = 0 := by rw [ownF, if_neg c1, if_neg c2, if_neg c3, if_neg c4, if_neg (fun h => h c5)]
      rw [e]
      refine SD.take rfl panicBody (op_neqF rfl rfl (by omega)) rfl rfl ?_
      refine SD.nil ?_
      show SL _ _ _ _ _ _ _ [] _ _ _
      refine SL.nil <| T.condF rfl <| T.skip <| T.seq <| T.region <| SL.v (op_assign (v := .int .i64 ((0 : Nat) : Int)) rfl) <| SL.nil <| T.ret1 rfl (ResIs.tmp rfl) ?_
      rfl
    · have hq : cntB 64 (mskF rs) ≠ rs.length := fun h => c5 (hcnt.1 h)
      have e : ownF op n rs rows.length = 5 := by rw [ownF, if_neg c1, if_neg c2, if_neg c3, if_neg c4, if_pos c5]
      rw [e]
      refine SD.take rfl panicBody (op_neqT rfl rfl (by omega)) rfl rfl ?_
      refine SD.nil ?_
      show SL _ _ _ _ _ _ _ [] _ _ _
      refine SL.nil <| T.condT rfl <| T.seq <| T.region <| SL.v (op_assign (v := .int .i64 ((5 : Nat) : Int)) rfl) <| SL.nil <| T.ret1 rfl (ResIs.tmp rfl) ?_
      rfl
end Go.Proofs.YtnpcilglilfajaaGreatDoor
namespace Go.Proofs.YtnpcilglilfajaaGreatDoor
section
set_option maxRecDepth 100000
theorem en113 : Enters Tryz.prog 113 := enters_mk Tryz.func113 (by kernel_rfl) rfl
theorem en158 : Enters Tryz.prog 158 := enters_mk Tryz.func158 (by kernel_rfl) rfl
theorem en60 : Enters Tryz.prog 60 := enters_mk Tryz.func60 (by kernel_rfl) rfl
theorem en61 : Enters Tryz.prog 61 := enters_mk Tryz.func61 (by kernel_rfl) rfl
end
open Go.RowKit
theorem finside_spec (N : Nat) : ∀ {X : PMap} {f : Fm} {r : Row4} {kind : Nat}, wtF f ≤ N → N < 1000000 → kind < 256 → FmR .u8 X f r → Spec Tryz.prog 113 [.agg #[r.1, r.2.1, r.2.2.1, r.2.2.2], .int .u8 (kind : Int)] X fun u _ => u = .int .i64 (insF kind f) := by
  induction N with
  | zero => intro X f r kind h; have := wtF_pos f; omega
  | succ N ih =>
    intro X f r kind hN hB hk h
    have h0 := h
    cases h with
    | @mk op n rs al vn va rows hn ha hl hr =>
    obtain ⟨Aa, ca, rfl⟩ := ha.form
    obtain ⟨An, cn, rfl⟩ := hn.form
    have hlen := wtFL_len al
    rw [wtF] at hN
    have hnode := fnode_spec (by omega) (by omega) h0
    try simp only at hnode
    by_cases c0 : ownF op n rs al.length = 0
    case neg =>
      have e : insF kind (.mk op n rs al) = ownF op n rs al.length := by rw [insF, if_pos c0]
      rw [e]
      refine Spec.enter Tryz.func113 rfl Tryz.ntmps113 rfl ?_
      intro w0 hw0
      refine T.seq <| T.region <| SL.w (op_box rfl) ?_
      rintro _ _ _ ⟨B2, rfl, rfl, rfl⟩
      refine SL.v (op_assign (v := .int .i64 ((0 : Nat) : Int)) rfl) <| SL.nil <| T.seq <| T.seq <| T.region <| SL.v (op_load ty36 rfl (by repeat constructor) rfl) ?_
      refine SL.w (op_callF en158 (vs := [_]) rfl (hnode)) ?_
      rintro _ _ X1 ⟨rfl, hX1, rfl⟩
      refine SL.as rfl <| SL.nil <| T.seq <| T.region <| SL.mv rfl <| SL.v (op_neqT rfl rfl (by omega)) ?_
      refine SL.nil <| T.condT rfl <| T.seq <| T.region <| SL.mv rfl <| SL.as rfl <| SL.nil <| T.ret1 rfl (ResIs.tmp rfl) ?_
      rfl
    have e0 : insF kind (.mk op n rs al) = if kinF kind op then 10 else insFL kind al := by rw [insF, if_neg (fun h => h c0)]
    refine Spec.enter Tryz.func113 rfl Tryz.ntmps113 rfl ?_
    intro w0 hw0
    refine T.seq <| T.region <| SL.w (op_box rfl) ?_
    rintro _ _ _ ⟨B2, rfl, rfl, rfl⟩
    refine SL.v (op_assign (v := .int .i64 ((0 : Nat) : Int)) rfl) <| SL.nil <| T.seq <| T.seq <| T.region <| SL.v (op_load ty36 rfl (by repeat constructor) rfl) ?_
    refine SL.w (op_callF en158 (vs := [_]) rfl (hnode)) ?_
    rintro _ _ X1 ⟨rfl, hX1, rfl⟩
    refine SL.as rfl <| SL.nil <| T.seq <| T.region <| SL.mv rfl <| SL.v (op_neqF rfl rfl (by omega)) ?_
    refine SL.nil <| T.condF rfl <| T.skip <| T.seq <| T.meet (fun _ env own X' => X1.le X' ∧ env = [(1, .int .u8 (kind : Int)), (2, .pointer (some ⟨B2, 0, none⟩)), (6, .bool (decide (op = 4 ∨ op = 5)))] ∧ own = [⟨B2, [.int .u8 (op : Int), .int .i64 n, .slice An rs.length cn, .slice Aa rows.length ca], 36, 4⟩]) ?_ ?_
    · by_cases d4 : op = 4
      · rw [decide_eq_true (.inl d4)]
        refine T.region <| SL.v (op_fieldAddr fa36_0 rfl) <| SL.v (op_load ty33 rfl (by repeat constructor) rfl) ?_
        refine SL.v (op_eqlT rfl rfl (by omega)) ?_
        refine SL.mv rfl <| SL.skip rfl rfl ?_
        refine SL.skip rfl rfl ?_
        refine SL.skip rfl rfl ?_
        refine SL.v (op_pickT rfl rfl) <| SL.as rfl <| SL.nil ?_
        exact T.backW 0 (by omega) ⟨PMap.le_refl _, rfl, rfl⟩ (by repeat (first | exact Sub.nil | refine Sub.cons rfl ?_))
      · by_cases d5 : op = 5
        · rw [decide_eq_true (.inr d5)]
          refine T.region <| SL.v (op_fieldAddr fa36_0 rfl) <| SL.v (op_load ty33 rfl (by repeat constructor) rfl) ?_
          refine SL.v (op_eqlF rfl rfl (by omega)) ?_
          refine SL.mv rfl <| SL.v (op_fieldAddr fa36_0 rfl) <| SL.v (op_load ty33 rfl (by repeat constructor) rfl) ?_
          refine SL.v (op_eqlT rfl rfl (by omega)) ?_
          refine SL.v (op_pickF rfl rfl) <| SL.as rfl <| SL.nil ?_
          exact T.backW 0 (by omega) ⟨PMap.le_refl _, rfl, rfl⟩ (by repeat (first | exact Sub.nil | refine Sub.cons rfl ?_))
        · rw [decide_eq_false (fun h => h.elim d4 d5)]
          refine T.region <| SL.v (op_fieldAddr fa36_0 rfl) <| SL.v (op_load ty33 rfl (by repeat constructor) rfl) ?_
          refine SL.v (op_eqlF rfl rfl (by omega)) ?_
          refine SL.mv rfl <| SL.v (op_fieldAddr fa36_0 rfl) <| SL.v (op_load ty33 rfl (by repeat constructor) rfl) ?_
          refine SL.v (op_eqlF rfl rfl (by omega)) ?_
          refine SL.v (op_pickF rfl rfl) <| SL.as rfl <| SL.nil ?_
          exact T.backW 0 (by omega) ⟨PMap.le_refl _, rfl, rfl⟩ (by repeat (first | exact Sub.nil | refine Sub.cons rfl ?_))
    rintro _ _ _ X2 ⟨hX2, rfl, rfl⟩
    by_cases hkin : kinF kind op
    · rw [if_pos hkin] at e0
      rw [e0]
      by_cases k3 : kind = 3
      · have d : op = 4 ∨ op = 5 := by
          rcases hkin with h | h
          · exact h.2
          · exact absurd k3 h.2.1
        rw [decide_eq_true d]
        refine T.seq <| T.seq <| T.region <| SL.mv rfl <| SL.v (op_eqlT rfl rfl (by omega)) ?_
        refine SL.mv rfl <| SL.mv rfl <| SL.v (op_pickT rfl rfl) <| SL.mv rfl <| SL.skip rfl rfl ?_
        refine SL.skip rfl rfl ?_
        refine SL.skip rfl rfl ?_
        refine SL.skip rfl rfl ?_
        refine SL.skip rfl rfl ?_
        refine SL.skip rfl rfl ?_
        refine SL.skip rfl rfl ?_
        refine SL.skip rfl rfl ?_
        refine SL.skip rfl rfl ?_
        refine SL.skip rfl rfl ?_
        refine SL.skip rfl rfl ?_
        refine SL.v (op_pickT rfl rfl) <| SL.nil <| T.condT rfl <| T.seq <| T.region <| SL.v (op_assign (v := .int .i64 ((10 : Nat) : Int)) rfl) <| SL.nil <| T.ret1 rfl (ResIs.tmp rfl) ?_
        rfl
      · have d : kind ≠ 0 ∧ op = 6 := by
          rcases hkin with h | h
          · exact absurd h.1 k3
          · exact ⟨h.1, h.2.2⟩
        have d6 := d.2
        have d0 := d.1
        refine T.seq <| T.seq <| T.region <| SL.mv rfl <| SL.v (op_eqlF rfl rfl (by omega)) ?_
        refine SL.mv rfl <| SL.skip rfl rfl ?_
        refine SL.v (op_pickF rfl rfl) <| SL.mv rfl <| SL.mv rfl <| SL.v (op_neqT rfl rfl (by omega)) ?_
        refine SL.mv rfl <| SL.mv rfl <| SL.v (op_neqT rfl rfl (by omega)) ?_
        refine SL.v (op_pickT rfl rfl) <| SL.mv rfl <| SL.v (op_fieldAddr fa36_0 rfl) <| SL.v (op_load ty33 rfl (by repeat constructor) rfl) ?_
        refine SL.v (op_eqlT rfl rfl (by omega)) ?_
        refine SL.v (op_pickT rfl rfl) <| SL.v (op_pickF rfl rfl) <| SL.nil <| T.condT rfl <| T.seq <| T.region <| SL.v (op_assign (v := .int .i64 ((10 : Nat) : Int)) rfl) <| SL.nil <| T.ret1 rfl (ResIs.tmp rfl) ?_
        rfl
    rw [if_neg hkin] at e0
    rw [e0]
    refine T.seq <| T.meet (fun _ env own X' => X2.le X' ∧ env = [(1, .int .u8 (kind : Int)), (2, .pointer (some ⟨B2, 0, none⟩))] ∧ own = [⟨B2, [.int .u8 (op : Int), .int .i64 n, .slice An rs.length cn, .slice Aa rows.length ca], 36, 4⟩]) ?_ ?_
    · by_cases k3 : kind = 3
      · rw [decide_eq_false (fun h => hkin (.inl ⟨k3, h⟩))]
        refine T.seq <| T.region <| SL.mv rfl <| SL.v (op_eqlT rfl rfl (by omega)) ?_
        refine SL.mv rfl <| SL.mv rfl <| SL.v (op_pickT rfl rfl) <| SL.mv rfl <| SL.mv rfl <| SL.v (op_neqT rfl rfl (by omega)) ?_
        refine SL.mv rfl <| SL.mv rfl <| SL.v (op_neqF rfl rfl (by omega)) ?_
        refine SL.v (op_pickT rfl rfl) <| SL.mv rfl <| SL.skip rfl rfl ?_
        refine SL.skip rfl rfl ?_
        refine SL.skip rfl rfl ?_
        refine SL.v (op_pickF rfl rfl) <| SL.v (op_pickF rfl rfl) <| SL.nil <| T.condF rfl <| T.skip ?_
        exact T.backW 0 (by omega) ⟨PMap.le_refl _, rfl, rfl⟩ (by repeat (first | exact Sub.nil | refine Sub.cons rfl ?_))
      · by_cases k0 : kind = 0
        · skip
          refine T.seq <| T.region <| SL.mv rfl <| SL.v (op_eqlF rfl rfl (by omega)) ?_
          refine SL.mv rfl <| SL.skip rfl rfl ?_
          refine SL.v (op_pickF rfl rfl) <| SL.mv rfl <| SL.mv rfl <| SL.v (op_neqF rfl rfl (by omega)) ?_
          refine SL.mv rfl <| SL.skip rfl rfl ?_
          refine SL.skip rfl rfl ?_
          refine SL.v (op_pickF rfl rfl) <| SL.mv rfl <| SL.skip rfl rfl ?_
          refine SL.skip rfl rfl ?_
          refine SL.skip rfl rfl ?_
          refine SL.v (op_pickF rfl rfl) <| SL.v (op_pickF rfl rfl) <| SL.nil <| T.condF rfl <| T.skip ?_
          exact T.backW 0 (by omega) ⟨PMap.le_refl _, rfl, rfl⟩ (by repeat (first | exact Sub.nil | refine Sub.cons rfl ?_))
        · have d6 : op ≠ 6 := fun h => hkin (.inr ⟨k0, k3, h⟩)
          refine T.seq <| T.region <| SL.mv rfl <| SL.v (op_eqlF rfl rfl (by omega)) ?_
          refine SL.mv rfl <| SL.skip rfl rfl ?_
          refine SL.v (op_pickF rfl rfl) <| SL.mv rfl <| SL.mv rfl <| SL.v (op_neqT rfl rfl (by omega)) ?_
          refine SL.mv rfl <| SL.mv rfl <| SL.v (op_neqT rfl rfl (by omega)) ?_
          refine SL.v (op_pickT rfl rfl) <| SL.mv rfl <| SL.v (op_fieldAddr fa36_0 rfl) <| SL.v (op_load ty33 rfl (by repeat constructor) rfl) ?_
          refine SL.v (op_eqlF rfl rfl (by omega)) ?_
          refine SL.v (op_pickT rfl rfl) <| SL.v (op_pickF rfl rfl) <| SL.nil <| T.condF rfl <| T.skip ?_
          exact T.backW 0 (by omega) ⟨PMap.le_refl _, rfl, rfl⟩ (by repeat (first | exact Sub.nil | refine Sub.cons rfl ?_))
    rintro _ _ _ X3 ⟨hX3, rfl, rfl⟩
    refine T.seq <| T.seq <| T.region <| SL.v (op_fieldAddr fa36_3 rfl) <| SL.v (op_load ty34 rfl (by repeat constructor) rfl) ?_
    refine SL.v (op_lenS Tryz.underlying34 rfl) <| SL.v (op_move (v := .int .i64 ((0 : Nat) : Int)) rfl) <| SL.nil <| T.block <| T.drop B2 (by repeat constructor) ?_
    refine T.loopW (fun m env own X' => ∃ i : Nat, m = rows.length - i ∧ i ≤ rows.length ∧ X3.le X' ∧ insFL kind (al.take i) = 0 ∧ env = [(1, .int .u8 (kind : Int)), (42, .slice Aa rows.length ca), (43, .int .i64 (rows.length : Int)), (44, .int .i64 (i : Int))] ∧ own = []) rows.length ⟨0, by simp, by omega, PMap.le_refl _, rfl, rfl, rfl⟩ (by repeat (first | exact Sub.nil | refine Sub.cons rfl ?_)) ?_
    rintro m _ _ X4 ⟨i, rfl, hi, hX4, hz, rfl, rfl⟩
    rcases Nat.lt_or_ge i rows.length with hil | hil
    · obtain ⟨r2, hr2⟩ : ∃ r2, rows[i]? = some r2 := ⟨_, List.getElem?_eq_getElem hil⟩
      obtain ⟨a, ha2⟩ : ∃ a, al[i]? = some a := ⟨_, List.getElem?_eq_getElem (by omega)⟩
      have hX04 := ((hX1.trans' hX2).trans' hX3).trans' hX4
      have hra := (hr i a r2 ha2 hr2).mono hX04
      obtain ⟨bA, pre, rfl, hbA⟩ := ha.blk (by omega)
      have hwa := wtFL_mem (List.mem_of_getElem? ha2)
      have hts := take_snoc ha2
      have hih := ih (by omega) (by omega) hk hra
      obtain ⟨_, _, _, _, _, _, _, _, rfl⟩ := hra.form
      try simp only at hih
      have hsn : insFL kind (al.take (i + 1)) = insF kind a := by
        rw [hts, insFL_app, if_neg (fun h => h hz), insFL, insFL]
        split
        · rfl
        · rename_i h; exact (Classical.not_not.1 h).symm
      by_cases hca : insF kind a = 0
      · skip
        refine T.seq <| T.region <| SL.v (op_lssT rfl rfl (by omega)) ?_
        refine SL.nil <| T.seq <| T.condT rfl <| T.skip <| T.seq <| T.block <| T.seq <| T.region <| SL.v (op_indexN Tryz.underlying34 ty36 rfl rfl (by omega)) ?_
        refine SL.v (op_loadX ty36 rfl (hbA.mono hX04) (row_read rc4_len hr2 (by omega))) ?_
        refine SL.w (op_alloc z36) ?_
        rintro _ _ _ ⟨B8, rfl, rfl, rfl⟩
        refine SL.w (op_store ty36 rfl rfl (by repeat constructor) rfl rfl rfl) ?_
        rintro _ _ _ ⟨rfl, rfl⟩
        refine SL.nil <| T.seq <| T.region <| SL.v (op_load ty36 rfl (by repeat constructor) rfl) ?_
        refine SL.mv rfl <| SL.w (op_callF en113 (vs := [_, _]) rfl (hih)) ?_
        rintro _ _ X5 ⟨rfl, hX5, rfl⟩
        rw [hca]
        refine SL.as rfl <| SL.nil <| T.seq <| T.region <| SL.mv rfl <| SL.v (op_neqF rfl rfl (by omega)) ?_
        refine SL.nil <| T.condF rfl <| T.skip <| T.blk <| T.region <| SL.v (op_addN (q := 1) rfl rfl (by omega)) ?_
        refine SL.mv rfl <| SL.nil <| T.drop B8 (by repeat constructor) ?_
        exact T.backW (rows.length - (i + 1)) (by omega) ⟨i + 1, rfl, by omega, hX4.trans' hX5, by rw [hsn, hca], rfl, rfl⟩ (by repeat (first | exact Sub.nil | refine Sub.cons rfl ?_))
      · have e : insFL kind al = insF kind a := by
          have := insFL_app kind (al.drop (i + 1)) (al.take (i + 1))
          rw [List.take_append_drop, hsn, if_pos hca] at this
          exact this
        rw [e]
        refine T.seq <| T.region <| SL.v (op_lssT rfl rfl (by omega)) ?_
        refine SL.nil <| T.seq <| T.condT rfl <| T.skip <| T.seq <| T.block <| T.seq <| T.region <| SL.v (op_indexN Tryz.underlying34 ty36 rfl rfl (by omega)) ?_
        refine SL.v (op_loadX ty36 rfl (hbA.mono hX04) (row_read rc4_len hr2 (by omega))) ?_
        refine SL.w (op_alloc z36) ?_
        rintro _ _ _ ⟨B8, rfl, rfl, rfl⟩
        refine SL.w (op_store ty36 rfl rfl (by repeat constructor) rfl rfl rfl) ?_
        rintro _ _ _ ⟨rfl, rfl⟩
        refine SL.nil <| T.seq <| T.region <| SL.v (op_load ty36 rfl (by repeat constructor) rfl) ?_
        refine SL.mv rfl <| SL.w (op_callF en113 (vs := [_, _]) rfl (hih)) ?_
        rintro _ _ X5 ⟨rfl, hX5, rfl⟩
        refine SL.as rfl <| SL.nil <| T.seq <| T.region <| SL.mv rfl <| SL.v (op_neqT rfl rfl (by omega)) ?_
        refine SL.nil <| T.condT rfl <| T.seq <| T.region <| SL.mv rfl <| SL.as rfl <| SL.nil <| T.ret1 rfl (ResIs.tmp rfl) ?_
        rfl
    · obtain rfl : i = rows.length := by omega
      rw [List.take_of_length_le (by omega)] at hz
      rw [hz]
      refine T.seq <| T.region <| SL.v (op_lssF rfl rfl (by omega)) ?_
      refine SL.nil <| T.seq <| T.condF rfl ?_
      refine T.exit (T.exitCode (T.exitCut (T.exitBlk ?_)))
      refine T.seq <| T.region <| SL.v (op_assign (v := .int .i64 ((0 : Nat) : Int)) rfl) <| SL.nil <| T.ret1 rfl (ResIs.tmp rfl) ?_
      rfl
theorem ffits_spec (N : Nat) : ∀ {X : PMap} {f : Fm} {r : Row4}, wtF f ≤ N → N < 1000000 → FmR .u8 X f r → Spec Tryz.prog 60 [.agg #[r.1, r.2.1, r.2.2.1, r.2.2.2]] X fun u _ => u = .bool (fitF f) := by
  induction N with
  | zero => intro X f r h; have := wtF_pos f; omega
  | succ N ih =>
    intro X f r hN hB h
    cases h with
    | @mk op n rs al vn va rows hn ha hl hr =>
    obtain ⟨Aa, ca, rfl⟩ := ha.form
    obtain ⟨An, cn, rfl⟩ := hn.form
    have hlen := wtFL_len al
    rw [wtF] at hN
    rw [fitF]
    refine Spec.enter Tryz.func60 rfl Tryz.ntmps60 rfl ?_
    intro w0 hw0
    refine T.seq <| T.region <| SL.w (op_box rfl) ?_
    rintro _ _ _ ⟨B1, rfl, rfl, rfl⟩
    refine SL.as rfl <| SL.nil <| T.seq <| T.region <| SL.v (op_assign (v := .int .u8 ((1 : Nat) : Int)) rfl) <| SL.nil <| T.seq <| T.meet (fun _ env own X' => X.le X' ∧ env = [(1, .pointer (some ⟨B1, 0, none⟩)), (3, .int .u8 (wanT op : Int))] ∧ own = [⟨B1, [.int .u8 (op : Int), .int .i64 n, .slice An rs.length cn, .slice Aa rows.length ca], 36, 4⟩]) ?_ ?_
    · by_cases d : 11 ≤ op
      · rw [show wanT op = 2 from if_pos d]
        refine T.seq <| T.region <| SL.v (op_fieldAddr fa36_0 rfl) <| SL.v (op_load ty33 rfl (by repeat constructor) rfl) ?_
        refine SL.v (op_geqT rfl rfl (by omega)) ?_
        refine SL.nil <| T.condT rfl <| T.region <| SL.v (op_assign (v := .int .u8 ((2 : Nat) : Int)) rfl) <| SL.nil ?_
        exact T.backW 0 (by omega) ⟨PMap.le_refl _, rfl, rfl⟩ (by repeat (first | exact Sub.nil | refine Sub.cons rfl ?_))
      · rw [show wanT op = 1 from if_neg d]
        refine T.seq <| T.region <| SL.v (op_fieldAddr fa36_0 rfl) <| SL.v (op_load ty33 rfl (by repeat constructor) rfl) ?_
        refine SL.v (op_geqF rfl rfl (by omega)) ?_
        refine SL.nil <| T.condF rfl <| T.skip ?_
        exact T.backW 0 (by omega) ⟨PMap.le_refl _, rfl, rfl⟩ (by repeat (first | exact Sub.nil | refine Sub.cons rfl ?_))
    rintro _ _ _ X3 ⟨hX3, rfl, rfl⟩
    have hw2 : wanT op ≤ 2 := by unfold wanT; split <;> omega
    refine T.seq <| T.seq <| T.region <| SL.v (op_fieldAddr fa36_3 rfl) <| SL.v (op_load ty34 rfl (by repeat constructor) rfl) ?_
    refine SL.v (op_lenS Tryz.underlying34 rfl) <| SL.v (op_move (v := .int .i64 ((0 : Nat) : Int)) rfl) <| SL.nil <| T.block <| T.drop B1 (by repeat constructor) ?_
    refine T.loopW (fun m env own X' => ∃ i : Nat, m = rows.length - i ∧ i ≤ rows.length ∧ X3.le X' ∧ fitFL (wanT op) (al.take i) = true ∧ env = [(3, .int .u8 (wanT op : Int)), (10, .slice Aa rows.length ca), (11, .int .i64 (rows.length : Int)), (12, .int .i64 (i : Int))] ∧ own = []) rows.length ⟨0, by simp, by omega, PMap.le_refl _, rfl, rfl, rfl⟩ (by repeat (first | exact Sub.nil | refine Sub.cons rfl ?_)) ?_
    rintro m _ _ X4 ⟨i, rfl, hi, hX4, hz, rfl, rfl⟩
    rcases Nat.lt_or_ge i rows.length with hil | hil
    · obtain ⟨r2, hr2⟩ : ∃ r2, rows[i]? = some r2 := ⟨_, List.getElem?_eq_getElem hil⟩
      obtain ⟨a, ha2⟩ : ∃ a, al[i]? = some a := ⟨_, List.getElem?_eq_getElem (by omega)⟩
      have hX04 := hX3.trans' hX4
      have hra := (hr i a r2 ha2 hr2).mono hX04
      obtain ⟨bA, pre, rfl, hbA⟩ := ha.blk (by omega)
      have hwa := wtFL_mem (List.mem_of_getElem? ha2)
      have hts := take_snoc ha2
      have hop := hra.op
      have hih := fun {X' : PMap} (hX : X4.le X') => ih (by omega) (by omega) (hra.mono hX)
      obtain ⟨o2, _, _, _, _, _, _, _, rfl⟩ := hra.form
      simp only [Value.int.injEq, true_and] at hop
      obtain rfl : o2 = a.op := by exact_mod_cast hop
      try simp only at hih
      have hsn : fitFL (wanT op) (al.take (i + 1)) = (decide (resT a.op = wanT op) && fitF a) := by
        rw [hts, fitFL_app, hz, fitFL, fitFL, Bool.and_true, Bool.true_and]
      have hfull : fitFL (wanT op) al = (fitFL (wanT op) (al.take (i + 1)) && fitFL (wanT op) (al.drop (i + 1))) := by
        rw [← fitFL_app, List.take_append_drop]
      have hr2' : resT a.op ≤ 2 := by unfold resT; split <;> omega
      by_cases hw : resT a.op = wanT op
      · cases hfa : fitF a with
        | true =>
          refine T.seq <| T.region <| SL.v (op_lssT rfl rfl (by omega)) ?_
          refine SL.nil <| T.seq <| T.condT rfl <| T.skip <| T.seq <| T.block <| T.seq <| T.region <| SL.v (op_indexN Tryz.underlying34 ty36 rfl rfl (by omega)) ?_
          refine SL.v (op_loadX ty36 rfl (hbA.mono hX04) (row_read rc4_len hr2 (by omega))) ?_
          refine SL.w (op_alloc z36) ?_
          rintro _ _ _ ⟨B5, rfl, rfl, rfl⟩
          refine SL.w (op_store ty36 rfl rfl (by repeat constructor) rfl rfl rfl) ?_
          rintro _ _ _ ⟨rfl, rfl⟩
          refine SL.nil <| T.seq <| T.region <| SL.v (op_fieldAddr fa36_0 rfl) <| SL.v (op_load ty33 rfl (by repeat constructor) rfl) ?_
          refine SL.w (op_callF en61 (vs := [_]) rfl (result_spec)) ?_
          rintro _ _ X5 ⟨rfl, hX5, rfl⟩
          refine SL.mv rfl <| SL.v (op_neqF rfl rfl (by omega)) ?_
          refine SL.mv rfl <| SL.v (op_load ty36 rfl (by repeat constructor) rfl) ?_
          refine SL.w (op_callF en60 (vs := [_]) rfl (hih hX5)) ?_
          rintro _ _ X6 ⟨rfl, hX6, rfl⟩
          rw [hfa]
          refine SL.v (op_not rfl) <| SL.v (op_pickF rfl rfl) <| SL.nil <| T.condF rfl <| T.skip <| T.blk <| T.region <| SL.v (op_addN (q := 1) rfl rfl (by omega)) ?_
          refine SL.mv rfl <| SL.nil <| T.drop B5 (by repeat constructor) ?_
          exact T.backW (rows.length - (i + 1)) (by omega) ⟨i + 1, rfl, by omega, (hX4.trans' hX5).trans' hX6, by rw [hsn, decide_eq_true hw, hfa]; rfl, rfl, rfl⟩ (by repeat (first | exact Sub.nil | refine Sub.cons rfl ?_))
        | false =>
          rw [hfull, hsn, hfa]
          refine T.seq <| T.region <| SL.v (op_lssT rfl rfl (by omega)) ?_
          refine SL.nil <| T.seq <| T.condT rfl <| T.skip <| T.seq <| T.block <| T.seq <| T.region <| SL.v (op_indexN Tryz.underlying34 ty36 rfl rfl (by omega)) ?_
          refine SL.v (op_loadX ty36 rfl (hbA.mono hX04) (row_read rc4_len hr2 (by omega))) ?_
          refine SL.w (op_alloc z36) ?_
          rintro _ _ _ ⟨B5, rfl, rfl, rfl⟩
          refine SL.w (op_store ty36 rfl rfl (by repeat constructor) rfl rfl rfl) ?_
          rintro _ _ _ ⟨rfl, rfl⟩
          refine SL.nil <| T.seq <| T.region <| SL.v (op_fieldAddr fa36_0 rfl) <| SL.v (op_load ty33 rfl (by repeat constructor) rfl) ?_
          refine SL.w (op_callF en61 (vs := [_]) rfl (result_spec)) ?_
          rintro _ _ X5 ⟨rfl, hX5, rfl⟩
          refine SL.mv rfl <| SL.v (op_neqF rfl rfl (by omega)) ?_
          refine SL.mv rfl <| SL.v (op_load ty36 rfl (by repeat constructor) rfl) ?_
          refine SL.w (op_callF en60 (vs := [_]) rfl (hih hX5)) ?_
          rintro _ _ X6 ⟨rfl, hX6, rfl⟩
          rw [hfa]
          refine SL.v (op_not rfl) <| SL.v (op_pickF rfl rfl) <| SL.nil <| T.condT rfl <| T.seq <| T.region <| SL.as rfl <| SL.nil <| T.ret1 rfl (ResIs.tmp rfl) ?_
          simp
      · rw [hfull, hsn, decide_eq_false hw]
        refine T.seq <| T.region <| SL.v (op_lssT rfl rfl (by omega)) ?_
        refine SL.nil <| T.seq <| T.condT rfl <| T.skip <| T.seq <| T.block <| T.seq <| T.region <| SL.v (op_indexN Tryz.underlying34 ty36 rfl rfl (by omega)) ?_
        refine SL.v (op_loadX ty36 rfl (hbA.mono hX04) (row_read rc4_len hr2 (by omega))) ?_
        refine SL.w (op_alloc z36) ?_
        rintro _ _ _ ⟨B5, rfl, rfl, rfl⟩
        refine SL.w (op_store ty36 rfl rfl (by repeat constructor) rfl rfl rfl) ?_
        rintro _ _ _ ⟨rfl, rfl⟩
        refine SL.nil <| T.seq <| T.region <| SL.v (op_fieldAddr fa36_0 rfl) <| SL.v (op_load ty33 rfl (by repeat constructor) rfl) ?_
        refine SL.w (op_callF en61 (vs := [_]) rfl (result_spec)) ?_
        rintro _ _ X5 ⟨rfl, hX5, rfl⟩
        refine SL.mv rfl <| SL.v (op_neqT rfl rfl (by omega)) ?_
        refine SL.mv rfl <| SL.skip rfl rfl ?_
        refine SL.skip rfl rfl ?_
        refine SL.skip rfl rfl ?_
        refine SL.v (op_pickT rfl rfl) <| SL.nil <| T.condT rfl <| T.seq <| T.region <| SL.as rfl <| SL.nil <| T.ret1 rfl (ResIs.tmp rfl) ?_
        simp
    · obtain rfl : i = rows.length := by omega
      rw [List.take_of_length_le (by omega)] at hz
      rw [hz]
      refine T.seq <| T.region <| SL.v (op_lssF rfl rfl (by omega)) ?_
      refine SL.nil <| T.seq <| T.condF rfl ?_
      refine T.exit (T.exitCode (T.exitCut (T.exitBlk ?_)))
      refine T.seq <| T.region <| SL.as rfl <| SL.nil <| T.ret1 rfl (ResIs.tmp rfl) ?_
      rfl
end Go.Proofs.YtnpcilglilfajaaGreatDoor
namespace Go.Proofs.YtnpcilglilfajaaGreatDoor
section
set_option maxRecDepth 100000
theorem en21 : Enters Tryz.prog 21 := enters_mk Tryz.func21 (by kernel_rfl) rfl
theorem en59 : Enters Tryz.prog 59 := enters_mk Tryz.func59 (by kernel_rfl) rfl
theorem en69 : Enters Tryz.prog 69 := enters_mk Tryz.func69 (by kernel_rfl) rfl
end
open Go.RowKit
mutual
/-- All roles are small. -/
def rolF : Fm → Prop
  | .mk _ _ rs al => (∀ r ∈ rs, r < 64) ∧ rolFL al
def rolFL : List Fm → Prop
  | [] => True
  | a :: al => rolF a ∧ rolFL al
end
theorem rolFL_mem {a : Fm} : ∀ {l : List Fm}, rolFL l → a ∈ l → rolF a
  | b :: l, h, ha => by
    rw [rolFL] at h
    rcases List.mem_cons.1 ha with rfl | ha
    · exact h.1
    · exact rolFL_mem h.2 ha
mutual
theorem insF_rol {kind : Nat} : ∀ f : Fm, insF kind f = 0 → rolF f
  | .mk op n rs al, h => by
    obtain ⟨h1, _, h3⟩ := insF_ok h
    obtain ⟨_, _, _, _, _, _, _, _, h9, _⟩ := ownF_ok h1
    rw [rolF]
    exact ⟨fun r hr => by have := h9 r hr; omega, insFL_rol al h3⟩
theorem insFL_rol {kind : Nat} : ∀ l : List Fm, insFL kind l = 0 → rolFL l
  | [], _ => by rw [rolFL]; trivial
  | a :: l, h => by
    have h1 : insF kind a = 0 := insFL_zero h a (by simp)
    rw [insFL, if_neg (fun h => h h1)] at h
    rw [rolFL]
    exact ⟨insF_rol a h1, insFL_rol l h⟩
end
theorem flook_spec {X : PMap} {f : Fm} {r : Row4} {kind : Nat} (hw : wtF f < 1000000) (hk : kind < 256) (h : FmR .u8 X f r) : Spec Tryz.prog 59 [.agg #[r.1, r.2.1, r.2.2.1, r.2.2.2], .int .u8 (kind : Int)] X fun u _ => u = .int .i64 (lookF kind f) := by
  have hc1 := fmeas_spec (X := X) (wtF f) (Nat.le_refl _) (by omega) h
  have hc2 := fun {X' : PMap} (hX : X.le X') => finside_spec (wtF f) (Nat.le_refl _) (by omega) hk (h.mono hX)
  obtain ⟨o, n, A, B, l, c, l', c', rfl⟩ := h.form
  try simp only at hc1
  try simp only at hc2
  rw [lookF]
  by_cases d : 10 < depF f
  · rw [if_pos (.inl d)]
    refine Spec.enter Tryz.func59 rfl Tryz.ntmps59 rfl ?_
    intro w0 hw0
    refine T.seq <| T.region <| SL.w (op_box rfl) ?_
    rintro _ _ _ ⟨B2, rfl, rfl, rfl⟩
    refine SL.v (op_assign (v := .int .i64 ((0 : Nat) : Int)) rfl) <| SL.nil <| T.seq <| T.region <| SL.v (op_load ty36 rfl (by repeat constructor) rfl) ?_
    refine SL.w (op_callF en112 (vs := [_]) rfl (hc1)) ?_
    rintro _ _ X1 ⟨rfl, hX1, rfl⟩
    refine SL.mv rfl <| SL.v (op_extract rfl rfl) <| SL.v (op_extract rfl rfl) <| SL.as rfl <| SL.as rfl <| SL.nil <| T.seq <| T.seq <| T.region <| SL.mv rfl <| SL.v (op_gtrT rfl rfl (by omega)) ?_
    refine SL.mv rfl <| SL.skip rfl rfl ?_
    refine SL.skip rfl rfl ?_
    refine SL.v (op_pickT rfl rfl) <| SL.nil <| T.condT rfl <| T.seq <| T.region <| SL.v (op_assign (v := .int .i64 ((3 : Nat) : Int)) rfl) <| SL.nil <| T.ret1 rfl (ResIs.tmp rfl) ?_
    rfl
  by_cases d2 : 200 < sizF f
  · rw [if_pos (.inr d2)]
    refine Spec.enter Tryz.func59 rfl Tryz.ntmps59 rfl ?_
    intro w0 hw0
    refine T.seq <| T.region <| SL.w (op_box rfl) ?_
    rintro _ _ _ ⟨B2, rfl, rfl, rfl⟩
    refine SL.v (op_assign (v := .int .i64 ((0 : Nat) : Int)) rfl) <| SL.nil <| T.seq <| T.region <| SL.v (op_load ty36 rfl (by repeat constructor) rfl) ?_
    refine SL.w (op_callF en112 (vs := [_]) rfl (hc1)) ?_
    rintro _ _ X1 ⟨rfl, hX1, rfl⟩
    refine SL.mv rfl <| SL.v (op_extract rfl rfl) <| SL.v (op_extract rfl rfl) <| SL.as rfl <| SL.as rfl <| SL.nil <| T.seq <| T.seq <| T.region <| SL.mv rfl <| SL.v (op_gtrF rfl rfl (by omega)) ?_
    refine SL.mv rfl <| SL.mv rfl <| SL.v (op_gtrT rfl rfl (by omega)) ?_
    refine SL.v (op_pickF rfl rfl) <| SL.nil <| T.condT rfl <| T.seq <| T.region <| SL.v (op_assign (v := .int .i64 ((3 : Nat) : Int)) rfl) <| SL.nil <| T.ret1 rfl (ResIs.tmp rfl) ?_
    rfl
  rw [if_neg (fun h => h.elim d d2)]
  refine Spec.enter Tryz.func59 rfl Tryz.ntmps59 rfl ?_
  intro w0 hw0
  refine T.seq <| T.region <| SL.w (op_box rfl) ?_
  rintro _ _ _ ⟨B2, rfl, rfl, rfl⟩
  refine SL.v (op_assign (v := .int .i64 ((0 : Nat) : Int)) rfl) <| SL.nil <| T.seq <| T.region <| SL.v (op_load ty36 rfl (by repeat constructor) rfl) ?_
  refine SL.w (op_callF en112 (vs := [_]) rfl (hc1)) ?_
  rintro _ _ X1 ⟨rfl, hX1, rfl⟩
  refine SL.mv rfl <| SL.v (op_extract rfl rfl) <| SL.v (op_extract rfl rfl) <| SL.as rfl <| SL.as rfl <| SL.nil <| T.seq <| T.seq <| T.region <| SL.mv rfl <| SL.v (op_gtrF rfl rfl (by omega)) ?_
  refine SL.mv rfl <| SL.mv rfl <| SL.v (op_gtrF rfl rfl (by omega)) ?_
  refine SL.v (op_pickF rfl rfl) <| SL.nil <| T.condF rfl <| T.skip <| T.seq <| T.region <| SL.v (op_load ty36 rfl (by repeat constructor) rfl) ?_
  refine SL.mv rfl <| SL.w (op_callF en113 (vs := [_, _]) rfl (hc2 hX1)) ?_
  rintro _ _ X2 ⟨rfl, hX2, rfl⟩
  refine SL.as rfl <| SL.nil <| T.ret1 rfl (ResIs.tmp rfl) ?_
  rfl
theorem ftyp_spec {X : PMap} {f : Fm} {r : Row4} (hw : wtF f < 1000000) (h : FmR .u8 X f r) : Spec Tryz.prog 15 [.agg #[r.1, r.2.1, r.2.2.1, r.2.2.2]] X fun u _ => u = .tuple #[.int .u8 ((typF f).1 : Int), .int .i64 (typF f).2] := by
  have hc1 := fun {X' : PMap} (hX : X.le X') => flook_spec (kind := 0) hw (by omega) (h.mono hX)
  have hc2 := fun {X' : PMap} (hX : X.le X') => ffits_spec (wtF f) (Nat.le_refl _) (by omega) (h.mono hX)
  have hop := h.op
  obtain ⟨o, n, A, B, l, c, l', c', rfl⟩ := h.form
  simp only [Value.int.injEq, true_and] at hop
  obtain rfl : o = f.op := by exact_mod_cast hop
  try simp only at hc1
  try simp only at hc2
  rw [typF]
  by_cases d : lookF 0 f = 0
  case neg =>
    rw [if_pos d]
    refine Spec.enter Tryz.func15 rfl Tryz.ntmps15 rfl ?_
    intro w0 hw0
    refine T.seq <| T.region <| SL.w (op_box rfl) ?_
    rintro _ _ _ ⟨B1, rfl, rfl, rfl⟩
    refine SL.v (op_assign (v := .int .u8 ((0 : Nat) : Int)) rfl) <| SL.v (op_assign (v := .int .i64 ((0 : Nat) : Int)) rfl) <| SL.nil <| T.seq <| T.seq <| T.region <| SL.v (op_load ty36 rfl (by repeat constructor) rfl) ?_
    refine SL.w (op_callF en59 (vs := [_, _]) rfl (hc1 (PMap.le_refl _))) ?_
    rintro _ _ X1 ⟨rfl, hX1, rfl⟩
    refine SL.as rfl <| SL.nil <| T.seq <| T.region <| SL.mv rfl <| SL.v (op_neqT rfl rfl (by omega)) ?_
    refine SL.nil <| T.condT rfl <| T.seq <| T.region <| SL.mv rfl <| SL.v (op_assign (v := .int .u8 ((0 : Nat) : Int)) rfl) <| SL.as rfl <| SL.nil <| T.ret2 rfl (ResIs.tmp rfl) (ResIs.tmp rfl) ?_
    rfl
  rw [if_neg (fun h => h d)]
  cases hf : fitF f with
  | false =>
    rw [if_pos rfl]
    refine Spec.enter Tryz.func15 rfl Tryz.ntmps15 rfl ?_
    intro w0 hw0
    refine T.seq <| T.region <| SL.w (op_box rfl) ?_
    rintro _ _ _ ⟨B1, rfl, rfl, rfl⟩
    refine SL.v (op_assign (v := .int .u8 ((0 : Nat) : Int)) rfl) <| SL.v (op_assign (v := .int .i64 ((0 : Nat) : Int)) rfl) <| SL.nil <| T.seq <| T.seq <| T.region <| SL.v (op_load ty36 rfl (by repeat constructor) rfl) ?_
    refine SL.w (op_callF en59 (vs := [_, _]) rfl (hc1 (PMap.le_refl _))) ?_
    rintro _ _ X1 ⟨rfl, hX1, rfl⟩
    rw [d]
    refine SL.as rfl <| SL.nil <| T.seq <| T.region <| SL.mv rfl <| SL.v (op_neqF rfl rfl (by omega)) ?_
    refine SL.nil <| T.condF rfl <| T.skip <| T.seq <| T.seq <| T.region <| SL.v (op_load ty36 rfl (by repeat constructor) rfl) ?_
    refine SL.w (op_callF en60 (vs := [_]) rfl (hc2 hX1)) ?_
    rintro _ _ X2 ⟨rfl, hX2, rfl⟩
    rw [hf]
    refine SL.v (op_not rfl) <| SL.nil <| T.condT rfl <| T.seq <| T.region <| SL.v (op_assign (v := .int .u8 ((0 : Nat) : Int)) rfl) <| SL.v (op_assign (v := .int .i64 ((10 : Nat) : Int)) rfl) <| SL.nil <| T.ret2 rfl (ResIs.tmp rfl) (ResIs.tmp rfl) ?_
    rfl
  | true =>
    rw [if_neg (by simp)]
    refine Spec.enter Tryz.func15 rfl Tryz.ntmps15 rfl ?_
    intro w0 hw0
    refine T.seq <| T.region <| SL.w (op_box rfl) ?_
    rintro _ _ _ ⟨B1, rfl, rfl, rfl⟩
    refine SL.v (op_assign (v := .int .u8 ((0 : Nat) : Int)) rfl) <| SL.v (op_assign (v := .int .i64 ((0 : Nat) : Int)) rfl) <| SL.nil <| T.seq <| T.seq <| T.region <| SL.v (op_load ty36 rfl (by repeat constructor) rfl) ?_
    refine SL.w (op_callF en59 (vs := [_, _]) rfl (hc1 (PMap.le_refl _))) ?_
    rintro _ _ X1 ⟨rfl, hX1, rfl⟩
    rw [d]
    refine SL.as rfl <| SL.nil <| T.seq <| T.region <| SL.mv rfl <| SL.v (op_neqF rfl rfl (by omega)) ?_
    refine SL.nil <| T.condF rfl <| T.skip <| T.seq <| T.seq <| T.region <| SL.v (op_load ty36 rfl (by repeat constructor) rfl) ?_
    refine SL.w (op_callF en60 (vs := [_]) rfl (hc2 hX1)) ?_
    rintro _ _ X2 ⟨rfl, hX2, rfl⟩
    rw [hf]
    refine SL.v (op_not rfl) <| SL.nil <| T.condF rfl <| T.skip <| T.seq <| T.region <| SL.v (op_fieldAddr fa36_0 rfl) <| SL.v (op_load ty33 rfl (by repeat constructor) rfl) ?_
    refine SL.w (op_callF en61 (vs := [_]) rfl (result_spec)) ?_
    rintro _ _ X3 ⟨rfl, hX3, rfl⟩
    refine SL.as rfl <| SL.v (op_assign (v := .int .i64 ((0 : Nat) : Int)) rfl) <| SL.nil <| T.ret2 rfl (ResIs.tmp rfl) (ResIs.tmp rfl) ?_
    rfl
theorem fment_spec (N : Nat) : ∀ {X : PMap} {f : Fm} {r : Row4}, wtF f ≤ N → N < 1000000 → rolF f → FmR .u8 X f r → Spec Tryz.prog 21 [.agg #[r.1, r.2.1, r.2.2.1, r.2.2.2]] X fun u X' => SetR X' u (menF f) := by
  induction N with
  | zero => intro X f r h; have := wtF_pos f; omega
  | succ N ih =>
    intro X f r hN hB hrol h
    cases h with
    | @mk op n rs al vn va rows hn ha hl hr =>
    obtain ⟨Aa, ca, rfl⟩ := ha.form
    obtain ⟨An, cn, rfl⟩ := hn.form
    have hlen := wtFL_len al
    rw [wtF] at hN
    rw [rolF] at hrol
    rw [menF]
    refine Spec.enter Tryz.func21 rfl Tryz.ntmps21 rfl ?_
    intro w0 hw0
    refine T.seq <| T.region <| SL.w (op_box rfl) ?_
    rintro _ _ _ ⟨B1, rfl, rfl, rfl⟩
    refine SL.w (op_alloc z53) ?_
    rintro _ _ _ ⟨B2, rfl, rfl, rfl⟩
    refine SL.nil <| T.seq <| T.region <| SL.v (op_fieldAddr fa36_2 rfl) <| SL.v (op_load ty24 rfl (by repeat constructor) rfl) ?_
    refine SL.w (op_callF en38 (vs := [_]) rfl (of_spec hn.1 hrol.1 (by omega))) ?_
    rintro _ _ X1 ⟨rfl, hX1, hS⟩
    obtain ⟨A1, l1, c1, rfl⟩ := hS.form
    refine SL.w (op_alloc z53) ?_
    rintro _ _ _ ⟨B3, rfl, rfl, rfl⟩
    refine SL.w (op_store ty53 rfl rfl (by repeat constructor) rfl rfl rfl) ?_
    rintro _ _ _ ⟨rfl, rfl⟩
    refine SL.nil <| T.seq <| T.seq <| T.region <| SL.v (op_fieldAddr fa36_3 rfl) <| SL.v (op_load ty34 rfl (by repeat constructor) rfl) ?_
    refine SL.v (op_lenS Tryz.underlying34 rfl) <| SL.v (op_move (v := .int .i64 ((0 : Nat) : Int)) rfl) <| SL.nil <| T.block <| T.drop B1 (by repeat constructor) ?_
    refine T.loopW (fun m env own X' => ∃ (i : Nat) (As : Option Addr) (ls cs : Nat), m = rows.length - i ∧ i ≤ rows.length ∧ X1.le X' ∧ SetR X' (.agg #[.slice As ls cs]) (mskF rs ||| menFL (al.take i)) ∧ env = [(2, .pointer (some ⟨B2, 0, none⟩)), (3, .pointer (some ⟨B3, 0, none⟩)), (10, .slice Aa rows.length ca), (11, .int .i64 (rows.length : Int)), (12, .int .i64 (i : Int))] ∧ own = [⟨B3, [.slice As ls cs], 53, 1⟩, ⟨B2, [.slice none 0 0], 53, 1⟩]) rows.length ⟨0, A1, l1, c1, by simp, by omega, PMap.le_refl _, by rw [List.take_zero, menFL, Nat.or_zero]; exact hS, rfl, rfl⟩ (by repeat (first | exact Sub.nil | refine Sub.cons rfl ?_)) ?_
    rintro m _ _ X4 ⟨i, As, ls, cs, rfl, hi, hX4, hS4, rfl, rfl⟩
    rcases Nat.lt_or_ge i rows.length with hil | hil
    · obtain ⟨r2, hr2⟩ : ∃ r2, rows[i]? = some r2 := ⟨_, List.getElem?_eq_getElem hil⟩
      obtain ⟨a, ha2⟩ : ∃ a, al[i]? = some a := ⟨_, List.getElem?_eq_getElem (by omega)⟩
      have hX04 := hX1.trans' hX4
      have hra := (hr i a r2 ha2 hr2).mono hX04
      have hma := List.mem_of_getElem? ha2
      obtain ⟨bA, pre, rfl, hbA⟩ := ha.blk (by omega)
      have hwa := wtFL_mem hma
      have hts := take_snoc ha2
      have hih := ih (by omega) (by omega) (rolFL_mem hrol.2 hma) hra
      obtain ⟨_, _, _, _, _, _, _, _, rfl⟩ := hra.form
      try simp only at hih
      refine T.seq <| T.region <| SL.v (op_lssT rfl rfl (by omega)) ?_
      refine SL.nil <| T.seq <| T.condT rfl <| T.skip <| T.seq <| T.block <| T.seq <| T.region <| SL.v (op_indexN Tryz.underlying34 ty36 rfl rfl (by omega)) ?_
      refine SL.v (op_loadX ty36 rfl (hbA.mono hX04) (row_read rc4_len hr2 (by omega))) ?_
      refine SL.w (op_alloc z36) ?_
      rintro _ _ _ ⟨B5, rfl, rfl, rfl⟩
      refine SL.w (op_store ty36 rfl rfl (by repeat constructor) rfl rfl rfl) ?_
      rintro _ _ _ ⟨rfl, rfl⟩
      refine SL.nil <| T.draw (by kernel_rfl) 4 [.t 0, .t 1, .r 2, .r 3] (by kernel_rfl) ?_
      refine SD.take rfl panicBody (op_load ty53 rfl (by repeat constructor) rfl) rfl rfl ?_
      refine SD.take rfl panicBody (op_load ty36 rfl (by repeat constructor) rfl) rfl rfl ?_
      refine SD.run rfl (op_callF en21 (vs := [_]) rfl (hih)) rfl rfl ?_
      rintro _ _ X5 ⟨rfl, hX5, hS5⟩
      obtain ⟨A5, l5, c5, rfl⟩ := hS5.form
      refine SD.run rfl (op_callF en69 (vs := [_, _]) rfl (or_spec (hS4.mono hX5) hS5)) rfl rfl ?_
      rintro _ _ X6 ⟨rfl, hX6, hS6⟩
      refine SD.nil ?_
      show SL _ _ _ _ _ _ _ [_] _ _ _
      obtain ⟨A6, l6, c6, rfl⟩ := hS6.form
      refine SL.w (op_store ty53 rfl rfl (by repeat constructor) rfl rfl rfl) ?_
      rintro _ _ _ ⟨rfl, rfl⟩
      refine SL.nil <| T.blk <| T.region <| SL.v (op_addN (q := 1) rfl rfl (by omega)) ?_
      refine SL.mv rfl <| SL.nil <| T.drop B5 (by repeat constructor) ?_
      exact T.backW (rows.length - (i + 1)) (by omega) ⟨i + 1, A6, l6, c6, rfl, by omega, (hX4.trans' hX5).trans' hX6, by rw [hts, menFL_app, menFL, menFL, Nat.or_zero, ← Nat.or_assoc]; exact hS6, rfl, rfl⟩ (by repeat (first | exact Sub.nil | refine Sub.cons rfl ?_))
    · obtain rfl : i = rows.length := by omega
      rw [List.take_of_length_le (by omega)] at hS4
      refine T.seq <| T.region <| SL.v (op_lssF rfl rfl (by omega)) ?_
      refine SL.nil <| T.seq <| T.condF rfl ?_
      refine T.exit (T.exitCode (T.exitCut (T.exitBlk ?_)))
      refine T.seq <| T.region <| SL.v (op_load ty53 rfl (by repeat constructor) rfl) ?_
      refine SL.w (op_store ty53 rfl rfl (by repeat constructor) rfl rfl rfl) ?_
      rintro _ _ _ ⟨rfl, rfl⟩
      refine SL.nil <| T.ret1 rfl (ResIs.cell rfl ty53 (by repeat constructor) rfl) ?_
      exact hS4
theorem fchk_spec {X : PMap} {f : Fm} {r : Row4} {kind : Nat} (hw : wtF f < 1000000) (hk : kind < 256) (h : FmR .u8 X f r) : Spec Tryz.prog 18 [.agg #[r.1, r.2.1, r.2.2.1, r.2.2.2], .int .u8 (kind : Int)] X fun u _ => u = .int .i64 (chkF kind f) := by
  have hc1 := fun {X' : PMap} (hX : X.le X') => flook_spec (kind := kind) hw hk (h.mono hX)
  have hc2 := fun {X' : PMap} (hX : X.le X') => ffits_spec (wtF f) (Nat.le_refl _) (by omega) (h.mono hX)
  have hc3 := fun {X' : PMap} (hrol : rolF f) (hX : X.le X') => fment_spec (wtF f) (Nat.le_refl _) (by omega) hrol (h.mono hX)
  have hop := h.op
  obtain ⟨o, n, A, B, l, c, l', c', rfl⟩ := h.form
  simp only [Value.int.injEq, true_and] at hop
  obtain rfl : o = f.op := by exact_mod_cast hop
  try simp only at hc1
  try simp only at hc2
  try simp only at hc3
  have hr2 : resT f.op ≤ 2 := by unfold resT; split <;> omega
  rw [chkF]
  by_cases k1 : kind < 1
  · rw [if_pos (.inl k1)]
    refine Spec.enter Tryz.func18 rfl Tryz.ntmps18 rfl ?_
    intro w0 hw0
    refine T.seq <| T.region <| SL.w (op_box rfl) ?_
    rintro _ _ _ ⟨B2, rfl, rfl, rfl⟩
    refine SL.v (op_assign (v := .int .i64 ((0 : Nat) : Int)) rfl) <| SL.nil <| T.seq <| T.seq <| T.region <| SL.mv rfl <| SL.v (op_lssT rfl rfl (by omega)) ?_
    refine SL.mv rfl <| SL.skip rfl rfl ?_
    refine SL.skip rfl rfl ?_
    refine SL.v (op_pickT rfl rfl) <| SL.nil <| T.condT rfl <| T.seq <| T.region <| SL.v (op_assign (v := .int .i64 ((1 : Nat) : Int)) rfl) <| SL.nil <| T.ret1 rfl (ResIs.tmp rfl) ?_
    rfl
  by_cases k2 : 3 < kind
  · rw [if_pos (.inr k2)]
    refine Spec.enter Tryz.func18 rfl Tryz.ntmps18 rfl ?_
    intro w0 hw0
    refine T.seq <| T.region <| SL.w (op_box rfl) ?_
    rintro _ _ _ ⟨B2, rfl, rfl, rfl⟩
    refine SL.v (op_assign (v := .int .i64 ((0 : Nat) : Int)) rfl) <| SL.nil <| T.seq <| T.seq <| T.region <| SL.mv rfl <| SL.v (op_lssF rfl rfl (by omega)) ?_
    refine SL.mv rfl <| SL.mv rfl <| SL.v (op_gtrT rfl rfl (by omega)) ?_
    refine SL.v (op_pickF rfl rfl) <| SL.nil <| T.condT rfl <| T.seq <| T.region <| SL.v (op_assign (v := .int .i64 ((1 : Nat) : Int)) rfl) <| SL.nil <| T.ret1 rfl (ResIs.tmp rfl) ?_
    rfl
  rw [if_neg (fun h => h.elim k1 k2)]
  refine Spec.enter Tryz.func18 rfl Tryz.ntmps18 rfl ?_
  intro w0 hw0
  refine T.seq <| T.region <| SL.w (op_box rfl) ?_
  rintro _ _ _ ⟨B2, rfl, rfl, rfl⟩
  refine SL.v (op_assign (v := .int .i64 ((0 : Nat) : Int)) rfl) <| SL.nil <| T.seq <| T.seq <| T.region <| SL.mv rfl <| SL.v (op_lssF rfl rfl (by omega)) ?_
  refine SL.mv rfl <| SL.mv rfl <| SL.v (op_gtrF rfl rfl (by omega)) ?_
  refine SL.v (op_pickF rfl rfl) <| SL.nil <| T.condF rfl <| T.skip <| T.seq <| T.seq <| T.region <| SL.v (op_load ty36 rfl (by repeat constructor) rfl) ?_
  refine SL.mv rfl <| SL.w (op_callF en59 (vs := [_, _]) rfl (hc1 (PMap.le_refl _))) ?_
  rintro _ _ X1 ⟨rfl, hX1, rfl⟩
  by_cases d : lookF kind f = 0
  case neg =>
    rw [if_pos d]
    refine SL.as rfl <| SL.nil <| T.seq <| T.region <| SL.mv rfl <| SL.v (op_neqT rfl rfl (by omega)) ?_
    refine SL.nil <| T.condT rfl <| T.seq <| T.region <| SL.mv rfl <| SL.as rfl <| SL.nil <| T.ret1 rfl (ResIs.tmp rfl) ?_
    rfl
  rw [if_neg (fun h => h d), d]
  refine SL.as rfl <| SL.nil <| T.seq <| T.region <| SL.mv rfl <| SL.v (op_neqF rfl rfl (by omega)) ?_
  refine SL.nil <| T.condF rfl <| T.skip <| T.seq <| T.seq <| T.region <| SL.v (op_load ty36 rfl (by repeat constructor) rfl) ?_
  refine SL.w (op_callF en60 (vs := [_]) rfl (hc2 hX1)) ?_
  rintro _ _ X2 ⟨rfl, hX2, rfl⟩
  cases hf : fitF f with
  | false =>
    rw [if_pos (.inl rfl)]
    refine SL.v (op_not rfl) <| SL.mv rfl <| SL.skip rfl rfl ?_
    refine SL.skip rfl rfl ?_
    refine SL.skip rfl rfl ?_
    refine SL.skip rfl rfl ?_
    refine SL.v (op_pickT rfl rfl) <| SL.nil <| T.condT rfl <| T.seq <| T.region <| SL.v (op_assign (v := .int .i64 ((10 : Nat) : Int)) rfl) <| SL.nil <| T.ret1 rfl (ResIs.tmp rfl) ?_
    rfl
  | true =>
    refine SL.v (op_not rfl) <| SL.mv rfl <| SL.v (op_fieldAddr fa36_0 rfl) <| SL.v (op_load ty33 rfl (by repeat constructor) rfl) ?_
    refine SL.w (op_callF en61 (vs := [_]) rfl (result_spec)) ?_
    rintro _ _ X3 ⟨rfl, hX3, rfl⟩
    by_cases hres : resT f.op = 1
    case neg =>
      rw [if_pos (.inr hres)]
      refine SL.v (op_neqT rfl rfl (by omega)) ?_
      refine SL.v (op_pickF rfl rfl) <| SL.nil <| T.condT rfl <| T.seq <| T.region <| SL.v (op_assign (v := .int .i64 ((10 : Nat) : Int)) rfl) <| SL.nil <| T.ret1 rfl (ResIs.tmp rfl) ?_
      rfl
    rw [if_neg (by simp [hres])]
    by_cases k3 : kind = 3
    · rw [if_neg (fun h => h.1 k3)]
      refine SL.v (op_neqF rfl rfl (by omega)) ?_
      refine SL.v (op_pickF rfl rfl) <| SL.nil <| T.condF rfl <| T.skip <| T.seq <| T.seq <| T.region <| SL.mv rfl <| SL.v (op_neqF rfl rfl (by omega)) ?_
      refine SL.mv rfl <| SL.skip rfl rfl ?_
      refine SL.skip rfl rfl ?_
      refine SL.skip rfl rfl ?_
      refine SL.skip rfl rfl ?_
      refine SL.v (op_pickF rfl rfl) <| SL.nil <| T.condF rfl <| T.skip <| T.seq <| T.region <| SL.v (op_assign (v := .int .i64 ((0 : Nat) : Int)) rfl) <| SL.nil <| T.ret1 rfl (ResIs.tmp rfl) ?_
      rfl
    have hin : insF kind f = 0 := by
      rw [lookF] at d
      split at d
      · cases d
      · exact d
    refine SL.v (op_neqF rfl rfl (by omega)) ?_
    refine SL.v (op_pickF rfl rfl) <| SL.nil <| T.condF rfl <| T.skip <| T.seq <| T.seq <| T.region <| SL.mv rfl <| SL.v (op_neqT rfl rfl (by omega)) ?_
    refine SL.mv rfl <| SL.v (op_load ty36 rfl (by repeat constructor) rfl) ?_
    refine SL.w (op_callF en21 (vs := [_]) rfl (hc3 (insF_rol f hin) ((hX1.trans' hX2).trans' hX3))) ?_
    rintro _ _ X4 ⟨rfl, hX4, hS⟩
    obtain ⟨A6, l6, c6, rfl⟩ := hS.form
    refine SL.w (op_callF en22 (vs := [_]) rfl (len_exact hS)) ?_
    rintro _ _ X5 ⟨rfl, hX5, rfl⟩
    rw [cnt_mem]
    by_cases h8 : 8 < cntB 64 (menF f)
    · rw [if_pos ⟨k3, h8⟩]
      refine SL.v (op_gtrT rfl rfl (by omega)) ?_
      refine SL.v (op_pickT rfl rfl) <| SL.nil <| T.condT rfl <| T.seq <| T.region <| SL.v (op_assign (v := .int .i64 ((3 : Nat) : Int)) rfl) <| SL.nil <| T.ret1 rfl (ResIs.tmp rfl) ?_
      rfl
    · rw [if_neg (fun h => h8 h.2)]
      refine SL.v (op_gtrF rfl rfl (by omega)) ?_
      refine SL.v (op_pickT rfl rfl) <| SL.nil <| T.condF rfl <| T.skip <| T.seq <| T.region <| SL.v (op_assign (v := .int .i64 ((0 : Nat) : Int)) rfl) <| SL.nil <| T.ret1 rfl (ResIs.tmp rfl) ?_
      rfl
end Go.Proofs.YtnpcilglilfajaaGreatDoor
namespace Go.Proofs.YtnpcilglilfajaaGreatDoor
section
set_option maxRecDepth 100000
theorem en111 : Enters Tryz.prog 111 := enters_mk Tryz.func111 (by kernel_rfl) rfl
theorem en114 : Enters Tryz.prog 114 := enters_mk Tryz.func114 (by kernel_rfl) rfl
theorem en62 : Enters Tryz.prog 62 := enters_mk Tryz.func62 (by kernel_rfl) rfl
theorem en63 : Enters Tryz.prog 63 := enters_mk Tryz.func63 (by kernel_rfl) rfl
theorem en64 : Enters Tryz.prog 64 := enters_mk Tryz.func64 (by kernel_rfl) rfl
theorem en65 : Enters Tryz.prog 65 := enters_mk Tryz.func65 (by kernel_rfl) rfl
theorem en66 : Enters Tryz.prog 66 := enters_mk Tryz.func66 (by kernel_rfl) rfl
theorem fa27_0 : FAdr Tryz.prog 27 0 0 := fadr_mk Tryz.underlying27 rfl rfl (by kernel_rfl)
theorem fa27_1 : FAdr Tryz.prog 27 1 1 := fadr_mk Tryz.underlying27 rfl rfl (by kernel_rfl)
theorem fa27_2 : FAdr Tryz.prog 27 2 2 := fadr_mk Tryz.underlying27 rfl rfl (by kernel_rfl)
theorem fa27_3 : FAdr Tryz.prog 27 3 3 := fadr_mk Tryz.underlying27 rfl rfl (by kernel_rfl)
theorem ty25 : Ty Tryz.prog 25 false 1 := ⟨⟨_, Tryz.underlying25, rfl⟩, by kernel_rfl⟩
theorem ty27 : Ty Tryz.prog 27 true 4 := ⟨⟨_, Tryz.underlying27, rfl⟩, by kernel_rfl⟩
theorem z27 : Zero Tryz.prog 27 [.int .i64 0, .int .i64 0, .slice none 0 0, .slice none 0 0] := ⟨zero_of (by kernel_rfl)⟩
end
open Go.RowKit
theorem rdep_spec (N : Nat) : ∀ {X : PMap} {e : Fm} {r : Row4}, wtF e ≤ N → N < 4000000000000 → FmR .i64 X e r → Spec Tryz.prog 62 [.agg #[r.1, r.2.1, r.2.2.1, r.2.2.2]] X fun u _ => u = .int .i64 (depF e : Int) := by
  induction N with
  | zero => intro X e r h; have := wtF_pos e; omega
  | succ N ih =>
    intro X e r hN hB h
    cases h with
    | @mk op n rs al vn va rows hn ha hl hr =>
    obtain ⟨Aa, ca, rfl⟩ := ha.form
    have hlen := wtFL_len al
    rw [wtF] at hN
    refine Spec.enter Tryz.func62 rfl Tryz.ntmps62 rfl ?_
    intro w0 hw0
    refine T.seq <| T.region <| SL.w (op_box rfl) ?_
    rintro _ _ _ ⟨B1, rfl, rfl, rfl⟩
    refine SL.v (op_assign (v := .int .i64 ((0 : Nat) : Int)) rfl) <| SL.nil <| T.seq <| T.region <| SL.v (op_assign (v := .int .i64 ((0 : Nat) : Int)) rfl) <| SL.nil <| T.seq <| T.seq <| T.region <| SL.v (op_fieldAddr fa27_3 rfl) <| SL.v (op_load ty25 rfl (by repeat constructor) rfl) ?_
    refine SL.v (op_lenS Tryz.underlying25 rfl) <| SL.v (op_move (v := .int .i64 ((0 : Nat) : Int)) rfl) <| SL.nil <| T.block <| T.drop B1 (by repeat constructor) ?_
    refine T.loopW (fun m env own X' => ∃ i : Nat, m = rows.length - i ∧ i ≤ rows.length ∧ X.le X' ∧ env = [(3, .int .i64 (depFL (al.take i) : Int)), (7, .slice Aa rows.length ca), (8, .int .i64 (rows.length : Int)), (9, .int .i64 (i : Int))] ∧ own = []) rows.length ⟨0, by simp, by omega, PMap.le_refl _, rfl, rfl⟩ (by repeat (first | exact Sub.nil | refine Sub.cons rfl ?_)) ?_
    rintro m _ _ X1 ⟨i, rfl, hi, hX1, rfl, rfl⟩
    rcases Nat.lt_or_ge i rows.length with hil | hil
    · obtain ⟨r2, hr2⟩ : ∃ r2, rows[i]? = some r2 := ⟨_, List.getElem?_eq_getElem hil⟩
      obtain ⟨a, ha2⟩ : ∃ a, al[i]? = some a := ⟨_, List.getElem?_eq_getElem (by omega)⟩
      have hra := hr i a r2 ha2 hr2
      obtain ⟨bA, pre, rfl, hbA⟩ := ha.blk (by omega)
      obtain ⟨_, _, _, _, _, _, _, _, rfl⟩ := hra.form
      have hwa := wtFL_mem (List.mem_of_getElem? ha2)
      have hts := take_snoc ha2
      have hw1 : wtFL (al.take (i + 1)) ≤ wtFL al := by
        have := wtFL_app (al.drop (i + 1)) (al.take (i + 1))
        rw [List.take_append_drop] at this; omega
      have hw2 : wtFL (al.take (i + 1)) = wtFL (al.take i) + wtF a := by rw [hts, wtFL_snoc]
      have q3 := dep_wtFL (al.take i)
      have q4 := dep_wtF a
      refine T.seq <| T.region <| SL.v (op_lssT rfl rfl (by omega)) ?_
      refine SL.nil <| T.seq <| T.condT rfl <| T.skip <| T.seq <| T.block <| T.seq <| T.region <| SL.v (op_indexN Tryz.underlying25 ty27 rfl rfl (by omega)) ?_
      refine SL.v (op_loadX ty27 rfl (hbA.mono hX1) (row_read rc4_len hr2 (by omega))) ?_
      refine SL.w (op_alloc z27) ?_
      rintro _ _ _ ⟨B5, rfl, rfl, rfl⟩
      refine SL.w (op_store ty27 rfl rfl (by repeat constructor) rfl rfl rfl) ?_
      rintro _ _ _ ⟨rfl, rfl⟩
      refine SL.nil <| T.region <| SL.mv rfl <| SL.v (op_load ty27 rfl (by repeat constructor) rfl) ?_
      refine SL.w (op_callF en62 (vs := [_]) rfl (ih (by omega) (by omega) (hra.mono hX1))) ?_
      rintro _ _ X2 ⟨rfl, hX2, rfl⟩
      refine SL.v (op_maxN rfl rfl) ?_
      rw [show max (depFL (al.take i)) (depF a) = depFL (al.take (i + 1)) by rw [hts, depFL_snoc]]
      refine SL.as rfl <| SL.nil <| T.blk <| T.region <| SL.v (op_addN (q := 1) rfl rfl (by omega)) ?_
      refine SL.mv rfl <| SL.nil <| T.drop B5 (by repeat constructor) ?_
      exact T.backW (rows.length - (i + 1)) (by omega) ⟨i + 1, rfl, by omega, hX1.trans' hX2, rfl, rfl⟩ (by repeat (first | exact Sub.nil | refine Sub.cons rfl ?_))
    · obtain rfl : i = rows.length := by omega
      rw [show al.take rows.length = al from List.take_of_length_le (by omega)]
      have q3 := dep_wtFL al
      refine T.seq <| T.region <| SL.v (op_lssF rfl rfl (by omega)) ?_
      refine SL.nil <| T.seq <| T.condF rfl ?_
      refine T.exit (T.exitCode (T.exitCut (T.exitBlk ?_)))
      refine T.seq <| T.region <| SL.mv rfl <| SL.v (op_addN (q := 1) rfl rfl (by omega)) ?_
      refine SL.as rfl <| SL.nil <| T.ret1 rfl (ResIs.tmp rfl) ?_
      rw [depF]
theorem rsiz_spec (N : Nat) : ∀ {X : PMap} {e : Fm} {r : Row4}, wtF e ≤ N → N < 4000000000000 → FmR .i64 X e r → Spec Tryz.prog 63 [.agg #[r.1, r.2.1, r.2.2.1, r.2.2.2]] X fun u _ => u = .int .i64 (sizF e : Int) := by
  induction N with
  | zero => intro X e r h; have := wtF_pos e; omega
  | succ N ih =>
    intro X e r hN hB h
    cases h with
    | @mk op n rs al vn va rows hn ha hl hr =>
    obtain ⟨Aa, ca, rfl⟩ := ha.form
    have hlen := wtFL_len al
    rw [wtF] at hN
    refine Spec.enter Tryz.func63 rfl Tryz.ntmps63 rfl ?_
    intro w0 hw0
    refine T.seq <| T.region <| SL.w (op_box rfl) ?_
    rintro _ _ _ ⟨B1, rfl, rfl, rfl⟩
    refine SL.v (op_assign (v := .int .i64 ((0 : Nat) : Int)) rfl) <| SL.nil <| T.seq <| T.region <| SL.v (op_assign (v := .int .i64 ((1 : Nat) : Int)) rfl) <| SL.nil <| T.seq <| T.seq <| T.region <| SL.v (op_fieldAddr fa27_3 rfl) <| SL.v (op_load ty25 rfl (by repeat constructor) rfl) ?_
    refine SL.v (op_lenS Tryz.underlying25 rfl) <| SL.v (op_move (v := .int .i64 ((0 : Nat) : Int)) rfl) <| SL.nil <| T.block <| T.drop B1 (by repeat constructor) ?_
    refine T.loopW (fun m env own X' => ∃ i : Nat, m = rows.length - i ∧ i ≤ rows.length ∧ X.le X' ∧ env = [(3, .int .i64 ((sizFL (al.take i) + 1 : Nat) : Int)), (7, .slice Aa rows.length ca), (8, .int .i64 (rows.length : Int)), (9, .int .i64 (i : Int))] ∧ own = []) rows.length ⟨0, by simp, by omega, PMap.le_refl _, rfl, rfl⟩ (by repeat (first | exact Sub.nil | refine Sub.cons rfl ?_)) ?_
    rintro m _ _ X1 ⟨i, rfl, hi, hX1, rfl, rfl⟩
    rcases Nat.lt_or_ge i rows.length with hil | hil
    · obtain ⟨r2, hr2⟩ : ∃ r2, rows[i]? = some r2 := ⟨_, List.getElem?_eq_getElem hil⟩
      obtain ⟨a, ha2⟩ : ∃ a, al[i]? = some a := ⟨_, List.getElem?_eq_getElem (by omega)⟩
      have hra := hr i a r2 ha2 hr2
      obtain ⟨bA, pre, rfl, hbA⟩ := ha.blk (by omega)
      obtain ⟨_, _, _, _, _, _, _, _, rfl⟩ := hra.form
      have hwa := wtFL_mem (List.mem_of_getElem? ha2)
      have hts := take_snoc ha2
      have hw1 : wtFL (al.take (i + 1)) ≤ wtFL al := by
        have := wtFL_app (al.drop (i + 1)) (al.take (i + 1))
        rw [List.take_append_drop] at this; omega
      have hw2 : wtFL (al.take (i + 1)) = wtFL (al.take i) + wtF a := by rw [hts, wtFL_snoc]
      have q1 := siz_wtFL (al.take i)
      have q2 := siz_wtF a
      refine T.seq <| T.region <| SL.v (op_lssT rfl rfl (by omega)) ?_
      refine SL.nil <| T.seq <| T.condT rfl <| T.skip <| T.seq <| T.block <| T.seq <| T.region <| SL.v (op_indexN Tryz.underlying25 ty27 rfl rfl (by omega)) ?_
      refine SL.v (op_loadX ty27 rfl (hbA.mono hX1) (row_read rc4_len hr2 (by omega))) ?_
      refine SL.w (op_alloc z27) ?_
      rintro _ _ _ ⟨B5, rfl, rfl, rfl⟩
      refine SL.w (op_store ty27 rfl rfl (by repeat constructor) rfl rfl rfl) ?_
      rintro _ _ _ ⟨rfl, rfl⟩
      refine SL.nil <| T.region <| SL.mv rfl <| SL.v (op_load ty27 rfl (by repeat constructor) rfl) ?_
      refine SL.w (op_callF en63 (vs := [_]) rfl (ih (by omega) (by omega) (hra.mono hX1))) ?_
      rintro _ _ X2 ⟨rfl, hX2, rfl⟩
      refine SL.v (op_addN (p := sizFL (al.take i) + 1) (q := sizF a) rfl rfl (by omega)) ?_
      rw [show sizFL (al.take i) + 1 + sizF a = sizFL (al.take (i + 1)) + 1 by rw [hts, sizFL_snoc]; omega]
      refine SL.as rfl <| SL.nil <| T.blk <| T.region <| SL.v (op_addN (q := 1) rfl rfl (by omega)) ?_
      refine SL.mv rfl <| SL.nil <| T.drop B5 (by repeat constructor) ?_
      exact T.backW (rows.length - (i + 1)) (by omega) ⟨i + 1, rfl, by omega, hX1.trans' hX2, rfl, rfl⟩ (by repeat (first | exact Sub.nil | refine Sub.cons rfl ?_))
    · obtain rfl : i = rows.length := by omega
      rw [show al.take rows.length = al from List.take_of_length_le (by omega)]
      refine T.seq <| T.region <| SL.v (op_lssF rfl rfl (by omega)) ?_
      refine SL.nil <| T.seq <| T.condF rfl ?_
      refine T.exit (T.exitCode (T.exitCut (T.exitBlk ?_)))
      refine T.seq <| T.region <| SL.mv rfl <| SL.as rfl <| SL.nil <| T.ret1 rfl (ResIs.tmp rfl) ?_
      rw [sizF]
theorem roperands_spec {X : PMap} {op : Nat} : Spec Tryz.prog 111 [.int .i64 (op : Int)] X fun u _ => u = .int .i64 (argF op : Int) := by
  unfold argF
  by_cases c8 : 8 ≤ op
  · rw [if_neg (by omega), if_neg (by omega)]
    refine Spec.enter Tryz.func111 rfl Tryz.ntmps111 rfl ?_
    intro w0 hw0
    refine T.seq <| T.region <| SL.v (op_assign (v := .int .i64 ((0 : Nat) : Int)) rfl) <| SL.nil <| T.seq <| T.block <| T.seq <| T.region <| SL.mv rfl <| SL.v (op_geqT rfl rfl (by omega)) ?_
    refine SL.as rfl <| SL.nil <| T.condT rfl <| T.seq <| T.region <| SL.v (op_assign (v := .int .i64 ((2 : Nat) : Int)) rfl) <| SL.nil <| T.ret1 rfl (ResIs.tmp rfl) ?_
    rfl
  by_cases c7 : op = 7
  · rw [if_neg (by omega), if_pos c7]
    refine Spec.enter Tryz.func111 rfl Tryz.ntmps111 rfl ?_
    intro w0 hw0
    refine T.seq <| T.region <| SL.v (op_assign (v := .int .i64 ((0 : Nat) : Int)) rfl) <| SL.nil <| T.seq <| T.block <| T.seq <| T.region <| SL.mv rfl <| SL.v (op_geqF rfl rfl (by omega)) ?_
    refine SL.as rfl <| SL.nil <| T.condF rfl <| T.seq <| T.region <| SL.mv rfl <| SL.v (op_eqlT rfl rfl (by omega)) ?_
    refine SL.as rfl <| SL.nil <| T.condT rfl <| T.seq <| T.region <| SL.v (op_assign (v := .int .i64 ((1 : Nat) : Int)) rfl) <| SL.nil <| T.ret1 rfl (ResIs.tmp rfl) ?_
    rfl
  rw [if_pos (by omega)]
  refine Spec.enter Tryz.func111 rfl Tryz.ntmps111 rfl ?_
  intro w0 hw0
  refine T.seq <| T.region <| SL.v (op_assign (v := .int .i64 ((0 : Nat) : Int)) rfl) <| SL.nil <| T.seq <| T.block <| T.seq <| T.region <| SL.mv rfl <| SL.v (op_geqF rfl rfl (by omega)) ?_
  refine SL.as rfl <| SL.nil <| T.condF rfl <| T.seq <| T.region <| SL.mv rfl <| SL.v (op_eqlF rfl rfl (by omega)) ?_
  refine SL.as rfl <| SL.nil <| T.condF rfl <| T.skip <| T.blk <| T.seq <| T.region <| SL.v (op_assign (v := .int .i64 ((0 : Nat) : Int)) rfl) <| SL.nil <| T.ret1 rfl (ResIs.tmp rfl) ?_
  rfl
theorem rtype_spec {X : PMap} {op : Nat} : Spec Tryz.prog 66 [.int .i64 (op : Int)] X fun u _ => u = .int .i64 (resT op : Int) := by
  unfold resT
  by_cases c1 : op = 1
  · rw [if_pos (by omega)]
    refine Spec.enter Tryz.func66 rfl Tryz.ntmps66 rfl ?_
    intro w0 hw0
    refine T.seq <| T.region <| SL.v (op_assign (v := .int .i64 ((0 : Nat) : Int)) rfl) <| SL.nil <| T.seq <| T.seq <| T.region <| SL.mv rfl <| SL.v (op_eqlT rfl rfl (by omega)) ?_
    refine SL.mv rfl <| SL.skip rfl rfl ?_
    refine SL.skip rfl rfl ?_
    refine SL.v (op_pickT rfl rfl) <| SL.mv rfl <| SL.skip rfl rfl ?_
    refine SL.skip rfl rfl ?_
    refine SL.v (op_pickT rfl rfl) <| SL.mv rfl <| SL.skip rfl rfl ?_
    refine SL.skip rfl rfl ?_
    refine SL.v (op_pickT rfl rfl) <| SL.nil <| T.condT rfl <| T.seq <| T.region <| SL.v (op_assign (v := .int .i64 ((2 : Nat) : Int)) rfl) <| SL.nil <| T.ret1 rfl (ResIs.tmp rfl) ?_
    rfl
  by_cases c5 : op = 5
  · rw [if_pos (by omega)]
    refine Spec.enter Tryz.func66 rfl Tryz.ntmps66 rfl ?_
    intro w0 hw0
    refine T.seq <| T.region <| SL.v (op_assign (v := .int .i64 ((0 : Nat) : Int)) rfl) <| SL.nil <| T.seq <| T.seq <| T.region <| SL.mv rfl <| SL.v (op_eqlF rfl rfl (by omega)) ?_
    refine SL.mv rfl <| SL.mv rfl <| SL.v (op_eqlT rfl rfl (by omega)) ?_
    refine SL.v (op_pickF rfl rfl) <| SL.mv rfl <| SL.skip rfl rfl ?_
    refine SL.skip rfl rfl ?_
    refine SL.v (op_pickT rfl rfl) <| SL.mv rfl <| SL.skip rfl rfl ?_
    refine SL.skip rfl rfl ?_
    refine SL.v (op_pickT rfl rfl) <| SL.nil <| T.condT rfl <| T.seq <| T.region <| SL.v (op_assign (v := .int .i64 ((2 : Nat) : Int)) rfl) <| SL.nil <| T.ret1 rfl (ResIs.tmp rfl) ?_
    rfl
  by_cases c6 : op = 6
  · rw [if_pos (by omega)]
    refine Spec.enter Tryz.func66 rfl Tryz.ntmps66 rfl ?_
    intro w0 hw0
    refine T.seq <| T.region <| SL.v (op_assign (v := .int .i64 ((0 : Nat) : Int)) rfl) <| SL.nil <| T.seq <| T.seq <| T.region <| SL.mv rfl <| SL.v (op_eqlF rfl rfl (by omega)) ?_
    refine SL.mv rfl <| SL.mv rfl <| SL.v (op_eqlF rfl rfl (by omega)) ?_
    refine SL.v (op_pickF rfl rfl) <| SL.mv rfl <| SL.mv rfl <| SL.v (op_eqlT rfl rfl (by omega)) ?_
    refine SL.v (op_pickF rfl rfl) <| SL.mv rfl <| SL.skip rfl rfl ?_
    refine SL.skip rfl rfl ?_
    refine SL.v (op_pickT rfl rfl) <| SL.nil <| T.condT rfl <| T.seq <| T.region <| SL.v (op_assign (v := .int .i64 ((2 : Nat) : Int)) rfl) <| SL.nil <| T.ret1 rfl (ResIs.tmp rfl) ?_
    rfl
  by_cases c16 : op = 16
  · rw [if_pos (by omega)]
    refine Spec.enter Tryz.func66 rfl Tryz.ntmps66 rfl ?_
    intro w0 hw0
    refine T.seq <| T.region <| SL.v (op_assign (v := .int .i64 ((0 : Nat) : Int)) rfl) <| SL.nil <| T.seq <| T.seq <| T.region <| SL.mv rfl <| SL.v (op_eqlF rfl rfl (by omega)) ?_
    refine SL.mv rfl <| SL.mv rfl <| SL.v (op_eqlF rfl rfl (by omega)) ?_
    refine SL.v (op_pickF rfl rfl) <| SL.mv rfl <| SL.mv rfl <| SL.v (op_eqlF rfl rfl (by omega)) ?_
    refine SL.v (op_pickF rfl rfl) <| SL.mv rfl <| SL.mv rfl <| SL.v (op_eqlT rfl rfl (by omega)) ?_
    refine SL.v (op_pickF rfl rfl) <| SL.nil <| T.condT rfl <| T.seq <| T.region <| SL.v (op_assign (v := .int .i64 ((2 : Nat) : Int)) rfl) <| SL.nil <| T.ret1 rfl (ResIs.tmp rfl) ?_
    rfl
  rw [if_neg (by omega)]
  refine Spec.enter Tryz.func66 rfl Tryz.ntmps66 rfl ?_
  intro w0 hw0
  refine T.seq <| T.region <| SL.v (op_assign (v := .int .i64 ((0 : Nat) : Int)) rfl) <| SL.nil <| T.seq <| T.seq <| T.region <| SL.mv rfl <| SL.v (op_eqlF rfl rfl (by omega)) ?_
  refine SL.mv rfl <| SL.mv rfl <| SL.v (op_eqlF rfl rfl (by omega)) ?_
  refine SL.v (op_pickF rfl rfl) <| SL.mv rfl <| SL.mv rfl <| SL.v (op_eqlF rfl rfl (by omega)) ?_
  refine SL.v (op_pickF rfl rfl) <| SL.mv rfl <| SL.mv rfl <| SL.v (op_eqlF rfl rfl (by omega)) ?_
  refine SL.v (op_pickF rfl rfl) <| SL.nil <| T.condF rfl <| T.skip <| T.seq <| T.region <| SL.v (op_assign (v := .int .i64 ((1 : Nat) : Int)) rfl) <| SL.nil <| T.ret1 rfl (ResIs.tmp rfl) ?_
  rfl
/-- The specification's error of an operator, with the kind. -/
def ownK (kind op : Nat) (n : Int) (rs : List Nat) (k : Nat) : Int := if ownF op n rs k ≠ 0 then ownF op n rs k else if kinF kind op then 10 else 0
theorem insF_ownK {kind op : Nat} {n : Int} {rs : List Nat} {al : List Fm} : insF kind (.mk op n rs al) = if ownK kind op n rs al.length ≠ 0 then ownK kind op n rs al.length else insFL kind al := by
  rw [insF, ownK]
  by_cases h1 : ownF op n rs al.length ≠ 0
  · rw [if_pos h1, if_pos h1, if_pos h1]
  · rw [if_neg h1, if_neg h1]
    by_cases h2 : kinF kind op
    · rw [if_pos h2, if_pos h2, if_pos (by decide)]
    · rw [if_neg h2, if_neg h2, if_neg (by decide)]
theorem rfnode_spec {X : PMap} {kind op : Nat} {n : Int} {rs : List Nat} {al : List Fm} {r : Row4} (hrl : rs.length < 1000000) (_hal : al.length < 1000000) (h : FmR .i64 X (.mk op n rs al) r) : Spec Tryz.prog 114 [.agg #[r.1, r.2.1, r.2.2.1, r.2.2.2], .int .i64 (kind : Int)] X fun u _ => u = .int .i64 (ownK kind op n rs al.length) := by
  cases h with
  | @mk _ _ _ _ vn va rows hn ha hl hr =>
  obtain ⟨Aa, ca, rfl⟩ := ha.form
  obtain ⟨An, cn, rfl⟩ := hn.form
  have hcap := hn.cap
  have harg : argF op ≤ 2 := by unfold argF; split <;> (try split) <;> omega
  have hown : ∀ {c : Int}, ownF op n rs rows.length = c → c ≠ 0 → ownK kind op n rs rows.length = c := fun h1 h2 => by rw [ownK, h1, if_pos h2]
  rw [← hl]
  by_cases c1 : op < 1 ∨ 16 < op ∨ rows.length ≠ argF op
  · have e : ownK kind op n rs rows.length = 1 := hown (by rw [ownF, if_pos c1]) (by decide)
    rw [e]
    by_cases d1 : op < 1
    · refine Spec.enter Tryz.func114 rfl Tryz.ntmps114 rfl ?_
      intro w0 hw0
      refine T.seq <| T.region <| SL.w (op_box rfl) ?_
      rintro _ _ _ ⟨B2, rfl, rfl, rfl⟩
      refine SL.v (op_assign (v := .int .i64 ((0 : Nat) : Int)) rfl) <| SL.nil <| T.seq <| T.seq <| T.draw (by kernel_rfl) 17 [.t 0, .t 1, .t 2, .t 3, .t 4, .t 5, .t 6, .t 7, .t 8, .t 9, .t 10, .t 11, .t 12, .t 13, .r 14, .t 15, .t 16] (by kernel_rfl) ?_
      refine SD.take rfl panicBody (op_fieldAddr fa27_0 rfl) rfl rfl ?_
      refine SD.take rfl panicBody (op_load ty3 rfl (by repeat constructor) rfl) rfl rfl ?_
      refine SD.take rfl panicBody (op_lssT rfl rfl (by omega)) rfl rfl ?_
      refine SD.take rfl panicBody (op_move rfl) rfl rfl ?_
      refine SD.skip rfl panicBody rfl rfl ?_
      refine SD.skip rfl panicBody rfl rfl ?_
      refine SD.skip rfl panicBody rfl rfl ?_
      refine SD.take rfl panicBody (op_pickT rfl rfl) rfl rfl ?_
      refine SD.take rfl panicBody (op_move rfl) rfl rfl ?_
      refine SD.skip rfl panicBody rfl rfl ?_
      refine SD.skip rfl panicBody rfl rfl ?_
      refine SD.skip rfl panicBody rfl rfl ?_
      refine SD.skip rfl panicBody rfl rfl ?_
      refine SD.skip rfl panicBody rfl rfl ?_
      refine SD.skipF rfl rfl rfl ?_
      refine SD.skip rfl panicBody rfl rfl ?_
      refine SD.take rfl panicBody (op_pickT rfl rfl) rfl rfl ?_
      refine SD.nil ?_
      show SL _ _ _ _ _ _ _ [] _ _ _
      refine SL.nil <| T.condT rfl <| T.seq <| T.region <| SL.v (op_assign (v := .int .i64 ((1 : Nat) : Int)) rfl) <| SL.nil <| T.ret1 rfl (ResIs.tmp rfl) ?_
      rfl
    by_cases d2 : 16 < op
    · refine Spec.enter Tryz.func114 rfl Tryz.ntmps114 rfl ?_
      intro w0 hw0
      refine T.seq <| T.region <| SL.w (op_box rfl) ?_
      rintro _ _ _ ⟨B2, rfl, rfl, rfl⟩
      refine SL.v (op_assign (v := .int .i64 ((0 : Nat) : Int)) rfl) <| SL.nil <| T.seq <| T.seq <| T.draw (by kernel_rfl) 17 [.t 0, .t 1, .t 2, .t 3, .t 4, .t 5, .t 6, .t 7, .t 8, .t 9, .t 10, .t 11, .t 12, .t 13, .r 14, .t 15, .t 16] (by kernel_rfl) ?_
      refine SD.take rfl panicBody (op_fieldAddr fa27_0 rfl) rfl rfl ?_
      refine SD.take rfl panicBody (op_load ty3 rfl (by repeat constructor) rfl) rfl rfl ?_
      refine SD.take rfl panicBody (op_lssF rfl rfl (by omega)) rfl rfl ?_
      refine SD.take rfl panicBody (op_move rfl) rfl rfl ?_
      refine SD.take rfl panicBody (op_fieldAddr fa27_0 rfl) rfl rfl ?_
      refine SD.take rfl panicBody (op_load ty3 rfl (by repeat constructor) rfl) rfl rfl ?_
      refine SD.take rfl panicBody (op_gtrT rfl rfl (by omega)) rfl rfl ?_
      refine SD.take rfl panicBody (op_pickF rfl rfl) rfl rfl ?_
      refine SD.take rfl panicBody (op_move rfl) rfl rfl ?_
      refine SD.skip rfl panicBody rfl rfl ?_
      refine SD.skip rfl panicBody rfl rfl ?_
      refine SD.skip rfl panicBody rfl rfl ?_
      refine SD.skip rfl panicBody rfl rfl ?_
      refine SD.skip rfl panicBody rfl rfl ?_
      refine SD.skipF rfl rfl rfl ?_
      refine SD.skip rfl panicBody rfl rfl ?_
      refine SD.take rfl panicBody (op_pickT rfl rfl) rfl rfl ?_
      refine SD.nil ?_
      show SL _ _ _ _ _ _ _ [] _ _ _
      refine SL.nil <| T.condT rfl <| T.seq <| T.region <| SL.v (op_assign (v := .int .i64 ((1 : Nat) : Int)) rfl) <| SL.nil <| T.ret1 rfl (ResIs.tmp rfl) ?_
      rfl
    have d3 : rows.length ≠ argF op := by omega
    refine Spec.enter Tryz.func114 rfl Tryz.ntmps114 rfl ?_
    intro w0 hw0
    refine T.seq <| T.region <| SL.w (op_box rfl) ?_
    rintro _ _ _ ⟨B2, rfl, rfl, rfl⟩
    refine SL.v (op_assign (v := .int .i64 ((0 : Nat) : Int)) rfl) <| SL.nil <| T.seq <| T.seq <| T.draw (by kernel_rfl) 17 [.t 0, .t 1, .t 2, .t 3, .t 4, .t 5, .t 6, .t 7, .t 8, .t 9, .t 10, .t 11, .t 12, .t 13, .r 14, .t 15, .t 16] (by kernel_rfl) ?_
    refine SD.take rfl panicBody (op_fieldAddr fa27_0 rfl) rfl rfl ?_
    refine SD.take rfl panicBody (op_load ty3 rfl (by repeat constructor) rfl) rfl rfl ?_
    refine SD.take rfl panicBody (op_lssF rfl rfl (by omega)) rfl rfl ?_
    refine SD.take rfl panicBody (op_move rfl) rfl rfl ?_
    refine SD.take rfl panicBody (op_fieldAddr fa27_0 rfl) rfl rfl ?_
    refine SD.take rfl panicBody (op_load ty3 rfl (by repeat constructor) rfl) rfl rfl ?_
    refine SD.take rfl panicBody (op_gtrF rfl rfl (by omega)) rfl rfl ?_
    refine SD.take rfl panicBody (op_pickF rfl rfl) rfl rfl ?_
    refine SD.take rfl panicBody (op_move rfl) rfl rfl ?_
    refine SD.take rfl panicBody (op_fieldAddr fa27_3 rfl) rfl rfl ?_
    refine SD.take rfl panicBody (op_load ty25 rfl (by repeat constructor) rfl) rfl rfl ?_
    refine SD.take rfl panicBody (op_lenS Tryz.underlying25 rfl) rfl rfl ?_
    refine SD.take rfl panicBody (op_fieldAddr fa27_0 rfl) rfl rfl ?_
    refine SD.take rfl panicBody (op_load ty3 rfl (by repeat constructor) rfl) rfl rfl ?_
    refine SD.run rfl (op_callF en111 (vs := [_]) rfl (roperands_spec)) rfl rfl ?_
    rintro _ _ X1 ⟨rfl, hX1, rfl⟩
    refine SD.take rfl panicBody (op_neqT rfl rfl (by omega)) rfl rfl ?_
    refine SD.take rfl panicBody (op_pickF rfl rfl) rfl rfl ?_
    refine SD.nil ?_
    show SL _ _ _ _ _ _ _ [] _ _ _
    refine SL.nil <| T.condT rfl <| T.seq <| T.region <| SL.v (op_assign (v := .int .i64 ((1 : Nat) : Int)) rfl) <| SL.nil <| T.ret1 rfl (ResIs.tmp rfl) ?_
    rfl
  have c1a : ¬op < 1 := fun h => c1 (.inl h)
  have c1b : ¬16 < op := fun h => c1 (.inr (.inl h))
  have c1c : rows.length = argF op := by omega
  refine Spec.enter Tryz.func114 rfl Tryz.ntmps114 rfl ?_
  intro w0 hw0
  refine T.seq <| T.region <| SL.w (op_box rfl) ?_
  rintro _ _ _ ⟨B2, rfl, rfl, rfl⟩
  refine SL.v (op_assign (v := .int .i64 ((0 : Nat) : Int)) rfl) <| SL.nil <| T.seq <| T.seq <| T.draw (by kernel_rfl) 17 [.t 0, .t 1, .t 2, .t 3, .t 4, .t 5, .t 6, .t 7, .t 8, .t 9, .t 10, .t 11, .t 12, .t 13, .r 14, .t 15, .t 16] (by kernel_rfl) ?_
  refine SD.take rfl panicBody (op_fieldAddr fa27_0 rfl) rfl rfl ?_
  refine SD.take rfl panicBody (op_load ty3 rfl (by repeat constructor) rfl) rfl rfl ?_
  refine SD.take rfl panicBody (op_lssF rfl rfl (by omega)) rfl rfl ?_
  refine SD.take rfl panicBody (op_move rfl) rfl rfl ?_
  refine SD.take rfl panicBody (op_fieldAddr fa27_0 rfl) rfl rfl ?_
  refine SD.take rfl panicBody (op_load ty3 rfl (by repeat constructor) rfl) rfl rfl ?_
  refine SD.take rfl panicBody (op_gtrF rfl rfl (by omega)) rfl rfl ?_
  refine SD.take rfl panicBody (op_pickF rfl rfl) rfl rfl ?_
  refine SD.take rfl panicBody (op_move rfl) rfl rfl ?_
  refine SD.take rfl panicBody (op_fieldAddr fa27_3 rfl) rfl rfl ?_
  refine SD.take rfl panicBody (op_load ty25 rfl (by repeat constructor) rfl) rfl rfl ?_
  refine SD.take rfl panicBody (op_lenS Tryz.underlying25 rfl) rfl rfl ?_
  refine SD.take rfl panicBody (op_fieldAddr fa27_0 rfl) rfl rfl ?_
  refine SD.take rfl panicBody (op_load ty3 rfl (by repeat constructor) rfl) rfl rfl ?_
  refine SD.run rfl (op_callF en111 (vs := [_]) rfl (roperands_spec)) rfl rfl ?_
  rintro _ _ X1 ⟨rfl, hX1, rfl⟩
  refine SD.take rfl panicBody (op_neqF rfl rfl (by omega)) rfl rfl ?_
  refine SD.take rfl panicBody (op_pickF rfl rfl) rfl rfl ?_
  refine SD.nil ?_
  show SL _ _ _ _ _ _ _ [] _ _ _
  refine SL.nil <| T.condF rfl <| T.skip <| T.seq <| T.region <| SL.v (op_assign (v := .int .i64 ((0 : Nat) : Int)) rfl) <| SL.v (op_assign (v := .int .i64 ((0 : Nat) : Int)) rfl) <| SL.nil <| T.seq <| T.meet (fun _ env own X' => X1.le X' ∧ env = [(1, .int .i64 (kind : Int)), (2, .pointer (some ⟨B2, 0, none⟩)), (5, .int .i64 ((if op = 4 ∨ op = 6 then 1 else 0 : Nat) : Int)), (6, .int .i64 ((if op = 4 ∨ op = 6 then 1 else 0 : Nat) : Int))] ∧ own = [⟨B2, [.int .i64 (op : Int), .int .i64 n, .slice An rs.length cn, .slice Aa rows.length ca], 27, 4⟩]) ?_ ?_
  · by_cases d4 : op = 4
    · rw [if_pos (.inl d4)]
      refine T.seq <| T.region <| SL.v (op_fieldAddr fa27_0 rfl) <| SL.v (op_load ty3 rfl (by repeat constructor) rfl) ?_
      refine SL.v (op_eqlT rfl rfl (by omega)) ?_
      refine SL.mv rfl <| SL.skip rfl rfl ?_
      refine SL.skip rfl rfl ?_
      refine SL.skip rfl rfl ?_
      refine SL.v (op_pickT rfl rfl) <| SL.nil <| T.condT rfl <| T.region <| SL.v (op_assign (v := .int .i64 ((1 : Nat) : Int)) rfl) <| SL.v (op_assign (v := .int .i64 ((1 : Nat) : Int)) rfl) <| SL.nil ?_
      exact T.backW 0 (by omega) ⟨PMap.le_refl _, rfl, rfl⟩ (by repeat (first | exact Sub.nil | refine Sub.cons rfl ?_))
    · by_cases d6 : op = 6
      · rw [if_pos (.inr d6)]
        refine T.seq <| T.region <| SL.v (op_fieldAddr fa27_0 rfl) <| SL.v (op_load ty3 rfl (by repeat constructor) rfl) ?_
        refine SL.v (op_eqlF rfl rfl (by omega)) ?_
        refine SL.mv rfl <| SL.v (op_fieldAddr fa27_0 rfl) <| SL.v (op_load ty3 rfl (by repeat constructor) rfl) ?_
        refine SL.v (op_eqlT rfl rfl (by omega)) ?_
        refine SL.v (op_pickF rfl rfl) <| SL.nil <| T.condT rfl <| T.region <| SL.v (op_assign (v := .int .i64 ((1 : Nat) : Int)) rfl) <| SL.v (op_assign (v := .int .i64 ((1 : Nat) : Int)) rfl) <| SL.nil ?_
        exact T.backW 0 (by omega) ⟨PMap.le_refl _, rfl, rfl⟩ (by repeat (first | exact Sub.nil | refine Sub.cons rfl ?_))
      · rw [if_neg (fun h => h.elim d4 d6)]
        refine T.seq <| T.region <| SL.v (op_fieldAddr fa27_0 rfl) <| SL.v (op_load ty3 rfl (by repeat constructor) rfl) ?_
        refine SL.v (op_eqlF rfl rfl (by omega)) ?_
        refine SL.mv rfl <| SL.v (op_fieldAddr fa27_0 rfl) <| SL.v (op_load ty3 rfl (by repeat constructor) rfl) ?_
        refine SL.v (op_eqlF rfl rfl (by omega)) ?_
        refine SL.v (op_pickF rfl rfl) <| SL.nil <| T.condF rfl <| T.skip ?_
        exact T.backW 0 (by omega) ⟨PMap.le_refl _, rfl, rfl⟩ (by repeat (first | exact Sub.nil | refine Sub.cons rfl ?_))
  rintro _ _ _ X2 ⟨hX2, rfl, rfl⟩
  refine T.seq <| T.meet (fun _ env own X' => X2.le X' ∧ env = [(1, .int .i64 (kind : Int)), (2, .pointer (some ⟨B2, 0, none⟩)), (5, .int .i64 (leaF op : Int)), (6, .int .i64 (mosF op : Int))] ∧ own = [⟨B2, [.int .i64 (op : Int), .int .i64 n, .slice An rs.length cn, .slice Aa rows.length ca], 27, 4⟩]) ?_ ?_
  · by_cases d5 : op = 5
    · rw [show leaF op = 1 from if_pos (by omega), show mosF op = 8 by rw [mosF, if_neg (by omega), if_pos d5]]
      refine T.seq <| T.region <| SL.v (op_fieldAddr fa27_0 rfl) <| SL.v (op_load ty3 rfl (by repeat constructor) rfl) ?_
      refine SL.v (op_eqlT rfl rfl (by omega)) ?_
      refine SL.nil <| T.condT rfl <| T.region <| SL.v (op_assign (v := .int .i64 ((1 : Nat) : Int)) rfl) <| SL.v (op_assign (v := .int .i64 ((8 : Nat) : Int)) rfl) <| SL.nil ?_
      exact T.backW 0 (by omega) ⟨PMap.le_refl _, rfl, rfl⟩ (by repeat (first | exact Sub.nil | refine Sub.cons rfl ?_))
    · have e1 : leaF op = if op = 4 ∨ op = 6 then 1 else 0 := by
        unfold leaF
        by_cases d46 : op = 4 ∨ op = 6
        · rw [if_pos (by omega), if_pos d46]
        · rw [if_neg (by omega), if_neg d46]
      have e2 : mosF op = if op = 4 ∨ op = 6 then 1 else 0 := by rw [mosF, if_neg d5]
      rw [e1, e2]
      refine T.seq <| T.region <| SL.v (op_fieldAddr fa27_0 rfl) <| SL.v (op_load ty3 rfl (by repeat constructor) rfl) ?_
      refine SL.v (op_eqlF rfl rfl (by omega)) ?_
      refine SL.nil <| T.condF rfl <| T.skip ?_
      exact T.backW 0 (by omega) ⟨PMap.le_refl _, rfl, rfl⟩ (by repeat (first | exact Sub.nil | refine Sub.cons rfl ?_))
  rintro _ _ _ X3 ⟨hX3, rfl, rfl⟩
  have hmos : mosF op ≤ 8 := by unfold mosF; split <;> (try split) <;> omega
  have hlea : leaF op ≤ 1 := by unfold leaF; split <;> omega
  by_cases c2 : (op ≠ 1 ∧ n ≠ 0) ∨ rs.length < leaF op ∨ mosF op < rs.length
  · have e : ownK kind op n rs rows.length = 6 := hown (by rw [ownF, if_neg c1, if_pos c2]) (by decide)
    rw [e]
    by_cases d1 : op = 1
    · by_cases d2 : rs.length < leaF op
      · skip
        refine T.seq <| T.seq <| T.region <| SL.v (op_fieldAddr fa27_0 rfl) <| SL.v (op_load ty3 rfl (by repeat constructor) rfl) ?_
        refine SL.v (op_neqF rfl rfl (by omega)) ?_
        refine SL.mv rfl <| SL.skip rfl rfl ?_
        refine SL.skip rfl rfl ?_
        refine SL.skip rfl rfl ?_
        refine SL.v (op_pickF rfl rfl) <| SL.mv rfl <| SL.v (op_fieldAddr fa27_2 rfl) <| SL.v (op_load ty24 rfl (by repeat constructor) rfl) ?_
        refine SL.v (op_lenS Tryz.underlying24 rfl) <| SL.mv rfl <| SL.v (op_lssT rfl rfl (by omega)) ?_
        refine SL.v (op_pickF rfl rfl) <| SL.mv rfl <| SL.skip rfl rfl ?_
        refine SL.skip rfl rfl ?_
        refine SL.skip rfl rfl ?_
        refine SL.skip rfl rfl ?_
        refine SL.skip rfl rfl ?_
        refine SL.v (op_pickT rfl rfl) <| SL.nil <| T.condT rfl <| T.seq <| T.region <| SL.v (op_assign (v := .int .i64 ((6 : Nat) : Int)) rfl) <| SL.nil <| T.ret1 rfl (ResIs.tmp rfl) ?_
        rfl
      · have d3 : mosF op < rs.length := by omega
        refine T.seq <| T.seq <| T.region <| SL.v (op_fieldAddr fa27_0 rfl) <| SL.v (op_load ty3 rfl (by repeat constructor) rfl) ?_
        refine SL.v (op_neqF rfl rfl (by omega)) ?_
        refine SL.mv rfl <| SL.skip rfl rfl ?_
        refine SL.skip rfl rfl ?_
        refine SL.skip rfl rfl ?_
        refine SL.v (op_pickF rfl rfl) <| SL.mv rfl <| SL.v (op_fieldAddr fa27_2 rfl) <| SL.v (op_load ty24 rfl (by repeat constructor) rfl) ?_
        refine SL.v (op_lenS Tryz.underlying24 rfl) <| SL.mv rfl <| SL.v (op_lssF rfl rfl (by omega)) ?_
        refine SL.v (op_pickF rfl rfl) <| SL.mv rfl <| SL.v (op_fieldAddr fa27_2 rfl) <| SL.v (op_load ty24 rfl (by repeat constructor) rfl) ?_
        refine SL.v (op_lenS Tryz.underlying24 rfl) <| SL.mv rfl <| SL.v (op_gtrT rfl rfl (by omega)) ?_
        refine SL.v (op_pickF rfl rfl) <| SL.nil <| T.condT rfl <| T.seq <| T.region <| SL.v (op_assign (v := .int .i64 ((6 : Nat) : Int)) rfl) <| SL.nil <| T.ret1 rfl (ResIs.tmp rfl) ?_
        rfl
    · by_cases d0 : n = 0
      · by_cases d2 : rs.length < leaF op
        · skip
          refine T.seq <| T.seq <| T.region <| SL.v (op_fieldAddr fa27_0 rfl) <| SL.v (op_load ty3 rfl (by repeat constructor) rfl) ?_
          refine SL.v (op_neqT rfl rfl (by omega)) ?_
          refine SL.mv rfl <| SL.v (op_fieldAddr fa27_1 rfl) <| SL.v (op_load ty3 rfl (by repeat constructor) rfl) ?_
          refine SL.v (op_neqF rfl rfl (by omega)) ?_
          refine SL.v (op_pickT rfl rfl) <| SL.mv rfl <| SL.v (op_fieldAddr fa27_2 rfl) <| SL.v (op_load ty24 rfl (by repeat constructor) rfl) ?_
          refine SL.v (op_lenS Tryz.underlying24 rfl) <| SL.mv rfl <| SL.v (op_lssT rfl rfl (by omega)) ?_
          refine SL.v (op_pickF rfl rfl) <| SL.mv rfl <| SL.skip rfl rfl ?_
          refine SL.skip rfl rfl ?_
          refine SL.skip rfl rfl ?_
          refine SL.skip rfl rfl ?_
          refine SL.skip rfl rfl ?_
          refine SL.v (op_pickT rfl rfl) <| SL.nil <| T.condT rfl <| T.seq <| T.region <| SL.v (op_assign (v := .int .i64 ((6 : Nat) : Int)) rfl) <| SL.nil <| T.ret1 rfl (ResIs.tmp rfl) ?_
          rfl
        · have d3 : mosF op < rs.length := by omega
          refine T.seq <| T.seq <| T.region <| SL.v (op_fieldAddr fa27_0 rfl) <| SL.v (op_load ty3 rfl (by repeat constructor) rfl) ?_
          refine SL.v (op_neqT rfl rfl (by omega)) ?_
          refine SL.mv rfl <| SL.v (op_fieldAddr fa27_1 rfl) <| SL.v (op_load ty3 rfl (by repeat constructor) rfl) ?_
          refine SL.v (op_neqF rfl rfl (by omega)) ?_
          refine SL.v (op_pickT rfl rfl) <| SL.mv rfl <| SL.v (op_fieldAddr fa27_2 rfl) <| SL.v (op_load ty24 rfl (by repeat constructor) rfl) ?_
          refine SL.v (op_lenS Tryz.underlying24 rfl) <| SL.mv rfl <| SL.v (op_lssF rfl rfl (by omega)) ?_
          refine SL.v (op_pickF rfl rfl) <| SL.mv rfl <| SL.v (op_fieldAddr fa27_2 rfl) <| SL.v (op_load ty24 rfl (by repeat constructor) rfl) ?_
          refine SL.v (op_lenS Tryz.underlying24 rfl) <| SL.mv rfl <| SL.v (op_gtrT rfl rfl (by omega)) ?_
          refine SL.v (op_pickF rfl rfl) <| SL.nil <| T.condT rfl <| T.seq <| T.region <| SL.v (op_assign (v := .int .i64 ((6 : Nat) : Int)) rfl) <| SL.nil <| T.ret1 rfl (ResIs.tmp rfl) ?_
          rfl
      · skip
        refine T.seq <| T.seq <| T.region <| SL.v (op_fieldAddr fa27_0 rfl) <| SL.v (op_load ty3 rfl (by repeat constructor) rfl) ?_
        refine SL.v (op_neqT rfl rfl (by omega)) ?_
        refine SL.mv rfl <| SL.v (op_fieldAddr fa27_1 rfl) <| SL.v (op_load ty3 rfl (by repeat constructor) rfl) ?_
        refine SL.v (op_neqT rfl rfl (by omega)) ?_
        refine SL.v (op_pickT rfl rfl) <| SL.mv rfl <| SL.skip rfl rfl ?_
        refine SL.skip rfl rfl ?_
        refine SL.skip rfl rfl ?_
        refine SL.skip rfl rfl ?_
        refine SL.skip rfl rfl ?_
        refine SL.v (op_pickT rfl rfl) <| SL.mv rfl <| SL.skip rfl rfl ?_
        refine SL.skip rfl rfl ?_
        refine SL.skip rfl rfl ?_
        refine SL.skip rfl rfl ?_
        refine SL.skip rfl rfl ?_
        refine SL.v (op_pickT rfl rfl) <| SL.nil <| T.condT rfl <| T.seq <| T.region <| SL.v (op_assign (v := .int .i64 ((6 : Nat) : Int)) rfl) <| SL.nil <| T.ret1 rfl (ResIs.tmp rfl) ?_
        rfl
  have c2a : ¬rs.length < leaF op := fun h => c2 (.inr (.inl h))
  have c2b : ¬mosF op < rs.length := fun h => c2 (.inr (.inr h))
  refine T.seq <| T.meet (fun _ env own X' => X3.le X' ∧ env = [(1, .int .i64 (kind : Int)), (2, .pointer (some ⟨B2, 0, none⟩))] ∧ own = [⟨B2, [.int .i64 (op : Int), .int .i64 n, .slice An rs.length cn, .slice Aa rows.length ca], 27, 4⟩]) ?_ ?_
  · by_cases d1 : op = 1
    · skip
      refine T.seq <| T.region <| SL.v (op_fieldAddr fa27_0 rfl) <| SL.v (op_load ty3 rfl (by repeat constructor) rfl) ?_
      refine SL.v (op_neqF rfl rfl (by omega)) ?_
      refine SL.mv rfl <| SL.skip rfl rfl ?_
      refine SL.skip rfl rfl ?_
      refine SL.skip rfl rfl ?_
      refine SL.v (op_pickF rfl rfl) <| SL.mv rfl <| SL.v (op_fieldAddr fa27_2 rfl) <| SL.v (op_load ty24 rfl (by repeat constructor) rfl) ?_
      refine SL.v (op_lenS Tryz.underlying24 rfl) <| SL.mv rfl <| SL.v (op_lssF rfl rfl (by omega)) ?_
      refine SL.v (op_pickF rfl rfl) <| SL.mv rfl <| SL.v (op_fieldAddr fa27_2 rfl) <| SL.v (op_load ty24 rfl (by repeat constructor) rfl) ?_
      refine SL.v (op_lenS Tryz.underlying24 rfl) <| SL.mv rfl <| SL.v (op_gtrF rfl rfl (by omega)) ?_
      refine SL.v (op_pickF rfl rfl) <| SL.nil <| T.condF rfl <| T.skip ?_
      exact T.backW 0 (by omega) ⟨PMap.le_refl _, rfl, rfl⟩ (by repeat (first | exact Sub.nil | refine Sub.cons rfl ?_))
    · have d0 : n = 0 := Classical.byContradiction fun h => c2 (.inl ⟨d1, h⟩)
      refine T.seq <| T.region <| SL.v (op_fieldAddr fa27_0 rfl) <| SL.v (op_load ty3 rfl (by repeat constructor) rfl) ?_
      refine SL.v (op_neqT rfl rfl (by omega)) ?_
      refine SL.mv rfl <| SL.v (op_fieldAddr fa27_1 rfl) <| SL.v (op_load ty3 rfl (by repeat constructor) rfl) ?_
      refine SL.v (op_neqF rfl rfl (by omega)) ?_
      refine SL.v (op_pickT rfl rfl) <| SL.mv rfl <| SL.v (op_fieldAddr fa27_2 rfl) <| SL.v (op_load ty24 rfl (by repeat constructor) rfl) ?_
      refine SL.v (op_lenS Tryz.underlying24 rfl) <| SL.mv rfl <| SL.v (op_lssF rfl rfl (by omega)) ?_
      refine SL.v (op_pickF rfl rfl) <| SL.mv rfl <| SL.v (op_fieldAddr fa27_2 rfl) <| SL.v (op_load ty24 rfl (by repeat constructor) rfl) ?_
      refine SL.v (op_lenS Tryz.underlying24 rfl) <| SL.mv rfl <| SL.v (op_gtrF rfl rfl (by omega)) ?_
      refine SL.v (op_pickF rfl rfl) <| SL.nil <| T.condF rfl <| T.skip ?_
      exact T.backW 0 (by omega) ⟨PMap.le_refl _, rfl, rfl⟩ (by repeat (first | exact Sub.nil | refine Sub.cons rfl ?_))
  rintro _ _ _ X4 ⟨hX4, rfl, rfl⟩
  by_cases c3 : n < 0 ∨ 999999 < n
  · have e : ownK kind op n rs rows.length = 2 := hown (by rw [ownF, if_neg c1, if_neg c2, if_pos c3]) (by decide)
    rw [e]
    by_cases d1 : n < 0
    · skip
      refine T.seq <| T.seq <| T.region <| SL.v (op_fieldAddr fa27_1 rfl) <| SL.v (op_load ty3 rfl (by repeat constructor) rfl) ?_
      refine SL.v (op_lssT rfl rfl (by omega)) ?_
      refine SL.mv rfl <| SL.skip rfl rfl ?_
      refine SL.skip rfl rfl ?_
      refine SL.skip rfl rfl ?_
      refine SL.v (op_pickT rfl rfl) <| SL.nil <| T.condT rfl <| T.seq <| T.region <| SL.v (op_assign (v := .int .i64 ((2 : Nat) : Int)) rfl) <| SL.nil <| T.ret1 rfl (ResIs.tmp rfl) ?_
      rfl
    · have d2 : 999999 < n := by omega
      refine T.seq <| T.seq <| T.region <| SL.v (op_fieldAddr fa27_1 rfl) <| SL.v (op_load ty3 rfl (by repeat constructor) rfl) ?_
      refine SL.v (op_lssF rfl rfl (by omega)) ?_
      refine SL.mv rfl <| SL.v (op_fieldAddr fa27_1 rfl) <| SL.v (op_load ty3 rfl (by repeat constructor) rfl) ?_
      refine SL.v (op_gtrT rfl rfl (by omega)) ?_
      refine SL.v (op_pickF rfl rfl) <| SL.nil <| T.condT rfl <| T.seq <| T.region <| SL.v (op_assign (v := .int .i64 ((2 : Nat) : Int)) rfl) <| SL.nil <| T.ret1 rfl (ResIs.tmp rfl) ?_
      rfl
  have c3a : ¬n < 0 := fun h => c3 (.inl h)
  have c3b : ¬999999 < n := fun h => c3 (.inr h)
  have hX04 := ((hX1.trans' hX2).trans' hX3).trans' hX4
  refine T.seq <| T.seq <| T.region <| SL.v (op_fieldAddr fa27_1 rfl) <| SL.v (op_load ty3 rfl (by repeat constructor) rfl) ?_
  refine SL.v (op_lssF rfl rfl (by omega)) ?_
  refine SL.mv rfl <| SL.v (op_fieldAddr fa27_1 rfl) <| SL.v (op_load ty3 rfl (by repeat constructor) rfl) ?_
  refine SL.v (op_gtrF rfl rfl (by omega)) ?_
  refine SL.v (op_pickF rfl rfl) <| SL.nil <| T.condF rfl <| T.skip <| T.seq <| T.seq <| T.region <| SL.v (op_fieldAddr fa27_2 rfl) <| SL.v (op_load ty24 rfl (by repeat constructor) rfl) ?_
  refine SL.v (op_lenS Tryz.underlying24 rfl) <| SL.v (op_move (v := .int .i64 ((0 : Nat) : Int)) rfl) <| SL.nil <| T.block <| T.loopW (fun m env own X' => ∃ i : Nat, m = rs.length - i ∧ i ≤ rs.length ∧ X4.le X' ∧ (∀ r ∈ rs.take i, 1 ≤ r ∧ r ≤ 63) ∧ env = [(1, .int .i64 (kind : Int)), (2, .pointer (some ⟨B2, 0, none⟩)), (72, .slice An rs.length cn), (73, .int .i64 (rs.length : Int)), (74, .int .i64 (i : Int))] ∧ own = [⟨B2, [.int .i64 (op : Int), .int .i64 n, .slice An rs.length cn, .slice Aa rows.length ca], 27, 4⟩]) rs.length ⟨0, by simp, by omega, PMap.le_refl _, (fun r hr => by simp at hr), rfl, rfl⟩ (by repeat (first | exact Sub.nil | refine Sub.cons rfl ?_)) ?_
  rintro m _ _ X5 ⟨i, rfl, hi, hX5, hall, rfl, rfl⟩
  rcases Nat.lt_or_ge i rs.length with hil | hil
  · obtain ⟨b, rfl, hB⟩ := hn.blk (by omega)
    have hB3 := (hB.mono hX04).mono hX5
    have hmem : rs[i] ∈ rs := List.getElem_mem hil
    by_cases d : rs[i] < 1 ∨ 63 < rs[i]
    · have e : ownK kind op n rs rows.length = 2 := hown (by rw [ownF, if_neg c1, if_neg c2, if_neg c3, if_pos ⟨_, hmem, d⟩]) (by decide)
      rw [e]
      by_cases d1 : rs[i] < 1
      · skip
        refine T.seq <| T.region <| SL.v (op_lssT rfl rfl (by omega)) ?_
        refine SL.nil <| T.seq <| T.condT rfl <| T.skip <| T.seq <| T.block <| T.seq <| T.region <| SL.v (op_indexN Tryz.underlying24 ty3 rfl rfl (by omega)) ?_
        refine SL.v (op_loadX ty3 rfl hB3 (cread1 (ints_get rs i hil))) <| SL.as rfl <| SL.nil <| T.seq <| T.region <| SL.mv rfl <| SL.v (op_lssT rfl rfl (by omega)) ?_
        refine SL.mv rfl <| SL.skip rfl rfl ?_
        refine SL.skip rfl rfl ?_
        refine SL.v (op_pickT rfl rfl) <| SL.nil <| T.condT rfl <| T.seq <| T.region <| SL.v (op_assign (v := .int .i64 ((2 : Nat) : Int)) rfl) <| SL.nil <| T.ret1 rfl (ResIs.tmp rfl) ?_
        rfl
      · have d2 : 63 < rs[i] := by omega
        refine T.seq <| T.region <| SL.v (op_lssT rfl rfl (by omega)) ?_
        refine SL.nil <| T.seq <| T.condT rfl <| T.skip <| T.seq <| T.block <| T.seq <| T.region <| SL.v (op_indexN Tryz.underlying24 ty3 rfl rfl (by omega)) ?_
        refine SL.v (op_loadX ty3 rfl hB3 (cread1 (ints_get rs i hil))) <| SL.as rfl <| SL.nil <| T.seq <| T.region <| SL.mv rfl <| SL.v (op_lssF rfl rfl (by omega)) ?_
        refine SL.mv rfl <| SL.mv rfl <| SL.v (op_gtrT rfl rfl (by omega)) ?_
        refine SL.v (op_pickF rfl rfl) <| SL.nil <| T.condT rfl <| T.seq <| T.region <| SL.v (op_assign (v := .int .i64 ((2 : Nat) : Int)) rfl) <| SL.nil <| T.ret1 rfl (ResIs.tmp rfl) ?_
        rfl
    · have da : ¬rs[i] < 1 := fun h => d (.inl h)
      have db : ¬63 < rs[i] := fun h => d (.inr h)
      have htk : rs.take (i + 1) = rs.take i ++ [rs[i]] := List.take_succ_eq_append_getElem hil
      refine T.seq <| T.region <| SL.v (op_lssT rfl rfl (by omega)) ?_
      refine SL.nil <| T.seq <| T.condT rfl <| T.skip <| T.seq <| T.block <| T.seq <| T.region <| SL.v (op_indexN Tryz.underlying24 ty3 rfl rfl (by omega)) ?_
      refine SL.v (op_loadX ty3 rfl hB3 (cread1 (ints_get rs i hil))) <| SL.as rfl <| SL.nil <| T.seq <| T.region <| SL.mv rfl <| SL.v (op_lssF rfl rfl (by omega)) ?_
      refine SL.mv rfl <| SL.mv rfl <| SL.v (op_gtrF rfl rfl (by omega)) ?_
      refine SL.v (op_pickF rfl rfl) <| SL.nil <| T.condF rfl <| T.skip <| T.blk <| T.region <| SL.v (op_addN (q := 1) rfl rfl (by omega)) ?_
      refine SL.mv rfl <| SL.nil ?_
      exact T.backW (rs.length - (i + 1)) (by omega) ⟨i + 1, rfl, by omega, hX5, (fun r hr => by rw [htk] at hr; rcases List.mem_append.1 hr with hr | hr; exact hall r hr; rw [List.mem_singleton.1 hr]; omega), rfl, rfl⟩ (by repeat (first | exact Sub.nil | refine Sub.cons rfl ?_))
  obtain rfl : i = rs.length := by omega
  rw [List.take_of_length_le (Nat.le_refl _)] at hall
  have c4 : ¬∃ r ∈ rs, r < 1 ∨ 63 < r := fun ⟨r, hr, hh⟩ => by have := hall r hr; omega
  refine T.seq <| T.region <| SL.v (op_lssF rfl rfl (by omega)) ?_
  refine SL.nil <| T.seq <| T.condF rfl ?_
  refine T.exit (T.exitCode (T.exitCut (T.exitBlk ?_)))
  refine T.seq <| T.seq <| T.region <| SL.v (op_fieldAddr fa27_2 rfl) <| SL.v (op_load ty24 rfl (by repeat constructor) rfl) ?_
  refine SL.v (op_lenS Tryz.underlying24 rfl) <| SL.v (op_move (v := .int .i64 ((0 : Nat) : Int)) rfl) <| SL.nil <| T.block <| T.loopW (fun m env own X' => ∃ i : Nat, m = rs.length - i ∧ i ≤ rs.length ∧ X5.le X' ∧ (rs.take i).Nodup ∧ env = [(1, .int .i64 (kind : Int)), (2, .pointer (some ⟨B2, 0, none⟩)), (86, .slice An rs.length cn), (87, .int .i64 (rs.length : Int)), (88, .int .i64 (i : Int))] ∧ own = [⟨B2, [.int .i64 (op : Int), .int .i64 n, .slice An rs.length cn, .slice Aa rows.length ca], 27, 4⟩]) rs.length ⟨0, by simp, by omega, PMap.le_refl _, by simp, rfl, rfl⟩ (by repeat (first | exact Sub.nil | refine Sub.cons rfl ?_)) ?_
  rintro m _ _ X6 ⟨i, rfl, hi, hX6, hnd, rfl, rfl⟩
  rcases Nat.lt_or_ge i rs.length with hil | hil
  · obtain ⟨b, rfl, hB⟩ := hn.blk (by omega)
    have hB3 := ((hB.mono hX04).mono hX5).mono hX6
    have htk : rs.take (i + 1) = rs.take i ++ [rs[i]] := List.take_succ_eq_append_getElem hil
    refine T.seq <| T.region <| SL.v (op_lssT rfl rfl (by omega)) ?_
    refine SL.nil <| T.seq <| T.condT rfl <| T.skip <| T.seq <| T.block <| T.seq <| T.region <| SL.mv rfl <| SL.v (op_indexN Tryz.underlying24 ty3 rfl rfl (by omega)) ?_
    refine SL.v (op_loadX ty3 rfl hB3 (cread1 (ints_get rs i hil))) <| SL.as rfl <| SL.as rfl <| SL.nil <| T.seq <| T.region <| SL.v (op_fieldAddr fa27_2 rfl) <| SL.v (op_load ty24 rfl (by repeat constructor) rfl) ?_
    refine SL.mv rfl <| SL.v (op_sliceHiN (l := i) Tryz.underlying24 ty3 rfl rfl rfl (by omega)) ?_
    refine SL.v (op_lenS Tryz.underlying24 rfl) <| SL.v (op_move (v := .int .i64 ((0 : Nat) : Int)) rfl) <| SL.nil <| T.block <| T.loopW (fun m env own X' => ∃ j : Nat, m = i - j ∧ j ≤ i ∧ X6.le X' ∧ (∀ (q : Nat) (hq : q < rs.length), q < j → rs[q] ≠ rs[i]) ∧ env = [(1, .int .i64 (kind : Int)), (2, .pointer (some ⟨B2, 0, none⟩)), (10, .int .i64 (rs[i] : Int)), (86, .slice (some ⟨b, 0, none⟩) rs.length cn), (87, .int .i64 (rs.length : Int)), (88, .int .i64 (i : Int)), (96, .slice (some ⟨b, 0, none⟩) i cn), (97, .int .i64 (i : Int)), (98, .int .i64 (j : Int))] ∧ own = [⟨B2, [.int .i64 (op : Int), .int .i64 n, .slice (some ⟨b, 0, none⟩) rs.length cn, .slice Aa rows.length ca], 27, 4⟩]) i ⟨0, by simp, by omega, PMap.le_refl _, (fun q _ h => by omega), rfl, rfl⟩ (by repeat (first | exact Sub.nil | refine Sub.cons rfl ?_)) ?_
    rintro m _ _ X7 ⟨j, rfl, hj, hX7, hne, rfl, rfl⟩
    rcases Nat.lt_or_ge j i with hji | hji
    · have hjl : j < rs.length := by omega
      by_cases heq : rs[j] = rs[i]
      · have hndf : ¬rs.Nodup := fun hh => (List.pairwise_iff_getElem.1 hh) j i hjl hil hji heq
        have e : ownK kind op n rs rows.length = 5 := hown (by rw [ownF, if_neg c1, if_neg c2, if_neg c3, if_neg c4, if_pos hndf]) (by decide)
        rw [e]
        have heq' : (rs[j] : Int) = (rs[i] : Int) := by exact_mod_cast heq
        refine T.seq <| T.region <| SL.v (op_lssT rfl rfl (by omega)) ?_
        refine SL.nil <| T.seq <| T.condT rfl <| T.skip <| T.seq <| T.block <| T.seq <| T.region <| SL.v (op_indexN Tryz.underlying24 ty3 rfl rfl (by omega)) ?_
        refine SL.v (op_loadX ty3 rfl (hB3.mono hX7) (cread1 (ints_get rs j hjl))) <| SL.as rfl <| SL.nil <| T.seq <| T.region <| SL.mv rfl <| SL.mv rfl <| SL.v (op_eqlT rfl rfl (by omega)) ?_
        refine SL.nil <| T.condT rfl <| T.seq <| T.region <| SL.v (op_assign (v := .int .i64 ((5 : Nat) : Int)) rfl) <| SL.nil <| T.ret1 rfl (ResIs.tmp rfl) ?_
        rfl
      · have heq' : (rs[j] : Int) ≠ (rs[i] : Int) := fun h => heq (by exact_mod_cast h)
        have hne2 : ∀ (q : Nat) (hq : q < rs.length), q < j + 1 → rs[q] ≠ rs[i] := fun q hq hqj => by
          rcases Nat.lt_or_ge q j with h | h
          · exact hne q hq h
          · have : q = j := by omega
            subst this; exact heq
        refine T.seq <| T.region <| SL.v (op_lssT rfl rfl (by omega)) ?_
        refine SL.nil <| T.seq <| T.condT rfl <| T.skip <| T.seq <| T.block <| T.seq <| T.region <| SL.v (op_indexN Tryz.underlying24 ty3 rfl rfl (by omega)) ?_
        refine SL.v (op_loadX ty3 rfl (hB3.mono hX7) (cread1 (ints_get rs j hjl))) <| SL.as rfl <| SL.nil <| T.seq <| T.region <| SL.mv rfl <| SL.mv rfl <| SL.v (op_eqlF rfl rfl (by omega)) ?_
        refine SL.nil <| T.condF rfl <| T.skip <| T.blk <| T.region <| SL.v (op_addN (q := 1) rfl rfl (by omega)) ?_
        refine SL.mv rfl <| SL.nil ?_
        exact T.backW (i - (j + 1)) (by omega) ⟨j + 1, rfl, by omega, hX7, hne2, rfl, rfl⟩ (by repeat (first | exact Sub.nil | refine Sub.cons rfl ?_))
    · obtain rfl : j = i := by omega
      refine T.seq <| T.region <| SL.v (op_lssF rfl rfl (by omega)) ?_
      refine SL.nil <| T.seq <| T.condF rfl ?_
      refine T.exit (T.exitCode (T.exitCut (T.exitBlk ?_)))
      refine T.blk <| T.region <| SL.v (op_addN (q := 1) rfl rfl (by omega)) ?_
      refine SL.mv rfl <| SL.nil ?_
      have hnd2 : (rs.take (j + 1)).Nodup := by
        rw [htk]
        refine List.nodup_append.2 ⟨hnd, by simp, fun x hx y hy hxy => ?_⟩
        obtain ⟨q, hq, rfl⟩ := List.getElem_of_mem hx
        rw [List.length_take] at hq
        rw [List.getElem_take] at hxy
        exact hne q (by omega) (by omega) (hxy.trans (List.mem_singleton.1 hy))
      exact T.backW (rs.length - (j + 1)) (by omega) ⟨j + 1, rfl, by omega, hX6.trans' hX7, hnd2, rfl, rfl⟩ (by repeat (first | exact Sub.nil | refine Sub.cons rfl ?_))
  obtain rfl : i = rs.length := by omega
  rw [List.take_of_length_le (Nat.le_refl _)] at hnd
  have e : ownK kind op n rs rows.length = if kinF kind op then 10 else 0 := by
    have h0 : ownF op n rs rows.length = 0 := by rw [ownF, if_neg c1, if_neg c2, if_neg c3, if_neg c4, if_neg (fun h => h hnd)]
    rw [ownK, h0, if_neg (fun h => h rfl)]
  rw [e]
  by_cases k3 : kind = 3
  · by_cases d4 : op = 4
    · rw [if_pos (.inl ⟨k3, .inl d4⟩)]
      refine T.seq <| T.region <| SL.v (op_lssF rfl rfl (by omega)) ?_
      refine SL.nil <| T.seq <| T.condF rfl ?_
      refine T.exit (T.exitCode (T.exitCut (T.exitBlk ?_)))
      refine T.seq <| T.seq <| T.region <| SL.mv rfl <| SL.v (op_eqlT rfl rfl (by omega)) ?_
      refine SL.mv rfl <| SL.v (op_fieldAddr fa27_0 rfl) <| SL.v (op_load ty3 rfl (by repeat constructor) rfl) ?_
      refine SL.v (op_eqlT rfl rfl (by omega)) ?_
      refine SL.mv rfl <| SL.skip rfl rfl ?_
      refine SL.skip rfl rfl ?_
      refine SL.skip rfl rfl ?_
      refine SL.v (op_pickT rfl rfl) <| SL.v (op_pickT rfl rfl) <| SL.mv rfl <| SL.skip rfl rfl ?_
      refine SL.skip rfl rfl ?_
      refine SL.skip rfl rfl ?_
      refine SL.skip rfl rfl ?_
      refine SL.skip rfl rfl ?_
      refine SL.skip rfl rfl ?_
      refine SL.skip rfl rfl ?_
      refine SL.skip rfl rfl ?_
      refine SL.skip rfl rfl ?_
      refine SL.skip rfl rfl ?_
      refine SL.skip rfl rfl ?_
      refine SL.v (op_pickT rfl rfl) <| SL.nil <| T.condT rfl <| T.seq <| T.region <| SL.v (op_assign (v := .int .i64 ((10 : Nat) : Int)) rfl) <| SL.nil <| T.ret1 rfl (ResIs.tmp rfl) ?_
      rfl
    by_cases d5 : op = 5
    · rw [if_pos (.inl ⟨k3, .inr d5⟩)]
      refine T.seq <| T.region <| SL.v (op_lssF rfl rfl (by omega)) ?_
      refine SL.nil <| T.seq <| T.condF rfl ?_
      refine T.exit (T.exitCode (T.exitCut (T.exitBlk ?_)))
      refine T.seq <| T.seq <| T.region <| SL.mv rfl <| SL.v (op_eqlT rfl rfl (by omega)) ?_
      refine SL.mv rfl <| SL.v (op_fieldAddr fa27_0 rfl) <| SL.v (op_load ty3 rfl (by repeat constructor) rfl) ?_
      refine SL.v (op_eqlF rfl rfl (by omega)) ?_
      refine SL.mv rfl <| SL.v (op_fieldAddr fa27_0 rfl) <| SL.v (op_load ty3 rfl (by repeat constructor) rfl) ?_
      refine SL.v (op_eqlT rfl rfl (by omega)) ?_
      refine SL.v (op_pickF rfl rfl) <| SL.v (op_pickT rfl rfl) <| SL.mv rfl <| SL.skip rfl rfl ?_
      refine SL.skip rfl rfl ?_
      refine SL.skip rfl rfl ?_
      refine SL.skip rfl rfl ?_
      refine SL.skip rfl rfl ?_
      refine SL.skip rfl rfl ?_
      refine SL.skip rfl rfl ?_
      refine SL.skip rfl rfl ?_
      refine SL.skip rfl rfl ?_
      refine SL.skip rfl rfl ?_
      refine SL.skip rfl rfl ?_
      refine SL.v (op_pickT rfl rfl) <| SL.nil <| T.condT rfl <| T.seq <| T.region <| SL.v (op_assign (v := .int .i64 ((10 : Nat) : Int)) rfl) <| SL.nil <| T.ret1 rfl (ResIs.tmp rfl) ?_
      rfl
    rw [if_neg (fun h => h.elim (fun h => h.2.elim d4 d5) (fun h => h.2.1 k3))]
    refine T.seq <| T.region <| SL.v (op_lssF rfl rfl (by omega)) ?_
    refine SL.nil <| T.seq <| T.condF rfl ?_
    refine T.exit (T.exitCode (T.exitCut (T.exitBlk ?_)))
    refine T.seq <| T.seq <| T.region <| SL.mv rfl <| SL.v (op_eqlT rfl rfl (by omega)) ?_
    refine SL.mv rfl <| SL.v (op_fieldAddr fa27_0 rfl) <| SL.v (op_load ty3 rfl (by repeat constructor) rfl) ?_
    refine SL.v (op_eqlF rfl rfl (by omega)) ?_
    refine SL.mv rfl <| SL.v (op_fieldAddr fa27_0 rfl) <| SL.v (op_load ty3 rfl (by repeat constructor) rfl) ?_
    refine SL.v (op_eqlF rfl rfl (by omega)) ?_
    refine SL.v (op_pickF rfl rfl) <| SL.v (op_pickT rfl rfl) <| SL.mv rfl <| SL.mv rfl <| SL.v (op_neqT rfl rfl (by omega)) ?_
    refine SL.mv rfl <| SL.mv rfl <| SL.v (op_neqF rfl rfl (by omega)) ?_
    refine SL.v (op_pickT rfl rfl) <| SL.mv rfl <| SL.skip rfl rfl ?_
    refine SL.skip rfl rfl ?_
    refine SL.skip rfl rfl ?_
    refine SL.v (op_pickF rfl rfl) <| SL.v (op_pickF rfl rfl) <| SL.nil <| T.condF rfl <| T.skip <| T.seq <| T.region <| SL.v (op_assign (v := .int .i64 ((0 : Nat) : Int)) rfl) <| SL.nil <| T.ret1 rfl (ResIs.tmp rfl) ?_
    rfl
  by_cases k0 : kind = 0
  · rw [if_neg (fun h => h.elim (fun h => k3 h.1) (fun h => h.1 k0))]
    refine T.seq <| T.region <| SL.v (op_lssF rfl rfl (by omega)) ?_
    refine SL.nil <| T.seq <| T.condF rfl ?_
    refine T.exit (T.exitCode (T.exitCut (T.exitBlk ?_)))
    refine T.seq <| T.seq <| T.region <| SL.mv rfl <| SL.v (op_eqlF rfl rfl (by omega)) ?_
    refine SL.mv rfl <| SL.skip rfl rfl ?_
    refine SL.skip rfl rfl ?_
    refine SL.skip rfl rfl ?_
    refine SL.skip rfl rfl ?_
    refine SL.skip rfl rfl ?_
    refine SL.skip rfl rfl ?_
    refine SL.skip rfl rfl ?_
    refine SL.skip rfl rfl ?_
    refine SL.v (op_pickF rfl rfl) <| SL.mv rfl <| SL.mv rfl <| SL.v (op_neqF rfl rfl (by omega)) ?_
    refine SL.mv rfl <| SL.skip rfl rfl ?_
    refine SL.skip rfl rfl ?_
    refine SL.v (op_pickF rfl rfl) <| SL.mv rfl <| SL.skip rfl rfl ?_
    refine SL.skip rfl rfl ?_
    refine SL.skip rfl rfl ?_
    refine SL.v (op_pickF rfl rfl) <| SL.v (op_pickF rfl rfl) <| SL.nil <| T.condF rfl <| T.skip <| T.seq <| T.region <| SL.v (op_assign (v := .int .i64 ((0 : Nat) : Int)) rfl) <| SL.nil <| T.ret1 rfl (ResIs.tmp rfl) ?_
    rfl
  by_cases d6 : op = 6
  · rw [if_pos (.inr ⟨k0, k3, d6⟩)]
    refine T.seq <| T.region <| SL.v (op_lssF rfl rfl (by omega)) ?_
    refine SL.nil <| T.seq <| T.condF rfl ?_
    refine T.exit (T.exitCode (T.exitCut (T.exitBlk ?_)))
    refine T.seq <| T.seq <| T.region <| SL.mv rfl <| SL.v (op_eqlF rfl rfl (by omega)) ?_
    refine SL.mv rfl <| SL.skip rfl rfl ?_
    refine SL.skip rfl rfl ?_
    refine SL.skip rfl rfl ?_
    refine SL.skip rfl rfl ?_
    refine SL.skip rfl rfl ?_
    refine SL.skip rfl rfl ?_
    refine SL.skip rfl rfl ?_
    refine SL.skip rfl rfl ?_
    refine SL.v (op_pickF rfl rfl) <| SL.mv rfl <| SL.mv rfl <| SL.v (op_neqT rfl rfl (by omega)) ?_
    refine SL.mv rfl <| SL.mv rfl <| SL.v (op_neqT rfl rfl (by omega)) ?_
    refine SL.v (op_pickT rfl rfl) <| SL.mv rfl <| SL.v (op_fieldAddr fa27_0 rfl) <| SL.v (op_load ty3 rfl (by repeat constructor) rfl) ?_
    refine SL.v (op_eqlT rfl rfl (by omega)) ?_
    refine SL.v (op_pickT rfl rfl) <| SL.v (op_pickF rfl rfl) <| SL.nil <| T.condT rfl <| T.seq <| T.region <| SL.v (op_assign (v := .int .i64 ((10 : Nat) : Int)) rfl) <| SL.nil <| T.ret1 rfl (ResIs.tmp rfl) ?_
    rfl
  rw [if_neg (fun h => h.elim (fun h => k3 h.1) (fun h => d6 h.2.2))]
  refine T.seq <| T.region <| SL.v (op_lssF rfl rfl (by omega)) ?_
  refine SL.nil <| T.seq <| T.condF rfl ?_
  refine T.exit (T.exitCode (T.exitCut (T.exitBlk ?_)))
  refine T.seq <| T.seq <| T.region <| SL.mv rfl <| SL.v (op_eqlF rfl rfl (by omega)) ?_
  refine SL.mv rfl <| SL.skip rfl rfl ?_
  refine SL.skip rfl rfl ?_
  refine SL.skip rfl rfl ?_
  refine SL.skip rfl rfl ?_
  refine SL.skip rfl rfl ?_
  refine SL.skip rfl rfl ?_
  refine SL.skip rfl rfl ?_
  refine SL.skip rfl rfl ?_
  refine SL.v (op_pickF rfl rfl) <| SL.mv rfl <| SL.mv rfl <| SL.v (op_neqT rfl rfl (by omega)) ?_
  refine SL.mv rfl <| SL.mv rfl <| SL.v (op_neqT rfl rfl (by omega)) ?_
  refine SL.v (op_pickT rfl rfl) <| SL.mv rfl <| SL.v (op_fieldAddr fa27_0 rfl) <| SL.v (op_load ty3 rfl (by repeat constructor) rfl) ?_
  refine SL.v (op_eqlF rfl rfl (by omega)) ?_
  refine SL.v (op_pickT rfl rfl) <| SL.v (op_pickF rfl rfl) <| SL.nil <| T.condF rfl <| T.skip <| T.seq <| T.region <| SL.v (op_assign (v := .int .i64 ((0 : Nat) : Int)) rfl) <| SL.nil <| T.ret1 rfl (ResIs.tmp rfl) ?_
  rfl
theorem rfinside_spec (N : Nat) : ∀ {X : PMap} {f : Fm} {r : Row4} {kind : Nat}, wtF f ≤ N → N < 1000000 → FmR .i64 X f r → Spec Tryz.prog 64 [.agg #[r.1, r.2.1, r.2.2.1, r.2.2.2], .int .i64 (kind : Int)] X fun u _ => u = .int .i64 (insF kind f) := by
  induction N with
  | zero => intro X f r kind h; have := wtF_pos f; omega
  | succ N ih =>
    intro X f r kind hN hB h
    have h0 := h
    cases h with
    | @mk op n rs al vn va rows hn ha hl hr =>
    obtain ⟨Aa, ca, rfl⟩ := ha.form
    obtain ⟨An, cn, rfl⟩ := hn.form
    have hlen := wtFL_len al
    rw [wtF] at hN
    have hnode := rfnode_spec (kind := kind) (by omega) (by omega) h0
    try simp only at hnode
    rw [insF_ownK]
    refine Spec.enter Tryz.func64 rfl Tryz.ntmps64 rfl ?_
    intro w0 hw0
    refine T.seq <| T.region <| SL.w (op_box rfl) ?_
    rintro _ _ _ ⟨B2, rfl, rfl, rfl⟩
    refine SL.v (op_assign (v := .int .i64 ((0 : Nat) : Int)) rfl) <| SL.nil <| T.seq <| T.region <| SL.v (op_load ty27 rfl (by repeat constructor) rfl) ?_
    refine SL.mv rfl <| SL.w (op_callF en114 (vs := [_, _]) rfl (hnode)) ?_
    rintro _ _ X1 ⟨rfl, hX1, rfl⟩
    by_cases c0 : ownK kind op n rs al.length = 0
    case neg =>
      rw [if_pos c0]
      refine SL.as rfl <| SL.nil <| T.seq <| T.seq <| T.region <| SL.mv rfl <| SL.v (op_neqT rfl rfl (by omega)) ?_
      refine SL.nil <| T.condT rfl <| T.seq <| T.region <| SL.mv rfl <| SL.as rfl <| SL.nil <| T.ret1 rfl (ResIs.tmp rfl) ?_
      rfl
    rw [if_neg (fun h => h c0), c0]
    refine SL.as rfl <| SL.nil <| T.seq <| T.seq <| T.region <| SL.mv rfl <| SL.v (op_neqF rfl rfl (by omega)) ?_
    refine SL.nil <| T.condF rfl <| T.skip <| T.seq <| T.seq <| T.region <| SL.v (op_fieldAddr fa27_3 rfl) <| SL.v (op_load ty25 rfl (by repeat constructor) rfl) ?_
    refine SL.v (op_lenS Tryz.underlying25 rfl) <| SL.v (op_move (v := .int .i64 ((0 : Nat) : Int)) rfl) <| SL.nil <| T.block <| T.drop B2 (by repeat constructor) ?_
    refine T.loopW (fun m env own X' => ∃ i : Nat, m = rows.length - i ∧ i ≤ rows.length ∧ X1.le X' ∧ insFL kind (al.take i) = 0 ∧ env = [(1, .int .i64 (kind : Int)), (15, .slice Aa rows.length ca), (16, .int .i64 (rows.length : Int)), (17, .int .i64 (i : Int))] ∧ own = []) rows.length ⟨0, by simp, by omega, PMap.le_refl _, rfl, rfl, rfl⟩ (by repeat (first | exact Sub.nil | refine Sub.cons rfl ?_)) ?_
    rintro m _ _ X4 ⟨i, rfl, hi, hX4, hz, rfl, rfl⟩
    rcases Nat.lt_or_ge i rows.length with hil | hil
    · obtain ⟨r2, hr2⟩ : ∃ r2, rows[i]? = some r2 := ⟨_, List.getElem?_eq_getElem hil⟩
      obtain ⟨a, ha2⟩ : ∃ a, al[i]? = some a := ⟨_, List.getElem?_eq_getElem (by omega)⟩
      have hX04 := hX1.trans' hX4
      have hra := (hr i a r2 ha2 hr2).mono hX04
      obtain ⟨bA, pre, rfl, hbA⟩ := ha.blk (by omega)
      have hwa := wtFL_mem (List.mem_of_getElem? ha2)
      have hts := take_snoc ha2
      have hih := ih (kind := kind) (by omega) (by omega) hra
      obtain ⟨_, _, _, _, _, _, _, _, rfl⟩ := hra.form
      try simp only at hih
      have hsn : insFL kind (al.take (i + 1)) = insF kind a := by
        rw [hts, insFL_app, if_neg (fun h => h hz), insFL, insFL]
        split
        · rfl
        · rename_i h; exact (Classical.not_not.1 h).symm
      by_cases hca : insF kind a = 0
      · skip
        refine T.seq <| T.region <| SL.v (op_lssT rfl rfl (by omega)) ?_
        refine SL.nil <| T.seq <| T.condT rfl <| T.skip <| T.seq <| T.block <| T.seq <| T.region <| SL.v (op_indexN Tryz.underlying25 ty27 rfl rfl (by omega)) ?_
        refine SL.v (op_loadX ty27 rfl (hbA.mono hX04) (row_read rc4_len hr2 (by omega))) ?_
        refine SL.w (op_alloc z27) ?_
        rintro _ _ _ ⟨B7, rfl, rfl, rfl⟩
        refine SL.w (op_store ty27 rfl rfl (by repeat constructor) rfl rfl rfl) ?_
        rintro _ _ _ ⟨rfl, rfl⟩
        refine SL.nil <| T.seq <| T.region <| SL.v (op_load ty27 rfl (by repeat constructor) rfl) ?_
        refine SL.mv rfl <| SL.w (op_callF en64 (vs := [_, _]) rfl (hih)) ?_
        rintro _ _ X5 ⟨rfl, hX5, rfl⟩
        rw [hca]
        refine SL.as rfl <| SL.nil <| T.seq <| T.region <| SL.mv rfl <| SL.v (op_neqF rfl rfl (by omega)) ?_
        refine SL.nil <| T.condF rfl <| T.skip <| T.blk <| T.region <| SL.v (op_addN (q := 1) rfl rfl (by omega)) ?_
        refine SL.mv rfl <| SL.nil <| T.drop B7 (by repeat constructor) ?_
        exact T.backW (rows.length - (i + 1)) (by omega) ⟨i + 1, rfl, by omega, hX4.trans' hX5, by rw [hsn, hca], rfl, rfl⟩ (by repeat (first | exact Sub.nil | refine Sub.cons rfl ?_))
      · have e : insFL kind al = insF kind a := by
          have := insFL_app kind (al.drop (i + 1)) (al.take (i + 1))
          rw [List.take_append_drop, hsn, if_pos hca] at this
          exact this
        rw [e]
        refine T.seq <| T.region <| SL.v (op_lssT rfl rfl (by omega)) ?_
        refine SL.nil <| T.seq <| T.condT rfl <| T.skip <| T.seq <| T.block <| T.seq <| T.region <| SL.v (op_indexN Tryz.underlying25 ty27 rfl rfl (by omega)) ?_
        refine SL.v (op_loadX ty27 rfl (hbA.mono hX04) (row_read rc4_len hr2 (by omega))) ?_
        refine SL.w (op_alloc z27) ?_
        rintro _ _ _ ⟨B7, rfl, rfl, rfl⟩
        refine SL.w (op_store ty27 rfl rfl (by repeat constructor) rfl rfl rfl) ?_
        rintro _ _ _ ⟨rfl, rfl⟩
        refine SL.nil <| T.seq <| T.region <| SL.v (op_load ty27 rfl (by repeat constructor) rfl) ?_
        refine SL.mv rfl <| SL.w (op_callF en64 (vs := [_, _]) rfl (hih)) ?_
        rintro _ _ X5 ⟨rfl, hX5, rfl⟩
        refine SL.as rfl <| SL.nil <| T.seq <| T.region <| SL.mv rfl <| SL.v (op_neqT rfl rfl (by omega)) ?_
        refine SL.nil <| T.condT rfl <| T.seq <| T.region <| SL.mv rfl <| SL.as rfl <| SL.nil <| T.ret1 rfl (ResIs.tmp rfl) ?_
        rfl
    · obtain rfl : i = rows.length := by omega
      rw [List.take_of_length_le (by omega)] at hz
      rw [hz]
      refine T.seq <| T.region <| SL.v (op_lssF rfl rfl (by omega)) ?_
      refine SL.nil <| T.seq <| T.condF rfl ?_
      refine T.exit (T.exitCode (T.exitCut (T.exitBlk ?_)))
      refine T.seq <| T.region <| SL.v (op_assign (v := .int .i64 ((0 : Nat) : Int)) rfl) <| SL.nil <| T.ret1 rfl (ResIs.tmp rfl) ?_
      rfl
theorem rffits_spec (N : Nat) : ∀ {X : PMap} {f : Fm} {r : Row4}, wtF f ≤ N → N < 1000000 → FmR .i64 X f r → Spec Tryz.prog 65 [.agg #[r.1, r.2.1, r.2.2.1, r.2.2.2]] X fun u _ => u = .bool (fitF f) := by
  induction N with
  | zero => intro X f r h; have := wtF_pos f; omega
  | succ N ih =>
    intro X f r hN hB h
    cases h with
    | @mk op n rs al vn va rows hn ha hl hr =>
    obtain ⟨Aa, ca, rfl⟩ := ha.form
    obtain ⟨An, cn, rfl⟩ := hn.form
    have hlen := wtFL_len al
    rw [wtF] at hN
    rw [fitF]
    refine Spec.enter Tryz.func65 rfl Tryz.ntmps65 rfl ?_
    intro w0 hw0
    refine T.seq <| T.region <| SL.w (op_box rfl) ?_
    rintro _ _ _ ⟨B1, rfl, rfl, rfl⟩
    refine SL.as rfl <| SL.nil <| T.seq <| T.region <| SL.v (op_assign (v := .int .i64 ((1 : Nat) : Int)) rfl) <| SL.nil <| T.seq <| T.meet (fun _ env own X' => X.le X' ∧ env = [(1, .pointer (some ⟨B1, 0, none⟩)), (3, .int .i64 (wanT op : Int))] ∧ own = [⟨B1, [.int .i64 (op : Int), .int .i64 n, .slice An rs.length cn, .slice Aa rows.length ca], 27, 4⟩]) ?_ ?_
    · by_cases d : 11 ≤ op
      · rw [show wanT op = 2 from if_pos d]
        refine T.seq <| T.region <| SL.v (op_fieldAddr fa27_0 rfl) <| SL.v (op_load ty3 rfl (by repeat constructor) rfl) ?_
        refine SL.v (op_geqT rfl rfl (by omega)) ?_
        refine SL.nil <| T.condT rfl <| T.region <| SL.v (op_assign (v := .int .i64 ((2 : Nat) : Int)) rfl) <| SL.nil ?_
        exact T.backW 0 (by omega) ⟨PMap.le_refl _, rfl, rfl⟩ (by repeat (first | exact Sub.nil | refine Sub.cons rfl ?_))
      · rw [show wanT op = 1 from if_neg d]
        refine T.seq <| T.region <| SL.v (op_fieldAddr fa27_0 rfl) <| SL.v (op_load ty3 rfl (by repeat constructor) rfl) ?_
        refine SL.v (op_geqF rfl rfl (by omega)) ?_
        refine SL.nil <| T.condF rfl <| T.skip ?_
        exact T.backW 0 (by omega) ⟨PMap.le_refl _, rfl, rfl⟩ (by repeat (first | exact Sub.nil | refine Sub.cons rfl ?_))
    rintro _ _ _ X3 ⟨hX3, rfl, rfl⟩
    have hw2 : wanT op ≤ 2 := by unfold wanT; split <;> omega
    refine T.seq <| T.seq <| T.region <| SL.v (op_fieldAddr fa27_3 rfl) <| SL.v (op_load ty25 rfl (by repeat constructor) rfl) ?_
    refine SL.v (op_lenS Tryz.underlying25 rfl) <| SL.v (op_move (v := .int .i64 ((0 : Nat) : Int)) rfl) <| SL.nil <| T.block <| T.drop B1 (by repeat constructor) ?_
    refine T.loopW (fun m env own X' => ∃ i : Nat, m = rows.length - i ∧ i ≤ rows.length ∧ X3.le X' ∧ fitFL (wanT op) (al.take i) = true ∧ env = [(3, .int .i64 (wanT op : Int)), (10, .slice Aa rows.length ca), (11, .int .i64 (rows.length : Int)), (12, .int .i64 (i : Int))] ∧ own = []) rows.length ⟨0, by simp, by omega, PMap.le_refl _, rfl, rfl, rfl⟩ (by repeat (first | exact Sub.nil | refine Sub.cons rfl ?_)) ?_
    rintro m _ _ X4 ⟨i, rfl, hi, hX4, hz, rfl, rfl⟩
    rcases Nat.lt_or_ge i rows.length with hil | hil
    · obtain ⟨r2, hr2⟩ : ∃ r2, rows[i]? = some r2 := ⟨_, List.getElem?_eq_getElem hil⟩
      obtain ⟨a, ha2⟩ : ∃ a, al[i]? = some a := ⟨_, List.getElem?_eq_getElem (by omega)⟩
      have hX04 := hX3.trans' hX4
      have hra := (hr i a r2 ha2 hr2).mono hX04
      obtain ⟨bA, pre, rfl, hbA⟩ := ha.blk (by omega)
      have hwa := wtFL_mem (List.mem_of_getElem? ha2)
      have hts := take_snoc ha2
      have hop := hra.op
      have hih := fun {X' : PMap} (hX : X4.le X') => ih (by omega) (by omega) (hra.mono hX)
      obtain ⟨o2, _, _, _, _, _, _, _, rfl⟩ := hra.form
      simp only [Value.int.injEq, true_and] at hop
      obtain rfl : o2 = a.op := by exact_mod_cast hop
      try simp only at hih
      have hsn : fitFL (wanT op) (al.take (i + 1)) = (decide (resT a.op = wanT op) && fitF a) := by
        rw [hts, fitFL_app, hz, fitFL, fitFL, Bool.and_true, Bool.true_and]
      have hfull : fitFL (wanT op) al = (fitFL (wanT op) (al.take (i + 1)) && fitFL (wanT op) (al.drop (i + 1))) := by
        rw [← fitFL_app, List.take_append_drop]
      have hr2' : resT a.op ≤ 2 := by unfold resT; split <;> omega
      by_cases hw : resT a.op = wanT op
      · cases hfa : fitF a with
        | true =>
          refine T.seq <| T.region <| SL.v (op_lssT rfl rfl (by omega)) ?_
          refine SL.nil <| T.seq <| T.condT rfl <| T.skip <| T.seq <| T.block <| T.seq <| T.region <| SL.v (op_indexN Tryz.underlying25 ty27 rfl rfl (by omega)) ?_
          refine SL.v (op_loadX ty27 rfl (hbA.mono hX04) (row_read rc4_len hr2 (by omega))) ?_
          refine SL.w (op_alloc z27) ?_
          rintro _ _ _ ⟨B5, rfl, rfl, rfl⟩
          refine SL.w (op_store ty27 rfl rfl (by repeat constructor) rfl rfl rfl) ?_
          rintro _ _ _ ⟨rfl, rfl⟩
          refine SL.nil <| T.seq <| T.region <| SL.v (op_fieldAddr fa27_0 rfl) <| SL.v (op_load ty3 rfl (by repeat constructor) rfl) ?_
          refine SL.w (op_callF en66 (vs := [_]) rfl (rtype_spec)) ?_
          rintro _ _ X5 ⟨rfl, hX5, rfl⟩
          refine SL.mv rfl <| SL.v (op_neqF rfl rfl (by omega)) ?_
          refine SL.mv rfl <| SL.v (op_load ty27 rfl (by repeat constructor) rfl) ?_
          refine SL.w (op_callF en65 (vs := [_]) rfl (hih hX5)) ?_
          rintro _ _ X6 ⟨rfl, hX6, rfl⟩
          rw [hfa]
          refine SL.v (op_not rfl) <| SL.v (op_pickF rfl rfl) <| SL.nil <| T.condF rfl <| T.skip <| T.blk <| T.region <| SL.v (op_addN (q := 1) rfl rfl (by omega)) ?_
          refine SL.mv rfl <| SL.nil <| T.drop B5 (by repeat constructor) ?_
          exact T.backW (rows.length - (i + 1)) (by omega) ⟨i + 1, rfl, by omega, (hX4.trans' hX5).trans' hX6, by rw [hsn, decide_eq_true hw, hfa]; rfl, rfl, rfl⟩ (by repeat (first | exact Sub.nil | refine Sub.cons rfl ?_))
        | false =>
          rw [hfull, hsn, hfa]
          refine T.seq <| T.region <| SL.v (op_lssT rfl rfl (by omega)) ?_
          refine SL.nil <| T.seq <| T.condT rfl <| T.skip <| T.seq <| T.block <| T.seq <| T.region <| SL.v (op_indexN Tryz.underlying25 ty27 rfl rfl (by omega)) ?_
          refine SL.v (op_loadX ty27 rfl (hbA.mono hX04) (row_read rc4_len hr2 (by omega))) ?_
          refine SL.w (op_alloc z27) ?_
          rintro _ _ _ ⟨B5, rfl, rfl, rfl⟩
          refine SL.w (op_store ty27 rfl rfl (by repeat constructor) rfl rfl rfl) ?_
          rintro _ _ _ ⟨rfl, rfl⟩
          refine SL.nil <| T.seq <| T.region <| SL.v (op_fieldAddr fa27_0 rfl) <| SL.v (op_load ty3 rfl (by repeat constructor) rfl) ?_
          refine SL.w (op_callF en66 (vs := [_]) rfl (rtype_spec)) ?_
          rintro _ _ X5 ⟨rfl, hX5, rfl⟩
          refine SL.mv rfl <| SL.v (op_neqF rfl rfl (by omega)) ?_
          refine SL.mv rfl <| SL.v (op_load ty27 rfl (by repeat constructor) rfl) ?_
          refine SL.w (op_callF en65 (vs := [_]) rfl (hih hX5)) ?_
          rintro _ _ X6 ⟨rfl, hX6, rfl⟩
          rw [hfa]
          refine SL.v (op_not rfl) <| SL.v (op_pickF rfl rfl) <| SL.nil <| T.condT rfl <| T.seq <| T.region <| SL.as rfl <| SL.nil <| T.ret1 rfl (ResIs.tmp rfl) ?_
          simp
      · rw [hfull, hsn, decide_eq_false hw]
        refine T.seq <| T.region <| SL.v (op_lssT rfl rfl (by omega)) ?_
        refine SL.nil <| T.seq <| T.condT rfl <| T.skip <| T.seq <| T.block <| T.seq <| T.region <| SL.v (op_indexN Tryz.underlying25 ty27 rfl rfl (by omega)) ?_
        refine SL.v (op_loadX ty27 rfl (hbA.mono hX04) (row_read rc4_len hr2 (by omega))) ?_
        refine SL.w (op_alloc z27) ?_
        rintro _ _ _ ⟨B5, rfl, rfl, rfl⟩
        refine SL.w (op_store ty27 rfl rfl (by repeat constructor) rfl rfl rfl) ?_
        rintro _ _ _ ⟨rfl, rfl⟩
        refine SL.nil <| T.seq <| T.region <| SL.v (op_fieldAddr fa27_0 rfl) <| SL.v (op_load ty3 rfl (by repeat constructor) rfl) ?_
        refine SL.w (op_callF en66 (vs := [_]) rfl (rtype_spec)) ?_
        rintro _ _ X5 ⟨rfl, hX5, rfl⟩
        refine SL.mv rfl <| SL.v (op_neqT rfl rfl (by omega)) ?_
        refine SL.mv rfl <| SL.skip rfl rfl ?_
        refine SL.skip rfl rfl ?_
        refine SL.skip rfl rfl ?_
        refine SL.v (op_pickT rfl rfl) <| SL.nil <| T.condT rfl <| T.seq <| T.region <| SL.as rfl <| SL.nil <| T.ret1 rfl (ResIs.tmp rfl) ?_
        simp
    · obtain rfl : i = rows.length := by omega
      rw [List.take_of_length_le (by omega)] at hz
      rw [hz]
      refine T.seq <| T.region <| SL.v (op_lssF rfl rfl (by omega)) ?_
      refine SL.nil <| T.seq <| T.condF rfl ?_
      refine T.exit (T.exitCode (T.exitCut (T.exitBlk ?_)))
      refine T.seq <| T.region <| SL.as rfl <| SL.nil <| T.ret1 rfl (ResIs.tmp rfl) ?_
      rfl
end Go.Proofs.YtnpcilglilfajaaGreatDoor
namespace Go.Proofs.YtnpcilglilfajaaGreatDoor
section
set_option maxRecDepth 100000
theorem bs27 : ∃ i z, Tryz.prog.info? 27 = some i ∧ i.size = 4 ∧ i.zero = some z ∧ z.cells = ([.int .i64 0, .int .i64 0, .slice none 0 0, .slice none 0 0] : List Value).toArray := bs_of (by kernel_rfl)
theorem sl25 : SlT Tryz.prog 25 27 4 64 := ⟨Tryz.underlying25, sl_of (by kernel_rfl) (by decide)⟩
theorem st27 : StT Tryz.prog 27 [(0, 1), (1, 1), (2, 1), (3, 1)] [.int .i64 0, .int .i64 0, .slice none 0 0, .slice none 0 0] := ⟨⟨_, Tryz.underlying27, fun _ => by kernel_rfl, z27⟩⟩
end
open Go.RowKit
abbrev F6 (b : Nat) (op : Nat) (n : Int) (vn va : Value) : Ow := ⟨b, [.int .i64 (op : Int), .int .i64 n, vn, va], 27, 4⟩
end Go.Proofs.YtnpcilglilfajaaGreatDoor
namespace Go.Proofs.YtnpcilglilfajaaGreatDoor
section
set_option maxRecDepth 100000
theorem bs36 : ∃ i z, Tryz.prog.info? 36 = some i ∧ i.size = 4 ∧ i.zero = some z ∧ z.cells = ([.int .u8 0, .int .i64 0, .slice none 0 0, .slice none 0 0] : List Value).toArray := bs_of (by kernel_rfl)
theorem sl34 : SlT Tryz.prog 34 36 4 64 := ⟨Tryz.underlying34, sl_of (by kernel_rfl) (by decide)⟩
theorem st36 : StT Tryz.prog 36 [(0, 1), (1, 1), (2, 1), (3, 1)] [.int .u8 0, .int .i64 0, .slice none 0 0, .slice none 0 0] := ⟨⟨_, Tryz.underlying36, fun _ => by kernel_rfl, z36⟩⟩
end
open Go.RowKit
abbrev S3F (b : Nat) (op : Nat) (n : Int) (vn va : Value) : Ow := ⟨b, [.int .u8 (op : Int), .int .i64 n, vn, va], 36, 4⟩
end Go.Proofs.YtnpcilglilfajaaGreatDoor
namespace Go.Proofs.YtnpcilglilfajaaGreatDoor
section
set_option maxRecDepth 100000
theorem en124 : Enters Tryz.prog 124 := enters_mk Tryz.func124 (by kernel_rfl) rfl
theorem en36 : Enters Tryz.prog 36 := enters_mk Tryz.func36 (by kernel_rfl) rfl
theorem en74 : Enters Tryz.prog 74 := enters_mk Tryz.func74 (by kernel_rfl) rfl
end
open Go.RowKit
abbrev S3E (b : Nat) (op : Nat) (n : Int) (vn va : Value) : Ow := ⟨b, [.int .u8 (op : Int), .int .i64 n, vn, va], 70, 4⟩
abbrev SetO (b : Nat) (A : Option Addr) (l c : Nat) : Ow := ⟨b, [.slice A l c], 53, 1⟩
theorem numb_spec (N : Nat) : ∀ {X : PMap} {e : Ex} {r : Row4} {vt vs : Value} {ns : List ByteArray} {adm : Nat}, wtE e ≤ N → N < 100000000 → ns.length ≤ 63 → TabR X vt ns → SetR X vs adm → ExR .u8 X e r → Spec Tryz.prog 74 [.agg #[r.1, r.2.1, r.2.2.1, r.2.2.2], vt, vs] X fun u X' => ∃ r' : Row4, u = .tuple #[.agg #[r'.1, r'.2.1, r'.2.2.1, r'.2.2.2], .bool (numbF ns adm e).isSome] ∧ FmR .u8 X' ((numbF ns adm e).getD zeF) r' := by
  induction N with
  | zero => intro X e r _ _ _ _ h; cases e; rw [wtE] at h; omega
  | succ N ih =>
    intro X e r vt vs ns adm hN hB h63 hT hS h
    have hmx : maxLen = 9223372036854775807 := rfl
    cases h with
    | @mk op n l al vn va rows hn ha hl hr =>
    obtain ⟨Aa, ca, rfl⟩ := ha.form
    obtain ⟨An, cn, rfl⟩ := hn.form
    obtain ⟨As, ls, cs, rfl⟩ := hS.form
    have hlen := wtL_len al
    have hnl := wtS_len l
    rw [wtE] at hN
    refine Spec.enter Tryz.func74 rfl Tryz.ntmps74 rfl ?_
    intro w0 hw0
    refine T.seq <| T.region <| SL.w (op_box rfl) ?_
    rintro _ _ _ ⟨B3, rfl, rfl, rfl⟩
    refine SL.w (op_box rfl) ?_
    rintro _ _ _ ⟨B5, rfl, rfl, rfl⟩
    refine SL.w (op_alloc z36) ?_
    rintro _ _ _ ⟨B6, rfl, rfl, rfl⟩
    refine SL.as rfl <| SL.nil <| T.seq <| T.region <| SL.v (op_fieldAddr fa70_0 rfl) <| SL.v (op_load ty33 rfl (by repeat constructor) rfl) ?_
    refine SL.v (op_fieldAddr fa70_1 rfl) <| SL.v (op_load ty3 rfl (by repeat constructor) rfl) ?_
    refine SL.v (op_build st36 (qs := [(0, _), (1, _)]) rfl rfl) <| SL.w (op_alloc z36) ?_
    rintro _ _ _ ⟨B8, rfl, rfl, rfl⟩
    refine SL.w (op_store ty36 rfl rfl (by repeat constructor) rfl rfl rfl) ?_
    rintro _ _ _ ⟨rfl, rfl⟩
    refine SL.nil <| T.seq <| T.seq <| T.region <| SL.v (op_fieldAddr fa70_2 rfl) <| SL.v (op_load ty59 rfl (by repeat constructor) rfl) ?_
    refine SL.v (op_lenS Tryz.underlying59 rfl) <| SL.v (op_move (v := .int .i64 ((0 : Nat) : Int)) rfl) <| SL.nil <| T.block <| T.loopW (fun m env own X' => ∃ (i : Nat) (vn : Value) (Gn : Own) (rs : List Nat), m = l.length - i ∧ i ≤ l.length ∧ X.le X' ∧ numbN ns adm (l.take i) = some rs ∧ rs.length = i ∧ GrowS 3 1 vn rs.length (ints rs) Gn ∧ env = [(1, vt), (3, .pointer (some ⟨B3, 0, none⟩)), (5, .pointer (some ⟨B5, 0, none⟩)), (6, .pointer (some ⟨B6, 0, none⟩)), (8, .pointer (some ⟨B8, 0, none⟩)), (23, .slice An l.length cn), (24, .int .i64 (l.length : Int)), (25, .int .i64 (i : Int))] ∧ own = S3F B8 op n vn (.slice none 0 0) :: S3F B6 0 0 (.slice none 0 0) (.slice none 0 0) :: SetO B5 As ls cs :: S3E B3 op n (.slice An l.length cn) (.slice Aa rows.length ca) :: Gn) l.length ⟨0, _, [], [], by simp, by omega, PMap.le_refl _, rfl, rfl, GrowS.nil, rfl, rfl⟩ (by repeat (first | exact Sub.nil | refine Sub.cons rfl ?_)) ?_
    rintro m _ _ X1 ⟨i, vn1, Gn, rs, rfl, hi, hX1, hrs, hrsl, hGn, rfl, rfl⟩
    obtain ⟨An1, cn1, rfl⟩ := hGn.form
    rcases Nat.lt_or_ge i l.length with hil | hil
    · obtain ⟨s, hs⟩ : ∃ s, l[i]? = some s := ⟨_, List.getElem?_eq_getElem hil⟩
      obtain ⟨bN, preN, rfl, hbN⟩ := hn.blk (by omega)
      have hple := posN_le (s := s) (ns := ns)
      refine T.seq <| T.region <| SL.v (op_lssT rfl rfl (by omega)) ?_
      refine SL.nil <| T.seq <| T.condT rfl <| T.skip <| T.seq <| T.block <| T.seq <| T.region <| SL.v (op_indexN Tryz.underlying59 ty9 rfl rfl (by omega)) ?_
      refine SL.v (op_loadX ty9 rfl (hbN.mono hX1) (str_read hs (by omega))) ?_
      refine SL.as rfl <| SL.nil <| T.seq <| T.region <| SL.mv rfl <| SL.mv rfl <| SL.w (op_callF en36 (vs := [_, _]) rfl (numT_spec (s := s) (hT.mono hX1))) ?_
      rintro _ _ X2 ⟨rfl, hX2, rfl⟩
      by_cases hp : posN s ns = 0
      · have hno := numb_no1 (op := op) (n := n) (al := al) (numbN_bad (adm := adm) hs (.inl hp))
        rw [show decide (posN s ns ≠ 0) = false from decide_eq_false (by simpa using hp)]
        refine SL.mv rfl <| SL.v (op_extract rfl rfl) <| SL.v (op_extract rfl rfl) <| SL.as rfl <| SL.as rfl <| SL.nil <| T.seq <| T.seq <| T.region <| SL.mv rfl <| SL.v (op_not rfl) <| SL.mv rfl <| SL.skip rfl rfl ?_
        refine SL.skip rfl rfl ?_
        refine SL.skip rfl rfl ?_
        refine SL.v (op_pickT rfl rfl) <| SL.nil <| T.condT rfl <| T.seq <| T.region <| SL.v (op_build st36 (qs := []) rfl rfl) <| SL.w (op_store ty36 rfl rfl (by repeat constructor) rfl rfl rfl) ?_
        rintro _ _ _ ⟨rfl, rfl⟩
        refine SL.as rfl <| SL.nil <| T.ret2 rfl (ResIs.cell rfl ty36 (by repeat constructor) rfl) (ResIs.tmp rfl) ?_
        rw [hno]
        exact ⟨_, rfl, zeF_R⟩
      rw [show decide (posN s ns ≠ 0) = true from decide_eq_true hp]
      refine SL.mv rfl <| SL.v (op_extract rfl rfl) <| SL.v (op_extract rfl rfl) <| SL.as rfl <| SL.as rfl <| SL.nil <| T.seq <| T.seq <| T.region <| SL.mv rfl <| SL.v (op_not rfl) <| SL.mv rfl <| SL.v (op_load ty53 rfl (by repeat constructor) rfl) ?_
      refine SL.mv rfl <| SL.w (op_callF en124 (vs := [_, _]) rfl (has_spec ((hS.mono hX1).mono hX2) (posN s ns : Int))) ?_
      rintro _ _ X3 ⟨rfl, hX3, rfl⟩
      by_cases hb : adm.testBit (posN s ns) = true
      · have hno := numb_no1 (op := op) (n := n) (al := al) (numbN_bad (adm := adm) hs (.inr hb))
        rw [show hasB adm (posN s ns : Int) = true by simp [hasB, hb]]
        refine SL.v (op_pickF rfl rfl) <| SL.nil <| T.condT rfl <| T.seq <| T.region <| SL.v (op_build st36 (qs := []) rfl rfl) <| SL.w (op_store ty36 rfl rfl (by repeat constructor) rfl rfl rfl) ?_
        rintro _ _ _ ⟨rfl, rfl⟩
        refine SL.as rfl <| SL.nil <| T.ret2 rfl (ResIs.cell rfl ty36 (by repeat constructor) rfl) (ResIs.tmp rfl) ?_
        rw [hno]
        exact ⟨_, rfl, zeF_R⟩
      rw [show hasB adm (posN s ns : Int) = false by simp [hasB, hb]]
      refine SL.v (op_pickF rfl rfl) <| SL.nil <| T.condF rfl <| T.skip <| T.region <| SL.v (op_fieldAddr fa36_2 rfl) <| SL.v (op_load ty24 rfl (by repeat constructor) rfl) ?_
      refine SL.mv rfl <| SL.w (op_buildSlice Tryz.underlying24 bs3 (qs := [(0, _)]) rfl rfl rfl rfl rfl) ?_
      rintro _ _ _ ⟨B46, rfl, rfl, rfl⟩
      refine SL.w (op_appendGA (own0 := [_, _, _, _, _]) (m := 1) sl24 rfl hGn rfl (Src.ofOwn0 AtO.here rfl) (by intro y hy; have hy : y ∈ [Value.int _ _] := hy; simp only [List.mem_cons, List.not_mem_nil, or_false] at hy; rcases hy with rfl; rfl) (by omega) (by omega)) ?_
      rintro vn9 _ _ ⟨Gn9, rfl, rfl, hGn9⟩
      obtain ⟨An9, cn9, rfl⟩ := hGn9.form
      refine SL.v (op_fieldAddr fa36_2 rfl) <| SL.w (op_store ty24 rfl rfl (by repeat constructor) rfl rfl rfl) ?_
      rintro _ _ _ ⟨rfl, rfl⟩
      refine SL.nil <| T.blk <| T.region <| SL.v (op_addN (q := 1) rfl rfl (by omega)) ?_
      refine SL.mv rfl <| SL.nil <| T.less (List.sublist_cons_self _ _) ?_
      have hGn10 : GrowS 3 1 (.slice An9 (rs.length + 1) cn9) (rs ++ [posN s ns]).length (ints (rs ++ [posN s ns])) Gn9 := by
        rw [List.length_append, show ints (rs ++ [posN s ns]) = ints rs ++ ints [posN s ns] by simp [ints]]
        exact hGn9
      exact T.backW (l.length - (i + 1)) (by omega) ⟨i + 1, _, _, rs ++ [posN s ns], rfl, by omega, (hX1.trans' hX2).trans' hX3, numbN_snoc hs (fun h => h.elim hp hb) hrs, by rw [List.length_append, hrsl]; rfl, hGn10, rfl, rfl⟩ (by repeat (first | exact Sub.nil | refine Sub.cons rfl ?_))
    obtain rfl : i = l.length := by omega
    rw [List.take_of_length_le (by omega)] at hrs
    refine T.seq <| T.region <| SL.v (op_lssF rfl rfl (by omega)) ?_
    refine SL.nil <| T.seq <| T.condF rfl ?_
    refine T.exit (T.exitCode (T.exitCut (T.exitBlk ?_)))
    refine T.seq <| T.seq <| T.region <| SL.v (op_fieldAddr fa70_3 rfl) <| SL.v (op_load ty68 rfl (by repeat constructor) rfl) ?_
    refine SL.v (op_lenS Tryz.underlying68 rfl) <| SL.v (op_move (v := .int .i64 ((0 : Nat) : Int)) rfl) <| SL.nil <| T.block <| T.pubG (own0 := [_, _, _, _]) hGn ?_
    intro Y1 hY1 hS1
    have hXY := hX1.trans' hY1
    have hN1 := IntsR.ofG hGn hS1
    obtain ⟨vn8, hvn8⟩ : ∃ v, v = Value.slice An1 rs.length cn1 := ⟨_, rfl⟩
    refine T.drop B3 (by repeat constructor) ?_
    refine T.loopW (fun m env own X' => ∃ (i : Nat) (va : Value) (Ga : Own) (bl : List Fm) (qs : List Row4), m = rows.length - i ∧ i ≤ rows.length ∧ Y1.le X' ∧ numbL ns adm (al.take i) = some bl ∧ bl.length = i ∧ qs.length = i ∧ GrowS 36 4 va qs.length (qs.map rc4).flatten Ga ∧ (∀ (q : Nat) (a : Fm) (r : Row4), bl[q]? = some a → qs[q]? = some r → FmR .u8 X' a r) ∧ env = [(1, vt), (5, .pointer (some ⟨B5, 0, none⟩)), (6, .pointer (some ⟨B6, 0, none⟩)), (8, .pointer (some ⟨B8, 0, none⟩)), (51, .slice Aa rows.length ca), (52, .int .i64 (rows.length : Int)), (53, .int .i64 (i : Int))] ∧ own = S3F B8 op n (.slice An1 rs.length cn1) va :: S3F B6 0 0 (.slice none 0 0) (.slice none 0 0) :: SetO B5 As ls cs :: Ga) rows.length ⟨0, _, [], [], [], by simp, by omega, PMap.le_refl _, rfl, rfl, rfl, GrowS.nil, fun q a r _ h => by simp at h, rfl, rfl⟩ (by repeat (first | exact Sub.nil | refine Sub.cons rfl ?_)) ?_
    rintro m _ _ X2 ⟨i, va, Ga, bl, qs, rfl, hi, hX2, hbl, hbll, hqsl, hGa, hqs, rfl, rfl⟩
    obtain ⟨Aa7, ca7, rfl⟩ := hGa.form
    rcases Nat.lt_or_ge i rows.length with hil | hil
    · obtain ⟨r2, hr2⟩ : ∃ r2, rows[i]? = some r2 := ⟨_, List.getElem?_eq_getElem hil⟩
      obtain ⟨a, ha2⟩ : ∃ a, al[i]? = some a := ⟨_, List.getElem?_eq_getElem (by omega)⟩
      have hra := (hr i a r2 ha2 hr2).mono (hXY.trans' hX2)
      obtain ⟨bA, pre, rfl, hbA⟩ := ha.blk (by omega)
      have hma := List.mem_of_getElem? ha2
      have hwa := wtL_mem hma
      have hih := ih (by omega) (by omega) h63 (hT.mono (hXY.trans' hX2)) (hS.mono (hXY.trans' hX2)) hra
      obtain ⟨_, _, _, _, _, _, _, _, rfl⟩ := hra.form
      try simp only at hih
      refine T.seq <| T.region <| SL.v (op_lssT rfl rfl (by omega)) ?_
      refine SL.nil <| T.seq <| T.condT rfl <| T.skip <| T.seq <| T.block <| T.seq <| T.region <| SL.v (op_indexN Tryz.underlying68 ty70 rfl rfl (by omega)) ?_
      refine SL.v (op_loadX ty70 rfl (hbA.mono (hXY.trans' hX2)) (row_read rc4_len hr2 (by omega))) ?_
      refine SL.w (op_alloc z70) ?_
      rintro _ _ _ ⟨B14, rfl, rfl, rfl⟩
      refine SL.w (op_store ty70 rfl rfl (by repeat constructor) rfl rfl rfl) ?_
      rintro _ _ _ ⟨rfl, rfl⟩
      refine SL.nil <| T.seq <| T.region <| SL.v (op_load ty70 rfl (by repeat constructor) rfl) ?_
      refine SL.mv rfl <| SL.v (op_load ty53 rfl (by repeat constructor) rfl) ?_
      refine SL.w (op_callF en74 (vs := [_, _, _]) rfl (hih)) ?_
      rintro _ _ X3 ⟨rfl, hX3, r8, rfl, hr8⟩
      obtain ⟨o8, n8, a8, b8, l8, c8, l9, c9, rfl⟩ := hr8.form
      cases hnf : numbF ns adm a with
      | none =>
        have hno := numb_no2 (op := op) (n := n) (l := l) (numbL_bad (adm := adm) ha2 hnf)
        rw [Option.isSome_none]
        refine SL.mv rfl <| SL.v (op_extract rfl rfl) <| SL.v (op_extract rfl rfl) <| SL.w (op_alloc z36) ?_
        rintro _ _ _ ⟨B15, rfl, rfl, rfl⟩
        refine SL.w (op_store ty36 rfl rfl (by repeat constructor) rfl rfl rfl) ?_
        rintro _ _ _ ⟨rfl, rfl⟩
        refine SL.as rfl <| SL.nil <| T.seq <| T.seq <| T.region <| SL.mv rfl <| SL.v (op_not rfl) <| SL.nil <| T.condT rfl <| T.seq <| T.region <| SL.v (op_build st36 (qs := []) rfl rfl) <| SL.w (op_store ty36 rfl rfl (by repeat constructor) rfl rfl rfl) ?_
        rintro _ _ _ ⟨rfl, rfl⟩
        refine SL.as rfl <| SL.nil <| T.ret2 rfl (ResIs.cell rfl ty36 (by repeat constructor) rfl) (ResIs.tmp rfl) ?_
        rw [hno]
        exact ⟨_, rfl, zeF_R⟩
      | some f =>
        rw [hnf] at hr8
        rw [Option.isSome_some]
        refine SL.mv rfl <| SL.v (op_extract rfl rfl) <| SL.v (op_extract rfl rfl) <| SL.w (op_alloc z36) ?_
        rintro _ _ _ ⟨B15, rfl, rfl, rfl⟩
        refine SL.w (op_store ty36 rfl rfl (by repeat constructor) rfl rfl rfl) ?_
        rintro _ _ _ ⟨rfl, rfl⟩
        refine SL.as rfl <| SL.nil <| T.seq <| T.seq <| T.region <| SL.mv rfl <| SL.v (op_not rfl) <| SL.nil <| T.condF rfl <| T.skip <| T.region <| SL.v (op_fieldAddr fa36_3 rfl) <| SL.v (op_load ty34 rfl (by repeat constructor) rfl) ?_
        refine SL.v (op_load ty36 rfl (by repeat constructor) rfl) ?_
        refine SL.w (op_buildSlice Tryz.underlying34 bs36 (qs := [(0, _)]) rfl rfl rfl rfl rfl) ?_
        rintro _ _ _ ⟨B70, rfl, rfl, rfl⟩
        refine SL.w (op_appendGA (own0 := [_, _, _, _, _, _]) (m := 1) sl34 rfl hGa rfl (Src.ofOwn0 AtO.here rfl) (by intro y hy; have hy : y ∈ [Value.int _ _, Value.int _ _, Value.slice _ _ _, Value.slice _ _ _] := hy; simp only [List.mem_cons, List.not_mem_nil, or_false] at hy; rcases hy with rfl | rfl | rfl | rfl <;> rfl) (by omega) (by omega)) ?_
        rintro va9 _ _ ⟨Ga9, rfl, rfl, hGa9⟩
        obtain ⟨Aa9, ca9, rfl⟩ := hGa9.form
        refine SL.v (op_fieldAddr fa36_3 rfl) <| SL.w (op_store ty34 rfl rfl (by repeat constructor) rfl rfl rfl) ?_
        rintro _ _ _ ⟨rfl, rfl⟩
        refine SL.nil <| T.blk <| T.region <| SL.v (op_addN (q := 1) rfl rfl (by omega)) ?_
        refine SL.mv rfl <| SL.nil <| T.less (List.sublist_cons_self _ _) ?_
        refine T.less (List.sublist_cons_self _ _) ?_
        refine T.less (List.sublist_cons_self _ _) ?_
        have hGa10 : GrowS 36 4 (.slice Aa9 (qs.length + 1) ca9) (qs ++ [((.int .u8 (o8 : Int), .int .i64 n8, .slice a8 l8 c8, .slice b8 l9 c9) : Row4)]).length (((qs ++ [((.int .u8 (o8 : Int), .int .i64 n8, .slice a8 l8 c8, .slice b8 l9 c9) : Row4)]).map rc4).flatten) Ga9 := by
          rw [List.length_append, List.map_append, List.flatten_append]
          exact hGa9
        have hrows2 : ∀ (q : Nat) (a : Fm) (r : Row4), (bl ++ [f])[q]? = some a → (qs ++ [((.int .u8 (o8 : Int), .int .i64 n8, .slice a8 l8 c8, .slice b8 l9 c9) : Row4)])[q]? = some r → FmR .u8 X3 a r := rows_snoc2 (by omega) (fun q a r h1 h2 => (hqs q a r h1 h2).mono hX3) hr8
        exact T.backW (rows.length - (i + 1)) (by omega) ⟨i + 1, _, _, bl ++ [f], qs ++ [(.int .u8 (o8 : Int), .int .i64 n8, .slice a8 l8 c8, .slice b8 l9 c9)], rfl, by omega, hX2.trans' hX3, numbL_snoc ha2 hnf hbl, by rw [List.length_append, hbll]; rfl, by rw [List.length_append, hqsl]; rfl, hGa10, hrows2, rfl, rfl⟩ (by repeat (first | exact Sub.nil | refine Sub.cons rfl ?_))
    · obtain rfl : i = rows.length := by omega
      rw [List.take_of_length_le (by omega)] at hbl
      refine T.seq <| T.region <| SL.v (op_lssF rfl rfl (by omega)) ?_
      refine SL.nil <| T.seq <| T.condF rfl ?_
      refine T.exit (T.exitCode (T.exitCut (T.exitBlk ?_)))
      refine T.seq <| T.region <| SL.v (op_load ty36 rfl (by repeat constructor) rfl) ?_
      refine SL.w (op_store ty36 rfl rfl (by repeat constructor) rfl rfl rfl) ?_
      rintro _ _ _ ⟨rfl, rfl⟩
      refine SL.as rfl <| SL.nil <| T.pubG (own0 := [_, _, _]) hGa ?_
      intro X9 hX9 hS9
      refine T.ret2 rfl (ResIs.cell rfl ty36 (by repeat constructor) rfl) (ResIs.tmp rfl) ?_
      have hA : RowR rc4 X9 (.slice Aa7 qs.length ca7) qs := RowR.ofG hGa hS9
      rw [numb_mk hrs hbl]
      exact ⟨(.int .u8 (op : Int), .int .i64 n, .slice An1 rs.length cn1, .slice Aa7 qs.length ca7), rfl, .mk ((hN1.mono hX2).mono hX9) hA (hqsl.trans hbll.symm) (fun q a r h1 h2 => (hqs q a r h1 h2).mono hX9)⟩
end Go.Proofs.YtnpcilglilfajaaGreatDoor
namespace Go.Proofs.YtnpcilglilfajaaGreatDoor
section
set_option maxRecDepth 100000
theorem en34 : Enters Tryz.prog 34 := enters_mk Tryz.func34 (by kernel_rfl) rfl
theorem en67 : Enters Tryz.prog 67 := enters_mk Tryz.func67 (by kernel_rfl) rfl
end
open Go.RowKit
/-- The small numbers of a list, as a set. -/
def msk64 (l : List Nat) : Nat := mskF (l.filter fun r => decide (r < 64))
mutual
/-- The roles below 64 that a formula mentions. -/
def men64 : Fm → Nat
  | .mk _ _ rs al => msk64 rs ||| men64L al
def men64L : List Fm → Nat
  | [] => 0
  | a :: al => men64 a ||| men64L al
end
theorem men64L_app (b : List Fm) : ∀ l : List Fm, men64L (l ++ b) = men64L l ||| men64L b
  | [] => by simp [men64L]
  | a :: l => by rw [List.cons_append, men64L, men64L, men64L_app b l, Nat.or_assoc]
theorem mskF_snoc (l : List Nat) (r : Nat) : mskF (l ++ [r]) = mskF l ||| 2 ^ r := by rw [mskF, List.foldl_append]; rfl
theorem msk64_snoc (l : List Nat) (r : Nat) : msk64 (l ++ [r]) = if r < 64 then msk64 l ||| 2 ^ r else msk64 l := by
  rw [msk64, List.filter_append]
  by_cases h : r < 64
  · rw [if_pos h, List.filter_cons_of_pos (by simpa using h), List.filter_nil, mskF_snoc]; rfl
  · rw [if_neg h, List.filter_cons_of_neg (by simpa using h), List.filter_nil, List.append_nil]; rfl
theorem msk64_lt (l : List Nat) : msk64 l < 18446744073709551616 := maskOf_lt _ fun i hi => by simpa using (List.mem_filter.1 hi).2
theorem or64 {a b : Nat} (ha : a < 18446744073709551616) (hb : b < 18446744073709551616) : a ||| b < 18446744073709551616 := Nat.or_lt_two_pow (n := 64) ha hb
mutual
theorem men64_lt : ∀ f : Fm, men64 f < 18446744073709551616
  | .mk _ _ rs al => by rw [men64]; exact or64 (msk64_lt rs) (men64L_lt al)
theorem men64L_lt : ∀ l : List Fm, men64L l < 18446744073709551616
  | [] => by rw [men64L]; omega
  | a :: l => by rw [men64L]; exact or64 (men64_lt a) (men64L_lt l)
end
mutual
theorem men64_eq : ∀ f : Fm, rolF f → men64 f = menF f
  | .mk _ _ rs al, h => by
    rw [rolF] at h
    rw [men64, menF, men64L_eq al h.2, msk64, List.filter_eq_self.2 (fun r hr => by simpa using h.1 r hr)]
theorem men64L_eq : ∀ l : List Fm, rolFL l → men64L l = menFL l
  | [], _ => by rw [men64L, menFL]
  | a :: l, h => by
    rw [rolFL] at h
    rw [men64L, menFL, men64_eq a h.1, men64L_eq l h.2]
end
theorem rment_spec (N : Nat) : ∀ {X : PMap} {f : Fm} {r : Row4}, wtF f ≤ N → N < 1000000 → FmR .i64 X f r → Spec Tryz.prog 34 [.agg #[r.1, r.2.1, r.2.2.1, r.2.2.2]] X fun u _ => u = .int .u64 (men64 f : Int) := by
  induction N with
  | zero => intro X f r h; have := wtF_pos f; omega
  | succ N ih =>
    intro X f r hN hB h
    cases h with
    | @mk op n rs al vn va rows hn ha hl hr =>
    obtain ⟨Aa, ca, rfl⟩ := ha.form
    obtain ⟨An, cn, rfl⟩ := hn.form
    have hlen := wtFL_len al
    rw [wtF] at hN
    rw [men64]
    refine Spec.enter Tryz.func34 rfl Tryz.ntmps34 rfl ?_
    intro w0 hw0
    refine T.seq <| T.region <| SL.w (op_box rfl) ?_
    rintro _ _ _ ⟨B1, rfl, rfl, rfl⟩
    refine SL.v (op_assign (v := .int .u64 ((0 : Nat) : Int)) rfl) <| SL.nil <| T.seq <| T.region <| SL.v (op_assign (v := .int .u64 ((0 : Nat) : Int)) rfl) <| SL.nil <| T.seq <| T.seq <| T.region <| SL.v (op_fieldAddr fa27_2 rfl) <| SL.v (op_load ty24 rfl (by repeat constructor) rfl) ?_
    refine SL.v (op_lenS Tryz.underlying24 rfl) <| SL.v (op_move (v := .int .i64 ((0 : Nat) : Int)) rfl) <| SL.nil <| T.block <| T.loopW (fun m env own X' => ∃ i : Nat, m = rs.length - i ∧ i ≤ rs.length ∧ X.le X' ∧ env = [(1, .pointer (some ⟨B1, 0, none⟩)), (3, .int .u64 (msk64 (rs.take i) : Int)), (9, .slice An rs.length cn), (10, .int .i64 (rs.length : Int)), (11, .int .i64 (i : Int))] ∧ own = [⟨B1, [.int .i64 (op : Int), .int .i64 n, .slice An rs.length cn, .slice Aa rows.length ca], 27, 4⟩]) rs.length ⟨0, by simp, by omega, PMap.le_refl _, rfl, rfl⟩ (by repeat (first | exact Sub.nil | refine Sub.cons rfl ?_)) ?_
    rintro m _ _ X1 ⟨i, rfl, hi, hX1, rfl, rfl⟩
    rcases Nat.lt_or_ge i rs.length with hil | hil
    · obtain ⟨b, rfl, hB⟩ := hn.blk (by omega)
      have htk : rs.take (i + 1) = rs.take i ++ [rs[i]] := List.take_succ_eq_append_getElem hil
      have hms := msk64_snoc (rs.take i) rs[i]
      have hlt := msk64_lt (rs.take i)
      by_cases h64 : rs[i] < 64
      · rw [if_pos h64] at hms
        have hp : 2 ^ rs[i] < 18446744073709551616 := Nat.pow_lt_pow_right (a := 2) (by omega) h64
        refine T.seq <| T.region <| SL.v (op_lssT rfl rfl (by omega)) ?_
        refine SL.nil <| T.seq <| T.condT rfl <| T.skip <| T.seq <| T.block <| T.seq <| T.region <| SL.v (op_indexN Tryz.underlying24 ty3 rfl rfl (by omega)) ?_
        refine SL.v (op_loadX ty3 rfl (hB.mono hX1) (cread1 (ints_get rs i hil))) <| SL.as rfl <| SL.nil <| T.seq <| T.region <| SL.mv rfl <| SL.v (op_geqT rfl rfl (by omega)) ?_
        refine SL.mv rfl <| SL.mv rfl <| SL.v (op_lssT rfl rfl (by omega)) ?_
        refine SL.v (op_pickT rfl rfl) <| SL.nil <| T.condT rfl <| T.region <| SL.mv rfl <| SL.mv rfl <| SL.v (op_bit (q := rs[i]) rfl rfl h64) <| SL.v (op_or rfl rfl hlt hp) <| SL.as rfl <| SL.nil <| T.blk <| T.region <| SL.v (op_addN (q := 1) rfl rfl (by omega)) ?_
        refine SL.mv rfl <| SL.nil ?_
        exact T.backW (rs.length - (i + 1)) (by omega) ⟨i + 1, rfl, by omega, hX1, by rw [htk, hms], rfl⟩ (by repeat (first | exact Sub.nil | refine Sub.cons rfl ?_))
      · rw [if_neg h64] at hms
        refine T.seq <| T.region <| SL.v (op_lssT rfl rfl (by omega)) ?_
        refine SL.nil <| T.seq <| T.condT rfl <| T.skip <| T.seq <| T.block <| T.seq <| T.region <| SL.v (op_indexN Tryz.underlying24 ty3 rfl rfl (by omega)) ?_
        refine SL.v (op_loadX ty3 rfl (hB.mono hX1) (cread1 (ints_get rs i hil))) <| SL.as rfl <| SL.nil <| T.seq <| T.region <| SL.mv rfl <| SL.v (op_geqT rfl rfl (by omega)) ?_
        refine SL.mv rfl <| SL.mv rfl <| SL.v (op_lssF rfl rfl (by omega)) ?_
        refine SL.v (op_pickT rfl rfl) <| SL.nil <| T.condF rfl <| T.skip <| T.blk <| T.region <| SL.v (op_addN (q := 1) rfl rfl (by omega)) ?_
        refine SL.mv rfl <| SL.nil ?_
        exact T.backW (rs.length - (i + 1)) (by omega) ⟨i + 1, rfl, by omega, hX1, by rw [htk, hms], rfl⟩ (by repeat (first | exact Sub.nil | refine Sub.cons rfl ?_))
    obtain rfl : i = rs.length := by omega
    rw [List.take_of_length_le (Nat.le_refl _)]
    have hlt := msk64_lt rs
    refine T.seq <| T.region <| SL.v (op_lssF rfl rfl (by omega)) ?_
    refine SL.nil <| T.seq <| T.condF rfl ?_
    refine T.exit (T.exitCode (T.exitCut (T.exitBlk ?_)))
    refine T.seq <| T.seq <| T.region <| SL.v (op_fieldAddr fa27_3 rfl) <| SL.v (op_load ty25 rfl (by repeat constructor) rfl) ?_
    refine SL.v (op_lenS Tryz.underlying25 rfl) <| SL.v (op_move (v := .int .i64 ((0 : Nat) : Int)) rfl) <| SL.nil <| T.block <| T.drop B1 (by repeat constructor) ?_
    refine T.loopW (fun m env own X' => ∃ i : Nat, m = rows.length - i ∧ i ≤ rows.length ∧ X1.le X' ∧ env = [(3, .int .u64 ((msk64 rs ||| men64L (al.take i) : Nat) : Int)), (27, .slice Aa rows.length ca), (28, .int .i64 (rows.length : Int)), (29, .int .i64 (i : Int))] ∧ own = []) rows.length ⟨0, by simp, by omega, PMap.le_refl _, by rw [List.take_zero, men64L, Nat.or_zero], rfl⟩ (by repeat (first | exact Sub.nil | refine Sub.cons rfl ?_)) ?_
    rintro m _ _ X4 ⟨i, rfl, hi, hX4, rfl, rfl⟩
    rcases Nat.lt_or_ge i rows.length with hil | hil
    · obtain ⟨r2, hr2⟩ : ∃ r2, rows[i]? = some r2 := ⟨_, List.getElem?_eq_getElem hil⟩
      obtain ⟨a, ha2⟩ : ∃ a, al[i]? = some a := ⟨_, List.getElem?_eq_getElem (by omega)⟩
      have hX04 := hX1.trans' hX4
      have hra := (hr i a r2 ha2 hr2).mono hX04
      have hma := List.mem_of_getElem? ha2
      obtain ⟨bA, pre, rfl, hbA⟩ := ha.blk (by omega)
      have hwa := wtFL_mem hma
      have hts := take_snoc ha2
      have hih := ih (by omega) (by omega) hra
      obtain ⟨_, _, _, _, _, _, _, _, rfl⟩ := hra.form
      try simp only at hih
      refine T.seq <| T.region <| SL.v (op_lssT rfl rfl (by omega)) ?_
      refine SL.nil <| T.seq <| T.condT rfl <| T.skip <| T.seq <| T.block <| T.seq <| T.region <| SL.v (op_indexN Tryz.underlying25 ty27 rfl rfl (by omega)) ?_
      refine SL.v (op_loadX ty27 rfl (hbA.mono hX04) (row_read rc4_len hr2 (by omega))) ?_
      refine SL.w (op_alloc z27) ?_
      rintro _ _ _ ⟨B7, rfl, rfl, rfl⟩
      refine SL.w (op_store ty27 rfl rfl (by repeat constructor) rfl rfl rfl) ?_
      rintro _ _ _ ⟨rfl, rfl⟩
      refine SL.nil <| T.region <| SL.mv rfl <| SL.v (op_load ty27 rfl (by repeat constructor) rfl) ?_
      refine SL.w (op_callF en34 (vs := [_]) rfl (hih)) ?_
      rintro _ _ X5 ⟨rfl, hX5, rfl⟩
      refine SL.v (op_or rfl rfl (or64 hlt (men64L_lt _)) (men64_lt a)) <| SL.as rfl <| SL.nil <| T.blk <| T.region <| SL.v (op_addN (q := 1) rfl rfl (by omega)) ?_
      refine SL.mv rfl <| SL.nil <| T.drop B7 (by repeat constructor) ?_
      exact T.backW (rows.length - (i + 1)) (by omega) ⟨i + 1, rfl, by omega, hX4.trans' hX5, by rw [hts, men64L_app, men64L, men64L, Nat.or_zero, ← Nat.or_assoc], rfl⟩ (by repeat (first | exact Sub.nil | refine Sub.cons rfl ?_))
    · obtain rfl : i = rows.length := by omega
      rw [List.take_of_length_le (by omega)]
      refine T.seq <| T.region <| SL.v (op_lssF rfl rfl (by omega)) ?_
      refine SL.nil <| T.seq <| T.condF rfl ?_
      refine T.exit (T.exitCode (T.exitCut (T.exitBlk ?_)))
      refine T.seq <| T.region <| SL.mv rfl <| SL.as rfl <| SL.nil <| T.ret1 rfl (ResIs.tmp rfl) ?_
      rfl
theorem cntB_succ (n m : Nat) : cntB (n + 1) m = cntB n m + (if m.testBit n then 1 else 0) := by
  rw [cntB, List.range_succ, List.countP_append, List.countP_singleton]; rfl
theorem rpopc_spec {X : PMap} {m : Nat} (hm : m < 18446744073709551616) : Spec Tryz.prog 67 [.int .u64 (m : Int)] X fun u _ => u = .int .i64 (cntB 64 m : Int) := by
  refine Spec.enter Tryz.func67 rfl Tryz.ntmps67 rfl ?_
  intro w0 hw0
  refine T.seq <| T.region <| SL.v (op_assign (v := .int .i64 ((0 : Nat) : Int)) rfl) <| SL.nil <| T.seq <| T.region <| SL.v (op_assign (v := .int .i64 ((0 : Nat) : Int)) rfl) <| SL.nil <| T.seq <| T.seq <| T.region <| SL.v (op_assign (v := .int .i64 ((0 : Nat) : Int)) rfl) <| SL.nil <| T.block <| T.loopW (fun q env own X' => ∃ i : Nat, q = 64 - i ∧ i ≤ 64 ∧ X.le X' ∧ env = [(0, .int .u64 (m : Int)), (3, .int .i64 (cntB i m : Int)), (4, .int .i64 (i : Int))] ∧ own = []) 64 ⟨0, by omega, by omega, PMap.le_refl _, rfl, rfl⟩ (by repeat (first | exact Sub.nil | refine Sub.cons rfl ?_)) ?_
  rintro q _ _ X1 ⟨i, rfl, hi, hX1, rfl, rfl⟩
  have hle : cntB i m ≤ i := Nat.le_trans List.countP_le_length (by rw [List.length_range]; exact Nat.le_refl _)
  rcases Nat.lt_or_ge i 64 with hil | hil
  · have hs := cntB_succ i m
    have htb : m.testBit i = decide ((m >>> i) % 2 = 1) := by
      rw [Nat.testBit_eq_decide_div_mod_eq, Nat.shiftRight_eq_div_pow]
    have hsh : m >>> i < 18446744073709551616 := Nat.lt_of_le_of_lt (Nat.shiftRight_le ..) hm
    have h2 : (m >>> i) % 2 < 2 := Nat.mod_lt _ (by omega)
    by_cases hb : (m >>> i) % 2 = 1
    · rw [htb, decide_eq_true hb, if_pos rfl] at hs
      refine T.seq <| T.seq <| T.region <| SL.mv rfl <| SL.v (op_lssT rfl rfl (by omega)) ?_
      refine SL.nil <| T.condT rfl <| T.skip <| T.seq <| T.block <| T.seq <| T.region <| SL.mv rfl <| SL.mv rfl <| SL.v (op_shrN (q := i) rfl rfl hil) <| SL.v (op_remN (p := m >>> i) (q := 2) rfl rfl rfl (by omega)) ?_
      refine SL.v (op_eqlT rfl rfl (by omega)) ?_
      refine SL.nil <| T.condT rfl <| T.region <| SL.mv rfl <| SL.v (op_addN (q := 1) rfl rfl (by omega)) ?_
      refine SL.as rfl <| SL.nil <| T.blk <| T.region <| SL.mv rfl <| SL.v (op_addN (q := 1) rfl rfl (by omega)) ?_
      refine SL.as rfl <| SL.nil ?_
      exact T.backW (64 - (i + 1)) (by omega) ⟨i + 1, rfl, by omega, hX1, by rw [hs], rfl⟩ (by repeat (first | exact Sub.nil | refine Sub.cons rfl ?_))
    · rw [htb, decide_eq_false hb, if_neg (by simp)] at hs
      refine T.seq <| T.seq <| T.region <| SL.mv rfl <| SL.v (op_lssT rfl rfl (by omega)) ?_
      refine SL.nil <| T.condT rfl <| T.skip <| T.seq <| T.block <| T.seq <| T.region <| SL.mv rfl <| SL.mv rfl <| SL.v (op_shrN (q := i) rfl rfl hil) <| SL.v (op_remN (p := m >>> i) (q := 2) rfl rfl rfl (by omega)) ?_
      refine SL.v (op_eqlF rfl rfl (by omega)) ?_
      refine SL.nil <| T.condF rfl <| T.skip <| T.blk <| T.region <| SL.mv rfl <| SL.v (op_addN (q := 1) rfl rfl (by omega)) ?_
      refine SL.as rfl <| SL.nil ?_
      exact T.backW (64 - (i + 1)) (by omega) ⟨i + 1, rfl, by omega, hX1, by rw [hs], rfl⟩ (by repeat (first | exact Sub.nil | refine Sub.cons rfl ?_))
  · obtain rfl : i = 64 := by omega
    refine T.seq <| T.seq <| T.region <| SL.mv rfl <| SL.v (op_lssF rfl rfl (by omega)) ?_
    refine SL.nil <| T.condF rfl ?_
    refine T.exit (T.exitCode (T.exitCut (T.exitBlk ?_)))
    refine T.seq <| T.region <| SL.mv rfl <| SL.as rfl <| SL.nil <| T.ret1 rfl (ResIs.tmp rfl) ?_
    rfl
theorem rfchk_spec {X : PMap} {f : Fm} {r : Row4} {kind : Nat} (hw : wtF f < 1000000) (h : FmR .i64 X f r) : Spec Tryz.prog 19 [.agg #[r.1, r.2.1, r.2.2.1, r.2.2.2], .int .i64 (kind : Int)] X fun u _ => u = .int .i64 (chkF kind f) := by
  have hd := fun {X' : PMap} (hX : X.le X') => rdep_spec (wtF f) (Nat.le_refl _) (by omega) (h.mono hX)
  have hs := fun {X' : PMap} (hX : X.le X') => rsiz_spec (wtF f) (Nat.le_refl _) (by omega) (h.mono hX)
  have hc1 := fun {X' : PMap} (hX : X.le X') => rfinside_spec (kind := kind) (wtF f) (Nat.le_refl _) hw (h.mono hX)
  have hc2 := fun {X' : PMap} (hX : X.le X') => rffits_spec (wtF f) (Nat.le_refl _) (by omega) (h.mono hX)
  have hc3 := fun {X' : PMap} (hX : X.le X') => rment_spec (wtF f) (Nat.le_refl _) (by omega) (h.mono hX)
  have hop := h.op
  have q1 := siz_wtF f
  have q3 := dep_wtF f
  have hr2 : resT f.op ≤ 2 := by unfold resT; split <;> omega
  obtain ⟨o, n, A, B, l, c, l', c', rfl⟩ := h.form
  simp only [Value.int.injEq, true_and] at hop
  obtain rfl : o = f.op := by exact_mod_cast hop
  try simp only at hd
  try simp only at hs
  try simp only at hc1
  try simp only at hc2
  try simp only at hc3
  by_cases k1 : kind < 1
  · rw [chkF, if_pos (.inl k1)]
    refine Spec.enter Tryz.func19 rfl Tryz.ntmps19 rfl ?_
    intro w0 hw0
    refine T.seq <| T.region <| SL.w (op_box rfl) ?_
    rintro _ _ _ ⟨B2, rfl, rfl, rfl⟩
    refine SL.v (op_assign (v := .int .i64 ((0 : Nat) : Int)) rfl) <| SL.nil <| T.seq <| T.seq <| T.region <| SL.mv rfl <| SL.v (op_lssT rfl rfl (by omega)) ?_
    refine SL.mv rfl <| SL.skip rfl rfl ?_
    refine SL.skip rfl rfl ?_
    refine SL.v (op_pickT rfl rfl) <| SL.nil <| T.condT rfl <| T.seq <| T.region <| SL.v (op_assign (v := .int .i64 ((1 : Nat) : Int)) rfl) <| SL.nil <| T.ret1 rfl (ResIs.tmp rfl) ?_
    rfl
  by_cases k2 : 3 < kind
  · rw [chkF, if_pos (.inr k2)]
    refine Spec.enter Tryz.func19 rfl Tryz.ntmps19 rfl ?_
    intro w0 hw0
    refine T.seq <| T.region <| SL.w (op_box rfl) ?_
    rintro _ _ _ ⟨B2, rfl, rfl, rfl⟩
    refine SL.v (op_assign (v := .int .i64 ((0 : Nat) : Int)) rfl) <| SL.nil <| T.seq <| T.seq <| T.region <| SL.mv rfl <| SL.v (op_lssF rfl rfl (by omega)) ?_
    refine SL.mv rfl <| SL.mv rfl <| SL.v (op_gtrT rfl rfl (by omega)) ?_
    refine SL.v (op_pickF rfl rfl) <| SL.nil <| T.condT rfl <| T.seq <| T.region <| SL.v (op_assign (v := .int .i64 ((1 : Nat) : Int)) rfl) <| SL.nil <| T.ret1 rfl (ResIs.tmp rfl) ?_
    rfl
  by_cases d1 : 10 < depF f
  · have e : chkF kind f = 3 := by rw [chkF, if_neg (fun h => h.elim k1 k2), show lookF kind f = 3 from if_pos (.inl d1), if_pos (by decide)]
    rw [e]
    refine Spec.enter Tryz.func19 rfl Tryz.ntmps19 rfl ?_
    intro w0 hw0
    refine T.seq <| T.region <| SL.w (op_box rfl) ?_
    rintro _ _ _ ⟨B2, rfl, rfl, rfl⟩
    refine SL.v (op_assign (v := .int .i64 ((0 : Nat) : Int)) rfl) <| SL.nil <| T.seq <| T.seq <| T.region <| SL.mv rfl <| SL.v (op_lssF rfl rfl (by omega)) ?_
    refine SL.mv rfl <| SL.mv rfl <| SL.v (op_gtrF rfl rfl (by omega)) ?_
    refine SL.v (op_pickF rfl rfl) <| SL.nil <| T.condF rfl <| T.skip <| T.seq <| T.seq <| T.region <| SL.v (op_load ty27 rfl (by repeat constructor) rfl) ?_
    refine SL.w (op_callF en62 (vs := [_]) rfl (hd (PMap.le_refl _))) ?_
    rintro _ _ X1 ⟨rfl, hX1, rfl⟩
    refine SL.v (op_gtrT rfl rfl (by omega)) ?_
    refine SL.mv rfl <| SL.skip rfl rfl ?_
    refine SL.skip rfl rfl ?_
    refine SL.skip rfl rfl ?_
    refine SL.v (op_pickT rfl rfl) <| SL.nil <| T.condT rfl <| T.seq <| T.region <| SL.v (op_assign (v := .int .i64 ((3 : Nat) : Int)) rfl) <| SL.nil <| T.ret1 rfl (ResIs.tmp rfl) ?_
    rfl
  by_cases d2 : 200 < sizF f
  · have e : chkF kind f = 3 := by rw [chkF, if_neg (fun h => h.elim k1 k2), show lookF kind f = 3 from if_pos (.inr d2), if_pos (by decide)]
    rw [e]
    refine Spec.enter Tryz.func19 rfl Tryz.ntmps19 rfl ?_
    intro w0 hw0
    refine T.seq <| T.region <| SL.w (op_box rfl) ?_
    rintro _ _ _ ⟨B2, rfl, rfl, rfl⟩
    refine SL.v (op_assign (v := .int .i64 ((0 : Nat) : Int)) rfl) <| SL.nil <| T.seq <| T.seq <| T.region <| SL.mv rfl <| SL.v (op_lssF rfl rfl (by omega)) ?_
    refine SL.mv rfl <| SL.mv rfl <| SL.v (op_gtrF rfl rfl (by omega)) ?_
    refine SL.v (op_pickF rfl rfl) <| SL.nil <| T.condF rfl <| T.skip <| T.seq <| T.seq <| T.region <| SL.v (op_load ty27 rfl (by repeat constructor) rfl) ?_
    refine SL.w (op_callF en62 (vs := [_]) rfl (hd (PMap.le_refl _))) ?_
    rintro _ _ X1 ⟨rfl, hX1, rfl⟩
    refine SL.v (op_gtrF rfl rfl (by omega)) ?_
    refine SL.mv rfl <| SL.v (op_load ty27 rfl (by repeat constructor) rfl) ?_
    refine SL.w (op_callF en63 (vs := [_]) rfl (hs hX1)) ?_
    rintro _ _ X2 ⟨rfl, hX2, rfl⟩
    refine SL.v (op_gtrT rfl rfl (by omega)) ?_
    refine SL.v (op_pickF rfl rfl) <| SL.nil <| T.condT rfl <| T.seq <| T.region <| SL.v (op_assign (v := .int .i64 ((3 : Nat) : Int)) rfl) <| SL.nil <| T.ret1 rfl (ResIs.tmp rfl) ?_
    rfl
  have hlk : lookF kind f = insF kind f := by rw [lookF, if_neg (fun h => h.elim d1 d2)]
  rw [chkF, if_neg (fun h => h.elim k1 k2), hlk]
  refine Spec.enter Tryz.func19 rfl Tryz.ntmps19 rfl ?_
  intro w0 hw0
  refine T.seq <| T.region <| SL.w (op_box rfl) ?_
  rintro _ _ _ ⟨B2, rfl, rfl, rfl⟩
  refine SL.v (op_assign (v := .int .i64 ((0 : Nat) : Int)) rfl) <| SL.nil <| T.seq <| T.seq <| T.region <| SL.mv rfl <| SL.v (op_lssF rfl rfl (by omega)) ?_
  refine SL.mv rfl <| SL.mv rfl <| SL.v (op_gtrF rfl rfl (by omega)) ?_
  refine SL.v (op_pickF rfl rfl) <| SL.nil <| T.condF rfl <| T.skip <| T.seq <| T.seq <| T.region <| SL.v (op_load ty27 rfl (by repeat constructor) rfl) ?_
  refine SL.w (op_callF en62 (vs := [_]) rfl (hd (PMap.le_refl _))) ?_
  rintro _ _ X1 ⟨rfl, hX1, rfl⟩
  refine SL.v (op_gtrF rfl rfl (by omega)) ?_
  refine SL.mv rfl <| SL.v (op_load ty27 rfl (by repeat constructor) rfl) ?_
  refine SL.w (op_callF en63 (vs := [_]) rfl (hs hX1)) ?_
  rintro _ _ X2 ⟨rfl, hX2, rfl⟩
  refine SL.v (op_gtrF rfl rfl (by omega)) ?_
  refine SL.v (op_pickF rfl rfl) <| SL.nil <| T.condF rfl <| T.skip <| T.seq <| T.region <| SL.v (op_load ty27 rfl (by repeat constructor) rfl) ?_
  refine SL.mv rfl <| SL.w (op_callF en64 (vs := [_, _]) rfl (hc1 (hX1.trans' hX2))) ?_
  rintro _ _ X3 ⟨rfl, hX3, rfl⟩
  by_cases d : insF kind f = 0
  case neg =>
    rw [if_pos d]
    refine SL.as rfl <| SL.nil <| T.seq <| T.seq <| T.region <| SL.mv rfl <| SL.v (op_neqT rfl rfl (by omega)) ?_
    refine SL.nil <| T.condT rfl <| T.seq <| T.region <| SL.mv rfl <| SL.as rfl <| SL.nil <| T.ret1 rfl (ResIs.tmp rfl) ?_
    rfl
  rw [if_neg (fun h => h d), d]
  have hme := men64_eq f (insF_rol f d)
  refine SL.as rfl <| SL.nil <| T.seq <| T.seq <| T.region <| SL.mv rfl <| SL.v (op_neqF rfl rfl (by omega)) ?_
  refine SL.nil <| T.condF rfl <| T.skip <| T.seq <| T.seq <| T.region <| SL.v (op_load ty27 rfl (by repeat constructor) rfl) ?_
  refine SL.w (op_callF en65 (vs := [_]) rfl (hc2 ((hX1.trans' hX2).trans' hX3))) ?_
  rintro _ _ X4 ⟨rfl, hX4, rfl⟩
  cases hf : fitF f with
  | false =>
    rw [if_pos (.inl rfl)]
    refine SL.v (op_not rfl) <| SL.mv rfl <| SL.skip rfl rfl ?_
    refine SL.skip rfl rfl ?_
    refine SL.skip rfl rfl ?_
    refine SL.skip rfl rfl ?_
    refine SL.v (op_pickT rfl rfl) <| SL.nil <| T.condT rfl <| T.seq <| T.region <| SL.v (op_assign (v := .int .i64 ((10 : Nat) : Int)) rfl) <| SL.nil <| T.ret1 rfl (ResIs.tmp rfl) ?_
    rfl
  | true =>
    refine SL.v (op_not rfl) <| SL.mv rfl <| SL.v (op_fieldAddr fa27_0 rfl) <| SL.v (op_load ty3 rfl (by repeat constructor) rfl) ?_
    refine SL.w (op_callF en66 (vs := [_]) rfl (rtype_spec)) ?_
    rintro _ _ X5 ⟨rfl, hX5, rfl⟩
    by_cases hres : resT f.op = 1
    case neg =>
      rw [if_pos (.inr hres)]
      refine SL.v (op_neqT rfl rfl (by omega)) ?_
      refine SL.v (op_pickF rfl rfl) <| SL.nil <| T.condT rfl <| T.seq <| T.region <| SL.v (op_assign (v := .int .i64 ((10 : Nat) : Int)) rfl) <| SL.nil <| T.ret1 rfl (ResIs.tmp rfl) ?_
      rfl
    rw [if_neg (by simp [hres])]
    by_cases k3 : kind = 3
    · rw [if_neg (fun h => h.1 k3)]
      refine SL.v (op_neqF rfl rfl (by omega)) ?_
      refine SL.v (op_pickF rfl rfl) <| SL.nil <| T.condF rfl <| T.skip <| T.seq <| T.seq <| T.region <| SL.mv rfl <| SL.v (op_neqF rfl rfl (by omega)) ?_
      refine SL.mv rfl <| SL.skip rfl rfl ?_
      refine SL.skip rfl rfl ?_
      refine SL.skip rfl rfl ?_
      refine SL.skip rfl rfl ?_
      refine SL.v (op_pickF rfl rfl) <| SL.nil <| T.condF rfl <| T.skip <| T.seq <| T.region <| SL.v (op_assign (v := .int .i64 ((0 : Nat) : Int)) rfl) <| SL.nil <| T.ret1 rfl (ResIs.tmp rfl) ?_
      rfl
    refine SL.v (op_neqF rfl rfl (by omega)) ?_
    refine SL.v (op_pickF rfl rfl) <| SL.nil <| T.condF rfl <| T.skip <| T.seq <| T.seq <| T.region <| SL.mv rfl <| SL.v (op_neqT rfl rfl (by omega)) ?_
    refine SL.mv rfl <| SL.v (op_load ty27 rfl (by repeat constructor) rfl) ?_
    refine SL.w (op_callF en34 (vs := [_]) rfl (hc3 ((((hX1.trans' hX2).trans' hX3).trans' hX4).trans' hX5))) ?_
    rintro _ _ X6 ⟨rfl, hX6, rfl⟩
    refine SL.w (op_callF en67 (vs := [_]) rfl (rpopc_spec (men64_lt f))) ?_
    rintro _ _ X7 ⟨rfl, hX7, rfl⟩
    rw [hme]
    have hle := cnt_le (menF f)
    by_cases h8 : 8 < cntB 64 (menF f)
    · rw [if_pos ⟨k3, h8⟩]
      refine SL.v (op_gtrT rfl rfl (by omega)) ?_
      refine SL.v (op_pickT rfl rfl) <| SL.nil <| T.condT rfl <| T.seq <| T.region <| SL.v (op_assign (v := .int .i64 ((3 : Nat) : Int)) rfl) <| SL.nil <| T.ret1 rfl (ResIs.tmp rfl) ?_
      rfl
    · rw [if_neg (fun h => h8 h.2)]
      refine SL.v (op_gtrF rfl rfl (by omega)) ?_
      refine SL.v (op_pickT rfl rfl) <| SL.nil <| T.condF rfl <| T.skip <| T.seq <| T.region <| SL.v (op_assign (v := .int .i64 ((0 : Nat) : Int)) rfl) <| SL.nil <| T.ret1 rfl (ResIs.tmp rfl) ?_
      rfl
end Go.Proofs.YtnpcilglilfajaaGreatDoor
namespace Go.Proofs.YtnpcilglilfajaaGreatDoor
section
set_option maxRecDepth 100000
theorem en76 : Enters Tryz.prog 76 := enters_mk Tryz.func76 (by kernel_rfl) rfl
end
open Go.RowKit
theorem posN_at {s : ByteArray} {l : List ByteArray} {i : Nat} (h : ∀ q x, q < i → l[q]? = some x → x ≠ s) (hs : l[i]? = some s) : posN s l = i + 1 := by
  induction l generalizing i with
  | nil => simp at hs
  | cons t l ih =>
    cases i with
    | zero =>
      simp only [List.getElem?_cons_zero, Option.some.injEq] at hs
      rw [posN, if_pos hs.symm]
    | succ i =>
      have h0 := h 0 t (by omega) (by simp)
      rw [posN, if_neg (fun e => h0 e.symm)]
      have := ih (i := i) (fun q x hq hx => h (q + 1) x (by omega) (by simpa using hx)) (by simpa using hs)
      rw [if_neg (by omega), this]
theorem numX_spec {X : PMap} {v : Value} {l : List ByteArray} {s : ByteArray} (h : RowR strC X v l) (hl : l.length < 1000000000) : Spec Tryz.prog 128 [v, .string s] X fun u _ => u = .int .i64 (posN s l : Int) := by
  obtain ⟨A, cp, rfl⟩ := h.form
  refine Spec.enter Tryz.func128 rfl Tryz.ntmps128 rfl ?_
  intro w0 hw0
  refine T.seq <| T.region <| SL.v (op_assign (v := .int .i64 ((0 : Nat) : Int)) rfl) <| SL.nil <| T.seq <| T.seq <| T.region <| SL.mv rfl <| SL.v (op_lenS Tryz.underlying59 rfl) <| SL.v (op_move (v := .int .i64 ((0 : Nat) : Int)) rfl) <| SL.nil <| T.block <| T.loopW (fun m env own X' => ∃ i : Nat, m = l.length - i ∧ i ≤ l.length ∧ X.le X' ∧ (∀ q x, q < i → l[q]? = some x → x ≠ s) ∧ env = [(1, .string s), (7, .slice A l.length cp), (8, .int .i64 (l.length : Int)), (9, .int .i64 (i : Int))] ∧ own = []) l.length ⟨0, by simp, by omega, PMap.le_refl _, fun q x hq => absurd hq (by omega), rfl, rfl⟩ (by repeat (first | exact Sub.nil | refine Sub.cons rfl ?_)) ?_
  rintro m _ _ X1 ⟨i, rfl, hi, hX1, hne, rfl, rfl⟩
  rcases Nat.lt_or_ge i l.length with hil | hil
  · obtain ⟨x, hx⟩ : ∃ x, l[i]? = some x := ⟨_, List.getElem?_eq_getElem hil⟩
    obtain ⟨b, pre, rfl, hB⟩ := h.blk (by omega)
    refine T.seq <| T.region <| SL.v (op_lssT rfl rfl (by omega)) ?_
    refine SL.nil <| T.seq <| T.condT rfl <| T.skip <| T.seq <| T.block <| T.seq <| T.region <| SL.mv rfl <| SL.v (op_indexN Tryz.underlying59 ty9 rfl rfl (by omega)) ?_
    refine SL.v (op_loadX ty9 rfl (hB.mono hX1) (str_read hx (by omega))) ?_
    refine SL.as rfl <| SL.as rfl <| SL.nil <| T.seq <| T.region <| SL.mv rfl <| SL.mv rfl <| SL.v (op_eqlStrD rfl rfl) <| SL.nil ?_
    by_cases hc : x = s
    · rw [decide_eq_true hc]
      refine T.condT rfl <| T.seq <| T.region <| SL.mv rfl <| SL.v (op_addN (q := 1) rfl rfl (by omega)) ?_
      refine SL.as rfl <| SL.nil <| T.ret1 rfl (ResIs.tmp rfl) ?_
      rw [posN_at hne (hc ▸ hx)]
    · rw [decide_eq_false hc]
      refine T.condF rfl <| T.skip <| T.blk <| T.region <| SL.v (op_addN (q := 1) rfl rfl (by omega)) ?_
      refine SL.mv rfl <| SL.nil ?_
      have hne2 : ∀ (q : Nat) (y : ByteArray), q < i + 1 → l[q]? = some y → y ≠ s := fun q y hq hy => by
        rcases Nat.lt_or_ge q i with h1 | h1
        · exact hne q y h1 hy
        · obtain rfl : q = i := by omega
          rw [hx] at hy; cases hy; exact hc
      exact T.backW (l.length - (i + 1)) (by omega) ⟨i + 1, rfl, by omega, hX1, hne2, rfl, rfl⟩ (by repeat (first | exact Sub.nil | refine Sub.cons rfl ?_))
  · refine T.seq <| T.region <| SL.v (op_lssF rfl rfl (by omega)) ?_
    refine SL.nil <| T.seq <| T.condF rfl ?_
    refine T.exit (T.exitCode (T.exitCut (T.exitBlk ?_)))
    refine T.seq <| T.region <| SL.v (op_assign (v := .int .i64 ((0 : Nat) : Int)) rfl) <| SL.nil <| T.ret1 rfl (ResIs.tmp rfl) ?_
    have h0 : posN s l = 0 := Nat.eq_zero_of_not_pos fun hp => by
      obtain ⟨q, hq⟩ := List.mem_iff_getElem?.1 (posN_pos.1 hp)
      have h1 := (List.getElem?_eq_some_iff.1 hq).1
      exact absurd rfl (hne q s (by omega) hq)
    rw [h0]
theorem rnumb_spec (N : Nat) : ∀ {X : PMap} {e : Ex} {r : Row4} {vt : Value} {ns : List ByteArray} {adm : Nat}, wtE e ≤ N → N < 100000000 → ns.length ≤ 63 → RowR strC X vt ns → adm < 18446744073709551616 → ExR .i64 X e r → Spec Tryz.prog 76 [.agg #[r.1, r.2.1, r.2.2.1, r.2.2.2], vt, .int .u64 (adm : Int)] X fun u X' => ∃ r' : Row4, u = .tuple #[.agg #[r'.1, r'.2.1, r'.2.2.1, r'.2.2.2], .bool (numbF ns adm e).isSome] ∧ FmR .i64 X' ((numbF ns adm e).getD zeF) r' := by
  induction N with
  | zero => intro X e r _ _ _ h; cases e; rw [wtE] at h; omega
  | succ N ih =>
    intro X e r vt ns adm hN hB h63 hT hS h
    have hmx : maxLen = 9223372036854775807 := rfl
    cases h with
    | @mk op n l al vn va rows hn ha hl hr =>
    obtain ⟨Aa, ca, rfl⟩ := ha.form
    obtain ⟨An, cn, rfl⟩ := hn.form
    obtain ⟨At, ct, rfl⟩ := hT.form
    have hlen := wtL_len al
    have hnl := wtS_len l
    rw [wtE] at hN
    refine Spec.enter Tryz.func76 rfl Tryz.ntmps76 rfl ?_
    intro w0 hw0
    refine T.seq <| T.region <| SL.w (op_box rfl) ?_
    rintro _ _ _ ⟨B3, rfl, rfl, rfl⟩
    refine SL.w (op_alloc z27) ?_
    rintro _ _ _ ⟨B6, rfl, rfl, rfl⟩
    refine SL.as rfl <| SL.nil <| T.seq <| T.region <| SL.v (op_fieldAddr fa62_0 rfl) <| SL.v (op_load ty3 rfl (by repeat constructor) rfl) ?_
    refine SL.v (op_fieldAddr fa62_1 rfl) <| SL.v (op_load ty3 rfl (by repeat constructor) rfl) ?_
    refine SL.v (op_build st27 (qs := [(0, _), (1, _)]) rfl rfl) <| SL.w (op_alloc z27) ?_
    rintro _ _ _ ⟨B8, rfl, rfl, rfl⟩
    refine SL.w (op_store ty27 rfl rfl (by repeat constructor) rfl rfl rfl) ?_
    rintro _ _ _ ⟨rfl, rfl⟩
    refine SL.nil <| T.seq <| T.seq <| T.region <| SL.v (op_fieldAddr fa62_2 rfl) <| SL.v (op_load ty59 rfl (by repeat constructor) rfl) ?_
    refine SL.v (op_lenS Tryz.underlying59 rfl) <| SL.v (op_move (v := .int .i64 ((0 : Nat) : Int)) rfl) <| SL.nil <| T.block <| T.loopW (fun m env own X' => ∃ (i : Nat) (vn : Value) (Gn : Own) (rs : List Nat), m = l.length - i ∧ i ≤ l.length ∧ X.le X' ∧ numbN ns adm (l.take i) = some rs ∧ rs.length = i ∧ GrowS 3 1 vn rs.length (ints rs) Gn ∧ env = [(1, .slice At ns.length ct), (2, .int .u64 (adm : Int)), (3, .pointer (some ⟨B3, 0, none⟩)), (6, .pointer (some ⟨B6, 0, none⟩)), (8, .pointer (some ⟨B8, 0, none⟩)), (22, .slice An l.length cn), (23, .int .i64 (l.length : Int)), (24, .int .i64 (i : Int))] ∧ own = F6 B8 op n vn (.slice none 0 0) :: F6 B6 0 0 (.slice none 0 0) (.slice none 0 0) :: E6 B3 op n (.slice An l.length cn) (.slice Aa rows.length ca) :: Gn) l.length ⟨0, _, [], [], by simp, by omega, PMap.le_refl _, rfl, rfl, GrowS.nil, rfl, rfl⟩ (by repeat (first | exact Sub.nil | refine Sub.cons rfl ?_)) ?_
    rintro m _ _ X1 ⟨i, vn1, Gn, rs, rfl, hi, hX1, hrs, hrsl, hGn, rfl, rfl⟩
    obtain ⟨An1, cn1, rfl⟩ := hGn.form
    rcases Nat.lt_or_ge i l.length with hil | hil
    · obtain ⟨s, hs⟩ : ∃ s, l[i]? = some s := ⟨_, List.getElem?_eq_getElem hil⟩
      obtain ⟨bN, preN, rfl, hbN⟩ := hn.blk (by omega)
      have hple := posN_le (s := s) (ns := ns)
      refine T.seq <| T.region <| SL.v (op_lssT rfl rfl (by omega)) ?_
      refine SL.nil <| T.seq <| T.condT rfl <| T.skip <| T.seq <| T.block <| T.seq <| T.region <| SL.v (op_indexN Tryz.underlying59 ty9 rfl rfl (by omega)) ?_
      refine SL.v (op_loadX ty9 rfl (hbN.mono hX1) (str_read hs (by omega))) ?_
      refine SL.as rfl <| SL.nil <| T.seq <| T.region <| SL.mv rfl <| SL.mv rfl <| SL.w (op_callF en128 (vs := [_, _]) rfl (numX_spec (s := s) (hT.mono hX1) (by omega))) ?_
      rintro _ _ X2 ⟨rfl, hX2, rfl⟩
      by_cases hp : posN s ns = 0
      · have hno := numb_no1 (op := op) (n := n) (al := al) (numbN_bad (adm := adm) hs (.inl hp))
        rw [hp]
        refine SL.as rfl <| SL.nil <| T.seq <| T.seq <| T.region <| SL.mv rfl <| SL.v (op_eqlT rfl rfl (by omega)) ?_
        refine SL.mv rfl <| SL.skip rfl rfl ?_
        refine SL.skip rfl rfl ?_
        refine SL.skip rfl rfl ?_
        refine SL.skip rfl rfl ?_
        refine SL.skip rfl rfl ?_
        refine SL.v (op_pickT rfl rfl) <| SL.nil <| T.condT rfl <| T.seq <| T.region <| SL.v (op_build st27 (qs := []) rfl rfl) <| SL.w (op_store ty27 rfl rfl (by repeat constructor) rfl rfl rfl) ?_
        rintro _ _ _ ⟨rfl, rfl⟩
        refine SL.as rfl <| SL.nil <| T.ret2 rfl (ResIs.cell rfl ty27 (by repeat constructor) rfl) (ResIs.tmp rfl) ?_
        rw [hno]
        exact ⟨_, rfl, zeF_R⟩
      have htb : adm.testBit (posN s ns) = decide ((adm >>> posN s ns) % 2 = 1) := by
        rw [Nat.testBit_eq_decide_div_mod_eq, Nat.shiftRight_eq_div_pow]
      have hsh : adm >>> posN s ns < 18446744073709551616 := Nat.lt_of_le_of_lt (Nat.shiftRight_le ..) hS
      have h2 : (adm >>> posN s ns) % 2 < 2 := Nat.mod_lt _ (by omega)
      refine SL.as rfl <| SL.nil <| T.seq <| T.seq <| T.region <| SL.mv rfl <| SL.v (op_eqlF rfl rfl (by omega)) ?_
      refine SL.mv rfl <| SL.mv rfl <| SL.mv rfl <| SL.v (op_shrN (q := posN s ns) rfl rfl (by omega)) ?_
      refine SL.v (op_remN (p := adm >>> posN s ns) (q := 2) rfl rfl rfl (by omega)) ?_
      by_cases hb : (adm >>> posN s ns) % 2 = 1
      · have hno := numb_no1 (op := op) (n := n) (al := al) (numbN_bad (adm := adm) hs (.inr (by rw [htb, decide_eq_true hb])))
        refine SL.v (op_eqlT rfl rfl (by omega)) ?_
        refine SL.v (op_pickF rfl rfl) <| SL.nil <| T.condT rfl <| T.seq <| T.region <| SL.v (op_build st27 (qs := []) rfl rfl) <| SL.w (op_store ty27 rfl rfl (by repeat constructor) rfl rfl rfl) ?_
        rintro _ _ _ ⟨rfl, rfl⟩
        refine SL.as rfl <| SL.nil <| T.ret2 rfl (ResIs.cell rfl ty27 (by repeat constructor) rfl) (ResIs.tmp rfl) ?_
        rw [hno]
        exact ⟨_, rfl, zeF_R⟩
      refine SL.v (op_eqlF rfl rfl (by omega)) ?_
      refine SL.v (op_pickF rfl rfl) <| SL.nil <| T.condF rfl <| T.skip <| T.region <| SL.v (op_fieldAddr fa27_2 rfl) <| SL.v (op_load ty24 rfl (by repeat constructor) rfl) ?_
      refine SL.mv rfl <| SL.w (op_buildSlice Tryz.underlying24 bs3 (qs := [(0, _)]) rfl rfl rfl rfl rfl) ?_
      rintro _ _ _ ⟨B44, rfl, rfl, rfl⟩
      refine SL.w (op_appendGA (own0 := [_, _, _, _]) (m := 1) sl24 rfl hGn rfl (Src.ofOwn0 AtO.here rfl) (by intro y hy; have hy : y ∈ [Value.int _ _] := hy; simp only [List.mem_cons, List.not_mem_nil, or_false] at hy; rcases hy with rfl; rfl) (by omega) (by omega)) ?_
      rintro vn9 _ _ ⟨Gn9, rfl, rfl, hGn9⟩
      obtain ⟨An9, cn9, rfl⟩ := hGn9.form
      refine SL.v (op_fieldAddr fa27_2 rfl) <| SL.w (op_store ty24 rfl rfl (by repeat constructor) rfl rfl rfl) ?_
      rintro _ _ _ ⟨rfl, rfl⟩
      refine SL.nil <| T.blk <| T.region <| SL.v (op_addN (q := 1) rfl rfl (by omega)) ?_
      refine SL.mv rfl <| SL.nil <| T.less (List.sublist_cons_self _ _) ?_
      have hGn10 : GrowS 3 1 (.slice An9 (rs.length + 1) cn9) (rs ++ [posN s ns]).length (ints (rs ++ [posN s ns])) Gn9 := by
        rw [List.length_append, show ints (rs ++ [posN s ns]) = ints rs ++ ints [posN s ns] by simp [ints]]
        exact hGn9
      exact T.backW (l.length - (i + 1)) (by omega) ⟨i + 1, _, _, rs ++ [posN s ns], rfl, by omega, hX1.trans' hX2, numbN_snoc hs (fun h => h.elim hp (fun h => by rw [htb] at h; exact hb (of_decide_eq_true h))) hrs, by rw [List.length_append, hrsl]; rfl, hGn10, rfl, rfl⟩ (by repeat (first | exact Sub.nil | refine Sub.cons rfl ?_))
    obtain rfl : i = l.length := by omega
    rw [List.take_of_length_le (by omega)] at hrs
    refine T.seq <| T.region <| SL.v (op_lssF rfl rfl (by omega)) ?_
    refine SL.nil <| T.seq <| T.condF rfl ?_
    refine T.exit (T.exitCode (T.exitCut (T.exitBlk ?_)))
    refine T.seq <| T.seq <| T.region <| SL.v (op_fieldAddr fa62_3 rfl) <| SL.v (op_load ty60 rfl (by repeat constructor) rfl) ?_
    refine SL.v (op_lenS Tryz.underlying60 rfl) <| SL.v (op_move (v := .int .i64 ((0 : Nat) : Int)) rfl) <| SL.nil <| T.block <| T.pubG (own0 := [_, _, _]) hGn ?_
    intro Y1 hY1 hS1
    have hXY := hX1.trans' hY1
    have hN1 := IntsR.ofG hGn hS1
    obtain ⟨vn8, hvn8⟩ : ∃ v, v = Value.slice An1 rs.length cn1 := ⟨_, rfl⟩
    refine T.drop B3 (by repeat constructor) ?_
    refine T.loopW (fun m env own X' => ∃ (i : Nat) (va : Value) (Ga : Own) (bl : List Fm) (qs : List Row4), m = rows.length - i ∧ i ≤ rows.length ∧ Y1.le X' ∧ numbL ns adm (al.take i) = some bl ∧ bl.length = i ∧ qs.length = i ∧ GrowS 27 4 va qs.length (qs.map rc4).flatten Ga ∧ (∀ (q : Nat) (a : Fm) (r : Row4), bl[q]? = some a → qs[q]? = some r → FmR .i64 X' a r) ∧ env = [(1, .slice At ns.length ct), (2, .int .u64 (adm : Int)), (6, .pointer (some ⟨B6, 0, none⟩)), (8, .pointer (some ⟨B8, 0, none⟩)), (49, .slice Aa rows.length ca), (50, .int .i64 (rows.length : Int)), (51, .int .i64 (i : Int))] ∧ own = F6 B8 op n (.slice An1 rs.length cn1) va :: F6 B6 0 0 (.slice none 0 0) (.slice none 0 0) :: Ga) rows.length ⟨0, _, [], [], [], by simp, by omega, PMap.le_refl _, rfl, rfl, rfl, GrowS.nil, fun q a r _ h => by simp at h, rfl, rfl⟩ (by repeat (first | exact Sub.nil | refine Sub.cons rfl ?_)) ?_
    rintro m _ _ X2 ⟨i, va, Ga, bl, qs, rfl, hi, hX2, hbl, hbll, hqsl, hGa, hqs, rfl, rfl⟩
    obtain ⟨Aa7, ca7, rfl⟩ := hGa.form
    rcases Nat.lt_or_ge i rows.length with hil | hil
    · obtain ⟨r2, hr2⟩ : ∃ r2, rows[i]? = some r2 := ⟨_, List.getElem?_eq_getElem hil⟩
      obtain ⟨a, ha2⟩ : ∃ a, al[i]? = some a := ⟨_, List.getElem?_eq_getElem (by omega)⟩
      have hra := (hr i a r2 ha2 hr2).mono (hXY.trans' hX2)
      obtain ⟨bA, pre, rfl, hbA⟩ := ha.blk (by omega)
      have hma := List.mem_of_getElem? ha2
      have hwa := wtL_mem hma
      have hih := ih (by omega) (by omega) h63 (hT.mono (hXY.trans' hX2)) hS hra
      obtain ⟨_, _, _, _, _, _, _, _, rfl⟩ := hra.form
      try simp only at hih
      refine T.seq <| T.region <| SL.v (op_lssT rfl rfl (by omega)) ?_
      refine SL.nil <| T.seq <| T.condT rfl <| T.skip <| T.seq <| T.block <| T.seq <| T.region <| SL.v (op_indexN Tryz.underlying60 ty62 rfl rfl (by omega)) ?_
      refine SL.v (op_loadX ty62 rfl (hbA.mono (hXY.trans' hX2)) (row_read rc4_len hr2 (by omega))) ?_
      refine SL.w (op_alloc z62) ?_
      rintro _ _ _ ⟨B13, rfl, rfl, rfl⟩
      refine SL.w (op_store ty62 rfl rfl (by repeat constructor) rfl rfl rfl) ?_
      rintro _ _ _ ⟨rfl, rfl⟩
      refine SL.nil <| T.seq <| T.region <| SL.v (op_load ty62 rfl (by repeat constructor) rfl) ?_
      refine SL.mv rfl <| SL.mv rfl <| SL.w (op_callF en76 (vs := [_, _, _]) rfl (hih)) ?_
      rintro _ _ X3 ⟨rfl, hX3, r8, rfl, hr8⟩
      obtain ⟨o8, n8, a8, b8, l8, c8, l9, c9, rfl⟩ := hr8.form
      cases hnf : numbF ns adm a with
      | none =>
        have hno := numb_no2 (op := op) (n := n) (l := l) (numbL_bad (adm := adm) ha2 hnf)
        rw [Option.isSome_none]
        refine SL.mv rfl <| SL.v (op_extract rfl rfl) <| SL.v (op_extract rfl rfl) <| SL.w (op_alloc z27) ?_
        rintro _ _ _ ⟨B14, rfl, rfl, rfl⟩
        refine SL.w (op_store ty27 rfl rfl (by repeat constructor) rfl rfl rfl) ?_
        rintro _ _ _ ⟨rfl, rfl⟩
        refine SL.as rfl <| SL.nil <| T.seq <| T.seq <| T.region <| SL.mv rfl <| SL.v (op_not rfl) <| SL.nil <| T.condT rfl <| T.seq <| T.region <| SL.v (op_build st27 (qs := []) rfl rfl) <| SL.w (op_store ty27 rfl rfl (by repeat constructor) rfl rfl rfl) ?_
        rintro _ _ _ ⟨rfl, rfl⟩
        refine SL.as rfl <| SL.nil <| T.ret2 rfl (ResIs.cell rfl ty27 (by repeat constructor) rfl) (ResIs.tmp rfl) ?_
        rw [hno]
        exact ⟨_, rfl, zeF_R⟩
      | some f =>
        rw [hnf] at hr8
        rw [Option.isSome_some]
        refine SL.mv rfl <| SL.v (op_extract rfl rfl) <| SL.v (op_extract rfl rfl) <| SL.w (op_alloc z27) ?_
        rintro _ _ _ ⟨B14, rfl, rfl, rfl⟩
        refine SL.w (op_store ty27 rfl rfl (by repeat constructor) rfl rfl rfl) ?_
        rintro _ _ _ ⟨rfl, rfl⟩
        refine SL.as rfl <| SL.nil <| T.seq <| T.seq <| T.region <| SL.mv rfl <| SL.v (op_not rfl) <| SL.nil <| T.condF rfl <| T.skip <| T.region <| SL.v (op_fieldAddr fa27_3 rfl) <| SL.v (op_load ty25 rfl (by repeat constructor) rfl) ?_
        refine SL.v (op_load ty27 rfl (by repeat constructor) rfl) ?_
        refine SL.w (op_buildSlice Tryz.underlying25 bs27 (qs := [(0, _)]) rfl rfl rfl rfl rfl) ?_
        rintro _ _ _ ⟨B68, rfl, rfl, rfl⟩
        refine SL.w (op_appendGA (own0 := [_, _, _, _, _]) (m := 1) sl25 rfl hGa rfl (Src.ofOwn0 AtO.here rfl) (by intro y hy; have hy : y ∈ [Value.int _ _, Value.int _ _, Value.slice _ _ _, Value.slice _ _ _] := hy; simp only [List.mem_cons, List.not_mem_nil, or_false] at hy; rcases hy with rfl | rfl | rfl | rfl <;> rfl) (by omega) (by omega)) ?_
        rintro va9 _ _ ⟨Ga9, rfl, rfl, hGa9⟩
        obtain ⟨Aa9, ca9, rfl⟩ := hGa9.form
        refine SL.v (op_fieldAddr fa27_3 rfl) <| SL.w (op_store ty25 rfl rfl (by repeat constructor) rfl rfl rfl) ?_
        rintro _ _ _ ⟨rfl, rfl⟩
        refine SL.nil <| T.blk <| T.region <| SL.v (op_addN (q := 1) rfl rfl (by omega)) ?_
        refine SL.mv rfl <| SL.nil <| T.less (List.sublist_cons_self _ _) ?_
        refine T.less (List.sublist_cons_self _ _) ?_
        refine T.less (List.sublist_cons_self _ _) ?_
        have hGa10 : GrowS 27 4 (.slice Aa9 (qs.length + 1) ca9) (qs ++ [((.int .i64 (o8 : Int), .int .i64 n8, .slice a8 l8 c8, .slice b8 l9 c9) : Row4)]).length (((qs ++ [((.int .i64 (o8 : Int), .int .i64 n8, .slice a8 l8 c8, .slice b8 l9 c9) : Row4)]).map rc4).flatten) Ga9 := by
          rw [List.length_append, List.map_append, List.flatten_append]
          exact hGa9
        have hrows2 : ∀ (q : Nat) (a : Fm) (r : Row4), (bl ++ [f])[q]? = some a → (qs ++ [((.int .i64 (o8 : Int), .int .i64 n8, .slice a8 l8 c8, .slice b8 l9 c9) : Row4)])[q]? = some r → FmR .i64 X3 a r := rows_snoc2 (by omega) (fun q a r h1 h2 => (hqs q a r h1 h2).mono hX3) hr8
        exact T.backW (rows.length - (i + 1)) (by omega) ⟨i + 1, _, _, bl ++ [f], qs ++ [(.int .i64 (o8 : Int), .int .i64 n8, .slice a8 l8 c8, .slice b8 l9 c9)], rfl, by omega, hX2.trans' hX3, numbL_snoc ha2 hnf hbl, by rw [List.length_append, hbll]; rfl, by rw [List.length_append, hqsl]; rfl, hGa10, hrows2, rfl, rfl⟩ (by repeat (first | exact Sub.nil | refine Sub.cons rfl ?_))
    · obtain rfl : i = rows.length := by omega
      rw [List.take_of_length_le (by omega)] at hbl
      refine T.seq <| T.region <| SL.v (op_lssF rfl rfl (by omega)) ?_
      refine SL.nil <| T.seq <| T.condF rfl ?_
      refine T.exit (T.exitCode (T.exitCut (T.exitBlk ?_)))
      refine T.seq <| T.region <| SL.v (op_load ty27 rfl (by repeat constructor) rfl) ?_
      refine SL.w (op_store ty27 rfl rfl (by repeat constructor) rfl rfl rfl) ?_
      rintro _ _ _ ⟨rfl, rfl⟩
      refine SL.as rfl <| SL.nil <| T.pubG (own0 := [_, _]) hGa ?_
      intro X9 hX9 hS9
      refine T.ret2 rfl (ResIs.cell rfl ty27 (by repeat constructor) rfl) (ResIs.tmp rfl) ?_
      have hA : RowR rc4 X9 (.slice Aa7 qs.length ca7) qs := RowR.ofG hGa hS9
      rw [numb_mk hrs hbl]
      exact ⟨(.int .i64 (op : Int), .int .i64 n, .slice An1 rs.length cn1, .slice Aa7 qs.length ca7), rfl, .mk ((hN1.mono hX2).mono hX9) hA (hqsl.trans hbll.symm) (fun q a r h1 h2 => (hqs q a r h1 h2).mono hX9)⟩
end Go.Proofs.YtnpcilglilfajaaGreatDoor
namespace Go.Proofs.YtnpcilglilfajaaGreatDoor
section
set_option maxRecDepth 100000
theorem en18 : Enters Tryz.prog 18 := enters_mk Tryz.func18 (by kernel_rfl) rfl
theorem en19 : Enters Tryz.prog 19 := enters_mk Tryz.func19 (by kernel_rfl) rfl
theorem en72 : Enters Tryz.prog 72 := enters_mk Tryz.func72 (by kernel_rfl) rfl
theorem en73 : Enters Tryz.prog 73 := enters_mk Tryz.func73 (by kernel_rfl) rfl
theorem en75 : Enters Tryz.prog 75 := enters_mk Tryz.func75 (by kernel_rfl) rfl
end
open Go.RowKit
/-- The formula of an expression, and the error. -/
noncomputable def resF (ns : List ByteArray) (adm kind : Nat) (e : Ex) : Fm × Int :=
  if kind < 1 ∨ 3 < kind then (zeF, 1) else if chkE e ≠ 0 then (zeF, chkE e) else match numbF ns adm e with
    | none => (zeF, 9)
    | some f => if chkF kind f ≠ 0 then (zeF, chkF kind f) else (f, 0)
theorem TabR.form {X : PMap} {v : Value} {ns : List ByteArray} (h : TabR X v ns) : ∃ b, v = .pointer (some ⟨b, 0, none⟩) := let ⟨b, _, _, h1, _⟩ := h; ⟨b, h1⟩
theorem resolve_spec {X : PMap} {e : Ex} {r : Row4} {vt vs : Value} {ns : List ByteArray} {adm kind : Nat} (hw : wtE e < 1000000) (hk : kind < 256) (h63 : ns.length ≤ 63) (hT : TabR X vt ns) (hS : SetR X vs adm) (h : ExR .u8 X e r) : Spec Tryz.prog 25 [.agg #[r.1, r.2.1, r.2.2.1, r.2.2.2], .int .u8 (kind : Int), vt, vs] X fun u X' => ∃ r' : Row4, u = .tuple #[.agg #[r'.1, r'.2.1, r'.2.2.1, r'.2.2.2], .int .i64 (resF ns adm kind e).2] ∧ FmR .u8 X' (resF ns adm kind e).1 r' := by
  have hc1 := fun {X' : PMap} (hX : X.le X') => chk_spec (by omega) (h.mono hX)
  have hc2 := fun {X' : PMap} (hX : X.le X') => numb_spec (wtE e) (Nat.le_refl _) (by omega) h63 (hT.mono hX) (hS.mono hX) (h.mono hX)
  obtain ⟨bt, rfl⟩ := hT.form
  obtain ⟨As, ls, cs, rfl⟩ := hS.form
  obtain ⟨o, n, A, B, l, c, l', c', rfl⟩ := h.form
  try simp only at hc1
  try simp only at hc2
  rw [resF]
  by_cases k1 : kind < 1
  · rw [if_pos (.inl k1)]
    refine Spec.enter Tryz.func25 rfl Tryz.ntmps25 rfl ?_
    intro w0 hw0
    refine T.seq <| T.region <| SL.w (op_box rfl) ?_
    rintro _ _ _ ⟨B4, rfl, rfl, rfl⟩
    refine SL.w (op_box rfl) ?_
    rintro _ _ _ ⟨B7, rfl, rfl, rfl⟩
    refine SL.w (op_alloc z36) ?_
    rintro _ _ _ ⟨B8, rfl, rfl, rfl⟩
    refine SL.v (op_assign (v := .int .i64 ((0 : Nat) : Int)) rfl) <| SL.nil <| T.seq <| T.seq <| T.region <| SL.mv rfl <| SL.v (op_eqlNil Tryz.underlying64 rfl rfl) <| SL.mv rfl <| SL.mv rfl <| SL.v (op_lssT rfl rfl (by omega)) ?_
    refine SL.v (op_pickF rfl rfl) <| SL.mv rfl <| SL.skip rfl rfl ?_
    refine SL.skip rfl rfl ?_
    refine SL.v (op_pickT rfl rfl) <| SL.nil <| T.condT rfl <| T.seq <| T.region <| SL.v (op_build st36 (qs := []) rfl rfl) <| SL.w (op_store ty36 rfl rfl (by repeat constructor) rfl rfl rfl) ?_
    rintro _ _ _ ⟨rfl, rfl⟩
    refine SL.v (op_assign (v := .int .i64 ((1 : Nat) : Int)) rfl) <| SL.nil <| T.ret2 rfl (ResIs.cell rfl ty36 (by repeat constructor) rfl) (ResIs.tmp rfl) ?_
    exact ⟨_, rfl, zeF_R⟩
  by_cases k2 : 3 < kind
  · rw [if_pos (.inr k2)]
    refine Spec.enter Tryz.func25 rfl Tryz.ntmps25 rfl ?_
    intro w0 hw0
    refine T.seq <| T.region <| SL.w (op_box rfl) ?_
    rintro _ _ _ ⟨B4, rfl, rfl, rfl⟩
    refine SL.w (op_box rfl) ?_
    rintro _ _ _ ⟨B7, rfl, rfl, rfl⟩
    refine SL.w (op_alloc z36) ?_
    rintro _ _ _ ⟨B8, rfl, rfl, rfl⟩
    refine SL.v (op_assign (v := .int .i64 ((0 : Nat) : Int)) rfl) <| SL.nil <| T.seq <| T.seq <| T.region <| SL.mv rfl <| SL.v (op_eqlNil Tryz.underlying64 rfl rfl) <| SL.mv rfl <| SL.mv rfl <| SL.v (op_lssF rfl rfl (by omega)) ?_
    refine SL.v (op_pickF rfl rfl) <| SL.mv rfl <| SL.mv rfl <| SL.v (op_gtrT rfl rfl (by omega)) ?_
    refine SL.v (op_pickF rfl rfl) <| SL.nil <| T.condT rfl <| T.seq <| T.region <| SL.v (op_build st36 (qs := []) rfl rfl) <| SL.w (op_store ty36 rfl rfl (by repeat constructor) rfl rfl rfl) ?_
    rintro _ _ _ ⟨rfl, rfl⟩
    refine SL.v (op_assign (v := .int .i64 ((1 : Nat) : Int)) rfl) <| SL.nil <| T.ret2 rfl (ResIs.cell rfl ty36 (by repeat constructor) rfl) (ResIs.tmp rfl) ?_
    exact ⟨_, rfl, zeF_R⟩
  rw [if_neg (fun h => h.elim k1 k2)]
  refine Spec.enter Tryz.func25 rfl Tryz.ntmps25 rfl ?_
  intro w0 hw0
  refine T.seq <| T.region <| SL.w (op_box rfl) ?_
  rintro _ _ _ ⟨B4, rfl, rfl, rfl⟩
  refine SL.w (op_box rfl) ?_
  rintro _ _ _ ⟨B7, rfl, rfl, rfl⟩
  refine SL.w (op_alloc z36) ?_
  rintro _ _ _ ⟨B8, rfl, rfl, rfl⟩
  refine SL.v (op_assign (v := .int .i64 ((0 : Nat) : Int)) rfl) <| SL.nil <| T.seq <| T.seq <| T.region <| SL.mv rfl <| SL.v (op_eqlNil Tryz.underlying64 rfl rfl) <| SL.mv rfl <| SL.mv rfl <| SL.v (op_lssF rfl rfl (by omega)) ?_
  refine SL.v (op_pickF rfl rfl) <| SL.mv rfl <| SL.mv rfl <| SL.v (op_gtrF rfl rfl (by omega)) ?_
  refine SL.v (op_pickF rfl rfl) <| SL.nil <| T.condF rfl <| T.skip <| T.seq <| T.seq <| T.region <| SL.v (op_load ty70 rfl (by repeat constructor) rfl) ?_
  refine SL.w (op_callF en73 (vs := [_]) rfl (hc1 (PMap.le_refl _))) ?_
  rintro _ _ X1 ⟨rfl, hX1, rfl⟩
  by_cases d : chkE e = 0
  case neg =>
    rw [if_pos d]
    refine SL.as rfl <| SL.nil <| T.seq <| T.region <| SL.mv rfl <| SL.v (op_neqT rfl rfl (by omega)) ?_
    refine SL.nil <| T.condT rfl <| T.seq <| T.region <| SL.v (op_build st36 (qs := []) rfl rfl) <| SL.mv rfl <| SL.w (op_store ty36 rfl rfl (by repeat constructor) rfl rfl rfl) ?_
    rintro _ _ _ ⟨rfl, rfl⟩
    refine SL.as rfl <| SL.nil <| T.ret2 rfl (ResIs.cell rfl ty36 (by repeat constructor) rfl) (ResIs.tmp rfl) ?_
    exact ⟨_, rfl, zeF_R⟩
  rw [if_neg (fun h => h d), d]
  refine SL.as rfl <| SL.nil <| T.seq <| T.region <| SL.mv rfl <| SL.v (op_neqF rfl rfl (by omega)) ?_
  refine SL.nil <| T.condF rfl <| T.skip <| T.seq <| T.region <| SL.v (op_load ty70 rfl (by repeat constructor) rfl) ?_
  refine SL.mv rfl <| SL.v (op_load ty53 rfl (by repeat constructor) rfl) ?_
  refine SL.w (op_callF en74 (vs := [_, _, _]) rfl (hc2 hX1)) ?_
  rintro _ _ X2 ⟨rfl, hX2, r8, rfl, hr8⟩
  cases hnf : numbF ns adm e with
  | none =>
    obtain ⟨o8, n8, a8, b8, l8, c8, l9, c9, rfl⟩ := hr8.form
    rw [Option.isSome_none]
    refine SL.mv rfl <| SL.v (op_extract rfl rfl) <| SL.v (op_extract rfl rfl) <| SL.w (op_alloc z36) ?_
    rintro _ _ _ ⟨B11, rfl, rfl, rfl⟩
    refine SL.w (op_store ty36 rfl rfl (by repeat constructor) rfl rfl rfl) ?_
    rintro _ _ _ ⟨rfl, rfl⟩
    refine SL.as rfl <| SL.nil <| T.seq <| T.seq <| T.region <| SL.mv rfl <| SL.v (op_not rfl) <| SL.nil <| T.condT rfl <| T.seq <| T.region <| SL.v (op_build st36 (qs := []) rfl rfl) <| SL.w (op_store ty36 rfl rfl (by repeat constructor) rfl rfl rfl) ?_
    rintro _ _ _ ⟨rfl, rfl⟩
    refine SL.v (op_assign (v := .int .i64 ((9 : Nat) : Int)) rfl) <| SL.nil <| T.ret2 rfl (ResIs.cell rfl ty36 (by repeat constructor) rfl) (ResIs.tmp rfl) ?_
    exact ⟨_, rfl, zeF_R⟩
  | some f =>
    rw [hnf, Option.getD_some] at hr8
    have hwf := numbF_wt e hnf
    have hc3 := fun {X' : PMap} (hX : X2.le X') => fchk_spec (kind := kind) (by omega) hk (hr8.mono hX)
    obtain ⟨o8, n8, a8, b8, l8, c8, l9, c9, rfl⟩ := hr8.form
    try simp only at hc3
    rw [Option.isSome_some]
    refine SL.mv rfl <| SL.v (op_extract rfl rfl) <| SL.v (op_extract rfl rfl) <| SL.w (op_alloc z36) ?_
    rintro _ _ _ ⟨B11, rfl, rfl, rfl⟩
    refine SL.w (op_store ty36 rfl rfl (by repeat constructor) rfl rfl rfl) ?_
    rintro _ _ _ ⟨rfl, rfl⟩
    refine SL.as rfl <| SL.nil <| T.seq <| T.seq <| T.region <| SL.mv rfl <| SL.v (op_not rfl) <| SL.nil <| T.condF rfl <| T.skip <| T.seq <| T.seq <| T.region <| SL.v (op_load ty36 rfl (by repeat constructor) rfl) ?_
    refine SL.mv rfl <| SL.w (op_callF en18 (vs := [_, _]) rfl (hc3 (PMap.le_refl _))) ?_
    rintro _ _ X3 ⟨rfl, hX3, rfl⟩
    simp only
    by_cases d2 : chkF kind f = 0
    case neg =>
      rw [if_pos d2]
      refine SL.as rfl <| SL.nil <| T.seq <| T.region <| SL.mv rfl <| SL.v (op_neqT rfl rfl (by omega)) ?_
      refine SL.nil <| T.condT rfl <| T.seq <| T.region <| SL.v (op_build st36 (qs := []) rfl rfl) <| SL.mv rfl <| SL.w (op_store ty36 rfl rfl (by repeat constructor) rfl rfl rfl) ?_
      rintro _ _ _ ⟨rfl, rfl⟩
      refine SL.as rfl <| SL.nil <| T.ret2 rfl (ResIs.cell rfl ty36 (by repeat constructor) rfl) (ResIs.tmp rfl) ?_
      exact ⟨_, rfl, zeF_R⟩
    rw [if_neg (fun h => h d2), d2]
    refine SL.as rfl <| SL.nil <| T.seq <| T.region <| SL.mv rfl <| SL.v (op_neqF rfl rfl (by omega)) ?_
    refine SL.nil <| T.condF rfl <| T.skip <| T.seq <| T.region <| SL.v (op_load ty36 rfl (by repeat constructor) rfl) ?_
    refine SL.w (op_store ty36 rfl rfl (by repeat constructor) rfl rfl rfl) ?_
    rintro _ _ _ ⟨rfl, rfl⟩
    refine SL.v (op_assign (v := .int .i64 ((0 : Nat) : Int)) rfl) <| SL.nil <| T.ret2 rfl (ResIs.cell rfl ty36 (by repeat constructor) rfl) (ResIs.tmp rfl) ?_
    exact ⟨_, rfl, hr8.mono hX3⟩
theorem tabl_spec {X : PMap} {v : Value} {l : List ByteArray} (h : RowR strC X v l) (hl : l.length < 1000000) : Spec Tryz.prog 24 [v] X fun u X' => if errOf 63 [] l = 0 then TabR X' u l else u = .pointer none := by
  obtain ⟨A, cp, rfl⟩ := h.form
  refine Spec.enter Tryz.func24 rfl Tryz.ntmps24 rfl ?_
  intro w0 hw0
  refine T.seq <| T.region <| SL.as rfl <| SL.nil <| T.seq <| T.region <| SL.mv rfl <| SL.w (op_callF en72 (vs := [_, _]) rfl (of_tab_spec (n := 63) h hl)) ?_
  rintro u2 _ X1 ⟨rfl, hX1, hu⟩
  by_cases he : errOf 63 [] l = 0
  · rw [if_pos he] at hu
    obtain ⟨v', rfl, hT⟩ := hu
    refine SL.mv rfl <| SL.v (op_extract rfl rfl) <| SL.v (op_extract rfl rfl) <| SL.as rfl <| SL.as rfl <| SL.nil <| T.seq <| T.seq <| T.region <| SL.mv rfl <| SL.v (op_neqF rfl rfl (by omega)) ?_
    refine SL.nil <| T.condF rfl <| T.skip <| T.seq <| T.region <| SL.mv rfl <| SL.as rfl <| SL.nil <| T.ret1 rfl (ResIs.tmp rfl) ?_
    rw [if_pos he]
    exact hT
  · rw [if_neg he] at hu
    subst hu
    refine SL.mv rfl <| SL.v (op_extract rfl rfl) <| SL.v (op_extract rfl rfl) <| SL.as rfl <| SL.as rfl <| SL.nil <| T.seq <| T.seq <| T.region <| SL.mv rfl <| SL.v (op_neqT rfl rfl (by omega)) ?_
    refine SL.nil <| T.condT rfl <| T.seq <| T.region <| SL.as rfl <| SL.nil <| T.ret1 rfl (ResIs.tmp rfl) ?_
    rw [if_neg he]
theorem rresolve_spec {X : PMap} {e : Ex} {r : Row4} {vt : Value} {ns : List ByteArray} {adm kind : Nat} (hw : wtE e < 1000000) (h63 : ns.length ≤ 63) (hT : RowR strC X vt ns) (hS : adm < 18446744073709551616) (h : ExR .i64 X e r) : Spec Tryz.prog 28 [.agg #[r.1, r.2.1, r.2.2.1, r.2.2.2], .int .i64 (kind : Int), vt, .int .u64 (adm : Int)] X fun u X' => ∃ r' : Row4, u = .tuple #[.agg #[r'.1, r'.2.1, r'.2.2.1, r'.2.2.2], .int .i64 (resF ns adm kind e).2] ∧ FmR .i64 X' (resF ns adm kind e).1 r' := by
  have hc1 := fun {X' : PMap} (hX : X.le X') => rchk_spec (by omega) (h.mono hX)
  have hc2 := fun {X' : PMap} (hX : X.le X') => rnumb_spec (wtE e) (Nat.le_refl _) (by omega) h63 (hT.mono hX) hS (h.mono hX)
  obtain ⟨At, ct, rfl⟩ := hT.form
  obtain ⟨o, n, A, B, l, c, l', c', rfl⟩ := h.form
  try simp only at hc1
  try simp only at hc2
  rw [resF]
  by_cases k1 : kind < 1
  · rw [if_pos (.inl k1)]
    refine Spec.enter Tryz.func28 rfl Tryz.ntmps28 rfl ?_
    intro w0 hw0
    refine T.seq <| T.region <| SL.w (op_box rfl) ?_
    rintro _ _ _ ⟨B4, rfl, rfl, rfl⟩
    refine SL.w (op_alloc z27) ?_
    rintro _ _ _ ⟨B8, rfl, rfl, rfl⟩
    refine SL.v (op_assign (v := .int .i64 ((0 : Nat) : Int)) rfl) <| SL.nil <| T.seq <| T.seq <| T.region <| SL.mv rfl <| SL.v (op_lssT rfl rfl (by omega)) ?_
    refine SL.mv rfl <| SL.skip rfl rfl ?_
    refine SL.skip rfl rfl ?_
    refine SL.v (op_pickT rfl rfl) <| SL.nil <| T.condT rfl <| T.seq <| T.region <| SL.v (op_build st27 (qs := []) rfl rfl) <| SL.w (op_store ty27 rfl rfl (by repeat constructor) rfl rfl rfl) ?_
    rintro _ _ _ ⟨rfl, rfl⟩
    refine SL.v (op_assign (v := .int .i64 ((1 : Nat) : Int)) rfl) <| SL.nil <| T.ret2 rfl (ResIs.cell rfl ty27 (by repeat constructor) rfl) (ResIs.tmp rfl) ?_
    exact ⟨_, rfl, zeF_R⟩
  by_cases k2 : 3 < kind
  · rw [if_pos (.inr k2)]
    refine Spec.enter Tryz.func28 rfl Tryz.ntmps28 rfl ?_
    intro w0 hw0
    refine T.seq <| T.region <| SL.w (op_box rfl) ?_
    rintro _ _ _ ⟨B4, rfl, rfl, rfl⟩
    refine SL.w (op_alloc z27) ?_
    rintro _ _ _ ⟨B8, rfl, rfl, rfl⟩
    refine SL.v (op_assign (v := .int .i64 ((0 : Nat) : Int)) rfl) <| SL.nil <| T.seq <| T.seq <| T.region <| SL.mv rfl <| SL.v (op_lssF rfl rfl (by omega)) ?_
    refine SL.mv rfl <| SL.mv rfl <| SL.v (op_gtrT rfl rfl (by omega)) ?_
    refine SL.v (op_pickF rfl rfl) <| SL.nil <| T.condT rfl <| T.seq <| T.region <| SL.v (op_build st27 (qs := []) rfl rfl) <| SL.w (op_store ty27 rfl rfl (by repeat constructor) rfl rfl rfl) ?_
    rintro _ _ _ ⟨rfl, rfl⟩
    refine SL.v (op_assign (v := .int .i64 ((1 : Nat) : Int)) rfl) <| SL.nil <| T.ret2 rfl (ResIs.cell rfl ty27 (by repeat constructor) rfl) (ResIs.tmp rfl) ?_
    exact ⟨_, rfl, zeF_R⟩
  rw [if_neg (fun h => h.elim k1 k2)]
  refine Spec.enter Tryz.func28 rfl Tryz.ntmps28 rfl ?_
  intro w0 hw0
  refine T.seq <| T.region <| SL.w (op_box rfl) ?_
  rintro _ _ _ ⟨B4, rfl, rfl, rfl⟩
  refine SL.w (op_alloc z27) ?_
  rintro _ _ _ ⟨B8, rfl, rfl, rfl⟩
  refine SL.v (op_assign (v := .int .i64 ((0 : Nat) : Int)) rfl) <| SL.nil <| T.seq <| T.seq <| T.region <| SL.mv rfl <| SL.v (op_lssF rfl rfl (by omega)) ?_
  refine SL.mv rfl <| SL.mv rfl <| SL.v (op_gtrF rfl rfl (by omega)) ?_
  refine SL.v (op_pickF rfl rfl) <| SL.nil <| T.condF rfl <| T.skip <| T.seq <| T.region <| SL.v (op_load ty62 rfl (by repeat constructor) rfl) ?_
  refine SL.w (op_callF en75 (vs := [_]) rfl (hc1 (PMap.le_refl _))) ?_
  rintro _ _ X1 ⟨rfl, hX1, rfl⟩
  by_cases d : chkE e = 0
  case neg =>
    rw [if_pos d]
    refine SL.as rfl <| SL.nil <| T.seq <| T.seq <| T.region <| SL.mv rfl <| SL.v (op_neqT rfl rfl (by omega)) ?_
    refine SL.nil <| T.condT rfl <| T.seq <| T.region <| SL.v (op_build st27 (qs := []) rfl rfl) <| SL.mv rfl <| SL.w (op_store ty27 rfl rfl (by repeat constructor) rfl rfl rfl) ?_
    rintro _ _ _ ⟨rfl, rfl⟩
    refine SL.as rfl <| SL.nil <| T.ret2 rfl (ResIs.cell rfl ty27 (by repeat constructor) rfl) (ResIs.tmp rfl) ?_
    exact ⟨_, rfl, zeF_R⟩
  rw [if_neg (fun h => h d), d]
  refine SL.as rfl <| SL.nil <| T.seq <| T.seq <| T.region <| SL.mv rfl <| SL.v (op_neqF rfl rfl (by omega)) ?_
  refine SL.nil <| T.condF rfl <| T.skip <| T.seq <| T.region <| SL.v (op_load ty62 rfl (by repeat constructor) rfl) ?_
  refine SL.mv rfl <| SL.mv rfl <| SL.w (op_callF en76 (vs := [_, _, _]) rfl (hc2 hX1)) ?_
  rintro _ _ X2 ⟨rfl, hX2, r8, rfl, hr8⟩
  cases hnf : numbF ns adm e with
  | none =>
    obtain ⟨o8, n8, a8, b8, l8, c8, l9, c9, rfl⟩ := hr8.form
    rw [Option.isSome_none]
    refine SL.mv rfl <| SL.v (op_extract rfl rfl) <| SL.v (op_extract rfl rfl) <| SL.w (op_alloc z27) ?_
    rintro _ _ _ ⟨B11, rfl, rfl, rfl⟩
    refine SL.w (op_store ty27 rfl rfl (by repeat constructor) rfl rfl rfl) ?_
    rintro _ _ _ ⟨rfl, rfl⟩
    refine SL.as rfl <| SL.nil <| T.seq <| T.seq <| T.region <| SL.mv rfl <| SL.v (op_not rfl) <| SL.nil <| T.condT rfl <| T.seq <| T.region <| SL.v (op_build st27 (qs := []) rfl rfl) <| SL.w (op_store ty27 rfl rfl (by repeat constructor) rfl rfl rfl) ?_
    rintro _ _ _ ⟨rfl, rfl⟩
    refine SL.v (op_assign (v := .int .i64 ((9 : Nat) : Int)) rfl) <| SL.nil <| T.ret2 rfl (ResIs.cell rfl ty27 (by repeat constructor) rfl) (ResIs.tmp rfl) ?_
    exact ⟨_, rfl, zeF_R⟩
  | some f =>
    rw [hnf, Option.getD_some] at hr8
    have hwf := numbF_wt e hnf
    have hc3 := fun {X' : PMap} (hX : X2.le X') => rfchk_spec (kind := kind) (by omega) (hr8.mono hX)
    obtain ⟨o8, n8, a8, b8, l8, c8, l9, c9, rfl⟩ := hr8.form
    try simp only at hc3
    rw [Option.isSome_some]
    refine SL.mv rfl <| SL.v (op_extract rfl rfl) <| SL.v (op_extract rfl rfl) <| SL.w (op_alloc z27) ?_
    rintro _ _ _ ⟨B11, rfl, rfl, rfl⟩
    refine SL.w (op_store ty27 rfl rfl (by repeat constructor) rfl rfl rfl) ?_
    rintro _ _ _ ⟨rfl, rfl⟩
    refine SL.as rfl <| SL.nil <| T.seq <| T.seq <| T.region <| SL.mv rfl <| SL.v (op_not rfl) <| SL.nil <| T.condF rfl <| T.skip <| T.seq <| T.region <| SL.v (op_load ty27 rfl (by repeat constructor) rfl) ?_
    refine SL.mv rfl <| SL.w (op_callF en19 (vs := [_, _]) rfl (hc3 (PMap.le_refl _))) ?_
    rintro _ _ X3 ⟨rfl, hX3, rfl⟩
    simp only
    by_cases d2 : chkF kind f = 0
    case neg =>
      rw [if_pos d2]
      refine SL.as rfl <| SL.nil <| T.seq <| T.seq <| T.region <| SL.mv rfl <| SL.v (op_neqT rfl rfl (by omega)) ?_
      refine SL.nil <| T.condT rfl <| T.seq <| T.region <| SL.v (op_build st27 (qs := []) rfl rfl) <| SL.mv rfl <| SL.w (op_store ty27 rfl rfl (by repeat constructor) rfl rfl rfl) ?_
      rintro _ _ _ ⟨rfl, rfl⟩
      refine SL.as rfl <| SL.nil <| T.ret2 rfl (ResIs.cell rfl ty27 (by repeat constructor) rfl) (ResIs.tmp rfl) ?_
      exact ⟨_, rfl, zeF_R⟩
    rw [if_neg (fun h => h d2), d2]
    refine SL.as rfl <| SL.nil <| T.seq <| T.seq <| T.region <| SL.mv rfl <| SL.v (op_neqF rfl rfl (by omega)) ?_
    refine SL.nil <| T.condF rfl <| T.skip <| T.seq <| T.region <| SL.v (op_load ty27 rfl (by repeat constructor) rfl) ?_
    refine SL.w (op_store ty27 rfl rfl (by repeat constructor) rfl rfl rfl) ?_
    rintro _ _ _ ⟨rfl, rfl⟩
    refine SL.v (op_assign (v := .int .i64 ((0 : Nat) : Int)) rfl) <| SL.nil <| T.ret2 rfl (ResIs.cell rfl ty27 (by repeat constructor) rfl) (ResIs.tmp rfl) ?_
    exact ⟨_, rfl, hr8.mono hX3⟩
end Go.Proofs.YtnpcilglilfajaaGreatDoor
namespace Go.Proofs.YtnpcilglilfajaaGreatDoor
section
set_option maxRecDepth 100000
theorem fa121_0 : FAdr Tryz.prog 121 0 0 := fadr_mk Tryz.underlying121 rfl rfl (by kernel_rfl)
theorem fa121_1 : FAdr Tryz.prog 121 1 1 := fadr_mk Tryz.underlying121 rfl rfl (by kernel_rfl)
theorem fa121_2 : FAdr Tryz.prog 121 2 2 := fadr_mk Tryz.underlying121 rfl rfl (by kernel_rfl)
theorem fa121_3 : FAdr Tryz.prog 121 3 3 := fadr_mk Tryz.underlying121 rfl rfl (by kernel_rfl)
end
open Go.RowKit
theorem rline_spec {X : PMap} {c : Con} {r : Row7} (h : ConRi X c r) (h1 : 1 ≤ c.kind) (h3 : c.kind ≤ 3) (hv : c.name.size ≤ 12) (hw : wtE c.ex < 900000) (hn : nodeE c.ex = 0) : Spec Tryz.prog 155 [.agg (rc7i r).toArray] X fun u _ => u = .string (lineB c) := by
  obtain ⟨o0, n0, a0, b0, l0, c0, m0, d0, rfl⟩ := h.form
  have hex := h.2.2.2
  simp only at hex
  have hk := strsC_at (kind_at h1 h3)
  have hts := text_size c.ex
  have hks := kindB_size c.kind
  have hms := modeB_size c
  have k1 : (⟨#[58, 32]⟩ : ByteArray).size = 2 := rfl
  have k2 : (⟨#[59, 10]⟩ : ByteArray).size = 2 := rfl
  have k3 : (⟨#[101, 110, 102, 111, 114, 99, 101, 32]⟩ : ByteArray).size = 8 := rfl
  have k4 : (⟨#[100, 101, 99, 108, 97, 114, 101, 32]⟩ : ByteArray).size = 8 := rfl
  have e0 : (rc7i (c.enf, c.kind, c.name, .int .i64 (o0 : Int), .int .i64 n0, .slice a0 l0 c0, .slice b0 m0 d0)).toArray = #[.bool c.enf, .int .i64 (c.kind : Int), .string c.name, .int .i64 (o0 : Int), .int .i64 n0, .slice a0 l0 c0, .slice b0 m0 d0] := rfl
  rw [e0]
  have key : modeB c = (if c.enf then ⟨#[101, 110, 102, 111, 114, 99, 101, 32]⟩ else ⟨#[100, 101, 99, 108, 97, 114, 101, 32]⟩) := rfl
  have hcall := fun {X' : PMap} (hX : X.le X') => rtext_spec 900000 (by omega) (by omega) hn (hex.mono hX)
  try simp only at hcall
  cases hce : c.enf with
  | true =>
    rw [hce, if_pos rfl] at key
    refine Spec.enter Tryz.func155 rfl Tryz.ntmps155 rfl ?_
    intro w0 hw0
    refine T.seq <| T.region <| SL.w (op_box rfl) ?_
    rintro _ _ _ ⟨B1, rfl, rfl, rfl⟩
    refine SL.as rfl <| SL.nil <| T.seq <| T.region <| SL.as rfl <| SL.nil <| T.seq <| T.seq <| T.region <| SL.v (op_fieldAddr fa121_0 rfl) <| SL.v (op_load ty4 rfl (by repeat constructor) rfl) ?_
    refine SL.nil <| T.condT rfl <| T.region <| SL.as rfl <| SL.nil <| T.seq <| T.draw (by kernel_rfl) 18 [.t 0, .t 2, .t 3, .t 4, .t 8, .t 9, .t 12, .t 13, .b 1 14 [(0, 5), (0, 6), (0, 7), (0, 10), (0, 11), (2, 14), (0, 15), (0, 16), (0, 17)] [(2, 1), (0, 5), (0, 6), (0, 7), (0, 10), (0, 11), (0, 15), (0, 16), (0, 17)]] (by kernel_rfl) ?_
    refine SD.take rfl panicBody (op_move rfl) rfl rfl ?_
    refine SD.take rfl panicBody (op_fieldAddr fa121_1 rfl) rfl rfl ?_
    refine SD.take rfl panicBody (op_load ty3 rfl (by repeat constructor) rfl) rfl rfl ?_
    refine SD.take rfl panicBody (op_subN (q := 1) rfl rfl (by omega) (by omega)) rfl rfl ?_
    refine SD.take rfl panicBody (op_fieldAddr fa121_2 rfl) rfl rfl ?_
    refine SD.take rfl panicBody (op_load ty9 rfl (by repeat constructor) rfl) rfl rfl ?_
    refine SD.take rfl panicBody (op_fieldAddr fa121_3 rfl) rfl rfl ?_
    refine SD.take rfl panicBody (op_load ty62 rfl (by repeat constructor) rfl) rfl rfl ?_
    refine SD.branch rfl rfl (op_buildSlice Tryz.underlying59 bs9 (qs := [(0, _), (1, _), (2, _)]) rfl rfl rfl rfl rfl) (op_callF en187 (vs := [_]) rfl (hcall (PMap.le_refl _))) rfl rfl rfl rfl ?_ ?_
    · rintro _ _ _ ⟨B7, rfl, rfl, rfl⟩
      change SD _ _ _ _ _ _ _ _ _ _ _ [.t 5, .t 6, .t 7, .t 10, .t 11, .r 14, .t 15, .t 16, .t 17] _ _ _
      refine SD.up (by intro p hp; first | exact hp | exact List.mem_cons_of_mem _ hp) (by first | exact PMap.le_refl _ | assumption) ?_
      refine SD.take rfl panicBody (op_indexN Tryz.underlying59 ty9 rfl rfl (by omega)) rfl rfl ?_
      refine SD.take rfl panicBody (op_load ty9 rfl (by repeat constructor) (cread1k' hk (by omega))) rfl rfl ?_
      refine SD.take rfl panicBody (op_addStr rfl rfl (by first | omega | (simp only [ByteArray.size_append]; omega))) rfl rfl ?_
      refine SD.take rfl panicBody (op_addStr rfl rfl (by first | omega | (simp only [ByteArray.size_append]; omega))) rfl rfl ?_
      refine SD.take rfl panicBody (op_addStr rfl rfl (by first | omega | (simp only [ByteArray.size_append]; omega))) rfl rfl ?_
      refine SD.run rfl (op_callF en187 (vs := [_]) rfl (hcall (PMap.le_refl _))) rfl rfl ?_
      rintro _ _ X2 ⟨rfl, hX2, rfl⟩
      refine SD.take rfl panicBody (op_addStr rfl rfl (by first | omega | (simp only [ByteArray.size_append]; omega))) rfl rfl ?_
      refine SD.take rfl panicBody (op_addStr rfl rfl (by first | omega | (simp only [ByteArray.size_append]; omega))) rfl rfl ?_
      refine SD.take rfl panicBody (op_assign rfl) rfl rfl ?_
      refine SD.nil ?_
      show SL _ _ _ _ _ _ _ [] _ _ _
      refine SL.nil <| T.ret1 rfl (ResIs.tmp rfl) ?_
      rw [lineB, key]
    · rintro _ _ X2 ⟨rfl, hX2, rfl⟩
      change SD _ _ _ _ _ _ _ _ _ _ _ [.r 1, .t 5, .t 6, .t 7, .t 10, .t 11, .t 15, .t 16, .t 17] _ _ _
      refine SD.up (by intro p hp; first | exact hp | exact List.mem_cons_of_mem _ hp) (by first | exact PMap.le_refl _ | assumption) ?_
      refine SD.run rfl (op_buildSlice Tryz.underlying59 bs9 (qs := [(0, _), (1, _), (2, _)]) rfl rfl rfl rfl rfl) rfl rfl ?_
      rintro _ _ _ ⟨B7, rfl, rfl, rfl⟩
      refine SD.take rfl panicBody (op_indexN Tryz.underlying59 ty9 rfl rfl (by omega)) rfl rfl ?_
      refine SD.up (by intro p hp; first | exact hp | exact List.mem_cons_of_mem _ hp | exact List.mem_append_right _ hp) (by first | exact PMap.le_refl _ | assumption) ?_
      refine SD.take rfl panicBody (op_load ty9 rfl (by repeat constructor) (cread1k' hk (by omega))) rfl rfl ?_
      refine SD.take rfl panicBody (op_addStr rfl rfl (by first | omega | (simp only [ByteArray.size_append]; omega))) rfl rfl ?_
      refine SD.take rfl panicBody (op_addStr rfl rfl (by first | omega | (simp only [ByteArray.size_append]; omega))) rfl rfl ?_
      refine SD.take rfl panicBody (op_addStr rfl rfl (by first | omega | (simp only [ByteArray.size_append]; omega))) rfl rfl ?_
      refine SD.take rfl panicBody (op_addStr rfl rfl (by first | omega | (simp only [ByteArray.size_append]; omega))) rfl rfl ?_
      refine SD.take rfl panicBody (op_addStr rfl rfl (by first | omega | (simp only [ByteArray.size_append]; omega))) rfl rfl ?_
      refine SD.take rfl panicBody (op_assign rfl) rfl rfl ?_
      refine SD.nil ?_
      show SL _ _ _ _ _ _ _ [] _ _ _
      refine SL.nil <| T.ret1 rfl (ResIs.tmp rfl) ?_
      rw [lineB, key]
  | false =>
    rw [hce, if_neg (by simp)] at key
    refine Spec.enter Tryz.func155 rfl Tryz.ntmps155 rfl ?_
    intro w0 hw0
    refine T.seq <| T.region <| SL.w (op_box rfl) ?_
    rintro _ _ _ ⟨B1, rfl, rfl, rfl⟩
    refine SL.as rfl <| SL.nil <| T.seq <| T.region <| SL.as rfl <| SL.nil <| T.seq <| T.seq <| T.region <| SL.v (op_fieldAddr fa121_0 rfl) <| SL.v (op_load ty4 rfl (by repeat constructor) rfl) ?_
    refine SL.nil <| T.condF rfl <| T.skip <| T.seq <| T.draw (by kernel_rfl) 18 [.t 0, .t 2, .t 3, .t 4, .t 8, .t 9, .t 12, .t 13, .b 1 14 [(0, 5), (0, 6), (0, 7), (0, 10), (0, 11), (2, 14), (0, 15), (0, 16), (0, 17)] [(2, 1), (0, 5), (0, 6), (0, 7), (0, 10), (0, 11), (0, 15), (0, 16), (0, 17)]] (by kernel_rfl) ?_
    refine SD.take rfl panicBody (op_move rfl) rfl rfl ?_
    refine SD.take rfl panicBody (op_fieldAddr fa121_1 rfl) rfl rfl ?_
    refine SD.take rfl panicBody (op_load ty3 rfl (by repeat constructor) rfl) rfl rfl ?_
    refine SD.take rfl panicBody (op_subN (q := 1) rfl rfl (by omega) (by omega)) rfl rfl ?_
    refine SD.take rfl panicBody (op_fieldAddr fa121_2 rfl) rfl rfl ?_
    refine SD.take rfl panicBody (op_load ty9 rfl (by repeat constructor) rfl) rfl rfl ?_
    refine SD.take rfl panicBody (op_fieldAddr fa121_3 rfl) rfl rfl ?_
    refine SD.take rfl panicBody (op_load ty62 rfl (by repeat constructor) rfl) rfl rfl ?_
    refine SD.branch rfl rfl (op_buildSlice Tryz.underlying59 bs9 (qs := [(0, _), (1, _), (2, _)]) rfl rfl rfl rfl rfl) (op_callF en187 (vs := [_]) rfl (hcall (PMap.le_refl _))) rfl rfl rfl rfl ?_ ?_
    · rintro _ _ _ ⟨B7, rfl, rfl, rfl⟩
      change SD _ _ _ _ _ _ _ _ _ _ _ [.t 5, .t 6, .t 7, .t 10, .t 11, .r 14, .t 15, .t 16, .t 17] _ _ _
      refine SD.up (by intro p hp; first | exact hp | exact List.mem_cons_of_mem _ hp) (by first | exact PMap.le_refl _ | assumption) ?_
      refine SD.take rfl panicBody (op_indexN Tryz.underlying59 ty9 rfl rfl (by omega)) rfl rfl ?_
      refine SD.take rfl panicBody (op_load ty9 rfl (by repeat constructor) (cread1k' hk (by omega))) rfl rfl ?_
      refine SD.take rfl panicBody (op_addStr rfl rfl (by first | omega | (simp only [ByteArray.size_append]; omega))) rfl rfl ?_
      refine SD.take rfl panicBody (op_addStr rfl rfl (by first | omega | (simp only [ByteArray.size_append]; omega))) rfl rfl ?_
      refine SD.take rfl panicBody (op_addStr rfl rfl (by first | omega | (simp only [ByteArray.size_append]; omega))) rfl rfl ?_
      refine SD.run rfl (op_callF en187 (vs := [_]) rfl (hcall (PMap.le_refl _))) rfl rfl ?_
      rintro _ _ X2 ⟨rfl, hX2, rfl⟩
      refine SD.take rfl panicBody (op_addStr rfl rfl (by first | omega | (simp only [ByteArray.size_append]; omega))) rfl rfl ?_
      refine SD.take rfl panicBody (op_addStr rfl rfl (by first | omega | (simp only [ByteArray.size_append]; omega))) rfl rfl ?_
      refine SD.take rfl panicBody (op_assign rfl) rfl rfl ?_
      refine SD.nil ?_
      show SL _ _ _ _ _ _ _ [] _ _ _
      refine SL.nil <| T.ret1 rfl (ResIs.tmp rfl) ?_
      rw [lineB, key]
    · rintro _ _ X2 ⟨rfl, hX2, rfl⟩
      change SD _ _ _ _ _ _ _ _ _ _ _ [.r 1, .t 5, .t 6, .t 7, .t 10, .t 11, .t 15, .t 16, .t 17] _ _ _
      refine SD.up (by intro p hp; first | exact hp | exact List.mem_cons_of_mem _ hp) (by first | exact PMap.le_refl _ | assumption) ?_
      refine SD.run rfl (op_buildSlice Tryz.underlying59 bs9 (qs := [(0, _), (1, _), (2, _)]) rfl rfl rfl rfl rfl) rfl rfl ?_
      rintro _ _ _ ⟨B7, rfl, rfl, rfl⟩
      refine SD.take rfl panicBody (op_indexN Tryz.underlying59 ty9 rfl rfl (by omega)) rfl rfl ?_
      refine SD.up (by intro p hp; first | exact hp | exact List.mem_cons_of_mem _ hp | exact List.mem_append_right _ hp) (by first | exact PMap.le_refl _ | assumption) ?_
      refine SD.take rfl panicBody (op_load ty9 rfl (by repeat constructor) (cread1k' hk (by omega))) rfl rfl ?_
      refine SD.take rfl panicBody (op_addStr rfl rfl (by first | omega | (simp only [ByteArray.size_append]; omega))) rfl rfl ?_
      refine SD.take rfl panicBody (op_addStr rfl rfl (by first | omega | (simp only [ByteArray.size_append]; omega))) rfl rfl ?_
      refine SD.take rfl panicBody (op_addStr rfl rfl (by first | omega | (simp only [ByteArray.size_append]; omega))) rfl rfl ?_
      refine SD.take rfl panicBody (op_addStr rfl rfl (by first | omega | (simp only [ByteArray.size_append]; omega))) rfl rfl ?_
      refine SD.take rfl panicBody (op_addStr rfl rfl (by first | omega | (simp only [ByteArray.size_append]; omega))) rfl rfl ?_
      refine SD.take rfl panicBody (op_assign rfl) rfl rfl ?_
      refine SD.nil ?_
      show SL _ _ _ _ _ _ _ [] _ _ _
      refine SL.nil <| T.ret1 rfl (ResIs.tmp rfl) ?_
      rw [lineB, key]
end Go.Proofs.YtnpcilglilfajaaGreatDoor
