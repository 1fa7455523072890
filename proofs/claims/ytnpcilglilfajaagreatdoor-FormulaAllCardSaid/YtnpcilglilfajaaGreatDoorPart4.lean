/- What the law's proof rests on: the engine, a small separation logic over the kit's walk, and contracts of the functions that the law reaches. Part 4. -/
import Derived.Lib.MakeNoZero
import Derived.Laws.IdiomStrings
import Derived.Test.YtnpcilglilfajaaGreatDoorProg
import Derived.WalkKit
import Derived.OpenShut
import Derived.Lib.SmallJoins
import Derived.Laws.IdiomArrays
import Derived.ChangeArms
import Derived.Laws.Externs
import Derived.MapKept
import Derived.Test.YtnpcilglilfajaaGreatDoorPart1
import Derived.Test.YtnpcilglilfajaaGreatDoorPart2
import Derived.Test.YtnpcilglilfajaaGreatDoorPart3
namespace Go.Proofs.YtnpcilglilfajaaGreatDoor
section
set_option maxRecDepth 100000
theorem en157 : Enters Tryz.prog 157 := enters_mk Tryz.func157 (by kernel_rfl) rfl
theorem en189 : Enters Tryz.prog 189 := enters_mk Tryz.func189 (by kernel_rfl) rfl
theorem en207 : Enters Tryz.prog 207 := enters_mk Tryz.func207 (by kernel_rfl) rfl
theorem fa192_0 : FAdr Tryz.prog 192 0 0 := fadr_mk Tryz.underlying192 rfl rfl (by kernel_rfl)
theorem ty190 : Ty Tryz.prog 190 false 1 := ⟨⟨_, Tryz.underlying190, rfl⟩, by kernel_rfl⟩
end
open Go.RowKit
section
variable {ro : Option Nat} {P : Program} {n : NM} {w0 : Base} {X0 X : PMap} {own : Own} {env : Env}
/-- A part of a string. -/
theorem op_sliceStr {t : TypeId} {x lo hi : Operand} {s : ByteArray} {l h : Nat} {k k' : IntKind} (ht : P.underlying t = some .string) (hx : eev env x = some (.string s)) (hl : eev env lo = some (.int k (l : Int))) (hh : eev env hi = some (.int k' (h : Int))) (h1 : l ≤ h) (h2 : h ≤ s.size) :
    OpY P n env own X (.slice t x (some lo) (some hi) none) (.string (s.extract l h)) := by
  intro a W oper hop ha _
  have hb : (Instr.sliceBounds false s.size s.size (some (.int k (l : Int))) (some (.int k' (h : Int))) none).run P W = .ok (l, h, s.size) W := by
    simp [Instr.sliceBounds, Instr.sliceBound, asIntOf, h2, h1]
  have : (Instr.sliceAt t (.string s) (some (.int k (l : Int))) (some (.int k' (h : Int))) none).run P W = .ok (.string (s.extract l h)) W := by
    simp only [Instr.sliceAt, Sem.run_bind, run_underlying ht, Result.andThen_ok, Instr.slice]
    simp [hb]
  simp [execOp, hop, ha.eval hx, ha.eval hl, ha.eval hh, this]
theorem op_eqlStr {t t' : TypeId} {x y : Operand} {s s' : ByteArray} (_ht : P.underlying t = some .string) (hx : eev env x = some (.string s)) (hy : eev env y = some (.string s')) : OpY P n env own X (.binOp .eql t x y t') (.bool (s.toList == s'.toList)) := by
  intro a W oper hop ha _
  have h0 : ∀ (e : BinOp) (u v : Operand), eqGuard e t u v (.string s) (.string s') = pure () := fun e u v => by cases e <;> rfl
  have h2 : (Op.stringOp .eql s s').run P W = .ok (.bool (s.toList == s'.toList)) W := by simp [Op.stringOp]
  simp only [execOp, hop, ha.eval hx, ha.eval hy, binOp, h0, Sem.run_bind, Sem.run_pure, Result.andThen_ok, h2]
end
theorem small_spec {X : PMap} (i : Nat) (hi : i < 10) : Spec Tryz.prog 207 [.int .i64 (i : Int)] X fun u _ => u = .string ⟨#[UInt8.ofNat (48 + i)]⟩ := by
  refine Spec.enter Tryz.func207 rfl Tryz.ntmps207 rfl ?_
  intro w0 hw0
  refine T.seq <| T.region <| SL.as rfl <| SL.nil <| T.seq <| T.seq <| T.region <| SL.mv rfl <| SL.v (op_lssT rfl rfl (by omega)) ?_
  refine SL.nil <| T.condT rfl <| T.seq <| T.region <| SL.mv rfl <| SL.mv rfl <| SL.v (op_addN (q := 1) rfl rfl (by omega)) ?_
  refine SL.v (op_sliceStr (l := i) (h := i + 1) Tryz.underlying9 rfl rfl rfl (by omega) (by show i + 1 ≤ 36; omega)) ?_
  refine SL.as rfl <| SL.nil <| T.ret1 rfl (ResIs.tmp rfl) ?_
  congr 1
  match i, hi with
  | 0, _ => rfl
  | 1, _ => rfl
  | 2, _ => rfl
  | 3, _ => rfl
  | 4, _ => rfl
  | 5, _ => rfl
  | 6, _ => rfl
  | 7, _ => rfl
  | 8, _ => rfl
  | 9, _ => rfl
theorem fmtInt_spec {X : PMap} (i : Nat) (hi : i < 10) : Spec Tryz.prog 189 [.int .i64 (i : Int), .int .i64 10] X fun u _ => u = .string ⟨#[UInt8.ofNat (48 + i)]⟩ := by
  refine Spec.enter Tryz.func189 rfl Tryz.ntmps189 rfl ?_
  intro w0 hw0
  refine T.seq <| T.region <| SL.as rfl <| SL.nil <| T.seq <| T.seq <| T.region <| SL.mv rfl <| SL.v (op_eqlT rfl rfl (by omega)) ?_
  refine SL.nil <| T.condT rfl <| T.seq <| T.seq <| T.region <| SL.mv rfl <| SL.v (op_leqT rfl rfl (by omega)) ?_
  refine SL.mv rfl <| SL.mv rfl <| SL.v (op_lssT rfl rfl (by omega)) ?_
  refine SL.v (op_pickT rfl rfl) <| SL.nil <| T.condT rfl <| T.seq <| T.region <| SL.mv rfl <| SL.w (op_callF en207 (vs := [_]) rfl (small_spec i hi)) ?_
  rintro _ _ X1 ⟨rfl, hX1, rfl⟩
  refine SL.as rfl <| SL.nil <| T.ret1 rfl (ResIs.tmp rfl) ?_
  rfl
theorem itoaI_spec {X : PMap} (i : Nat) (hi : i < 10) : Spec Tryz.prog 157 [.int .i64 (i : Int)] X fun u _ => u = .string ⟨#[UInt8.ofNat (48 + i)]⟩ := by
  refine Spec.enter Tryz.func157 rfl Tryz.ntmps157 rfl ?_
  intro w0 hw0
  refine T.seq <| T.region <| SL.as rfl <| SL.nil <| T.seq <| T.region <| SL.mv rfl <| SL.w (op_callF en189 (vs := [_, _]) rfl (fmtInt_spec i hi)) ?_
  rintro _ _ X1 ⟨rfl, hX1, rfl⟩
  refine SL.as rfl <| SL.nil <| T.ret1 rfl (ResIs.tmp rfl) ?_
  rfl
theorem itoa_spec {X : PMap} (i : Nat) (hi : i < 10) : Spec Tryz.prog 109 [.int .i64 (i : Int)] X fun u _ => u = .string ⟨#[UInt8.ofNat (48 + i)]⟩ := by
  refine Spec.enter Tryz.func109 rfl Tryz.ntmps109 rfl ?_
  intro w0 hw0
  refine T.seq <| T.region <| SL.as rfl <| SL.nil <| T.seq <| T.region <| SL.mv rfl <| SL.w (op_callF en157 (vs := [_]) rfl (itoaI_spec i hi)) ?_
  rintro _ _ X1 ⟨rfl, hX1, rfl⟩
  refine SL.as rfl <| SL.nil <| T.ret1 rfl (ResIs.tmp rfl) ?_
  rfl
/-- A builder. -/
abbrev BldO (b : Nat) (p s : Value) : Ow := ⟨b, [p, s], 192, 2⟩
theorem copyCheck_spec {X : PMap} {b : Nat} {p s : Value} (hp : p = .pointer none ∨ p = .pointer (some ⟨b, 0, none⟩)) : SpecM Tryz.prog 156 [.pointer (some ⟨b, 0, none⟩)] X [BldO b p s] fun u L' _ => u = .tuple #[] ∧ L' = [BldO b (.pointer (some ⟨b, 0, none⟩)) s] := by
  rcases hp with rfl | rfl
  · refine SpecM.enter Tryz.func156 rfl Tryz.ntmps156 rfl ?_
    intro w0 X0 own0
    refine T.seq <| T.region <| SL.mv rfl <| SL.v (op_nil rfl) <| SL.v (op_fieldAddr fa192_0 rfl) <| SL.v (op_load ty190 rfl (by repeat constructor) rfl) ?_
    refine SL.v (op_eqlNil Tryz.underlying190 rfl rfl) <| SL.nil <| T.condT rfl <| T.region <| SL.mv rfl <| SL.mv rfl <| SL.v (op_toUns (size := 1) Tryz.underlying190 Tryz.underlying260 (by kernel_rfl) rfl AtO.here (by omega)) ?_
    refine SL.v (op_noEsc Tryz.func188 (by kernel_rfl) (by kernel_rfl) (by kernel_rfl) (by kernel_rfl) rfl) ?_
    refine SL.v (op_fromUns (size := 2) Tryz.underlying260 Tryz.underlying190 (by kernel_rfl) rfl AtO.here (by kernel_rfl)) ?_
    refine SL.v (op_nil rfl) <| SL.v (op_fieldAddr fa192_0 rfl) <| SL.w (op_store ty190 rfl rfl (by repeat constructor) rfl rfl rfl) ?_
    rintro _ _ _ ⟨rfl, rfl⟩
    refine SL.nil <| T.doneM0 [BldO b (.pointer (some ⟨b, 0, none⟩)) s] rfl (List.Perm.refl _) ?_
    exact ⟨PMap.le_refl _, rfl, rfl⟩
  · refine SpecM.enter Tryz.func156 rfl Tryz.ntmps156 rfl ?_
    intro w0 X0 own0
    refine T.seq <| T.region <| SL.mv rfl <| SL.v (op_nil rfl) <| SL.v (op_fieldAddr fa192_0 rfl) <| SL.v (op_load ty190 rfl (by repeat constructor) rfl) ?_
    refine SL.v (op_eqlNil Tryz.underlying190 rfl rfl) <| SL.nil <| T.condF rfl <| T.seq <| T.region <| SL.mv rfl <| SL.v (op_nil rfl) <| SL.v (op_fieldAddr fa192_0 rfl) <| SL.v (op_load ty190 rfl (by repeat constructor) rfl) ?_
    refine SL.mv rfl <| SL.v (op_neqSame (size := 2) Tryz.underlying190 (by kernel_rfl) rfl rfl) ?_
    refine SL.nil <| T.condF rfl <| T.skip <| T.doneM0 [BldO b (.pointer (some ⟨b, 0, none⟩)) s] rfl (List.Perm.refl _) ?_
    exact ⟨PMap.le_refl _, rfl, rfl⟩
end Go.Proofs.YtnpcilglilfajaaGreatDoor
namespace Go.Proofs.YtnpcilglilfajaaGreatDoor
section
set_option maxRecDepth 100000
theorem en106 : Enters Tryz.prog 106 := enters_mk Tryz.func106 (by kernel_rfl) rfl
theorem en107 : Enters Tryz.prog 107 := enters_mk Tryz.func107 (by kernel_rfl) rfl
theorem en108 : Enters Tryz.prog 108 := enters_mk Tryz.func108 (by kernel_rfl) rfl
theorem en109 : Enters Tryz.prog 109 := enters_mk Tryz.func109 (by kernel_rfl) rfl
theorem en110 : Enters Tryz.prog 110 := enters_mk Tryz.func110 (by kernel_rfl) rfl
theorem en156 : Enters Tryz.prog 156 := enters_mk Tryz.func156 (by kernel_rfl) rfl
theorem fa192_1 : FAdr Tryz.prog 192 1 1 := fadr_mk Tryz.underlying192 rfl rfl (by kernel_rfl)
theorem ty44 : Ty Tryz.prog 44 false 1 := ⟨⟨_, Tryz.underlying44, rfl⟩, by kernel_rfl⟩
theorem z192 : Zero Tryz.prog 192 [.pointer none, .slice none 0 0] := ⟨zero_of (by kernel_rfl)⟩
end
open Go.RowKit
/-- The builder's bytes. -/
def BufG (l : List UInt8) (s : Value) (G : Own) : Prop := GrowS 5 1 s l.length (Lib.byteCells l) G
theorem bufg_snoc {l : List UInt8} {c : UInt8} {s : Value} {G : Own} (h : GrowS 5 1 s (l.length + 1) (Lib.byteCells l ++ [.int .u8 (c.toNat : Int)]) G) : BufG (l ++ [c]) s G := by
  unfold BufG
  simpa [Lib.byteCells] using h
theorem writeByte_spec {X : PMap} {b : Nat} {p s : Value} {G : Own} {l : List UInt8} (c : UInt8) (hp : p = .pointer none ∨ p = .pointer (some ⟨b, 0, none⟩)) (hG : BufG l s G) (hl : l.length < 1000000000) :
    SpecM Tryz.prog 106 [.pointer (some ⟨b, 0, none⟩), .int .u8 (c.toNat : Int)] X (BldO b p s :: G) fun u L' _ => u = .nilIface ∧ ∃ s' G', L' = BldO b (.pointer (some ⟨b, 0, none⟩)) s' :: G' ∧ BufG (l ++ [c]) s' G' := by
  obtain ⟨As, cps, rfl⟩ := GrowS.form hG
  refine SpecM.enter Tryz.func106 rfl Tryz.ntmps106 rfl ?_
  intro w0 X0 own0
  show T _ _ _ _ _ _ _ _ _ (BldO b p _ :: (G ++ own0)) _
  refine T.seq <| T.region <| SL.as rfl <| SL.nil <| T.seq <| T.region <| SL.mv rfl <| SL.w (op_callM en156 (vs := [_]) rfl (copyCheck_spec hp) rfl) ?_
  rintro _ _ X1 ⟨_, rfl, hX1, rfl, rfl⟩
  refine SL.nil <| T.seq <| T.region <| SL.mv rfl <| SL.mv rfl <| SL.v (op_nil rfl) <| SL.v (op_fieldAddr fa192_1 rfl) <| SL.v (op_load ty44 rfl (by repeat constructor) rfl) ?_
  refine SL.mv rfl <| SL.w (op_buildSlice Tryz.underlying44 bs5 (qs := [(0, _)]) rfl rfl rfl rfl rfl) ?_
  rintro _ _ _ ⟨B13, rfl, rfl, rfl⟩
  refine SL.perm (own' := ⟨B13, [.int .u8 (c.toNat : Int)], 5, 1⟩ :: ((BldO b (.pointer (some ⟨b, 0, none⟩)) (.slice As l.length cps) :: own0) ++ G)) permL ?_
  refine SL.w (op_appendG (own0 := BldO b (.pointer (some ⟨b, 0, none⟩)) (.slice As l.length cps) :: own0) sl44 rfl hG rfl rfl rfl (by (have : maxLen = 9223372036854775807 := rfl); omega) (by omega)) ?_
  rintro s' _ _ ⟨G', rfl, rfl, hG'⟩
  obtain ⟨As', cps', rfl⟩ := hG'.form
  refine SL.v (op_nil rfl) <| SL.v (op_fieldAddr fa192_1 rfl) <| SL.w (op_store ty44 rfl rfl (by repeat constructor) rfl rfl rfl) ?_
  rintro _ _ _ ⟨rfl, rfl⟩
  refine SL.nil <| T.seq <| T.region <| SL.as rfl <| SL.nil <| T.retM1 (BldO b (.pointer (some ⟨b, 0, none⟩)) _ :: G') rfl (ResIs.tmp rfl) permD ?_
  exact ⟨hX1, rfl, _, G', rfl, bufg_snoc hG'⟩
theorem builderLen_spec {X : PMap} {b : Nat} {p s : Value} {G : Own} {l : List UInt8} (hG : BufG l s G) :
    SpecM Tryz.prog 107 [.pointer (some ⟨b, 0, none⟩)] X [BldO b p s] fun u L' _ => u = .int .i64 (l.length : Int) ∧ L' = [BldO b p s] := by
  obtain ⟨As, cps, rfl⟩ := GrowS.form hG
  refine SpecM.enter Tryz.func107 rfl Tryz.ntmps107 rfl ?_
  intro w0 X0 own0
  refine T.seq <| T.region <| SL.v (op_assign (v := .int .i64 ((0 : Nat) : Int)) rfl) <| SL.nil <| T.seq <| T.region <| SL.mv rfl <| SL.v (op_nil rfl) <| SL.v (op_fieldAddr fa192_1 rfl) <| SL.v (op_load ty44 rfl (by repeat constructor) rfl) ?_
  refine SL.v (op_lenS Tryz.underlying44 rfl) <| SL.as rfl <| SL.nil <| T.retM1 [BldO b p (.slice As l.length cps)] rfl (ResIs.tmp rfl) (List.Perm.refl _) ?_
  exact ⟨PMap.le_refl _, rfl, rfl⟩
theorem writeString_spec {X : PMap} {b : Nat} {p s : Value} {G : Own} {l : List UInt8} (t : List UInt8) (hp : p = .pointer none ∨ p = .pointer (some ⟨b, 0, none⟩)) (hG : BufG l s G) (h0 : l ≠ []) (hl : l.length < 1000000000) (ht : t.length < 1000000000) :
    SpecM Tryz.prog 108 [.pointer (some ⟨b, 0, none⟩), .string ⟨t.toArray⟩] X (BldO b p s :: G) fun u L' _ => u = .tuple #[.int .i64 (t.length : Int), .nilIface] ∧ ∃ s' G', L' = BldO b (.pointer (some ⟨b, 0, none⟩)) s' :: G' ∧ BufG (l ++ t) s' G' := by
  rcases hG with ⟨hz, _⟩ | ⟨g, cap, rfl, rfl, hc1, hc2, hc3⟩
  · exact absurd (List.eq_nil_of_length_eq_zero hz) h0
  refine SpecM.enter Tryz.func108 rfl Tryz.ntmps108 rfl ?_
  intro w0 X0 own0
  show T _ _ _ _ _ _ _ _ _ (BldO b p _ :: ([_] ++ own0)) _
  refine T.seq <| T.region <| SL.v (op_assign (v := .int .i64 ((0 : Nat) : Int)) rfl) <| SL.as rfl <| SL.nil <| T.seq <| T.region <| SL.mv rfl <| SL.w (op_callM en156 (vs := [_]) rfl (copyCheck_spec hp) rfl) ?_
  rintro _ _ X1 ⟨_, rfl, hX1, rfl, rfl⟩
  refine SL.nil <| T.seq <| T.region <| SL.mv rfl <| SL.mv rfl <| SL.v (op_nil rfl) <| SL.v (op_fieldAddr fa192_1 rfl) <| SL.v (op_load ty44 rfl (by repeat constructor) rfl) ?_
  refine SL.mv rfl <| SL.perm (own' := (BldO b (.pointer (some ⟨b, 0, none⟩)) (.slice (some ⟨g, 0, none⟩) l.length cap) :: own0) ++ [⟨g, Lib.byteCells l, 5, cap * 1⟩]) (permA (G := [_])) ?_
  refine SL.w (op_appendStr (own := BldO b (.pointer (some ⟨b, 0, none⟩)) (.slice (some ⟨g, 0, none⟩) l.length cap) :: own0) Tryz.underlying44 Tryz.underlying9 (infoStr_of (by kernel_rfl)) rfl rfl hc1 hc2 hc3 (by show l.length + t.length ≤ _; omega)) ?_
  rintro s' _ _ ⟨G', rfl, rfl, hG', _⟩
  obtain ⟨As', cps', rfl⟩ := hG'.form
  refine SL.v (op_nil rfl) <| SL.v (op_fieldAddr fa192_1 rfl) <| SL.w (op_store ty44 rfl rfl (by repeat constructor) rfl rfl rfl) ?_
  rintro _ _ _ ⟨rfl, rfl⟩
  refine SL.nil <| T.seq <| T.region <| SL.mv rfl <| SL.v (op_lenStr Tryz.underlying9 rfl) <| SL.as rfl <| SL.as rfl <| SL.nil <| T.retM2 (BldO b (.pointer (some ⟨b, 0, none⟩)) _ :: G') rfl (ResIs.tmp rfl) (ResIs.tmp rfl) permD ?_
  refine ⟨hX1, rfl, _, G', rfl, ?_⟩
  have e : Lib.byteCells (l ++ t) = Lib.byteCells l ++ Lib.strCells ⟨t.toArray⟩ := by rw [Lib.byteCells_append]; rfl
  rw [BufG, e, List.length_append]
  exact hG'
theorem builderString_spec {X : PMap} {b : Nat} {p s : Value} {G : Own} {l : List UInt8} (hG : BufG l s G) (h0 : l ≠ []) (hl : l.length < 1000000000) :
    SpecM Tryz.prog 110 [.pointer (some ⟨b, 0, none⟩)] X (BldO b p s :: G) fun u L' _ => u = .string ⟨l.toArray⟩ ∧ L' = [BldO b p s] := by
  rcases hG with ⟨hz, _⟩ | ⟨g, cap, rfl, rfl, hc1, hc2, hc3⟩
  · exact absurd (List.eq_nil_of_length_eq_zero hz) h0
  have hpos : 0 < l.length := List.length_pos_iff.2 h0
  refine SpecM.enter Tryz.func110 rfl Tryz.ntmps110 rfl ?_
  intro w0 X0 own0
  refine T.perm (own' := (BldO b p (.slice (some ⟨g, 0, none⟩) l.length cap) :: own0) ++ [⟨g, Lib.byteCells l, 5, cap * 1⟩]) permC ?_
  refine T.seq <| T.region <| SL.as rfl <| SL.nil <| T.seq <| T.drawG (own0 := BldO b p (.slice (some ⟨g, 0, none⟩) l.length cap) :: own0) (by kernel_rfl) 12 [.t 0, .t 1, .t 2, .t 3, .t 4, .t 5, .t 6, .t 7, .t 8, .t 9, .r 10, .t 11] (by kernel_rfl) ?_
  refine SD.take rfl panicBody (op_move rfl) rfl rfl ?_
  refine SD.take rfl panicBody (op_nil rfl) rfl rfl ?_
  refine SD.take rfl panicBody (op_fieldAddr fa192_1 rfl) rfl rfl ?_
  refine SD.take rfl panicBody (op_load ty44 rfl (by repeat constructor) rfl) rfl rfl ?_
  refine SD.take rfl panicBody (op_sliceData rfl (by omega)) rfl rfl ?_
  refine SD.take rfl panicBody (op_move rfl) rfl rfl ?_
  refine SD.take rfl panicBody (op_nil rfl) rfl rfl ?_
  refine SD.take rfl panicBody (op_fieldAddr fa192_1 rfl) rfl rfl ?_
  refine SD.take rfl panicBody (op_load ty44 rfl (by repeat constructor) rfl) rfl rfl ?_
  refine SD.take rfl panicBody (op_lenS Tryz.underlying44 rfl) rfl rfl ?_
  refine SD.runK rfl (op_unsafeStr Tryz.underlying238 (by kernel_rfl) rfl rfl h0 hc1 hc2) (by rintro _ _ _ ⟨rfl, rfl, rfl⟩; exact ⟨fun p hp => hp, PMap.le_refl _⟩) rfl rfl ?_
  rintro _ _ _ ⟨rfl, rfl, rfl⟩
  refine SD.take rfl panicBody (op_assign rfl) rfl rfl ?_
  refine SD.nil ?_
  show SL _ _ _ _ _ _ _ [] _ _ _
  refine SL.nil <| T.retM1 [BldO b p (.slice (some ⟨g, 0, none⟩) l.length cap)] rfl (ResIs.tmp rfl) (List.Perm.refl _) ?_
  exact ⟨PMap.le_refl _, rfl, rfl⟩
/-- The text of a set of digits, without its last byte. -/
def txtOf (l : List Nat) : List UInt8 := l.foldl (fun acc i => (if 1 < acc.length then acc ++ [32] else acc) ++ [UInt8.ofNat (48 + i)]) [123]
theorem txtOf_succ (l : List Nat) (i : Nat) (h : i < l.length) : txtOf (l.take (i + 1)) = (if 1 < (txtOf (l.take i)).length then txtOf (l.take i) ++ [32] else txtOf (l.take i)) ++ [UInt8.ofNat (48 + l[i])] := by
  unfold txtOf
  rw [List.take_succ_eq_append_getElem h, List.foldl_append]
  rfl
theorem txtOf_len (l : List Nat) : 1 ≤ (txtOf l).length ∧ (txtOf l).length ≤ 1 + 2 * l.length := by
  have key : ∀ (l : List Nat) (acc : List UInt8), 1 ≤ acc.length → 1 ≤ (l.foldl (fun acc i => (if 1 < acc.length then acc ++ [32] else acc) ++ [UInt8.ofNat (48 + i)]) acc).length ∧ (l.foldl (fun acc i => (if 1 < acc.length then acc ++ [32] else acc) ++ [UInt8.ofNat (48 + i)]) acc).length ≤ acc.length + 2 * l.length := by
    intro l
    induction l with
    | nil => intro acc h; simpa using h
    | cons i l ih =>
      intro acc h
      rw [List.foldl_cons]
      have := ih ((if 1 < acc.length then acc ++ [32] else acc) ++ [UInt8.ofNat (48 + i)]) (by simp)
      refine ⟨this.1, Nat.le_trans this.2 ?_⟩
      split <;> simp <;> omega
  have := key l [123] (by simp)
  simpa [txtOf] using this
theorem ints_len_take (l : List Nat) : l.take (ints l).length = l := by simp [ints]
theorem text_spec {X : PMap} (hT : Tab X) {v : Value} {m : Nat} (h : SetR X v m) (hd : ∀ i ∈ mem64 m, i < 10) : Spec Tryz.prog 57 [v] X fun u _ => u = .string ⟨(txtOf (mem64 m) ++ [125]).toArray⟩ := by
  obtain ⟨A, l, c, rfl⟩ := h.form
  have h64 := mem64_length m
  refine Spec.enter Tryz.func57 rfl Tryz.ntmps57 rfl ?_
  intro w0 hw0
  refine T.seq <| T.region <| SL.w (op_box rfl) ?_
  rintro _ _ _ ⟨B1, rfl, rfl, rfl⟩
  refine SL.as rfl <| SL.nil <| T.seq <| T.region <| SL.w (op_alloc z192) ?_
  rintro _ _ _ ⟨B3, rfl, rfl, rfl⟩
  refine SL.nil <| T.seq <| T.region <| SL.w (op_callM en106 (vs := [_, _]) rfl (writeByte_spec (G := []) (l := []) 123 (.inl rfl) GrowS.nil (by simp)) rfl) ?_
  rintro _ _ X1 ⟨_, rfl, hX1, rfl, s1, G1, rfl, hG1⟩
  refine SL.nil <| T.seq <| T.seq <| T.region <| SL.v (op_load ty53 rfl ((AtO.here (l := [])).append (BldO B3 _ s1 :: G1)) rfl) <| SL.w (op_callF en85 (vs := [_]) rfl (all_spec)) ?_
  rintro _ _ X2 ⟨rfl, hX2, B7, rfl, hB7⟩
  refine SL.nil <| T.block <| T.rangeFunc (xs := (ints (mem64 m))) rfl en132 rfl rfl (all_seq ((hT.mono hX1).mono hX2) ((h.mono hX1).mono hX2) hB7) (fun i own' X' => X2.le X' ∧ ∃ s G, BufG (txtOf ((mem64 m).take i)) s G ∧ own' = BldO B3 (.pointer (some ⟨B3, 0, none⟩)) s :: (G ++ [⟨B1, [.slice A l c], 53, 1⟩])) ⟨PMap.le_refl _, s1, G1, hG1, rfl⟩ (fun i own' X' h => h.1) ?_ ?_
  · rintro i x _ X' l' r D hx ⟨hX', s, G, hG, rfl⟩
    obtain ⟨hi, rfl⟩ := ints_some hx
    have hlen := txtOf_len ((mem64 m).take i)
    have hlt : ((mem64 m).take i).length ≤ 64 := by rw [List.length_take]; omega
    have hdi := hd _ (List.getElem_mem hi)
    have hself : (Value.pointer (some ⟨B3, 0, none⟩) = .pointer none ∨ Value.pointer (some ⟨B3, 0, none⟩) = .pointer (some ⟨B3, 0, none⟩)) := .inr rfl
    by_cases h1 : 1 < (txtOf ((mem64 m).take i)).length
    · skip
      refine T.block <| T.seq <| T.seq <| T.region <| SL.w (op_callM en107 (vs := [_]) rfl (builderLen_spec hG) rfl) ?_
      rintro _ _ X3 ⟨_, rfl, hX3, rfl, rfl⟩
      refine SL.v (op_gtrT rfl rfl (by omega)) ?_
      refine SL.nil <| T.condT rfl <| T.region <| SL.w (op_callM en106 (vs := [_, _]) rfl (writeByte_spec 32 hself hG (by omega)) rfl) ?_
      rintro _ _ X4 ⟨_, rfl, hX4, rfl, s4, G4, rfl, hG4⟩
      refine SL.nil <| T.region <| SL.mv rfl <| SL.w (op_callF en109 (vs := [_]) rfl (itoa_spec (mem64 m)[i] hdi)) ?_
      rintro _ _ X5 ⟨rfl, hX5, rfl⟩
      refine SL.w (op_callM en108 (vs := [_, _]) rfl (writeString_spec [UInt8.ofNat (48 + (mem64 m)[i])] hself hG4 (by simp) (by simp; omega) (by simp)) rfl) ?_
      rintro _ _ X6 ⟨_, rfl, hX6, rfl, s6, G6, rfl, hG6⟩
      refine SL.nil <| T.blk ?_
      exact T.roundEnd ⟨(((hX'.trans' hX3).trans' hX4).trans' hX5).trans' hX6, s6, G6, by rw [txtOf_succ _ _ hi, if_pos h1]; exact hG6, rfl⟩
    · refine T.block <| T.seq <| T.seq <| T.region <| SL.w (op_callM en107 (vs := [_]) rfl (builderLen_spec hG) rfl) ?_
      rintro _ _ X3 ⟨_, rfl, hX3, rfl, rfl⟩
      refine SL.v (op_gtrF rfl rfl (by omega)) ?_
      refine SL.nil <| T.condF rfl <| T.skip <| T.region <| SL.mv rfl <| SL.w (op_callF en109 (vs := [_]) rfl (itoa_spec (mem64 m)[i] hdi)) ?_
      rintro _ _ X5 ⟨rfl, hX5, rfl⟩
      refine SL.w (op_callM en108 (vs := [_, _]) rfl (writeString_spec [UInt8.ofNat (48 + (mem64 m)[i])] hself hG (fun e => by rw [e] at hlen; simp at hlen) (by omega) (by simp)) rfl) ?_
      rintro _ _ X6 ⟨_, rfl, hX6, rfl, s6, G6, rfl, hG6⟩
      refine SL.nil <| T.blk ?_
      exact T.roundEnd ⟨((hX'.trans' hX3).trans' hX5).trans' hX6, s6, G6, by rw [txtOf_succ _ _ hi, if_neg h1]; exact hG6, rfl⟩
  · rintro D _ X3 ⟨hX3, s, G, hG, rfl⟩
    rw [ints_len_take] at hG
    have hlen := txtOf_len (mem64 m)
    refine T.blk <| T.seq <| T.region <| SL.w (op_callM en106 (vs := [_, _]) rfl (writeByte_spec 125 (.inr rfl) hG (by omega)) rfl) ?_
    rintro _ _ X4 ⟨_, rfl, hX4, rfl, s4, G4, rfl, hG4⟩
    refine SL.nil <| T.seq <| T.region <| SL.w (op_callM en110 (vs := [_]) rfl (builderString_spec hG4 (by simp) (by simp; omega)) rfl) ?_
    rintro _ _ X5 ⟨_, rfl, hX5, rfl, rfl⟩
    refine SL.as rfl <| SL.nil <| T.ret1 rfl (ResIs.tmp rfl) ?_
    rfl
theorem op_eqlStrT {P : Program} {n : NM} {own : Own} {X : PMap} {env : Env} {t t' : TypeId} {x y : Operand} {s : ByteArray} (ht : P.underlying t = some .string) (hx : eev env x = some (.string s)) (hy : eev env y = some (.string s)) : OpY P n env own X (.binOp .eql t x y t') (.bool true) := by
  have := op_eqlStr (P := P) (n := n) (own := own) (X := X) (t' := t') ht hx hy
  rwa [beq_self_eq_true] at this
end Go.Proofs.YtnpcilglilfajaaGreatDoor
namespace Go.Proofs.YtnpcilglilfajaaGreatDoor
section
set_option maxRecDepth 100000
theorem en212 : Enters Tryz.prog 212 := enters_mk Tryz.func212 (by kernel_rfl) rfl
theorem en217 : Enters Tryz.prog 217 := enters_mk Tryz.func217 (by kernel_rfl) rfl
end
open Go.RowKit
section
variable {P : Program} {n : NM} {w0 : Base} {X0 X : PMap} {own : Own} {env : Env}
/-- append of a string onto nil. -/
theorem op_appendStrNil {t u e : TypeId} {s x : Operand} {str : ByteArray} (ht : P.underlying t = some (.slice e)) (hu : P.underlying u = some .string) (hi : ∃ i, P.info? e = some i ∧ i.zero = some (.int .u8 0) ∧ i.size = 1 ∧ i.bytes = 1) (hs : eev env s = some (.slice none 0 0)) (hx : eev env x = some (.string str))
    (h0 : 0 < str.size) (hby : str.size ≤ 140737488355328) :
    OpX P n w0 X0 env own X (.call { callee := .builtin .append, args := #[s, x], argTypes := #[t, u] }) false fun v own' X' => ∃ b cap, v = .slice (some ⟨b, 0, none⟩) str.size cap ∧ own' = ⟨b, Lib.strCells str, e, cap * 1⟩ :: own ∧ X = X' ∧ str.size ≤ cap ∧ cap ≤ maxLen := by
  intro a W oper K Q ro hop ha hsat hK
  obtain ⟨i, i1, i2, i3, i4⟩ := hi
  have hmx : maxLen = 9223372036854775807 := rfl
  have hr := run_append_nil_string (P := P) W t u oper.type e i (.int .u8 0) ht hu i1 i2 str h0 (by omega) (by rw [i4]; omega)
  have hcap := grownCap_ge W str.size 0 e
  have hcm := grownCap_le_maxLen W str.size 0 e (by omega)
  generalize grownCap W str.size 0 e = cap at *
  have hcells : (str.data.map (fun b => Value.int .u8 b.toNat) ++ Builtin.zeroCells (Value.int .u8 0).cells (cap - str.size)) = (Lib.strCells str ++ List.replicate (cap - str.size) (Value.int .u8 0)).toArray := by
    apply Array.ext'
    simp [Lib.strCells, Builtin.zeroCells, Value.cells]
    apply List.ext_getElem
    · simp
    · intro q h1 h2
      simp [Nat.mod_one]
  rw [hcells] at hr
  have hlen : (Lib.strCells str ++ List.replicate (cap - str.size) (Value.int .u8 0)).length = cap * 1 := by
    rw [List.length_append, Lib.strCells_length, List.length_replicate]; omega
  have h1 := (hsat.draw (W.drawn + 1)).alloc (Lib.strCells str ++ List.replicate (cap - str.size) (Value.int .u8 0)) e
  rw [hlen] at h1
  have h2 := h1.less (j := 0) rfl
  have hex : (execOp a.eval oper).run P W = .ok (.value (.slice (some ⟨W.heap.size, 0, none⟩) str.size cap)) (W.drew.alloc (.cells (Lib.strCells str ++ List.replicate (cap - str.size) (Value.int .u8 0)).toArray e)) := by
    simp only [execOp, hop, resolve, invoke, builtin, Sem.run_bind, Sem.run_pure, Result.andThen_ok, List.map_toArray, List.map_cons, List.map_nil, ha.eval hs, ha.eval hx, hr]
  exact wp_value (noDefer_spec (by rw [hop]; rfl)) hex (hK _ _ X _ ⟨_, cap, rfl, rfl, rfl, hcap, hcm⟩ h2 (fun h => by cases h))
/-- bytealg.MakeNoZero: a new row whose bytes nobody knows. -/
theorem op_makeNoZero {f : FuncId} {gn : Func} {x : Operand} {ts ps : Array TypeId} {t e : TypeId} {k : Nat} (hf : P.funcs[f]? = some gn) (h1 : (gn.name == "runtime.NumGoroutine") = false) (h2 : gn.body.isNone = true) (h3 : Extern.findNext gn = none) (h4 : Extern.find gn = some (Extern.BytealgMakeNoZero.makeNoZero ps #[t]))
    (ht : P.underlying t = some (.slice e)) (hx : eev env x = some (.int .i64 (k : Int))) (hk : k ≤ 281474976710656) :
    OpX P n w0 X0 env own X (.call { callee := .value (.func f), args := #[x], argTypes := ts }) false fun v own' X' => ∃ b cap, v = .slice (some ⟨b, 0, none⟩) k cap ∧ own' = ⟨b, [], e, cap * 1⟩ :: own ∧ X = X' ∧ k ≤ cap ∧ cap ≤ maxLen := by
  intro a W oper K Q ro hop ha hsat hK
  have hmx : maxLen = 9223372036854775807 := rfl
  obtain ⟨cs, hr, hc1, hc2⟩ := Lib.run_makeNoZero (P := P) W ps t e ht k hk
  have hc : a.eval (.func f) = .func (.func f) #[] #[] := ha.eval rfl
  have hr2 := run_callFunc_extern hf h1 h2 h3 h4 #[.int .i64 (k : Int)] W
  rw [hr] at hr2
  have hex : (execOp a.eval oper).run P W = .ok (.value (.slice (some ⟨W.heap.size, 0, none⟩) k cs.size)) (W.drew.drew.alloc (.cells cs e)) := by
    simp only [execOp, hop, resolve, hc, Deferred.ofValue, invoke, Sem.run_bind, Sem.run_pure, Result.andThen_ok]
    simpa [ha.eval hx] using hr2
  have s1 := ((hsat.draw (W.drawn + 1)).draw (W.drawn + 1 + 1)).alloc cs.toList e
  rw [show cs.toList.length = cs.size * 1 by simp] at s1
  have s2 := s1.less (j := 0) (cs := []) (ds := cs.toList) rfl
  exact wp_value (noDefer_spec (by rw [hop]; rfl)) hex (hK _ _ X _ ⟨_, cs.size, rfl, rfl, rfl, hc1, hc2 (by omega)⟩ s2 (fun h => by cases h))
end
/-- WriteString, whatever the builder holds. -/
theorem writeStr_spec {X : PMap} {b : Nat} {p s : Value} {G : Own} {l : List UInt8} {t : ByteArray} (hp : p = .pointer none ∨ p = .pointer (some ⟨b, 0, none⟩)) (hG : BufG l s G) (hl : l.length < 1000000000) (ht : t.size < 1000000000) (h0 : 0 < t.size) :
    SpecM Tryz.prog 108 [.pointer (some ⟨b, 0, none⟩), .string t] X (BldO b p s :: G) fun u L' _ => u = .tuple #[.int .i64 (t.size : Int), .nilIface] ∧ ∃ s' G', L' = BldO b (.pointer (some ⟨b, 0, none⟩)) s' :: G' ∧ BufG (l ++ t.data.toList) s' G' := by
  have hts : t.data.toList.length = t.size := by simp
  rcases hG with ⟨hz, hcs, rfl, rfl⟩ | ⟨g, cap, rfl, rfl, hc1, hc2, hc3⟩
  · obtain rfl : l = [] := List.eq_nil_of_length_eq_zero hz
    refine SpecM.enter Tryz.func108 rfl Tryz.ntmps108 rfl ?_
    intro w0 X0 own0
    refine T.perm (own' := BldO b p (.slice none 0 0) :: own0) (List.Perm.refl _) ?_
    refine T.seq <| T.region <| SL.v (op_assign (v := .int .i64 ((0 : Nat) : Int)) rfl) <| SL.as rfl <| SL.nil <| T.seq <| T.region <| SL.mv rfl <| SL.w (op_callM en156 (vs := [_]) rfl (copyCheck_spec hp) rfl) ?_
    rintro _ _ X1 ⟨_, rfl, hX1, rfl, rfl⟩
    refine SL.nil <| T.seq <| T.region <| SL.mv rfl <| SL.mv rfl <| SL.v (op_nil rfl) <| SL.v (op_fieldAddr fa192_1 rfl) <| SL.v (op_load ty44 rfl (by repeat constructor) rfl) ?_
    refine SL.mv rfl <| SL.w (op_appendStrNil Tryz.underlying44 Tryz.underlying9 (infoStr_of (by kernel_rfl)) rfl rfl h0 (by omega)) ?_
    rintro _ _ _ ⟨g, cap, rfl, rfl, rfl, hc1, hc2⟩
    refine SL.v (op_nil rfl) <| SL.v (op_fieldAddr fa192_1 rfl) <| SL.w (op_store ty44 rfl rfl (by repeat constructor) rfl rfl rfl) ?_
    rintro _ _ _ ⟨rfl, rfl⟩
    refine SL.nil <| T.seq <| T.region <| SL.mv rfl <| SL.v (op_lenStr Tryz.underlying9 rfl) <| SL.as rfl <| SL.as rfl <| SL.nil <| T.retM2 (BldO b (.pointer (some ⟨b, 0, none⟩)) _ :: [_]) rfl (ResIs.tmp rfl) (ResIs.tmp rfl) (List.Perm.swap _ _ _) ?_
    refine ⟨hX1, rfl, _, _, rfl, ?_⟩
    rw [BufG, List.nil_append, hts]
    exact .inr ⟨g, cap, rfl, rfl, hc1, hc2, by rw [Lib.byteCells_length, hts]; omega⟩
  · refine SpecM.enter Tryz.func108 rfl Tryz.ntmps108 rfl ?_
    intro w0 X0 own0
    show T _ _ _ _ _ _ _ _ _ (BldO b p _ :: ([_] ++ own0)) _
    refine T.seq <| T.region <| SL.v (op_assign (v := .int .i64 ((0 : Nat) : Int)) rfl) <| SL.as rfl <| SL.nil <| T.seq <| T.region <| SL.mv rfl <| SL.w (op_callM en156 (vs := [_]) rfl (copyCheck_spec hp) rfl) ?_
    rintro _ _ X1 ⟨_, rfl, hX1, rfl, rfl⟩
    refine SL.nil <| T.seq <| T.region <| SL.mv rfl <| SL.mv rfl <| SL.v (op_nil rfl) <| SL.v (op_fieldAddr fa192_1 rfl) <| SL.v (op_load ty44 rfl (by repeat constructor) rfl) ?_
    refine SL.mv rfl <| SL.perm (own' := (BldO b (.pointer (some ⟨b, 0, none⟩)) (.slice (some ⟨g, 0, none⟩) l.length cap) :: own0) ++ [⟨g, Lib.byteCells l, 5, cap * 1⟩]) (permA (G := [_])) ?_
    refine SL.w (op_appendStr (own := BldO b (.pointer (some ⟨b, 0, none⟩)) (.slice (some ⟨g, 0, none⟩) l.length cap) :: own0) Tryz.underlying44 Tryz.underlying9 (infoStr_of (by kernel_rfl)) rfl rfl hc1 hc2 hc3 (by omega)) ?_
    rintro s' _ _ ⟨G', rfl, rfl, hG', _⟩
    obtain ⟨As', cps', rfl⟩ := hG'.form
    refine SL.v (op_nil rfl) <| SL.v (op_fieldAddr fa192_1 rfl) <| SL.w (op_store ty44 rfl rfl (by repeat constructor) rfl rfl rfl) ?_
    rintro _ _ _ ⟨rfl, rfl⟩
    refine SL.nil <| T.seq <| T.region <| SL.mv rfl <| SL.v (op_lenStr Tryz.underlying9 rfl) <| SL.as rfl <| SL.as rfl <| SL.nil <| T.retM2 (BldO b (.pointer (some ⟨b, 0, none⟩)) _ :: G') rfl (ResIs.tmp rfl) (ResIs.tmp rfl) permD ?_
    refine ⟨hX1, rfl, _, G', rfl, ?_⟩
    have e : Lib.byteCells (l ++ t.data.toList) = Lib.byteCells l ++ Lib.strCells t := by rw [Lib.byteCells_append]; rfl
    rw [BufG, e, List.length_append, hts]
    exact hG'
theorem growB_spec {X : PMap} {b : Nat} {p : Value} {k : Nat} (hk : k < 1000000000) (hk0 : 0 < k) : SpecM Tryz.prog 217 [.pointer (some ⟨b, 0, none⟩), .int .i64 (k : Int)] X [BldO b p (.slice none 0 0)] fun _ L' _ => ∃ s G, L' = BldO b p s :: G ∧ BufG [] s G := by
  refine SpecM.enter Tryz.func217 rfl Tryz.ntmps217 rfl ?_
  intro w0 X0 own0
  refine T.perm (own' := BldO b p (.slice none 0 0) :: own0) (List.Perm.refl _) ?_
  refine T.seq <| T.draw (by kernel_rfl) 16 [.t 0, .t 1, .t 2, .t 3, .t 4, .t 5, .t 6, .t 7, .t 9, .t 10, .t 11, .t 12, .t 13, .r 8, .t 14, .t 15] (by kernel_rfl) ?_
  refine SD.take rfl panicBody (op_move rfl) rfl rfl ?_
  refine SD.take rfl panicBody (op_nil rfl) rfl rfl ?_
  refine SD.take rfl panicBody (op_fieldAddr fa192_1 rfl) rfl rfl ?_
  refine SD.take rfl panicBody (op_load ty44 rfl (by repeat constructor) rfl) rfl rfl ?_
  refine SD.take rfl panicBody (op_capS Tryz.underlying44 rfl) rfl rfl ?_
  refine SD.take rfl panicBody (op_mulN (p := 2) (q := 0) rfl rfl (by omega)) rfl rfl ?_
  refine SD.take rfl panicBody (op_move rfl) rfl rfl ?_
  refine SD.take rfl panicBody (op_addN (p := 2 * 0) rfl rfl (by omega)) rfl rfl ?_
  refine SD.take rfl panicBody (op_move rfl) rfl rfl ?_
  refine SD.take rfl panicBody (op_nil rfl) rfl rfl ?_
  refine SD.take rfl panicBody (op_fieldAddr fa192_1 rfl) rfl rfl ?_
  refine SD.take rfl panicBody (op_load ty44 rfl (by repeat constructor) rfl) rfl rfl ?_
  refine SD.take rfl panicBody (op_lenS Tryz.underlying44 rfl) rfl rfl ?_
  refine SD.runK rfl (op_makeNoZero (ps := #[3]) (k := 2 * 0 + k) Tryz.func219 (by kernel_rfl) (by kernel_rfl) (by kernel_rfl) (by kernel_rfl) Tryz.underlying44 rfl (by omega)) (by rintro _ _ _ ⟨g, cap, rfl, rfl, rfl, _, _⟩; exact ⟨fun p hp => List.mem_cons_of_mem _ hp, PMap.le_refl _⟩) rfl rfl ?_
  rintro _ _ _ ⟨g, cap, rfl, rfl, rfl, hc1, hc2⟩
  refine SD.take rfl panicBody (op_sliceHiN (l := 0) Tryz.underlying44 ty5 rfl rfl rfl (by omega)) rfl rfl ?_
  refine SD.take rfl panicBody (op_assign rfl) rfl rfl ?_
  refine SD.nil ?_
  show SL _ _ _ _ _ _ _ [] _ _ _
  refine SL.nil <| T.seq <| T.region <| SL.mv rfl <| SL.mv rfl <| SL.v (op_nil rfl) <| SL.v (op_fieldAddr fa192_1 rfl) <| SL.v (op_load ty44 rfl (by repeat constructor) rfl) ?_
  refine SL.w (op_copyS (m := 0) (size := 1) (sl := 0) (news := []) Tryz.underlying44 (by kernel_rfl) rfl rfl AtO.here Src.nil rfl (by simp) (fun _ h => by cases h)) ?_
  rintro _ _ _ ⟨rfl, rfl, rfl⟩
  refine SL.nil <| T.region <| SL.mv rfl <| SL.mv rfl <| SL.v (op_nil rfl) <| SL.v (op_fieldAddr fa192_1 rfl) <| SL.w (op_store ty44 rfl rfl (by repeat constructor) rfl rfl rfl) ?_
  rintro _ _ _ ⟨rfl, rfl⟩
  refine SL.nil <| T.doneM0 (BldO b p _ :: [_]) rfl (List.Perm.swap _ _ _) ?_
  exact ⟨PMap.le_refl _, _, _, rfl, .inr ⟨g, cap, rfl, rfl, Nat.zero_le _, hc2, rfl⟩⟩
/-- Grow of a builder that holds nothing. -/
theorem growBld_spec {X : PMap} {b : Nat} {p : Value} {k : Nat} (hp : p = .pointer none ∨ p = .pointer (some ⟨b, 0, none⟩)) (hk : k < 1000000000) (hk0 : 0 < k) : SpecM Tryz.prog 212 [.pointer (some ⟨b, 0, none⟩), .int .i64 (k : Int)] X [BldO b p (.slice none 0 0)] fun _ L' _ => ∃ s G, L' = BldO b (.pointer (some ⟨b, 0, none⟩)) s :: G ∧ BufG [] s G := by
  refine SpecM.enter Tryz.func212 rfl Tryz.ntmps212 rfl ?_
  intro w0 X0 own0
  refine T.perm (own' := [BldO b p (.slice none 0 0)] ++ own0) (List.Perm.refl _) ?_
  refine T.seq <| T.region <| SL.mv rfl <| SL.w (op_callM en156 (vs := [_]) rfl (copyCheck_spec hp) rfl) ?_
  rintro _ _ X1 ⟨_, rfl, hX1, rfl, rfl⟩
  refine SL.nil <| T.seq <| T.seq <| T.region <| SL.mv rfl <| SL.v (op_lssF rfl rfl (by omega)) ?_
  refine SL.nil <| T.condF rfl <| T.skip <| T.seq <| T.draw (by kernel_rfl) 13 [.t 0, .t 1, .t 2, .t 3, .t 4, .t 5, .t 6, .t 7, .t 8, .t 9, .t 10, .t 11, .t 12] (by kernel_rfl) ?_
  refine SD.take rfl panicBody (op_move rfl) rfl rfl ?_
  refine SD.take rfl panicBody (op_nil rfl) rfl rfl ?_
  refine SD.take rfl panicBody (op_fieldAddr fa192_1 rfl) rfl rfl ?_
  refine SD.take rfl panicBody (op_load ty44 rfl (by repeat constructor) rfl) rfl rfl ?_
  refine SD.take rfl panicBody (op_capS Tryz.underlying44 rfl) rfl rfl ?_
  refine SD.take rfl panicBody (op_move rfl) rfl rfl ?_
  refine SD.take rfl panicBody (op_nil rfl) rfl rfl ?_
  refine SD.take rfl panicBody (op_fieldAddr fa192_1 rfl) rfl rfl ?_
  refine SD.take rfl panicBody (op_load ty44 rfl (by repeat constructor) rfl) rfl rfl ?_
  refine SD.take rfl panicBody (op_lenS Tryz.underlying44 rfl) rfl rfl ?_
  refine SD.take rfl panicBody (op_subN (p := 0) (q := 0) rfl rfl (by omega) (by omega)) rfl rfl ?_
  refine SD.take rfl panicBody (op_move rfl) rfl rfl ?_
  refine SD.take rfl panicBody (op_lssT rfl rfl (by omega)) rfl rfl ?_
  refine SD.nil ?_
  show SL _ _ _ _ _ _ _ [] _ _ _
  refine SL.nil <| T.condT rfl <| T.region <| SL.mv rfl <| SL.mv rfl <| SL.w (op_callM en217 (vs := [_, _]) rfl (growB_spec hk hk0) rfl) ?_
  rintro _ _ X2 ⟨_, rfl, hX2, s, G, rfl, hG⟩
  refine SL.nil <| T.doneM0 (BldO b _ s :: G) rfl (List.Perm.refl _) ?_
  exact ⟨hX1.trans' hX2, s, G, rfl, hG⟩
def joinL (sep : ByteArray) : List ByteArray → List UInt8
  | [] => []
  | s :: l => s.data.toList ++ (l.map fun t => sep.data.toList ++ t.data.toList).flatten
def sumS (l : List ByteArray) : Nat := (l.map (·.size)).sum
theorem sumS_snoc (l : List ByteArray) (s : ByteArray) : sumS (l ++ [s]) = sumS l + s.size := by simp [sumS]
theorem joinL_snoc (sep : ByteArray) (a : ByteArray) (l : List ByteArray) (s : ByteArray) : joinL sep (a :: (l ++ [s])) = joinL sep (a :: l) ++ sep.data.toList ++ s.data.toList := by simp [joinL]
theorem sumS_take_le : ∀ (l : List ByteArray) (k : Nat), sumS (l.take k) ≤ sumS l
  | [], k => by simp
  | s :: l, 0 => by simp [sumS]
  | s :: l, k + 1 => by
    have := sumS_take_le l k
    simp only [sumS, List.take_succ_cons, List.map_cons, List.sum_cons] at this ⊢; omega
theorem sumS_mem {x : ByteArray} : ∀ {l : List ByteArray}, x ∈ l → x.size ≤ sumS l
  | y :: l, hm => by
    simp only [sumS, List.map_cons, List.sum_cons]
    rcases List.mem_cons.1 hm with rfl | hm
    · omega
    · have := sumS_mem hm; simp only [sumS] at this; omega
theorem joinL_len (sep : ByteArray) : ∀ (a : ByteArray) (l : List ByteArray), (joinL sep (a :: l)).length = sumS (a :: l) + sep.size * l.length
  | a, [] => by simp [joinL, sumS]
  | a, s :: l => by
    have := joinL_len sep a l
    simp only [joinL, sumS, List.map_cons, List.flatten_cons, List.sum_cons, List.length_append, List.length_cons, Nat.mul_succ] at this ⊢
    have e1 : a.data.toList.length = a.size := by simp
    have e2 : s.data.toList.length = s.size := by simp
    have e3 : sep.data.toList.length = sep.size := by simp
    omega
theorem join_spec {X : PMap} {v : Value} {l : List ByteArray} {sep : ByteArray} (h : RowR (fun s : ByteArray => [Value.string s]) X v l) (h1 : 1 ≤ l.length) (hl : l.length < 1000) (hs : sumS l < 100000000) (hz : ∀ s ∈ l, 0 < s.size) (hsp : 0 < sep.size) (hsp2 : sep.size < 1000) : Spec Tryz.prog 201 [v, .string sep] X fun u _ => u = .string ⟨(joinL sep l).toArray⟩ := by
  obtain ⟨A, cp, rfl⟩ := h.form
  obtain ⟨b0, pre, rfl, hB⟩ := h.blk (by omega)
  have hcap := h.cap (by omega)
  have hrd : ∀ {i k' : Nat} {s : ByteArray}, l[i]? = some s → k' = pre.length + i * 1 → cread false 1 (pre ++ (l.map fun s : ByteArray => [Value.string s]).flatten) k' = some (.string s) := fun hi e => row_cell (sz := 1) (j := 0) (fun _ => rfl) hi rfl (by omega)
  obtain ⟨a, l', rfl⟩ : ∃ a l', l = a :: l' := by
    cases l with
    | nil => simp at h1
    | cons a l' => exact ⟨a, l', rfl⟩
  rcases Nat.eq_zero_or_pos l'.length with h0 | h0
  · obtain rfl : l' = [] := List.eq_nil_of_length_eq_zero h0
    refine Spec.enter Tryz.func201 rfl Tryz.ntmps201 rfl ?_
    intro w0 hw0
    refine T.seq <| T.region <| SL.as rfl <| SL.nil <| T.seq <| T.seq <| T.region <| SL.mv rfl <| SL.v (op_lenS Tryz.underlying59 rfl) <| SL.nil <| T.block <| T.seq <| T.region <| SL.v (op_eqlF rfl rfl (by omega)) ?_
    refine SL.as rfl <| SL.nil <| T.condF rfl <| T.seq <| T.region <| SL.v (op_eql rfl rfl) <| SL.as rfl <| SL.nil <| T.condT rfl <| T.seq <| T.region <| SL.mv rfl <| SL.v (op_index Tryz.underlying59 ty9 rfl rfl (by omega) (by omega)) ?_
    refine SL.v (op_loadX ty9 rfl hB (hrd (i := 0) rfl (by omega))) ?_
    refine SL.as rfl <| SL.nil <| T.ret1 rfl (ResIs.tmp rfl) ?_
    simp [joinL]
  · have hd := h.drop (sz := 1) (fun _ => rfl) (k := 1) (by omega)
    simp only [List.length_cons, Nat.add_sub_cancel, List.drop_succ_cons, List.drop_zero] at h hd hcap hl h1
    have hq := joinL_len sep a l'
    have hmul : sep.size * l'.length ≤ 1000 * 1000 := Nat.mul_le_mul (by omega) (by omega)
    have hdiv : 9223372036854775807 / 1000 ≤ 9223372036854775807 / l'.length := Nat.div_le_div_left (by omega) (by omega)
    have hdv : (9223372036854775807 : Nat) / 1000 = 9223372036854775 := by decide
    rw [hdv] at hdiv
    have hmx : maxLen = 9223372036854775807 := rfl
    have hsa : 0 < a.size := hz a (by simp)
    have hsum : sumS (a :: l') = a.size + sumS l' := by simp [sumS]
    simp only [List.length_cons]
    refine Spec.enter Tryz.func201 rfl Tryz.ntmps201 rfl ?_
    intro w0 hw0
    refine T.seq <| T.region <| SL.as rfl <| SL.nil <| T.seq <| T.seq <| T.region <| SL.mv rfl <| SL.v (op_lenS Tryz.underlying59 rfl) <| SL.nil <| T.block <| T.seq <| T.region <| SL.v (op_eqlF rfl rfl (by omega)) ?_
    refine SL.as rfl <| SL.nil <| T.condF rfl <| T.seq <| T.region <| SL.v (op_eqlF rfl rfl (by omega)) ?_
    refine SL.as rfl <| SL.nil <| T.condF rfl <| T.skip <| T.blk <| T.seq <| T.region <| SL.v (op_assign (v := .int .i64 ((0 : Nat) : Int)) rfl) <| SL.nil <| T.seq <| T.seq <| T.region <| SL.mv rfl <| SL.v (op_lenStr Tryz.underlying9 rfl) <| SL.v (op_gtrT rfl rfl (by omega)) ?_
    refine SL.nil <| T.condT rfl <| T.seq <| T.seq <| T.region <| SL.mv rfl <| SL.v (op_lenStr Tryz.underlying9 rfl) <| SL.mv rfl <| SL.v (op_lenS Tryz.underlying59 rfl) <| SL.v (op_subN (p := l'.length + 1) (q := 1) rfl rfl (by omega) (by omega)) ?_
    rw [Nat.add_sub_cancel]
    refine SL.v (op_quoN (p := 9223372036854775807) (q := l'.length) rfl rfl rfl (by omega) (by omega)) ?_
    refine SL.v (op_geqF rfl rfl (by omega)) ?_
    refine SL.nil <| T.condF rfl <| T.skip <| T.region <| SL.mv rfl <| SL.mv rfl <| SL.v (op_lenStr Tryz.underlying9 rfl) <| SL.mv rfl <| SL.v (op_lenS Tryz.underlying59 rfl) <| SL.v (op_subN (p := l'.length + 1) (q := 1) rfl rfl (by omega) (by omega)) ?_
    rw [Nat.add_sub_cancel]
    refine SL.v (op_mulN rfl rfl (by omega)) ?_
    refine SL.v (op_addN (p := 0) rfl rfl (by omega)) ?_
    rw [Nat.zero_add]
    refine SL.as rfl <| SL.nil <| T.seq <| T.seq <| T.region <| SL.mv rfl <| SL.v (op_lenS Tryz.underlying59 rfl) <| SL.v (op_move (v := .int .i64 ((0 : Nat) : Int)) rfl) <| SL.nil <| T.block <| T.loopW (fun m env own X' => ∃ i : Nat, m = l'.length + 1 - i ∧ i ≤ l'.length + 1 ∧ X.le X' ∧ env = [(0, .slice (some ⟨b0, pre.length, none⟩) (l'.length + 1) cp), (1, .string sep), (5, .int .i64 ((sep.size * l'.length + sumS ((a :: l').take i) : Nat) : Int)), (39, .slice (some ⟨b0, pre.length, none⟩) (l'.length + 1) cp), (40, .int .i64 ((l'.length + 1 : Nat) : Int)), (41, .int .i64 (i : Int))] ∧ own = []) (l'.length + 1) ⟨0, by simp, by omega, PMap.le_refl _, rfl, rfl⟩ (by repeat (first | exact Sub.nil | refine Sub.cons rfl ?_)) ?_
    rintro m _ _ X1 ⟨i, rfl, hi, hX1, rfl, rfl⟩
    have htl := sumS_take_le (a :: l') i
    rcases Nat.lt_or_ge i (l'.length + 1) with hil | hil
    · obtain ⟨x, hx⟩ : ∃ x, (a :: l')[i]? = some x := ⟨_, List.getElem?_eq_getElem (by simpa using hil)⟩
      have hts : sumS ((a :: l').take (i + 1)) = sumS ((a :: l').take i) + x.size := by
        obtain ⟨g1, g2⟩ := List.getElem?_eq_some_iff.1 hx
        rw [List.take_succ_eq_append_getElem g1, g2, sumS_snoc]
      have htl2 := sumS_take_le (a :: l') (i + 1)
      refine T.seq <| T.region <| SL.v (op_lssT rfl rfl (by omega)) ?_
      refine SL.nil <| T.seq <| T.condT rfl <| T.skip <| T.seq <| T.block <| T.seq <| T.region <| SL.v (op_indexN Tryz.underlying59 ty9 rfl rfl (by omega)) ?_
      refine SL.v (op_loadX ty9 rfl (hB.mono hX1) (hrd hx (by omega))) ?_
      refine SL.as rfl <| SL.nil <| T.seq <| T.seq <| T.region <| SL.mv rfl <| SL.v (op_lenStr Tryz.underlying9 rfl) <| SL.mv rfl <| SL.v (op_subN (p := 9223372036854775807) rfl rfl (by omega) (by omega)) ?_
      refine SL.v (op_gtrF rfl rfl (by omega)) ?_
      refine SL.nil <| T.condF rfl <| T.skip <| T.region <| SL.mv rfl <| SL.mv rfl <| SL.v (op_lenStr Tryz.underlying9 rfl) <| SL.v (op_addN rfl rfl (by omega)) ?_
      rw [show sep.size * l'.length + sumS ((a :: l').take i) + x.size = sep.size * l'.length + sumS ((a :: l').take (i + 1)) by omega]
      refine SL.as rfl <| SL.nil <| T.blk <| T.region <| SL.v (op_addN (q := 1) rfl rfl (by omega)) ?_
      refine SL.mv rfl <| SL.nil ?_
      exact T.backW (l'.length + 1 - (i + 1)) (by omega) ⟨i + 1, rfl, by omega, hX1, rfl, rfl⟩ (by repeat (first | exact Sub.nil | refine Sub.cons rfl ?_))
    · obtain rfl : i = l'.length + 1 := by omega
      rw [show (a :: l').take (l'.length + 1) = a :: l' from List.take_of_length_le (by simp)]
      refine T.seq <| T.region <| SL.v (op_lssF rfl rfl (by omega)) ?_
      refine SL.nil <| T.seq <| T.condF rfl ?_
      refine T.exit (T.exitCode (T.exitCut (T.exitBlk ?_)))
      refine T.seq <| T.region <| SL.w (op_alloc z192) ?_
      rintro _ _ _ ⟨B8, rfl, rfl, rfl⟩
      refine SL.nil <| T.seq <| T.region <| SL.mv rfl <| SL.w (op_callM en212 (vs := [_, _]) rfl (growBld_spec (.inl rfl) (by omega) (by omega)) rfl) ?_
      rintro _ _ X2 ⟨_, rfl, hX2, s2, G2, rfl, hG2⟩
      refine SL.nil <| T.seq <| T.region <| SL.mv rfl <| SL.v (op_index Tryz.underlying59 ty9 rfl rfl (by omega) (by omega)) ?_
      refine SL.v (op_loadX ty9 rfl ((hB.mono hX1).mono hX2) (hrd (i := 0) rfl (by omega))) ?_
      refine SL.w (op_callM en108 (vs := [_, _]) rfl (writeStr_spec (.inr rfl) hG2 (by simp) (by omega) hsa) rfl) ?_
      rintro _ _ X3 ⟨_, rfl, hX3, rfl, s3, G3, rfl, hG3⟩
      refine SL.nil <| T.seq <| T.seq <| T.region <| SL.mv rfl <| SL.v (op_sliceLo (l := 1) Tryz.underlying59 ty9 rfl rfl (by omega) (by omega)) ?_
      rw [Nat.add_sub_cancel]
      generalize slA (some ⟨b0, pre.length, none⟩) cp 1 1 = A1 at *
      rw [List.nil_append] at hG3
      refine SL.v (op_lenS Tryz.underlying59 rfl) <| SL.v (op_move (v := .int .i64 ((0 : Nat) : Int)) rfl) <| SL.nil <| T.block <| T.loopW (fun m env own X' => ∃ (i : Nat) (s : Value) (G : Own), m = l'.length - i ∧ i ≤ l'.length ∧ X3.le X' ∧ BufG (joinL sep (a :: l'.take i)) s G ∧ env = [(1, .string sep), (8, .pointer (some ⟨B8, 0, none⟩)), (63, .slice A1 l'.length (cp - 1)), (64, .int .i64 (l'.length : Int)), (65, .int .i64 (i : Int))] ∧ own = (BldO B8 (.pointer (some ⟨B8, 0, none⟩)) s :: G) ++ []) l'.length ⟨0, _, _, by simp, by omega, PMap.le_refl _, by simpa [joinL] using hG3, rfl, rfl⟩ (by repeat (first | exact Sub.nil | refine Sub.cons rfl ?_)) ?_
      rintro m _ _ X4 ⟨i, s, G, rfl, hi, hX4, hG, rfl, rfl⟩
      have hjl := joinL_len sep a (l'.take i)
      have hsl : sumS (a :: l'.take i) = a.size + sumS (l'.take i) := by simp [sumS]
      have hst := sumS_take_le l' i
      have hml : sep.size * (l'.take i).length ≤ 1000 * 1000 := Nat.mul_le_mul (by omega) (by rw [List.length_take]; omega)
      rcases Nat.lt_or_ge i l'.length with hil | hil
      · obtain ⟨x, hx⟩ : ∃ x, l'[i]? = some x := ⟨_, List.getElem?_eq_getElem hil⟩
        have hxz := hz x (by simp [List.mem_of_getElem? hx])
        have hxs := sumS_mem (List.mem_of_getElem? hx)
        obtain ⟨b5, pre5, rfl, hB5⟩ := hd.blk (by omega)
        have hX34 := (hX1.trans' hX2).trans' (hX3.trans' hX4)
        refine T.seq <| T.region <| SL.v (op_lssT rfl rfl (by omega)) ?_
        refine SL.nil <| T.seq <| T.condT rfl <| T.skip <| T.seq <| T.block <| T.seq <| T.region <| SL.v (op_indexN Tryz.underlying59 ty9 rfl rfl (by omega)) ?_
        refine SL.v (op_loadX ty9 rfl (hB5.mono hX34) (row_cell (sz := 1) (j := 0) (fun _ => rfl) hx rfl (by omega))) ?_
        refine SL.as rfl <| SL.nil <| T.seq <| T.region <| SL.mv rfl <| SL.w (op_callM en108 (vs := [_, _]) rfl (writeStr_spec (.inr rfl) hG (by omega) (by omega) hsp) rfl) ?_
        rintro _ _ X5 ⟨_, rfl, hX5, rfl, s5, G5, rfl, hG5⟩
        refine SL.nil <| T.region <| SL.mv rfl <| SL.w (op_callM en108 (vs := [_, _]) rfl (writeStr_spec (.inr rfl) hG5 (by rw [List.length_append]; simp; omega) (by omega) hxz) rfl) ?_
        rintro _ _ X6 ⟨_, rfl, hX6, rfl, s6, G6, rfl, hG6⟩
        have hts : l'.take (i + 1) = l'.take i ++ [x] := by
          obtain ⟨g1, g2⟩ := List.getElem?_eq_some_iff.1 hx
          rw [List.take_succ_eq_append_getElem g1, g2]
        rw [← joinL_snoc, ← hts] at hG6
        refine SL.nil <| T.blk <| T.region <| SL.v (op_addN (q := 1) rfl rfl (by omega)) ?_
        refine SL.mv rfl <| SL.nil ?_
        exact T.backW (l'.length - (i + 1)) (by omega) ⟨i + 1, _, _, rfl, by omega, (hX4.trans' hX5).trans' hX6, hG6, rfl, rfl⟩ (by repeat (first | exact Sub.nil | refine Sub.cons rfl ?_))
      · obtain rfl : i = l'.length := by omega
        rw [List.take_length] at hG
        refine T.seq <| T.region <| SL.v (op_lssF rfl rfl (by omega)) ?_
        refine SL.nil <| T.seq <| T.condF rfl ?_
        refine T.exit (T.exitCode (T.exitCut (T.exitBlk ?_)))
        refine T.seq <| T.region <| SL.w (op_callM en110 (vs := [_]) rfl (builderString_spec hG (fun h => by rw [h] at hq; simp at hq; omega) (by omega)) rfl) ?_
        rintro _ _ X5 ⟨_, rfl, hX5, rfl, rfl⟩
        refine SL.as rfl <| SL.nil <| T.ret1 rfl (ResIs.tmp rfl) ?_
        rfl
end Go.Proofs.YtnpcilglilfajaaGreatDoor
namespace Go.Proofs.YtnpcilglilfajaaGreatDoor
section
set_option maxRecDepth 100000
theorem en185 : Enters Tryz.prog 185 := enters_mk Tryz.func185 (by kernel_rfl) rfl
theorem en200 : Enters Tryz.prog 200 := enters_mk Tryz.func200 (by kernel_rfl) rfl
theorem en201 : Enters Tryz.prog 201 := enters_mk Tryz.func201 (by kernel_rfl) rfl
theorem en202 : Enters Tryz.prog 202 := enters_mk Tryz.func202 (by kernel_rfl) rfl
theorem en203 : Enters Tryz.prog 203 := enters_mk Tryz.func203 (by kernel_rfl) rfl
end
open Go.RowKit
theorem decG_len : ∀ f v : Nat, (decG f v).length ≤ f
  | 0, _ => by simp [decG]
  | f + 1, v => by
    rw [decG]
    split
    · simp
    · have := decG_len f (v / 10)
      rw [List.length_append]; simp; exact this
theorem decB_size (v : Nat) : (decB v).size ≤ 20 := by
  have := decG_len 20 v
  show (decG 20 v).toArray.size ≤ 20
  simpa using this
theorem joinG_len : ∀ l : List ByteArray, (joinG l).length ≤ 2 * wtS l
  | [] => by simp [joinG]
  | s :: l => by
    have hl : ∀ l : List ByteArray, (l.map fun t : ByteArray => [(44 : UInt8), 32] ++ t.data.toList).flatten.length ≤ 2 * wtS l := by
      intro l
      induction l with
      | nil => simp
      | cons t l ih =>
        simp only [wtS, List.map_cons, List.flatten_cons, List.sum_cons, List.length_append, List.length_cons, List.length_nil] at ih ⊢
        have e : t.data.toList.length = t.size := by simp
        omega
    have h2 := hl l
    have e : s.data.toList.length = s.size := by simp
    simp only [joinG, List.length_append]
    simp only [wtS, List.map_cons, List.sum_cons] at h2 ⊢
    omega
theorem joinB_size (l : List ByteArray) : (joinB l).size ≤ 2 * wtS l := by
  have := joinG_len l
  show (joinG l).toArray.size ≤ _
  simpa using this
theorem headD_size (ns : List ByteArray) : (ns.headD ⟨#[]⟩).size ≤ wtS ns := by
  cases ns with
  | nil => exact Nat.zero_le _
  | cons s l => simp only [List.headD_cons, wtS, List.map_cons, List.sum_cons]; omega
theorem parB_size (s : Nat) (t : ByteArray) (k : Nat) : (parB s t k).size ≤ t.size + 2 := by
  have k1 : (⟨#[40]⟩ : ByteArray).size = 1 := rfl
  have k2 : (⟨#[41]⟩ : ByteArray).size = 1 := rfl
  unfold parB
  split
  · simp only [ByteArray.size_append]; omega
  · omega
theorem wordB_size (op : Nat) : (wordB op).size ≤ 5 := by
  unfold wordB
  split <;> decide
mutual
theorem text_size : ∀ e : Ex, (textE e).size ≤ 40 * wtE e
  | .mk op n ns al => by
    have h0 := textL_size al
    have h1 := decB_size n.toNat
    have h2 := joinB_size ns
    have h3 := headD_size ns
    have k1 : (⟨#[116, 114, 117, 101]⟩ : ByteArray).size = 4 := rfl
    have k2 : (⟨#[102, 97, 108, 115, 101]⟩ : ByteArray).size = 5 := rfl
    have k3 : (⟨#[99, 111, 117, 110, 116, 40]⟩ : ByteArray).size = 6 := rfl
    have k4 : (⟨#[41]⟩ : ByteArray).size = 1 := rfl
    have k5 : (⟨#[109, 101, 109, 98, 101, 114, 115, 40]⟩ : ByteArray).size = 8 := rfl
    have k6 : (⟨#[110, 111, 116, 32]⟩ : ByteArray).size = 4 := rfl
    have k7 : (⟨#[]⟩ : ByteArray).size = 0 := rfl
    rw [textE, wtE]
    split
    · omega
    · split
      · omega
      · split
        · omega
        · split
          · omega
          · split
            · simp only [ByteArray.size_append]; omega
            · split
              · simp only [ByteArray.size_append]; omega
              · split
                · omega
                · rename_i x hx
                  rw [hx] at h0
                  have := parB_size x.1 x.2 4
                  simp only [List.map_cons, List.map_nil, List.sum_cons, List.sum_nil] at h0
                  simp only [ByteArray.size_append]; omega
                · rename_i x y l hx
                  rw [hx] at h0
                  have := parB_size x.1 x.2 (lefN op)
                  have := parB_size y.1 y.2 (rigN op)
                  have := wordB_size op
                  simp only [List.map_cons, List.sum_cons] at h0
                  simp only [ByteArray.size_append]; omega
theorem textL_size : ∀ l : List Ex, ((textL l).map fun x : Nat × ByteArray => x.2.size).sum ≤ 40 * wtL l
  | [] => by simp [textL, wtL]
  | a :: l => by
    have h1 := text_size a
    have h2 := textL_size l
    rw [textL, wtL, List.map_cons, List.sum_cons]
    simp only at h1 h2 ⊢
    omega
end
theorem strN_le (op : Nat) : strN op ≤ 7 := by
  unfold strN
  split
  · omega
  · skip
    split
    · omega
    · skip
      split
      · omega
      · skip
        split
        · omega
        · skip
          split
          · omega
          · skip
            split
            · omega
            · omega
theorem strength_spec {X : PMap} {op : Nat} : Spec Tryz.prog 200 [.int .u8 (op : Int)] X fun u _ => u = .int .i64 (strN op : Int) := by
  by_cases h1 : op = 10
  · refine Spec.enter Tryz.func200 rfl Tryz.ntmps200 rfl ?_
    intro w0 hw0
    refine T.seq <| T.region <| SL.v (op_assign (v := .int .i64 ((0 : Nat) : Int)) rfl) <| SL.nil <| T.seq <| T.block <| T.seq <| T.region <| SL.mv rfl <| SL.v (op_eqlT rfl rfl (by omega)) ?_
    refine SL.as rfl <| SL.nil <| T.condT rfl <| T.seq <| T.region <| SL.v (op_assign (v := .int .i64 ((1 : Nat) : Int)) rfl) <| SL.nil <| T.ret1 rfl (ResIs.tmp rfl) ?_
    rw [strN, if_pos h1]
  by_cases h2 : op = 9
  · refine Spec.enter Tryz.func200 rfl Tryz.ntmps200 rfl ?_
    intro w0 hw0
    refine T.seq <| T.region <| SL.v (op_assign (v := .int .i64 ((0 : Nat) : Int)) rfl) <| SL.nil <| T.seq <| T.block <| T.seq <| T.region <| SL.mv rfl <| SL.v (op_eqlF rfl rfl (by omega)) ?_
    refine SL.as rfl <| SL.nil <| T.condF rfl <| T.seq <| T.region <| SL.mv rfl <| SL.v (op_eqlT rfl rfl (by omega)) ?_
    refine SL.as rfl <| SL.nil <| T.condT rfl <| T.seq <| T.region <| SL.v (op_assign (v := .int .i64 ((2 : Nat) : Int)) rfl) <| SL.nil <| T.ret1 rfl (ResIs.tmp rfl) ?_
    rw [strN, if_neg h1, if_pos h2]
  by_cases h3 : op = 8
  · refine Spec.enter Tryz.func200 rfl Tryz.ntmps200 rfl ?_
    intro w0 hw0
    refine T.seq <| T.region <| SL.v (op_assign (v := .int .i64 ((0 : Nat) : Int)) rfl) <| SL.nil <| T.seq <| T.block <| T.seq <| T.region <| SL.mv rfl <| SL.v (op_eqlF rfl rfl (by omega)) ?_
    refine SL.as rfl <| SL.nil <| T.condF rfl <| T.seq <| T.region <| SL.mv rfl <| SL.v (op_eqlF rfl rfl (by omega)) ?_
    refine SL.as rfl <| SL.nil <| T.condF rfl <| T.seq <| T.region <| SL.mv rfl <| SL.v (op_eqlT rfl rfl (by omega)) ?_
    refine SL.as rfl <| SL.nil <| T.condT rfl <| T.seq <| T.region <| SL.v (op_assign (v := .int .i64 ((3 : Nat) : Int)) rfl) <| SL.nil <| T.ret1 rfl (ResIs.tmp rfl) ?_
    rw [strN, if_neg h1, if_neg h2, if_pos h3]
  by_cases h4 : op = 7
  · refine Spec.enter Tryz.func200 rfl Tryz.ntmps200 rfl ?_
    intro w0 hw0
    refine T.seq <| T.region <| SL.v (op_assign (v := .int .i64 ((0 : Nat) : Int)) rfl) <| SL.nil <| T.seq <| T.block <| T.seq <| T.region <| SL.mv rfl <| SL.v (op_eqlF rfl rfl (by omega)) ?_
    refine SL.as rfl <| SL.nil <| T.condF rfl <| T.seq <| T.region <| SL.mv rfl <| SL.v (op_eqlF rfl rfl (by omega)) ?_
    refine SL.as rfl <| SL.nil <| T.condF rfl <| T.seq <| T.region <| SL.mv rfl <| SL.v (op_eqlF rfl rfl (by omega)) ?_
    refine SL.as rfl <| SL.nil <| T.condF rfl <| T.seq <| T.region <| SL.mv rfl <| SL.v (op_eqlT rfl rfl (by omega)) ?_
    refine SL.as rfl <| SL.nil <| T.condT rfl <| T.seq <| T.region <| SL.v (op_assign (v := .int .i64 ((4 : Nat) : Int)) rfl) <| SL.nil <| T.ret1 rfl (ResIs.tmp rfl) ?_
    rw [strN, if_neg h1, if_neg h2, if_neg h3, if_pos h4]
  by_cases h5 : 11 ≤ op ∧ op ≤ 15
  · obtain ⟨g1, g2⟩ := h5
    refine Spec.enter Tryz.func200 rfl Tryz.ntmps200 rfl ?_
    intro w0 hw0
    refine T.seq <| T.region <| SL.v (op_assign (v := .int .i64 ((0 : Nat) : Int)) rfl) <| SL.nil <| T.seq <| T.block <| T.seq <| T.region <| SL.mv rfl <| SL.v (op_eqlF rfl rfl (by omega)) ?_
    refine SL.as rfl <| SL.nil <| T.condF rfl <| T.seq <| T.region <| SL.mv rfl <| SL.v (op_eqlF rfl rfl (by omega)) ?_
    refine SL.as rfl <| SL.nil <| T.condF rfl <| T.seq <| T.region <| SL.mv rfl <| SL.v (op_eqlF rfl rfl (by omega)) ?_
    refine SL.as rfl <| SL.nil <| T.condF rfl <| T.seq <| T.region <| SL.mv rfl <| SL.v (op_eqlF rfl rfl (by omega)) ?_
    refine SL.as rfl <| SL.nil <| T.condF rfl <| T.seq <| T.region <| SL.mv rfl <| SL.v (op_geqT rfl rfl (by omega)) ?_
    refine SL.mv rfl <| SL.mv rfl <| SL.v (op_leqT rfl rfl (by omega)) ?_
    refine SL.v (op_pickT rfl rfl) <| SL.as rfl <| SL.nil <| T.condT rfl <| T.seq <| T.region <| SL.v (op_assign (v := .int .i64 ((5 : Nat) : Int)) rfl) <| SL.nil <| T.ret1 rfl (ResIs.tmp rfl) ?_
    rw [strN, if_neg h1, if_neg h2, if_neg h3, if_neg h4, if_pos ⟨g1, g2⟩]
  by_cases h6 : op = 16
  · refine Spec.enter Tryz.func200 rfl Tryz.ntmps200 rfl ?_
    intro w0 hw0
    refine T.seq <| T.region <| SL.v (op_assign (v := .int .i64 ((0 : Nat) : Int)) rfl) <| SL.nil <| T.seq <| T.block <| T.seq <| T.region <| SL.mv rfl <| SL.v (op_eqlF rfl rfl (by omega)) ?_
    refine SL.as rfl <| SL.nil <| T.condF rfl <| T.seq <| T.region <| SL.mv rfl <| SL.v (op_eqlF rfl rfl (by omega)) ?_
    refine SL.as rfl <| SL.nil <| T.condF rfl <| T.seq <| T.region <| SL.mv rfl <| SL.v (op_eqlF rfl rfl (by omega)) ?_
    refine SL.as rfl <| SL.nil <| T.condF rfl <| T.seq <| T.region <| SL.mv rfl <| SL.v (op_eqlF rfl rfl (by omega)) ?_
    refine SL.as rfl <| SL.nil <| T.condF rfl <| T.seq <| T.region <| SL.mv rfl <| SL.v (op_geqT rfl rfl (by omega)) ?_
    refine SL.mv rfl <| SL.mv rfl <| SL.v (op_leqF rfl rfl (by omega)) ?_
    refine SL.v (op_pickT rfl rfl) <| SL.as rfl <| SL.nil <| T.condF rfl <| T.seq <| T.region <| SL.mv rfl <| SL.v (op_eqlT rfl rfl (by omega)) ?_
    refine SL.as rfl <| SL.nil <| T.condT rfl <| T.seq <| T.region <| SL.v (op_assign (v := .int .i64 ((6 : Nat) : Int)) rfl) <| SL.nil <| T.ret1 rfl (ResIs.tmp rfl) ?_
    rw [strN, if_neg h1, if_neg h2, if_neg h3, if_neg h4, if_neg h5, if_pos h6]
  by_cases h7 : 11 ≤ op
  · have h8 : ¬op ≤ 15 := fun h => h5 ⟨h7, h⟩
    refine Spec.enter Tryz.func200 rfl Tryz.ntmps200 rfl ?_
    intro w0 hw0
    refine T.seq <| T.region <| SL.v (op_assign (v := .int .i64 ((0 : Nat) : Int)) rfl) <| SL.nil <| T.seq <| T.block <| T.seq <| T.region <| SL.mv rfl <| SL.v (op_eqlF rfl rfl (by omega)) ?_
    refine SL.as rfl <| SL.nil <| T.condF rfl <| T.seq <| T.region <| SL.mv rfl <| SL.v (op_eqlF rfl rfl (by omega)) ?_
    refine SL.as rfl <| SL.nil <| T.condF rfl <| T.seq <| T.region <| SL.mv rfl <| SL.v (op_eqlF rfl rfl (by omega)) ?_
    refine SL.as rfl <| SL.nil <| T.condF rfl <| T.seq <| T.region <| SL.mv rfl <| SL.v (op_eqlF rfl rfl (by omega)) ?_
    refine SL.as rfl <| SL.nil <| T.condF rfl <| T.seq <| T.region <| SL.mv rfl <| SL.v (op_geqT rfl rfl (by omega)) ?_
    refine SL.mv rfl <| SL.mv rfl <| SL.v (op_leqF rfl rfl (by omega)) ?_
    refine SL.v (op_pickT rfl rfl) <| SL.as rfl <| SL.nil <| T.condF rfl <| T.seq <| T.region <| SL.mv rfl <| SL.v (op_eqlF rfl rfl (by omega)) ?_
    refine SL.as rfl <| SL.nil <| T.condF rfl <| T.skip <| T.blk <| T.seq <| T.region <| SL.v (op_assign (v := .int .i64 ((7 : Nat) : Int)) rfl) <| SL.nil <| T.ret1 rfl (ResIs.tmp rfl) ?_
    rw [strN, if_neg h1, if_neg h2, if_neg h3, if_neg h4, if_neg h5, if_neg h6]
  · refine Spec.enter Tryz.func200 rfl Tryz.ntmps200 rfl ?_
    intro w0 hw0
    refine T.seq <| T.region <| SL.v (op_assign (v := .int .i64 ((0 : Nat) : Int)) rfl) <| SL.nil <| T.seq <| T.block <| T.seq <| T.region <| SL.mv rfl <| SL.v (op_eqlF rfl rfl (by omega)) ?_
    refine SL.as rfl <| SL.nil <| T.condF rfl <| T.seq <| T.region <| SL.mv rfl <| SL.v (op_eqlF rfl rfl (by omega)) ?_
    refine SL.as rfl <| SL.nil <| T.condF rfl <| T.seq <| T.region <| SL.mv rfl <| SL.v (op_eqlF rfl rfl (by omega)) ?_
    refine SL.as rfl <| SL.nil <| T.condF rfl <| T.seq <| T.region <| SL.mv rfl <| SL.v (op_eqlF rfl rfl (by omega)) ?_
    refine SL.as rfl <| SL.nil <| T.condF rfl <| T.seq <| T.region <| SL.mv rfl <| SL.v (op_geqF rfl rfl (by omega)) ?_
    refine SL.mv rfl <| SL.skip rfl rfl ?_
    refine SL.skip rfl rfl ?_
    refine SL.v (op_pickF rfl rfl) <| SL.as rfl <| SL.nil <| T.condF rfl <| T.seq <| T.region <| SL.mv rfl <| SL.v (op_eqlF rfl rfl (by omega)) ?_
    refine SL.as rfl <| SL.nil <| T.condF rfl <| T.skip <| T.blk <| T.seq <| T.region <| SL.v (op_assign (v := .int .i64 ((7 : Nat) : Int)) rfl) <| SL.nil <| T.ret1 rfl (ResIs.tmp rfl) ?_
    rw [strN, if_neg h1, if_neg h2, if_neg h3, if_neg h4, if_neg h5, if_neg h6]
theorem operand_spec {X : PMap} {e : Ex} {r : Row4} {least : Nat} (hr : ExR .u8 X e r) (ht : ∀ {X' : PMap}, X.le X' → Spec Tryz.prog 185 [.agg #[r.1, r.2.1, r.2.2.1, r.2.2.2]] X' fun u _ => u = .string (textE e)) (hs : (textE e).size < 1000000000000) : Spec Tryz.prog 202 [.agg #[r.1, r.2.1, r.2.2.1, r.2.2.2], .int .i64 (least : Int)] X fun u _ => u = .string (parB (strN e.op) (textE e) least) := by
  have k1 : (⟨#[40]⟩ : ByteArray).size = 1 := rfl
  have k2 : (⟨#[41]⟩ : ByteArray).size = 1 := rfl
  cases hr with
  | @mk op n ns al vn va rows hn ha hl hr =>
  obtain ⟨Aa, ca, rfl⟩ := ha.form
  obtain ⟨An, cn, rfl⟩ := hn.form
  by_cases hc : strN op < least
  · refine Spec.enter Tryz.func202 rfl Tryz.ntmps202 rfl ?_
    intro w0 hw0
    refine T.seq <| T.region <| SL.w (op_box rfl) ?_
    rintro _ _ _ ⟨B2, rfl, rfl, rfl⟩
    refine SL.as rfl <| SL.nil <| T.seq <| T.seq <| T.region <| SL.v (op_fieldAddr fa70_0 rfl) <| SL.v (op_load ty33 rfl (by repeat constructor) rfl) ?_
    refine SL.w (op_callF en200 (vs := [_]) rfl (strength_spec (op := op))) ?_
    rintro _ _ X1 ⟨rfl, hX1, rfl⟩
    refine SL.mv rfl <| SL.v (op_lssT rfl rfl (by omega)) ?_
    refine SL.nil <| T.condT rfl <| T.seq <| T.region <| SL.v (op_load ty70 rfl (by repeat constructor) rfl) ?_
    refine SL.w (op_callF en185 (vs := [_]) rfl (ht hX1)) ?_
    rintro _ _ X2 ⟨rfl, hX2, rfl⟩
    refine SL.v (op_addStr rfl rfl (by first | omega | (simp only [ByteArray.size_append]; omega))) ?_
    refine SL.v (op_addStr rfl rfl (by first | omega | (simp only [ByteArray.size_append]; omega))) ?_
    refine SL.as rfl <| SL.nil <| T.ret1 rfl (ResIs.tmp rfl) ?_
    rw [parB, Ex.op, if_pos hc]
  · refine Spec.enter Tryz.func202 rfl Tryz.ntmps202 rfl ?_
    intro w0 hw0
    refine T.seq <| T.region <| SL.w (op_box rfl) ?_
    rintro _ _ _ ⟨B2, rfl, rfl, rfl⟩
    refine SL.as rfl <| SL.nil <| T.seq <| T.seq <| T.region <| SL.v (op_fieldAddr fa70_0 rfl) <| SL.v (op_load ty33 rfl (by repeat constructor) rfl) ?_
    refine SL.w (op_callF en200 (vs := [_]) rfl (strength_spec (op := op))) ?_
    rintro _ _ X1 ⟨rfl, hX1, rfl⟩
    refine SL.mv rfl <| SL.v (op_lssF rfl rfl (by omega)) ?_
    refine SL.nil <| T.condF rfl <| T.skip <| T.seq <| T.region <| SL.v (op_load ty70 rfl (by repeat constructor) rfl) ?_
    refine SL.w (op_callF en185 (vs := [_]) rfl (ht hX1)) ?_
    rintro _ _ X2 ⟨rfl, hX2, rfl⟩
    refine SL.as rfl <| SL.nil <| T.ret1 rfl (ResIs.tmp rfl) ?_
    rw [parB, Ex.op, if_neg hc]
def words9 : List ByteArray := [wordB 8, wordB 9, wordB 10, wordB 11, wordB 12, wordB 13, wordB 14, wordB 15, wordB 16]
theorem words9_at {op : Nat} (h1 : 8 ≤ op) (h2 : op ≤ 16) : words9[op - 8]? = some (wordB op) := by
  rcases (by omega : op = 8 ∨ op = 9 ∨ op = 10 ∨ op = 11 ∨ op = 12 ∨ op = 13 ∨ op = 14 ∨ op = 15 ∨ op = 16) with rfl | rfl | rfl | rfl | rfl | rfl | rfl | rfl | rfl <;> rfl
theorem wrapU8s {op : Nat} (h1 : 8 ≤ op) (h2 : op < 256) : IntKind.u8.wrap ((op : Int) - 8) = ((op - 8 : Nat) : Int) := by
  have := wrap_u8 (p := (op : Int) - 8) (by omega) (by omega)
  rw [this]; omega
theorem opw_spec {X : PMap} {op : Nat} (h1 : 8 ≤ op) (h2 : op ≤ 16) : Spec Tryz.prog 203 [.int .u8 (op : Int)] X fun u _ => u = .string (wordB op) := by
  have hw := strsC_at (words9_at h1 h2)
  refine Spec.enter Tryz.func203 rfl Tryz.ntmps203 rfl ?_
  intro w0 hw0
  refine T.seq <| T.region <| SL.as rfl <| SL.nil <| T.seq <| T.region <| SL.w (op_buildSlice Tryz.underlying59 bs9 (qs := [(0, _), (1, _), (2, _), (3, _), (4, _), (5, _), (6, _), (7, _), (8, _)]) rfl rfl rfl rfl rfl) ?_
  rintro _ _ _ ⟨B3, rfl, rfl, rfl⟩
  refine SL.mv rfl <| SL.v (op_subW rfl rfl) ?_
  rw [wrapU8s h1 (by omega)]
  refine SL.v (op_indexN Tryz.underlying59 ty9 rfl rfl (by omega)) ?_
  refine SL.v (op_load ty9 rfl (by repeat constructor) (cread1k' hw (by omega))) ?_
  refine SL.as rfl <| SL.nil <| T.ret1 rfl (ResIs.tmp rfl) ?_
  rfl
mutual
/-- All numbers are below M. -/
def numE (M : Nat) : Ex → Prop
  | .mk op n _ al => (op = 1 → n < (M : Int)) ∧ numL M al
def numL (M : Nat) : List Ex → Prop
  | [] => True
  | a :: al => numE M a ∧ numL M al
end
theorem numL_mem {M : Nat} {a : Ex} : ∀ {l : List Ex}, numL M l → a ∈ l → numE M a
  | x :: l, h, hm => by
    rw [numL] at h
    rcases List.mem_cons.1 hm with rfl | hm
    · exact h.1
    · exact numL_mem h.2 hm
/-- strconv.Itoa of numbers below M. -/
def ItoaOk (M : Nat) (X : PMap) : Prop := ∀ X' : PMap, X.le X' → ∀ v : Nat, v < M → Spec Tryz.prog 109 [.int .i64 (v : Int)] X' fun u _ => u = .string (decB v)
theorem ItoaOk.mono {M : Nat} {X X' : PMap} (h : ItoaOk M X) (hX : X.le X') : ItoaOk M X' := fun X1 h' v hv => h X1 (hX.trans' h') v hv
theorem etext_spec {M : Nat} (N : Nat) : ∀ {X : PMap} {e : Ex} {r : Row4}, ItoaOk M X → wtE e ≤ N → N < 1000000 → nodeE e = 0 → numE M e → ExR .u8 X e r → Spec Tryz.prog 185 [.agg #[r.1, r.2.1, r.2.2.1, r.2.2.2]] X fun u _ => u = .string (textE e) := by
  induction N with
  | zero => intro X e r _ h; cases e; rw [wtE] at h; omega
  | succ N ih =>
    intro X e r hI hN hB hnode hnum h
    have hopd : ∀ {X : PMap} {a : Ex} {r : Row4} {least : Nat}, ItoaOk M X → wtE a ≤ N → nodeE a = 0 → numE M a → ExR .u8 X a r → Spec Tryz.prog 202 [.agg #[r.1, r.2.1, r.2.2.1, r.2.2.2], .int .i64 (least : Int)] X fun u _ => u = .string (parB (strN a.op) (textE a) least) := fun h0 h1 h2 h3 h4 => operand_spec h4 (fun hX => ih (h0.mono hX) h1 (by omega) h2 h3 (h4.mono hX)) (Nat.lt_of_le_of_lt (text_size _) (by omega))
    cases h with
    | @mk op n ns al vn va rows hn ha hl hr =>
    obtain ⟨Aa, ca, rfl⟩ := ha.form
    obtain ⟨An, cn, rfl⟩ := hn.form
    have hlen := wtL_len al
    have hnl := wtS_len ns
    rw [wtE] at hN
    obtain ⟨hown, hargs⟩ := node_ok hnode
    obtain ⟨o1, o2, o3, o4, o5, o6, o7, o8, o9⟩ := own_ok hown
    obtain ⟨hn1, hnumL⟩ : (op = 1 → n < (M : Int)) ∧ numL M al := hnum
    have k1 : (⟨#[99, 111, 117, 110, 116, 40]⟩ : ByteArray).size = 6 := rfl
    have k2 : (⟨#[41]⟩ : ByteArray).size = 1 := rfl
    have k3 : (⟨#[109, 101, 109, 98, 101, 114, 115, 40]⟩ : ByteArray).size = 8 := rfl
    have k4 : (⟨#[110, 111, 116, 32]⟩ : ByteArray).size = 4 := rfl
    by_cases c1 : op = 1
    · obtain ⟨v, rfl⟩ := Int.eq_ofNat_of_zero_le o8
      refine Spec.enter Tryz.func185 rfl Tryz.ntmps185 rfl ?_
      intro w0 hw0
      refine T.seq <| T.region <| SL.w (op_box rfl) ?_
      rintro _ _ _ ⟨B1, rfl, rfl, rfl⟩
      refine SL.as rfl <| SL.nil <| T.seq <| T.region <| SL.v (op_fieldAddr fa70_0 rfl) <| SL.v (op_load ty33 rfl (by repeat constructor) rfl) ?_
      refine SL.w (op_callF en200 (vs := [_]) rfl (strength_spec (op := op))) ?_
      rintro _ _ X1 ⟨rfl, hX1, rfl⟩
      refine SL.as rfl <| SL.nil <| T.seq <| T.seq <| T.region <| SL.v (op_fieldAddr fa70_0 rfl) <| SL.v (op_load ty33 rfl (by repeat constructor) rfl) ?_
      refine SL.nil <| T.block <| T.seq <| T.region <| SL.v (op_eqlT rfl rfl (by omega)) ?_
      refine SL.as rfl <| SL.nil <| T.condT rfl <| T.seq <| T.region <| SL.v (op_fieldAddr fa70_1 rfl) <| SL.v (op_load ty3 rfl (by repeat constructor) rfl) ?_
      refine SL.w (op_callF en109 (vs := [_]) rfl (hI _ hX1 v (by have := hn1 c1; omega))) ?_
      rintro _ _ X2 ⟨rfl, hX2, rfl⟩
      refine SL.as rfl <| SL.nil <| T.ret1 rfl (ResIs.tmp rfl) ?_
      rw [textE, if_pos c1]; rfl
    by_cases c2 : op = 2
    · refine Spec.enter Tryz.func185 rfl Tryz.ntmps185 rfl ?_
      intro w0 hw0
      refine T.seq <| T.region <| SL.w (op_box rfl) ?_
      rintro _ _ _ ⟨B1, rfl, rfl, rfl⟩
      refine SL.as rfl <| SL.nil <| T.seq <| T.region <| SL.v (op_fieldAddr fa70_0 rfl) <| SL.v (op_load ty33 rfl (by repeat constructor) rfl) ?_
      refine SL.w (op_callF en200 (vs := [_]) rfl (strength_spec (op := op))) ?_
      rintro _ _ X1 ⟨rfl, hX1, rfl⟩
      refine SL.as rfl <| SL.nil <| T.seq <| T.seq <| T.region <| SL.v (op_fieldAddr fa70_0 rfl) <| SL.v (op_load ty33 rfl (by repeat constructor) rfl) ?_
      refine SL.nil <| T.block <| T.seq <| T.region <| SL.v (op_eqlF rfl rfl (by omega)) ?_
      refine SL.as rfl <| SL.nil <| T.condF rfl <| T.seq <| T.region <| SL.v (op_eqlT rfl rfl (by omega)) ?_
      refine SL.as rfl <| SL.nil <| T.condT rfl <| T.seq <| T.region <| SL.as rfl <| SL.nil <| T.ret1 rfl (ResIs.tmp rfl) ?_
      rw [textE, if_neg c1, if_pos c2]
    by_cases c3 : op = 3
    · refine Spec.enter Tryz.func185 rfl Tryz.ntmps185 rfl ?_
      intro w0 hw0
      refine T.seq <| T.region <| SL.w (op_box rfl) ?_
      rintro _ _ _ ⟨B1, rfl, rfl, rfl⟩
      refine SL.as rfl <| SL.nil <| T.seq <| T.region <| SL.v (op_fieldAddr fa70_0 rfl) <| SL.v (op_load ty33 rfl (by repeat constructor) rfl) ?_
      refine SL.w (op_callF en200 (vs := [_]) rfl (strength_spec (op := op))) ?_
      rintro _ _ X1 ⟨rfl, hX1, rfl⟩
      refine SL.as rfl <| SL.nil <| T.seq <| T.seq <| T.region <| SL.v (op_fieldAddr fa70_0 rfl) <| SL.v (op_load ty33 rfl (by repeat constructor) rfl) ?_
      refine SL.nil <| T.block <| T.seq <| T.region <| SL.v (op_eqlF rfl rfl (by omega)) ?_
      refine SL.as rfl <| SL.nil <| T.condF rfl <| T.seq <| T.region <| SL.v (op_eqlF rfl rfl (by omega)) ?_
      refine SL.as rfl <| SL.nil <| T.condF rfl <| T.seq <| T.region <| SL.v (op_eqlT rfl rfl (by omega)) ?_
      refine SL.as rfl <| SL.nil <| T.condT rfl <| T.seq <| T.region <| SL.as rfl <| SL.nil <| T.ret1 rfl (ResIs.tmp rfl) ?_
      rw [textE, if_neg c1, if_neg c2, if_pos c3]
    by_cases c4 : op = 4
    · have hl1 : ns.length = 1 := by simpa [namN, c4] using o5
      obtain ⟨s, rfl⟩ : ∃ s, ns = [s] := by
        match ns, hl1 with
        | [s], _ => exact ⟨s, rfl⟩
      obtain ⟨bN, pre, rfl, hB1⟩ := hn.blk (by simp)
      refine Spec.enter Tryz.func185 rfl Tryz.ntmps185 rfl ?_
      intro w0 hw0
      refine T.seq <| T.region <| SL.w (op_box rfl) ?_
      rintro _ _ _ ⟨B1, rfl, rfl, rfl⟩
      refine SL.as rfl <| SL.nil <| T.seq <| T.region <| SL.v (op_fieldAddr fa70_0 rfl) <| SL.v (op_load ty33 rfl (by repeat constructor) rfl) ?_
      refine SL.w (op_callF en200 (vs := [_]) rfl (strength_spec (op := op))) ?_
      rintro _ _ X1 ⟨rfl, hX1, rfl⟩
      refine SL.as rfl <| SL.nil <| T.seq <| T.seq <| T.region <| SL.v (op_fieldAddr fa70_0 rfl) <| SL.v (op_load ty33 rfl (by repeat constructor) rfl) ?_
      refine SL.nil <| T.block <| T.seq <| T.region <| SL.v (op_eqlF rfl rfl (by omega)) ?_
      refine SL.as rfl <| SL.nil <| T.condF rfl <| T.seq <| T.region <| SL.v (op_eqlF rfl rfl (by omega)) ?_
      refine SL.as rfl <| SL.nil <| T.condF rfl <| T.seq <| T.region <| SL.v (op_eqlF rfl rfl (by omega)) ?_
      refine SL.as rfl <| SL.nil <| T.condF rfl <| T.seq <| T.region <| SL.v (op_eqlT rfl rfl (by omega)) ?_
      refine SL.as rfl <| SL.nil <| T.condT rfl <| T.seq <| T.region <| SL.v (op_fieldAddr fa70_2 rfl) <| SL.v (op_load ty59 rfl (by repeat constructor) rfl) ?_
      refine SL.v (op_index Tryz.underlying59 ty9 rfl rfl (by omega) (by omega)) ?_
      refine SL.v (op_loadX ty9 rfl (hB1.mono hX1) (str_read (i := 0) rfl (by omega))) ?_
      refine SL.as rfl <| SL.nil <| T.ret1 rfl (ResIs.tmp rfl) ?_
      rw [textE, if_neg c1, if_neg c2, if_neg c3, if_pos c4]; rfl
    by_cases c5 : op = 5
    · have hl1 : 1 ≤ ns.length ∧ ns.length ≤ 8 := by simpa [namN, c5] using o5
      have hj := joinB_size ns
      have hsum : sumS ns < 100000000 := by
        have e : ∀ l : List ByteArray, sumS l ≤ wtS l := by
          intro l
          induction l with
          | nil => simp [sumS, wtS]
          | cons x l ih => simp only [sumS, wtS, List.map_cons, List.sum_cons] at ih ⊢; omega
        have := e ns; omega
      refine Spec.enter Tryz.func185 rfl Tryz.ntmps185 rfl ?_
      intro w0 hw0
      refine T.seq <| T.region <| SL.w (op_box rfl) ?_
      rintro _ _ _ ⟨B1, rfl, rfl, rfl⟩
      refine SL.as rfl <| SL.nil <| T.seq <| T.region <| SL.v (op_fieldAddr fa70_0 rfl) <| SL.v (op_load ty33 rfl (by repeat constructor) rfl) ?_
      refine SL.w (op_callF en200 (vs := [_]) rfl (strength_spec (op := op))) ?_
      rintro _ _ X1 ⟨rfl, hX1, rfl⟩
      refine SL.as rfl <| SL.nil <| T.seq <| T.seq <| T.region <| SL.v (op_fieldAddr fa70_0 rfl) <| SL.v (op_load ty33 rfl (by repeat constructor) rfl) ?_
      refine SL.nil <| T.block <| T.seq <| T.region <| SL.v (op_eqlF rfl rfl (by omega)) ?_
      refine SL.as rfl <| SL.nil <| T.condF rfl <| T.seq <| T.region <| SL.v (op_eqlF rfl rfl (by omega)) ?_
      refine SL.as rfl <| SL.nil <| T.condF rfl <| T.seq <| T.region <| SL.v (op_eqlF rfl rfl (by omega)) ?_
      refine SL.as rfl <| SL.nil <| T.condF rfl <| T.seq <| T.region <| SL.v (op_eqlF rfl rfl (by omega)) ?_
      refine SL.as rfl <| SL.nil <| T.condF rfl <| T.seq <| T.region <| SL.v (op_eqlT rfl rfl (by omega)) ?_
      refine SL.as rfl <| SL.nil <| T.condT rfl <| T.seq <| T.region <| SL.v (op_fieldAddr fa70_2 rfl) <| SL.v (op_load ty59 rfl (by repeat constructor) rfl) ?_
      have hjn := join_spec (sep := ⟨#[44, 32]⟩) (hn.mono hX1) hl1.1 (by omega) hsum (fun s hs => Nat.pos_of_ne_zero (o6 s hs).1) (by decide) (by decide)
      rw [show joinL ⟨#[44, 32]⟩ ns = joinG ns by cases ns <;> rfl] at hjn
      refine SL.w (op_callF en201 (vs := [_, _]) rfl (hjn)) ?_
      rintro _ _ X2 ⟨rfl, hX2, rfl⟩
      have hjs : (⟨(joinG ns).toArray⟩ : ByteArray).size ≤ 2 * wtS ns := hj
      refine SL.v (op_addStr rfl rfl (by first | omega | (simp only [ByteArray.size_append]; omega))) ?_
      refine SL.v (op_addStr rfl rfl (by first | omega | (simp only [ByteArray.size_append]; omega))) ?_
      refine SL.as rfl <| SL.nil <| T.ret1 rfl (ResIs.tmp rfl) ?_
      rw [textE, if_neg c1, if_neg c2, if_neg c3, if_neg c4, if_pos c5]; rfl
    by_cases c6 : op = 6
    · have hl1 : ns.length = 1 := by simpa [namN, c6] using o5
      obtain ⟨s, rfl⟩ : ∃ s, ns = [s] := by
        match ns, hl1 with
        | [s], _ => exact ⟨s, rfl⟩
      obtain ⟨bN, pre, rfl, hB1⟩ := hn.blk (by simp)
      have hsz := wtS_mem (ns := [s]) (s := s) (by simp)
      refine Spec.enter Tryz.func185 rfl Tryz.ntmps185 rfl ?_
      intro w0 hw0
      refine T.seq <| T.region <| SL.w (op_box rfl) ?_
      rintro _ _ _ ⟨B1, rfl, rfl, rfl⟩
      refine SL.as rfl <| SL.nil <| T.seq <| T.region <| SL.v (op_fieldAddr fa70_0 rfl) <| SL.v (op_load ty33 rfl (by repeat constructor) rfl) ?_
      refine SL.w (op_callF en200 (vs := [_]) rfl (strength_spec (op := op))) ?_
      rintro _ _ X1 ⟨rfl, hX1, rfl⟩
      refine SL.as rfl <| SL.nil <| T.seq <| T.seq <| T.region <| SL.v (op_fieldAddr fa70_0 rfl) <| SL.v (op_load ty33 rfl (by repeat constructor) rfl) ?_
      refine SL.nil <| T.block <| T.seq <| T.region <| SL.v (op_eqlF rfl rfl (by omega)) ?_
      refine SL.as rfl <| SL.nil <| T.condF rfl <| T.seq <| T.region <| SL.v (op_eqlF rfl rfl (by omega)) ?_
      refine SL.as rfl <| SL.nil <| T.condF rfl <| T.seq <| T.region <| SL.v (op_eqlF rfl rfl (by omega)) ?_
      refine SL.as rfl <| SL.nil <| T.condF rfl <| T.seq <| T.region <| SL.v (op_eqlF rfl rfl (by omega)) ?_
      refine SL.as rfl <| SL.nil <| T.condF rfl <| T.seq <| T.region <| SL.v (op_eqlF rfl rfl (by omega)) ?_
      refine SL.as rfl <| SL.nil <| T.condF rfl <| T.seq <| T.region <| SL.v (op_eqlT rfl rfl (by omega)) ?_
      refine SL.as rfl <| SL.nil <| T.condT rfl <| T.seq <| T.region <| SL.v (op_fieldAddr fa70_2 rfl) <| SL.v (op_load ty59 rfl (by repeat constructor) rfl) ?_
      refine SL.v (op_index Tryz.underlying59 ty9 rfl rfl (by omega) (by omega)) ?_
      refine SL.v (op_loadX ty9 rfl (hB1.mono hX1) (str_read (i := 0) rfl (by omega))) ?_
      refine SL.v (op_addStr rfl rfl (by first | omega | (simp only [ByteArray.size_append]; omega))) ?_
      refine SL.v (op_addStr rfl rfl (by first | omega | (simp only [ByteArray.size_append]; omega))) ?_
      refine SL.as rfl <| SL.nil <| T.ret1 rfl (ResIs.tmp rfl) ?_
      rw [textE, if_neg c1, if_neg c2, if_neg c3, if_neg c4, if_neg c5, if_pos c6]; rfl
    by_cases c7 : op = 7
    · have hal : al.length = 1 := by rw [o3, c7]; rfl
      obtain ⟨a, rfl⟩ : ∃ a, al = [a] := by
        match al, hal with
        | [a], _ => exact ⟨a, rfl⟩
      obtain ⟨ra, rfl⟩ : ∃ ra, rows = [ra] := by
        match rows, hl with
        | [ra], _ => exact ⟨ra, rfl⟩
      have hra := hr 0 a ra rfl rfl
      obtain ⟨bA, pre, rfl, hbA⟩ := ha.blk (by simp)
      obtain ⟨_, _, _, _, _, _, _, _, rfl⟩ := hra.form
      have hna := nodeL_zero hargs a (by simp)
      have hma := numL_mem hnumL (a := a) (by simp)
      have hwa : wtE a ≤ N := by rw [wtL, wtL] at hN; omega
      have hts := text_size a
      have hps := parB_size (strN a.op) (textE a) 4
      refine Spec.enter Tryz.func185 rfl Tryz.ntmps185 rfl ?_
      intro w0 hw0
      refine T.seq <| T.region <| SL.w (op_box rfl) ?_
      rintro _ _ _ ⟨B1, rfl, rfl, rfl⟩
      refine SL.as rfl <| SL.nil <| T.seq <| T.region <| SL.v (op_fieldAddr fa70_0 rfl) <| SL.v (op_load ty33 rfl (by repeat constructor) rfl) ?_
      refine SL.w (op_callF en200 (vs := [_]) rfl (strength_spec (op := op))) ?_
      rintro _ _ X1 ⟨rfl, hX1, rfl⟩
      rw [show strN op = 4 by rw [c7]; rfl]
      refine SL.as rfl <| SL.nil <| T.seq <| T.seq <| T.region <| SL.v (op_fieldAddr fa70_0 rfl) <| SL.v (op_load ty33 rfl (by repeat constructor) rfl) ?_
      refine SL.nil <| T.block <| T.seq <| T.region <| SL.v (op_eqlF rfl rfl (by omega)) ?_
      refine SL.as rfl <| SL.nil <| T.condF rfl <| T.seq <| T.region <| SL.v (op_eqlF rfl rfl (by omega)) ?_
      refine SL.as rfl <| SL.nil <| T.condF rfl <| T.seq <| T.region <| SL.v (op_eqlF rfl rfl (by omega)) ?_
      refine SL.as rfl <| SL.nil <| T.condF rfl <| T.seq <| T.region <| SL.v (op_eqlF rfl rfl (by omega)) ?_
      refine SL.as rfl <| SL.nil <| T.condF rfl <| T.seq <| T.region <| SL.v (op_eqlF rfl rfl (by omega)) ?_
      refine SL.as rfl <| SL.nil <| T.condF rfl <| T.seq <| T.region <| SL.v (op_eqlF rfl rfl (by omega)) ?_
      refine SL.as rfl <| SL.nil <| T.condF rfl <| T.seq <| T.region <| SL.v (op_eqlT rfl rfl (by omega)) ?_
      refine SL.as rfl <| SL.nil <| T.condT rfl <| T.seq <| T.region <| SL.v (op_fieldAddr fa70_3 rfl) <| SL.v (op_load ty68 rfl (by repeat constructor) rfl) ?_
      refine SL.v (op_index Tryz.underlying68 ty70 rfl rfl (by omega) (by omega)) ?_
      refine SL.v (op_loadX ty70 rfl (hbA.mono hX1) (row_read rc4_len (rs := [_]) (k := 0) rfl (by omega))) ?_
      refine SL.mv rfl <| SL.w (op_callF en202 (vs := [_, _]) rfl (hopd (hI.mono hX1) hwa hna hma (hra.mono hX1))) ?_
      rintro _ _ X2 ⟨rfl, hX2, rfl⟩
      refine SL.v (op_addStr rfl rfl (by first | omega | (simp only [ByteArray.size_append]; omega))) ?_
      refine SL.as rfl <| SL.nil <| T.ret1 rfl (ResIs.tmp rfl) ?_
      rw [textE, if_neg c1, if_neg c2, if_neg c3, if_neg c4, if_neg c5, if_neg c6, textL, textL]
    have hal : al.length = 2 := by rw [o3, argN, if_neg (by omega), if_neg c7]
    obtain ⟨a, a2, rfl⟩ : ∃ a a2, al = [a, a2] := by
      match al, hal with
      | [a, b], _ => exact ⟨a, b, rfl⟩
    obtain ⟨ra, rb, rfl⟩ : ∃ ra rb, rows = [ra, rb] := by
      match rows, hl with
      | [ra, rb], _ => exact ⟨ra, rb, rfl⟩
    have hra := hr 0 a ra rfl rfl
    have hrb := hr 1 a2 rb rfl rfl
    obtain ⟨bA, pre, rfl, hbA⟩ := ha.blk (by simp)
    obtain ⟨_, _, _, _, _, _, _, _, rfl⟩ := hra.form
    obtain ⟨_, _, _, _, _, _, _, _, rfl⟩ := hrb.form
    have hna := nodeL_zero hargs a (by simp)
    have hnb := nodeL_zero hargs a2 (by simp)
    have hma := numL_mem hnumL (a := a) (by simp)
    have hmb := numL_mem hnumL (a := a2) (by simp)
    have hwa : wtE a ≤ N ∧ wtE a2 ≤ N := by rw [wtL, wtL, wtL] at hN; omega
    have hts := text_size a
    have hts2 := text_size a2
    have hps := fun k => parB_size (strN a.op) (textE a) k
    have hps2 := fun k => parB_size (strN a2.op) (textE a2) k
    have hps3 := hps (lefN op)
    have hps4 := hps2 (rigN op)
    have hps5 := hps2 (lefN op)
    have hww := wordB_size op
    have hs7 := strN_le op
    by_cases c10 : op = 10
    · have el : lefN op = strN op + 1 := if_pos c10
      have er : rigN op = strN op := if_pos c10
      refine Spec.enter Tryz.func185 rfl Tryz.ntmps185 rfl ?_
      intro w0 hw0
      refine T.seq <| T.region <| SL.w (op_box rfl) ?_
      rintro _ _ _ ⟨B1, rfl, rfl, rfl⟩
      refine SL.as rfl <| SL.nil <| T.seq <| T.region <| SL.v (op_fieldAddr fa70_0 rfl) <| SL.v (op_load ty33 rfl (by repeat constructor) rfl) ?_
      refine SL.w (op_callF en200 (vs := [_]) rfl (strength_spec (op := op))) ?_
      rintro _ _ X1 ⟨rfl, hX1, rfl⟩
      refine SL.as rfl <| SL.nil <| T.seq <| T.seq <| T.region <| SL.v (op_fieldAddr fa70_0 rfl) <| SL.v (op_load ty33 rfl (by repeat constructor) rfl) ?_
      refine SL.nil <| T.block <| T.seq <| T.region <| SL.v (op_eqlF rfl rfl (by omega)) ?_
      refine SL.as rfl <| SL.nil <| T.condF rfl <| T.seq <| T.region <| SL.v (op_eqlF rfl rfl (by omega)) ?_
      refine SL.as rfl <| SL.nil <| T.condF rfl <| T.seq <| T.region <| SL.v (op_eqlF rfl rfl (by omega)) ?_
      refine SL.as rfl <| SL.nil <| T.condF rfl <| T.seq <| T.region <| SL.v (op_eqlF rfl rfl (by omega)) ?_
      refine SL.as rfl <| SL.nil <| T.condF rfl <| T.seq <| T.region <| SL.v (op_eqlF rfl rfl (by omega)) ?_
      refine SL.as rfl <| SL.nil <| T.condF rfl <| T.seq <| T.region <| SL.v (op_eqlF rfl rfl (by omega)) ?_
      refine SL.as rfl <| SL.nil <| T.condF rfl <| T.seq <| T.region <| SL.v (op_eqlF rfl rfl (by omega)) ?_
      refine SL.as rfl <| SL.nil <| T.condF rfl <| T.skip <| T.blk <| T.seq <| T.region <| SL.mv rfl <| SL.mv rfl <| SL.v (op_addN (q := 1) rfl rfl (by omega)) ?_
      refine SL.as rfl <| SL.as rfl <| SL.nil <| T.seq <| T.block <| T.seq <| T.region <| SL.v (op_fieldAddr fa70_0 rfl) <| SL.v (op_load ty33 rfl (by repeat constructor) rfl) ?_
      refine SL.v (op_eqlT rfl rfl (by omega)) ?_
      refine SL.as rfl <| SL.nil <| T.condT rfl <| T.region <| SL.mv rfl <| SL.v (op_addN (q := 1) rfl rfl (by omega)) ?_
      refine SL.mv rfl <| SL.as rfl <| SL.as rfl <| SL.nil <| T.blk ?_
      rw [← el, ← er]
      refine T.seq <| T.draw (by kernel_rfl) 18 [.t 0, .t 1, .t 2, .t 3, .t 4, .t 6, .t 7, .t 10, .t 11, .t 12, .t 13, .t 14, .r 5, .r 8, .t 9, .r 15, .t 16, .t 17] (by kernel_rfl) ?_
      refine SD.take rfl panicBody (op_fieldAddr fa70_3 rfl) rfl rfl ?_
      refine SD.take rfl panicBody (op_load ty68 rfl (by repeat constructor) rfl) rfl rfl ?_
      refine SD.take rfl panicBody (op_index Tryz.underlying68 ty70 rfl rfl (by omega) (by omega)) rfl rfl ?_
      refine SD.take rfl panicBody (op_loadX ty70 rfl (hbA.mono hX1) (row_read rc4_len (rs := [_, _]) (k := 0) rfl (by omega))) rfl rfl ?_
      refine SD.take rfl panicBody (op_move rfl) rfl rfl ?_
      refine SD.take rfl panicBody (op_fieldAddr fa70_0 rfl) rfl rfl ?_
      refine SD.take rfl panicBody (op_load ty33 rfl (by repeat constructor) rfl) rfl rfl ?_
      refine SD.take rfl panicBody (op_fieldAddr fa70_3 rfl) rfl rfl ?_
      refine SD.take rfl panicBody (op_load ty68 rfl (by repeat constructor) rfl) rfl rfl ?_
      refine SD.take rfl panicBody (op_index Tryz.underlying68 ty70 rfl rfl (by omega) (by omega)) rfl rfl ?_
      refine SD.take rfl panicBody (op_loadX ty70 rfl (hbA.mono hX1) (row_read rc4_len (rs := [_, _]) (k := 1) rfl (by omega))) rfl rfl ?_
      refine SD.take rfl panicBody (op_move rfl) rfl rfl ?_
      refine SD.run rfl (op_callF en202 (vs := [_, _]) rfl (hopd (hI.mono hX1) hwa.1 hna hma (hra.mono hX1))) rfl rfl ?_
      rintro _ _ X3 ⟨rfl, hX3, rfl⟩
      refine SD.run rfl (op_callF en203 (vs := [_]) rfl (opw_spec (op := op) (by omega) (by omega))) rfl rfl ?_
      rintro _ _ X4 ⟨rfl, hX4, rfl⟩
      refine SD.take rfl panicBody (op_addStr rfl rfl (by first | omega | (simp only [ByteArray.size_append]; omega))) rfl rfl ?_
      refine SD.run rfl (op_callF en202 (vs := [_, _]) rfl (hopd (((hI.mono hX1).mono hX3).mono hX4) hwa.2 hnb hmb (((hrb.mono hX1).mono hX3).mono hX4))) rfl rfl ?_
      rintro _ _ X5 ⟨rfl, hX5, rfl⟩
      refine SD.take rfl panicBody (op_addStr rfl rfl (by first | omega | (simp only [ByteArray.size_append]; omega))) rfl rfl ?_
      refine SD.take rfl panicBody (op_assign rfl) rfl rfl ?_
      refine SD.nil ?_
      show SL _ _ _ _ _ _ _ [] _ _ _
      refine SL.nil <| T.ret1 rfl (ResIs.tmp rfl) ?_
      rw [textE, if_neg c1, if_neg c2, if_neg c3, if_neg c4, if_neg c5, if_neg c6, textL, textL, textL]
    by_cases c5s : strN op = 5
    · have el : lefN op = strN op + 1 := by rw [lefN, if_neg c10, if_pos c5s]
      have er : rigN op = strN op + 1 := if_neg c10
      refine Spec.enter Tryz.func185 rfl Tryz.ntmps185 rfl ?_
      intro w0 hw0
      refine T.seq <| T.region <| SL.w (op_box rfl) ?_
      rintro _ _ _ ⟨B1, rfl, rfl, rfl⟩
      refine SL.as rfl <| SL.nil <| T.seq <| T.region <| SL.v (op_fieldAddr fa70_0 rfl) <| SL.v (op_load ty33 rfl (by repeat constructor) rfl) ?_
      refine SL.w (op_callF en200 (vs := [_]) rfl (strength_spec (op := op))) ?_
      rintro _ _ X1 ⟨rfl, hX1, rfl⟩
      refine SL.as rfl <| SL.nil <| T.seq <| T.seq <| T.region <| SL.v (op_fieldAddr fa70_0 rfl) <| SL.v (op_load ty33 rfl (by repeat constructor) rfl) ?_
      refine SL.nil <| T.block <| T.seq <| T.region <| SL.v (op_eqlF rfl rfl (by omega)) ?_
      refine SL.as rfl <| SL.nil <| T.condF rfl <| T.seq <| T.region <| SL.v (op_eqlF rfl rfl (by omega)) ?_
      refine SL.as rfl <| SL.nil <| T.condF rfl <| T.seq <| T.region <| SL.v (op_eqlF rfl rfl (by omega)) ?_
      refine SL.as rfl <| SL.nil <| T.condF rfl <| T.seq <| T.region <| SL.v (op_eqlF rfl rfl (by omega)) ?_
      refine SL.as rfl <| SL.nil <| T.condF rfl <| T.seq <| T.region <| SL.v (op_eqlF rfl rfl (by omega)) ?_
      refine SL.as rfl <| SL.nil <| T.condF rfl <| T.seq <| T.region <| SL.v (op_eqlF rfl rfl (by omega)) ?_
      refine SL.as rfl <| SL.nil <| T.condF rfl <| T.seq <| T.region <| SL.v (op_eqlF rfl rfl (by omega)) ?_
      refine SL.as rfl <| SL.nil <| T.condF rfl <| T.skip <| T.blk <| T.seq <| T.region <| SL.mv rfl <| SL.mv rfl <| SL.v (op_addN (q := 1) rfl rfl (by omega)) ?_
      refine SL.as rfl <| SL.as rfl <| SL.nil <| T.seq <| T.block <| T.seq <| T.region <| SL.v (op_fieldAddr fa70_0 rfl) <| SL.v (op_load ty33 rfl (by repeat constructor) rfl) ?_
      refine SL.v (op_eqlF rfl rfl (by omega)) ?_
      refine SL.as rfl <| SL.nil <| T.condF rfl <| T.seq <| T.region <| SL.mv rfl <| SL.w (op_callF en200 (vs := [_]) rfl (strength_spec (op := 11))) ?_
      rintro _ _ X2 ⟨rfl, hX2, rfl⟩
      rw [show strN 11 = 5 from rfl]
      refine SL.v (op_eqlT rfl rfl (by omega)) ?_
      refine SL.as rfl <| SL.nil <| T.condT rfl <| T.region <| SL.mv rfl <| SL.v (op_addN (q := 1) rfl rfl (by omega)) ?_
      refine SL.mv rfl <| SL.v (op_addN (q := 1) rfl rfl (by omega)) ?_
      refine SL.as rfl <| SL.as rfl <| SL.nil <| T.blk ?_
      rw [← el]
      refine T.seq <| T.draw (by kernel_rfl) 18 [.t 0, .t 1, .t 2, .t 3, .t 4, .t 6, .t 7, .t 10, .t 11, .t 12, .t 13, .t 14, .r 5, .r 8, .t 9, .r 15, .t 16, .t 17] (by kernel_rfl) ?_
      refine SD.take rfl panicBody (op_fieldAddr fa70_3 rfl) rfl rfl ?_
      refine SD.take rfl panicBody (op_load ty68 rfl (by repeat constructor) rfl) rfl rfl ?_
      refine SD.take rfl panicBody (op_index Tryz.underlying68 ty70 rfl rfl (by omega) (by omega)) rfl rfl ?_
      refine SD.take rfl panicBody (op_loadX ty70 rfl (hbA.mono (hX1.trans' hX2)) (row_read rc4_len (rs := [_, _]) (k := 0) rfl (by omega))) rfl rfl ?_
      refine SD.take rfl panicBody (op_move rfl) rfl rfl ?_
      refine SD.take rfl panicBody (op_fieldAddr fa70_0 rfl) rfl rfl ?_
      refine SD.take rfl panicBody (op_load ty33 rfl (by repeat constructor) rfl) rfl rfl ?_
      refine SD.take rfl panicBody (op_fieldAddr fa70_3 rfl) rfl rfl ?_
      refine SD.take rfl panicBody (op_load ty68 rfl (by repeat constructor) rfl) rfl rfl ?_
      refine SD.take rfl panicBody (op_index Tryz.underlying68 ty70 rfl rfl (by omega) (by omega)) rfl rfl ?_
      refine SD.take rfl panicBody (op_loadX ty70 rfl (hbA.mono (hX1.trans' hX2)) (row_read rc4_len (rs := [_, _]) (k := 1) rfl (by omega))) rfl rfl ?_
      refine SD.take rfl panicBody (op_move rfl) rfl rfl ?_
      refine SD.run rfl (op_callF en202 (vs := [_, _]) rfl (hopd (hI.mono (hX1.trans' hX2)) hwa.1 hna hma (hra.mono (hX1.trans' hX2)))) rfl rfl ?_
      rintro _ _ X3 ⟨rfl, hX3, rfl⟩
      refine SD.run rfl (op_callF en203 (vs := [_]) rfl (opw_spec (op := op) (by omega) (by omega))) rfl rfl ?_
      rintro _ _ X4 ⟨rfl, hX4, rfl⟩
      refine SD.take rfl panicBody (op_addStr rfl rfl (by first | omega | (simp only [ByteArray.size_append]; omega))) rfl rfl ?_
      refine SD.run rfl (op_callF en202 (vs := [_, _]) rfl (hopd (((hI.mono (hX1.trans' hX2)).mono hX3).mono hX4) hwa.2 hnb hmb (((hrb.mono (hX1.trans' hX2)).mono hX3).mono hX4))) rfl rfl ?_
      rintro _ _ X5 ⟨rfl, hX5, rfl⟩
      refine SD.take rfl panicBody (op_addStr rfl rfl (by first | omega | (simp only [ByteArray.size_append]; omega))) rfl rfl ?_
      refine SD.take rfl panicBody (op_assign rfl) rfl rfl ?_
      refine SD.nil ?_
      show SL _ _ _ _ _ _ _ [] _ _ _
      refine SL.nil <| T.ret1 rfl (ResIs.tmp rfl) ?_
      rw [textE, if_neg c1, if_neg c2, if_neg c3, if_neg c4, if_neg c5, if_neg c6, textL, textL, textL, er, ← el]
    · have el : lefN op = strN op := by rw [lefN, if_neg c10, if_neg c5s]
      have er : rigN op = strN op + 1 := if_neg c10
      refine Spec.enter Tryz.func185 rfl Tryz.ntmps185 rfl ?_
      intro w0 hw0
      refine T.seq <| T.region <| SL.w (op_box rfl) ?_
      rintro _ _ _ ⟨B1, rfl, rfl, rfl⟩
      refine SL.as rfl <| SL.nil <| T.seq <| T.region <| SL.v (op_fieldAddr fa70_0 rfl) <| SL.v (op_load ty33 rfl (by repeat constructor) rfl) ?_
      refine SL.w (op_callF en200 (vs := [_]) rfl (strength_spec (op := op))) ?_
      rintro _ _ X1 ⟨rfl, hX1, rfl⟩
      refine SL.as rfl <| SL.nil <| T.seq <| T.seq <| T.region <| SL.v (op_fieldAddr fa70_0 rfl) <| SL.v (op_load ty33 rfl (by repeat constructor) rfl) ?_
      refine SL.nil <| T.block <| T.seq <| T.region <| SL.v (op_eqlF rfl rfl (by omega)) ?_
      refine SL.as rfl <| SL.nil <| T.condF rfl <| T.seq <| T.region <| SL.v (op_eqlF rfl rfl (by omega)) ?_
      refine SL.as rfl <| SL.nil <| T.condF rfl <| T.seq <| T.region <| SL.v (op_eqlF rfl rfl (by omega)) ?_
      refine SL.as rfl <| SL.nil <| T.condF rfl <| T.seq <| T.region <| SL.v (op_eqlF rfl rfl (by omega)) ?_
      refine SL.as rfl <| SL.nil <| T.condF rfl <| T.seq <| T.region <| SL.v (op_eqlF rfl rfl (by omega)) ?_
      refine SL.as rfl <| SL.nil <| T.condF rfl <| T.seq <| T.region <| SL.v (op_eqlF rfl rfl (by omega)) ?_
      refine SL.as rfl <| SL.nil <| T.condF rfl <| T.seq <| T.region <| SL.v (op_eqlF rfl rfl (by omega)) ?_
      refine SL.as rfl <| SL.nil <| T.condF rfl <| T.skip <| T.blk <| T.seq <| T.region <| SL.mv rfl <| SL.mv rfl <| SL.v (op_addN (q := 1) rfl rfl (by omega)) ?_
      refine SL.as rfl <| SL.as rfl <| SL.nil <| T.seq <| T.block <| T.seq <| T.region <| SL.v (op_fieldAddr fa70_0 rfl) <| SL.v (op_load ty33 rfl (by repeat constructor) rfl) ?_
      refine SL.v (op_eqlF rfl rfl (by omega)) ?_
      refine SL.as rfl <| SL.nil <| T.condF rfl <| T.seq <| T.region <| SL.mv rfl <| SL.w (op_callF en200 (vs := [_]) rfl (strength_spec (op := 11))) ?_
      rintro _ _ X2 ⟨rfl, hX2, rfl⟩
      rw [show strN 11 = 5 from rfl]
      refine SL.v (op_eqlF rfl rfl (by omega)) ?_
      refine SL.as rfl <| SL.nil <| T.condF rfl <| T.skip <| T.blk ?_
      rw [← er, ← el]
      refine T.seq <| T.draw (by kernel_rfl) 18 [.t 0, .t 1, .t 2, .t 3, .t 4, .t 6, .t 7, .t 10, .t 11, .t 12, .t 13, .t 14, .r 5, .r 8, .t 9, .r 15, .t 16, .t 17] (by kernel_rfl) ?_
      refine SD.take rfl panicBody (op_fieldAddr fa70_3 rfl) rfl rfl ?_
      refine SD.take rfl panicBody (op_load ty68 rfl (by repeat constructor) rfl) rfl rfl ?_
      refine SD.take rfl panicBody (op_index Tryz.underlying68 ty70 rfl rfl (by omega) (by omega)) rfl rfl ?_
      refine SD.take rfl panicBody (op_loadX ty70 rfl (hbA.mono (hX1.trans' hX2)) (row_read rc4_len (rs := [_, _]) (k := 0) rfl (by omega))) rfl rfl ?_
      refine SD.take rfl panicBody (op_move rfl) rfl rfl ?_
      refine SD.take rfl panicBody (op_fieldAddr fa70_0 rfl) rfl rfl ?_
      refine SD.take rfl panicBody (op_load ty33 rfl (by repeat constructor) rfl) rfl rfl ?_
      refine SD.take rfl panicBody (op_fieldAddr fa70_3 rfl) rfl rfl ?_
      refine SD.take rfl panicBody (op_load ty68 rfl (by repeat constructor) rfl) rfl rfl ?_
      refine SD.take rfl panicBody (op_index Tryz.underlying68 ty70 rfl rfl (by omega) (by omega)) rfl rfl ?_
      refine SD.take rfl panicBody (op_loadX ty70 rfl (hbA.mono (hX1.trans' hX2)) (row_read rc4_len (rs := [_, _]) (k := 1) rfl (by omega))) rfl rfl ?_
      refine SD.take rfl panicBody (op_move rfl) rfl rfl ?_
      refine SD.run rfl (op_callF en202 (vs := [_, _]) rfl (hopd (hI.mono (hX1.trans' hX2)) hwa.1 hna hma (hra.mono (hX1.trans' hX2)))) rfl rfl ?_
      rintro _ _ X3 ⟨rfl, hX3, rfl⟩
      refine SD.run rfl (op_callF en203 (vs := [_]) rfl (opw_spec (op := op) (by omega) (by omega))) rfl rfl ?_
      rintro _ _ X4 ⟨rfl, hX4, rfl⟩
      refine SD.take rfl panicBody (op_addStr rfl rfl (by first | omega | (simp only [ByteArray.size_append]; omega))) rfl rfl ?_
      refine SD.run rfl (op_callF en202 (vs := [_, _]) rfl (hopd (((hI.mono (hX1.trans' hX2)).mono hX3).mono hX4) hwa.2 hnb hmb (((hrb.mono (hX1.trans' hX2)).mono hX3).mono hX4))) rfl rfl ?_
      rintro _ _ X5 ⟨rfl, hX5, rfl⟩
      refine SD.take rfl panicBody (op_addStr rfl rfl (by first | omega | (simp only [ByteArray.size_append]; omega))) rfl rfl ?_
      refine SD.take rfl panicBody (op_assign rfl) rfl rfl ?_
      refine SD.nil ?_
      show SL _ _ _ _ _ _ _ [] _ _ _
      refine SL.nil <| T.ret1 rfl (ResIs.tmp rfl) ?_
      rw [textE, if_neg c1, if_neg c2, if_neg c3, if_neg c4, if_neg c5, if_neg c6, textL, textL, textL]
end Go.Proofs.YtnpcilglilfajaaGreatDoor
namespace Go.Proofs.YtnpcilglilfajaaGreatDoor
section
set_option maxRecDepth 100000
theorem fa123_0 : FAdr Tryz.prog 123 0 0 := fadr_mk Tryz.underlying123 rfl rfl (by kernel_rfl)
theorem fa123_1 : FAdr Tryz.prog 123 1 1 := fadr_mk Tryz.underlying123 rfl rfl (by kernel_rfl)
theorem fa123_2 : FAdr Tryz.prog 123 2 2 := fadr_mk Tryz.underlying123 rfl rfl (by kernel_rfl)
theorem fa123_3 : FAdr Tryz.prog 123 3 3 := fadr_mk Tryz.underlying123 rfl rfl (by kernel_rfl)
theorem ty123 : Ty Tryz.prog 123 true 7 := ⟨⟨_, Tryz.underlying123, rfl⟩, by kernel_rfl⟩
theorem ty4 : Ty Tryz.prog 4 false 1 := ⟨⟨_, Tryz.underlying4, rfl⟩, by kernel_rfl⟩
theorem ty41 : Ty Tryz.prog 41 false 1 := ⟨⟨_, Tryz.underlying41, rfl⟩, by kernel_rfl⟩
theorem z123 : Zero Tryz.prog 123 [.bool false, .int .u8 0, .string ⟨#[]⟩, .int .u8 0, .int .i64 0, .slice none 0 0, .slice none 0 0] := ⟨zero_of (by kernel_rfl)⟩
end
open Go.RowKit
structure Con where
  enf : Bool
  kind : Nat
  name : ByteArray
  ex : Ex
abbrev Row7 := Bool × Nat × ByteArray × Row4
def rc7 (r : Row7) : List Value := [.bool r.1, .int .u8 (r.2.1 : Int), .string r.2.2.1, r.2.2.2.1, r.2.2.2.2.1, r.2.2.2.2.2.1, r.2.2.2.2.2.2]
theorem rc7_len (r : Row7) : (rc7 r).length = 7 := rfl
def ConR (X : PMap) (c : Con) (r : Row7) : Prop := r.1 = c.enf ∧ r.2.1 = c.kind ∧ r.2.2.1 = c.name ∧ ExR .u8 X c.ex r.2.2.2
theorem ConR.mono {X X' : PMap} {c : Con} {r : Row7} (h : ConR X c r) (hX : X.le X') : ConR X' c r := ⟨h.1, h.2.1, h.2.2.1, h.2.2.2.mono hX⟩
theorem ConR.form {X : PMap} {c : Con} {r : Row7} (h : ConR X c r) : ∃ (o : Nat) (n : Int) (A B : Option Addr) (l c1 l' c' : Nat), r = (c.enf, c.kind, c.name, .int .u8 (o : Int), .int .i64 n, .slice A l c1, .slice B l' c') := by
  obtain ⟨e, k, s, r4⟩ := r
  obtain ⟨h1, h2, h3, h4⟩ := h
  simp only at h1 h2 h3 h4
  subst h1 h2 h3
  obtain ⟨o, n, A, B, l, c1, l', c', rfl⟩ := h4.form
  exact ⟨_, _, _, _, _, _, _, _, rfl⟩
def ConsR (X : PMap) (v : Value) (cs : List Con) : Prop := ∃ rows : List Row7, RowR rc7 X v rows ∧ rows.length = cs.length ∧ ∀ (i : Nat) (c : Con) (r : Row7), cs[i]? = some c → rows[i]? = some r → ConR X c r
theorem ConsR.mono {X X' : PMap} {v : Value} {cs : List Con} (h : ConsR X v cs) (hX : X.le X') : ConsR X' v cs :=
  let ⟨rows, h1, h2, h3⟩ := h
  ⟨rows, h1.mono hX, h2, fun i c r a b => (h3 i c r a b).mono hX⟩
/-- The error of a constraint behind these names. -/
noncomputable def errC (pre : List ByteArray) (c : Con) : Int := if c.kind < 1 ∨ 3 < c.kind then 1 else if ¬validS c.name then 9 else if c.name ∈ pre then 5 else chkE c.ex
noncomputable def chkCs (pre : List ByteArray) : List Con → Int
  | [] => 0
  | c :: cs => if errC pre c ≠ 0 then errC pre c else chkCs (pre ++ [c.name]) cs
def modeB (c : Con) : ByteArray := if c.enf then ⟨#[101, 110, 102, 111, 114, 99, 101, 32]⟩ else ⟨#[100, 101, 99, 108, 97, 114, 101, 32]⟩
def kinds3 : List ByteArray := [⟨#[115, 116, 97, 116, 105, 99, 32]⟩, ⟨#[100, 121, 110, 97, 109, 105, 99, 32]⟩, ⟨#[117, 115, 101, 114, 115, 32]⟩]
def kindB (k : Nat) : ByteArray := (kinds3[k - 1]?).getD ⟨#[]⟩
def lineB (c : Con) : ByteArray := modeB c ++ kindB c.kind ++ c.name ++ ⟨#[58, 32]⟩ ++ textE c.ex ++ ⟨#[59, 10]⟩
def linesL (cs : List Con) : List UInt8 := (cs.map fun c => (lineB c).data.toList).flatten
theorem linesL_snoc (cs : List Con) (c : Con) : linesL (cs ++ [c]) = linesL cs ++ (lineB c).data.toList := by simp [linesL]
noncomputable def chkAll (cs : List Con) : Int := if 32 < cs.length then 3 else if chkCs [] cs ≠ 0 then chkCs [] cs else if 8000 < (linesL cs).length then 3 else 0
theorem chkCs_app (b : List Con) : ∀ (a : List Con) (pre : List ByteArray), chkCs pre (a ++ b) = if chkCs pre a ≠ 0 then chkCs pre a else chkCs (pre ++ a.map (·.name)) b
  | [], pre => by simp [chkCs]
  | c :: a, pre => by
    rw [List.cons_append, chkCs, chkCs, chkCs_app b a]
    by_cases h : errC pre c ≠ 0
    · simp [h]
    · simp only [h, if_false, List.map_cons, List.append_assoc, List.cons_append, List.nil_append]
theorem errC_ok {pre : List ByteArray} {c : Con} (h : errC pre c = 0) : 1 ≤ c.kind ∧ c.kind ≤ 3 ∧ validS c.name ∧ c.name ∉ pre ∧ chkE c.ex = 0 := by
  unfold errC at h
  by_cases h1 : c.kind < 1 ∨ 3 < c.kind
  · rw [if_pos h1] at h; cases h
  · rw [if_neg h1] at h
    by_cases h2 : ¬validS c.name
    · rw [if_pos h2] at h; cases h
    · rw [if_neg h2] at h
      by_cases h3 : c.name ∈ pre
      · rw [if_pos h3] at h; cases h
      · rw [if_neg h3] at h
        exact ⟨by omega, by omega, Classical.not_not.1 h2, h3, h⟩
theorem chkE_node {e : Ex} (h : chkE e = 0) : nodeE e = 0 := by
  unfold chkE at h
  split at h
  · cases h
  · exact h
theorem chkCs_mem : ∀ {cs : List Con} {pre : List ByteArray}, chkCs pre cs = 0 → ∀ c ∈ cs, 1 ≤ c.kind ∧ c.kind ≤ 3 ∧ validS c.name ∧ chkE c.ex = 0
  | d :: cs, pre, h, c, hm => by
    rw [chkCs] at h
    by_cases he : errC pre d ≠ 0
    · rw [if_pos he] at h; exact absurd h he
    · rw [if_neg he] at h
      rcases List.mem_cons.1 hm with rfl | hm
      · obtain ⟨a, b, c', _, d'⟩ := errC_ok (Decidable.not_not.1 he)
        exact ⟨a, b, c', d'⟩
      · exact chkCs_mem h c hm
theorem kind_at {k : Nat} (h1 : 1 ≤ k) (h3 : k ≤ 3) : kinds3[k - 1]? = some (kindB k) := by
  rw [kindB, List.getElem?_eq_getElem (show k - 1 < kinds3.length by show k - 1 < 3; omega)]; rfl
theorem kindB_size (k : Nat) : (kindB k).size ≤ 8 := by
  unfold kindB
  cases h : kinds3[k - 1]? with
  | none => exact Nat.zero_le _
  | some s =>
    have := List.mem_of_getElem? h
    simp only [kinds3, List.mem_cons, List.not_mem_nil, or_false] at this
    rcases this with rfl | rfl | rfl <;> decide
theorem modeB_size (c : Con) : (modeB c).size = 8 := by unfold modeB; split <;> rfl
theorem lineB_size {c : Con} (hv : c.name.size ≤ 12) : 1 ≤ (lineB c).size ∧ (lineB c).size ≤ 40 * wtE c.ex + 40 := by
  have h1 := text_size c.ex
  have h2 := kindB_size c.kind
  have h3 := modeB_size c
  have k1 : (⟨#[58, 32]⟩ : ByteArray).size = 2 := rfl
  have k2 : (⟨#[59, 10]⟩ : ByteArray).size = 2 := rfl
  simp only [lineB, ByteArray.size_append]
  omega
theorem wrapK {k : Nat} (h1 : 1 ≤ k) (h3 : k ≤ 3) : IntKind.u8.wrap ((k : Int) - 1) = ((k - 1 : Nat) : Int) := by
  have := wrap_u8 (p := (k : Int) - 1) (by omega) (by omega)
  rw [this]; omega
def wtC (cs : List Con) : Nat := (cs.map fun c => wtE c.ex).sum
theorem linesL_len : ∀ {cs : List Con}, (∀ c ∈ cs, c.name.size ≤ 12) → (linesL cs).length ≤ 40 * wtC cs + 40 * cs.length
  | [], _ => by simp [linesL]
  | c :: cs, h => by
    have h1 := linesL_len (cs := cs) fun d hd => h d (by simp [hd])
    have h2 := (lineB_size (h c (by simp))).2
    simp only [linesL, wtC, List.map_cons, List.flatten_cons, List.sum_cons, List.length_append, List.length_cons] at h1 ⊢
    have e : (lineB c).data.toList.length = (lineB c).size := by simp
    omega
theorem wtC_take_le : ∀ (cs : List Con) (i : Nat), wtC (cs.take i) ≤ wtC cs
  | [], _ => by simp
  | _ :: _, 0 => by simp [wtC]
  | c :: cs, i + 1 => by
    have := wtC_take_le cs i
    simp only [wtC, List.take_succ_cons, List.map_cons, List.sum_cons] at this ⊢; omega
theorem perm2a {a b : Ow} {L : Own} : (a :: b :: (L ++ [])).Perm (L ++ ([] ++ [a, b])) := by
  rw [List.append_nil, List.nil_append]
  exact List.perm_append_comm (l₁ := [a, b])
theorem lines_spec {M : Nat} {X : PMap} (hI : ItoaOk M X) {v : Value} {cs : List Con} (h : ConsR X v cs) (hl : cs.length ≤ 40) (h0 : 0 < cs.length) (hw : wtC cs < 15000000) (hww : ∀ c ∈ cs, wtE c.ex < 900000) (hn : ∀ c ∈ cs, numE M c.ex)
    (hok : ∀ c ∈ cs, 1 ≤ c.kind ∧ c.kind ≤ 3 ∧ validS c.name ∧ chkE c.ex = 0) : Spec Tryz.prog 153 [v] X fun u _ => u = .string ⟨(linesL cs).toArray⟩ := by
  obtain ⟨rows, hr, hrl, hrow⟩ := h
  obtain ⟨A, cp, rfl⟩ := hr.form
  have hvs : ∀ c ∈ cs, c.name.size ≤ 12 := fun c hc => (hok c hc).2.2.1.2.1
  refine Spec.enter Tryz.func153 rfl Tryz.ntmps153 rfl ?_
  intro w0 hw0
  refine T.seq <| T.region <| SL.as rfl <| SL.nil <| T.seq <| T.region <| SL.w (op_alloc z192) ?_
  rintro _ _ _ ⟨B3, rfl, rfl, rfl⟩
  refine SL.nil <| T.seq <| T.seq <| T.region <| SL.mv rfl <| SL.v (op_lenS Tryz.underlying119 rfl) <| SL.v (op_move (v := .int .i64 ((0 : Nat) : Int)) rfl) <| SL.nil <| T.block <| T.loopW (fun m env own X' => ∃ (i : Nat) (p s : Value) (G : Own), m = rows.length - i ∧ i ≤ rows.length ∧ X.le X' ∧ (p = .pointer none ∨ p = .pointer (some ⟨B3, 0, none⟩)) ∧ BufG (linesL (cs.take i)) s G ∧ env = [(3, .pointer (some ⟨B3, 0, none⟩)), (8, .slice A rows.length cp), (9, .int .i64 (rows.length : Int)), (10, .int .i64 (i : Int))] ∧ own = (BldO B3 p s :: G) ++ []) rows.length ⟨0, _, _, [], by simp, by omega, PMap.le_refl _, .inl rfl, GrowS.nil, rfl, rfl⟩ (by repeat (first | exact Sub.nil | refine Sub.cons rfl ?_)) ?_
  rintro m _ _ X1 ⟨i, p, s, G, rfl, hi, hX1, hp, hG, rfl, rfl⟩
  have hlt := linesL_len (cs := cs.take i) fun c hc => hvs c (List.mem_of_mem_take hc)
  have hwt := wtC_take_le cs i
  have hlt2 : (cs.take i).length ≤ 40 := by rw [List.length_take]; omega
  rcases Nat.lt_or_ge i rows.length with hil | hil
  · obtain ⟨r2, hr2⟩ : ∃ r2, rows[i]? = some r2 := ⟨_, List.getElem?_eq_getElem hil⟩
    obtain ⟨c, hc2⟩ : ∃ c, cs[i]? = some c := ⟨_, List.getElem?_eq_getElem (by omega)⟩
    have hmc := List.mem_of_getElem? hc2
    have hrc := hrow i c r2 hc2 hr2
    obtain ⟨q1, q2, q3, q4⟩ := hok c hmc
    obtain ⟨bA, pre, rfl, hbA⟩ := hr.blk (by omega)
    obtain ⟨o8, n8, a8, b8, l8, c8, l9, c9, rfl⟩ := hrc.form
    have hex := hrc.2.2.2
    simp only at hex
    have hts := text_size c.ex
    have hwe := hww c hmc
    have hls := lineB_size (hvs c hmc)
    have hk3 := strsC_at (kind_at q1 q2)
    have hks := kindB_size c.kind
    have hms := modeB_size c
    have hnz := q3.2.1
    have k1 : (⟨#[58, 32]⟩ : ByteArray).size = 2 := rfl
    have k2 : (⟨#[59, 10]⟩ : ByteArray).size = 2 := rfl
    have k3 : (⟨#[101, 110, 102, 111, 114, 99, 101, 32]⟩ : ByteArray).size = 8 := rfl
    have k4 : (⟨#[100, 101, 99, 108, 97, 114, 101, 32]⟩ : ByteArray).size = 8 := rfl
    have htk := take_snoc hc2
    refine T.seq <| T.region <| SL.v (op_lssT rfl rfl (by omega)) ?_
    refine SL.nil <| T.seq <| T.condT rfl <| T.skip <| T.seq <| T.block <| T.seq <| T.region <| SL.v (op_indexN Tryz.underlying119 ty123 rfl rfl (by omega)) ?_
    refine SL.v (op_loadX ty123 rfl (hbA.mono hX1) (row_read rc7_len hr2 (by omega))) ?_
    refine SL.w (op_alloc z123) ?_
    rintro _ _ _ ⟨B5, rfl, rfl, rfl⟩
    refine SL.w (op_store ty123 rfl rfl (by repeat constructor) rfl rfl rfl) ?_
    rintro _ _ _ ⟨rfl, rfl⟩
    refine SL.nil <| T.seq <| T.region <| SL.as rfl <| SL.nil <| T.seq <| T.meet (fun _ env own X' => X1.le X' ∧ env = [(3, .pointer (some ⟨B3, 0, none⟩)), (5, .pointer (some ⟨B5, 0, none⟩)), (6, .string (modeB c)), (8, .slice (some ⟨bA, pre.length, none⟩) rows.length cp), (9, .int .i64 (rows.length : Int)), (10, .int .i64 (i : Int))] ∧ own = ⟨B5, rc7 (c.enf, c.kind, c.name, .int .u8 (o8 : Int), .int .i64 n8, .slice a8 l8 c8, .slice b8 l9 c9), 123, 7⟩ :: ((BldO B3 p s :: G) ++ [])) ?_ ?_
    · cases hce : c.enf with
      | true =>
        have e : modeB c = ⟨#[101, 110, 102, 111, 114, 99, 101, 32]⟩ := by rw [modeB, hce]; rfl
        rw [e]
        refine T.seq <| T.region <| SL.v (op_fieldAddr fa123_0 rfl) <| SL.v (op_load ty4 rfl (by repeat constructor) rfl) ?_
        refine SL.nil <| T.condT rfl <| T.region <| SL.as rfl <| SL.nil ?_
        exact T.backW 0 (by omega) ⟨PMap.le_refl _, rfl, rfl⟩ (by repeat (first | exact Sub.nil | refine Sub.cons rfl ?_))
      | false =>
        have e : modeB c = ⟨#[100, 101, 99, 108, 97, 114, 101, 32]⟩ := by rw [modeB, hce]; rfl
        rw [e]
        refine T.seq <| T.region <| SL.v (op_fieldAddr fa123_0 rfl) <| SL.v (op_load ty4 rfl (by repeat constructor) rfl) ?_
        refine SL.nil <| T.condF rfl <| T.skip ?_
        exact T.backW 0 (by omega) ⟨PMap.le_refl _, rfl, rfl⟩ (by repeat (first | exact Sub.nil | refine Sub.cons rfl ?_))
    rintro _ _ _ X2 ⟨hX2, rfl, rfl⟩
    refine T.seq <| T.region <| SL.w (op_buildSlice Tryz.underlying59 bs9 (qs := [(0, _), (1, _), (2, _)]) rfl rfl rfl rfl rfl) ?_
    rintro _ _ _ ⟨B16, rfl, rfl, rfl⟩
    refine SL.v (op_fieldAddr fa123_1 rfl) <| SL.v (op_load ty41 rfl (by repeat constructor) rfl) ?_
    refine SL.v (op_subW rfl rfl) ?_
    rw [wrapK q1 q2]
    refine SL.v (op_indexN Tryz.underlying59 ty9 rfl rfl (by omega)) ?_
    refine SL.v (op_load ty9 rfl (by repeat constructor) (cread1k' hk3 (by omega))) ?_
    refine SL.as rfl <| SL.nil <| T.drawG (own0 := [_, _]) (by kernel_rfl) 13 [.t 0, .t 1, .t 2, .t 3, .t 4, .t 5, .t 6, .t 7, .t 8, .r 9, .t 10, .t 11, .r 12] (by kernel_rfl) ?_
    refine SD.take rfl panicBody (op_move rfl) rfl rfl ?_
    refine SD.take rfl panicBody (op_move rfl) rfl rfl ?_
    refine SD.take rfl panicBody (op_addStr rfl rfl (by first | omega | (simp only [ByteArray.size_append]; omega))) rfl rfl ?_
    refine SD.take rfl panicBody (op_fieldAddr fa123_2 rfl) rfl rfl ?_
    refine SD.take rfl panicBody (op_load ty9 rfl (by repeat constructor) rfl) rfl rfl ?_
    refine SD.take rfl panicBody (op_addStr rfl rfl (by first | omega | (simp only [ByteArray.size_append]; omega))) rfl rfl ?_
    refine SD.take rfl panicBody (op_addStr rfl rfl (by first | omega | (simp only [ByteArray.size_append]; omega))) rfl rfl ?_
    refine SD.take rfl panicBody (op_fieldAddr fa123_3 rfl) rfl rfl ?_
    refine SD.take rfl panicBody (op_load ty70 rfl (by repeat constructor) rfl) rfl rfl ?_
    refine SD.run rfl (op_callF en185 (vs := [_]) rfl (etext_spec _ ((hI.mono hX1).mono hX2) (Nat.le_refl _) (by omega) (chkE_node q4) (hn c hmc) ((hex.mono hX1).mono hX2))) rfl rfl ?_
    rintro _ _ X3 ⟨rfl, hX3, rfl⟩
    refine SD.take rfl panicBody (op_addStr rfl rfl (by first | omega | (simp only [ByteArray.size_append]; omega))) rfl rfl ?_
    refine SD.take rfl panicBody (op_addStr rfl rfl (by first | omega | (simp only [ByteArray.size_append]; omega))) rfl rfl ?_
    refine SD.perm (perm2a (L := BldO B3 p s :: G)) ?_
    refine SD.runK rfl (op_callM en108 (vs := [_, _]) rfl (writeStr_spec (t := lineB c) hp hG (by omega) (by omega) hls.1) rfl) (by rintro _ _ _ ⟨L', rfl, hX, _⟩; exact ⟨fun p hp => List.mem_append_right _ hp, hX3.trans' hX⟩) rfl rfl ?_
    rintro _ _ X4 ⟨_, rfl, hX4, rfl, s4, G4, rfl, hG4⟩
    refine SD.nil ?_
    show SL _ _ _ _ _ _ _ [] _ _ _
    refine SL.nil <| T.blk <| T.region <| SL.v (op_addN (q := 1) rfl rfl (by omega)) ?_
    refine SL.mv rfl <| SL.nil <| T.less (List.Sublist.append_left (List.nil_sublist _) _) ?_
    rw [← linesL_snoc, ← htk] at hG4
    exact T.backW (rows.length - (i + 1)) (by omega) ⟨i + 1, _, _, _, rfl, by omega, ((hX1.trans' hX2).trans' hX3).trans' hX4, .inr rfl, hG4, rfl, rfl⟩ (by repeat (first | exact Sub.nil | refine Sub.cons rfl ?_))
  · obtain rfl : i = rows.length := by omega
    have e : cs.take rows.length = cs := List.take_of_length_le (by omega)
    rw [e] at hG hlt
    have hne : linesL cs ≠ [] := by
      obtain ⟨c, l, rfl⟩ : ∃ c l, cs = c :: l := by
        cases cs with
        | nil => simp at h0
        | cons c l => exact ⟨c, l, rfl⟩
      intro h
      have := (lineB_size (hvs c (by simp))).1
      have e : (lineB c).data.toList.length = (lineB c).size := by simp
      have h2 := congrArg List.length h
      simp only [linesL, List.map_cons, List.flatten_cons, List.length_append, List.length_nil] at h2
      omega
    refine T.seq <| T.region <| SL.v (op_lssF rfl rfl (by omega)) ?_
    refine SL.nil <| T.seq <| T.condF rfl ?_
    refine T.exit (T.exitCode (T.exitCut (T.exitBlk ?_)))
    refine T.seq <| T.region <| SL.w (op_callM en110 (vs := [_]) rfl (builderString_spec hG hne (by omega)) rfl) ?_
    rintro _ _ X5 ⟨_, rfl, hX5, rfl, rfl⟩
    refine SL.as rfl <| SL.nil <| T.ret1 rfl (ResIs.tmp rfl) ?_
    rfl
end Go.Proofs.YtnpcilglilfajaaGreatDoor
namespace Go.Proofs.YtnpcilglilfajaaGreatDoor
open Go.RowKit
section
variable {P : Program} {n : NM} {w0 : Base} {X0 X : PMap} {own : Own} {env : Env}
/-- string(b) of bytes that are known. -/
theorem op_strBytes {src dst e : TypeId} {x : Operand} {a : Addr} {cap : Nat} {l : List UInt8} (hs : P.underlying src = some (.slice e)) (he : P.underlying e = some (.int .u8)) (hd : P.underlying dst = some .string)
    (hx : eev env x = some (.slice (some a) l.length cap)) (hc : ∀ W, Stab own X W → ∀ j (hj : j < l.length), W.cell? (a.add j) = some (.int .u8 (l[j].toNat : Int))) : OpY P n env own X (.convert src dst x) (.string ⟨l.toArray⟩) := by
  intro A W oper hop ha hst
  have hr := run_convert_bytes_back (P := P) W src dst e a cap l hs he hd (hc W hst)
  simp only [execOp, hop, ha.eval hx, Sem.run_bind, Sem.run_pure, Result.andThen_ok, hr]
/-- string([]byte{c}). -/
theorem op_str1 {src dst e ty : TypeId} {x : Operand} {b cap sz j : Nat} {c : UInt8} (hs : P.underlying src = some (.slice e)) (he : P.underlying e = some (.int .u8)) (hd : P.underlying dst = some .string)
    (hx : eev env x = some (.slice (some ⟨b, 0, none⟩) 1 cap)) (ho : AtO own b [.int .u8 (c.toNat : Int)] ty sz j) : OpY P n env own X (.convert src dst x) (.string ⟨#[c]⟩) :=
  op_strBytes (l := [c]) hs he hd hx fun W hst j hj => by
    obtain rfl : j = 0 := by simpa using hj
    exact (hst.own _ ho.mem).cell rfl
end
end Go.Proofs.YtnpcilglilfajaaGreatDoor
namespace Go.Proofs.YtnpcilglilfajaaGreatDoor
section
set_option maxRecDepth 100000
theorem en103 : Enters Tryz.prog 103 := enters_mk Tryz.func103 (by kernel_rfl) rfl
theorem en187 : Enters Tryz.prog 187 := enters_mk Tryz.func187 (by kernel_rfl) rfl
theorem en204 : Enters Tryz.prog 204 := enters_mk Tryz.func204 (by kernel_rfl) rfl
theorem en205 : Enters Tryz.prog 205 := enters_mk Tryz.func205 (by kernel_rfl) rfl
theorem en206 : Enters Tryz.prog 206 := enters_mk Tryz.func206 (by kernel_rfl) rfl
end
open Go.RowKit
theorem binds_spec {X : PMap} {op : Nat} : Spec Tryz.prog 206 [.int .i64 (op : Int)] X fun u _ => u = .int .i64 (strN op : Int) := by
  by_cases h1 : op = 10
  · refine Spec.enter Tryz.func206 rfl Tryz.ntmps206 rfl ?_
    intro w0 hw0
    refine T.seq <| T.region <| SL.v (op_assign (v := .int .i64 ((0 : Nat) : Int)) rfl) <| SL.nil <| T.seq <| T.block <| T.seq <| T.region <| SL.mv rfl <| SL.v (op_eqlT rfl rfl (by omega)) ?_
    refine SL.as rfl <| SL.nil <| T.condT rfl <| T.seq <| T.region <| SL.v (op_assign (v := .int .i64 ((1 : Nat) : Int)) rfl) <| SL.nil <| T.ret1 rfl (ResIs.tmp rfl) ?_
    rw [strN, if_pos h1]
  by_cases h2 : op = 9
  · refine Spec.enter Tryz.func206 rfl Tryz.ntmps206 rfl ?_
    intro w0 hw0
    refine T.seq <| T.region <| SL.v (op_assign (v := .int .i64 ((0 : Nat) : Int)) rfl) <| SL.nil <| T.seq <| T.block <| T.seq <| T.region <| SL.mv rfl <| SL.v (op_eqlF rfl rfl (by omega)) ?_
    refine SL.as rfl <| SL.nil <| T.condF rfl <| T.seq <| T.region <| SL.mv rfl <| SL.v (op_eqlT rfl rfl (by omega)) ?_
    refine SL.as rfl <| SL.nil <| T.condT rfl <| T.seq <| T.region <| SL.v (op_assign (v := .int .i64 ((2 : Nat) : Int)) rfl) <| SL.nil <| T.ret1 rfl (ResIs.tmp rfl) ?_
    rw [strN, if_neg h1, if_pos h2]
  by_cases h3 : op = 8
  · refine Spec.enter Tryz.func206 rfl Tryz.ntmps206 rfl ?_
    intro w0 hw0
    refine T.seq <| T.region <| SL.v (op_assign (v := .int .i64 ((0 : Nat) : Int)) rfl) <| SL.nil <| T.seq <| T.block <| T.seq <| T.region <| SL.mv rfl <| SL.v (op_eqlF rfl rfl (by omega)) ?_
    refine SL.as rfl <| SL.nil <| T.condF rfl <| T.seq <| T.region <| SL.mv rfl <| SL.v (op_eqlF rfl rfl (by omega)) ?_
    refine SL.as rfl <| SL.nil <| T.condF rfl <| T.seq <| T.region <| SL.mv rfl <| SL.v (op_eqlT rfl rfl (by omega)) ?_
    refine SL.as rfl <| SL.nil <| T.condT rfl <| T.seq <| T.region <| SL.v (op_assign (v := .int .i64 ((3 : Nat) : Int)) rfl) <| SL.nil <| T.ret1 rfl (ResIs.tmp rfl) ?_
    rw [strN, if_neg h1, if_neg h2, if_pos h3]
  by_cases h4 : op = 7
  · refine Spec.enter Tryz.func206 rfl Tryz.ntmps206 rfl ?_
    intro w0 hw0
    refine T.seq <| T.region <| SL.v (op_assign (v := .int .i64 ((0 : Nat) : Int)) rfl) <| SL.nil <| T.seq <| T.block <| T.seq <| T.region <| SL.mv rfl <| SL.v (op_eqlF rfl rfl (by omega)) ?_
    refine SL.as rfl <| SL.nil <| T.condF rfl <| T.seq <| T.region <| SL.mv rfl <| SL.v (op_eqlF rfl rfl (by omega)) ?_
    refine SL.as rfl <| SL.nil <| T.condF rfl <| T.seq <| T.region <| SL.mv rfl <| SL.v (op_eqlF rfl rfl (by omega)) ?_
    refine SL.as rfl <| SL.nil <| T.condF rfl <| T.seq <| T.region <| SL.mv rfl <| SL.v (op_eqlT rfl rfl (by omega)) ?_
    refine SL.as rfl <| SL.nil <| T.condT rfl <| T.seq <| T.region <| SL.v (op_assign (v := .int .i64 ((4 : Nat) : Int)) rfl) <| SL.nil <| T.ret1 rfl (ResIs.tmp rfl) ?_
    rw [strN, if_neg h1, if_neg h2, if_neg h3, if_pos h4]
  by_cases h5 : 11 ≤ op ∧ op ≤ 15
  · obtain ⟨g1, g2⟩ := h5
    refine Spec.enter Tryz.func206 rfl Tryz.ntmps206 rfl ?_
    intro w0 hw0
    refine T.seq <| T.region <| SL.v (op_assign (v := .int .i64 ((0 : Nat) : Int)) rfl) <| SL.nil <| T.seq <| T.block <| T.seq <| T.region <| SL.mv rfl <| SL.v (op_eqlF rfl rfl (by omega)) ?_
    refine SL.as rfl <| SL.nil <| T.condF rfl <| T.seq <| T.region <| SL.mv rfl <| SL.v (op_eqlF rfl rfl (by omega)) ?_
    refine SL.as rfl <| SL.nil <| T.condF rfl <| T.seq <| T.region <| SL.mv rfl <| SL.v (op_eqlF rfl rfl (by omega)) ?_
    refine SL.as rfl <| SL.nil <| T.condF rfl <| T.seq <| T.region <| SL.mv rfl <| SL.v (op_eqlF rfl rfl (by omega)) ?_
    refine SL.as rfl <| SL.nil <| T.condF rfl <| T.seq <| T.region <| SL.mv rfl <| SL.v (op_geqT rfl rfl (by omega)) ?_
    refine SL.mv rfl <| SL.mv rfl <| SL.v (op_leqT rfl rfl (by omega)) ?_
    refine SL.v (op_pickT rfl rfl) <| SL.as rfl <| SL.nil <| T.condT rfl <| T.seq <| T.region <| SL.v (op_assign (v := .int .i64 ((5 : Nat) : Int)) rfl) <| SL.nil <| T.ret1 rfl (ResIs.tmp rfl) ?_
    rw [strN, if_neg h1, if_neg h2, if_neg h3, if_neg h4, if_pos ⟨g1, g2⟩]
  by_cases h6 : op = 16
  · refine Spec.enter Tryz.func206 rfl Tryz.ntmps206 rfl ?_
    intro w0 hw0
    refine T.seq <| T.region <| SL.v (op_assign (v := .int .i64 ((0 : Nat) : Int)) rfl) <| SL.nil <| T.seq <| T.block <| T.seq <| T.region <| SL.mv rfl <| SL.v (op_eqlF rfl rfl (by omega)) ?_
    refine SL.as rfl <| SL.nil <| T.condF rfl <| T.seq <| T.region <| SL.mv rfl <| SL.v (op_eqlF rfl rfl (by omega)) ?_
    refine SL.as rfl <| SL.nil <| T.condF rfl <| T.seq <| T.region <| SL.mv rfl <| SL.v (op_eqlF rfl rfl (by omega)) ?_
    refine SL.as rfl <| SL.nil <| T.condF rfl <| T.seq <| T.region <| SL.mv rfl <| SL.v (op_eqlF rfl rfl (by omega)) ?_
    refine SL.as rfl <| SL.nil <| T.condF rfl <| T.seq <| T.region <| SL.mv rfl <| SL.v (op_geqT rfl rfl (by omega)) ?_
    refine SL.mv rfl <| SL.mv rfl <| SL.v (op_leqF rfl rfl (by omega)) ?_
    refine SL.v (op_pickT rfl rfl) <| SL.as rfl <| SL.nil <| T.condF rfl <| T.seq <| T.region <| SL.mv rfl <| SL.v (op_eqlT rfl rfl (by omega)) ?_
    refine SL.as rfl <| SL.nil <| T.condT rfl <| T.seq <| T.region <| SL.v (op_assign (v := .int .i64 ((6 : Nat) : Int)) rfl) <| SL.nil <| T.ret1 rfl (ResIs.tmp rfl) ?_
    rw [strN, if_neg h1, if_neg h2, if_neg h3, if_neg h4, if_neg h5, if_pos h6]
  by_cases h7 : 11 ≤ op
  · have h8 : ¬op ≤ 15 := fun h => h5 ⟨h7, h⟩
    refine Spec.enter Tryz.func206 rfl Tryz.ntmps206 rfl ?_
    intro w0 hw0
    refine T.seq <| T.region <| SL.v (op_assign (v := .int .i64 ((0 : Nat) : Int)) rfl) <| SL.nil <| T.seq <| T.block <| T.seq <| T.region <| SL.mv rfl <| SL.v (op_eqlF rfl rfl (by omega)) ?_
    refine SL.as rfl <| SL.nil <| T.condF rfl <| T.seq <| T.region <| SL.mv rfl <| SL.v (op_eqlF rfl rfl (by omega)) ?_
    refine SL.as rfl <| SL.nil <| T.condF rfl <| T.seq <| T.region <| SL.mv rfl <| SL.v (op_eqlF rfl rfl (by omega)) ?_
    refine SL.as rfl <| SL.nil <| T.condF rfl <| T.seq <| T.region <| SL.mv rfl <| SL.v (op_eqlF rfl rfl (by omega)) ?_
    refine SL.as rfl <| SL.nil <| T.condF rfl <| T.seq <| T.region <| SL.mv rfl <| SL.v (op_geqT rfl rfl (by omega)) ?_
    refine SL.mv rfl <| SL.mv rfl <| SL.v (op_leqF rfl rfl (by omega)) ?_
    refine SL.v (op_pickT rfl rfl) <| SL.as rfl <| SL.nil <| T.condF rfl <| T.seq <| T.region <| SL.mv rfl <| SL.v (op_eqlF rfl rfl (by omega)) ?_
    refine SL.as rfl <| SL.nil <| T.condF rfl <| T.skip <| T.blk <| T.seq <| T.region <| SL.v (op_assign (v := .int .i64 ((7 : Nat) : Int)) rfl) <| SL.nil <| T.ret1 rfl (ResIs.tmp rfl) ?_
    rw [strN, if_neg h1, if_neg h2, if_neg h3, if_neg h4, if_neg h5, if_neg h6]
  · refine Spec.enter Tryz.func206 rfl Tryz.ntmps206 rfl ?_
    intro w0 hw0
    refine T.seq <| T.region <| SL.v (op_assign (v := .int .i64 ((0 : Nat) : Int)) rfl) <| SL.nil <| T.seq <| T.block <| T.seq <| T.region <| SL.mv rfl <| SL.v (op_eqlF rfl rfl (by omega)) ?_
    refine SL.as rfl <| SL.nil <| T.condF rfl <| T.seq <| T.region <| SL.mv rfl <| SL.v (op_eqlF rfl rfl (by omega)) ?_
    refine SL.as rfl <| SL.nil <| T.condF rfl <| T.seq <| T.region <| SL.mv rfl <| SL.v (op_eqlF rfl rfl (by omega)) ?_
    refine SL.as rfl <| SL.nil <| T.condF rfl <| T.seq <| T.region <| SL.mv rfl <| SL.v (op_eqlF rfl rfl (by omega)) ?_
    refine SL.as rfl <| SL.nil <| T.condF rfl <| T.seq <| T.region <| SL.mv rfl <| SL.v (op_geqF rfl rfl (by omega)) ?_
    refine SL.mv rfl <| SL.skip rfl rfl ?_
    refine SL.skip rfl rfl ?_
    refine SL.v (op_pickF rfl rfl) <| SL.as rfl <| SL.nil <| T.condF rfl <| T.seq <| T.region <| SL.mv rfl <| SL.v (op_eqlF rfl rfl (by omega)) ?_
    refine SL.as rfl <| SL.nil <| T.condF rfl <| T.skip <| T.blk <| T.seq <| T.region <| SL.v (op_assign (v := .int .i64 ((7 : Nat) : Int)) rfl) <| SL.nil <| T.ret1 rfl (ResIs.tmp rfl) ?_
    rw [strN, if_neg h1, if_neg h2, if_neg h3, if_neg h4, if_neg h5, if_neg h6]
theorem nil_bytes (s : ByteArray) : (⟨#[]⟩ : ByteArray) ++ s = s := by
  apply ByteArray.ext
  simp
theorem bytes_nil (s : ByteArray) : s ++ (⟨#[]⟩ : ByteArray) = s := by
  apply ByteArray.ext
  simp
theorem joinG_snoc : ∀ (l : List ByteArray) (s : ByteArray), l ≠ [] → joinG (l ++ [s]) = joinG l ++ [44, 32] ++ s.data.toList
  | a :: l, s, _ => by simp [joinG]
theorem joinB_snoc (l : List ByteArray) (s : ByteArray) (h : l ≠ []) : joinB (l ++ [s]) = joinB l ++ ⟨#[44, 32]⟩ ++ s := by
  apply ByteArray.ext
  simp [joinB, joinG_snoc l s h]
theorem joinB_one (s : ByteArray) : joinB [s] = ⟨#[]⟩ ++ s := by
  apply ByteArray.ext
  simp [joinB, joinG]
theorem wtS_take (l : List ByteArray) (i : Nat) : wtS (l.take i) ≤ wtS l := by
  have : wtS (l.take i ++ l.drop i) = wtS (l.take i) + wtS (l.drop i) := by simp only [wtS, List.map_append, List.sum_append]
  rw [List.take_append_drop] at this; omega
theorem joined_spec {X : PMap} {v : Value} {l : List ByteArray} (h : RowR strC X v l) (hl : wtS l < 1000000) : Spec Tryz.prog 204 [v] X fun u _ => u = .string (joinB l) := by
  obtain ⟨A, cp, rfl⟩ := h.form
  have hmx : maxLen = 9223372036854775807 := rfl
  have hln := wtS_len l
  have k1 : (⟨#[44, 32]⟩ : ByteArray).size = 2 := rfl
  refine Spec.enter Tryz.func204 rfl Tryz.ntmps204 rfl ?_
  intro w0 hw0
  refine T.seq <| T.region <| SL.as rfl <| SL.nil <| T.seq <| T.region <| SL.as rfl <| SL.nil <| T.seq <| T.seq <| T.region <| SL.mv rfl <| SL.v (op_lenS Tryz.underlying59 rfl) <| SL.v (op_move (v := .int .i64 ((0 : Nat) : Int)) rfl) <| SL.nil ?_
  refine T.block <| T.loopW (fun m env own X' => ∃ i : Nat, m = l.length - i ∧ i ≤ l.length ∧ X.le X' ∧ env = [(3, .string (joinB (l.take i))), (6, .slice A l.length cp), (7, .int .i64 (l.length : Int)), (8, .int .i64 (i : Int))] ∧ own = []) l.length ⟨0, by simp, by omega, PMap.le_refl _, rfl, rfl⟩ (by repeat (first | exact Sub.nil | refine Sub.cons rfl ?_)) ?_
  rintro m _ _ X1 ⟨i, rfl, hi, hX1, rfl, rfl⟩
  rcases Nat.lt_or_ge i l.length with hil | hil
  · obtain ⟨x, hx⟩ : ∃ x, l[i]? = some x := ⟨_, List.getElem?_eq_getElem hil⟩
    obtain ⟨b, pre, rfl, hB⟩ := h.blk (by omega)
    have hts := take_snoc hx
    have hj := joinB_size (l.take i)
    have hw := wtS_take l i
    have hxs := wtS_mem (List.mem_of_getElem? hx)
    have k0 : (⟨#[]⟩ : ByteArray).size = 0 := rfl
    rcases Nat.eq_zero_or_pos i with h0 | h0
    · subst h0
      rw [show l.take 0 = [] from rfl, show joinB [] = ⟨#[]⟩ from rfl]
      rw [show l.take 0 = [] from rfl, List.nil_append] at hts
      refine T.seq <| T.region <| SL.v (op_lssT rfl rfl (by omega)) ?_
      refine SL.nil <| T.seq <| T.condT rfl <| T.skip <| T.seq <| T.block <| T.seq <| T.region <| SL.mv rfl <| SL.v (op_indexN Tryz.underlying59 ty9 rfl rfl (by omega)) ?_
      refine SL.v (op_loadX ty9 rfl (hB.mono hX1) (str_read hx (by omega))) ?_
      refine SL.as rfl <| SL.as rfl <| SL.nil <| T.seq <| T.seq <| T.region <| SL.mv rfl <| SL.v (op_gtrF rfl rfl (by omega)) ?_
      refine SL.nil <| T.condF rfl <| T.skip <| T.region <| SL.mv rfl <| SL.mv rfl <| SL.v (op_addStr rfl rfl (by first | omega | (simp only [ByteArray.size_append]; omega))) ?_
      refine SL.as rfl <| SL.nil <| T.blk <| T.region <| SL.v (op_addN (q := 1) rfl rfl (by omega)) ?_
      refine SL.mv rfl <| SL.nil ?_
      exact T.backW (l.length - (0 + 1)) (by omega) ⟨0 + 1, rfl, by omega, hX1, by rw [hts, joinB_one], rfl⟩ (by repeat (first | exact Sub.nil | refine Sub.cons rfl ?_))
    · have hne : l.take i ≠ [] := fun e => by have := congrArg List.length e; rw [List.length_take, List.length_nil] at this; omega
      refine T.seq <| T.region <| SL.v (op_lssT rfl rfl (by omega)) ?_
      refine SL.nil <| T.seq <| T.condT rfl <| T.skip <| T.seq <| T.block <| T.seq <| T.region <| SL.mv rfl <| SL.v (op_indexN Tryz.underlying59 ty9 rfl rfl (by omega)) ?_
      refine SL.v (op_loadX ty9 rfl (hB.mono hX1) (str_read hx (by omega))) ?_
      refine SL.as rfl <| SL.as rfl <| SL.nil <| T.seq <| T.seq <| T.region <| SL.mv rfl <| SL.v (op_gtrT rfl rfl (by omega)) ?_
      refine SL.nil <| T.condT rfl <| T.region <| SL.mv rfl <| SL.v (op_addStr rfl rfl (by first | omega | (simp only [ByteArray.size_append]; omega))) ?_
      refine SL.as rfl <| SL.nil <| T.region <| SL.mv rfl <| SL.mv rfl <| SL.v (op_addStr rfl rfl (by first | omega | (simp only [ByteArray.size_append]; omega))) ?_
      refine SL.as rfl <| SL.nil <| T.blk <| T.region <| SL.v (op_addN (q := 1) rfl rfl (by omega)) ?_
      refine SL.mv rfl <| SL.nil ?_
      exact T.backW (l.length - (i + 1)) (by omega) ⟨i + 1, rfl, by omega, hX1, by rw [hts, joinB_snoc _ _ hne], rfl⟩ (by repeat (first | exact Sub.nil | refine Sub.cons rfl ?_))
  · obtain rfl : i = l.length := by omega
    rw [List.take_length]
    refine T.seq <| T.region <| SL.v (op_lssF rfl rfl (by omega)) ?_
    refine SL.nil <| T.seq <| T.condF rfl ?_
    refine T.exit (T.exitCode (T.exitCut (T.exitBlk ?_)))
    refine T.seq <| T.region <| SL.mv rfl <| SL.as rfl <| SL.nil <| T.ret1 rfl (ResIs.tmp rfl) ?_
    rfl
theorem decG_more : ∀ (f g v : Nat), v < 10 ^ f → 0 < f → f ≤ g → decG g v = decG f v
  | 0, _, _, _, h, _ => by omega
  | f + 1, 0, _, _, _, h => by omega
  | f + 1, g + 1, v, h, _, hg => by
    rw [decG, decG]
    by_cases hv : v < 10
    · rw [if_pos hv, if_pos hv]
    · have h1 : v / 10 < 10 ^ f := by rw [Nat.pow_succ] at h; omega
      have hf0 : 0 < f := Nat.pos_of_ne_zero fun e => by subst e; simp at h1; omega
      rw [if_neg hv, if_neg hv, decG_more f g _ h1 hf0 (by omega)]
theorem decB_step {v : Nat} (hv : v ≤ 999999999) (h0 : 10 ≤ v) : decB v = decB (v / 10) ++ ⟨#[UInt8.ofNat (48 + v % 10)]⟩ := by
  apply ByteArray.ext
  have e : decG 20 v = decG 19 (v / 10) ++ [UInt8.ofNat (48 + v % 10)] := by rw [decG, if_neg (by omega)]
  have e2 := decG_more 19 20 (v / 10) (by omega) (by omega) (by omega)
  simp [decB, e, e2]
theorem decB_digit {v : Nat} (h : v < 10) : decB v = ⟨#[UInt8.ofNat (48 + v)]⟩ := by rw [decB, decG, if_pos h]
theorem dec_spec {X : PMap} {v : Nat} (hv : v ≤ 999999999) : Spec Tryz.prog 103 [.int .i64 (v : Int)] X fun u _ => u = .string (decB v) := by
  have hmx : maxLen = 9223372036854775807 := rfl
  refine Spec.enter Tryz.func103 rfl Tryz.ntmps103 rfl ?_
  intro w0 hw0
  refine T.seq <| T.region <| SL.as rfl <| SL.nil <| T.seq <| T.region <| SL.as rfl <| SL.nil <| T.seq <| T.block <| T.loopW (fun m env own X' => ∃ (q : Nat) (s : ByteArray), q ≤ v ∧ ((s = ⟨#[]⟩ ∧ q = v ∧ m = v + 1) ∨ (s.size ≠ 0 ∧ m = q ∧ s.size ≤ 20 + v - q ∧ decB v = (if q = 0 then ⟨#[]⟩ else decB q) ++ s)) ∧ X.le X' ∧ env = [(0, .int .i64 (q : Int)), (3, .string s)] ∧ own = []) (v + 1) ⟨v, _, Nat.le_refl _, .inl ⟨rfl, rfl, rfl⟩, PMap.le_refl _, rfl, rfl⟩ (by repeat (first | exact Sub.nil | refine Sub.cons rfl ?_)) ?_
  rintro m _ _ X1 ⟨q, s, hq, hs, hX1, rfl, rfl⟩
  have step : ∀ (_ : s = ⟨#[]⟩ ∧ q = v ∨ 0 < q ∧ s.size ≠ 0 ∧ decB v = decB q ++ s), decB v = (if q / 10 = 0 then ⟨#[]⟩ else decB (q / 10)) ++ (⟨#[UInt8.ofNat (48 + q % 10)]⟩ ++ s) := by
    have base : decB q = (if q / 10 = 0 then ⟨#[]⟩ else decB (q / 10)) ++ ⟨#[UInt8.ofNat (48 + q % 10)]⟩ := by
      by_cases h10 : q < 10
      · rw [if_pos (by omega), decB_digit h10, Nat.mod_eq_of_lt h10, nil_bytes]
      · rw [if_neg (by omega), decB_step (by omega) (by omega)]
    rintro (⟨rfl, rfl⟩ | ⟨h1, h2, h3⟩)
    · rw [base, bytes_nil]
    · rw [h3, base, ByteArray.append_assoc]
  have k1 : (⟨#[UInt8.ofNat (48 + q % 10)]⟩ : ByteArray).size = 1 := rfl
  have hq10 : q % 10 < 10 := Nat.mod_lt _ (by omega)
  have kc : ((UInt8.ofNat (48 + q % 10)).toNat : Int) = ((48 + q % 10 : Nat) : Int) := by
    rw [UInt8.toNat_ofNat']; omega
  have hsz : s.size ≤ 20 + v - q := by
    rcases hs with ⟨rfl, rfl, _⟩ | ⟨_, _, h, _⟩
    · exact Nat.zero_le _
    · exact h
  have hsz2 : (⟨#[UInt8.ofNat (48 + q % 10)]⟩ ++ s : ByteArray).size = s.size + 1 := by rw [ByteArray.size_append, k1]; omega
  have hnew : ∀ _ : s = ⟨#[]⟩ ∧ q = v ∨ 0 < q ∧ s.size ≠ 0 ∧ decB v = decB q ++ s, (⟨#[UInt8.ofNat (48 + q % 10)]⟩ ++ s : ByteArray).size ≠ 0 ∧ q / 10 = q / 10 ∧ (⟨#[UInt8.ofNat (48 + q % 10)]⟩ ++ s : ByteArray).size ≤ 20 + v - q / 10 ∧ decB v = (if q / 10 = 0 then ⟨#[]⟩ else decB (q / 10)) ++ (⟨#[UInt8.ofNat (48 + q % 10)]⟩ ++ s) := fun h => by
    refine ⟨by omega, rfl, ?_, step h⟩
    rcases h with ⟨rfl, rfl⟩ | ⟨h1, _⟩
    · rw [hsz2]; show 0 + 1 ≤ _; omega
    · omega
  by_cases hemp : s = ⟨#[]⟩
  · subst hemp
    have hqv : q = v ∧ m = v + 1 := by
      rcases hs with ⟨_, h1, h2⟩ | ⟨h, _⟩
      · exact ⟨h1, h2⟩
      · exact absurd rfl h
    have hn := hnew (.inl ⟨rfl, hqv.1⟩)
    refine T.seq <| T.seq <| T.region <| SL.mv rfl <| SL.v (op_eqlStrD rfl rfl) <| SL.mv rfl <| SL.skip rfl rfl ?_
    refine SL.skip rfl rfl ?_
    refine SL.v (op_pickT rfl rfl) <| SL.nil ?_
    rw [decide_eq_true rfl]
    refine T.condT rfl <| T.skip <| T.block <| T.seq <| T.region <| SL.mv rfl <| SL.v (op_remN (q := 10) rfl rfl rfl (by decide)) ?_
    refine SL.v (op_addN (p := 48) rfl rfl (by omega)) ?_
    refine SL.v (op_convU8 Tryz.underlying3 Tryz.underlying5 rfl (by omega) (by omega)) ?_
    refine SL.w (op_buildSlice Tryz.underlying44 bs5 (qs := [(0, _)]) rfl rfl rfl rfl rfl) ?_
    rintro _ _ _ ⟨B14, rfl, rfl, rfl⟩
    refine SL.v (op_str1 (c := UInt8.ofNat (48 + q % 10)) Tryz.underlying44 Tryz.underlying5 Tryz.underlying9 rfl (by rw [← kc]; exact AtO.here)) ?_
    refine SL.mv rfl <| SL.v (op_addStr rfl rfl (by first | omega | (simp only [ByteArray.size_append]; omega))) ?_
    refine SL.as rfl <| SL.nil <| T.region <| SL.mv rfl <| SL.v (op_quoN (q := 10) rfl rfl rfl (by omega) (by decide)) ?_
    refine SL.as rfl <| SL.nil <| T.blk <| T.drop B14 (by repeat constructor) ?_
    exact T.backW (q / 10) (by omega) ⟨q / 10, _, by omega, .inr hn, hX1, rfl, rfl⟩ (by repeat (first | exact Sub.nil | refine Sub.cons rfl ?_))
  · have hs2 : s.size ≠ 0 ∧ m = q ∧ s.size ≤ 20 + v - q ∧ decB v = (if q = 0 then ⟨#[]⟩ else decB q) ++ s := by
      rcases hs with ⟨h, _⟩ | h
      · exact absurd h hemp
      · exact h
    obtain ⟨g1, rfl, g3, g4⟩ := hs2
    rcases Nat.eq_zero_or_pos m with h0 | h0
    · subst h0
      rw [if_pos rfl, nil_bytes] at g4
      refine T.seq <| T.seq <| T.region <| SL.mv rfl <| SL.v (op_eqlStrD rfl rfl) ?_
      rw [decide_eq_false hemp]
      refine SL.mv rfl <| SL.mv rfl <| SL.v (op_gtrF rfl rfl (by omega)) ?_
      refine SL.v (op_pickF rfl rfl) <| SL.nil <| T.condF rfl ?_
      refine T.exit (T.exitCode (T.exitCut (T.exitBlk ?_)))
      refine T.seq <| T.region <| SL.mv rfl <| SL.as rfl <| SL.nil <| T.ret1 rfl (ResIs.tmp rfl) ?_
      rw [g4]
    · have hn := hnew (.inr ⟨h0, g1, by rw [if_neg (by omega)] at g4; exact g4⟩)
      refine T.seq <| T.seq <| T.region <| SL.mv rfl <| SL.v (op_eqlStrD rfl rfl) ?_
      rw [decide_eq_false hemp]
      refine SL.mv rfl <| SL.mv rfl <| SL.v (op_gtrT rfl rfl (by omega)) ?_
      refine SL.v (op_pickF rfl rfl) <| SL.nil <| T.condT rfl <| T.skip <| T.block <| T.seq <| T.region <| SL.mv rfl <| SL.v (op_remN (q := 10) rfl rfl rfl (by decide)) ?_
      refine SL.v (op_addN (p := 48) rfl rfl (by omega)) ?_
      refine SL.v (op_convU8 Tryz.underlying3 Tryz.underlying5 rfl (by omega) (by omega)) ?_
      refine SL.w (op_buildSlice Tryz.underlying44 bs5 (qs := [(0, _)]) rfl rfl rfl rfl rfl) ?_
      rintro _ _ _ ⟨B14, rfl, rfl, rfl⟩
      refine SL.v (op_str1 (c := UInt8.ofNat (48 + m % 10)) Tryz.underlying44 Tryz.underlying5 Tryz.underlying9 rfl (by rw [← kc]; exact AtO.here)) ?_
      refine SL.mv rfl <| SL.v (op_addStr rfl rfl (by first | omega | (simp only [ByteArray.size_append]; omega))) ?_
      refine SL.as rfl <| SL.nil <| T.region <| SL.mv rfl <| SL.v (op_quoN (q := 10) rfl rfl rfl (by omega) (by decide)) ?_
      refine SL.as rfl <| SL.nil <| T.blk <| T.drop B14 (by repeat constructor) ?_
      exact T.backW (m / 10) (by omega) ⟨m / 10, _, by omega, .inr hn, hX1, rfl, rfl⟩ (by repeat (first | exact Sub.nil | refine Sub.cons rfl ?_))
theorem roperand_spec {X : PMap} {e : Ex} {r : Row4} {least : Nat} (hr : ExR .i64 X e r) (ht : ∀ {X' : PMap}, X.le X' → Spec Tryz.prog 187 [.agg #[r.1, r.2.1, r.2.2.1, r.2.2.2]] X' fun u _ => u = .string (textE e)) (hs : (textE e).size < 1000000000000) : Spec Tryz.prog 205 [.agg #[r.1, r.2.1, r.2.2.1, r.2.2.2], .int .i64 (least : Int)] X fun u _ => u = .string (parB (strN e.op) (textE e) least) := by
  have k1 : (⟨#[40]⟩ : ByteArray).size = 1 := rfl
  have k2 : (⟨#[41]⟩ : ByteArray).size = 1 := rfl
  cases hr with
  | @mk op n ns al vn va rows hn ha hl hr =>
  obtain ⟨Aa, ca, rfl⟩ := ha.form
  obtain ⟨An, cn, rfl⟩ := hn.form
  by_cases hc : strN op < least
  · refine Spec.enter Tryz.func205 rfl Tryz.ntmps205 rfl ?_
    intro w0 hw0
    refine T.seq <| T.region <| SL.w (op_box rfl) ?_
    rintro _ _ _ ⟨B2, rfl, rfl, rfl⟩
    refine SL.as rfl <| SL.nil <| T.seq <| T.seq <| T.region <| SL.v (op_fieldAddr fa62_0 rfl) <| SL.v (op_load ty3 rfl (by repeat constructor) rfl) ?_
    refine SL.w (op_callF en206 (vs := [_]) rfl (binds_spec (op := op))) ?_
    rintro _ _ X1 ⟨rfl, hX1, rfl⟩
    refine SL.mv rfl <| SL.v (op_lssT rfl rfl (by omega)) ?_
    refine SL.nil <| T.condT rfl <| T.seq <| T.region <| SL.v (op_load ty62 rfl (by repeat constructor) rfl) ?_
    refine SL.w (op_callF en187 (vs := [_]) rfl (ht hX1)) ?_
    rintro _ _ X2 ⟨rfl, hX2, rfl⟩
    refine SL.v (op_addStr rfl rfl (by first | omega | (simp only [ByteArray.size_append]; omega))) ?_
    refine SL.v (op_addStr rfl rfl (by first | omega | (simp only [ByteArray.size_append]; omega))) ?_
    refine SL.as rfl <| SL.nil <| T.ret1 rfl (ResIs.tmp rfl) ?_
    rw [parB, Ex.op, if_pos hc]
  · refine Spec.enter Tryz.func205 rfl Tryz.ntmps205 rfl ?_
    intro w0 hw0
    refine T.seq <| T.region <| SL.w (op_box rfl) ?_
    rintro _ _ _ ⟨B2, rfl, rfl, rfl⟩
    refine SL.as rfl <| SL.nil <| T.seq <| T.seq <| T.region <| SL.v (op_fieldAddr fa62_0 rfl) <| SL.v (op_load ty3 rfl (by repeat constructor) rfl) ?_
    refine SL.w (op_callF en206 (vs := [_]) rfl (binds_spec (op := op))) ?_
    rintro _ _ X1 ⟨rfl, hX1, rfl⟩
    refine SL.mv rfl <| SL.v (op_lssF rfl rfl (by omega)) ?_
    refine SL.nil <| T.condF rfl <| T.skip <| T.seq <| T.region <| SL.v (op_load ty62 rfl (by repeat constructor) rfl) ?_
    refine SL.w (op_callF en187 (vs := [_]) rfl (ht hX1)) ?_
    rintro _ _ X2 ⟨rfl, hX2, rfl⟩
    refine SL.as rfl <| SL.nil <| T.ret1 rfl (ResIs.tmp rfl) ?_
    rw [parB, Ex.op, if_neg hc]
def sgnB (op : Nat) : ByteArray := match op with
  | 8 => ⟨#[97, 110, 100]⟩ | 9 => ⟨#[111, 114]⟩ | 10 => ⟨#[45, 62]⟩ | 11 => ⟨#[60, 61]⟩ | 12 => ⟨#[60]⟩ | 13 => ⟨#[62, 61]⟩ | 14 => ⟨#[62]⟩ | 15 => ⟨#[61, 61]⟩ | _ => ⟨#[43]⟩
def signs9 : List ByteArray := [sgnB 8, sgnB 9, sgnB 10, sgnB 11, sgnB 12, sgnB 13, sgnB 14, sgnB 15, sgnB 16]
theorem signs9_at {op : Nat} (h1 : 8 ≤ op) (h2 : op ≤ 16) : signs9[op - 8]? = some (sgnB op) := by
  rcases (by omega : op = 8 ∨ op = 9 ∨ op = 10 ∨ op = 11 ∨ op = 12 ∨ op = 13 ∨ op = 14 ∨ op = 15 ∨ op = 16) with rfl | rfl | rfl | rfl | rfl | rfl | rfl | rfl | rfl <;> rfl
theorem sgn_word {op : Nat} (h1 : 8 ≤ op) (h2 : op ≤ 16) (a b : ByteArray) : a ++ ⟨#[32]⟩ ++ sgnB op ++ ⟨#[32]⟩ ++ b = a ++ wordB op ++ b := by
  have e : (⟨#[32]⟩ : ByteArray) ++ sgnB op ++ ⟨#[32]⟩ = wordB op := by
    rcases (by omega : op = 8 ∨ op = 9 ∨ op = 10 ∨ op = 11 ∨ op = 12 ∨ op = 13 ∨ op = 14 ∨ op = 15 ∨ op = 16) with rfl | rfl | rfl | rfl | rfl | rfl | rfl | rfl | rfl <;> rfl
  rw [← e]
  simp only [ByteArray.append_assoc]
theorem sgnB_size (op : Nat) : (sgnB op).size ≤ 3 := by
  unfold sgnB
  split <;> decide
theorem rtext_spec (N : Nat) : ∀ {X : PMap} {e : Ex} {r : Row4}, wtE e ≤ N → N < 1000000 → nodeE e = 0 → ExR .i64 X e r → Spec Tryz.prog 187 [.agg #[r.1, r.2.1, r.2.2.1, r.2.2.2]] X fun u _ => u = .string (textE e) := by
  induction N with
  | zero => intro X e r h; cases e; rw [wtE] at h; omega
  | succ N ih =>
    intro X e r hN hB hnode h
    have hopd : ∀ {X : PMap} {a : Ex} {r : Row4} {least : Nat}, wtE a ≤ N → nodeE a = 0 → ExR .i64 X a r → Spec Tryz.prog 205 [.agg #[r.1, r.2.1, r.2.2.1, r.2.2.2], .int .i64 (least : Int)] X fun u _ => u = .string (parB (strN a.op) (textE a) least) := fun h1 h2 h4 => roperand_spec h4 (fun hX => ih h1 (by omega) h2 (h4.mono hX)) (Nat.lt_of_le_of_lt (text_size _) (by omega))
    cases h with
    | @mk op n ns al vn va rows hn ha hl hr =>
    obtain ⟨Aa, ca, rfl⟩ := ha.form
    obtain ⟨An, cn, rfl⟩ := hn.form
    have hlen := wtL_len al
    have hnl := wtS_len ns
    rw [wtE] at hN
    obtain ⟨hown, hargs⟩ := node_ok hnode
    obtain ⟨o1, o2, o3, o4, o5, o6, o7, o8, o9⟩ := own_ok hown
    have k1 : (⟨#[99, 111, 117, 110, 116, 40]⟩ : ByteArray).size = 6 := rfl
    have k2 : (⟨#[41]⟩ : ByteArray).size = 1 := rfl
    have k3 : (⟨#[109, 101, 109, 98, 101, 114, 115, 40]⟩ : ByteArray).size = 8 := rfl
    have k4 : (⟨#[110, 111, 116, 32]⟩ : ByteArray).size = 4 := rfl
    have k5 : (⟨#[32]⟩ : ByteArray).size = 1 := rfl
    by_cases c1 : op = 1
    · obtain ⟨v, rfl⟩ := Int.eq_ofNat_of_zero_le o8
      refine Spec.enter Tryz.func187 rfl Tryz.ntmps187 rfl ?_
      intro w0 hw0
      refine T.seq <| T.region <| SL.w (op_box rfl) ?_
      rintro _ _ _ ⟨B1, rfl, rfl, rfl⟩
      refine SL.as rfl <| SL.nil <| T.seq <| T.seq <| T.region <| SL.v (op_fieldAddr fa62_0 rfl) <| SL.v (op_load ty3 rfl (by repeat constructor) rfl) ?_
      refine SL.nil <| T.block <| T.seq <| T.region <| SL.v (op_eqlT rfl rfl (by omega)) ?_
      refine SL.as rfl <| SL.nil <| T.condT rfl <| T.seq <| T.region <| SL.v (op_fieldAddr fa62_1 rfl) <| SL.v (op_load ty3 rfl (by repeat constructor) rfl) ?_
      refine SL.w (op_callF en103 (vs := [_]) rfl (dec_spec (v := v) (by omega))) ?_
      rintro _ _ X2 ⟨rfl, hX2, rfl⟩
      refine SL.as rfl <| SL.nil <| T.ret1 rfl (ResIs.tmp rfl) ?_
      rw [textE, if_pos c1]; rfl
    by_cases c2 : op = 2
    · refine Spec.enter Tryz.func187 rfl Tryz.ntmps187 rfl ?_
      intro w0 hw0
      refine T.seq <| T.region <| SL.w (op_box rfl) ?_
      rintro _ _ _ ⟨B1, rfl, rfl, rfl⟩
      refine SL.as rfl <| SL.nil <| T.seq <| T.seq <| T.region <| SL.v (op_fieldAddr fa62_0 rfl) <| SL.v (op_load ty3 rfl (by repeat constructor) rfl) ?_
      refine SL.nil <| T.block <| T.seq <| T.region <| SL.v (op_eqlF rfl rfl (by omega)) ?_
      refine SL.as rfl <| SL.nil <| T.condF rfl <| T.seq <| T.region <| SL.v (op_eqlT rfl rfl (by omega)) ?_
      refine SL.as rfl <| SL.nil <| T.condT rfl <| T.seq <| T.region <| SL.as rfl <| SL.nil <| T.ret1 rfl (ResIs.tmp rfl) ?_
      rw [textE, if_neg c1, if_pos c2]
    by_cases c3 : op = 3
    · refine Spec.enter Tryz.func187 rfl Tryz.ntmps187 rfl ?_
      intro w0 hw0
      refine T.seq <| T.region <| SL.w (op_box rfl) ?_
      rintro _ _ _ ⟨B1, rfl, rfl, rfl⟩
      refine SL.as rfl <| SL.nil <| T.seq <| T.seq <| T.region <| SL.v (op_fieldAddr fa62_0 rfl) <| SL.v (op_load ty3 rfl (by repeat constructor) rfl) ?_
      refine SL.nil <| T.block <| T.seq <| T.region <| SL.v (op_eqlF rfl rfl (by omega)) ?_
      refine SL.as rfl <| SL.nil <| T.condF rfl <| T.seq <| T.region <| SL.v (op_eqlF rfl rfl (by omega)) ?_
      refine SL.as rfl <| SL.nil <| T.condF rfl <| T.seq <| T.region <| SL.v (op_eqlT rfl rfl (by omega)) ?_
      refine SL.as rfl <| SL.nil <| T.condT rfl <| T.seq <| T.region <| SL.as rfl <| SL.nil <| T.ret1 rfl (ResIs.tmp rfl) ?_
      rw [textE, if_neg c1, if_neg c2, if_pos c3]
    by_cases c4 : op = 4
    · have hl1 : ns.length = 1 := by simpa [namN, c4] using o5
      obtain ⟨s, rfl⟩ : ∃ s, ns = [s] := by
        match ns, hl1 with
        | [s], _ => exact ⟨s, rfl⟩
      obtain ⟨bN, pre, rfl, hB1⟩ := hn.blk (by simp)
      refine Spec.enter Tryz.func187 rfl Tryz.ntmps187 rfl ?_
      intro w0 hw0
      refine T.seq <| T.region <| SL.w (op_box rfl) ?_
      rintro _ _ _ ⟨B1, rfl, rfl, rfl⟩
      refine SL.as rfl <| SL.nil <| T.seq <| T.seq <| T.region <| SL.v (op_fieldAddr fa62_0 rfl) <| SL.v (op_load ty3 rfl (by repeat constructor) rfl) ?_
      refine SL.nil <| T.block <| T.seq <| T.region <| SL.v (op_eqlF rfl rfl (by omega)) ?_
      refine SL.as rfl <| SL.nil <| T.condF rfl <| T.seq <| T.region <| SL.v (op_eqlF rfl rfl (by omega)) ?_
      refine SL.as rfl <| SL.nil <| T.condF rfl <| T.seq <| T.region <| SL.v (op_eqlF rfl rfl (by omega)) ?_
      refine SL.as rfl <| SL.nil <| T.condF rfl <| T.seq <| T.region <| SL.v (op_eqlT rfl rfl (by omega)) ?_
      refine SL.as rfl <| SL.nil <| T.condT rfl <| T.seq <| T.region <| SL.v (op_fieldAddr fa62_2 rfl) <| SL.v (op_load ty59 rfl (by repeat constructor) rfl) ?_
      refine SL.v (op_index Tryz.underlying59 ty9 rfl rfl (by omega) (by omega)) ?_
      refine SL.v (op_loadX ty9 rfl hB1 (str_read (i := 0) rfl (by omega))) ?_
      refine SL.as rfl <| SL.nil <| T.ret1 rfl (ResIs.tmp rfl) ?_
      rw [textE, if_neg c1, if_neg c2, if_neg c3, if_pos c4]; rfl
    by_cases c5 : op = 5
    · have hj := joinB_size ns
      refine Spec.enter Tryz.func187 rfl Tryz.ntmps187 rfl ?_
      intro w0 hw0
      refine T.seq <| T.region <| SL.w (op_box rfl) ?_
      rintro _ _ _ ⟨B1, rfl, rfl, rfl⟩
      refine SL.as rfl <| SL.nil <| T.seq <| T.seq <| T.region <| SL.v (op_fieldAddr fa62_0 rfl) <| SL.v (op_load ty3 rfl (by repeat constructor) rfl) ?_
      refine SL.nil <| T.block <| T.seq <| T.region <| SL.v (op_eqlF rfl rfl (by omega)) ?_
      refine SL.as rfl <| SL.nil <| T.condF rfl <| T.seq <| T.region <| SL.v (op_eqlF rfl rfl (by omega)) ?_
      refine SL.as rfl <| SL.nil <| T.condF rfl <| T.seq <| T.region <| SL.v (op_eqlF rfl rfl (by omega)) ?_
      refine SL.as rfl <| SL.nil <| T.condF rfl <| T.seq <| T.region <| SL.v (op_eqlF rfl rfl (by omega)) ?_
      refine SL.as rfl <| SL.nil <| T.condF rfl <| T.seq <| T.region <| SL.v (op_eqlT rfl rfl (by omega)) ?_
      refine SL.as rfl <| SL.nil <| T.condT rfl <| T.seq <| T.region <| SL.v (op_fieldAddr fa62_2 rfl) <| SL.v (op_load ty59 rfl (by repeat constructor) rfl) ?_
      refine SL.w (op_callF en204 (vs := [_]) rfl (joined_spec hn (by omega))) ?_
      rintro _ _ X2 ⟨rfl, hX2, rfl⟩
      refine SL.v (op_addStr rfl rfl (by first | omega | (simp only [ByteArray.size_append]; omega))) ?_
      refine SL.v (op_addStr rfl rfl (by first | omega | (simp only [ByteArray.size_append]; omega))) ?_
      refine SL.as rfl <| SL.nil <| T.ret1 rfl (ResIs.tmp rfl) ?_
      rw [textE, if_neg c1, if_neg c2, if_neg c3, if_neg c4, if_pos c5]
    by_cases c6 : op = 6
    · have hl1 : ns.length = 1 := by simpa [namN, c6] using o5
      obtain ⟨s, rfl⟩ : ∃ s, ns = [s] := by
        match ns, hl1 with
        | [s], _ => exact ⟨s, rfl⟩
      obtain ⟨bN, pre, rfl, hB1⟩ := hn.blk (by simp)
      have hsz := wtS_mem (ns := [s]) (s := s) (by simp)
      refine Spec.enter Tryz.func187 rfl Tryz.ntmps187 rfl ?_
      intro w0 hw0
      refine T.seq <| T.region <| SL.w (op_box rfl) ?_
      rintro _ _ _ ⟨B1, rfl, rfl, rfl⟩
      refine SL.as rfl <| SL.nil <| T.seq <| T.seq <| T.region <| SL.v (op_fieldAddr fa62_0 rfl) <| SL.v (op_load ty3 rfl (by repeat constructor) rfl) ?_
      refine SL.nil <| T.block <| T.seq <| T.region <| SL.v (op_eqlF rfl rfl (by omega)) ?_
      refine SL.as rfl <| SL.nil <| T.condF rfl <| T.seq <| T.region <| SL.v (op_eqlF rfl rfl (by omega)) ?_
      refine SL.as rfl <| SL.nil <| T.condF rfl <| T.seq <| T.region <| SL.v (op_eqlF rfl rfl (by omega)) ?_
      refine SL.as rfl <| SL.nil <| T.condF rfl <| T.seq <| T.region <| SL.v (op_eqlF rfl rfl (by omega)) ?_
      refine SL.as rfl <| SL.nil <| T.condF rfl <| T.seq <| T.region <| SL.v (op_eqlF rfl rfl (by omega)) ?_
      refine SL.as rfl <| SL.nil <| T.condF rfl <| T.seq <| T.region <| SL.v (op_eqlT rfl rfl (by omega)) ?_
      refine SL.as rfl <| SL.nil <| T.condT rfl <| T.seq <| T.region <| SL.v (op_fieldAddr fa62_2 rfl) <| SL.v (op_load ty59 rfl (by repeat constructor) rfl) ?_
      refine SL.v (op_index Tryz.underlying59 ty9 rfl rfl (by omega) (by omega)) ?_
      refine SL.v (op_loadX ty9 rfl hB1 (str_read (i := 0) rfl (by omega))) ?_
      refine SL.v (op_addStr rfl rfl (by first | omega | (simp only [ByteArray.size_append]; omega))) ?_
      refine SL.v (op_addStr rfl rfl (by first | omega | (simp only [ByteArray.size_append]; omega))) ?_
      refine SL.as rfl <| SL.nil <| T.ret1 rfl (ResIs.tmp rfl) ?_
      rw [textE, if_neg c1, if_neg c2, if_neg c3, if_neg c4, if_neg c5, if_pos c6]; rfl
    by_cases c7 : op = 7
    · have hal : al.length = 1 := by rw [o3, c7]; rfl
      obtain ⟨a, rfl⟩ : ∃ a, al = [a] := by
        match al, hal with
        | [a], _ => exact ⟨a, rfl⟩
      obtain ⟨ra, rfl⟩ : ∃ ra, rows = [ra] := by
        match rows, hl with
        | [ra], _ => exact ⟨ra, rfl⟩
      have hra := hr 0 a ra rfl rfl
      obtain ⟨bA, pre, rfl, hbA⟩ := ha.blk (by simp)
      obtain ⟨_, _, _, _, _, _, _, _, rfl⟩ := hra.form
      have hna := nodeL_zero hargs a (by simp)
      have hwa : wtE a ≤ N := by rw [wtL, wtL] at hN; omega
      have hts := text_size a
      have hps := parB_size (strN a.op) (textE a) 4
      refine Spec.enter Tryz.func187 rfl Tryz.ntmps187 rfl ?_
      intro w0 hw0
      refine T.seq <| T.region <| SL.w (op_box rfl) ?_
      rintro _ _ _ ⟨B1, rfl, rfl, rfl⟩
      refine SL.as rfl <| SL.nil <| T.seq <| T.seq <| T.region <| SL.v (op_fieldAddr fa62_0 rfl) <| SL.v (op_load ty3 rfl (by repeat constructor) rfl) ?_
      refine SL.nil <| T.block <| T.seq <| T.region <| SL.v (op_eqlF rfl rfl (by omega)) ?_
      refine SL.as rfl <| SL.nil <| T.condF rfl <| T.seq <| T.region <| SL.v (op_eqlF rfl rfl (by omega)) ?_
      refine SL.as rfl <| SL.nil <| T.condF rfl <| T.seq <| T.region <| SL.v (op_eqlF rfl rfl (by omega)) ?_
      refine SL.as rfl <| SL.nil <| T.condF rfl <| T.seq <| T.region <| SL.v (op_eqlF rfl rfl (by omega)) ?_
      refine SL.as rfl <| SL.nil <| T.condF rfl <| T.seq <| T.region <| SL.v (op_eqlF rfl rfl (by omega)) ?_
      refine SL.as rfl <| SL.nil <| T.condF rfl <| T.seq <| T.region <| SL.v (op_eqlF rfl rfl (by omega)) ?_
      refine SL.as rfl <| SL.nil <| T.condF rfl <| T.seq <| T.region <| SL.v (op_eqlT rfl rfl (by omega)) ?_
      refine SL.as rfl <| SL.nil <| T.condT rfl <| T.seq <| T.region <| SL.v (op_fieldAddr fa62_3 rfl) <| SL.v (op_load ty60 rfl (by repeat constructor) rfl) ?_
      refine SL.v (op_index Tryz.underlying60 ty62 rfl rfl (by omega) (by omega)) ?_
      refine SL.v (op_loadX ty62 rfl hbA (row_read rc4_len (rs := [_]) (k := 0) rfl (by omega))) ?_
      refine SL.w (op_callF en205 (vs := [_, _]) rfl (hopd (least := 4) hwa hna hra)) ?_
      rintro _ _ X2 ⟨rfl, hX2, rfl⟩
      refine SL.v (op_addStr rfl rfl (by first | omega | (simp only [ByteArray.size_append]; omega))) ?_
      refine SL.as rfl <| SL.nil <| T.ret1 rfl (ResIs.tmp rfl) ?_
      rw [textE, if_neg c1, if_neg c2, if_neg c3, if_neg c4, if_neg c5, if_neg c6, textL, textL]
    have hal : al.length = 2 := by rw [o3, argN, if_neg (by omega), if_neg c7]
    obtain ⟨a, a2, rfl⟩ : ∃ a a2, al = [a, a2] := by
      match al, hal with
      | [a, b], _ => exact ⟨a, b, rfl⟩
    obtain ⟨ra, rb, rfl⟩ : ∃ ra rb, rows = [ra, rb] := by
      match rows, hl with
      | [ra, rb], _ => exact ⟨ra, rb, rfl⟩
    have hra := hr 0 a ra rfl rfl
    have hrb := hr 1 a2 rb rfl rfl
    obtain ⟨bA, pre, rfl, hbA⟩ := ha.blk (by simp)
    obtain ⟨_, _, _, _, _, _, _, _, rfl⟩ := hra.form
    obtain ⟨_, _, _, _, _, _, _, _, rfl⟩ := hrb.form
    have hna := nodeL_zero hargs a (by simp)
    have hnb := nodeL_zero hargs a2 (by simp)
    have hwa : wtE a ≤ N ∧ wtE a2 ≤ N := by rw [wtL, wtL, wtL] at hN; omega
    have hts := text_size a
    have hts2 := text_size a2
    have hps := fun k => parB_size (strN a.op) (textE a) k
    have hps2 := fun k => parB_size (strN a2.op) (textE a2) k
    have hps3 := hps (lefN op)
    have hps4 := hps2 (rigN op)
    have hsg := sgnB_size op
    have hs7 := strN_le op
    have hsn := strsC_at (signs9_at (op := op) (by omega) o2)
    have hfin : textE (.mk op n ns [a, a2]) = parB (strN a.op) (textE a) (lefN op) ++ wordB op ++ parB (strN a2.op) (textE a2) (rigN op) := by
      rw [textE, if_neg c1, if_neg c2, if_neg c3, if_neg c4, if_neg c5, if_neg c6, textL, textL, textL]
    rw [hfin, ← sgn_word (by omega) o2]
    by_cases c10 : op = 10
    · have el : lefN op = 2 := by rw [c10]; rfl
      have er : rigN op = 1 := by rw [c10]; rfl
      rw [el] at hps3
      rw [er] at hps4
      rw [el, er]
      refine Spec.enter Tryz.func187 rfl Tryz.ntmps187 rfl ?_
      intro w0 hw0
      refine T.seq <| T.region <| SL.w (op_box rfl) ?_
      rintro _ _ _ ⟨B1, rfl, rfl, rfl⟩
      refine SL.as rfl <| SL.nil <| T.seq <| T.seq <| T.region <| SL.v (op_fieldAddr fa62_0 rfl) <| SL.v (op_load ty3 rfl (by repeat constructor) rfl) ?_
      refine SL.nil <| T.block <| T.seq <| T.region <| SL.v (op_eqlF rfl rfl (by omega)) ?_
      refine SL.as rfl <| SL.nil <| T.condF rfl <| T.seq <| T.region <| SL.v (op_eqlF rfl rfl (by omega)) ?_
      refine SL.as rfl <| SL.nil <| T.condF rfl <| T.seq <| T.region <| SL.v (op_eqlF rfl rfl (by omega)) ?_
      refine SL.as rfl <| SL.nil <| T.condF rfl <| T.seq <| T.region <| SL.v (op_eqlF rfl rfl (by omega)) ?_
      refine SL.as rfl <| SL.nil <| T.condF rfl <| T.seq <| T.region <| SL.v (op_eqlF rfl rfl (by omega)) ?_
      refine SL.as rfl <| SL.nil <| T.condF rfl <| T.seq <| T.region <| SL.v (op_eqlF rfl rfl (by omega)) ?_
      refine SL.as rfl <| SL.nil <| T.condF rfl <| T.seq <| T.region <| SL.v (op_eqlF rfl rfl (by omega)) ?_
      refine SL.as rfl <| SL.nil <| T.condF rfl <| T.skip <| T.blk <| T.seq <| T.region <| SL.w (op_buildSlice Tryz.underlying59 bs9 (qs := [(0, _), (1, _), (2, _), (3, _), (4, _), (5, _), (6, _), (7, _), (8, _)]) rfl rfl rfl rfl rfl) ?_
      rintro _ _ _ ⟨B46, rfl, rfl, rfl⟩
      refine SL.v (op_fieldAddr fa62_0 rfl) <| SL.v (op_load ty3 rfl (by repeat constructor) rfl) ?_
      refine SL.v (op_subN (q := 8) rfl rfl (by omega) (by omega)) ?_
      refine SL.v (op_indexN Tryz.underlying59 ty9 rfl rfl (by omega)) ?_
      refine SL.v (op_load ty9 rfl (by repeat constructor) (cread1k' hsn (by omega))) ?_
      refine SL.as rfl <| SL.nil <| T.seq <| T.draw (by kernel_rfl) 9 [.t 0, .t 1, .t 3, .t 4, .r 2, .r 5, .t 6, .t 7, .t 8] (by kernel_rfl) ?_
      refine SD.take rfl panicBody (op_fieldAddr fa62_0 rfl) rfl rfl ?_
      refine SD.take rfl panicBody (op_load ty3 rfl (by repeat constructor) rfl) rfl rfl ?_
      refine SD.take rfl panicBody (op_fieldAddr fa62_0 rfl) rfl rfl ?_
      refine SD.take rfl panicBody (op_load ty3 rfl (by repeat constructor) rfl) rfl rfl ?_
      refine SD.run rfl (op_callF en206 (vs := [_]) rfl (binds_spec (op := op))) rfl rfl ?_
      rintro _ _ X1 ⟨rfl, hX1, rfl⟩
      refine SD.run rfl (op_callF en206 (vs := [_]) rfl (binds_spec (op := op))) rfl rfl ?_
      rintro _ _ X2 ⟨rfl, hX2, rfl⟩
      refine SD.take rfl panicBody (op_addN (q := 1) rfl rfl (by omega)) rfl rfl ?_
      refine SD.take rfl panicBody (op_assign rfl) rfl rfl ?_
      refine SD.take rfl panicBody (op_assign rfl) rfl rfl ?_
      refine SD.nil ?_
      show SL _ _ _ _ _ _ _ [] _ _ _
      refine SL.nil <| T.seq <| T.seq <| T.region <| SL.v (op_fieldAddr fa62_0 rfl) <| SL.v (op_load ty3 rfl (by repeat constructor) rfl) ?_
      refine SL.v (op_eqlT rfl rfl (by omega)) ?_
      refine SL.nil <| T.condT rfl <| T.region <| SL.v (op_assign (v := .int .i64 ((2 : Nat) : Int)) rfl) <| SL.v (op_assign (v := .int .i64 ((1 : Nat) : Int)) rfl) <| SL.nil <| T.seq <| T.seq <| T.region <| SL.v (op_fieldAddr fa62_0 rfl) <| SL.v (op_load ty3 rfl (by repeat constructor) rfl) ?_
      refine SL.v (op_geqF rfl rfl (by omega)) ?_
      refine SL.mv rfl <| SL.skip rfl rfl ?_
      refine SL.skip rfl rfl ?_
      refine SL.skip rfl rfl ?_
      refine SL.v (op_pickF rfl rfl) <| SL.nil <| T.condF rfl <| T.skip <| T.seq <| T.draw (by kernel_rfl) 18 [.t 0, .t 1, .t 2, .t 3, .t 4, .t 7, .t 10, .t 11, .t 12, .t 13, .t 14, .r 5, .t 6, .t 8, .t 9, .r 15, .t 16, .t 17] (by kernel_rfl) ?_
      refine SD.take rfl panicBody (op_fieldAddr fa62_3 rfl) rfl rfl ?_
      refine SD.take rfl panicBody (op_load ty60 rfl (by repeat constructor) rfl) rfl rfl ?_
      refine SD.take rfl panicBody (op_index Tryz.underlying60 ty62 rfl rfl (by omega) (by omega)) rfl rfl ?_
      refine SD.take rfl panicBody (op_loadX ty62 rfl (hbA.mono (hX1.trans' hX2)) (row_read rc4_len (rs := [_, _]) (k := 0) rfl (by omega))) rfl rfl ?_
      refine SD.take rfl panicBody (op_move rfl) rfl rfl ?_
      refine SD.take rfl panicBody (op_move rfl) rfl rfl ?_
      refine SD.take rfl panicBody (op_fieldAddr fa62_3 rfl) rfl rfl ?_
      refine SD.take rfl panicBody (op_load ty60 rfl (by repeat constructor) rfl) rfl rfl ?_
      refine SD.take rfl panicBody (op_index Tryz.underlying60 ty62 rfl rfl (by omega) (by omega)) rfl rfl ?_
      refine SD.take rfl panicBody (op_loadX ty62 rfl (hbA.mono (hX1.trans' hX2)) (row_read rc4_len (rs := [_, _]) (k := 1) rfl (by omega))) rfl rfl ?_
      refine SD.take rfl panicBody (op_move rfl) rfl rfl ?_
      refine SD.run rfl (op_callF en205 (vs := [_, _]) rfl (hopd (least := 2) hwa.1 hna (hra.mono (hX1.trans' hX2)))) rfl rfl ?_
      rintro _ _ X3 ⟨rfl, hX3, rfl⟩
      refine SD.take rfl panicBody (op_addStr rfl rfl (by first | omega | (simp only [ByteArray.size_append]; omega))) rfl rfl ?_
      refine SD.take rfl panicBody (op_addStr rfl rfl (by first | omega | (simp only [ByteArray.size_append]; omega))) rfl rfl ?_
      refine SD.take rfl panicBody (op_addStr rfl rfl (by first | omega | (simp only [ByteArray.size_append]; omega))) rfl rfl ?_
      refine SD.run rfl (op_callF en205 (vs := [_, _]) rfl (hopd (least := 1) hwa.2 hnb ((hrb.mono (hX1.trans' hX2)).mono hX3))) rfl rfl ?_
      rintro _ _ X5 ⟨rfl, hX5, rfl⟩
      refine SD.take rfl panicBody (op_addStr rfl rfl (by first | omega | (simp only [ByteArray.size_append]; omega))) rfl rfl ?_
      refine SD.take rfl panicBody (op_assign rfl) rfl rfl ?_
      refine SD.nil ?_
      show SL _ _ _ _ _ _ _ [] _ _ _
      refine SL.nil <| T.ret1 rfl (ResIs.tmp rfl) ?_
      rfl
    by_cases c5s : 11 ≤ op ∧ op ≤ 15
    · have h5 : strN op = 5 := by unfold strN; rw [if_neg (by omega), if_neg (by omega), if_neg (by omega), if_neg (by omega), if_pos (by omega)]
      have el : lefN op = 6 := by rw [lefN, if_neg c10, if_pos h5, h5]
      have er : rigN op = 6 := by rw [rigN, if_neg c10, h5]
      rw [el] at hps3
      rw [er] at hps4
      rw [el, er]
      obtain ⟨g1, g2⟩ := c5s
      refine Spec.enter Tryz.func187 rfl Tryz.ntmps187 rfl ?_
      intro w0 hw0
      refine T.seq <| T.region <| SL.w (op_box rfl) ?_
      rintro _ _ _ ⟨B1, rfl, rfl, rfl⟩
      refine SL.as rfl <| SL.nil <| T.seq <| T.seq <| T.region <| SL.v (op_fieldAddr fa62_0 rfl) <| SL.v (op_load ty3 rfl (by repeat constructor) rfl) ?_
      refine SL.nil <| T.block <| T.seq <| T.region <| SL.v (op_eqlF rfl rfl (by omega)) ?_
      refine SL.as rfl <| SL.nil <| T.condF rfl <| T.seq <| T.region <| SL.v (op_eqlF rfl rfl (by omega)) ?_
      refine SL.as rfl <| SL.nil <| T.condF rfl <| T.seq <| T.region <| SL.v (op_eqlF rfl rfl (by omega)) ?_
      refine SL.as rfl <| SL.nil <| T.condF rfl <| T.seq <| T.region <| SL.v (op_eqlF rfl rfl (by omega)) ?_
      refine SL.as rfl <| SL.nil <| T.condF rfl <| T.seq <| T.region <| SL.v (op_eqlF rfl rfl (by omega)) ?_
      refine SL.as rfl <| SL.nil <| T.condF rfl <| T.seq <| T.region <| SL.v (op_eqlF rfl rfl (by omega)) ?_
      refine SL.as rfl <| SL.nil <| T.condF rfl <| T.seq <| T.region <| SL.v (op_eqlF rfl rfl (by omega)) ?_
      refine SL.as rfl <| SL.nil <| T.condF rfl <| T.skip <| T.blk <| T.seq <| T.region <| SL.w (op_buildSlice Tryz.underlying59 bs9 (qs := [(0, _), (1, _), (2, _), (3, _), (4, _), (5, _), (6, _), (7, _), (8, _)]) rfl rfl rfl rfl rfl) ?_
      rintro _ _ _ ⟨B46, rfl, rfl, rfl⟩
      refine SL.v (op_fieldAddr fa62_0 rfl) <| SL.v (op_load ty3 rfl (by repeat constructor) rfl) ?_
      refine SL.v (op_subN (q := 8) rfl rfl (by omega) (by omega)) ?_
      refine SL.v (op_indexN Tryz.underlying59 ty9 rfl rfl (by omega)) ?_
      refine SL.v (op_load ty9 rfl (by repeat constructor) (cread1k' hsn (by omega))) ?_
      refine SL.as rfl <| SL.nil <| T.seq <| T.draw (by kernel_rfl) 9 [.t 0, .t 1, .t 3, .t 4, .r 2, .r 5, .t 6, .t 7, .t 8] (by kernel_rfl) ?_
      refine SD.take rfl panicBody (op_fieldAddr fa62_0 rfl) rfl rfl ?_
      refine SD.take rfl panicBody (op_load ty3 rfl (by repeat constructor) rfl) rfl rfl ?_
      refine SD.take rfl panicBody (op_fieldAddr fa62_0 rfl) rfl rfl ?_
      refine SD.take rfl panicBody (op_load ty3 rfl (by repeat constructor) rfl) rfl rfl ?_
      refine SD.run rfl (op_callF en206 (vs := [_]) rfl (binds_spec (op := op))) rfl rfl ?_
      rintro _ _ X1 ⟨rfl, hX1, rfl⟩
      refine SD.run rfl (op_callF en206 (vs := [_]) rfl (binds_spec (op := op))) rfl rfl ?_
      rintro _ _ X2 ⟨rfl, hX2, rfl⟩
      rw [h5]
      refine SD.take rfl panicBody (op_addN (q := 1) rfl rfl (by omega)) rfl rfl ?_
      refine SD.take rfl panicBody (op_assign rfl) rfl rfl ?_
      refine SD.take rfl panicBody (op_assign rfl) rfl rfl ?_
      refine SD.nil ?_
      show SL _ _ _ _ _ _ _ [] _ _ _
      refine SL.nil <| T.seq <| T.seq <| T.region <| SL.v (op_fieldAddr fa62_0 rfl) <| SL.v (op_load ty3 rfl (by repeat constructor) rfl) ?_
      refine SL.v (op_eqlF rfl rfl (by omega)) ?_
      refine SL.nil <| T.condF rfl <| T.skip <| T.seq <| T.seq <| T.region <| SL.v (op_fieldAddr fa62_0 rfl) <| SL.v (op_load ty3 rfl (by repeat constructor) rfl) ?_
      refine SL.v (op_geqT rfl rfl (by omega)) ?_
      refine SL.mv rfl <| SL.v (op_fieldAddr fa62_0 rfl) <| SL.v (op_load ty3 rfl (by repeat constructor) rfl) ?_
      refine SL.v (op_leqT rfl rfl (by omega)) ?_
      refine SL.v (op_pickT rfl rfl) <| SL.nil <| T.condT rfl <| T.region <| SL.v (op_assign (v := .int .i64 ((6 : Nat) : Int)) rfl) <| SL.nil <| T.seq <| T.draw (by kernel_rfl) 18 [.t 0, .t 1, .t 2, .t 3, .t 4, .t 7, .t 10, .t 11, .t 12, .t 13, .t 14, .r 5, .t 6, .t 8, .t 9, .r 15, .t 16, .t 17] (by kernel_rfl) ?_
      refine SD.take rfl panicBody (op_fieldAddr fa62_3 rfl) rfl rfl ?_
      refine SD.take rfl panicBody (op_load ty60 rfl (by repeat constructor) rfl) rfl rfl ?_
      refine SD.take rfl panicBody (op_index Tryz.underlying60 ty62 rfl rfl (by omega) (by omega)) rfl rfl ?_
      refine SD.take rfl panicBody (op_loadX ty62 rfl (hbA.mono (hX1.trans' hX2)) (row_read rc4_len (rs := [_, _]) (k := 0) rfl (by omega))) rfl rfl ?_
      refine SD.take rfl panicBody (op_move rfl) rfl rfl ?_
      refine SD.take rfl panicBody (op_move rfl) rfl rfl ?_
      refine SD.take rfl panicBody (op_fieldAddr fa62_3 rfl) rfl rfl ?_
      refine SD.take rfl panicBody (op_load ty60 rfl (by repeat constructor) rfl) rfl rfl ?_
      refine SD.take rfl panicBody (op_index Tryz.underlying60 ty62 rfl rfl (by omega) (by omega)) rfl rfl ?_
      refine SD.take rfl panicBody (op_loadX ty62 rfl (hbA.mono (hX1.trans' hX2)) (row_read rc4_len (rs := [_, _]) (k := 1) rfl (by omega))) rfl rfl ?_
      refine SD.take rfl panicBody (op_move rfl) rfl rfl ?_
      refine SD.run rfl (op_callF en205 (vs := [_, _]) rfl (hopd (least := 6) hwa.1 hna (hra.mono (hX1.trans' hX2)))) rfl rfl ?_
      rintro _ _ X3 ⟨rfl, hX3, rfl⟩
      refine SD.take rfl panicBody (op_addStr rfl rfl (by first | omega | (simp only [ByteArray.size_append]; omega))) rfl rfl ?_
      refine SD.take rfl panicBody (op_addStr rfl rfl (by first | omega | (simp only [ByteArray.size_append]; omega))) rfl rfl ?_
      refine SD.take rfl panicBody (op_addStr rfl rfl (by first | omega | (simp only [ByteArray.size_append]; omega))) rfl rfl ?_
      refine SD.run rfl (op_callF en205 (vs := [_, _]) rfl (hopd (least := 6) hwa.2 hnb ((hrb.mono (hX1.trans' hX2)).mono hX3))) rfl rfl ?_
      rintro _ _ X5 ⟨rfl, hX5, rfl⟩
      refine SD.take rfl panicBody (op_addStr rfl rfl (by first | omega | (simp only [ByteArray.size_append]; omega))) rfl rfl ?_
      refine SD.take rfl panicBody (op_assign rfl) rfl rfl ?_
      refine SD.nil ?_
      show SL _ _ _ _ _ _ _ [] _ _ _
      refine SL.nil <| T.ret1 rfl (ResIs.tmp rfl) ?_
      rfl
    · have h5 : ¬strN op = 5 := by
        rcases (by omega : op = 8 ∨ op = 9 ∨ op = 16) with rfl | rfl | rfl <;> decide
      have el : lefN op = strN op := by rw [lefN, if_neg c10, if_neg h5]
      have er : rigN op = strN op + 1 := if_neg c10
      rw [el] at hps3
      rw [er] at hps4
      rw [el, er]
      by_cases g1 : 11 ≤ op
      · have g2 : ¬op ≤ 15 := fun h => c5s ⟨g1, h⟩
        refine Spec.enter Tryz.func187 rfl Tryz.ntmps187 rfl ?_
        intro w0 hw0
        refine T.seq <| T.region <| SL.w (op_box rfl) ?_
        rintro _ _ _ ⟨B1, rfl, rfl, rfl⟩
        refine SL.as rfl <| SL.nil <| T.seq <| T.seq <| T.region <| SL.v (op_fieldAddr fa62_0 rfl) <| SL.v (op_load ty3 rfl (by repeat constructor) rfl) ?_
        refine SL.nil <| T.block <| T.seq <| T.region <| SL.v (op_eqlF rfl rfl (by omega)) ?_
        refine SL.as rfl <| SL.nil <| T.condF rfl <| T.seq <| T.region <| SL.v (op_eqlF rfl rfl (by omega)) ?_
        refine SL.as rfl <| SL.nil <| T.condF rfl <| T.seq <| T.region <| SL.v (op_eqlF rfl rfl (by omega)) ?_
        refine SL.as rfl <| SL.nil <| T.condF rfl <| T.seq <| T.region <| SL.v (op_eqlF rfl rfl (by omega)) ?_
        refine SL.as rfl <| SL.nil <| T.condF rfl <| T.seq <| T.region <| SL.v (op_eqlF rfl rfl (by omega)) ?_
        refine SL.as rfl <| SL.nil <| T.condF rfl <| T.seq <| T.region <| SL.v (op_eqlF rfl rfl (by omega)) ?_
        refine SL.as rfl <| SL.nil <| T.condF rfl <| T.seq <| T.region <| SL.v (op_eqlF rfl rfl (by omega)) ?_
        refine SL.as rfl <| SL.nil <| T.condF rfl <| T.skip <| T.blk <| T.seq <| T.region <| SL.w (op_buildSlice Tryz.underlying59 bs9 (qs := [(0, _), (1, _), (2, _), (3, _), (4, _), (5, _), (6, _), (7, _), (8, _)]) rfl rfl rfl rfl rfl) ?_
        rintro _ _ _ ⟨B46, rfl, rfl, rfl⟩
        refine SL.v (op_fieldAddr fa62_0 rfl) <| SL.v (op_load ty3 rfl (by repeat constructor) rfl) ?_
        refine SL.v (op_subN (q := 8) rfl rfl (by omega) (by omega)) ?_
        refine SL.v (op_indexN Tryz.underlying59 ty9 rfl rfl (by omega)) ?_
        refine SL.v (op_load ty9 rfl (by repeat constructor) (cread1k' hsn (by omega))) ?_
        refine SL.as rfl <| SL.nil <| T.seq <| T.draw (by kernel_rfl) 9 [.t 0, .t 1, .t 3, .t 4, .r 2, .r 5, .t 6, .t 7, .t 8] (by kernel_rfl) ?_
        refine SD.take rfl panicBody (op_fieldAddr fa62_0 rfl) rfl rfl ?_
        refine SD.take rfl panicBody (op_load ty3 rfl (by repeat constructor) rfl) rfl rfl ?_
        refine SD.take rfl panicBody (op_fieldAddr fa62_0 rfl) rfl rfl ?_
        refine SD.take rfl panicBody (op_load ty3 rfl (by repeat constructor) rfl) rfl rfl ?_
        refine SD.run rfl (op_callF en206 (vs := [_]) rfl (binds_spec (op := op))) rfl rfl ?_
        rintro _ _ X1 ⟨rfl, hX1, rfl⟩
        refine SD.run rfl (op_callF en206 (vs := [_]) rfl (binds_spec (op := op))) rfl rfl ?_
        rintro _ _ X2 ⟨rfl, hX2, rfl⟩
        refine SD.take rfl panicBody (op_addN (q := 1) rfl rfl (by omega)) rfl rfl ?_
        refine SD.take rfl panicBody (op_assign rfl) rfl rfl ?_
        refine SD.take rfl panicBody (op_assign rfl) rfl rfl ?_
        refine SD.nil ?_
        show SL _ _ _ _ _ _ _ [] _ _ _
        refine SL.nil <| T.seq <| T.seq <| T.region <| SL.v (op_fieldAddr fa62_0 rfl) <| SL.v (op_load ty3 rfl (by repeat constructor) rfl) ?_
        refine SL.v (op_eqlF rfl rfl (by omega)) ?_
        refine SL.nil <| T.condF rfl <| T.skip <| T.seq <| T.seq <| T.region <| SL.v (op_fieldAddr fa62_0 rfl) <| SL.v (op_load ty3 rfl (by repeat constructor) rfl) ?_
        refine SL.v (op_geqT rfl rfl (by omega)) ?_
        refine SL.mv rfl <| SL.v (op_fieldAddr fa62_0 rfl) <| SL.v (op_load ty3 rfl (by repeat constructor) rfl) ?_
        refine SL.v (op_leqF rfl rfl (by omega)) ?_
        refine SL.v (op_pickT rfl rfl) <| SL.nil <| T.condF rfl <| T.skip <| T.seq <| T.draw (by kernel_rfl) 18 [.t 0, .t 1, .t 2, .t 3, .t 4, .t 7, .t 10, .t 11, .t 12, .t 13, .t 14, .r 5, .t 6, .t 8, .t 9, .r 15, .t 16, .t 17] (by kernel_rfl) ?_
        refine SD.take rfl panicBody (op_fieldAddr fa62_3 rfl) rfl rfl ?_
        refine SD.take rfl panicBody (op_load ty60 rfl (by repeat constructor) rfl) rfl rfl ?_
        refine SD.take rfl panicBody (op_index Tryz.underlying60 ty62 rfl rfl (by omega) (by omega)) rfl rfl ?_
        refine SD.take rfl panicBody (op_loadX ty62 rfl (hbA.mono (hX1.trans' hX2)) (row_read rc4_len (rs := [_, _]) (k := 0) rfl (by omega))) rfl rfl ?_
        refine SD.take rfl panicBody (op_move rfl) rfl rfl ?_
        refine SD.take rfl panicBody (op_move rfl) rfl rfl ?_
        refine SD.take rfl panicBody (op_fieldAddr fa62_3 rfl) rfl rfl ?_
        refine SD.take rfl panicBody (op_load ty60 rfl (by repeat constructor) rfl) rfl rfl ?_
        refine SD.take rfl panicBody (op_index Tryz.underlying60 ty62 rfl rfl (by omega) (by omega)) rfl rfl ?_
        refine SD.take rfl panicBody (op_loadX ty62 rfl (hbA.mono (hX1.trans' hX2)) (row_read rc4_len (rs := [_, _]) (k := 1) rfl (by omega))) rfl rfl ?_
        refine SD.take rfl panicBody (op_move rfl) rfl rfl ?_
        refine SD.run rfl (op_callF en205 (vs := [_, _]) rfl (hopd hwa.1 hna (hra.mono (hX1.trans' hX2)))) rfl rfl ?_
        rintro _ _ X3 ⟨rfl, hX3, rfl⟩
        refine SD.take rfl panicBody (op_addStr rfl rfl (by first | omega | (simp only [ByteArray.size_append]; omega))) rfl rfl ?_
        refine SD.take rfl panicBody (op_addStr rfl rfl (by first | omega | (simp only [ByteArray.size_append]; omega))) rfl rfl ?_
        refine SD.take rfl panicBody (op_addStr rfl rfl (by first | omega | (simp only [ByteArray.size_append]; omega))) rfl rfl ?_
        refine SD.run rfl (op_callF en205 (vs := [_, _]) rfl (hopd hwa.2 hnb ((hrb.mono (hX1.trans' hX2)).mono hX3))) rfl rfl ?_
        rintro _ _ X5 ⟨rfl, hX5, rfl⟩
        refine SD.take rfl panicBody (op_addStr rfl rfl (by first | omega | (simp only [ByteArray.size_append]; omega))) rfl rfl ?_
        refine SD.take rfl panicBody (op_assign rfl) rfl rfl ?_
        refine SD.nil ?_
        show SL _ _ _ _ _ _ _ [] _ _ _
        refine SL.nil <| T.ret1 rfl (ResIs.tmp rfl) ?_
        rfl
      · refine Spec.enter Tryz.func187 rfl Tryz.ntmps187 rfl ?_
        intro w0 hw0
        refine T.seq <| T.region <| SL.w (op_box rfl) ?_
        rintro _ _ _ ⟨B1, rfl, rfl, rfl⟩
        refine SL.as rfl <| SL.nil <| T.seq <| T.seq <| T.region <| SL.v (op_fieldAddr fa62_0 rfl) <| SL.v (op_load ty3 rfl (by repeat constructor) rfl) ?_
        refine SL.nil <| T.block <| T.seq <| T.region <| SL.v (op_eqlF rfl rfl (by omega)) ?_
        refine SL.as rfl <| SL.nil <| T.condF rfl <| T.seq <| T.region <| SL.v (op_eqlF rfl rfl (by omega)) ?_
        refine SL.as rfl <| SL.nil <| T.condF rfl <| T.seq <| T.region <| SL.v (op_eqlF rfl rfl (by omega)) ?_
        refine SL.as rfl <| SL.nil <| T.condF rfl <| T.seq <| T.region <| SL.v (op_eqlF rfl rfl (by omega)) ?_
        refine SL.as rfl <| SL.nil <| T.condF rfl <| T.seq <| T.region <| SL.v (op_eqlF rfl rfl (by omega)) ?_
        refine SL.as rfl <| SL.nil <| T.condF rfl <| T.seq <| T.region <| SL.v (op_eqlF rfl rfl (by omega)) ?_
        refine SL.as rfl <| SL.nil <| T.condF rfl <| T.seq <| T.region <| SL.v (op_eqlF rfl rfl (by omega)) ?_
        refine SL.as rfl <| SL.nil <| T.condF rfl <| T.skip <| T.blk <| T.seq <| T.region <| SL.w (op_buildSlice Tryz.underlying59 bs9 (qs := [(0, _), (1, _), (2, _), (3, _), (4, _), (5, _), (6, _), (7, _), (8, _)]) rfl rfl rfl rfl rfl) ?_
        rintro _ _ _ ⟨B46, rfl, rfl, rfl⟩
        refine SL.v (op_fieldAddr fa62_0 rfl) <| SL.v (op_load ty3 rfl (by repeat constructor) rfl) ?_
        refine SL.v (op_subN (q := 8) rfl rfl (by omega) (by omega)) ?_
        refine SL.v (op_indexN Tryz.underlying59 ty9 rfl rfl (by omega)) ?_
        refine SL.v (op_load ty9 rfl (by repeat constructor) (cread1k' hsn (by omega))) ?_
        refine SL.as rfl <| SL.nil <| T.seq <| T.draw (by kernel_rfl) 9 [.t 0, .t 1, .t 3, .t 4, .r 2, .r 5, .t 6, .t 7, .t 8] (by kernel_rfl) ?_
        refine SD.take rfl panicBody (op_fieldAddr fa62_0 rfl) rfl rfl ?_
        refine SD.take rfl panicBody (op_load ty3 rfl (by repeat constructor) rfl) rfl rfl ?_
        refine SD.take rfl panicBody (op_fieldAddr fa62_0 rfl) rfl rfl ?_
        refine SD.take rfl panicBody (op_load ty3 rfl (by repeat constructor) rfl) rfl rfl ?_
        refine SD.run rfl (op_callF en206 (vs := [_]) rfl (binds_spec (op := op))) rfl rfl ?_
        rintro _ _ X1 ⟨rfl, hX1, rfl⟩
        refine SD.run rfl (op_callF en206 (vs := [_]) rfl (binds_spec (op := op))) rfl rfl ?_
        rintro _ _ X2 ⟨rfl, hX2, rfl⟩
        refine SD.take rfl panicBody (op_addN (q := 1) rfl rfl (by omega)) rfl rfl ?_
        refine SD.take rfl panicBody (op_assign rfl) rfl rfl ?_
        refine SD.take rfl panicBody (op_assign rfl) rfl rfl ?_
        refine SD.nil ?_
        show SL _ _ _ _ _ _ _ [] _ _ _
        refine SL.nil <| T.seq <| T.seq <| T.region <| SL.v (op_fieldAddr fa62_0 rfl) <| SL.v (op_load ty3 rfl (by repeat constructor) rfl) ?_
        refine SL.v (op_eqlF rfl rfl (by omega)) ?_
        refine SL.nil <| T.condF rfl <| T.skip <| T.seq <| T.seq <| T.region <| SL.v (op_fieldAddr fa62_0 rfl) <| SL.v (op_load ty3 rfl (by repeat constructor) rfl) ?_
        refine SL.v (op_geqF rfl rfl (by omega)) ?_
        refine SL.mv rfl <| SL.skip rfl rfl ?_
        refine SL.skip rfl rfl ?_
        refine SL.skip rfl rfl ?_
        refine SL.v (op_pickF rfl rfl) <| SL.nil <| T.condF rfl <| T.skip <| T.seq <| T.draw (by kernel_rfl) 18 [.t 0, .t 1, .t 2, .t 3, .t 4, .t 7, .t 10, .t 11, .t 12, .t 13, .t 14, .r 5, .t 6, .t 8, .t 9, .r 15, .t 16, .t 17] (by kernel_rfl) ?_
        refine SD.take rfl panicBody (op_fieldAddr fa62_3 rfl) rfl rfl ?_
        refine SD.take rfl panicBody (op_load ty60 rfl (by repeat constructor) rfl) rfl rfl ?_
        refine SD.take rfl panicBody (op_index Tryz.underlying60 ty62 rfl rfl (by omega) (by omega)) rfl rfl ?_
        refine SD.take rfl panicBody (op_loadX ty62 rfl (hbA.mono (hX1.trans' hX2)) (row_read rc4_len (rs := [_, _]) (k := 0) rfl (by omega))) rfl rfl ?_
        refine SD.take rfl panicBody (op_move rfl) rfl rfl ?_
        refine SD.take rfl panicBody (op_move rfl) rfl rfl ?_
        refine SD.take rfl panicBody (op_fieldAddr fa62_3 rfl) rfl rfl ?_
        refine SD.take rfl panicBody (op_load ty60 rfl (by repeat constructor) rfl) rfl rfl ?_
        refine SD.take rfl panicBody (op_index Tryz.underlying60 ty62 rfl rfl (by omega) (by omega)) rfl rfl ?_
        refine SD.take rfl panicBody (op_loadX ty62 rfl (hbA.mono (hX1.trans' hX2)) (row_read rc4_len (rs := [_, _]) (k := 1) rfl (by omega))) rfl rfl ?_
        refine SD.take rfl panicBody (op_move rfl) rfl rfl ?_
        refine SD.run rfl (op_callF en205 (vs := [_, _]) rfl (hopd hwa.1 hna (hra.mono (hX1.trans' hX2)))) rfl rfl ?_
        rintro _ _ X3 ⟨rfl, hX3, rfl⟩
        refine SD.take rfl panicBody (op_addStr rfl rfl (by first | omega | (simp only [ByteArray.size_append]; omega))) rfl rfl ?_
        refine SD.take rfl panicBody (op_addStr rfl rfl (by first | omega | (simp only [ByteArray.size_append]; omega))) rfl rfl ?_
        refine SD.take rfl panicBody (op_addStr rfl rfl (by first | omega | (simp only [ByteArray.size_append]; omega))) rfl rfl ?_
        refine SD.run rfl (op_callF en205 (vs := [_, _]) rfl (hopd hwa.2 hnb ((hrb.mono (hX1.trans' hX2)).mono hX3))) rfl rfl ?_
        rintro _ _ X5 ⟨rfl, hX5, rfl⟩
        refine SD.take rfl panicBody (op_addStr rfl rfl (by first | omega | (simp only [ByteArray.size_append]; omega))) rfl rfl ?_
        refine SD.take rfl panicBody (op_assign rfl) rfl rfl ?_
        refine SD.nil ?_
        show SL _ _ _ _ _ _ _ [] _ _ _
        refine SL.nil <| T.ret1 rfl (ResIs.tmp rfl) ?_
        rfl
end Go.Proofs.YtnpcilglilfajaaGreatDoor
namespace Go.Proofs.YtnpcilglilfajaaGreatDoor
section
set_option maxRecDepth 100000
theorem bs121 : ∃ i z, Tryz.prog.info? 121 = some i ∧ i.size = 7 ∧ i.zero = some z ∧ z.cells = ([.bool false, .int .i64 0, .string ⟨#[]⟩, .int .i64 0, .int .i64 0, .slice none 0 0, .slice none 0 0] : List Value).toArray := bs_of (by kernel_rfl)
theorem en23 : Enters Tryz.prog 23 := enters_mk Tryz.func23 (by kernel_rfl) rfl
theorem fa187_0 : FAdr Tryz.prog 187 0 0 := fadr_mk Tryz.underlying187 rfl rfl (by kernel_rfl)
theorem fa187_1 : FAdr Tryz.prog 187 1 1 := fadr_mk Tryz.underlying187 rfl rfl (by kernel_rfl)
theorem fa187_2 : FAdr Tryz.prog 187 2 2 := fadr_mk Tryz.underlying187 rfl rfl (by kernel_rfl)
theorem fa187_3 : FAdr Tryz.prog 187 3 3 := fadr_mk Tryz.underlying187 rfl rfl (by kernel_rfl)
theorem sl117 : SlT Tryz.prog 117 121 7 96 := ⟨Tryz.underlying117, sl_of (by kernel_rfl) (by decide)⟩
theorem z121 : Zero Tryz.prog 121 [.bool false, .int .i64 0, .string ⟨#[]⟩, .int .i64 0, .int .i64 0, .slice none 0 0, .slice none 0 0] := ⟨zero_of (by kernel_rfl)⟩
theorem st121 : StT Tryz.prog 121 [(0, 1), (1, 1), (2, 1), (3, 4)] [.bool false, .int .i64 0, .string ⟨#[]⟩, .int .i64 0, .int .i64 0, .slice none 0 0, .slice none 0 0] := ⟨⟨_, Tryz.underlying121, fun _ => by kernel_rfl, z121⟩⟩
theorem ty187 : Ty Tryz.prog 187 true 4 := ⟨⟨_, Tryz.underlying187, rfl⟩, by kernel_rfl⟩
end
open Go.RowKit
structure Itm where
  enf : Bool
  kind : Nat
  name : Nat
  nodes : List Nd
abbrev RowI := Bool × Nat × Nat × Value
def itC (r : RowI) : List Value := [.bool r.1, .int .u8 (r.2.1 : Int), .int .u8 (r.2.2.1 : Int), r.2.2.2]
theorem itC_len (r : RowI) : (itC r).length = 4 := rfl
def ItR (X : PMap) (x : Itm) (r : RowI) : Prop := r.1 = x.enf ∧ r.2.1 = x.kind ∧ r.2.2.1 = x.name ∧ RowR ndC X r.2.2.2 x.nodes
def itOk (x : Itm) : Prop := x.kind < 256 ∧ x.name < 256 ∧ ∀ y ∈ x.nodes, ndOk y
def ItsR (X : PMap) (v : Value) (l : List Itm) : Prop := ∃ rows : List RowI, RowR itC X v rows ∧ rows.length = l.length ∧ ∀ (i : Nat) (x : Itm) (r : RowI), l[i]? = some x → rows[i]? = some r → ItR X x r
theorem ItsR.mono {X X' : PMap} {v : Value} {l : List Itm} (h : ItsR X v l) (hX : X.le X') : ItsR X' v l :=
  let ⟨rows, h1, h2, h3⟩ := h
  ⟨rows, h1.mono hX, h2, fun i x r a b => let ⟨p, q, s, t⟩ := h3 i x r a b; ⟨p, q, s, t.mono hX⟩⟩
def nameOf (n : Nat) : ByteArray := if 100 ≤ n then ⟨#[110]⟩ ++ decB n else word20 n
def conOf (x : Itm) : Con := ⟨x.enf, x.kind, nameOf x.name, builtE x.nodes⟩
def consOf (l : List Itm) : List Con := (l.take 34).map conOf
/-- The specification's constraints in memory. -/
def rc7i (r : Row7) : List Value := [.bool r.1, .int .i64 (r.2.1 : Int), .string r.2.2.1, r.2.2.2.1, r.2.2.2.2.1, r.2.2.2.2.2.1, r.2.2.2.2.2.2]
theorem rc7i_len (r : Row7) : (rc7i r).length = 7 := rfl
def ConRi (X : PMap) (c : Con) (r : Row7) : Prop := r.1 = c.enf ∧ r.2.1 = c.kind ∧ r.2.2.1 = c.name ∧ ExR .i64 X c.ex r.2.2.2
theorem ConRi.mono {X X' : PMap} {c : Con} {r : Row7} (h : ConRi X c r) (hX : X.le X') : ConRi X' c r := ⟨h.1, h.2.1, h.2.2.1, h.2.2.2.mono hX⟩
theorem ConRi.form {X : PMap} {c : Con} {r : Row7} (h : ConRi X c r) : ∃ (o : Nat) (n : Int) (A B : Option Addr) (l c1 l' c' : Nat), r = (c.enf, c.kind, c.name, .int .i64 (o : Int), .int .i64 n, .slice A l c1, .slice B l' c') := by
  obtain ⟨e, k, s, r4⟩ := r
  obtain ⟨h1, h2, h3, h4⟩ := h
  simp only at h1 h2 h3 h4
  subst h1 h2 h3
  obtain ⟨o, n, A, B, l, c1, l', c', rfl⟩ := h4.form
  exact ⟨_, _, _, _, _, _, _, _, rfl⟩
def ConsRi (X : PMap) (v : Value) (cs : List Con) : Prop := ∃ rows : List Row7, RowR rc7i X v rows ∧ rows.length = cs.length ∧ ∀ (i : Nat) (c : Con) (r : Row7), cs[i]? = some c → rows[i]? = some r → ConRi X c r
theorem ConsRi.mono {X X' : PMap} {v : Value} {cs : List Con} (h : ConsRi X v cs) (hX : X.le X') : ConsRi X' v cs :=
  let ⟨rows, h1, h2, h3⟩ := h
  ⟨rows, h1.mono hX, h2, fun i c r a b => (h3 i c r a b).mono hX⟩
/-- One row more. -/
theorem rows_snoc {α β : Type} {R : PMap → α → β → Prop} {X : PMap} {cs : List α} {rows : List β} {c : α} {r : β} (hl : rows.length = cs.length) (h : ∀ (i : Nat) (c : α) (r : β), cs[i]? = some c → rows[i]? = some r → R X c r) (hc : R X c r) :
    ∀ (i : Nat) (c' : α) (r' : β), (cs ++ [c])[i]? = some c' → (rows ++ [r])[i]? = some r' → R X c' r' := by
  intro i c' r' h1 h2
  rcases Nat.lt_or_ge i cs.length with hi | hi
  · rw [List.getElem?_append_left hi] at h1
    rw [List.getElem?_append_left (by omega)] at h2
    exact h i c' r' h1 h2
  · have hik : i = cs.length := by
      have := (List.getElem?_eq_some_iff.1 h1).1
      rw [List.length_append] at this; simp at this; omega
    subst hik
    rw [List.getElem?_append_right (Nat.le_refl _), Nat.sub_self] at h1
    rw [List.getElem?_append_right (by omega), ← hl, Nat.sub_self] at h2
    simp only [List.getElem?_cons_zero, Option.some.injEq] at h1 h2
    subst h1 h2
    exact hc
theorem ball_spec {X : PMap} {v : Value} {l : List Itm} (h : ItsR X v l) (hok : ∀ x ∈ l, itOk x) : Spec Tryz.prog 54 [v] X fun u X' => ConsRi X' u (consOf l) := by
  obtain ⟨rows, hr, hrl, hrow⟩ := h
  obtain ⟨A, cp, rfl⟩ := hr.form
  have hmx : maxLen = 9223372036854775807 := rfl
  refine Spec.enter Tryz.func54 rfl Tryz.ntmps54 rfl ?_
  intro w0 hw0
  refine T.seq <| T.region <| SL.as rfl <| SL.nil <| T.seq <| T.region <| SL.as rfl <| SL.nil <| T.seq <| T.seq <| T.region <| SL.v (op_assign (v := .int .i64 ((0 : Nat) : Int)) rfl) <| SL.nil <| T.block <| T.loopW (fun m env own X' => ∃ (i : Nat) (vo : Value) (rs : List Row7), m = rows.length - i ∧ i ≤ rows.length ∧ i ≤ 34 ∧ X.le X' ∧ rs.length = ((l.take i).map conOf).length ∧ GrowS 121 7 vo rs.length ((rs.map rc7i).flatten) own ∧ (∀ (q : Nat) (c : Con) (r : Row7), ((l.take i).map conOf)[q]? = some c → rs[q]? = some r → ConRi X' c r) ∧ env = [(0, .slice A rows.length cp), (3, vo), (4, .int .i64 (i : Int))]) rows.length ⟨0, _, [], by simp, by omega, by omega, PMap.le_refl _, rfl, GrowS.nil, (fun q c r h => by simp at h), rfl⟩ (by repeat (first | exact Sub.nil | refine Sub.cons rfl ?_)) ?_
  rintro m _ G X1 ⟨i, vo, rs, rfl, hi, hi34, hX1, hrsl, hG, hrs, rfl⟩
  have hfin : i = 34 ∨ i = rows.length → (l.take i).map conOf = consOf l := fun h => by
    rcases h with rfl | h
    · rfl
    · rw [consOf]
      congr 1
      rw [h, List.take_of_length_le (by omega), List.take_of_length_le (by omega)]
  have hrl2 : rs.length = i := by rw [hrsl, List.length_map, List.length_take]; omega
  have hout : ∀ (_ : i = 34 ∨ i = rows.length) {X9 : PMap} (_ : X1.le X9) (_ : SliceR X9 vo rs.length ((rs.map rc7i).flatten)), ConsRi X9 vo (consOf l) := fun hc X9 hX9 hS9 => by
    rw [← hfin hc]
    exact ⟨rs, RowR.ofG hG hS9, hrsl, fun q c r h1 h2 => (hrs q c r h1 h2).mono hX9⟩
  rcases Nat.lt_or_ge i rows.length with hil | hil
  · rcases Nat.lt_or_ge i 34 with h34 | h34
    · obtain ⟨r2, hr2⟩ : ∃ r2, rows[i]? = some r2 := ⟨_, List.getElem?_eq_getElem hil⟩
      obtain ⟨x, hx⟩ : ∃ x, l[i]? = some x := ⟨_, List.getElem?_eq_getElem (by omega)⟩
      obtain ⟨x1, x2, x3, x4⟩ := hrow i x r2 hx hr2
      obtain ⟨e, k, nm, vs⟩ := r2
      simp only at x1 x2 x3 x4
      subst x1 x2 x3
      obtain ⟨okk, okn, oks⟩ := hok x (List.mem_of_getElem? hx)
      obtain ⟨An, cn, rfl⟩ := x4.form
      obtain ⟨bA, pre, rfl, hbA⟩ := hr.blk (by omega)
      have hB1 := hbA.mono hX1
      have htk := take_snoc hx
      obtain ⟨Av, cv, rfl⟩ := hG.form
      refine T.seq <| T.seq <| T.region <| SL.mv rfl <| SL.mv rfl <| SL.v (op_lenS Tryz.underlying116 rfl) <| SL.v (op_lssT rfl rfl (by omega)) ?_
      refine SL.mv rfl <| SL.mv rfl <| SL.v (op_lssT rfl rfl (by omega)) ?_
      refine SL.v (op_pickT rfl rfl) <| SL.nil <| T.condT rfl <| T.skip <| T.seq <| T.block <| T.seq <| T.region <| SL.mv rfl <| SL.mv rfl <| SL.v (op_indexN Tryz.underlying116 ty187 rfl rfl (by omega)) ?_
      refine SL.v (op_fieldAddr fa187_2 rfl) <| SL.v (op_loadX (v := .int .u8 (x.name : Int)) ty5 rfl hB1 (row_cell (sz := 4) (j := 2) itC_len hr2 rfl (by omega))) ?_
      refine SL.w (op_callF en102 (vs := [_]) rfl (word20_spec okn)) ?_
      rintro _ _ X2 ⟨rfl, hX2, rfl⟩
      refine SL.as rfl <| SL.nil <| T.seq <| T.meet (fun _ env own X' => X2.le X' ∧ env = [(0, .slice (some ⟨bA, pre.length, none⟩) rows.length cp), (3, .slice Av rs.length cv), (4, .int .i64 (i : Int)), (5, .string (nameOf x.name))] ∧ own = G) ?_ ?_
      · skip
        refine T.seq <| T.region <| SL.mv rfl <| SL.mv rfl <| SL.v (op_indexN Tryz.underlying116 ty187 rfl rfl (by omega)) ?_
        refine SL.v (op_fieldAddr fa187_2 rfl) <| SL.v (op_loadX (v := .int .u8 (x.name : Int)) ty5 rfl (hB1.mono hX2) (row_cell (sz := 4) (j := 2) itC_len hr2 rfl (by omega))) ?_
        by_cases h100 : 100 ≤ x.name
        · have e : nameOf x.name = ⟨#[110]⟩ ++ decB x.name := if_pos h100
          have kn : (⟨#[110]⟩ : ByteArray).size = 1 := rfl
          have hds := decB_size x.name
          rw [e]
          refine SL.v (op_geqT rfl rfl (by omega)) ?_
          refine SL.nil <| T.condT rfl <| T.region <| SL.mv rfl <| SL.mv rfl <| SL.v (op_indexN Tryz.underlying116 ty187 rfl rfl (by omega)) ?_
          refine SL.v (op_fieldAddr fa187_2 rfl) <| SL.v (op_loadX (v := .int .u8 (x.name : Int)) ty5 rfl (hB1.mono hX2) (row_cell (sz := 4) (j := 2) itC_len hr2 rfl (by omega))) ?_
          refine SL.v (op_convI64 Tryz.underlying5 Tryz.underlying3 rfl (by omega) (by omega)) ?_
          refine SL.w (op_callF en103 (vs := [_]) rfl (dec_spec (v := x.name) (by omega))) ?_
          rintro _ _ X3 ⟨rfl, hX3, rfl⟩
          refine SL.v (op_addStr rfl rfl (by first | omega | (simp only [ByteArray.size_append]; omega))) ?_
          refine SL.as rfl <| SL.nil ?_
          exact T.backW 0 (by omega) ⟨hX3, rfl, rfl⟩ (by repeat (first | exact Sub.nil | refine Sub.cons rfl ?_))
        · have e : nameOf x.name = word20 x.name := if_neg h100
          rw [e]
          refine SL.v (op_geqF rfl rfl (by omega)) ?_
          refine SL.nil <| T.condF rfl <| T.skip ?_
          exact T.backW 0 (by omega) ⟨PMap.le_refl _, rfl, rfl⟩ (by repeat (first | exact Sub.nil | refine Sub.cons rfl ?_))
      rintro _ _ _ X3 ⟨hX3, rfl, rfl⟩
      have hB3 := (hB1.mono hX2).mono hX3
      refine T.drawG (own0 := []) (by kernel_rfl) 21 [.t 0, .t 1, .t 2, .t 3, .t 4, .t 5, .t 6, .t 7, .t 8, .t 9, .t 10, .t 11, .t 12, .t 13, .t 14, .t 15, .t 16, .t 17, .r 18, .t 19, .r 20] (by kernel_rfl) ?_
      refine SD.take rfl panicBody (op_move rfl) rfl rfl ?_
      refine SD.take rfl panicBody (op_move rfl) rfl rfl ?_
      refine SD.take rfl panicBody (op_move rfl) rfl rfl ?_
      refine SD.take rfl panicBody (op_indexN Tryz.underlying116 ty187 rfl rfl (by omega)) rfl rfl ?_
      refine SD.take rfl panicBody (op_fieldAddr fa187_0 rfl) rfl rfl ?_
      refine SD.take rfl panicBody (op_loadX (v := .bool x.enf) ty4 rfl hB3 (row_cell (sz := 4) (j := 0) itC_len hr2 rfl (by omega))) rfl rfl ?_
      refine SD.take rfl panicBody (op_move rfl) rfl rfl ?_
      refine SD.take rfl panicBody (op_move rfl) rfl rfl ?_
      refine SD.take rfl panicBody (op_indexN Tryz.underlying116 ty187 rfl rfl (by omega)) rfl rfl ?_
      refine SD.take rfl panicBody (op_fieldAddr fa187_1 rfl) rfl rfl ?_
      refine SD.take rfl panicBody (op_loadX (v := .int .u8 (x.kind : Int)) ty5 rfl hB3 (row_cell (sz := 4) (j := 1) itC_len hr2 rfl (by omega))) rfl rfl ?_
      refine SD.take rfl panicBody (op_convI64 Tryz.underlying5 Tryz.underlying3 rfl (by omega) (by omega)) rfl rfl ?_
      refine SD.take rfl panicBody (op_move rfl) rfl rfl ?_
      refine SD.take rfl panicBody (op_move rfl) rfl rfl ?_
      refine SD.take rfl panicBody (op_move rfl) rfl rfl ?_
      refine SD.take rfl panicBody (op_indexN Tryz.underlying116 ty187 rfl rfl (by omega)) rfl rfl ?_
      refine SD.take rfl panicBody (op_fieldAddr fa187_3 rfl) rfl rfl ?_
      refine SD.take rfl panicBody (op_loadX (v := .slice An x.nodes.length cn) ty57 rfl hB3 (row_cell (sz := 4) (j := 3) itC_len hr2 rfl (by omega))) rfl rfl ?_
      refine SD.run rfl (op_callF en23 (vs := [_]) rfl (built_spec ((((x4.mono hX1).mono hX2).mono hX3)) oks)) rfl rfl ?_
      rintro _ _ X4 ⟨rfl, hX4, r8, rfl, hr8⟩
      obtain ⟨o8, n8, a8, b8, l8, c8, l9, c9, rfl⟩ := hr8.form
      refine SD.take rfl panicBody (op_build st121 (qs := [(0, _), (1, _), (2, _), (3, _)]) rfl rfl) rfl rfl ?_
      refine SD.run rfl (op_buildSlice Tryz.underlying117 bs121 (qs := [(0, _)]) rfl rfl rfl rfl rfl) rfl rfl ?_
      rintro _ _ _ ⟨B56, rfl, rfl, rfl⟩
      refine SD.nil ?_
      show SL _ _ _ _ _ _ _ [_, _] _ _ _
      refine SL.w (op_appendGA (own0 := [_]) (m := 1) sl117 rfl hG rfl (Src.ofOwn0 AtO.here rfl) (by intro y hy; have hy : y ∈ [Value.bool _, Value.int _ _, Value.string _, Value.int _ _, Value.int _ _, Value.slice _ _ _, Value.slice _ _ _] := hy; simp only [List.mem_cons, List.not_mem_nil, or_false] at hy; rcases hy with rfl | rfl | rfl | rfl | rfl | rfl | rfl <;> rfl) (by omega) (by omega)) ?_
      rintro va9 _ _ ⟨Ga9, rfl, rfl, hGa9⟩
      refine SL.as rfl <| SL.nil <| T.blk <| T.region <| SL.mv rfl <| SL.v (op_addN (q := 1) rfl rfl (by omega)) ?_
      refine SL.as rfl <| SL.nil <| T.less (own' := [] ++ Ga9) (List.sublist_cons_self _ _) ?_
      have hX14 := (hX2.trans' hX3).trans' hX4
      have hnew : ConRi X4 (conOf x) (x.enf, x.kind, nameOf x.name, .int .i64 (o8 : Int), .int .i64 n8, .slice a8 l8 c8, .slice b8 l9 c9) := ⟨rfl, rfl, rfl, hr8⟩
      have hG10 : GrowS 121 7 va9 (rs ++ [((x.enf, x.kind, nameOf x.name, .int .i64 (o8 : Int), .int .i64 n8, .slice a8 l8 c8, .slice b8 l9 c9) : Row7)]).length (((rs ++ [((x.enf, x.kind, nameOf x.name, .int .i64 (o8 : Int), .int .i64 n8, .slice a8 l8 c8, .slice b8 l9 c9) : Row7)]).map rc7i).flatten) Ga9 := by
        rw [List.length_append, List.map_append, List.flatten_append]
        exact hGa9
      have hmp : (l.take (i + 1)).map conOf = (l.take i).map conOf ++ [conOf x] := by rw [htk, List.map_append]; rfl
      exact T.backW (rows.length - (i + 1)) (by omega) ⟨i + 1, _, _, rfl, by omega, by omega, hX1.trans' hX14, by rw [hmp, List.length_append, List.length_append, hrsl]; rfl, hG10, by rw [hmp]; exact rows_snoc hrsl (fun q c r h1 h2 => (hrs q c r h1 h2).mono hX14) hnew, rfl⟩ (by repeat (first | exact Sub.nil | refine Sub.cons rfl ?_))
    · obtain rfl : i = 34 := by omega
      obtain ⟨Av, cv, rfl⟩ := hG.form
      refine T.seq <| T.seq <| T.region <| SL.mv rfl <| SL.mv rfl <| SL.v (op_lenS Tryz.underlying116 rfl) <| SL.v (op_lssT rfl rfl (by omega)) ?_
      refine SL.mv rfl <| SL.mv rfl <| SL.v (op_lssF rfl rfl (by omega)) ?_
      refine SL.v (op_pickT rfl rfl) <| SL.nil <| T.condF rfl ?_
      refine T.exit (T.exitCode (T.exitCut (T.exitBlk ?_)))
      refine T.seq <| T.region <| SL.mv rfl <| SL.as rfl <| SL.nil <| T.pubG (own0 := []) hG ?_
      intro X9 hX9 hS9
      refine T.ret1 rfl (ResIs.tmp rfl) ?_
      exact hout (.inl rfl) hX9 hS9
  · obtain rfl : i = rows.length := by omega
    obtain ⟨Av, cv, rfl⟩ := hG.form
    refine T.seq <| T.seq <| T.region <| SL.mv rfl <| SL.mv rfl <| SL.v (op_lenS Tryz.underlying116 rfl) <| SL.v (op_lssF rfl rfl (by omega)) ?_
    refine SL.mv rfl <| SL.skip rfl rfl ?_
    refine SL.skip rfl rfl ?_
    refine SL.v (op_pickF rfl rfl) <| SL.nil <| T.condF rfl ?_
    refine T.exit (T.exitCode (T.exitCut (T.exitBlk ?_)))
    refine T.seq <| T.region <| SL.mv rfl <| SL.as rfl <| SL.nil <| T.pubG (own0 := []) hG ?_
    intro X9 hX9 hS9
    refine T.ret1 rfl (ResIs.tmp rfl) ?_
    exact hout (.inr rfl) hX9 hS9
end Go.Proofs.YtnpcilglilfajaaGreatDoor
namespace Go.Proofs.YtnpcilglilfajaaGreatDoor
open Go.ChangeShapes Go.WideShapes Go.ChangeAt Go.RowKit Go.Joins Go.Deep
theorem u8_of {z : Int} (h : (Lit.int .u8 z).wf = true) : ∃ b : Nat, z = (b : Int) ∧ b < 256 := by
  simp only [Lit.wf, Bool.and_eq_true, decide_eq_true_eq] at h
  obtain ⟨h1, h2⟩ : (0 : Int) ≤ z ∧ z ≤ 255 := h
  obtain ⟨b, rfl⟩ := Int.eq_ofNat_of_zero_le h1
  exact ⟨b, rfl, by omega⟩
theorem okWide_slice {P : Program} {W : World} {base : Nat} {t e : TypeId} {v : Value} (ht : P.underlying t = some (.slice e)) (h : Value.okWide P W .any base t v) : ∃ A len cap, v = .slice A len cap := by
  simp only [Value.okWide, Cell.okWide, ht] at h
  simp only [Cell.ok, ht] at h
  cases v <;> simp_all
section
variable {H : Type} {enc : TypeId × Value → H} {W : World}
theorem node_cells : Tryz.prog.cellsOf 208 = 4 := by kernel_rfl
set_option maxRecDepth 100000 in
theorem node_el {n : Nat} {cs : List Value} {y : DataW H × List MemPlace} (hl : cs.length = 4) (h : DataW.trod enc Tryz.prog W 0 (fun _ => true) true n 208 cs = some y) : ∃ x : Nd, cs = ndC x ∧ ndOk x := by
  obtain ⟨xs, m, _, rfl, _, hlen, hf⟩ := DataW.trod_struct Tryz.underlying208 h
  match cs, hl with
  | [a, b, c, d], _ =>
    have f0 : DataW.trod enc Tryz.prog W 0 (fun _ => true) true m 5 (List.take (Tryz.prog.cellsOf 5) (List.drop 0 [a, b, c, d])) = xs[0]? := hf 0 _ rfl
    have f1 : DataW.trod enc Tryz.prog W 0 (fun _ => true) true m 5 (List.take (Tryz.prog.cellsOf 5) (List.drop 1 [a, b, c, d])) = xs[1]? := hf 1 _ rfl
    have f2 : DataW.trod enc Tryz.prog W 0 (fun _ => true) true m 5 (List.take (Tryz.prog.cellsOf 5) (List.drop 2 [a, b, c, d])) = xs[2]? := hf 2 _ rfl
    have f3 : DataW.trod enc Tryz.prog W 0 (fun _ => true) true m 3 (List.take (Tryz.prog.cellsOf 3) (List.drop 3 [a, b, c, d])) = xs[3]? := hf 3 _ rfl
    rw [cells5] at f0 f1 f2
    rw [show Tryz.prog.cellsOf 3 = 1 by kernel_rfl] at f3
    match xs, hlen with
    | [x0, x1, x2, x3], _ =>
      obtain ⟨za, e0, _, w0⟩ := DataW.trod_int Tryz.underlying5 f0
      obtain ⟨zb, e1, _, w1⟩ := DataW.trod_int Tryz.underlying5 f1
      obtain ⟨zc, e2, _, w2⟩ := DataW.trod_int Tryz.underlying5 f2
      obtain ⟨zd, e3, _, w3⟩ := DataW.trod_int Tryz.underlying3 f3
      obtain ⟨na, rfl, ha⟩ := u8_of w0
      obtain ⟨nb, rfl, hb⟩ := u8_of w1
      obtain ⟨nc, rfl, hc⟩ := u8_of w2
      refine ⟨⟨na, nb, nc, zd⟩, ?_, ha, hb, hc⟩
      simp at e0 e1 e2 e3
      subst e0 e1 e2 e3
      rfl
theorem item_cells : Tryz.prog.cellsOf 187 = 4 := by kernel_rfl
/-- A slice in a field, opened. -/
theorem open_field {α : Type} {rc : α → List Value} {ok : α → Prop} {t e : TypeId} {sz n : Nat} {c : Value} {y : DataW H × List MemPlace} (ht : Tryz.prog.underlying t = some (.slice e)) (hc : Tryz.prog.cellsOf e = sz) (h0 : 0 < sz) (hrc : ∀ x, (rc x).length = sz)
    (hel : ∀ {n : Nat} {cs : List Value} {y : DataW H × List MemPlace}, cs.length = sz → DataW.trod enc Tryz.prog W 0 (fun _ => true) true n e cs = some y → ∃ x, cs = rc x ∧ ok x) (h : DataW.trod enc Tryz.prog W 0 (fun _ => true) true n t [c] = some y) : ∃ (rs : List α), (∀ r ∈ rs, ok r) ∧ RowR rc (heapX W) c rs := by
  have hform : ∃ A len cap, c = .slice A len cap := by
    rcases open_slice ht h with ⟨h1, _⟩ | ⟨a, len, cap, _, _, _, _, h1, _⟩
    · exact ⟨none, 0, 0, by simpa using h1⟩
    · exact ⟨some a, len, cap, by simpa using h1⟩
  obtain ⟨A, len, cap, rfl⟩ := hform
  exact open_rows (d := y.1) (p := y.2) ht hc h0 hrc hel ⟨A, len, cap, rfl⟩ ⟨n, h⟩
set_option maxRecDepth 100000 in
theorem item_el {n : Nat} {cs : List Value} {y : DataW H × List MemPlace} (hl : cs.length = 4) (h : DataW.trod enc Tryz.prog W 0 (fun _ => true) true n 187 cs = some y) : ∃ r : RowI, cs = itC r ∧ ∃ x : Itm, ItR (heapX W) x r ∧ itOk x := by
  obtain ⟨xs, m, _, rfl, _, hlen, hf⟩ := DataW.trod_struct Tryz.underlying187 h
  match cs, hl with
  | [a, b, c, d], _ =>
    have f0 : DataW.trod enc Tryz.prog W 0 (fun _ => true) true m 4 (List.take (Tryz.prog.cellsOf 4) (List.drop 0 [a, b, c, d])) = xs[0]? := hf 0 _ rfl
    have f1 : DataW.trod enc Tryz.prog W 0 (fun _ => true) true m 5 (List.take (Tryz.prog.cellsOf 5) (List.drop 1 [a, b, c, d])) = xs[1]? := hf 1 _ rfl
    have f2 : DataW.trod enc Tryz.prog W 0 (fun _ => true) true m 5 (List.take (Tryz.prog.cellsOf 5) (List.drop 2 [a, b, c, d])) = xs[2]? := hf 2 _ rfl
    have f3 : DataW.trod enc Tryz.prog W 0 (fun _ => true) true m 57 (List.take (Tryz.prog.cellsOf 57) (List.drop 3 [a, b, c, d])) = xs[3]? := hf 3 _ rfl
    rw [cells5] at f1 f2
    rw [show Tryz.prog.cellsOf 4 = 1 by kernel_rfl] at f0
    rw [show Tryz.prog.cellsOf 57 = 1 by kernel_rfl] at f3
    match xs, hlen with
    | [x0, x1, x2, x3], _ =>
      obtain ⟨za, e0, _⟩ := DataW.trod_bool Tryz.underlying4 f0
      obtain ⟨zb, e1, _, w1⟩ := DataW.trod_int Tryz.underlying5 f1
      obtain ⟨zc, e2, _, w2⟩ := DataW.trod_int Tryz.underlying5 f2
      obtain ⟨nb, rfl, hb⟩ := u8_of w1
      obtain ⟨nc, rfl, hc⟩ := u8_of w2
      obtain ⟨rs, hok, hr⟩ := open_field (rc := ndC) (ok := ndOk) (c := d) Tryz.underlying57 node_cells (by omega) (fun _ => rfl) (fun hl h => node_el hl h) f3
      simp at e0 e1 e2
      subst e0 e1 e2
      exact ⟨(za, nb, nc, d), rfl, ⟨za, nb, nc, rs⟩, ⟨rfl, rfl, rfl, hr⟩, hb, hc, hok⟩
set_option maxRecDepth 100000 in
theorem open_items {base : Nat} {v : Value} {d : DataW H} {p : List MemPlace} (hval : Value.okWide Tryz.prog W .any base 116 v) (h : DataW.Trod enc Tryz.prog W 0 (fun _ => true) true 116 v d p) : ∃ rs : List Itm, (∀ x ∈ rs, itOk x) ∧ ItsR (heapX W) v rs := by
  obtain ⟨rows, hok, hr⟩ := open_rows (rc := itC) (ok := fun r => ∃ x : Itm, ItR (heapX W) x r ∧ itOk x) Tryz.underlying116 item_cells (by omega) (fun _ => rfl) (fun hl h => item_el hl h) (okWide_slice Tryz.underlying116 hval) h
  obtain ⟨l, hl, hx⟩ := exists_list (p := fun i (x : Itm) => ∀ r, rows[i]? = some r → ItR (heapX W) x r ∧ itOk x) rows.length (fun i hi => by
    obtain ⟨x, h1⟩ := hok rows[i] (List.getElem_mem _)
    exact ⟨x, fun r hr => by rw [List.getElem?_eq_getElem hi] at hr; cases hr; exact h1⟩)
  refine ⟨l, fun x hm => ?_, rows, hr, hl.symm, fun i x r h1 h2 => (hx i x h1 r h2).1⟩
  obtain ⟨i, hi⟩ := List.mem_iff_getElem?.1 hm
  have hlt := (List.getElem?_eq_some_iff.1 hi).1
  exact (hx i x hi rows[i] (List.getElem?_eq_getElem (by omega))).2
end
end Go.Proofs.YtnpcilglilfajaaGreatDoor
namespace Go.Proofs.YtnpcilglilfajaaGreatDoor
open Go.ChangeShapes Go.WideShapes Go.ChangeAt Go.RowKit Go.Joins
end Go.Proofs.YtnpcilglilfajaaGreatDoor
namespace Go.Proofs.YtnpcilglilfajaaGreatDoor
open Go.RowKit
def dig : List Nat → Nat
  | [] => 0
  | b :: l => 256 * dig l + b
def pop8 (b : Nat) : Nat := (List.range 8).countP fun i => b.testBit i
def g1 (b : Nat) : Nat := ((b / 2) &&& 85) + (b &&& 85)
def g2 (b : Nat) : Nat := ((b / 4) &&& 51) + (b &&& 51)
def g3 (b : Nat) : Nat := (b / 16 + b) &&& 15
def msk8 (d : Nat) : Nat → Nat
  | 0 => 0
  | n + 1 => 256 * msk8 d n + d
theorem and_byte (a c : Nat) {b d : Nat} (hb : b < 256) (hd : d < 256) : (256 * a + b) &&& (256 * c + d) = 256 * (a &&& c) + (b &&& d) := by
  have hbd : b &&& d < 2 ^ 8 := Nat.lt_of_le_of_lt Nat.and_le_left hb
  apply Nat.eq_of_testBit_eq
  intro i
  rw [show 256 = 2 ^ 8 from rfl, Nat.testBit_and, Nat.testBit_two_pow_mul_add a (show b < 2 ^ 8 from hb), Nat.testBit_two_pow_mul_add c (show d < 2 ^ 8 from hd), Nat.testBit_two_pow_mul_add (a &&& c) hbd]
  split
  · rw [Nat.testBit_and]
  · rw [Nat.testBit_and]
theorem bytes_all {P : Nat → Bool} (h : (List.range 256).all P = true) {b : Nat} (hb : b < 256) : P b = true := List.all_eq_true.1 h b (List.mem_range.2 hb)
theorem t1 {b t : Nat} (hb : b < 256) (ht : t < 2) : 128 * t + b / 2 < 256 ∧ (128 * t + b / 2) &&& 85 = (b / 2) &&& 85 := by
  have h := bytes_all (P := fun b => (List.range 2).all fun t => decide (128 * t + b / 2 < 256 ∧ (128 * t + b / 2) &&& 85 = (b / 2) &&& 85)) (by decide +kernel) hb
  exact of_decide_eq_true (List.all_eq_true.1 h t (List.mem_range.2 ht))
theorem t2 {b t : Nat} (hb : b < 256) (ht : t < 4) : 64 * t + b / 4 < 256 ∧ (64 * t + b / 4) &&& 51 = (b / 4) &&& 51 := by
  have h := bytes_all (P := fun b => (List.range 4).all fun t => decide (64 * t + b / 4 < 256 ∧ (64 * t + b / 4) &&& 51 = (b / 4) &&& 51)) (by decide +kernel) hb
  exact of_decide_eq_true (List.all_eq_true.1 h t (List.mem_range.2 ht))
def nib (b : Nat) : Prop := b % 16 ≤ 4 ∧ b / 16 ≤ 4
instance (b : Nat) : Decidable (nib b) := inferInstanceAs (Decidable (_ ∧ _))
theorem t3 {b t : Nat} (hb : b < 256) (hn : nib b) (ht : t < 5) : 16 * t + b / 16 + b < 256 ∧ (16 * t + b / 16 + b) &&& 15 = g3 b := by
  have h := bytes_all (P := fun b => (List.range 5).all fun t => decide (nib b → 16 * t + b / 16 + b < 256 ∧ (16 * t + b / 16 + b) &&& 15 = g3 b)) (by decide +kernel) hb
  exact of_decide_eq_true (List.all_eq_true.1 h t (List.mem_range.2 ht)) hn
theorem g1_lt {b : Nat} (hb : b < 256) : g1 b < 256 := of_decide_eq_true (bytes_all (P := fun b => decide (g1 b < 256)) (by decide +kernel) hb)
theorem g2_nib {b : Nat} (hb : b < 256) : g2 (g1 b) < 256 ∧ nib (g2 (g1 b)) := of_decide_eq_true (bytes_all (P := fun b => decide (g2 (g1 b) < 256 ∧ nib (g2 (g1 b)))) (by decide +kernel) hb)
theorem g3_pop {b : Nat} (hb : b < 256) : g3 (g2 (g1 b)) = pop8 b ∧ pop8 b ≤ 8 := of_decide_eq_true (bytes_all (P := fun b => decide (g3 (g2 (g1 b)) = pop8 b ∧ pop8 b ≤ 8)) (by decide +kernel) hb)
theorem f1_dig : ∀ {l : List Nat}, (∀ b ∈ l, b < 256) → ((dig l / 2) &&& msk8 85 l.length) + (dig l &&& msk8 85 l.length) = dig (l.map g1)
  | [], _ => by simp [dig, msk8]
  | b :: l, h => by
    have hb := h b (by simp)
    have ih := f1_dig (l := l) fun c hc => h c (by simp [hc])
    obtain ⟨h1, h2⟩ := t1 hb (show dig l % 2 < 2 from Nat.mod_lt _ (by omega))
    have e : dig (b :: l) / 2 = 256 * (dig l / 2) + (128 * (dig l % 2) + b / 2) := by rw [dig]; omega
    rw [e, List.length_cons, msk8, and_byte _ _ h1 (by omega), h2, dig, and_byte _ _ hb (by omega), List.map_cons, dig, ← ih]
    unfold g1
    omega
theorem f2_dig : ∀ {l : List Nat}, (∀ b ∈ l, b < 256) → ((dig l / 4) &&& msk8 51 l.length) + (dig l &&& msk8 51 l.length) = dig (l.map g2)
  | [], _ => by simp [dig, msk8]
  | b :: l, h => by
    have hb := h b (by simp)
    have ih := f2_dig (l := l) fun c hc => h c (by simp [hc])
    obtain ⟨h1, h2⟩ := t2 hb (show dig l % 4 < 4 from Nat.mod_lt _ (by omega))
    have e : dig (b :: l) / 4 = 256 * (dig l / 4) + (64 * (dig l % 4) + b / 4) := by rw [dig]; omega
    rw [e, List.length_cons, msk8, and_byte _ _ h1 (by omega), h2, dig, and_byte _ _ hb (by omega), List.map_cons, dig, ← ih]
    unfold g2
    omega
theorem dig_mod : ∀ {l : List Nat}, (∀ b ∈ l, b < 256 ∧ nib b) → dig l % 16 < 5
  | [], _ => by simp [dig]
  | b :: l, h => by
    obtain ⟨h1, h2, h3⟩ := h b (by simp)
    rw [dig]; omega
theorem f3_dig : ∀ {l : List Nat}, (∀ b ∈ l, b < 256 ∧ nib b) → (dig l / 16 + dig l) &&& msk8 15 l.length = dig (l.map g3)
  | [], _ => by simp [dig, msk8]
  | b :: l, h => by
    obtain ⟨hb, hn⟩ := h b (by simp)
    have ih := f3_dig (l := l) fun c hc => h c (by simp [hc])
    obtain ⟨h1, h2⟩ := t3 hb hn (dig_mod (l := l) fun c hc => h c (by simp [hc]))
    have e : dig (b :: l) / 16 + dig (b :: l) = 256 * (dig l / 16 + dig l) + (16 * (dig l % 16) + b / 16 + b) := by rw [dig]; omega
    rw [e, List.length_cons, msk8, and_byte _ _ h1 (by omega), h2, ih, List.map_cons, dig]
def cntB (n m : Nat) : Nat := (List.range n).countP fun i => m.testBit i
theorem cnt_dig : ∀ {l : List Nat}, (∀ b ∈ l, b < 256) → cntB (8 * l.length) (dig l) = (l.map pop8).sum
  | [], _ => rfl
  | b :: l, h => by
    have hb := h b (by simp)
    have ih := cnt_dig (l := l) fun c hc => h c (by simp [hc])
    have e1 : ∀ i, (dig (b :: l)).testBit i = if i < 8 then b.testBit i else (dig l).testBit (i - 8) := fun i => by
      rw [dig, show 256 = 2 ^ 8 from rfl, Nat.testBit_two_pow_mul_add _ (show b < 2 ^ 8 from hb)]
    rw [List.length_cons, List.map_cons, List.sum_cons, ← ih, cntB, show 8 * (l.length + 1) = 8 + 8 * l.length by omega, List.range_add, List.countP_append, List.countP_map]
    congr 1
    · rw [pop8]
      refine List.countP_congr fun i hi => ?_
      rw [e1, if_pos (List.mem_range.1 hi)]
    · rw [cntB]
      refine List.countP_congr fun i _ => ?_
      show (dig (b :: l)).testBit (8 + i) = true ↔ _
      rw [e1, if_neg (by omega), Nat.add_sub_cancel_left]
/-- The bytes of a word. -/
def bytesN : Nat → Nat → List Nat
  | 0, _ => []
  | n + 1, m => m % 256 :: bytesN n (m / 256)
theorem bytesN_lt : ∀ (n m : Nat), ∀ b ∈ bytesN n m, b < 256
  | 0, _, _, h => by cases h
  | n + 1, m, b, h => by
    rcases List.mem_cons.1 h with rfl | h
    · exact Nat.mod_lt _ (by omega)
    · exact bytesN_lt n _ b h
theorem bytesN_dig : ∀ (n m : Nat), m < 256 ^ n → dig (bytesN n m) = m
  | 0, m, h => by simp at h; simp [bytesN, dig, h]
  | n + 1, m, h => by
    rw [bytesN, dig, bytesN_dig n (m / 256) (Nat.div_lt_of_lt_mul (by rw [Nat.pow_succ] at h; omega))]
    omega
theorem dig_lt : ∀ {l : List Nat} {k : Nat}, l.length = k → (∀ b ∈ l, b < 256) → dig l < 256 ^ k
  | [], k, e, _ => by subst e; decide
  | b :: l, k, e, h => by
    subst e
    have h1 := dig_lt (l := l) rfl fun c hc => h c (by simp [hc])
    have h2 := h b (by simp)
    rw [dig, List.length_cons, Nat.pow_succ]; omega
theorem div_lo {x lo hi k : Nat} (h : x = lo + k * hi) (hl : lo < k) : x / k = hi := by
  subst h
  rw [Nat.add_mul_div_left _ _ (Nat.zero_lt_of_lt hl), Nat.div_eq_of_lt hl, Nat.zero_add]
/-- The sum of eight small bytes. -/
theorem sum8 {a0 a1 a2 a3 a4 a5 a6 a7 c c1 c2 c3 c4 c5 c6 : Nat} (b0 : a0 ≤ 8) (b1 : a1 ≤ 8) (b2 : a2 ≤ 8) (b3 : a3 ≤ 8) (b4 : a4 ≤ 8) (b5 : a5 ≤ 8) (b6 : a6 ≤ 8) (b7 : a7 ≤ 8) (h6 : c6 = a6 + 256 * a7) (h5 : c5 = a5 + 256 * c6) (h4 : c4 = a4 + 256 * c5) (h3 : c3 = a3 + 256 * c4) (h2 : c2 = a2 + 256 * c3) (h1 : c1 = a1 + 256 * c2) (hc : c = a0 + 256 * c1) :
    c + c / 256 < 18446744073709551616 ∧ (c + c / 256) + (c + c / 256) / 65536 < 18446744073709551616 ∧ ((c + c / 256) + (c + c / 256) / 65536) + ((c + c / 256) + (c + c / 256) / 65536) / 4294967296 < 9223372036854775808 ∧ (((c + c / 256) + (c + c / 256) / 65536) + ((c + c / 256) + (c + c / 256) / 65536) / 4294967296) % 128 = a0 + (a1 + (a2 + (a3 + (a4 + (a5 + (a6 + a7)))))) := by
  have hb : c ≤ 578721382704613384 := by
    have q6 : c6 ≤ 2056 := by omega
    have q5 : c5 ≤ 526344 := by clear h4 h3 h2 h1 hc; omega
    have q4 : c4 ≤ 134744072 := by clear h6 h3 h2 h1 hc; omega
    have q3 : c3 ≤ 34494482440 := by clear h6 h5 h2 h1 hc; omega
    have q2 : c2 ≤ 8830587504648 := by clear h6 h5 h4 h1 hc; omega
    have q1 : c1 ≤ 2260630401189896 := by clear h6 h5 h4 h3 hc; omega
    clear h6 h5 h4 h3 h2 h1; omega
  have e1 : c / 256 = c1 := div_lo (lo := a0) hc (by omega)
  have e2 : (c + c1) / 65536 = c2 + c3 := div_lo (lo := (a0 + a1) + 256 * (a1 + a2)) (by clear b0 b1 b2 b3 b4 b5 b6 b7 h6 h5 h4 hb e1; omega) (by omega)
  have e3 : ((c + c1) + (c2 + c3)) / 4294967296 = (c4 + c5) + (c6 + a7) := div_lo (lo := (a0 + a1 + a2 + a3) + 256 * (a1 + a2 + a3 + a4) + 65536 * (a2 + a3 + a4 + a5) + 16777216 * (a3 + a4 + a5 + a6)) (by clear b0 b1 b2 b3 b4 b5 b6 b7 hb e1 e2; omega) (by clear h6 h5 h4 h3 h2 h1 hc hb e1 e2; omega)
  rw [e1, e2, e3]
  have i1 : c1 ≤ c := by clear h6 h5 h4 h3 h2 h1 e1 e2 e3 hb; omega
  have i2 : c2 ≤ c1 := by clear h6 h5 h4 h3 h2 hc e1 e2 e3 hb; omega
  have i3 : c3 ≤ c2 := by clear h6 h5 h4 h3 h1 hc e1 e2 e3 hb; omega
  have i4 : c4 ≤ c3 := by clear h6 h5 h4 h2 h1 hc e1 e2 e3 hb; omega
  have i5 : c5 ≤ c4 := by clear h6 h5 h3 h2 h1 hc e1 e2 e3 hb; omega
  have i6 : c6 ≤ c5 := by clear h6 h4 h3 h2 h1 hc e1 e2 e3 hb; omega
  have i7 : a7 ≤ c6 := by clear h5 h4 h3 h2 h1 hc e1 e2 e3 hb; omega
  refine ⟨by clear h6 h5 h4 h3 h2 h1 hc e1 e2 e3; omega, by clear h6 h5 h4 h3 h2 h1 hc e1 e2 e3; omega, by clear h6 h5 h4 h3 h2 h1 hc e1 e2 e3; omega, ?_⟩
  have hs : ((c + c1) + (c2 + c3)) + ((c4 + c5) + (c6 + a7)) = (a0 + (a1 + (a2 + (a3 + (a4 + (a5 + (a6 + a7))))))) + 128 * (2 * ((c1 + c2) + (c3 + c4) + (c5 + c6) + a7)) := by
    clear b0 b1 b2 b3 b4 b5 b6 b7 hb e1 e2 e3 i1 i2 i3 i4 i5 i6 i7; omega
  rw [hs, Nat.add_mul_mod_self_left, Nat.mod_eq_of_lt]
  clear h6 h5 h4 h3 h2 h1 hc e1 e2 e3 hb i1 i2 i3 i4 i5 i6 i7 hs; omega
theorem dig_nib : ∀ {l : List Nat} {k : Nat}, l.length = k → (∀ b ∈ l, b < 256 ∧ nib b) → 255 * dig l ≤ 68 * (256 ^ k - 1)
  | [], k, e, _ => by subst e; decide
  | b :: l, k, e, h => by
    subst e
    have h1 := dig_nib (l := l) rfl fun c hc => h c (by simp [hc])
    obtain ⟨h2, h3, h4⟩ := h b (by simp)
    have hp : 0 < 256 ^ l.length := Nat.pow_pos (by omega)
    rw [dig, List.length_cons, Nat.pow_succ]
    omega
/-- The three masks, the three sums. -/
theorem swar {m : Nat} (hm : m < 18446744073709551616) : ∃ a b c : Nat, (m >>> 1 &&& 6148914691236517205) + (m &&& 6148914691236517205) = a ∧ a < 18446744073709551616 ∧ (a >>> 2 &&& 3689348814741910323) + (a &&& 3689348814741910323) = b ∧ b < 18446744073709551616 ∧ b >>> 4 + b < 18446744073709551616 ∧ (b >>> 4 + b) &&& 1085102592571150095 = c ∧ c + c >>> 8 < 18446744073709551616 ∧
    (c + c >>> 8) + (c + c >>> 8) >>> 16 < 18446744073709551616 ∧ ((c + c >>> 8) + (c + c >>> 8) >>> 16) + ((c + c >>> 8) + (c + c >>> 8) >>> 16) >>> 32 < 9223372036854775808 ∧ (((c + c >>> 8) + (c + c >>> 8) >>> 16) + ((c + c >>> 8) + (c + c >>> 8) >>> 16) >>> 32) % 128 = cntB 64 m ∧ cntB 64 m ≤ 64 := by
  have hb := bytesN_lt 8 m
  have hd := bytesN_dig 8 m hm
  have hl : (bytesN 8 m).length = 8 := rfl
  generalize bytesN 8 m = l at *
  subst hd
  have e1 := f1_dig hb
  have hb1 : ∀ b ∈ l.map g1, b < 256 := fun b h => by obtain ⟨c, hc, rfl⟩ := List.mem_map.1 h; exact g1_lt (hb c hc)
  have e2 := f2_dig hb1
  have hb2 : ∀ b ∈ (l.map g1).map g2, b < 256 ∧ nib b := fun b h => by
    obtain ⟨d, hd, rfl⟩ := List.mem_map.1 h
    obtain ⟨c, hc, rfl⟩ := List.mem_map.1 hd
    exact g2_nib (hb c hc)
  have e3 := f3_dig hb2
  have hc := cnt_dig hb
  have q1 := dig_lt (k := 8) (by rw [List.length_map, hl]) hb1
  have q2 := dig_lt (l := (l.map g1).map g2) (k := 8) (by rw [List.length_map, List.length_map, hl]) fun b h => (hb2 b h).1
  rw [List.length_map, hl] at e2
  rw [List.length_map, List.length_map, hl] at e3
  rw [hl] at e1 hc
  have k1 : msk8 85 8 = 6148914691236517205 := by decide +kernel
  have k2 : msk8 51 8 = 3689348814741910323 := by decide +kernel
  have k3 : msk8 15 8 = 1085102592571150095 := by decide +kernel
  rw [k1] at e1
  rw [k2] at e2
  rw [k3] at e3
  have hpop : ((l.map g1).map g2).map g3 = l.map pop8 := by
    rw [List.map_map, List.map_map]
    exact List.map_congr_left fun b h => (g3_pop (hb b h)).1
  rw [hpop] at e3
  have hpl : (l.map pop8).length = 8 := by rw [List.length_map, hl]
  have hp8 : ∀ p ∈ l.map pop8, p ≤ 8 := fun p h => by obtain ⟨c, hc, rfl⟩ := List.mem_map.1 h; exact (g3_pop (hb c hc)).2
  refine ⟨dig (l.map g1), dig ((l.map g1).map g2), dig (l.map pop8), by rw [Nat.shiftRight_eq_div_pow]; exact e1, q1, by rw [Nat.shiftRight_eq_div_pow]; exact e2, q2, ?_, by rw [Nat.shiftRight_eq_div_pow]; exact e3, ?_⟩
  · have hm68 := dig_nib (l := (l.map g1).map g2) (k := 8) (by rw [List.length_map, List.length_map, hl]) fun b h => hb2 b h
    rw [Nat.shiftRight_eq_div_pow]
    omega
  · rw [show (64 : Nat) = 8 * 8 from rfl, hc]
    generalize l.map pop8 = p at *
    match p, hpl with
    | [a0, a1, a2, a3, a4, a5, a6, a7], _ =>
      have b0 := hp8 a0 (by simp)
      have b1 := hp8 a1 (by simp)
      have b2 := hp8 a2 (by simp)
      have b3 := hp8 a3 (by simp)
      have b4 := hp8 a4 (by simp)
      have b5 := hp8 a5 (by simp)
      have b6 := hp8 a6 (by simp)
      have b7 := hp8 a7 (by simp)
      obtain ⟨s1, s2, s3, s4⟩ := sum8 (c := dig [a0, a1, a2, a3, a4, a5, a6, a7]) (c1 := dig [a1, a2, a3, a4, a5, a6, a7]) (c2 := dig [a2, a3, a4, a5, a6, a7]) (c3 := dig [a3, a4, a5, a6, a7]) (c4 := dig [a4, a5, a6, a7]) (c5 := dig [a5, a6, a7]) (c6 := dig [a6, a7]) b0 b1 b2 b3 b4 b5 b6 b7 (by simp [dig]; omega) (by rw [dig, Nat.add_comm]) (by rw [dig, Nat.add_comm]) (by rw [dig, Nat.add_comm]) (by rw [dig, Nat.add_comm]) (by rw [dig, Nat.add_comm]) (by rw [dig, Nat.add_comm])
      have e8 : ∀ x : Nat, x >>> 8 = x / 256 := fun x => by rw [Nat.shiftRight_eq_div_pow]
      have e16 : ∀ x : Nat, x >>> 16 = x / 65536 := fun x => by rw [Nat.shiftRight_eq_div_pow]
      have e32 : ∀ x : Nat, x >>> 32 = x / 4294967296 := fun x => by rw [Nat.shiftRight_eq_div_pow]
      rw [e8, e16, e32]
      have hs : [a0, a1, a2, a3, a4, a5, a6, a7].sum = a0 + (a1 + (a2 + (a3 + (a4 + (a5 + (a6 + a7)))))) := by simp
      rw [hs]
      exact ⟨s1, s2, s3, s4, by omega⟩
theorem cnt_le (m : Nat) : cntB 64 m ≤ 64 := Nat.le_trans List.countP_le_length (by rw [List.length_range]; exact Nat.le_refl _)
end Go.Proofs.YtnpcilglilfajaaGreatDoor
namespace Go.Proofs.YtnpcilglilfajaaGreatDoor
open Go.RowKit
inductive Fm where
  | mk (op : Nat) (n : Int) (rs : List Nat) (al : List Fm)
def Fm.op : Fm → Nat
  | .mk op _ _ _ => op
def Fm.al : Fm → List Fm
  | .mk _ _ _ al => al
mutual
def depF : Fm → Nat
  | .mk _ _ _ al => depFL al + 1
def depFL : List Fm → Nat
  | [] => 0
  | a :: al => max (depF a) (depFL al)
end
mutual
def sizF : Fm → Nat
  | .mk _ _ _ al => sizFL al + 1
def sizFL : List Fm → Nat
  | [] => 0
  | a :: al => sizF a + sizFL al
end
mutual
/-- Room in memory. -/
def wtF : Fm → Nat
  | .mk _ _ rs al => rs.length + wtFL al + 1
def wtFL : List Fm → Nat
  | [] => 0
  | a :: al => wtF a + wtFL al
end
theorem depFL_snoc (a : Fm) : ∀ l : List Fm, depFL (l ++ [a]) = max (depFL l) (depF a)
  | [] => by simp [depFL]
  | b :: l => by rw [List.cons_append, depFL, depFL, depFL_snoc a l]; omega
theorem sizFL_snoc (a : Fm) : ∀ l : List Fm, sizFL (l ++ [a]) = sizFL l + sizF a
  | [] => by simp [sizFL]
  | b :: l => by rw [List.cons_append, sizFL, sizFL, sizFL_snoc a l]; omega
theorem wtFL_app (b : List Fm) : ∀ l : List Fm, wtFL (l ++ b) = wtFL l + wtFL b
  | [] => by simp [wtFL]
  | a :: l => by rw [List.cons_append, wtFL, wtFL, wtFL_app b l]; omega
theorem wtFL_snoc (a : Fm) (l : List Fm) : wtFL (l ++ [a]) = wtFL l + wtF a := by rw [wtFL_app]; simp [wtFL]
theorem wtFL_mem {a : Fm} : ∀ {l : List Fm}, a ∈ l → wtF a ≤ wtFL l
  | b :: l, h => by
    rw [wtFL]
    rcases List.mem_cons.1 h with rfl | h
    · omega
    · have := wtFL_mem h; omega
theorem wtF_pos (f : Fm) : 1 ≤ wtF f := by cases f; rw [wtF]; omega
theorem wtFL_len : ∀ l : List Fm, l.length ≤ wtFL l
  | [] => Nat.zero_le _
  | a :: l => by rw [wtFL, List.length_cons]; have := wtFL_len l; have := wtF_pos a; omega
mutual
theorem dep_wtF : ∀ f : Fm, depF f ≤ wtF f
  | .mk _ _ _ al => by rw [depF, wtF]; have := dep_wtFL al; omega
theorem dep_wtFL : ∀ l : List Fm, depFL l ≤ wtFL l
  | [] => Nat.zero_le _
  | a :: l => by rw [depFL, wtFL]; have := dep_wtF a; have := dep_wtFL l; omega
end
mutual
theorem siz_wtF : ∀ f : Fm, sizF f ≤ wtF f
  | .mk _ _ _ al => by rw [sizF, wtF]; have := siz_wtFL al; omega
theorem siz_wtFL : ∀ l : List Fm, sizFL l ≤ wtFL l
  | [] => Nat.zero_le _
  | a :: l => by rw [sizFL, wtFL]; have := siz_wtF a; have := siz_wtFL l; omega
end
def argF (op : Nat) : Nat := if op < 7 then 0 else if op = 7 then 1 else 2
def leaF (op : Nat) : Nat := if op = 4 ∨ op = 5 ∨ op = 6 then 1 else 0
def mosF (op : Nat) : Nat := if op = 4 ∨ op = 6 then 1 else if op = 5 then 8 else 0
/-- The error of an operator without its operands. -/
def ownF (op : Nat) (n : Int) (rs : List Nat) (k : Nat) : Int :=
  if op < 1 ∨ 16 < op ∨ k ≠ argF op then 1 else if (op ≠ 1 ∧ n ≠ 0) ∨ rs.length < leaF op ∨ mosF op < rs.length then 6 else if n < 0 ∨ 999999 < n then 2 else if ∃ r ∈ rs, r < 1 ∨ 63 < r then 2 else if ¬rs.Nodup then 5 else 0
/-- Operators that a kind does not take; 0: any kind. -/
def kinF (kind op : Nat) : Prop := (kind = 3 ∧ (op = 4 ∨ op = 5)) ∨ (kind ≠ 0 ∧ kind ≠ 3 ∧ op = 6)
instance (kind op : Nat) : Decidable (kinF kind op) := inferInstanceAs (Decidable (_ ∨ _))
mutual
/-- The first error of the operators. -/
def insF (kind : Nat) : Fm → Int
  | .mk op n rs al => if ownF op n rs al.length ≠ 0 then ownF op n rs al.length else if kinF kind op then 10 else insFL kind al
def insFL (kind : Nat) : List Fm → Int
  | [] => 0
  | a :: al => if insF kind a ≠ 0 then insF kind a else insFL kind al
end
def resT (op : Nat) : Nat := if op = 1 ∨ op = 5 ∨ op = 6 ∨ op = 16 then 2 else 1
def wanT (op : Nat) : Nat := if 11 ≤ op then 2 else 1
mutual
/-- Whether all operands have the types that their operators need. -/
def fitF : Fm → Bool
  | .mk op _ _ al => fitFL (wanT op) al
def fitFL (w : Nat) : List Fm → Bool
  | [] => true
  | a :: al => decide (resT a.op = w) && fitF a && fitFL w al
end
def lookF (kind : Nat) (f : Fm) : Int := if 10 < depF f ∨ 200 < sizF f then 3 else insF kind f
def typF (f : Fm) : Nat × Int := if lookF 0 f ≠ 0 then (0, lookF 0 f) else if fitF f = false then (0, 10) else (resT f.op, 0)
/-- The numbers of a list, as a set. -/
def mskF (l : List Nat) : Nat := l.foldl (fun m i => m ||| 2 ^ i) 0
mutual
def menF : Fm → Nat
  | .mk _ _ rs al => mskF rs ||| menFL al
def menFL : List Fm → Nat
  | [] => 0
  | a :: al => menF a ||| menFL al
end
def chkF (kind : Nat) (f : Fm) : Int := if kind < 1 ∨ 3 < kind then 1 else if lookF kind f ≠ 0 then lookF kind f else if fitF f = false ∨ resT f.op ≠ 1 then 10 else if kind ≠ 3 ∧ 8 < cntB 64 (menF f) then 3 else 0
theorem insFL_app (kind : Nat) (b : List Fm) : ∀ l : List Fm, insFL kind (l ++ b) = if insFL kind l ≠ 0 then insFL kind l else insFL kind b
  | [] => by simp [insFL]
  | a :: l => by
    rw [List.cons_append, insFL, insFL, insFL_app kind b l]
    by_cases h : insF kind a ≠ 0
    · rw [if_pos h, if_pos h, if_pos h]
    · rw [if_neg h, if_neg h]
theorem fitFL_app (w : Nat) (b : List Fm) : ∀ l : List Fm, fitFL w (l ++ b) = (fitFL w l && fitFL w b)
  | [] => by simp [fitFL]
  | a :: l => by rw [List.cons_append, fitFL, fitFL, fitFL_app w b l]; simp only [Bool.and_assoc]
theorem menFL_app (b : List Fm) : ∀ l : List Fm, menFL (l ++ b) = menFL l ||| menFL b
  | [] => by simp [menFL]
  | a :: l => by rw [List.cons_append, menFL, menFL, menFL_app b l, Nat.or_assoc]
/-- The bit of a set. -/
theorem mskF_bit (l : List Nat) (j : Nat) : (mskF l).testBit j = decide (j ∈ l) := by
  have key : ∀ (l : List Nat) (m : Nat), (l.foldl (fun m i => m ||| 2 ^ i) m).testBit j = (m.testBit j || decide (j ∈ l)) := by
    intro l
    induction l with
    | nil => intro m; simp
    | cons i l ih =>
      intro m
      rw [List.foldl_cons, ih, Nat.testBit_or, Nat.testBit_two_pow]
      by_cases h : i = j
      · subst h; simp
      · have h' : j ≠ i := fun e => h e.symm
        simp [h, h']
  rw [mskF, key]
  simp
/-- As many members as numbers: exactly if no number stands twice. -/
theorem cnt_msk {l : List Nat} (h : ∀ r ∈ l, r < 64) : cntB 64 (mskF l) = l.length ↔ l.Nodup := by
  have e : cntB 64 (mskF l) = ((List.range 64).filter fun i => decide (i ∈ l)).length := by
    rw [cntB, List.countP_eq_length_filter]
    congr 2
    funext i
    exact mskF_bit l i
  rw [e]
  have hn : ((List.range 64).filter fun i => decide (i ∈ l)).Nodup := List.Pairwise.filter _ List.nodup_range
  have hsub : ∀ i ∈ (List.range 64).filter (fun i => decide (i ∈ l)), i ∈ l := fun i hi => by simpa using (List.mem_filter.1 hi).2
  have hsup : ∀ i ∈ l, i ∈ (List.range 64).filter (fun i => decide (i ∈ l)) := fun i hi => List.mem_filter.2 ⟨List.mem_range.2 (h i hi), by simpa using hi⟩
  generalize (List.range 64).filter (fun i => decide (i ∈ l)) = q at *
  clear e
  constructor
  · intro hlen
    clear h
    induction l generalizing q with
    | nil => exact List.nodup_nil
    | cons a l ih =>
      have ha := hsup a (by simp)
      have hql : (q.erase a).length = l.length := by
        have := List.length_erase_of_mem ha
        rw [List.length_cons] at hlen; omega
      have h1 : ∀ i ∈ q.erase a, i ∈ l := fun i hi => by
        obtain ⟨h1, h2⟩ := hn.mem_erase_iff.1 hi
        rcases List.mem_cons.1 (hsub i h2) with e | e
        · exact absurd e h1
        · exact e
      have hal : a ∉ l := fun hal => by
        have hpig : ∀ (q l : List Nat), q.Nodup → (∀ i ∈ q, i ∈ l) → q.length ≤ l.length := by
          intro q
          induction q with
          | nil => intro l _ _; exact Nat.zero_le _
          | cons b q ihq =>
            intro l hn hs
            have hb := hs b (by simp)
            have := ihq (l.erase b) (List.nodup_cons.1 hn).2 fun i hi => (List.mem_erase_of_ne (fun e => (List.nodup_cons.1 hn).1 (by rw [← e]; exact hi))).2 (hs i (by simp [hi]))
            rw [List.length_erase_of_mem hb] at this
            have := List.length_pos_of_mem hb
            rw [List.length_cons]; omega
        have := hpig q l hn fun i hi => by
          rcases List.mem_cons.1 (hsub i hi) with e | e
          · exact e ▸ hal
          · exact e
        rw [List.length_cons] at hlen; omega
      have h2 : ∀ i ∈ l, i ∈ q.erase a := fun i hi => (List.mem_erase_of_ne (fun e => hal (by rw [← e]; exact hi))).2 (hsup i (by simp [hi]))
      exact List.nodup_cons.2 ⟨hal, ih (q.erase a) (hn.erase a) h1 h2 hql⟩
  · intro hl
    have hperm : ∀ (q l : List Nat), q.Nodup → l.Nodup → (∀ i ∈ q, i ∈ l) → q.length ≤ l.length := by
      intro q
      induction q with
      | nil => intro l _ _ _; exact Nat.zero_le _
      | cons b q ihq =>
        intro l hn hl hs
        have hb := hs b (by simp)
        have := ihq (l.erase b) (List.nodup_cons.1 hn).2 (hl.erase b) fun i hi => (List.mem_erase_of_ne (fun e => (List.nodup_cons.1 hn).1 (by rw [← e]; exact hi))).2 (hs i (by simp [hi]))
        rw [List.length_erase_of_mem hb] at this
        have := List.length_pos_of_mem hb
        rw [List.length_cons]; omega
    have a1 := hperm q l hn hl hsub
    have a2 := hperm l q hl hn hsup
    omega
theorem ownF_ok {op k : Nat} {n : Int} {rs : List Nat} (h : ownF op n rs k = 0) : 1 ≤ op ∧ op ≤ 16 ∧ k = argF op ∧ (op ≠ 1 → n = 0) ∧ leaF op ≤ rs.length ∧ rs.length ≤ mosF op ∧ 0 ≤ n ∧ n ≤ 999999 ∧ (∀ r ∈ rs, 1 ≤ r ∧ r ≤ 63) ∧ rs.Nodup := by
  unfold ownF at h
  split at h
  · cases h
  · rename_i c1
    split at h
    · cases h
    · rename_i c2
      split at h
      · cases h
      · rename_i c3
        split at h
        · cases h
        · rename_i c4
          split at h
          · cases h
          · rename_i c5
            refine ⟨by omega, by omega, by omega, fun ho => ?_, by omega, by omega, by omega, by omega, fun r hr => ?_, Classical.not_not.1 c5⟩
            · rcases Classical.em (n = 0) with hn | hn
              · exact hn
              · exact absurd (.inl ⟨ho, hn⟩) c2
            · have h7 : ¬(r < 1 ∨ 63 < r) := fun hh => c4 ⟨r, hr, hh⟩
              omega
theorem insF_ok {kind op : Nat} {n : Int} {rs : List Nat} {al : List Fm} (h : insF kind (.mk op n rs al) = 0) : ownF op n rs al.length = 0 ∧ ¬kinF kind op ∧ insFL kind al = 0 := by
  rw [insF] at h
  split at h
  · rename_i hc; exact absurd h hc
  · rename_i hc
    split at h
    · cases h
    · rename_i hk; exact ⟨Classical.not_not.1 hc, hk, h⟩
theorem insFL_zero {kind : Nat} : ∀ {l : List Fm}, insFL kind l = 0 → ∀ a ∈ l, insF kind a = 0
  | b :: l, h, a, ha => by
    rw [insFL] at h
    split at h
    · rename_i hc; exact absurd h hc
    · rename_i hc
      rcases List.mem_cons.1 ha with rfl | ha
      · exact Classical.not_not.1 hc
      · exact insFL_zero h a ha
end Go.Proofs.YtnpcilglilfajaaGreatDoor
namespace Go.Proofs.YtnpcilglilfajaaGreatDoor
open Go.RowKit
mutual
/-- Operators of a byte. -/
def opsF : Fm → Prop
  | .mk op _ _ al => op < 256 ∧ opsFL al
def opsFL : List Fm → Prop
  | [] => True
  | a :: al => opsF a ∧ opsFL al
end
theorem opsFL_mem {a : Fm} : ∀ {l : List Fm}, opsFL l → a ∈ l → opsF a
  | b :: l, h, ha => by
    rw [opsFL] at h
    rcases List.mem_cons.1 ha with rfl | ha
    · exact h.1
    · exact opsFL_mem h.2 ha
end Go.Proofs.YtnpcilglilfajaaGreatDoor
namespace Go.Proofs.YtnpcilglilfajaaGreatDoor
open Go.RowKit
def numGo (v k : Nat) : List Nat → Nat × Nat
  | [] => (0, 0)
  | b :: bs => if k = 0 ∧ b = 128 ∨ 144115188075855871 < v then (0, 0) else if b < 128 then (v * 128 + b % 128, k + 1) else numGo (v * 128 + b % 128) (k + 1) bs
def numR (bs : List Nat) : Nat × Nat := numGo 0 0 bs
/-- What is read is the encoding of the number. -/
theorem numGo_enc : ∀ (bs : List Nat) (v k : Nat), (∀ b ∈ bs, b < 256) → (k = 0 → v = 0) → (0 < k → 0 < v) → (numGo v k bs).2 ≠ 0 → k < (numGo v k bs).2 ∧ (numGo v k bs).2 - k ≤ bs.length ∧ numHi v ++ bs.take ((numGo v k bs).2 - k) = numB (numGo v k bs).1
  | [], _, _, _, _, _, h => by simp [numGo] at h
  | b :: bs, v, k, hb, h0, h1, h => by
    rw [numGo] at h ⊢
    by_cases hc : k = 0 ∧ b = 128 ∨ 144115188075855871 < v
    · rw [if_pos hc] at h; simp at h
    · rw [if_neg hc] at h ⊢
      have hb0 := hb b (by simp)
      by_cases hl : b < 128
      · rw [if_pos hl]
        refine ⟨by simp, by simp, ?_⟩
        simp only [Nat.add_sub_cancel_left, List.take_succ_cons, List.take_zero]
        rw [numB, show (v * 128 + b % 128) / 128 = v by omega, show (v * 128 + b % 128) % 128 = b by omega]
      · rw [if_neg hl] at h ⊢
        have hv' : v * 128 + b % 128 ≠ 0 := by
          rcases Nat.eq_zero_or_pos k with hk | hk
          · have := h0 hk; omega
          · have := h1 hk; omega
        obtain ⟨g1, g2, g3⟩ := numGo_enc bs (v * 128 + b % 128) (k + 1) (fun x hx => hb x (by simp [hx])) (by omega) (by omega) h
        refine ⟨by omega, by simp only [List.length_cons]; omega, ?_⟩
        rw [← g3, numHi_pos hv', show (v * 128 + b % 128) / 128 = v by omega, show 128 + (v * 128 + b % 128) % 128 = b by omega]
        obtain ⟨d, hd⟩ : ∃ d, (numGo (v * 128 + b % 128) (k + 1) bs).2 - k = d + 1 := ⟨(numGo (v * 128 + b % 128) (k + 1) bs).2 - k - 1, by omega⟩
        rw [hd, List.take_succ_cons, show (numGo (v * 128 + b % 128) (k + 1) bs).2 - (k + 1) = d by omega]
        simp
theorem numR_enc {bs : List Nat} (hb : ∀ b ∈ bs, b < 256) (h : (numR bs).2 ≠ 0) : (numR bs).2 ≤ bs.length ∧ bs.take (numR bs).2 = numB (numR bs).1 := by
  obtain ⟨_, h2, h3⟩ := numGo_enc bs 0 0 hb (fun _ => rfl) (fun h => by omega) h
  rw [numHi_zero, List.nil_append, Nat.sub_zero] at h3
  exact ⟨by simpa [numR] using h2, h3⟩
end Go.Proofs.YtnpcilglilfajaaGreatDoor
namespace Go.Proofs.YtnpcilglilfajaaGreatDoor
section
set_option maxRecDepth 100000
theorem en134 : Enters Tryz.prog 134 := enters_mk Tryz.func134 (by kernel_rfl) rfl
end
open Go.RowKit
theorem BytesR.take {X : PMap} {A : Option Addr} {cp : Nat} {bs : List Nat} (h : BytesR X (.slice A bs.length cp) bs) (hc : bs.length ≤ cp) {k : Nat} (hk : k ≤ bs.length) : BytesR X (.slice (slA A cp 0 1) k cp) (bs.take k) := by
  rcases Nat.eq_zero_or_pos k with rfl | h0
  · exact .inl ⟨by simp, _, _, rfl⟩
  · obtain ⟨b, pre, rfl, hB⟩ := h.blk (by omega)
    refine .inr ⟨by simp; omega, b, cp, pre, ?_, ?_⟩
    · rw [slA, if_neg (by omega), List.length_take, Nat.min_eq_left hk]; simp [Addr.add]
    · obtain ⟨rest, ty, fr, hx⟩ := hB
      refine ⟨bytesC (bs.drop k) ++ rest, ty, fr, ?_⟩
      have e : bytesC bs = bytesC (bs.take k) ++ bytesC (bs.drop k) := by rw [← bytesC_append, List.take_append_drop]
      rw [hx, e]
      simp
theorem BytesR.drop {X : PMap} {A : Option Addr} {cp : Nat} {bs : List Nat} (h : BytesR X (.slice A bs.length cp) bs) (hc : bs.length ≤ cp) {k : Nat} (hk : k ≤ bs.length) : BytesR X (.slice (slA A cp k 1) (bs.length - k) (cp - k)) (bs.drop k) := by
  rcases Nat.eq_or_lt_of_le hk with rfl | h0
  · exact .inl ⟨by simp, _, _, by rw [Nat.sub_self]⟩
  · obtain ⟨b, pre, rfl, hB⟩ := h.blk (by omega)
    refine .inr ⟨by simp; omega, b, cp - k, pre ++ bytesC (bs.take k), ?_, ?_⟩
    · rw [slA, if_neg (by omega), List.length_append, bytesC_len, List.length_take, Nat.min_eq_left hk, List.length_drop]; simp [Addr.add]
    · rwa [List.append_assoc, ← bytesC_append, List.take_append_drop]
/-- A slice of bytes that can be cut. -/
def CutR (X : PMap) (v : Value) (bs : List Nat) : Prop := BytesR X v bs ∧ (∃ A cp, v = .slice A bs.length cp ∧ bs.length ≤ cp) ∧ ∀ b ∈ bs, b < 256
theorem CutR.mono {X X' : PMap} {v : Value} {bs : List Nat} (h : CutR X v bs) (hX : X.le X') : CutR X' v bs := ⟨h.1.mono hX, h.2⟩
section
variable {X : PMap} {b : Nat} {sv : Value} {e : Int}
theorem CutR.len {X : PMap} {v : Value} {bs : List Nat} (_ : CutR X v bs) {k : Nat} (h : (numR bs).2 ≠ 0) (hk : k = (numR bs).2) (hb : ∀ b ∈ bs, b < 256) : k ≤ bs.length := by subst hk; exact (numR_enc hb h).1
end
end Go.Proofs.YtnpcilglilfajaaGreatDoor
namespace Go.Proofs.YtnpcilglilfajaaGreatDoor
open Go.ChangeShapes Go.WideShapes Go.ChangeAt Go.RowKit Go.Joins Go.Deep
end Go.Proofs.YtnpcilglilfajaaGreatDoor
namespace Go.Proofs.YtnpcilglilfajaaGreatDoor
open Go.RowKit Go.MapKept
section
variable {P : Program} {n : NM} {w0 : Base} {X0 X : PMap} {own : Own} {env : Env}
theorem PMap.add_at {b : Nat} {o : Obj} : X.add b o b = some o := by simp [PMap.add]
theorem PMap.add_ne {b k : Nat} {o : Obj} (h : k ≠ b) : X.add b o k = X k := by simp [PMap.add, h]
theorem PMap.le_add {b : Nat} {o : Obj} {Y : PMap} (h : Y.le X) (hb : Y b = none) : Y.le (X.add b o) := fun k q hk => by
  have hne : k ≠ b := fun e => by rw [e, hb] at hk; cases hk
  rw [PMap.add_ne hne]; exact h k q hk
/-- A new block of any kind, public at once. -/
theorem Sat.lay {W : World} (h : Sat w0 X0 own X W) (o : Obj) : Sat w0 X0 own (X.add W.heap.size o) (W.alloc o) := by
  refine h.call ((Below.refl _ W).alloc (Nat.le_refl _) _) (fun k q hk => ?_) fun k hk => PMap.add_ne (Nat.ne_of_lt hk)
  by_cases e : k = W.heap.size
  · subst e; rw [PMap.add_at] at hk; cases hk; exact (heap_alloc W _).1
  · rw [PMap.add_ne e] at hk; exact (Grow.alloc W _).pin h.stab.pers k q hk
/-- A block of no own cells, new since the call began, is written anew. -/
theorem Sat.rewrite {W : World} (h : Sat w0 X0 own X W) {b : Nat} {o : Obj} (hb : X b = some o) (hn : w0.w.heap.size ≤ b) (o' : Obj) : Sat w0 X0 own (X.add b o') { W with heap := W.heap.setIfInBounds b o' } := by
  have hin := h.stab.pers b o hb
  obtain ⟨k1, k2⟩ := heap_set (o' := o') hin
  have hne : ∀ p ∈ own, p.b ≠ b := fun p hp e => by have := h.apart p hp; rw [e, hb] at this; cases this
  refine ⟨⟨⟨h.below.os, h.below.tape, h.below.output, by simpa using h.below.size, fun k hk => (k2 k (by omega)).trans (h.below.block k hk)⟩, fun k hk => (PMap.add_ne (by omega)).trans (h.old k hk), ⟨fun p hp => ?_, fun k q hk => ?_⟩, h.new, fun p hp => (PMap.add_ne (hne p hp)).trans (h.apart p hp), h.nodup⟩, fun p hp => ?_⟩
  · obtain ⟨r, h1, h2⟩ := h.stab.own p hp
    exact ⟨r, (k2 _ (hne p hp)).trans h1, h2⟩
  · by_cases e : k = b
    · subst e; rw [PMap.add_at] at hk; cases hk; exact k1
    · rw [PMap.add_ne e] at hk; exact (k2 k e).trans (h.stab.pers k q hk)
  · obtain ⟨g1, g2, g3, g4⟩ := h.res p hp
    have e : p.1 ≠ b := fun e => by rw [e, hb] at g2; cases g2
    exact ⟨(k2 _ e).trans g1, (PMap.add_ne e).trans g2, g3, g4⟩
/-- make of a map. -/
theorem op_makeMap {t : TypeId} : OpX P n w0 X0 env own X (.makeMap t none) true fun u own' X' => ∃ b, u = .map (some b) ∧ own = own' ∧ X b = none ∧ w0.w.heap.size ≤ b ∧ X' = X.add b (.map #[] 0) := by
  intro a W oper K Q ro hop ha hs hK
  have hex : (execOp a.eval oper).run P W = .ok (.value (.map (some W.heap.size))) (W.alloc (.map #[] 0)) := by
    simp [execOp, hop, Instr.makeMap, newObj, Sem.run, World.alloc_eq]
  exact wp_value (noDefer_spec (by rw [hop]; rfl)) hex (hK _ _ _ _ ⟨_, rfl, rfl, hs.stab.pers.fresh, hs.below.size, rfl⟩ (hs.lay _) fun _ => Grow.alloc W _)
/-- A map against nil. -/
theorem op_eqlMapNil {t t' k e : TypeId} {x y : Operand} {o : Option Nat} (ht : P.underlying t = some (.map k e)) (hx : eev env x = some (.map o)) (hy : eev env y = some (.map none)) : OpY P n env own X (.binOp .eql t x y t') (.bool o.isNone) := by
  intro a W oper hop ha _
  have h0 : ∀ (e : BinOp) (u v : Operand), eqGuard e t u v (.map o) (.map none) = pure () := fun e u v => by cases e <;> rfl
  have h1 : (Op.equal t (.map o) (.map none)).run P W = .ok o.isNone W := by
    have h : ∀ d : Nat, (Op.equalIn (d + 1) t (.map o) (.map none)).run P W = .ok o.isNone W := fun d => by cases o <;> simp [Op.equalIn, run_underlying ht]
    exact h 9999
  simp only [execOp, hop, ha.eval hx, ha.eval hy, binOp, h0, Sem.run_bind, Sem.run_pure, Result.andThen_ok, h1]
theorem op_makeIface {t : TypeId} {x : Operand} {v : Value} {d : TypeDesc} (ht : P.underlying t = some d) (hd : ∀ m, d ≠ .interface m) (hx : eev env x = some v) : OpY P n env own X (.makeInterface t x) (.iface t v) := by
  intro a W oper hop ha _
  have h1 : (Instr.makeInterface t v).run P W = .ok (.iface t v) W := by
    cases d <;> simp_all [Instr.makeInterface, run_underlying ht]
  simp [execOp, hop, ha.eval hx, h1]
theorem op_assertMap {t xT k e : TypeId} {x : Operand} {v : Value} (ht : P.underlying t = some (.map k e)) (hx : eev env x = some (.iface t v)) : OpY P n env own X (.typeAssert x xT t false) v := by
  intro a W oper hop ha _
  have h1 : (Instr.typeAssert (.iface t v) xT t false).run P W = .ok v W := by simp [Instr.typeAssert, run_underlying ht, Result.andThen]
  simp [execOp, hop, ha.eval hx, h1]
/-- maps.clone: a new block with the same entries. -/
theorem op_cloneMap {f : FuncId} {gn : Func} {x : Operand} {ts : Array TypeId} {t : TypeId} {b : Nat} {es : Array MapEntry} {clk : Nat} (hf : P.funcs[f]? = some gn) (h1 : (gn.name == "runtime.NumGoroutine") = false) (h2 : gn.body.isNone = true) (h3 : Extern.findNext gn = none) (h4 : Extern.find gn = some Extern.MapsClone.clone)
    (hx : eev env x = some (.iface t (.map (some b)))) (hb : X b = some (.map es clk)) :
    OpX P n w0 X0 env own X (.call { callee := .value (.func f), args := #[x], argTypes := ts }) true fun u own' X' => ∃ b', u = .iface t (.map (some b')) ∧ own = own' ∧ X b' = none ∧ w0.w.heap.size ≤ b' ∧ X' = X.add b' (.map es clk) := by
  intro a W oper K Q ro hop ha hs hK
  have hc : a.eval (.func f) = .func (.func f) #[] #[] := ha.eval rfl
  have hr2 := run_callFunc_extern hf h1 h2 h3 h4 #[.iface t (.map (some b))] W
  have hcl : (Extern.MapsClone.clone #[.iface t (.map (some b))]).run P W = .ok (.iface t (.map (some W.heap.size))) (W.alloc (.map es clk)) := by
    show (Sem.getObj b Sem.pure >>= fun o => match o with
        | .map entries clock => (newObj (.map entries clock) >>= fun n => pure (.iface t (.map (some n))))
        | _ => stuck "maps.clone: a map expected" : Sem Value).run P W = _
    have hg := hs.stab.pers _ _ hb
    rw [Sem.run_bind, show (Sem.getObj b Sem.pure).run P W = .ok (.map es clk) W from MapKept.run_getObj_map hg]
    simp [Result.andThen, newObj, Sem.run, World.alloc_eq]
  rw [hcl] at hr2
  have hex : (execOp a.eval oper).run P W = .ok (.value (.iface t (.map (some W.heap.size)))) (W.alloc (.map es clk)) := by
    simp only [execOp, hop, resolve, hc, Deferred.ofValue, invoke, Sem.run_bind, Sem.run_pure, Result.andThen_ok]
    simpa [ha.eval hx] using hr2
  exact wp_value (noDefer_spec (by rw [hop]; rfl)) hex (hK _ _ _ _ ⟨_, rfl, rfl, hs.stab.pers.fresh, hs.below.size, rfl⟩ (hs.lay _) fun _ => Grow.alloc W _)
/-- A call, and what is new in it. -/
theorem op_callN {f : FuncId} {xs : Array Operand} {ts : Array TypeId} {vs : List Value} {Φ : Value → PMap → Prop} (he : Enters P f) (hx : xs.toList.map (eev env) = vs.map some)
    (h : Spec P f vs X Φ) : OpX P n w0 X0 env own X (.call { callee := .value (.func f), args := xs, argTypes := ts }) true fun v own' X' => own = own' ∧ X.le X' ∧ (∀ k, X k = none → X' k ≠ none → w0.w.heap.size ≤ k) ∧ Φ v X' := by
  intro a W oper K Q ro hop ha hs hK
  have all : ∀ (xs : List Operand) (vs : List Value), xs.map (eev env) = vs.map some → xs.map a.eval = vs := by
    intro xs
    induction xs with
    | nil => intro vs h; cases vs <;> simp_all
    | cons x xs ih =>
      intro vs h
      cases vs with
      | nil => simp at h
      | cons v vs =>
        simp only [List.map_cons, List.cons.injEq] at h
        simp [ha.eval h.1, ih vs h.2]
  have h1 : xs.map a.eval = vs.toArray := by apply Array.toList_inj.1; simp [all _ _ hx]
  have hc : a.eval (.func f) = .func (.func f) #[] #[] := ha.eval rfl
  have hex : (execOp a.eval oper).run P W = .ok (.enter f vs.toArray) W := by
    simp only [execOp, hop, resolve, hc, h1, Deferred.ofValue, invoke, Sem.run_bind, Sem.run_pure, Result.andThen_ok]
    simpa using he vs.toArray W
  refine wp_enters (noDefer_spec (by rw [hop]; rfl)) hex ((h W hs.stab.pers).mono fun e w' hfin => ?_)
  obtain ⟨v, X', rfl, hb, hp, hk, hΦ⟩ := hfin
  refine ⟨v, rfl, ?_⟩
  refine hK v own X' w' ⟨rfl, fun q o hq => (hk q (hs.stab.pers.lt hq)).trans hq, fun k h1 h2 => ?_, hΦ⟩ (hs.call hb hp hk) fun _ => Grow.of_below hb
  rcases Nat.lt_or_ge k W.heap.size with h3 | h3
  · exact absurd ((hk k h3).trans h1) h2
  · exact Nat.le_trans hs.below.size h3
/-- The entries of names in a row, numbered from 1. -/
def entsOf (ns : List ByteArray) : List MapEntry := (List.range ns.length).map fun (i : Nat) => ⟨.string ((ns[i]?).getD ⟨#[]⟩), .int .i64 ((i : Int) + 1), i⟩
def MapObj (ns : List ByteArray) : Obj := .map (entsOf ns).toArray ns.length
/-- The number of a name, from 1; 0: it is not there. -/
def posN (s : ByteArray) : List ByteArray → Nat
  | [] => 0
  | t :: l => if s = t then 1 else if posN s l = 0 then 0 else posN s l + 1
def MapAt (X : PMap) (ns : List ByteArray) : Option Nat → Prop
  | none => ns = []
  | some b => X b = some (MapObj ns)
theorem posN_pos {s : ByteArray} : ∀ {ns : List ByteArray}, 0 < posN s ns ↔ s ∈ ns
  | [] => by simp [posN]
  | t :: l => by
    have ih := posN_pos (s := s) (ns := l)
    rw [posN]
    by_cases h : s = t
    · rw [if_pos h]; simp [h]
    · rw [if_neg h]
      by_cases h0 : posN s l = 0
      · rw [if_pos h0]
        have : s ∉ l := fun hm => by have := ih.2 hm; omega
        simp [h, this]
      · rw [if_neg h0]
        have : s ∈ l := ih.1 (by omega)
        simp [this]
theorem posN_le {s : ByteArray} : ∀ {ns : List ByteArray}, posN s ns ≤ ns.length
  | [] => by simp [posN]
  | t :: l => by
    have ih := posN_le (s := s) (ns := l)
    rw [posN, List.length_cons]
    split
    · omega
    · split <;> omega
theorem entsOf_snoc (ns : List ByteArray) (s : ByteArray) : entsOf (ns ++ [s]) = entsOf ns ++ [⟨.string s, .int .i64 ((ns.length : Int) + 1), ns.length⟩] := by
  unfold entsOf
  rw [List.length_append, List.length_singleton, List.range_succ, List.map_append, List.map_singleton]
  congr 1
  · refine List.map_congr_left fun i hi => ?_
    rw [List.getElem?_append_left (List.mem_range.1 hi)]
  · simp
/-- What findNow finds. -/
theorem findNow_pos (s : ByteArray) : ∀ (ns : List ByteArray) (f : Nat → Value) (g : Nat → Nat) (i : Nat), ∃ r, Instr.findNow .string (.string s) ((List.range ns.length).map fun q => ⟨.string ((ns[q]?).getD ⟨#[]⟩), f q, g q⟩) i = some r ∧ (posN s ns = 0 → r = none) ∧ (∀ k, posN s ns = k + 1 → ∃ q, r = some (q, f k))
  | [], f, g, i => ⟨none, rfl, fun _ => rfl, fun k h => by cases h⟩
  | t :: ns, f, g, i => by
    have e : (List.range (t :: ns).length).map (fun q => (⟨.string (((t :: ns)[q]?).getD ⟨#[]⟩), f q, g q⟩ : MapEntry)) = ⟨.string t, f 0, g 0⟩ :: (List.range ns.length).map (fun q => (⟨.string ((ns[q]?).getD ⟨#[]⟩), f (q + 1), g (q + 1)⟩ : MapEntry)) := by
      rw [List.length_cons, List.range_succ_eq_map, List.map_cons, List.map_map]
      congr 1
    rw [e]
    by_cases h : s = t
    · subst h
      have hp : posN s (s :: ns) = 1 := by rw [posN, if_pos rfl]
      refine ⟨some (i, f 0), ?_, fun h => absurd (hp.symm.trans h) (by decide), fun k hk => ⟨i, ?_⟩⟩
      case refine_2 =>
        have hk' := hp.symm.trans hk
        obtain rfl : k = 0 := by omega
        rfl
      have : (s == s) = true := (bytes_beq s s).2 rfl
      simp [Instr.findNow, Instr.sameNow, this]
    · obtain ⟨r, h1, h2, h3⟩ := findNow_pos s ns (fun q => f (q + 1)) (fun q => g (q + 1)) (i + 1)
      have hb : (s == t) = false := by
        cases hq : (s == t) with
        | false => rfl
        | true => exact absurd ((bytes_beq s t).1 hq) h
      refine ⟨r, ?_, ?_, ?_⟩
      · simp only [Instr.findNow, Instr.sameNow, hb]; exact h1
      · rw [posN, if_neg h]; intro hp; split at hp
        · rename_i h0; exact h2 h0
        · cases hp
      · intro k hk
        rw [posN, if_neg h] at hk
        split at hk
        · cases hk
        · obtain ⟨q, hq⟩ : ∃ q, posN s ns = q + 1 := ⟨posN s ns - 1, by omega⟩
          obtain rfl : k = q + 1 := by omega
          exact h3 q hq
/-- The number of a name in a map of names. -/
theorem op_lookupN {xT kt et : TypeId} {x y : Operand} {om : Option Nat} {ns : List ByteArray} {s : ByteArray} (ht : P.underlying xT = some (.map kt et)) (hk : P.underlying kt = some .string) (hz : (P.info? et).bind (·.zero) = some (.int .i64 0))
    (hx : eev env x = some (.map om)) (hy : eev env y = some (.string s)) (hm : MapAt X ns om) :
    OpY P n env own X (.lookup xT x y false) (.int .i64 (posN s ns : Int)) := by
  intro a W oper hop ha hst
  obtain ⟨i, hi, hiz⟩ := Option.bind_eq_some_iff.1 hz
  have hzr : (zeroValue et).run P W = .ok (.int .i64 0) W := by simp [zeroValue, typeInfo, hi, hiz]
  obtain ⟨r, h1, h2, h3⟩ := findNow_pos s ns (fun q => .int .i64 ((q : Int) + 1)) (fun q => q) 0
  have hf : (Instr.findKey kt (.string s) (entsOf ns)).run P W = .ok r W := MapKept.run_findKey hk h1
  have hck : ∀ e, (Instr.checkKey e 10000 kt (.string s)).run P W = .ok () W := fun e => MapKept.run_checkKey hk (by trivial) e 9999
  have hl : (Instr.lookup xT (.map om) (.string s) false).run P W = .ok (.int .i64 (posN s ns : Int)) W := by
    have key : ∀ es : Array MapEntry, es.toList = entsOf ns → (om = none → es = #[]) → (∀ b, om = some b → ∃ clk, W.heap[b]? = some (.map es clk)) → (Instr.lookup xT (.map om) (.string s) false).run P W = .ok (.int .i64 (posN s ns : Int)) W := by
      intro es he ho hb
      rw [← he] at hf
      rcases Nat.eq_zero_or_pos (posN s ns) with h0 | h0
      · obtain rfl := h2 h0
        cases om with
        | none => have ho : es = #[] := ho rfl; subst ho; simp [Instr.lookup, run_underlying ht, hck, hf, hzr, h0, Result.andThen]
        | some b => obtain ⟨clk, hb⟩ := hb b rfl; simp [Instr.lookup, run_underlying ht, MapKept.run_getObj_map hb, hck, hf, hzr, h0, Result.andThen]
      · obtain ⟨k, hk'⟩ : ∃ k, posN s ns = k + 1 := ⟨posN s ns - 1, by omega⟩
        obtain ⟨q, rfl⟩ := h3 k hk'
        cases om with
        | none => have ho : es = #[] := ho rfl; subst ho; simp [Instr.lookup, run_underlying ht, hck, hf, hk', Result.andThen]
        | some b => obtain ⟨clk, hb⟩ := hb b rfl; simp [Instr.lookup, run_underlying ht, MapKept.run_getObj_map hb, hck, hf, hk', Result.andThen]
    cases om with
    | none => have hm : ns = [] := hm; subst hm; exact key #[] rfl (fun _ => rfl) (fun _ h => by cases h)
    | some b => exact key (entsOf ns).toArray rfl (fun h => by cases h) (fun b' h => by cases h; exact ⟨_, hst.pers b _ hm⟩)
  simp [execOp, hop, ha.eval hx, ha.eval hy, hl]
/-- A new name is put into a map of this call's own. -/
theorem op_putN {xT kt et : TypeId} {x y z : Operand} {b : Nat} {ns : List ByteArray} {s : ByteArray} (ht : P.underlying xT = some (.map kt et)) (hk : P.underlying kt = some .string)
    (hx : eev env x = some (.map (some b))) (hy : eev env y = some (.string s)) (hz : eev env z = some (.int .i64 ((ns ++ [s]).length : Int))) (hb : X b = some (MapObj ns)) (hn : w0.w.heap.size ≤ b) (hs : s ∉ ns) :
    OpX P n w0 X0 env own X (.mapUpdate xT x y z) false fun _ own' X' => own = own' ∧ X' = X.add b (MapObj (ns ++ [s])) := by
  have hz : eev env z = some (.int .i64 ((ns.length : Int) + 1)) := by rw [hz]; simp
  intro a W oper K Q ro hop ha hsat hK
  obtain ⟨r, h1, h2, _⟩ := findNow_pos s ns (fun q => .int .i64 ((q : Int) + 1)) (fun q => q) 0
  obtain rfl := h2 (Nat.eq_zero_of_not_pos fun h => hs (posN_pos.1 h))
  have hb' := hsat.stab.pers b _ hb
  simp only [MapObj] at hb'
  have hf : (Instr.findKey kt (.string s) (entsOf ns)).run P W = .ok none W := MapKept.run_findKey hk h1
  have hck : ∀ e, (Instr.checkKey e 10000 kt (.string s)).run P W = .ok () W := fun e => MapKept.run_checkKey hk (by trivial) e 9999
  have hl : (Instr.mapUpdate xT (.map (some b)) (.string s) (.int .i64 ((ns.length : Int) + 1))).run P W = .ok () { W with heap := W.heap.setIfInBounds b (MapObj (ns ++ [s])) } := by
    have e : MapObj (ns ++ [s]) = .map ((entsOf ns).toArray.push { key := .string s, val := .int .i64 ((ns.length : Int) + 1), born := ns.length }) (ns.length + 1) := by
      simp [MapObj, entsOf_snoc]
    rw [e]
    simp [Instr.mapUpdate, run_underlying ht, MapKept.run_getObj_map hb', hck, hf, MapKept.run_setObj_map _ hb', Result.andThen]
  have hex : (execOp a.eval oper).run P W = .ok .skip { W with heap := W.heap.setIfInBounds b (MapObj (ns ++ [s])) } := by
    simp [execOp, hop, ha.eval hx, ha.eval hy, ha.eval hz, hl]
  exact wp_skipped (noDefer_spec (by rw [hop]; rfl)) hex (hK _ _ _ _ ⟨rfl, rfl⟩ (hsat.rewrite hb hn _) fun h => by cases h)
end
end Go.Proofs.YtnpcilglilfajaaGreatDoor
namespace Go.Proofs.YtnpcilglilfajaaGreatDoor
section
set_option maxRecDepth 100000
theorem en119 : Enters Tryz.prog 119 := enters_mk Tryz.func119 (by kernel_rfl) rfl
theorem en120 : Enters Tryz.prog 120 := enters_mk Tryz.func120 (by kernel_rfl) rfl
theorem en161 : Enters Tryz.prog 161 := enters_mk Tryz.func161 (by kernel_rfl) rfl
theorem en162 : Enters Tryz.prog 162 := enters_mk Tryz.func162 (by kernel_rfl) rfl
theorem fa166_0 : FAdr Tryz.prog 166 0 0 := fadr_mk Tryz.underlying166 rfl rfl (by kernel_rfl)
theorem fa166_1 : FAdr Tryz.prog 166 1 1 := fadr_mk Tryz.underlying166 rfl rfl (by kernel_rfl)
theorem z166 : Zero Tryz.prog 166 [.slice none 0 0, .map none] := ⟨zero_of (by kernel_rfl)⟩
theorem st166 : StT Tryz.prog 166 [(0, 1), (1, 1)] [.slice none 0 0, .map none] := ⟨⟨_, Tryz.underlying166, fun _ => by kernel_rfl, z166⟩⟩
theorem ty164 : Ty Tryz.prog 164 false 1 := ⟨⟨_, Tryz.underlying164, rfl⟩, by kernel_rfl⟩
end
open Go.RowKit
theorem MapAt.mono {X X' : PMap} {ns : List ByteArray} {om : Option Nat} (h : MapAt X ns om) (hX : X.le X') : MapAt X' ns om := by
  cases om with
  | none => exact h
  | some b => exact hX _ _ h
/-- A table of these names. -/
def TabR (X : PMap) (v : Value) (ns : List ByteArray) : Prop := ∃ (b : Nat) (vs : Value) (om : Option Nat), v = .pointer (some ⟨b, 0, none⟩) ∧ Blk X b [vs, .map om] ∧ RowR strC X vs ns ∧ MapAt X ns om
theorem TabR.mono {X X' : PMap} {v : Value} {ns : List ByteArray} (h : TabR X v ns) (hX : X.le X') : TabR X' v ns :=
  let ⟨b, vs, om, h1, h2, h3, h4⟩ := h
  ⟨b, vs, om, h1, h2.mono hX, h3.mono hX, h4.mono hX⟩
theorem new_spec {X : PMap} : Spec Tryz.prog 119 [] X fun u X' => TabR X' u [] := by
  refine Spec.enter Tryz.func119 rfl Tryz.ntmps119 rfl ?_
  intro w0 hw0
  refine T.seq <| T.region <| SL.as rfl <| SL.nil <| T.seq <| T.region <| SL.v (op_build st166 (qs := []) rfl rfl) <| SL.w (op_box rfl) ?_
  rintro _ _ _ ⟨B2, rfl, rfl, rfl⟩
  refine SL.as rfl <| SL.nil <| T.pub B2 (by repeat constructor) ?_
  intro X1 hX1 hB1 _
  refine T.ret1 rfl (ResIs.tmp rfl) ?_
  exact ⟨B2, _, none, rfl, hB1, .inl ⟨rfl, _, _, rfl⟩, rfl⟩
theorem mclone_spec {X : PMap} {ns : List ByteArray} {om : Option Nat} (h : MapAt X ns om) : Spec Tryz.prog 162 [.map om] X fun u X' => (om = none ∧ u = .map none) ∨ ∃ b, u = .map (some b) ∧ X b = none ∧ X' b = some (MapObj ns) := by
  cases om with
  | none =>
    refine Spec.enter Tryz.func162 rfl Tryz.ntmps162 rfl ?_
    intro w0 hw0
    refine T.seq <| T.region <| SL.as rfl <| SL.nil <| T.seq <| T.seq <| T.region <| SL.mv rfl <| SL.v (op_eqlMapNil Tryz.underlying164 rfl rfl) <| SL.nil <| T.condT rfl <| T.seq <| T.region <| SL.as rfl <| SL.nil ?_
    refine T.ret1 rfl (ResIs.tmp rfl) ?_
    exact .inl ⟨rfl, rfl⟩
  | some b0 =>
    refine Spec.enter Tryz.func162 rfl Tryz.ntmps162 rfl ?_
    intro w0 hw0
    refine T.seq <| T.region <| SL.as rfl <| SL.nil <| T.seq <| T.seq <| T.region <| SL.mv rfl <| SL.v (op_eqlMapNil Tryz.underlying164 rfl rfl) <| SL.nil <| T.condF rfl <| T.skip <| T.seq <| T.region <| SL.mv rfl ?_
    refine SL.v (op_makeIface Tryz.underlying164 (fun _ h => by cases h) rfl) ?_
    refine SL.w (op_cloneMap Tryz.func192 (by kernel_rfl) (by kernel_rfl) (by kernel_rfl) (by kernel_rfl) rfl h) ?_
    rintro _ _ _ ⟨b, rfl, rfl, hb0, hb1, rfl⟩
    refine SL.v (op_assertMap Tryz.underlying164 rfl) <| SL.as rfl <| SL.nil <| T.ret1 rfl (ResIs.tmp rfl) ?_
    exact .inr ⟨b, rfl, hb0, PMap.add_at⟩
theorem sclone_spec {X : PMap} {v : Value} {l : List ByteArray} (h : RowR strC X v l) (hl : l.length < 100000) : SpecO Tryz.prog 161 [v] X fun u own1 _ => GrowS 9 1 u l.length (strsC l) own1 := by
  obtain ⟨A, cp, rfl⟩ := h.form
  rcases A with _ | ad
  · have hn : l = [] := by
      rcases h with ⟨h1, _⟩ | ⟨_, b, c, pre, hv, _⟩
      · exact h1
      · cases hv
    subst hn
    refine SpecO.enter Tryz.func161 rfl Tryz.ntmps161 rfl ?_
    intro w0 hw0
    refine T.seq <| T.region <| SL.as rfl <| SL.nil <| T.seq <| T.seq <| T.region <| SL.mv rfl <| SL.v (op_eqlSNil Tryz.underlying59 rfl rfl) <| SL.nil <| T.condT rfl <| T.seq <| T.region <| SL.as rfl <| SL.nil ?_
    refine T.retO1 rfl (ResIs.tmp rfl) ?_
    exact .inl ⟨rfl, rfl, rfl, rfl⟩
  · refine SpecO.enter Tryz.func161 rfl Tryz.ntmps161 rfl ?_
    intro w0 hw0
    refine T.seq <| T.region <| SL.as rfl <| SL.nil <| T.seq <| T.seq <| T.region <| SL.mv rfl <| SL.v (op_eqlSNil Tryz.underlying59 rfl rfl) <| SL.nil <| T.condF rfl <| T.skip <| T.seq <| T.region <| SL.w (op_buildSlice Tryz.underlying59 bs9 (qs := []) rfl rfl rfl rfl rfl) ?_
    rintro _ _ _ ⟨B5, rfl, rfl, rfl⟩
    refine SL.mv rfl <| SL.w (op_append (m := l.length) (news := strsC l) sl59 rfl rfl (by repeat constructor) rfl rfl (Nat.le_refl _) (by decide) (by rw [← strsC_flat]; exact Src.ofRow strC_len h) (strsC_one l) (by (have : maxLen = 9223372036854775807 := rfl); omega) (by omega)) ?_
    rintro _ _ _ ⟨b7, cap7, rfl, rfl, rfl, hc7, hm7⟩
    refine SL.as rfl <| SL.nil <| T.retO1 rfl (ResIs.tmp rfl) ?_
    exact .inr ⟨b7, cap7, by rw [Nat.zero_add], rfl, by omega, hm7, by rw [Nat.mul_one]; exact strsC_len l⟩
/-- What is wrong with one more name. -/
noncomputable def errA (ns : List ByteArray) (s : ByteArray) (n : Nat) : Int := if ¬validS s then 9 else if s ∈ ns then 5 else if n ≤ ns.length ∨ 256 ≤ ns.length then 14 else 0
theorem add_spec {X : PMap} {v : Value} {ns : List ByteArray} {s : ByteArray} {n : Nat} (h : TabR X v ns) (hl : ns.length ≤ 256) : Spec Tryz.prog 120 [v, .string s, .int .i64 (n : Int)] X fun u X' => if errA ns s n = 0 then ∃ v', u = .tuple #[v', .int .i64 ((ns ++ [s]).length : Int), .int .i64 0] ∧ TabR X' v' (ns ++ [s]) else u = .tuple #[.pointer none, .int .i64 0, .int .i64 (errA ns s n)] := by
  obtain ⟨b, vs, om, rfl, hB, hR, hM⟩ := h
  obtain ⟨A, cp, rfl⟩ := hR.form
  refine Spec.enter Tryz.func120 rfl Tryz.ntmps120 rfl ?_
  intro w0 hw0
  refine T.seq <| T.region <| SL.as rfl <| SL.v (op_assign (v := .int .i64 ((0 : Nat) : Int)) rfl) <| SL.v (op_assign (v := .int .i64 ((0 : Nat) : Int)) rfl) <| SL.nil <| T.seq <| T.block <| T.seq <| T.region <| SL.mv rfl <| SL.v (op_eqlNil Tryz.underlying64 rfl rfl) <| SL.as rfl <| SL.nil <| T.condF rfl ?_
  refine T.seq <| T.region <| SL.mv rfl <| SL.w (op_callF en94 (vs := [_]) rfl (nvalid_spec)) ?_
  rintro _ _ X1 ⟨rfl, hX1, rfl⟩
  have hB := hB.mono hX1
  by_cases hv : validS s
  case neg =>
    have he : errA ns s n = 9 := by rw [errA, if_pos hv]
    rw [decide_eq_false hv]
    refine SL.v (op_not rfl) <| SL.as rfl <| SL.nil <| T.condT rfl <| T.seq <| T.region <| SL.as rfl <| SL.v (op_assign (v := .int .i64 ((0 : Nat) : Int)) rfl) <| SL.v (op_assign (v := .int .i64 ((9 : Nat) : Int)) rfl) <| SL.nil <| T.ret3 rfl rfl rfl rfl ?_
    rw [he, if_neg (by decide)]
    rfl
  rw [decide_eq_true hv]
  refine SL.v (op_not rfl) <| SL.as rfl <| SL.nil <| T.condF rfl <| T.seq <| T.region <| SL.mv rfl <| SL.v (op_nil rfl) <| SL.v (op_fieldAddr fa166_1 rfl) <| SL.v (op_loadX ty164 rfl (by assumption) rfl) ?_
  refine SL.mv rfl <| SL.v (op_lookupN (s := s) Tryz.underlying164 Tryz.underlying9 (by kernel_rfl) rfl rfl (hM.mono hX1)) ?_
  by_cases hm : s ∈ ns
  case pos =>
    have he : errA ns s n = 5 := by rw [errA, if_neg (by simpa using hv), if_pos hm]
    have hp := posN_pos.2 hm
    refine SL.v (op_gtrT rfl rfl (by omega)) ?_
    refine SL.as rfl <| SL.nil <| T.condT rfl <| T.seq <| T.region <| SL.as rfl <| SL.v (op_assign (v := .int .i64 ((0 : Nat) : Int)) rfl) <| SL.v (op_assign (v := .int .i64 ((5 : Nat) : Int)) rfl) <| SL.nil <| T.ret3 rfl rfl rfl rfl ?_
    rw [he, if_neg (by decide)]
    rfl
  have hp : posN s ns = 0 := Nat.eq_zero_of_not_pos fun h => hm (posN_pos.1 h)
  rw [hp]
  by_cases h1 : n ≤ ns.length
  · have he : errA ns s n = 14 := by rw [errA, if_neg (by simpa using hv), if_neg hm, if_pos (.inl h1)]
    refine SL.v (op_gtrF rfl rfl (by omega)) ?_
    refine SL.as rfl <| SL.nil <| T.condF rfl <| T.seq <| T.region <| SL.mv rfl <| SL.v (op_nil rfl) <| SL.v (op_fieldAddr fa166_0 rfl) <| SL.v (op_loadX ty59 rfl (by assumption) rfl) ?_
    refine SL.v (op_lenS Tryz.underlying59 rfl) <| SL.mv rfl <| SL.v (op_geqT rfl rfl (by omega)) ?_
    refine SL.mv rfl <| SL.skip rfl rfl ?_
    refine SL.skip rfl rfl ?_
    refine SL.skip rfl rfl ?_
    refine SL.skip rfl rfl ?_
    refine SL.skip rfl rfl ?_
    refine SL.skip rfl rfl ?_
    refine SL.v (op_pickT rfl rfl) <| SL.as rfl <| SL.nil <| T.condT rfl <| T.seq <| T.region <| SL.as rfl <| SL.v (op_assign (v := .int .i64 ((0 : Nat) : Int)) rfl) <| SL.v (op_assign (v := .int .i64 ((14 : Nat) : Int)) rfl) <| SL.nil <| T.ret3 rfl rfl rfl rfl ?_
    rw [he, if_neg (by decide)]
    rfl
  by_cases h2 : 256 ≤ ns.length
  · have he : errA ns s n = 14 := by rw [errA, if_neg (by simpa using hv), if_neg hm, if_pos (.inr h2)]
    refine SL.v (op_gtrF rfl rfl (by omega)) ?_
    refine SL.as rfl <| SL.nil <| T.condF rfl <| T.seq <| T.region <| SL.mv rfl <| SL.v (op_nil rfl) <| SL.v (op_fieldAddr fa166_0 rfl) <| SL.v (op_loadX ty59 rfl (by assumption) rfl) ?_
    refine SL.v (op_lenS Tryz.underlying59 rfl) <| SL.mv rfl <| SL.v (op_geqF rfl rfl (by omega)) ?_
    refine SL.mv rfl <| SL.mv rfl <| SL.v (op_nil rfl) <| SL.v (op_fieldAddr fa166_0 rfl) <| SL.v (op_loadX ty59 rfl (by assumption) rfl) ?_
    refine SL.v (op_lenS Tryz.underlying59 rfl) <| SL.v (op_geqT rfl rfl (by omega)) ?_
    refine SL.v (op_pickF rfl rfl) <| SL.as rfl <| SL.nil <| T.condT rfl <| T.seq <| T.region <| SL.as rfl <| SL.v (op_assign (v := .int .i64 ((0 : Nat) : Int)) rfl) <| SL.v (op_assign (v := .int .i64 ((14 : Nat) : Int)) rfl) <| SL.nil <| T.ret3 rfl rfl rfl rfl ?_
    rw [he, if_neg (by decide)]
    rfl
  have he : errA ns s n = 0 := by rw [errA, if_neg (by simpa using hv), if_neg hm, if_neg (by omega)]
  rw [he]
  refine SL.v (op_gtrF rfl rfl (by omega)) ?_
  refine SL.as rfl <| SL.nil <| T.condF rfl <| T.seq <| T.region <| SL.mv rfl <| SL.v (op_nil rfl) <| SL.v (op_fieldAddr fa166_0 rfl) <| SL.v (op_loadX ty59 rfl (by assumption) rfl) ?_
  refine SL.v (op_lenS Tryz.underlying59 rfl) <| SL.mv rfl <| SL.v (op_geqF rfl rfl (by omega)) ?_
  refine SL.mv rfl <| SL.mv rfl <| SL.v (op_nil rfl) <| SL.v (op_fieldAddr fa166_0 rfl) <| SL.v (op_loadX ty59 rfl (by assumption) rfl) ?_
  refine SL.v (op_lenS Tryz.underlying59 rfl) <| SL.v (op_geqF rfl rfl (by omega)) ?_
  refine SL.v (op_pickF rfl rfl) <| SL.as rfl <| SL.nil <| T.condF rfl <| T.skip <| T.blk <| T.seq <| T.draw (by kernel_rfl) 12 [.t 0, .t 1, .t 2, .t 3, .t 5, .t 8, .t 9, .t 10, .t 11, .f 4 6, .r 7] (by kernel_rfl) ?_
  refine SD.take rfl panicBody (op_move rfl) rfl rfl ?_
  refine SD.take rfl panicBody (op_nil rfl) rfl rfl ?_
  refine SD.take rfl panicBody (op_fieldAddr fa166_0 rfl) rfl rfl ?_
  refine SD.take rfl panicBody (op_loadX ty59 rfl (by assumption) rfl) rfl rfl ?_
  refine SD.take rfl panicBody (op_move rfl) rfl rfl ?_
  refine SD.take rfl panicBody (op_move rfl) rfl rfl ?_
  refine SD.take rfl panicBody (op_nil rfl) rfl rfl ?_
  refine SD.take rfl panicBody (op_fieldAddr fa166_1 rfl) rfl rfl ?_
  refine SD.take rfl panicBody (op_loadX ty164 rfl (by assumption) rfl) rfl rfl ?_
  have hR := hR.mono hX1
  have hM := hM.mono hX1
  refine SD.fork rfl rfl (K := (fun v1 v2 own' X' => ∃ (G : Own) (bb : Nat), v2 = .slice (some ⟨bb, 0, none⟩) 1 1 ∧ own' = ⟨bb, [.string s], 9, 1⟩ :: ([] ++ G) ∧ GrowS 9 1 v1 ns.length (strsC ns) G ∧ X1.le X')) ((op_callO (vs := [_]) en161 rfl (sclone_spec hR (by omega))).mono (by rintro v own' X' ⟨G, rfl, hX2, hG⟩; exact (op_buildSlice Tryz.underlying59 bs9 (qs := [(0, _)]) rfl rfl rfl rfl rfl).mono (by rintro v2 own2 X2 ⟨bb, rfl, rfl, rfl⟩; exact ⟨G, bb, rfl, by rw [List.append_nil]; rfl, hG, hX2⟩))) ((op_buildSlice Tryz.underlying59 bs9 (qs := [(0, _)]) rfl rfl rfl rfl rfl).mono (by rintro v2 own2 X2 ⟨bb, rfl, rfl, rfl⟩; exact (op_callO (vs := [_]) en161 rfl (sclone_spec hR (by omega))).mono (by rintro v own' X' ⟨G, rfl, hX2, hG⟩; exact ⟨_, List.perm_append_singleton _ _, G, bb, rfl, rfl, hG, hX2⟩))) rfl (fun _ => rfl) rfl (fun _ => rfl) rfl rfl rfl ?_
  rintro v1 _ _ X2 ⟨G, bb, rfl, rfl, hG, hX2⟩
  refine SD.runK rfl (op_appendG (own0 := []) sl59 rfl hG rfl rfl rfl (by (have : maxLen = 9223372036854775807 := rfl); omega) (by omega)) (by rintro _ _ _ ⟨G2, rfl, rfl, hG2⟩; exact ⟨fun p hp => (by cases hp), hX2⟩) rfl rfl ?_
  rintro v3 G2 _ ⟨_, rfl, rfl, hG2⟩
  refine SD.nil ?_
  show SL _ _ _ _ _ _ _ [_, _, _, _] _ _ _
  have hG2 : GrowS 9 1 v3 (ns ++ [s]).length (strsC (ns ++ [s])) G2 := by rw [List.length_append, strsC_app]; exact hG2
  obtain ⟨A3, c3, rfl⟩ := hG2.form
  refine SL.w (op_callN (vs := [_]) en162 rfl (mclone_spec (hM.mono hX2))) ?_
  rintro v4 _ X3 ⟨rfl, hX3, hnew, hcl⟩
  rcases hcl with ⟨rfl, rfl⟩ | ⟨bm, rfl, hb0, hb1⟩
  · have hns : ns = [] := hM
    subst hns
    refine SL.v (op_build st166 (qs := [(0, _), (1, _)]) rfl rfl) <| SL.w (op_box rfl) ?_
    rintro _ _ _ ⟨B55, rfl, rfl, rfl⟩
    refine SL.as rfl <| SL.nil <| T.seq <| T.seq <| T.region <| SL.mv rfl <| SL.v (op_nil rfl) <| SL.v (op_fieldAddr fa166_1 rfl) <| SL.v (op_load ty164 rfl (by repeat constructor) rfl) ?_
    refine SL.v (op_eqlMapNil Tryz.underlying164 rfl rfl) <| SL.nil <| T.condT rfl <| T.region <| SL.mv rfl <| SL.x op_makeMap rfl rfl ?_
    rintro _ _ _ ⟨bm, rfl, rfl, hb0, hb1, rfl⟩
    refine SL.v (op_nil rfl) <| SL.v (op_fieldAddr fa166_1 rfl) <| SL.w (op_store ty164 rfl rfl (by repeat constructor) rfl rfl rfl) ?_
    rintro _ _ _ ⟨rfl, rfl⟩
    refine SL.nil <| T.seq <| T.draw (by kernel_rfl) 10 [.t 0, .t 1, .t 2, .t 3, .t 4, .t 5, .t 6, .t 7, .t 8, .t 9] (by kernel_rfl) ?_
    refine SD.take rfl panicBody (op_move rfl) rfl rfl ?_
    refine SD.take rfl panicBody (op_nil rfl) rfl rfl ?_
    refine SD.take rfl panicBody (op_fieldAddr fa166_1 rfl) rfl rfl ?_
    refine SD.take rfl panicBody (op_load ty164 rfl (by repeat constructor) rfl) rfl rfl ?_
    refine SD.take rfl panicBody (op_move rfl) rfl rfl ?_
    refine SD.take rfl panicBody (op_move rfl) rfl rfl ?_
    refine SD.take rfl panicBody (op_nil rfl) rfl rfl ?_
    refine SD.take rfl panicBody (op_fieldAddr fa166_0 rfl) rfl rfl ?_
    refine SD.take rfl panicBody (op_load ty59 rfl (by repeat constructor) rfl) rfl rfl ?_
    refine SD.take rfl panicBody (op_lenS Tryz.underlying59 rfl) rfl rfl ?_
    refine SD.nil ?_
    show SL _ _ _ _ _ _ _ [_] _ _ _
    refine SL.w (op_putN (ns := []) (s := s) Tryz.underlying164 Tryz.underlying9 rfl rfl rfl PMap.add_at hb1 hm) ?_
    rintro _ _ _ ⟨rfl, rfl⟩
    refine SL.nil <| T.seq <| T.draw (by kernel_rfl) 9 [.t 0, .t 1, .t 2, .t 3, .t 4, .t 5, .t 6, .t 7, .t 8] (by kernel_rfl) ?_
    refine SD.take rfl panicBody (op_move rfl) rfl rfl ?_
    refine SD.take rfl panicBody (op_move rfl) rfl rfl ?_
    refine SD.take rfl panicBody (op_nil rfl) rfl rfl ?_
    refine SD.take rfl panicBody (op_fieldAddr fa166_0 rfl) rfl rfl ?_
    refine SD.take rfl panicBody (op_load ty59 rfl (by repeat constructor) rfl) rfl rfl ?_
    refine SD.take rfl panicBody (op_lenS Tryz.underlying59 rfl) rfl rfl ?_
    refine SD.take rfl panicBody (op_assign rfl) rfl rfl ?_
    refine SD.take rfl panicBody (op_assign rfl) rfl rfl ?_
    refine SD.take rfl panicBody (op_assign (v := .int .i64 ((0 : Nat) : Int)) rfl) rfl rfl ?_
    refine SD.nil ?_
    show SL _ _ _ _ _ _ _ [] _ _ _
    refine SL.nil <| T.pub B55 (by repeat constructor) ?_
    intro X8 hX8 hB55 _
    refine T.pubG (own0 := []) hG2 ?_
    intro X9 hX9 hS9
    refine T.ret3 rfl rfl rfl rfl ?_
    exact ⟨_, rfl, B55, _, some bm, rfl, hB55.mono hX9, RowR.ofG (rc := strC) (by rw [strsC_flat]; exact hG2) (by rw [strsC_flat]; exact hS9), hX9 _ _ (hX8 _ _ PMap.add_at)⟩
  · refine SL.v (op_build st166 (qs := [(0, _), (1, _)]) rfl rfl) <| SL.w (op_box rfl) ?_
    rintro _ _ _ ⟨B55, rfl, rfl, rfl⟩
    refine SL.as rfl <| SL.nil <| T.seq <| T.seq <| T.region <| SL.mv rfl <| SL.v (op_nil rfl) <| SL.v (op_fieldAddr fa166_1 rfl) <| SL.v (op_load ty164 rfl (by repeat constructor) rfl) ?_
    refine SL.v (op_eqlMapNil Tryz.underlying164 rfl rfl) <| SL.nil <| T.condF rfl <| T.skip <| T.seq <| T.draw (by kernel_rfl) 10 [.t 0, .t 1, .t 2, .t 3, .t 4, .t 5, .t 6, .t 7, .t 8, .t 9] (by kernel_rfl) ?_
    refine SD.take rfl panicBody (op_move rfl) rfl rfl ?_
    refine SD.take rfl panicBody (op_nil rfl) rfl rfl ?_
    refine SD.take rfl panicBody (op_fieldAddr fa166_1 rfl) rfl rfl ?_
    refine SD.take rfl panicBody (op_load ty164 rfl (by repeat constructor) rfl) rfl rfl ?_
    refine SD.take rfl panicBody (op_move rfl) rfl rfl ?_
    refine SD.take rfl panicBody (op_move rfl) rfl rfl ?_
    refine SD.take rfl panicBody (op_nil rfl) rfl rfl ?_
    refine SD.take rfl panicBody (op_fieldAddr fa166_0 rfl) rfl rfl ?_
    refine SD.take rfl panicBody (op_load ty59 rfl (by repeat constructor) rfl) rfl rfl ?_
    refine SD.take rfl panicBody (op_lenS Tryz.underlying59 rfl) rfl rfl ?_
    refine SD.nil ?_
    show SL _ _ _ _ _ _ _ [_] _ _ _
    refine SL.w (op_putN (ns := ns) (s := s) Tryz.underlying164 Tryz.underlying9 rfl rfl rfl hb1 (hnew bm hb0 (by rw [hb1]; simp)) hm) ?_
    rintro _ _ _ ⟨rfl, rfl⟩
    refine SL.nil <| T.seq <| T.draw (by kernel_rfl) 9 [.t 0, .t 1, .t 2, .t 3, .t 4, .t 5, .t 6, .t 7, .t 8] (by kernel_rfl) ?_
    refine SD.take rfl panicBody (op_move rfl) rfl rfl ?_
    refine SD.take rfl panicBody (op_move rfl) rfl rfl ?_
    refine SD.take rfl panicBody (op_nil rfl) rfl rfl ?_
    refine SD.take rfl panicBody (op_fieldAddr fa166_0 rfl) rfl rfl ?_
    refine SD.take rfl panicBody (op_load ty59 rfl (by repeat constructor) rfl) rfl rfl ?_
    refine SD.take rfl panicBody (op_lenS Tryz.underlying59 rfl) rfl rfl ?_
    refine SD.take rfl panicBody (op_assign rfl) rfl rfl ?_
    refine SD.take rfl panicBody (op_assign rfl) rfl rfl ?_
    refine SD.take rfl panicBody (op_assign (v := .int .i64 ((0 : Nat) : Int)) rfl) rfl rfl ?_
    refine SD.nil ?_
    show SL _ _ _ _ _ _ _ [] _ _ _
    refine SL.nil <| T.pub B55 (by repeat constructor) ?_
    intro X8 hX8 hB55 _
    refine T.pubG (own0 := []) hG2 ?_
    intro X9 hX9 hS9
    refine T.ret3 rfl rfl rfl rfl ?_
    exact ⟨_, rfl, B55, _, some bm, rfl, hB55.mono hX9, RowR.ofG (rc := strC) (by rw [strsC_flat]; exact hG2) (by rw [strsC_flat]; exact hS9), hX9 _ _ (hX8 _ _ PMap.add_at)⟩
/-- What is wrong with the first of these names with which something is wrong. -/
noncomputable def errOf (n : Nat) (pre : List ByteArray) : List ByteArray → Int
  | [] => 0
  | s :: l => if errA pre s n ≠ 0 then errA pre s n else errOf n (pre ++ [s]) l
theorem errOf_app (n : Nat) (b : List ByteArray) : ∀ (a pre : List ByteArray), errOf n pre (a ++ b) = if errOf n pre a ≠ 0 then errOf n pre a else errOf n (pre ++ a) b
  | [], pre => by simp [errOf]
  | s :: a, pre => by
    rw [List.cons_append, errOf, errOf, errOf_app n b a (pre ++ [s])]
    by_cases h : errA pre s n ≠ 0
    · rw [if_pos h, if_pos h, if_pos h]
    · rw [if_neg h, if_neg h, List.append_assoc]; rfl
theorem errA_zero {ns : List ByteArray} {s : ByteArray} {n : Nat} (h : errA ns s n = 0) : validS s ∧ s ∉ ns ∧ ns.length < n ∧ ns.length < 256 := by
  unfold errA at h
  split at h
  · cases h
  · rename_i h1
    split at h
    · cases h
    · rename_i h2
      split at h
      · cases h
      · rename_i h3
        exact ⟨by simpa using h1, h2, by omega, by omega⟩
theorem errOf_len {n : Nat} : ∀ {a pre : List ByteArray}, errOf n pre a = 0 → pre.length ≤ 256 → (pre ++ a).length ≤ 256
  | [], pre, _, h => by simpa using h
  | s :: a, pre, h, hp => by
    rw [errOf] at h
    by_cases h1 : errA pre s n ≠ 0
    · rw [if_pos h1] at h; exact absurd h h1
    · rw [if_neg h1] at h
      have h2 := errA_zero (Decidable.not_not.1 h1)
      have := errOf_len h (by rw [List.length_append]; simp; omega)
      simp only [List.length_append, List.length_cons, List.length_nil] at this ⊢; omega
/-- Names that are all well. -/
theorem errOf_ok {n : Nat} : ∀ {a pre : List ByteArray}, (∀ s ∈ a, validS s) → (pre ++ a).Nodup → (pre ++ a).length ≤ n → n ≤ 256 → errOf n pre a = 0
  | [], _, _, _, _, _ => rfl
  | s :: a, pre, hv, hd, hl, hn => by
    have h1 : errA pre s n = 0 := by
      rw [errA, if_neg (by simpa using hv s (by simp)), if_neg, if_neg]
      · simp only [List.length_append, List.length_cons] at hl; omega
      · intro hm
        rw [List.nodup_append] at hd
        exact hd.2.2 s hm s (by simp) rfl
    rw [errOf, if_neg (by simpa using h1)]
    have e : pre ++ [s] ++ a = pre ++ s :: a := by simp
    exact errOf_ok (fun t ht => hv t (by simp [ht])) (e ▸ hd) (e ▸ hl) hn
theorem of_tab_spec {X : PMap} {v : Value} {l : List ByteArray} {n : Nat} (h : RowR strC X v l) (hl : l.length < 1000000) : Spec Tryz.prog 72 [v, .int .i64 (n : Int)] X fun u X' => if errOf n [] l = 0 then ∃ v', u = .tuple #[v', .int .i64 0] ∧ TabR X' v' l else u = .tuple #[.pointer none, .int .i64 (errOf n [] l)] := by
  obtain ⟨A, cp, rfl⟩ := h.form
  refine Spec.enter Tryz.func72 rfl Tryz.ntmps72 rfl ?_
  intro w0 hw0
  refine T.seq <| T.region <| SL.as rfl <| SL.v (op_assign (v := .int .i64 ((0 : Nat) : Int)) rfl) <| SL.nil <| T.seq <| T.region <| SL.w (op_callF en119 (vs := []) rfl (new_spec)) ?_
  rintro vt _ X1 ⟨rfl, hX1, hT⟩
  refine SL.as rfl <| SL.nil <| T.seq <| T.seq <| T.region <| SL.mv rfl <| SL.v (op_lenS Tryz.underlying59 rfl) <| SL.v (op_move (v := .int .i64 ((0 : Nat) : Int)) rfl) <| SL.nil <| T.block <| T.loopW (fun m env own X' => ∃ (i : Nat) (vt : Value), m = l.length - i ∧ i ≤ l.length ∧ X.le X' ∧ errOf n [] (l.take i) = 0 ∧ TabR X' vt (l.take i) ∧ env = [(1, .int .i64 (n : Int)), (6, vt), (13, .slice A l.length cp), (14, .int .i64 (l.length : Int)), (15, .int .i64 (i : Int))] ∧ own = []) l.length ⟨0, vt, by simp, by omega, hX1, by simp [errOf], by simpa using hT, rfl, rfl⟩ (by repeat (first | exact Sub.nil | refine Sub.cons rfl ?_)) ?_
  rintro m _ _ X2 ⟨i, vt, rfl, hi, hX2, hz, hT, rfl, rfl⟩
  rcases Nat.lt_or_ge i l.length with hil | hil
  · obtain ⟨s, hs⟩ : ∃ s, l[i]? = some s := ⟨_, List.getElem?_eq_getElem hil⟩
    obtain ⟨bA, pre, rfl, hbA⟩ := h.blk (by omega)
    have hta : l.take (i + 1) = l.take i ++ [s] := by rw [List.take_add_one, hs]; rfl
    have hle : (l.take i).length ≤ 256 := by simpa using errOf_len hz (by simp)
    have hat : errOf n [] (l.take (i + 1)) = errA (l.take i) s n := by
      rw [hta, errOf_app, if_neg (by simpa using hz), List.nil_append, errOf]
      split
      · rfl
      · rename_i h0; exact (Decidable.not_not.1 h0).symm
    refine T.seq <| T.region <| SL.v (op_lssT rfl rfl (by omega)) ?_
    refine SL.nil <| T.seq <| T.condT rfl <| T.skip <| T.seq <| T.block <| T.seq <| T.region <| SL.v (op_indexN Tryz.underlying59 ty9 rfl rfl (by omega)) ?_
    refine SL.v (op_loadX ty9 rfl (hbA.mono hX2) (str_read hs (by omega))) ?_
    refine SL.as rfl <| SL.nil <| T.seq <| T.region <| SL.mv rfl <| SL.mv rfl <| SL.mv rfl <| SL.w (op_callF en120 (vs := [_, _, _]) rfl (add_spec (s := s) (n := n) hT hle)) ?_
    rintro u3 _ X3 ⟨rfl, hX3, hu3⟩
    by_cases he : errA (l.take i) s n = 0
    · rw [if_pos he] at hu3
      obtain ⟨v3, rfl, hT3⟩ := hu3
      refine SL.mv rfl <| SL.v (op_extract rfl rfl) <| SL.v (op_extract rfl rfl) <| SL.v (op_extract rfl rfl) <| SL.as rfl <| SL.as rfl <| SL.as rfl <| SL.nil <| T.seq <| T.seq <| T.region <| SL.mv rfl <| SL.v (op_neqF rfl rfl (by omega)) ?_
      refine SL.nil <| T.condF rfl <| T.skip <| T.region <| SL.mv rfl <| SL.as rfl <| SL.nil <| T.blk <| T.region <| SL.v (op_addN (q := 1) rfl rfl (by omega)) ?_
      refine SL.mv rfl <| SL.nil ?_
      exact T.backW (l.length - (i + 1)) (by omega) ⟨i + 1, v3, rfl, by omega, hX2.trans' hX3, by rw [hat, he], by rw [hta]; exact hT3, rfl, rfl⟩ (by repeat (first | exact Sub.nil | refine Sub.cons rfl ?_))
    · rw [if_neg he] at hu3
      subst hu3
      refine SL.mv rfl <| SL.v (op_extract rfl rfl) <| SL.v (op_extract rfl rfl) <| SL.v (op_extract rfl rfl) <| SL.as rfl <| SL.as rfl <| SL.as rfl <| SL.nil <| T.seq <| T.seq <| T.region <| SL.mv rfl <| SL.v (op_neqT rfl rfl (by omega)) ?_
      refine SL.nil <| T.condT rfl <| T.seq <| T.region <| SL.mv rfl <| SL.as rfl <| SL.as rfl <| SL.nil <| T.ret2 rfl (ResIs.tmp rfl) (ResIs.tmp rfl) ?_
      have ht : errOf n [] l = errA (l.take i) s n := by
        have h0 : errOf n [] (l.take (i + 1) ++ l.drop (i + 1)) = errA (l.take i) s n := by rw [errOf_app, hat, if_pos he]
        rwa [List.take_append_drop] at h0
      rw [if_neg (by rw [ht]; exact he), ht]
      rfl
  · obtain rfl : i = l.length := by omega
    rw [List.take_of_length_le (Nat.le_refl _)] at hz hT
    refine T.seq <| T.region <| SL.v (op_lssF rfl rfl (by omega)) ?_
    refine SL.nil <| T.seq <| T.condF rfl ?_
    refine T.exit (T.exitCode (T.exitCut (T.exitBlk ?_)))
    refine T.seq <| T.region <| SL.mv rfl <| SL.as rfl <| SL.v (op_assign (v := .int .i64 ((0 : Nat) : Int)) rfl) <| SL.nil <| T.ret2 rfl (ResIs.tmp rfl) (ResIs.tmp rfl) ?_
    rw [if_pos hz]
    exact ⟨_, rfl, hT⟩
end Go.Proofs.YtnpcilglilfajaaGreatDoor
