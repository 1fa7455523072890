/- strings.Builder; strconv.Itoa of a digit; the text of a set of digits. -/
import Derived.Test.YtaooojjhlngcmaaDoorEngine2
import Derived.Test.YtaooojjhlngcmaaDoorBits5
import Derived.Test.YtaooojjhlngcmaaDoorRef1
namespace Go.Proofs.YtaooojjhlngcmaaDoor
section
set_option maxRecDepth 100000
theorem en105 : Enters Tryd.prog 105 := enters_mk Tryd.func105 (by kernel_rfl) rfl
theorem en115 : Enters Tryd.prog 115 := enters_mk Tryd.func115 (by kernel_rfl) rfl
theorem en118 : Enters Tryd.prog 118 := enters_mk Tryd.func118 (by kernel_rfl) rfl
theorem fa111_0 : FAdr Tryd.prog 111 0 0 := fadr_mk Tryd.underlying111 rfl rfl (by kernel_rfl)
theorem ty109 : Ty Tryd.prog 109 false 1 := ⟨⟨_, Tryd.underlying109, rfl⟩, by kernel_rfl⟩
end
open Go.RowKit
section
variable {ro : Option Nat} {P : Program} {n : NM} {w0 : Base} {X0 X : PMap} {own : Own} {env : Env}
/-- A part of a string. -/
theorem op_sliceStr {t : TypeId} {x lo hi : Operand} {s : ByteArray} {l h : Nat} {k k' : IntKind} (ht : P.underlying t = some .string) (hx : eev env x = some (.string s)) (hl : eev env lo = some (.int k (l : Int))) (hh : eev env hi = some (.int k' (h : Int))) (h1 : l ≤ h) (h2 : h ≤ s.size) :
    OpY P n env own X (.slice t x (some lo) (some hi) none) (.string (s.extract l h)) := by
  intro a W oper hop ha _
  have hb : (Instr.sliceBounds false s.size s.size (some (.int k (l : Int))) (some (.int k' (h : Int))) none).run P W = .ok (l, h, s.size) W := by
    simp [Instr.sliceBounds, Instr.sliceBound, asIntOf, h2, h1]
  have : (Instr.sliceAt t (.string s) (some (.int k (l : Int))) (some (.int k' (h : Int))) none).run P W = .ok (.string (s.extract l h)) W := by
    simp only [Instr.sliceAt, Sem.run_bind, run_underlying ht, Result.andThen_ok, Instr.slice]
    simp [hb]
  simp [execOp, hop, ha.eval hx, ha.eval hl, ha.eval hh, this]
theorem op_eqlStr {t t' : TypeId} {x y : Operand} {s s' : ByteArray} (_ht : P.underlying t = some .string) (hx : eev env x = some (.string s)) (hy : eev env y = some (.string s')) : OpY P n env own X (.binOp .eql t x y t') (.bool (s.toList == s'.toList)) := by
  intro a W oper hop ha _
  have h0 : ∀ (e : BinOp) (u v : Operand), eqGuard e t u v (.string s) (.string s') = pure () := fun e u v => by cases e <;> rfl
  have h2 : (Op.stringOp .eql s s').run P W = .ok (.bool (s.toList == s'.toList)) W := by simp [Op.stringOp]
  simp only [execOp, hop, ha.eval hx, ha.eval hy, binOp, h0, Sem.run_bind, Sem.run_pure, Result.andThen_ok, h2]
end
theorem small_spec {X : PMap} (i : Nat) (hi : i < 10) : Spec Tryd.prog 118 [.int .i64 (i : Int)] X fun u _ => u = .string ⟨#[UInt8.ofNat (48 + i)]⟩ := by
  refine Spec.enter Tryd.func118 rfl Tryd.ntmps118 rfl ?_
  intro w0 hw0
  refine T.seq ?_
  refine T.region ?_
  refine SL.y (op_assign rfl) rfl rfl ?_
  refine SL.nil ?_
  refine T.seq ?_
  refine T.seq ?_
  refine T.region ?_
  refine SL.y (op_move rfl) rfl rfl ?_
  first | refine SL.y (op_lssT rfl rfl (by omega)) rfl rfl ?_ | refine SL.y (op_lssF rfl rfl (by omega)) rfl rfl ?_ | refine SL.y (op_lss rfl rfl) rfl rfl ?_
  refine SL.nil ?_
  refine T.condT rfl ?_
  refine T.seq ?_
  refine T.region ?_
  refine SL.y (op_move rfl) rfl rfl ?_
  refine SL.y (op_move rfl) rfl rfl ?_
  first | refine SL.y (op_addN (q := 1) rfl rfl (by omega)) rfl rfl ?_ | refine SL.y (op_add rfl rfl (by omega) (by omega)) rfl rfl ?_ | refine SL.y (op_addW rfl rfl) rfl rfl ?_
  -- to 8: op
  refine SL.y (op_sliceStr (l := i) (h := i + 1) Tryd.underlying9 rfl rfl rfl (by omega) (by show i + 1 ≤ 36; omega)) rfl rfl ?_
  refine SL.y (op_assign rfl) rfl rfl ?_
  refine SL.nil ?_
  -- ret
  refine T.ret1 rfl (ResIs.tmp rfl) ?_
  congr 1
  match i, hi with
  | 0, _ => rfl
  | 1, _ => rfl
  | 2, _ => rfl
  | 3, _ => rfl
  | 4, _ => rfl
  | 5, _ => rfl
  | 6, _ => rfl
  | 7, _ => rfl
  | 8, _ => rfl
  | 9, _ => rfl
theorem fmtInt_spec {X : PMap} (i : Nat) (hi : i < 10) : Spec Tryd.prog 115 [.int .i64 (i : Int), .int .i64 10] X fun u _ => u = .string ⟨#[UInt8.ofNat (48 + i)]⟩ := by
  refine Spec.enter Tryd.func115 rfl Tryd.ntmps115 rfl ?_
  intro w0 hw0
  refine T.seq ?_
  refine T.region ?_
  refine SL.y (op_assign rfl) rfl rfl ?_
  refine SL.nil ?_
  refine T.seq ?_
  refine T.seq ?_
  refine T.region ?_
  refine SL.y (op_move rfl) rfl rfl ?_
  first | refine SL.y (op_eqlT rfl rfl (by omega)) rfl rfl ?_ | refine SL.y (op_eqlF rfl rfl (by omega)) rfl rfl ?_ | refine SL.y (op_eql rfl rfl) rfl rfl ?_
  refine SL.nil ?_
  refine T.condT rfl ?_
  refine T.seq ?_
  refine T.seq ?_
  refine T.region ?_
  refine SL.y (op_move rfl) rfl rfl ?_
  first | refine SL.y (op_leqT rfl rfl (by omega)) rfl rfl ?_ | refine SL.y (op_leqF rfl rfl (by omega)) rfl rfl ?_ | refine SL.y (op_leq rfl rfl) rfl rfl ?_
  refine SL.y (op_move rfl) rfl rfl ?_
  first | refine SL.skip rfl rfl ?_ | refine SL.y (op_move rfl) rfl rfl ?_
  first | refine SL.skip rfl rfl ?_ | refine SL.y (op_lssT rfl rfl (by omega)) rfl rfl ?_ | refine SL.y (op_lssF rfl rfl (by omega)) rfl rfl ?_ | refine SL.y (op_lss rfl rfl) rfl rfl ?_
  first | refine SL.y (op_pickT rfl rfl) rfl rfl ?_ | refine SL.y (op_pickF rfl rfl) rfl rfl ?_ | refine SL.y (op_pickB rfl rfl rfl) rfl rfl ?_
  refine SL.nil ?_
  refine T.condT rfl ?_
  refine T.seq ?_
  refine T.region ?_
  refine SL.y (op_move rfl) rfl rfl ?_
  -- op
  refine SL.x (op_callF en118 (vs := [_]) rfl (small_spec i hi)) rfl rfl ?_
  rintro _ _ X1 ⟨rfl, hX1, rfl⟩
  refine SL.y (op_assign rfl) rfl rfl ?_
  refine SL.nil ?_
  -- ret
  refine T.ret1 rfl (ResIs.tmp rfl) ?_
  rfl
theorem itoaI_spec {X : PMap} (i : Nat) (hi : i < 10) : Spec Tryd.prog 105 [.int .i64 (i : Int)] X fun u _ => u = .string ⟨#[UInt8.ofNat (48 + i)]⟩ := by
  refine Spec.enter Tryd.func105 rfl Tryd.ntmps105 rfl ?_
  intro w0 hw0
  refine T.seq ?_
  refine T.region ?_
  refine SL.y (op_assign rfl) rfl rfl ?_
  refine SL.nil ?_
  refine T.seq ?_
  refine T.region ?_
  refine SL.y (op_move rfl) rfl rfl ?_
  -- op
  refine SL.x (op_callF en115 (vs := [_, _]) rfl (fmtInt_spec i hi)) rfl rfl ?_
  rintro _ _ X1 ⟨rfl, hX1, rfl⟩
  refine SL.y (op_assign rfl) rfl rfl ?_
  refine SL.nil ?_
  -- ret
  refine T.ret1 rfl (ResIs.tmp rfl) ?_
  rfl
theorem itoa_spec {X : PMap} (i : Nat) (hi : i < 10) : Spec Tryd.prog 82 [.int .i64 (i : Int)] X fun u _ => u = .string ⟨#[UInt8.ofNat (48 + i)]⟩ := by
  refine Spec.enter Tryd.func82 rfl Tryd.ntmps82 rfl ?_
  intro w0 hw0
  refine T.seq ?_
  refine T.region ?_
  refine SL.y (op_assign rfl) rfl rfl ?_
  refine SL.nil ?_
  refine T.seq ?_
  refine T.region ?_
  refine SL.y (op_move rfl) rfl rfl ?_
  -- op
  refine SL.x (op_callF en105 (vs := [_]) rfl (itoaI_spec i hi)) rfl rfl ?_
  rintro _ _ X1 ⟨rfl, hX1, rfl⟩
  refine SL.y (op_assign rfl) rfl rfl ?_
  refine SL.nil ?_
  -- ret
  refine T.ret1 rfl (ResIs.tmp rfl) ?_
  rfl
/-- A builder. -/
abbrev BldO (b : Nat) (p s : Value) : Ow := ⟨b, [p, s], 111, 2⟩
theorem copyCheck_spec {X : PMap} {b : Nat} {p s : Value} (hp : p = .pointer none ∨ p = .pointer (some ⟨b, 0, none⟩)) : SpecM Tryd.prog 93 [.pointer (some ⟨b, 0, none⟩)] X [BldO b p s] fun u L' _ => u = .tuple #[] ∧ L' = [BldO b (.pointer (some ⟨b, 0, none⟩)) s] := by
  rcases hp with rfl | rfl
  · refine SpecM.enter Tryd.func93 rfl Tryd.ntmps93 rfl ?_
    intro w0 X0 own0
    refine T.seq ?_
    refine T.region ?_
    refine SL.y (op_move rfl) rfl rfl ?_
    first | refine SL.y (op_nil rfl) rfl rfl ?_ | refine SL.y (op_nilFn rfl) rfl rfl ?_
    refine SL.y (op_fieldAddr fa111_0 rfl) rfl rfl ?_
    first | refine SL.y (op_load ty109 rfl (by repeat (first | exact AtO.here | apply AtO.there)) rfl) rfl rfl ?_ | refine SL.y (op_loadX ty109 rfl (by assumption) rfl) rfl rfl ?_
    refine SL.y (op_eqlNil Tryd.underlying109 rfl rfl) rfl rfl ?_
    refine SL.nil ?_
    refine T.condT rfl ?_
    refine T.region ?_
    refine SL.y (op_move rfl) rfl rfl ?_
    refine SL.y (op_move rfl) rfl rfl ?_
    -- to 9: op
    refine SL.y (op_toUns (size := 1) Tryd.underlying109 Tryd.underlying144 (by kernel_rfl) rfl AtO.here (by omega)) rfl rfl ?_
    refine SL.y (op_noEsc Tryd.func108 (by kernel_rfl) (by kernel_rfl) (by kernel_rfl) (by kernel_rfl) rfl) rfl rfl ?_
    refine SL.y (op_fromUns (size := 2) Tryd.underlying144 Tryd.underlying109 (by kernel_rfl) rfl AtO.here (by kernel_rfl)) rfl rfl ?_
    first | refine SL.y (op_nil rfl) rfl rfl ?_ | refine SL.y (op_nilFn rfl) rfl rfl ?_
    refine SL.y (op_fieldAddr fa111_0 rfl) rfl rfl ?_
    refine SL.x (op_store ty109 rfl rfl (by repeat (first | exact AtO.here | apply AtO.there)) rfl rfl rfl) rfl rfl ?_
    rintro _ _ _ ⟨rfl, rfl⟩
    refine SL.nil ?_
    -- end
    refine T.doneM0 [BldO b (.pointer (some ⟨b, 0, none⟩)) s] rfl (List.Perm.refl _) ?_
    exact ⟨PMap.le_refl _, rfl, rfl⟩
  · refine SpecM.enter Tryd.func93 rfl Tryd.ntmps93 rfl ?_
    intro w0 X0 own0
    refine T.seq ?_
    refine T.region ?_
    refine SL.y (op_move rfl) rfl rfl ?_
    first | refine SL.y (op_nil rfl) rfl rfl ?_ | refine SL.y (op_nilFn rfl) rfl rfl ?_
    refine SL.y (op_fieldAddr fa111_0 rfl) rfl rfl ?_
    first | refine SL.y (op_load ty109 rfl (by repeat (first | exact AtO.here | apply AtO.there)) rfl) rfl rfl ?_ | refine SL.y (op_loadX ty109 rfl (by assumption) rfl) rfl rfl ?_
    refine SL.y (op_eqlNil Tryd.underlying109 rfl rfl) rfl rfl ?_
    refine SL.nil ?_
    refine T.condF rfl ?_
    refine T.seq ?_
    refine T.region ?_
    refine SL.y (op_move rfl) rfl rfl ?_
    first | refine SL.y (op_nil rfl) rfl rfl ?_ | refine SL.y (op_nilFn rfl) rfl rfl ?_
    refine SL.y (op_fieldAddr fa111_0 rfl) rfl rfl ?_
    first | refine SL.y (op_load ty109 rfl (by repeat (first | exact AtO.here | apply AtO.there)) rfl) rfl rfl ?_ | refine SL.y (op_loadX ty109 rfl (by assumption) rfl) rfl rfl ?_
    refine SL.y (op_move rfl) rfl rfl ?_
    -- to 19: op
    refine SL.y (op_neqSame (size := 2) Tryd.underlying109 (by kernel_rfl) rfl rfl) rfl rfl ?_
    refine SL.nil ?_
    refine T.condF rfl ?_
    refine T.skip ?_
    -- end
    refine T.doneM0 [BldO b (.pointer (some ⟨b, 0, none⟩)) s] rfl (List.Perm.refl _) ?_
    exact ⟨PMap.le_refl _, rfl, rfl⟩
end Go.Proofs.YtaooojjhlngcmaaDoor
