/- strings.Builder, whatever it holds; strings.Join. -/
import Derived.Test.YtaooojjhlngcmaaDoorBld2
import Derived.Test.YtaooojjhlngcmaaDoorApp
import Derived.Test.YtaooojjhlngcmaaDoorCut
import Derived.Test.YtaooojjhlngcmaaDoorStrs
import Derived.Test.YtaooojjhlngcmaaDoorCopy
import Derived.Lib.MakeNoZero
namespace Go.Proofs.YtaooojjhlngcmaaDoor
section
set_option maxRecDepth 100000
theorem en106 : Enters Tryd.prog 106 := enters_mk Tryd.func106 (by kernel_rfl) rfl
theorem en116 : Enters Tryd.prog 116 := enters_mk Tryd.func116 (by kernel_rfl) rfl
theorem en75 : Enters Tryd.prog 75 := enters_mk Tryd.func75 (by kernel_rfl) rfl
theorem en76 : Enters Tryd.prog 76 := enters_mk Tryd.func76 (by kernel_rfl) rfl
theorem ty9 : Ty Tryd.prog 9 false 1 := ⟨⟨_, Tryd.underlying9, rfl⟩, by kernel_rfl⟩
theorem z111 : Zero Tryd.prog 111 [.pointer none, .slice none 0 0] := ⟨zero_of (by kernel_rfl)⟩
end
open Go.RowKit
section
variable {P : Program} {n : NM} {w0 : Base} {X0 X : PMap} {own : Own} {env : Env}
/-- append of a string onto nil. -/
theorem op_appendStrNil {t u e : TypeId} {s x : Operand} {str : ByteArray} (ht : P.underlying t = some (.slice e)) (hu : P.underlying u = some .string) (hi : ∃ i, P.info? e = some i ∧ i.zero = some (.int .u8 0) ∧ i.size = 1 ∧ i.bytes = 1) (hs : eev env s = some (.slice none 0 0)) (hx : eev env x = some (.string str))
    (h0 : 0 < str.size) (hby : str.size ≤ 140737488355328) :
    OpX P n w0 X0 env own X (.call { callee := .builtin .append, args := #[s, x], argTypes := #[t, u] }) false fun v own' X' => ∃ b cap, v = .slice (some ⟨b, 0, none⟩) str.size cap ∧ own' = ⟨b, Lib.strCells str, e, cap * 1⟩ :: own ∧ X = X' ∧ str.size ≤ cap ∧ cap ≤ maxLen := by
  intro a W oper K Q ro hop ha hsat hK
  obtain ⟨i, i1, i2, i3, i4⟩ := hi
  have hmx : maxLen = 9223372036854775807 := rfl
  have hr := run_append_nil_string (P := P) W t u oper.type e i (.int .u8 0) ht hu i1 i2 str h0 (by omega) (by rw [i4]; omega)
  have hcap := grownCap_ge W str.size 0 e
  have hcm := grownCap_le_maxLen W str.size 0 e (by omega)
  generalize grownCap W str.size 0 e = cap at *
  have hcells : (str.data.map (fun b => Value.int .u8 b.toNat) ++ Builtin.zeroCells (Value.int .u8 0).cells (cap - str.size)) = (Lib.strCells str ++ List.replicate (cap - str.size) (Value.int .u8 0)).toArray := by
    apply Array.ext'
    simp [Lib.strCells, Builtin.zeroCells, Value.cells]
    apply List.ext_getElem
    · simp
    · intro q h1 h2
      simp [Nat.mod_one]
  rw [hcells] at hr
  have hlen : (Lib.strCells str ++ List.replicate (cap - str.size) (Value.int .u8 0)).length = cap * 1 := by
    rw [List.length_append, Lib.strCells_length, List.length_replicate]; omega
  have h1 := (hsat.draw (W.drawn + 1)).alloc (Lib.strCells str ++ List.replicate (cap - str.size) (Value.int .u8 0)) e
  rw [hlen] at h1
  have h2 := h1.less (j := 0) rfl
  have hex : (execOp a.eval oper).run P W = .ok (.value (.slice (some ⟨W.heap.size, 0, none⟩) str.size cap)) (W.drew.alloc (.cells (Lib.strCells str ++ List.replicate (cap - str.size) (Value.int .u8 0)).toArray e)) := by
    simp only [execOp, hop, resolve, invoke, builtin, Sem.run_bind, Sem.run_pure, Result.andThen_ok, List.map_toArray, List.map_cons, List.map_nil, ha.eval hs, ha.eval hx, hr]
  exact wp_value (noDefer_spec (by rw [hop]; rfl)) hex (hK _ _ X _ ⟨_, cap, rfl, rfl, rfl, hcap, hcm⟩ h2 (fun h => by cases h))
/-- bytealg.MakeNoZero: a new row whose bytes nobody knows. -/
theorem op_makeNoZero {f : FuncId} {gn : Func} {x : Operand} {ts ps : Array TypeId} {t e : TypeId} {k : Nat} (hf : P.funcs[f]? = some gn) (h1 : (gn.name == "runtime.NumGoroutine") = false) (h2 : gn.body.isNone = true) (h3 : Extern.findNext gn = none) (h4 : Extern.find gn = some (Extern.BytealgMakeNoZero.makeNoZero ps #[t]))
    (ht : P.underlying t = some (.slice e)) (hx : eev env x = some (.int .i64 (k : Int))) (hk : k ≤ 281474976710656) :
    OpX P n w0 X0 env own X (.call { callee := .value (.func f), args := #[x], argTypes := ts }) false fun v own' X' => ∃ b cap, v = .slice (some ⟨b, 0, none⟩) k cap ∧ own' = ⟨b, [], e, cap * 1⟩ :: own ∧ X = X' ∧ k ≤ cap ∧ cap ≤ maxLen := by
  intro a W oper K Q ro hop ha hsat hK
  have hmx : maxLen = 9223372036854775807 := rfl
  obtain ⟨cs, hr, hc1, hc2⟩ := Lib.run_makeNoZero (P := P) W ps t e ht k hk
  have hc : a.eval (.func f) = .func (.func f) #[] #[] := ha.eval rfl
  have hr2 := run_callFunc_extern hf h1 h2 h3 h4 #[.int .i64 (k : Int)] W
  rw [hr] at hr2
  have hex : (execOp a.eval oper).run P W = .ok (.value (.slice (some ⟨W.heap.size, 0, none⟩) k cs.size)) (W.drew.drew.alloc (.cells cs e)) := by
    simp only [execOp, hop, resolve, hc, Deferred.ofValue, invoke, Sem.run_bind, Sem.run_pure, Result.andThen_ok]
    simpa [ha.eval hx] using hr2
  have s1 := ((hsat.draw (W.drawn + 1)).draw (W.drawn + 1 + 1)).alloc cs.toList e
  rw [show cs.toList.length = cs.size * 1 by simp] at s1
  have s2 := s1.less (j := 0) (cs := []) (ds := cs.toList) rfl
  exact wp_value (noDefer_spec (by rw [hop]; rfl)) hex (hK _ _ X _ ⟨_, cs.size, rfl, rfl, rfl, hc1, hc2 (by omega)⟩ s2 (fun h => by cases h))
end
/-- WriteString, whatever the builder holds. -/
theorem writeStr_spec {X : PMap} {b : Nat} {p s : Value} {G : Own} {l : List UInt8} {t : ByteArray} (hp : p = .pointer none ∨ p = .pointer (some ⟨b, 0, none⟩)) (hG : BufG l s G) (hl : l.length < 1000000000) (ht : t.size < 1000000000) (h0 : 0 < t.size) :
    SpecM Tryd.prog 75 [.pointer (some ⟨b, 0, none⟩), .string t] X (BldO b p s :: G) fun u L' _ => u = .tuple #[.int .i64 (t.size : Int), .nilIface] ∧ ∃ s' G', L' = BldO b (.pointer (some ⟨b, 0, none⟩)) s' :: G' ∧ BufG (l ++ t.data.toList) s' G' := by
  have hts : t.data.toList.length = t.size := by simp
  rcases hG with ⟨hz, hcs, rfl, rfl⟩ | ⟨g, cap, rfl, rfl, hc1, hc2, hc3⟩
  · obtain rfl : l = [] := List.eq_nil_of_length_eq_zero hz
    refine SpecM.enter Tryd.func75 rfl Tryd.ntmps75 rfl ?_
    intro w0 X0 own0
    refine T.perm (own' := BldO b p (.slice none 0 0) :: own0) (List.Perm.refl _) ?_
    refine T.seq ?_
    refine T.region ?_
    refine SL.y (op_assign (v := .int .i64 ((0 : Nat) : Int)) rfl) rfl rfl ?_
    refine SL.y (op_assign rfl) rfl rfl ?_
    refine SL.nil ?_
    refine T.seq ?_
    refine T.region ?_
    refine SL.y (op_move rfl) rfl rfl ?_
    -- op
    refine SL.x (op_callM en93 (vs := [_]) rfl (copyCheck_spec hp) rfl) rfl rfl ?_
    rintro _ _ X1 ⟨_, rfl, hX1, rfl, rfl⟩
    refine SL.nil ?_
    refine T.seq ?_
    refine T.region ?_
    refine SL.y (op_move rfl) rfl rfl ?_
    refine SL.y (op_move rfl) rfl rfl ?_
    first | refine SL.y (op_nil rfl) rfl rfl ?_ | refine SL.y (op_nilFn rfl) rfl rfl ?_
    refine SL.y (op_fieldAddr fa111_1 rfl) rfl rfl ?_
    first | refine SL.y (op_load ty104 rfl (by repeat (first | exact AtO.here | apply AtO.there)) rfl) rfl rfl ?_ | refine SL.y (op_loadX ty104 rfl (by assumption) rfl) rfl rfl ?_
    refine SL.y (op_move rfl) rfl rfl ?_
    -- to 14: op
    refine SL.x (op_appendStrNil Tryd.underlying104 Tryd.underlying9 (infoStr_of (by kernel_rfl)) rfl rfl h0 (by omega)) rfl rfl ?_
    rintro _ _ _ ⟨g, cap, rfl, rfl, rfl, hc1, hc2⟩
    first | refine SL.y (op_nil rfl) rfl rfl ?_ | refine SL.y (op_nilFn rfl) rfl rfl ?_
    refine SL.y (op_fieldAddr fa111_1 rfl) rfl rfl ?_
    refine SL.x (op_store ty104 rfl rfl (by repeat (first | exact AtO.here | apply AtO.there)) rfl rfl rfl) rfl rfl ?_
    rintro _ _ _ ⟨rfl, rfl⟩
    refine SL.nil ?_
    refine T.seq ?_
    refine T.region ?_
    refine SL.y (op_move rfl) rfl rfl ?_
    refine SL.y (op_lenStr Tryd.underlying9 rfl) rfl rfl ?_
    refine SL.y (op_assign rfl) rfl rfl ?_
    refine SL.y (op_assign rfl) rfl rfl ?_
    refine SL.nil ?_
    -- ret
    refine T.retM2 (BldO b (.pointer (some ⟨b, 0, none⟩)) _ :: [_]) rfl (ResIs.tmp rfl) (ResIs.tmp rfl) (List.Perm.swap _ _ _) ?_
    refine ⟨hX1, rfl, _, _, rfl, ?_⟩
    rw [BufG, List.nil_append, hts]
    exact .inr ⟨g, cap, rfl, rfl, hc1, hc2, by rw [Lib.byteCells_length, hts]; omega⟩
  · refine SpecM.enter Tryd.func75 rfl Tryd.ntmps75 rfl ?_
    intro w0 X0 own0
    show T _ _ _ _ _ _ _ _ _ (BldO b p _ :: ([_] ++ own0)) _
    refine T.seq ?_
    refine T.region ?_
    refine SL.y (op_assign (v := .int .i64 ((0 : Nat) : Int)) rfl) rfl rfl ?_
    refine SL.y (op_assign rfl) rfl rfl ?_
    refine SL.nil ?_
    refine T.seq ?_
    refine T.region ?_
    refine SL.y (op_move rfl) rfl rfl ?_
    -- op
    refine SL.x (op_callM en93 (vs := [_]) rfl (copyCheck_spec hp) rfl) rfl rfl ?_
    rintro _ _ X1 ⟨_, rfl, hX1, rfl, rfl⟩
    refine SL.nil ?_
    refine T.seq ?_
    refine T.region ?_
    refine SL.y (op_move rfl) rfl rfl ?_
    refine SL.y (op_move rfl) rfl rfl ?_
    first | refine SL.y (op_nil rfl) rfl rfl ?_ | refine SL.y (op_nilFn rfl) rfl rfl ?_
    refine SL.y (op_fieldAddr fa111_1 rfl) rfl rfl ?_
    first | refine SL.y (op_load ty104 rfl (by repeat (first | exact AtO.here | apply AtO.there)) rfl) rfl rfl ?_ | refine SL.y (op_loadX ty104 rfl (by assumption) rfl) rfl rfl ?_
    refine SL.y (op_move rfl) rfl rfl ?_
    -- to 14: op
    refine SL.perm (own' := (BldO b (.pointer (some ⟨b, 0, none⟩)) (.slice (some ⟨g, 0, none⟩) l.length cap) :: own0) ++ [⟨g, Lib.byteCells l, 5, cap * 1⟩]) (permA (G := [_])) ?_
    refine SL.x (op_appendStr (own := BldO b (.pointer (some ⟨b, 0, none⟩)) (.slice (some ⟨g, 0, none⟩) l.length cap) :: own0) Tryd.underlying104 Tryd.underlying9 (infoStr_of (by kernel_rfl)) rfl rfl hc1 hc2 hc3 (by omega)) rfl rfl ?_
    rintro s' _ _ ⟨G', rfl, rfl, hG', _⟩
    obtain ⟨As', cps', rfl⟩ := hG'.form
    first | refine SL.y (op_nil rfl) rfl rfl ?_ | refine SL.y (op_nilFn rfl) rfl rfl ?_
    refine SL.y (op_fieldAddr fa111_1 rfl) rfl rfl ?_
    refine SL.x (op_store ty104 rfl rfl (by repeat (first | exact AtO.here | apply AtO.there)) rfl rfl rfl) rfl rfl ?_
    rintro _ _ _ ⟨rfl, rfl⟩
    refine SL.nil ?_
    refine T.seq ?_
    refine T.region ?_
    refine SL.y (op_move rfl) rfl rfl ?_
    refine SL.y (op_lenStr Tryd.underlying9 rfl) rfl rfl ?_
    refine SL.y (op_assign rfl) rfl rfl ?_
    refine SL.y (op_assign rfl) rfl rfl ?_
    refine SL.nil ?_
    -- ret
    refine T.retM2 (BldO b (.pointer (some ⟨b, 0, none⟩)) _ :: G') rfl (ResIs.tmp rfl) (ResIs.tmp rfl) permD ?_
    refine ⟨hX1, rfl, _, G', rfl, ?_⟩
    have e : Lib.byteCells (l ++ t.data.toList) = Lib.byteCells l ++ Lib.strCells t := by rw [Lib.byteCells_append]; rfl
    rw [BufG, e, List.length_append, hts]
    exact hG'
theorem growB_spec {X : PMap} {b : Nat} {p : Value} {k : Nat} (hk : k < 1000000000) (hk0 : 0 < k) : SpecM Tryd.prog 116 [.pointer (some ⟨b, 0, none⟩), .int .i64 (k : Int)] X [BldO b p (.slice none 0 0)] fun _ L' _ => ∃ s G, L' = BldO b p s :: G ∧ BufG [] s G := by
  refine SpecM.enter Tryd.func116 rfl Tryd.ntmps116 rfl ?_
  intro w0 X0 own0
  refine T.perm (own' := BldO b p (.slice none 0 0) :: own0) (List.Perm.refl _) ?_
  refine T.seq ?_
  refine T.draw (by kernel_rfl) 16 [.t 0, .t 1, .t 2, .t 3, .t 4, .t 5, .t 6, .t 7, .t 9, .t 10, .t 11, .t 12, .t 13, .r 8, .t 14, .t 15] (by kernel_rfl) ?_
  refine SD.take rfl panicBody (op_move rfl) rfl rfl ?_
  first | refine SD.take rfl panicBody (op_nil rfl) rfl rfl ?_ | refine SD.take rfl panicBody (op_nilFn rfl) rfl rfl ?_
  refine SD.take rfl panicBody (op_fieldAddr fa111_1 rfl) rfl rfl ?_
  first | refine SD.take rfl panicBody (op_load ty104 rfl (by repeat (first | exact AtO.here | apply AtO.there)) rfl) rfl rfl ?_ | refine SD.take rfl panicBody (op_loadX ty104 rfl (by assumption) rfl) rfl rfl ?_
  -- to 9: op
  refine SD.take rfl panicBody (op_capS Tryd.underlying104 rfl) rfl rfl ?_
  -- to 10: op
  refine SD.take rfl panicBody (op_mulN (p := 2) (q := 0) rfl rfl (by omega)) rfl rfl ?_
  refine SD.take rfl panicBody (op_move rfl) rfl rfl ?_
  -- to 12: op
  refine SD.take rfl panicBody (op_addN (p := 2 * 0) rfl rfl (by omega)) rfl rfl ?_
  refine SD.take rfl panicBody (op_move rfl) rfl rfl ?_
  first | refine SD.take rfl panicBody (op_nil rfl) rfl rfl ?_ | refine SD.take rfl panicBody (op_nilFn rfl) rfl rfl ?_
  refine SD.take rfl panicBody (op_fieldAddr fa111_1 rfl) rfl rfl ?_
  first | refine SD.take rfl panicBody (op_load ty104 rfl (by repeat (first | exact AtO.here | apply AtO.there)) rfl) rfl rfl ?_ | refine SD.take rfl panicBody (op_loadX ty104 rfl (by assumption) rfl) rfl rfl ?_
  refine SD.take rfl panicBody (op_lenS Tryd.underlying104 rfl) rfl rfl ?_
  -- op
  refine SD.runK rfl (op_makeNoZero (ps := #[3]) (k := 2 * 0 + k) Tryd.func122 (by kernel_rfl) (by kernel_rfl) (by kernel_rfl) (by kernel_rfl) Tryd.underlying104 rfl (by omega)) (by rintro _ _ _ ⟨g, cap, rfl, rfl, rfl, _, _⟩; exact ⟨fun p hp => List.mem_cons_of_mem _ hp, PMap.le_refl _⟩) rfl rfl ?_
  rintro _ _ _ ⟨g, cap, rfl, rfl, rfl, hc1, hc2⟩
  -- to 19: op
  refine SD.take rfl panicBody (op_sliceHiN (l := 0) Tryd.underlying104 ty5 rfl rfl rfl (by omega)) rfl rfl ?_
  refine SD.take rfl panicBody (op_assign rfl) rfl rfl ?_
  refine SD.nil ?_
  show SL _ _ _ _ _ _ _ [] _ _ _
  refine SL.nil ?_
  refine T.seq ?_
  refine T.region ?_
  refine SL.y (op_move rfl) rfl rfl ?_
  refine SL.y (op_move rfl) rfl rfl ?_
  first | refine SL.y (op_nil rfl) rfl rfl ?_ | refine SL.y (op_nilFn rfl) rfl rfl ?_
  refine SL.y (op_fieldAddr fa111_1 rfl) rfl rfl ?_
  first | refine SL.y (op_load ty104 rfl (by repeat (first | exact AtO.here | apply AtO.there)) rfl) rfl rfl ?_ | refine SL.y (op_loadX ty104 rfl (by assumption) rfl) rfl rfl ?_
  -- op
  refine SL.x (op_copyS (m := 0) (size := 1) (sl := 0) (news := []) Tryd.underlying104 (by kernel_rfl) rfl rfl AtO.here Src.nil rfl (by simp) (fun _ h => by cases h)) rfl rfl ?_
  rintro _ _ _ ⟨rfl, rfl, rfl⟩
  refine SL.nil ?_
  refine T.region ?_
  refine SL.y (op_move rfl) rfl rfl ?_
  refine SL.y (op_move rfl) rfl rfl ?_
  first | refine SL.y (op_nil rfl) rfl rfl ?_ | refine SL.y (op_nilFn rfl) rfl rfl ?_
  refine SL.y (op_fieldAddr fa111_1 rfl) rfl rfl ?_
  refine SL.x (op_store ty104 rfl rfl (by repeat (first | exact AtO.here | apply AtO.there)) rfl rfl rfl) rfl rfl ?_
  rintro _ _ _ ⟨rfl, rfl⟩
  refine SL.nil ?_
  -- end
  refine T.doneM0 (BldO b p _ :: [_]) rfl (List.Perm.swap _ _ _) ?_
  exact ⟨PMap.le_refl _, _, _, rfl, .inr ⟨g, cap, rfl, rfl, Nat.zero_le _, hc2, rfl⟩⟩
/-- Grow of a builder that holds nothing. -/
theorem growBld_spec {X : PMap} {b : Nat} {p : Value} {k : Nat} (hp : p = .pointer none ∨ p = .pointer (some ⟨b, 0, none⟩)) (hk : k < 1000000000) (hk0 : 0 < k) : SpecM Tryd.prog 106 [.pointer (some ⟨b, 0, none⟩), .int .i64 (k : Int)] X [BldO b p (.slice none 0 0)] fun _ L' _ => ∃ s G, L' = BldO b (.pointer (some ⟨b, 0, none⟩)) s :: G ∧ BufG [] s G := by
  refine SpecM.enter Tryd.func106 rfl Tryd.ntmps106 rfl ?_
  intro w0 X0 own0
  refine T.perm (own' := [BldO b p (.slice none 0 0)] ++ own0) (List.Perm.refl _) ?_
  refine T.seq ?_
  refine T.region ?_
  refine SL.y (op_move rfl) rfl rfl ?_
  -- op
  refine SL.x (op_callM en93 (vs := [_]) rfl (copyCheck_spec hp) rfl) rfl rfl ?_
  rintro _ _ X1 ⟨_, rfl, hX1, rfl, rfl⟩
  refine SL.nil ?_
  refine T.seq ?_
  refine T.seq ?_
  refine T.region ?_
  refine SL.y (op_move rfl) rfl rfl ?_
  first | refine SL.y (op_lssT rfl rfl (by omega)) rfl rfl ?_ | refine SL.y (op_lssF rfl rfl (by omega)) rfl rfl ?_ | refine SL.y (op_lss rfl rfl) rfl rfl ?_
  refine SL.nil ?_
  refine T.condF rfl ?_
  refine T.skip ?_
  refine T.seq ?_
  refine T.draw (by kernel_rfl) 13 [.t 0, .t 1, .t 2, .t 3, .t 4, .t 5, .t 6, .t 7, .t 8, .t 9, .t 10, .t 11, .t 12] (by kernel_rfl) ?_
  refine SD.take rfl panicBody (op_move rfl) rfl rfl ?_
  first | refine SD.take rfl panicBody (op_nil rfl) rfl rfl ?_ | refine SD.take rfl panicBody (op_nilFn rfl) rfl rfl ?_
  refine SD.take rfl panicBody (op_fieldAddr fa111_1 rfl) rfl rfl ?_
  first | refine SD.take rfl panicBody (op_load ty104 rfl (by repeat (first | exact AtO.here | apply AtO.there)) rfl) rfl rfl ?_ | refine SD.take rfl panicBody (op_loadX ty104 rfl (by assumption) rfl) rfl rfl ?_
  -- to 13: op
  refine SD.take rfl panicBody (op_capS Tryd.underlying104 rfl) rfl rfl ?_
  refine SD.take rfl panicBody (op_move rfl) rfl rfl ?_
  first | refine SD.take rfl panicBody (op_nil rfl) rfl rfl ?_ | refine SD.take rfl panicBody (op_nilFn rfl) rfl rfl ?_
  refine SD.take rfl panicBody (op_fieldAddr fa111_1 rfl) rfl rfl ?_
  first | refine SD.take rfl panicBody (op_load ty104 rfl (by repeat (first | exact AtO.here | apply AtO.there)) rfl) rfl rfl ?_ | refine SD.take rfl panicBody (op_loadX ty104 rfl (by assumption) rfl) rfl rfl ?_
  refine SD.take rfl panicBody (op_lenS Tryd.underlying104 rfl) rfl rfl ?_
  -- to 19: op
  refine SD.take rfl panicBody (op_subN (p := 0) (q := 0) rfl rfl (by omega) (by omega)) rfl rfl ?_
  refine SD.take rfl panicBody (op_move rfl) rfl rfl ?_
  first | refine SD.take rfl panicBody (op_lssT rfl rfl (by omega)) rfl rfl ?_ | refine SD.take rfl panicBody (op_lssF rfl rfl (by omega)) rfl rfl ?_ | refine SD.take rfl panicBody (op_lss rfl rfl) rfl rfl ?_
  refine SD.nil ?_
  show SL _ _ _ _ _ _ _ [] _ _ _
  refine SL.nil ?_
  refine T.condT rfl ?_
  refine T.region ?_
  refine SL.y (op_move rfl) rfl rfl ?_
  refine SL.y (op_move rfl) rfl rfl ?_
  -- op
  refine SL.x (op_callM en116 (vs := [_, _]) rfl (growB_spec hk hk0) rfl) rfl rfl ?_
  rintro _ _ X2 ⟨_, rfl, hX2, s, G, rfl, hG⟩
  refine SL.nil ?_
  -- end
  refine T.doneM0 (BldO b _ s :: G) rfl (List.Perm.refl _) ?_
  exact ⟨hX1.trans' hX2, s, G, rfl, hG⟩
def joinL (sep : ByteArray) : List ByteArray → List UInt8
  | [] => []
  | s :: l => s.data.toList ++ (l.map fun t => sep.data.toList ++ t.data.toList).flatten
def sumS (l : List ByteArray) : Nat := (l.map (·.size)).sum
theorem sumS_snoc (l : List ByteArray) (s : ByteArray) : sumS (l ++ [s]) = sumS l + s.size := by simp [sumS]
theorem joinL_snoc (sep : ByteArray) (a : ByteArray) (l : List ByteArray) (s : ByteArray) : joinL sep (a :: (l ++ [s])) = joinL sep (a :: l) ++ sep.data.toList ++ s.data.toList := by simp [joinL]
theorem sumS_take_le : ∀ (l : List ByteArray) (k : Nat), sumS (l.take k) ≤ sumS l
  | [], k => by simp
  | s :: l, 0 => by simp [sumS]
  | s :: l, k + 1 => by
    have := sumS_take_le l k
    simp only [sumS, List.take_succ_cons, List.map_cons, List.sum_cons] at this ⊢; omega
theorem sumS_mem {x : ByteArray} : ∀ {l : List ByteArray}, x ∈ l → x.size ≤ sumS l
  | y :: l, hm => by
    simp only [sumS, List.map_cons, List.sum_cons]
    rcases List.mem_cons.1 hm with rfl | hm
    · omega
    · have := sumS_mem hm; simp only [sumS] at this; omega
theorem joinL_len (sep : ByteArray) : ∀ (a : ByteArray) (l : List ByteArray), (joinL sep (a :: l)).length = sumS (a :: l) + sep.size * l.length
  | a, [] => by simp [joinL, sumS]
  | a, s :: l => by
    have := joinL_len sep a l
    simp only [joinL, sumS, List.map_cons, List.flatten_cons, List.sum_cons, List.length_append, List.length_cons, Nat.mul_succ] at this ⊢
    have e1 : a.data.toList.length = a.size := by simp
    have e2 : s.data.toList.length = s.size := by simp
    have e3 : sep.data.toList.length = sep.size := by simp
    omega
theorem join_spec {X : PMap} {v : Value} {l : List ByteArray} {sep : ByteArray} (h : RowR (fun s : ByteArray => [Value.string s]) X v l) (h1 : 1 ≤ l.length) (hl : l.length < 1000) (hs : sumS l < 100000000) (hz : ∀ s ∈ l, 0 < s.size) (hsp : 0 < sep.size) (hsp2 : sep.size < 1000) : Spec Tryd.prog 83 [v, .string sep] X fun u _ => u = .string ⟨(joinL sep l).toArray⟩ := by
  obtain ⟨A, cp, rfl⟩ := h.form
  obtain ⟨b0, pre, rfl, hB⟩ := h.blk (by omega)
  have hcap := h.cap (by omega)
  have hrd : ∀ {i k' : Nat} {s : ByteArray}, l[i]? = some s → k' = pre.length + i * 1 → cread false 1 (pre ++ (l.map fun s : ByteArray => [Value.string s]).flatten) k' = some (.string s) := fun hi e => row_cell (sz := 1) (j := 0) (fun _ => rfl) hi rfl (by omega)
  obtain ⟨a, l', rfl⟩ : ∃ a l', l = a :: l' := by
    cases l with
    | nil => simp at h1
    | cons a l' => exact ⟨a, l', rfl⟩
  rcases Nat.eq_zero_or_pos l'.length with h0 | h0
  · obtain rfl : l' = [] := List.eq_nil_of_length_eq_zero h0
    refine Spec.enter Tryd.func83 rfl Tryd.ntmps83 rfl ?_
    intro w0 hw0
    refine T.seq ?_
    refine T.region ?_
    refine SL.y (op_assign rfl) rfl rfl ?_
    refine SL.nil ?_
    refine T.seq ?_
    refine T.seq ?_
    refine T.region ?_
    refine SL.y (op_move rfl) rfl rfl ?_
    refine SL.y (op_lenS Tryd.underlying24 rfl) rfl rfl ?_
    refine SL.nil ?_
    refine T.block ?_
    refine T.seq ?_
    refine T.region ?_
    first | refine SL.y (op_eqlT rfl rfl (by omega)) rfl rfl ?_ | refine SL.y (op_eqlF rfl rfl (by omega)) rfl rfl ?_ | refine SL.y (op_eql rfl rfl) rfl rfl ?_
    refine SL.y (op_assign rfl) rfl rfl ?_
    refine SL.nil ?_
    refine T.condF rfl ?_
    refine T.seq ?_
    refine T.region ?_
    first | refine SL.y (op_eqlT rfl rfl (by omega)) rfl rfl ?_ | refine SL.y (op_eqlF rfl rfl (by omega)) rfl rfl ?_ | refine SL.y (op_eql rfl rfl) rfl rfl ?_
    refine SL.y (op_assign rfl) rfl rfl ?_
    refine SL.nil ?_
    refine T.condT rfl ?_
    refine T.seq ?_
    refine T.region ?_
    refine SL.y (op_move rfl) rfl rfl ?_
    first | refine SL.y (op_indexN Tryd.underlying24 ty9 rfl rfl (by omega)) rfl rfl ?_ | refine SL.y (op_index Tryd.underlying24 ty9 rfl rfl (by omega) (by omega)) rfl rfl ?_
    -- to 19: op
    refine SL.y (op_loadX ty9 rfl hB (hrd (i := 0) rfl (by omega))) rfl rfl ?_
    refine SL.y (op_assign rfl) rfl rfl ?_
    refine SL.nil ?_
    -- ret
    refine T.ret1 rfl (ResIs.tmp rfl) ?_
    simp [joinL]
  · have hd := h.drop (sz := 1) (fun _ => rfl) (k := 1) (by omega)
    simp only [List.length_cons, Nat.add_sub_cancel, List.drop_succ_cons, List.drop_zero] at h hd hcap hl h1
    have hq := joinL_len sep a l'
    have hmul : sep.size * l'.length ≤ 1000 * 1000 := Nat.mul_le_mul (by omega) (by omega)
    have hdiv : 9223372036854775807 / 1000 ≤ 9223372036854775807 / l'.length := Nat.div_le_div_left (by omega) (by omega)
    have hdv : (9223372036854775807 : Nat) / 1000 = 9223372036854775 := by decide
    rw [hdv] at hdiv
    have hmx : maxLen = 9223372036854775807 := rfl
    have hsa : 0 < a.size := hz a (by simp)
    have hsum : sumS (a :: l') = a.size + sumS l' := by simp [sumS]
    simp only [List.length_cons]
    refine Spec.enter Tryd.func83 rfl Tryd.ntmps83 rfl ?_
    intro w0 hw0
    refine T.seq ?_
    refine T.region ?_
    refine SL.y (op_assign rfl) rfl rfl ?_
    refine SL.nil ?_
    refine T.seq ?_
    refine T.seq ?_
    refine T.region ?_
    refine SL.y (op_move rfl) rfl rfl ?_
    refine SL.y (op_lenS Tryd.underlying24 rfl) rfl rfl ?_
    refine SL.nil ?_
    refine T.block ?_
    refine T.seq ?_
    refine T.region ?_
    first | refine SL.y (op_eqlT rfl rfl (by omega)) rfl rfl ?_ | refine SL.y (op_eqlF rfl rfl (by omega)) rfl rfl ?_ | refine SL.y (op_eql rfl rfl) rfl rfl ?_
    refine SL.y (op_assign rfl) rfl rfl ?_
    refine SL.nil ?_
    refine T.condF rfl ?_
    refine T.seq ?_
    refine T.region ?_
    first | refine SL.y (op_eqlT rfl rfl (by omega)) rfl rfl ?_ | refine SL.y (op_eqlF rfl rfl (by omega)) rfl rfl ?_ | refine SL.y (op_eql rfl rfl) rfl rfl ?_
    refine SL.y (op_assign rfl) rfl rfl ?_
    refine SL.nil ?_
    refine T.condF rfl ?_
    refine T.skip ?_
    refine T.blk ?_
    refine T.seq ?_
    refine T.region ?_
    refine SL.y (op_assign (v := .int .i64 ((0 : Nat) : Int)) rfl) rfl rfl ?_
    refine SL.nil ?_
    refine T.seq ?_
    refine T.seq ?_
    refine T.region ?_
    refine SL.y (op_move rfl) rfl rfl ?_
    refine SL.y (op_lenStr Tryd.underlying9 rfl) rfl rfl ?_
    first | refine SL.y (op_gtrT rfl rfl (by omega)) rfl rfl ?_ | refine SL.y (op_gtrF rfl rfl (by omega)) rfl rfl ?_ | refine SL.y (op_gtr rfl rfl) rfl rfl ?_
    refine SL.nil ?_
    refine T.condT rfl ?_
    refine T.seq ?_
    refine T.seq ?_
    refine T.region ?_
    refine SL.y (op_move rfl) rfl rfl ?_
    refine SL.y (op_lenStr Tryd.underlying9 rfl) rfl rfl ?_
    refine SL.y (op_move rfl) rfl rfl ?_
    refine SL.y (op_lenS Tryd.underlying24 rfl) rfl rfl ?_
    -- to 27: op
    refine SL.y (op_subN (p := l'.length + 1) (q := 1) rfl rfl (by omega) (by omega)) rfl rfl ?_
    rw [Nat.add_sub_cancel]
    -- to 28: op
    refine SL.y (op_quoN (p := 9223372036854775807) (q := l'.length) rfl rfl rfl (by omega) (by omega)) rfl rfl ?_
    first | refine SL.y (op_geqT rfl rfl (by omega)) rfl rfl ?_ | refine SL.y (op_geqF rfl rfl (by omega)) rfl rfl ?_ | refine SL.y (op_geq rfl rfl) rfl rfl ?_
    refine SL.nil ?_
    refine T.condF rfl ?_
    refine T.skip ?_
    refine T.region ?_
    refine SL.y (op_move rfl) rfl rfl ?_
    refine SL.y (op_move rfl) rfl rfl ?_
    refine SL.y (op_lenStr Tryd.underlying9 rfl) rfl rfl ?_
    refine SL.y (op_move rfl) rfl rfl ?_
    refine SL.y (op_lenS Tryd.underlying24 rfl) rfl rfl ?_
    -- to 36: op
    refine SL.y (op_subN (p := l'.length + 1) (q := 1) rfl rfl (by omega) (by omega)) rfl rfl ?_
    rw [Nat.add_sub_cancel]
    -- to 37: op
    refine SL.y (op_mulN rfl rfl (by omega)) rfl rfl ?_
    -- to 38: op
    refine SL.y (op_addN (p := 0) rfl rfl (by omega)) rfl rfl ?_
    rw [Nat.zero_add]
    refine SL.y (op_assign rfl) rfl rfl ?_
    refine SL.nil ?_
    refine T.seq ?_
    refine T.seq ?_
    refine T.region ?_
    refine SL.y (op_move rfl) rfl rfl ?_
    refine SL.y (op_lenS Tryd.underlying24 rfl) rfl rfl ?_
    refine SL.y (op_move (v := .int .i64 ((0 : Nat) : Int)) rfl) rfl rfl ?_
    refine SL.nil ?_
    refine T.block ?_
    -- loop live [0, 1, 4, 5, 39, 40, 41]
    refine T.loopW (fun m env own X' => ∃ i : Nat, m = l'.length + 1 - i ∧ i ≤ l'.length + 1 ∧ X.le X' ∧ env = [(0, .slice (some ⟨b0, pre.length, none⟩) (l'.length + 1) cp), (1, .string sep), (5, .int .i64 ((sep.size * l'.length + sumS ((a :: l').take i) : Nat) : Int)), (39, .slice (some ⟨b0, pre.length, none⟩) (l'.length + 1) cp), (40, .int .i64 ((l'.length + 1 : Nat) : Int)), (41, .int .i64 (i : Int))] ∧ own = []) (l'.length + 1) ⟨0, by simp, by omega, PMap.le_refl _, rfl, rfl⟩ (by repeat (first | exact Sub.nil | refine Sub.cons rfl ?_)) ?_
    rintro m _ _ X1 ⟨i, rfl, hi, hX1, rfl, rfl⟩
    have htl := sumS_take_le (a :: l') i
    rcases Nat.lt_or_ge i (l'.length + 1) with hil | hil
    · obtain ⟨x, hx⟩ : ∃ x, (a :: l')[i]? = some x := ⟨_, List.getElem?_eq_getElem (by simpa using hil)⟩
      have hts : sumS ((a :: l').take (i + 1)) = sumS ((a :: l').take i) + x.size := by
        obtain ⟨g1, g2⟩ := List.getElem?_eq_some_iff.1 hx
        rw [List.take_succ_eq_append_getElem g1, g2, sumS_snoc]
      have htl2 := sumS_take_le (a :: l') (i + 1)
      refine T.seq ?_
      refine T.region ?_
      first | refine SL.y (op_lssT rfl rfl (by omega)) rfl rfl ?_ | refine SL.y (op_lssF rfl rfl (by omega)) rfl rfl ?_ | refine SL.y (op_lss rfl rfl) rfl rfl ?_
      refine SL.nil ?_
      refine T.seq ?_
      refine T.condT rfl ?_
      refine T.skip ?_
      refine T.seq ?_
      refine T.block ?_
      refine T.seq ?_
      refine T.region ?_
      first | refine SL.y (op_indexN Tryd.underlying24 ty9 rfl rfl (by omega)) rfl rfl ?_ | refine SL.y (op_index Tryd.underlying24 ty9 rfl rfl (by omega) (by omega)) rfl rfl ?_
      -- to 44: op
      refine SL.y (op_loadX ty9 rfl (hB.mono hX1) (hrd hx (by omega))) rfl rfl ?_
      refine SL.y (op_assign rfl) rfl rfl ?_
      refine SL.nil ?_
      refine T.seq ?_
      refine T.seq ?_
      refine T.region ?_
      refine SL.y (op_move rfl) rfl rfl ?_
      refine SL.y (op_lenStr Tryd.underlying9 rfl) rfl rfl ?_
      refine SL.y (op_move rfl) rfl rfl ?_
      -- to 48: op
      refine SL.y (op_subN (p := 9223372036854775807) rfl rfl (by omega) (by omega)) rfl rfl ?_
      first | refine SL.y (op_gtrT rfl rfl (by omega)) rfl rfl ?_ | refine SL.y (op_gtrF rfl rfl (by omega)) rfl rfl ?_ | refine SL.y (op_gtr rfl rfl) rfl rfl ?_
      refine SL.nil ?_
      refine T.condF rfl ?_
      refine T.skip ?_
      refine T.region ?_
      refine SL.y (op_move rfl) rfl rfl ?_
      refine SL.y (op_move rfl) rfl rfl ?_
      refine SL.y (op_lenStr Tryd.underlying9 rfl) rfl rfl ?_
      -- to 54: op
      refine SL.y (op_addN rfl rfl (by omega)) rfl rfl ?_
      rw [show sep.size * l'.length + sumS ((a :: l').take i) + x.size = sep.size * l'.length + sumS ((a :: l').take (i + 1)) by omega]
      refine SL.y (op_assign rfl) rfl rfl ?_
      refine SL.nil ?_
      refine T.blk ?_
      refine T.region ?_
      first | refine SL.y (op_addN (q := 1) rfl rfl (by omega)) rfl rfl ?_ | refine SL.y (op_add rfl rfl (by omega) (by omega)) rfl rfl ?_ | refine SL.y (op_addW rfl rfl) rfl rfl ?_
      refine SL.y (op_move rfl) rfl rfl ?_
      refine SL.nil ?_
      -- cut
      exact T.backW (l'.length + 1 - (i + 1)) (by omega) ⟨i + 1, rfl, by omega, hX1, rfl, rfl⟩ (by repeat (first | exact Sub.nil | refine Sub.cons rfl ?_))
    · obtain rfl : i = l'.length + 1 := by omega
      rw [show (a :: l').take (l'.length + 1) = a :: l' from List.take_of_length_le (by simp)]
      refine T.seq ?_
      refine T.region ?_
      first | refine SL.y (op_lssT rfl rfl (by omega)) rfl rfl ?_ | refine SL.y (op_lssF rfl rfl (by omega)) rfl rfl ?_ | refine SL.y (op_lss rfl rfl) rfl rfl ?_
      refine SL.nil ?_
      refine T.seq ?_
      refine T.condF rfl ?_
      refine T.exit (T.exitCode (T.exitCut (T.exitBlk ?_)))
      refine T.seq ?_
      refine T.region ?_
      refine SL.x (op_alloc z111) rfl rfl ?_
      rintro _ _ _ ⟨B8, rfl, rfl, rfl⟩
      refine SL.nil ?_
      refine T.seq ?_
      refine T.region ?_
      refine SL.y (op_move rfl) rfl rfl ?_
      -- op
      refine SL.x (op_callM en106 (vs := [_, _]) rfl (growBld_spec (.inl rfl) (by omega) (by omega)) rfl) rfl rfl ?_
      rintro _ _ X2 ⟨_, rfl, hX2, s2, G2, rfl, hG2⟩
      refine SL.nil ?_
      refine T.seq ?_
      refine T.region ?_
      refine SL.y (op_move rfl) rfl rfl ?_
      first | refine SL.y (op_indexN Tryd.underlying24 ty9 rfl rfl (by omega)) rfl rfl ?_ | refine SL.y (op_index Tryd.underlying24 ty9 rfl rfl (by omega) (by omega)) rfl rfl ?_
      -- to 60: op
      refine SL.y (op_loadX ty9 rfl ((hB.mono hX1).mono hX2) (hrd (i := 0) rfl (by omega))) rfl rfl ?_
      -- op
      refine SL.x (op_callM en75 (vs := [_, _]) rfl (writeStr_spec (.inr rfl) hG2 (by simp) (by omega) hsa) rfl) rfl rfl ?_
      rintro _ _ X3 ⟨_, rfl, hX3, rfl, s3, G3, rfl, hG3⟩
      refine SL.nil ?_
      refine T.seq ?_
      refine T.seq ?_
      refine T.region ?_
      refine SL.y (op_move rfl) rfl rfl ?_
      -- to 63: op
      refine SL.y (op_sliceLo (l := 1) Tryd.underlying24 ty9 rfl rfl (by omega) (by omega)) rfl rfl ?_
      rw [Nat.add_sub_cancel]
      generalize slA (some ⟨b0, pre.length, none⟩) cp 1 1 = A1 at *
      rw [List.nil_append] at hG3
      refine SL.y (op_lenS Tryd.underlying24 rfl) rfl rfl ?_
      refine SL.y (op_move (v := .int .i64 ((0 : Nat) : Int)) rfl) rfl rfl ?_
      refine SL.nil ?_
      refine T.block ?_
      -- loop live [1, 4, 8, 63, 64, 65]
      refine T.loopW (fun m env own X' => ∃ (i : Nat) (s : Value) (G : Own), m = l'.length - i ∧ i ≤ l'.length ∧ X3.le X' ∧ BufG (joinL sep (a :: l'.take i)) s G ∧ env = [(1, .string sep), (8, .pointer (some ⟨B8, 0, none⟩)), (63, .slice A1 l'.length (cp - 1)), (64, .int .i64 (l'.length : Int)), (65, .int .i64 (i : Int))] ∧ own = (BldO B8 (.pointer (some ⟨B8, 0, none⟩)) s :: G) ++ []) l'.length ⟨0, _, _, by simp, by omega, PMap.le_refl _, by simpa [joinL] using hG3, rfl, rfl⟩ (by repeat (first | exact Sub.nil | refine Sub.cons rfl ?_)) ?_
      rintro m _ _ X4 ⟨i, s, G, rfl, hi, hX4, hG, rfl, rfl⟩
      have hjl := joinL_len sep a (l'.take i)
      have hsl : sumS (a :: l'.take i) = a.size + sumS (l'.take i) := by simp [sumS]
      have hst := sumS_take_le l' i
      have hml : sep.size * (l'.take i).length ≤ 1000 * 1000 := Nat.mul_le_mul (by omega) (by rw [List.length_take]; omega)
      rcases Nat.lt_or_ge i l'.length with hil | hil
      · obtain ⟨x, hx⟩ : ∃ x, l'[i]? = some x := ⟨_, List.getElem?_eq_getElem hil⟩
        have hxz := hz x (by simp [List.mem_of_getElem? hx])
        have hxs := sumS_mem (List.mem_of_getElem? hx)
        obtain ⟨b5, pre5, rfl, hB5⟩ := hd.blk (by omega)
        have hX34 := (hX1.trans' hX2).trans' (hX3.trans' hX4)
        refine T.seq ?_
        refine T.region ?_
        first | refine SL.y (op_lssT rfl rfl (by omega)) rfl rfl ?_ | refine SL.y (op_lssF rfl rfl (by omega)) rfl rfl ?_ | refine SL.y (op_lss rfl rfl) rfl rfl ?_
        refine SL.nil ?_
        refine T.seq ?_
        refine T.condT rfl ?_
        refine T.skip ?_
        refine T.seq ?_
        refine T.block ?_
        refine T.seq ?_
        refine T.region ?_
        first | refine SL.y (op_indexN Tryd.underlying24 ty9 rfl rfl (by omega)) rfl rfl ?_ | refine SL.y (op_index Tryd.underlying24 ty9 rfl rfl (by omega) (by omega)) rfl rfl ?_
        -- to 68: op
        refine SL.y (op_loadX ty9 rfl (hB5.mono hX34) (row_cell (sz := 1) (j := 0) (fun _ => rfl) hx rfl (by omega))) rfl rfl ?_
        refine SL.y (op_assign rfl) rfl rfl ?_
        refine SL.nil ?_
        refine T.seq ?_
        refine T.region ?_
        refine SL.y (op_move rfl) rfl rfl ?_
        -- op
        refine SL.x (op_callM en75 (vs := [_, _]) rfl (writeStr_spec (.inr rfl) hG (by omega) (by omega) hsp) rfl) rfl rfl ?_
        rintro _ _ X5 ⟨_, rfl, hX5, rfl, s5, G5, rfl, hG5⟩
        refine SL.nil ?_
        refine T.region ?_
        refine SL.y (op_move rfl) rfl rfl ?_
        -- op
        refine SL.x (op_callM en75 (vs := [_, _]) rfl (writeStr_spec (.inr rfl) hG5 (by rw [List.length_append]; simp; omega) (by omega) hxz) rfl) rfl rfl ?_
        rintro _ _ X6 ⟨_, rfl, hX6, rfl, s6, G6, rfl, hG6⟩
        have hts : l'.take (i + 1) = l'.take i ++ [x] := by
          obtain ⟨g1, g2⟩ := List.getElem?_eq_some_iff.1 hx
          rw [List.take_succ_eq_append_getElem g1, g2]
        rw [← joinL_snoc, ← hts] at hG6
        refine SL.nil ?_
        refine T.blk ?_
        refine T.region ?_
        first | refine SL.y (op_addN (q := 1) rfl rfl (by omega)) rfl rfl ?_ | refine SL.y (op_add rfl rfl (by omega) (by omega)) rfl rfl ?_ | refine SL.y (op_addW rfl rfl) rfl rfl ?_
        refine SL.y (op_move rfl) rfl rfl ?_
        refine SL.nil ?_
        -- cut
        exact T.backW (l'.length - (i + 1)) (by omega) ⟨i + 1, _, _, rfl, by omega, (hX4.trans' hX5).trans' hX6, hG6, rfl, rfl⟩ (by repeat (first | exact Sub.nil | refine Sub.cons rfl ?_))
      · obtain rfl : i = l'.length := by omega
        rw [List.take_length] at hG
        refine T.seq ?_
        refine T.region ?_
        first | refine SL.y (op_lssT rfl rfl (by omega)) rfl rfl ?_ | refine SL.y (op_lssF rfl rfl (by omega)) rfl rfl ?_ | refine SL.y (op_lss rfl rfl) rfl rfl ?_
        refine SL.nil ?_
        refine T.seq ?_
        refine T.condF rfl ?_
        refine T.exit (T.exitCode (T.exitCut (T.exitBlk ?_)))
        refine T.seq ?_
        refine T.region ?_
        -- op
        refine SL.x (op_callM en76 (vs := [_]) rfl (builderString_spec hG (fun h => by rw [h] at hq; simp at hq; omega) (by omega)) rfl) rfl rfl ?_
        rintro _ _ X5 ⟨_, rfl, hX5, rfl, rfl⟩
        refine SL.y (op_assign rfl) rfl rfl ?_
        refine SL.nil ?_
        -- ret
        refine T.ret1 rfl (ResIs.tmp rfl) ?_
        rfl
end Go.Proofs.YtaooojjhlngcmaaDoor
