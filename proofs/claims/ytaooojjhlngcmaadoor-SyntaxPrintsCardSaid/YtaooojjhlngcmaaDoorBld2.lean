/- strings.Builder: writing and reading; the text of a set of digits. -/
import Derived.Test.YtaooojjhlngcmaaDoorBld
namespace Go.Proofs.YtaooojjhlngcmaaDoor
section
set_option maxRecDepth 100000
theorem en93 : Enters Tryd.prog 93 := enters_mk Tryd.func93 (by kernel_rfl) rfl
theorem fa111_1 : FAdr Tryd.prog 111 1 1 := fadr_mk Tryd.underlying111 rfl rfl (by kernel_rfl)
theorem ty104 : Ty Tryd.prog 104 false 1 := ⟨⟨_, Tryd.underlying104, rfl⟩, by kernel_rfl⟩
end
open Go.RowKit
/-- The builder's bytes. -/
def BufG (l : List UInt8) (s : Value) (G : Own) : Prop := GrowS 5 1 s l.length (Lib.byteCells l) G
theorem bufg_snoc {l : List UInt8} {c : UInt8} {s : Value} {G : Own} (h : GrowS 5 1 s (l.length + 1) (Lib.byteCells l ++ [.int .u8 (c.toNat : Int)]) G) : BufG (l ++ [c]) s G := by
  unfold BufG
  simpa [Lib.byteCells] using h
theorem writeString_spec {X : PMap} {b : Nat} {p s : Value} {G : Own} {l : List UInt8} (t : List UInt8) (hp : p = .pointer none ∨ p = .pointer (some ⟨b, 0, none⟩)) (hG : BufG l s G) (h0 : l ≠ []) (hl : l.length < 1000000000) (ht : t.length < 1000000000) :
    SpecM Tryd.prog 75 [.pointer (some ⟨b, 0, none⟩), .string ⟨t.toArray⟩] X (BldO b p s :: G) fun u L' _ => u = .tuple #[.int .i64 (t.length : Int), .nilIface] ∧ ∃ s' G', L' = BldO b (.pointer (some ⟨b, 0, none⟩)) s' :: G' ∧ BufG (l ++ t) s' G' := by
  rcases hG with ⟨hz, _⟩ | ⟨g, cap, rfl, rfl, hc1, hc2, hc3⟩
  · exact absurd (List.eq_nil_of_length_eq_zero hz) h0
  refine SpecM.enter Tryd.func75 rfl Tryd.ntmps75 rfl ?_
  intro w0 X0 own0
  show T _ _ _ _ _ _ _ _ _ (BldO b p _ :: ([_] ++ own0)) _
  refine T.seq ?_
  refine T.region ?_
  refine SL.y (op_assign (v := .int .i64 ((0 : Nat) : Int)) rfl) rfl rfl ?_
  refine SL.y (op_assign rfl) rfl rfl ?_
  refine SL.nil ?_
  refine T.seq ?_
  refine T.region ?_
  refine SL.y (op_move rfl) rfl rfl ?_
  -- op
  refine SL.x (op_callM en93 (vs := [_]) rfl (copyCheck_spec hp) rfl) rfl rfl ?_
  rintro _ _ X1 ⟨_, rfl, hX1, rfl, rfl⟩
  refine SL.nil ?_
  refine T.seq ?_
  refine T.region ?_
  refine SL.y (op_move rfl) rfl rfl ?_
  refine SL.y (op_move rfl) rfl rfl ?_
  first | refine SL.y (op_nil rfl) rfl rfl ?_ | refine SL.y (op_nilFn rfl) rfl rfl ?_
  refine SL.y (op_fieldAddr fa111_1 rfl) rfl rfl ?_
  first | refine SL.y (op_load ty104 rfl (by repeat (first | exact AtO.here | apply AtO.there)) rfl) rfl rfl ?_ | refine SL.y (op_loadX ty104 rfl (by assumption) rfl) rfl rfl ?_
  refine SL.y (op_move rfl) rfl rfl ?_
  -- to 14: op
  refine SL.perm (own' := (BldO b (.pointer (some ⟨b, 0, none⟩)) (.slice (some ⟨g, 0, none⟩) l.length cap) :: own0) ++ [⟨g, Lib.byteCells l, 5, cap * 1⟩]) (permA (G := [_])) ?_
  refine SL.x (op_appendStr (own := BldO b (.pointer (some ⟨b, 0, none⟩)) (.slice (some ⟨g, 0, none⟩) l.length cap) :: own0) Tryd.underlying104 Tryd.underlying9 (infoStr_of (by kernel_rfl)) rfl rfl hc1 hc2 hc3 (by show l.length + t.length ≤ _; omega)) rfl rfl ?_
  rintro s' _ _ ⟨G', rfl, rfl, hG', _⟩
  obtain ⟨As', cps', rfl⟩ := hG'.form
  first | refine SL.y (op_nil rfl) rfl rfl ?_ | refine SL.y (op_nilFn rfl) rfl rfl ?_
  refine SL.y (op_fieldAddr fa111_1 rfl) rfl rfl ?_
  refine SL.x (op_store ty104 rfl rfl (by repeat (first | exact AtO.here | apply AtO.there)) rfl rfl rfl) rfl rfl ?_
  rintro _ _ _ ⟨rfl, rfl⟩
  refine SL.nil ?_
  refine T.seq ?_
  refine T.region ?_
  refine SL.y (op_move rfl) rfl rfl ?_
  refine SL.y (op_lenStr Tryd.underlying9 rfl) rfl rfl ?_
  refine SL.y (op_assign rfl) rfl rfl ?_
  refine SL.y (op_assign rfl) rfl rfl ?_
  refine SL.nil ?_
  -- ret
  refine T.retM2 (BldO b (.pointer (some ⟨b, 0, none⟩)) _ :: G') rfl (ResIs.tmp rfl) (ResIs.tmp rfl) permD ?_
  refine ⟨hX1, rfl, _, G', rfl, ?_⟩
  have e : Lib.byteCells (l ++ t) = Lib.byteCells l ++ Lib.strCells ⟨t.toArray⟩ := by rw [Lib.byteCells_append]; rfl
  rw [BufG, e, List.length_append]
  exact hG'
theorem builderString_spec {X : PMap} {b : Nat} {p s : Value} {G : Own} {l : List UInt8} (hG : BufG l s G) (h0 : l ≠ []) (hl : l.length < 1000000000) :
    SpecM Tryd.prog 76 [.pointer (some ⟨b, 0, none⟩)] X (BldO b p s :: G) fun u L' _ => u = .string ⟨l.toArray⟩ ∧ L' = [BldO b p s] := by
  rcases hG with ⟨hz, _⟩ | ⟨g, cap, rfl, rfl, hc1, hc2, hc3⟩
  · exact absurd (List.eq_nil_of_length_eq_zero hz) h0
  have hpos : 0 < l.length := List.length_pos_iff.2 h0
  refine SpecM.enter Tryd.func76 rfl Tryd.ntmps76 rfl ?_
  intro w0 X0 own0
  refine T.perm (own' := (BldO b p (.slice (some ⟨g, 0, none⟩) l.length cap) :: own0) ++ [⟨g, Lib.byteCells l, 5, cap * 1⟩]) permC ?_
  refine T.seq ?_
  refine T.region ?_
  refine SL.y (op_assign rfl) rfl rfl ?_
  refine SL.nil ?_
  refine T.seq ?_
  refine T.drawG (own0 := BldO b p (.slice (some ⟨g, 0, none⟩) l.length cap) :: own0) (by kernel_rfl) 12 [.t 0, .t 1, .t 2, .t 3, .t 4, .t 5, .t 6, .t 7, .t 8, .t 9, .r 10, .t 11] (by kernel_rfl) ?_
  refine SD.take rfl panicBody (op_move rfl) rfl rfl ?_
  first | refine SD.take rfl panicBody (op_nil rfl) rfl rfl ?_ | refine SD.take rfl panicBody (op_nilFn rfl) rfl rfl ?_
  refine SD.take rfl panicBody (op_fieldAddr fa111_1 rfl) rfl rfl ?_
  first | refine SD.take rfl panicBody (op_load ty104 rfl (by repeat (first | exact AtO.here | apply AtO.there)) rfl) rfl rfl ?_ | refine SD.take rfl panicBody (op_loadX ty104 rfl (by assumption) rfl) rfl rfl ?_
  -- op
  refine SD.take rfl panicBody (op_sliceData rfl (by omega)) rfl rfl ?_
  refine SD.take rfl panicBody (op_move rfl) rfl rfl ?_
  first | refine SD.take rfl panicBody (op_nil rfl) rfl rfl ?_ | refine SD.take rfl panicBody (op_nilFn rfl) rfl rfl ?_
  refine SD.take rfl panicBody (op_fieldAddr fa111_1 rfl) rfl rfl ?_
  first | refine SD.take rfl panicBody (op_load ty104 rfl (by repeat (first | exact AtO.here | apply AtO.there)) rfl) rfl rfl ?_ | refine SD.take rfl panicBody (op_loadX ty104 rfl (by assumption) rfl) rfl rfl ?_
  refine SD.take rfl panicBody (op_lenS Tryd.underlying104 rfl) rfl rfl ?_
  -- op
  refine SD.runK rfl (op_unsafeStr Tryd.underlying128 (by kernel_rfl) rfl rfl h0 hc1 hc2) (by rintro _ _ _ ⟨rfl, rfl, rfl⟩; exact ⟨fun p hp => hp, PMap.le_refl _⟩) rfl rfl ?_
  rintro _ _ _ ⟨rfl, rfl, rfl⟩
  refine SD.take rfl panicBody (op_assign rfl) rfl rfl ?_
  refine SD.nil ?_
  show SL _ _ _ _ _ _ _ [] _ _ _
  refine SL.nil ?_
  -- ret
  refine T.retM1 [BldO b p (.slice (some ⟨g, 0, none⟩) l.length cap)] rfl (ResIs.tmp rfl) (List.Perm.refl _) ?_
  exact ⟨PMap.le_refl _, rfl, rfl⟩
/-- The text of a set of digits, without its last byte. -/
def txtOf (l : List Nat) : List UInt8 := l.foldl (fun acc i => (if 1 < acc.length then acc ++ [32] else acc) ++ [UInt8.ofNat (48 + i)]) [123]
theorem txtOf_succ (l : List Nat) (i : Nat) (h : i < l.length) : txtOf (l.take (i + 1)) = (if 1 < (txtOf (l.take i)).length then txtOf (l.take i) ++ [32] else txtOf (l.take i)) ++ [UInt8.ofNat (48 + l[i])] := by
  unfold txtOf
  rw [List.take_succ_eq_append_getElem h, List.foldl_append]
  rfl
theorem txtOf_len (l : List Nat) : 1 ≤ (txtOf l).length ∧ (txtOf l).length ≤ 1 + 2 * l.length := by
  have key : ∀ (l : List Nat) (acc : List UInt8), 1 ≤ acc.length → 1 ≤ (l.foldl (fun acc i => (if 1 < acc.length then acc ++ [32] else acc) ++ [UInt8.ofNat (48 + i)]) acc).length ∧ (l.foldl (fun acc i => (if 1 < acc.length then acc ++ [32] else acc) ++ [UInt8.ofNat (48 + i)]) acc).length ≤ acc.length + 2 * l.length := by
    intro l
    induction l with
    | nil => intro acc h; simpa using h
    | cons i l ih =>
      intro acc h
      rw [List.foldl_cons]
      have := ih ((if 1 < acc.length then acc ++ [32] else acc) ++ [UInt8.ofNat (48 + i)]) (by simp)
      refine ⟨this.1, Nat.le_trans this.2 ?_⟩
      split <;> simp <;> omega
  have := key l [123] (by simp)
  simpa [txtOf] using this
theorem ints_len_take (l : List Nat) : l.take (ints l).length = l := by simp [ints]
theorem op_eqlStrT {P : Program} {n : NM} {own : Own} {X : PMap} {env : Env} {t t' : TypeId} {x y : Operand} {s : ByteArray} (ht : P.underlying t = some .string) (hx : eev env x = some (.string s)) (hy : eev env y = some (.string s)) : OpY P n env own X (.binOp .eql t x y t') (.bool true) := by
  have := op_eqlStr (P := P) (n := n) (own := own) (X := X) (t' := t') ht hx hy
  rwa [beq_self_eq_true] at this
end Go.Proofs.YtaooojjhlngcmaaDoor
