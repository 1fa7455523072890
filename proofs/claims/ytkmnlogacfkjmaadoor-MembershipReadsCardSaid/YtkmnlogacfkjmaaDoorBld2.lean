/- strings.Builder: writing and reading; the text of a set of digits. -/
import Derived.Test.YtkmnlogacfkjmaaDoorBld
namespace Go.Proofs.YtkmnlogacfkjmaaDoor
section
set_option maxRecDepth 100000
theorem bs5 : ∃ i z, Tryd.prog.info? 5 = some i ∧ i.size = 1 ∧ i.zero = some z ∧ z.cells = ([.int .u8 0] : List Value).toArray := bs_of (by kernel_rfl)
theorem en73 : Enters Tryd.prog 73 := enters_mk Tryd.func73 (by kernel_rfl) rfl
theorem en74 : Enters Tryd.prog 74 := enters_mk Tryd.func74 (by kernel_rfl) rfl
theorem en75 : Enters Tryd.prog 75 := enters_mk Tryd.func75 (by kernel_rfl) rfl
theorem en76 : Enters Tryd.prog 76 := enters_mk Tryd.func76 (by kernel_rfl) rfl
theorem en77 : Enters Tryd.prog 77 := enters_mk Tryd.func77 (by kernel_rfl) rfl
theorem en93 : Enters Tryd.prog 93 := enters_mk Tryd.func93 (by kernel_rfl) rfl
theorem fa118_1 : FAdr Tryd.prog 118 1 1 := fadr_mk Tryd.underlying118 rfl rfl (by kernel_rfl)
theorem sl77 : SlT Tryd.prog 77 5 1 1 := ⟨Tryd.underlying77, sl_of (by kernel_rfl) (by decide)⟩
theorem ty77 : Ty Tryd.prog 77 false 1 := ⟨⟨_, Tryd.underlying77, rfl⟩, by kernel_rfl⟩
theorem z118 : Zero Tryd.prog 118 [.pointer none, .slice none 0 0] := ⟨zero_of (by kernel_rfl)⟩
end
open Go.RowKit
/-- The builder's bytes. -/
def BufG (l : List UInt8) (s : Value) (G : Own) : Prop := GrowS 5 1 s l.length (Lib.byteCells l) G
theorem bufg_snoc {l : List UInt8} {c : UInt8} {s : Value} {G : Own} (h : GrowS 5 1 s (l.length + 1) (Lib.byteCells l ++ [.int .u8 (c.toNat : Int)]) G) : BufG (l ++ [c]) s G := by
  unfold BufG
  simpa [Lib.byteCells] using h
theorem writeByte_spec {X : PMap} {b : Nat} {p s : Value} {G : Own} {l : List UInt8} (c : UInt8) (hp : p = .pointer none ∨ p = .pointer (some ⟨b, 0, none⟩)) (hG : BufG l s G) (hl : l.length < 1000000000) :
    SpecM Tryd.prog 73 [.pointer (some ⟨b, 0, none⟩), .int .u8 (c.toNat : Int)] X (BldO b p s :: G) fun u L' _ => u = .nilIface ∧ ∃ s' G', L' = BldO b (.pointer (some ⟨b, 0, none⟩)) s' :: G' ∧ BufG (l ++ [c]) s' G' := by
  obtain ⟨As, cps, rfl⟩ := GrowS.form hG
  refine SpecM.enter Tryd.func73 rfl Tryd.ntmps73 rfl ?_
  intro w0 X0 own0
  show T _ _ _ _ _ _ _ _ _ (BldO b p _ :: (G ++ own0)) _
  refine T.seq ?_
  refine T.region ?_
  refine SL.y (op_assign rfl) rfl rfl ?_
  refine SL.nil ?_
  refine T.seq ?_
  refine T.region ?_
  refine SL.y (op_move rfl) rfl rfl ?_
  -- op
  refine SL.x (op_callM en93 (vs := [_]) rfl (copyCheck_spec hp) rfl) rfl rfl ?_
  rintro _ _ X1 ⟨_, rfl, hX1, rfl, rfl⟩
  refine SL.nil ?_
  refine T.seq ?_
  refine T.region ?_
  refine SL.y (op_move rfl) rfl rfl ?_
  refine SL.y (op_move rfl) rfl rfl ?_
  first | refine SL.y (op_nil rfl) rfl rfl ?_ | refine SL.y (op_nilFn rfl) rfl rfl ?_
  refine SL.y (op_fieldAddr fa118_1 rfl) rfl rfl ?_
  first | refine SL.y (op_load ty77 rfl (by repeat (first | exact AtO.here | apply AtO.there)) rfl) rfl rfl ?_ | refine SL.y (op_loadX ty77 rfl (by assumption) rfl) rfl rfl ?_
  refine SL.y (op_move rfl) rfl rfl ?_
  refine SL.x (op_buildSlice Tryd.underlying77 bs5 (qs := [(0, _)]) rfl rfl rfl rfl rfl) rfl rfl ?_
  rintro _ _ _ ⟨B13, rfl, rfl, rfl⟩
  -- to 14: op
  refine SL.perm (own' := ⟨B13, [.int .u8 (c.toNat : Int)], 5, 1⟩ :: ((BldO b (.pointer (some ⟨b, 0, none⟩)) (.slice As l.length cps) :: own0) ++ G)) permL ?_
  refine SL.x (op_appendG (own0 := BldO b (.pointer (some ⟨b, 0, none⟩)) (.slice As l.length cps) :: own0) sl77 rfl hG rfl rfl rfl (by (have : maxLen = 9223372036854775807 := rfl); omega) (by omega)) rfl rfl ?_
  rintro s' _ _ ⟨G', rfl, rfl, hG'⟩
  obtain ⟨As', cps', rfl⟩ := hG'.form
  first | refine SL.y (op_nil rfl) rfl rfl ?_ | refine SL.y (op_nilFn rfl) rfl rfl ?_
  refine SL.y (op_fieldAddr fa118_1 rfl) rfl rfl ?_
  refine SL.x (op_store ty77 rfl rfl (by repeat (first | exact AtO.here | apply AtO.there)) rfl rfl rfl) rfl rfl ?_
  rintro _ _ _ ⟨rfl, rfl⟩
  refine SL.nil ?_
  refine T.seq ?_
  refine T.region ?_
  refine SL.y (op_assign rfl) rfl rfl ?_
  refine SL.nil ?_
  -- ret
  refine T.retM1 (BldO b (.pointer (some ⟨b, 0, none⟩)) _ :: G') rfl (ResIs.tmp rfl) permD ?_
  exact ⟨hX1, rfl, _, G', rfl, bufg_snoc hG'⟩
theorem builderLen_spec {X : PMap} {b : Nat} {p s : Value} {G : Own} {l : List UInt8} (hG : BufG l s G) :
    SpecM Tryd.prog 74 [.pointer (some ⟨b, 0, none⟩)] X [BldO b p s] fun u L' _ => u = .int .i64 (l.length : Int) ∧ L' = [BldO b p s] := by
  obtain ⟨As, cps, rfl⟩ := GrowS.form hG
  refine SpecM.enter Tryd.func74 rfl Tryd.ntmps74 rfl ?_
  intro w0 X0 own0
  refine T.seq ?_
  refine T.region ?_
  refine SL.y (op_assign (v := .int .i64 ((0 : Nat) : Int)) rfl) rfl rfl ?_
  refine SL.nil ?_
  refine T.seq ?_
  refine T.region ?_
  refine SL.y (op_move rfl) rfl rfl ?_
  first | refine SL.y (op_nil rfl) rfl rfl ?_ | refine SL.y (op_nilFn rfl) rfl rfl ?_
  refine SL.y (op_fieldAddr fa118_1 rfl) rfl rfl ?_
  first | refine SL.y (op_load ty77 rfl (by repeat (first | exact AtO.here | apply AtO.there)) rfl) rfl rfl ?_ | refine SL.y (op_loadX ty77 rfl (by assumption) rfl) rfl rfl ?_
  refine SL.y (op_lenS Tryd.underlying77 rfl) rfl rfl ?_
  refine SL.y (op_assign rfl) rfl rfl ?_
  refine SL.nil ?_
  -- ret
  refine T.retM1 [BldO b p (.slice As l.length cps)] rfl (ResIs.tmp rfl) (List.Perm.refl _) ?_
  exact ⟨PMap.le_refl _, rfl, rfl⟩
theorem writeString_spec {X : PMap} {b : Nat} {p s : Value} {G : Own} {l : List UInt8} (t : List UInt8) (hp : p = .pointer none ∨ p = .pointer (some ⟨b, 0, none⟩)) (hG : BufG l s G) (h0 : l ≠ []) (hl : l.length < 1000000000) (ht : t.length < 1000000000) :
    SpecM Tryd.prog 75 [.pointer (some ⟨b, 0, none⟩), .string ⟨t.toArray⟩] X (BldO b p s :: G) fun u L' _ => u = .tuple #[.int .i64 (t.length : Int), .nilIface] ∧ ∃ s' G', L' = BldO b (.pointer (some ⟨b, 0, none⟩)) s' :: G' ∧ BufG (l ++ t) s' G' := by
  rcases hG with ⟨hz, _⟩ | ⟨g, cap, rfl, rfl, hc1, hc2, hc3⟩
  · exact absurd (List.eq_nil_of_length_eq_zero hz) h0
  refine SpecM.enter Tryd.func75 rfl Tryd.ntmps75 rfl ?_
  intro w0 X0 own0
  show T _ _ _ _ _ _ _ _ _ (BldO b p _ :: ([_] ++ own0)) _
  refine T.seq ?_
  refine T.region ?_
  refine SL.y (op_assign (v := .int .i64 ((0 : Nat) : Int)) rfl) rfl rfl ?_
  refine SL.y (op_assign rfl) rfl rfl ?_
  refine SL.nil ?_
  refine T.seq ?_
  refine T.region ?_
  refine SL.y (op_move rfl) rfl rfl ?_
  -- op
  refine SL.x (op_callM en93 (vs := [_]) rfl (copyCheck_spec hp) rfl) rfl rfl ?_
  rintro _ _ X1 ⟨_, rfl, hX1, rfl, rfl⟩
  refine SL.nil ?_
  refine T.seq ?_
  refine T.region ?_
  refine SL.y (op_move rfl) rfl rfl ?_
  refine SL.y (op_move rfl) rfl rfl ?_
  first | refine SL.y (op_nil rfl) rfl rfl ?_ | refine SL.y (op_nilFn rfl) rfl rfl ?_
  refine SL.y (op_fieldAddr fa118_1 rfl) rfl rfl ?_
  first | refine SL.y (op_load ty77 rfl (by repeat (first | exact AtO.here | apply AtO.there)) rfl) rfl rfl ?_ | refine SL.y (op_loadX ty77 rfl (by assumption) rfl) rfl rfl ?_
  refine SL.y (op_move rfl) rfl rfl ?_
  -- to 14: op
  refine SL.perm (own' := (BldO b (.pointer (some ⟨b, 0, none⟩)) (.slice (some ⟨g, 0, none⟩) l.length cap) :: own0) ++ [⟨g, Lib.byteCells l, 5, cap * 1⟩]) (permA (G := [_])) ?_
  refine SL.x (op_appendStr (own := BldO b (.pointer (some ⟨b, 0, none⟩)) (.slice (some ⟨g, 0, none⟩) l.length cap) :: own0) Tryd.underlying77 Tryd.underlying9 (infoStr_of (by kernel_rfl)) rfl rfl hc1 hc2 hc3 (by show l.length + t.length ≤ _; omega)) rfl rfl ?_
  rintro s' _ _ ⟨G', rfl, rfl, hG', _⟩
  obtain ⟨As', cps', rfl⟩ := hG'.form
  first | refine SL.y (op_nil rfl) rfl rfl ?_ | refine SL.y (op_nilFn rfl) rfl rfl ?_
  refine SL.y (op_fieldAddr fa118_1 rfl) rfl rfl ?_
  refine SL.x (op_store ty77 rfl rfl (by repeat (first | exact AtO.here | apply AtO.there)) rfl rfl rfl) rfl rfl ?_
  rintro _ _ _ ⟨rfl, rfl⟩
  refine SL.nil ?_
  refine T.seq ?_
  refine T.region ?_
  refine SL.y (op_move rfl) rfl rfl ?_
  refine SL.y (op_lenStr Tryd.underlying9 rfl) rfl rfl ?_
  refine SL.y (op_assign rfl) rfl rfl ?_
  refine SL.y (op_assign rfl) rfl rfl ?_
  refine SL.nil ?_
  -- ret
  refine T.retM2 (BldO b (.pointer (some ⟨b, 0, none⟩)) _ :: G') rfl (ResIs.tmp rfl) (ResIs.tmp rfl) permD ?_
  refine ⟨hX1, rfl, _, G', rfl, ?_⟩
  have e : Lib.byteCells (l ++ t) = Lib.byteCells l ++ Lib.strCells ⟨t.toArray⟩ := by rw [Lib.byteCells_append]; rfl
  rw [BufG, e, List.length_append]
  exact hG'
theorem builderString_spec {X : PMap} {b : Nat} {p s : Value} {G : Own} {l : List UInt8} (hG : BufG l s G) (h0 : l ≠ []) (hl : l.length < 1000000000) :
    SpecM Tryd.prog 77 [.pointer (some ⟨b, 0, none⟩)] X (BldO b p s :: G) fun u L' _ => u = .string ⟨l.toArray⟩ ∧ L' = [BldO b p s] := by
  rcases hG with ⟨hz, _⟩ | ⟨g, cap, rfl, rfl, hc1, hc2, hc3⟩
  · exact absurd (List.eq_nil_of_length_eq_zero hz) h0
  have hpos : 0 < l.length := List.length_pos_iff.2 h0
  refine SpecM.enter Tryd.func77 rfl Tryd.ntmps77 rfl ?_
  intro w0 X0 own0
  refine T.perm (own' := (BldO b p (.slice (some ⟨g, 0, none⟩) l.length cap) :: own0) ++ [⟨g, Lib.byteCells l, 5, cap * 1⟩]) permC ?_
  refine T.seq ?_
  refine T.region ?_
  refine SL.y (op_assign rfl) rfl rfl ?_
  refine SL.nil ?_
  refine T.seq ?_
  refine T.drawG (own0 := BldO b p (.slice (some ⟨g, 0, none⟩) l.length cap) :: own0) (by kernel_rfl) 12 [.t 0, .t 1, .t 2, .t 3, .t 4, .t 5, .t 6, .t 7, .t 8, .t 9, .r 10, .t 11] (by kernel_rfl) ?_
  refine SD.take rfl panicBody (op_move rfl) rfl rfl ?_
  first | refine SD.take rfl panicBody (op_nil rfl) rfl rfl ?_ | refine SD.take rfl panicBody (op_nilFn rfl) rfl rfl ?_
  refine SD.take rfl panicBody (op_fieldAddr fa118_1 rfl) rfl rfl ?_
  first | refine SD.take rfl panicBody (op_load ty77 rfl (by repeat (first | exact AtO.here | apply AtO.there)) rfl) rfl rfl ?_ | refine SD.take rfl panicBody (op_loadX ty77 rfl (by assumption) rfl) rfl rfl ?_
  -- op
  refine SD.take rfl panicBody (op_sliceData rfl (by omega)) rfl rfl ?_
  refine SD.take rfl panicBody (op_move rfl) rfl rfl ?_
  first | refine SD.take rfl panicBody (op_nil rfl) rfl rfl ?_ | refine SD.take rfl panicBody (op_nilFn rfl) rfl rfl ?_
  refine SD.take rfl panicBody (op_fieldAddr fa118_1 rfl) rfl rfl ?_
  first | refine SD.take rfl panicBody (op_load ty77 rfl (by repeat (first | exact AtO.here | apply AtO.there)) rfl) rfl rfl ?_ | refine SD.take rfl panicBody (op_loadX ty77 rfl (by assumption) rfl) rfl rfl ?_
  refine SD.take rfl panicBody (op_lenS Tryd.underlying77 rfl) rfl rfl ?_
  -- op
  refine SD.runK rfl (op_unsafeStr Tryd.underlying140 (by kernel_rfl) rfl rfl h0 hc1 hc2) (by rintro _ _ _ ⟨rfl, rfl, rfl⟩; exact ⟨fun p hp => hp, PMap.le_refl _⟩) rfl rfl ?_
  rintro _ _ _ ⟨rfl, rfl, rfl⟩
  refine SD.take rfl panicBody (op_assign rfl) rfl rfl ?_
  refine SD.nil ?_
  show SL _ _ _ _ _ _ _ [] _ _ _
  refine SL.nil ?_
  -- ret
  refine T.retM1 [BldO b p (.slice (some ⟨g, 0, none⟩) l.length cap)] rfl (ResIs.tmp rfl) (List.Perm.refl _) ?_
  exact ⟨PMap.le_refl _, rfl, rfl⟩
/-- The text of a set of digits, without its last byte. -/
def txtOf (l : List Nat) : List UInt8 := l.foldl (fun acc i => (if 1 < acc.length then acc ++ [32] else acc) ++ [UInt8.ofNat (48 + i)]) [123]
theorem txtOf_succ (l : List Nat) (i : Nat) (h : i < l.length) : txtOf (l.take (i + 1)) = (if 1 < (txtOf (l.take i)).length then txtOf (l.take i) ++ [32] else txtOf (l.take i)) ++ [UInt8.ofNat (48 + l[i])] := by
  unfold txtOf
  rw [List.take_succ_eq_append_getElem h, List.foldl_append]
  rfl
theorem txtOf_len (l : List Nat) : 1 ≤ (txtOf l).length ∧ (txtOf l).length ≤ 1 + 2 * l.length := by
  have key : ∀ (l : List Nat) (acc : List UInt8), 1 ≤ acc.length → 1 ≤ (l.foldl (fun acc i => (if 1 < acc.length then acc ++ [32] else acc) ++ [UInt8.ofNat (48 + i)]) acc).length ∧ (l.foldl (fun acc i => (if 1 < acc.length then acc ++ [32] else acc) ++ [UInt8.ofNat (48 + i)]) acc).length ≤ acc.length + 2 * l.length := by
    intro l
    induction l with
    | nil => intro acc h; simpa using h
    | cons i l ih =>
      intro acc h
      rw [List.foldl_cons]
      have := ih ((if 1 < acc.length then acc ++ [32] else acc) ++ [UInt8.ofNat (48 + i)]) (by simp)
      refine ⟨this.1, Nat.le_trans this.2 ?_⟩
      split <;> simp <;> omega
  have := key l [123] (by simp)
  simpa [txtOf] using this
theorem ints_len_take (l : List Nat) : l.take (ints l).length = l := by simp [ints]
theorem text_spec {X : PMap} (hT : Tab X) {v : Value} {m : Nat} (h : SetR X v m) (hd : ∀ i ∈ mem64 m, i < 10) : Spec Tryd.prog 46 [v] X fun u _ => u = .string ⟨(txtOf (mem64 m) ++ [125]).toArray⟩ := by
  obtain ⟨A, l, c, rfl⟩ := h.form
  have h64 := mem64_length m
  refine Spec.enter Tryd.func46 rfl Tryd.ntmps46 rfl ?_
  intro w0 hw0
  refine T.seq ?_
  refine T.region ?_
  refine SL.x (op_box rfl) rfl rfl ?_
  rintro _ _ _ ⟨B1, rfl, rfl, rfl⟩
  refine SL.y (op_assign rfl) rfl rfl ?_
  refine SL.nil ?_
  refine T.seq ?_
  refine T.region ?_
  refine SL.x (op_alloc z118) rfl rfl ?_
  rintro _ _ _ ⟨B3, rfl, rfl, rfl⟩
  refine SL.nil ?_
  refine T.seq ?_
  refine T.region ?_
  -- op
  refine SL.x (op_callM en73 (vs := [_, _]) rfl (writeByte_spec (G := []) (l := []) 123 (.inl rfl) GrowS.nil (by simp)) rfl) rfl rfl ?_
  rintro _ _ X1 ⟨_, rfl, hX1, rfl, s1, G1, rfl, hG1⟩
  refine SL.nil ?_
  refine T.seq ?_
  refine T.seq ?_
  refine T.region ?_
  -- to 6: op
  refine SL.y (op_load ty39 rfl ((AtO.here (l := [])).append (BldO B3 _ s1 :: G1)) rfl) rfl rfl ?_
  refine SL.x (op_callF en61 (vs := [_]) rfl (all_spec)) rfl rfl ?_
  rintro _ _ X2 ⟨rfl, hX2, B7, rfl, hB7⟩
  refine SL.nil ?_
  refine T.block ?_
  -- rangeFunc live [2, 3, 7]
  refine T.rangeFunc (xs := (ints (mem64 m))) rfl en83 rfl rfl (all_seq ((hT.mono hX1).mono hX2) ((h.mono hX1).mono hX2) hB7) (fun i own' X' => X2.le X' ∧ ∃ s G, BufG (txtOf ((mem64 m).take i)) s G ∧ own' = BldO B3 (.pointer (some ⟨B3, 0, none⟩)) s :: (G ++ [⟨B1, [.slice A l c], 39, 1⟩])) ⟨PMap.le_refl _, s1, G1, hG1, rfl⟩ (fun i own' X' h => h.1) ?_ ?_
  · rintro i x _ X' l' r D hx ⟨hX', s, G, hG, rfl⟩
    obtain ⟨hi, rfl⟩ := ints_some hx
    have hlen := txtOf_len ((mem64 m).take i)
    have hlt : ((mem64 m).take i).length ≤ 64 := by rw [List.length_take]; omega
    have hdi := hd _ (List.getElem_mem hi)
    have hself : (Value.pointer (some ⟨B3, 0, none⟩) = .pointer none ∨ Value.pointer (some ⟨B3, 0, none⟩) = .pointer (some ⟨B3, 0, none⟩)) := .inr rfl
    by_cases h1 : 1 < (txtOf ((mem64 m).take i)).length
    · skip
      refine T.block ?_
      refine T.seq ?_
      refine T.seq ?_
      refine T.region ?_
      -- op
      refine SL.x (op_callM en74 (vs := [_]) rfl (builderLen_spec hG) rfl) rfl rfl ?_
      rintro _ _ X3 ⟨_, rfl, hX3, rfl, rfl⟩
      first | refine SL.y (op_gtrT rfl rfl (by omega)) rfl rfl ?_ | refine SL.y (op_gtrF rfl rfl (by omega)) rfl rfl ?_ | refine SL.y (op_gtr rfl rfl) rfl rfl ?_
      refine SL.nil ?_
      refine T.condT rfl ?_
      refine T.region ?_
      -- op
      refine SL.x (op_callM en73 (vs := [_, _]) rfl (writeByte_spec 32 hself hG (by omega)) rfl) rfl rfl ?_
      rintro _ _ X4 ⟨_, rfl, hX4, rfl, s4, G4, rfl, hG4⟩
      refine SL.nil ?_
      refine T.region ?_
      refine SL.y (op_move rfl) rfl rfl ?_
      -- op
      refine SL.x (op_callF en76 (vs := [_]) rfl (itoa_spec (mem64 m)[i] hdi)) rfl rfl ?_
      rintro _ _ X5 ⟨rfl, hX5, rfl⟩
      -- op
      refine SL.x (op_callM en75 (vs := [_, _]) rfl (writeString_spec [UInt8.ofNat (48 + (mem64 m)[i])] hself hG4 (by simp) (by simp; omega) (by simp)) rfl) rfl rfl ?_
      rintro _ _ X6 ⟨_, rfl, hX6, rfl, s6, G6, rfl, hG6⟩
      refine SL.nil ?_
      refine T.blk ?_
      -- end
      exact T.roundEnd ⟨(((hX'.trans' hX3).trans' hX4).trans' hX5).trans' hX6, s6, G6, by rw [txtOf_succ _ _ hi, if_pos h1]; exact hG6, rfl⟩
    · refine T.block ?_
      refine T.seq ?_
      refine T.seq ?_
      refine T.region ?_
      -- op
      refine SL.x (op_callM en74 (vs := [_]) rfl (builderLen_spec hG) rfl) rfl rfl ?_
      rintro _ _ X3 ⟨_, rfl, hX3, rfl, rfl⟩
      first | refine SL.y (op_gtrT rfl rfl (by omega)) rfl rfl ?_ | refine SL.y (op_gtrF rfl rfl (by omega)) rfl rfl ?_ | refine SL.y (op_gtr rfl rfl) rfl rfl ?_
      refine SL.nil ?_
      refine T.condF rfl ?_
      refine T.skip ?_
      refine T.region ?_
      refine SL.y (op_move rfl) rfl rfl ?_
      -- op
      refine SL.x (op_callF en76 (vs := [_]) rfl (itoa_spec (mem64 m)[i] hdi)) rfl rfl ?_
      rintro _ _ X5 ⟨rfl, hX5, rfl⟩
      -- op
      refine SL.x (op_callM en75 (vs := [_, _]) rfl (writeString_spec [UInt8.ofNat (48 + (mem64 m)[i])] hself hG (fun e => by rw [e] at hlen; simp at hlen) (by omega) (by simp)) rfl) rfl rfl ?_
      rintro _ _ X6 ⟨_, rfl, hX6, rfl, s6, G6, rfl, hG6⟩
      refine SL.nil ?_
      refine T.blk ?_
      -- end
      exact T.roundEnd ⟨((hX'.trans' hX3).trans' hX5).trans' hX6, s6, G6, by rw [txtOf_succ _ _ hi, if_neg h1]; exact hG6, rfl⟩
  · rintro D _ X3 ⟨hX3, s, G, hG, rfl⟩
    rw [ints_len_take] at hG
    have hlen := txtOf_len (mem64 m)
    refine T.blk ?_
    refine T.seq ?_
    refine T.region ?_
    -- op
    refine SL.x (op_callM en73 (vs := [_, _]) rfl (writeByte_spec 125 (.inr rfl) hG (by omega)) rfl) rfl rfl ?_
    rintro _ _ X4 ⟨_, rfl, hX4, rfl, s4, G4, rfl, hG4⟩
    refine SL.nil ?_
    refine T.seq ?_
    refine T.region ?_
    -- op
    refine SL.x (op_callM en77 (vs := [_]) rfl (builderString_spec hG4 (by simp) (by simp; omega)) rfl) rfl rfl ?_
    rintro _ _ X5 ⟨_, rfl, hX5, rfl, rfl⟩
    refine SL.y (op_assign rfl) rfl rfl ?_
    refine SL.nil ?_
    -- ret
    refine T.ret1 rfl (ResIs.tmp rfl) ?_
    rfl
theorem op_eqlStrT {P : Program} {n : NM} {own : Own} {X : PMap} {env : Env} {t t' : TypeId} {x y : Operand} {s : ByteArray} (ht : P.underlying t = some .string) (hx : eev env x = some (.string s)) (hy : eev env y = some (.string s)) : OpY P n env own X (.binOp .eql t x y t') (.bool true) := by
  have := op_eqlStr (P := P) (n := n) (own := own) (X := X) (t' := t') ht hx hy
  rwa [beq_self_eq_true] at this
end Go.Proofs.YtkmnlogacfkjmaaDoor
