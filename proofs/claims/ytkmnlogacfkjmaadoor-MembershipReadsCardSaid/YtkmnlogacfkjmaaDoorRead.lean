/- Package wire: the reader. -/
import Derived.Test.YtkmnlogacfkjmaaDoorReadL
import Derived.Test.YtkmnlogacfkjmaaDoorRows2
namespace Go.Proofs.YtkmnlogacfkjmaaDoor
section
set_option maxRecDepth 100000
theorem en69 : Enters Tryd.prog 69 := enters_mk Tryd.func69 (by kernel_rfl) rfl
theorem en71 : Enters Tryd.prog 71 := enters_mk Tryd.func71 (by kernel_rfl) rfl
theorem en87 : Enters Tryd.prog 87 := enters_mk Tryd.func87 (by kernel_rfl) rfl
theorem en88 : Enters Tryd.prog 88 := enters_mk Tryd.func88 (by kernel_rfl) rfl
theorem en89 : Enters Tryd.prog 89 := enters_mk Tryd.func89 (by kernel_rfl) rfl
theorem en90 : Enters Tryd.prog 90 := enters_mk Tryd.func90 (by kernel_rfl) rfl
theorem en91 : Enters Tryd.prog 91 := enters_mk Tryd.func91 (by kernel_rfl) rfl
theorem en92 : Enters Tryd.prog 92 := enters_mk Tryd.func92 (by kernel_rfl) rfl
theorem fa135_0 : FAdr Tryd.prog 135 0 0 := fadr_mk Tryd.underlying135 rfl rfl (by kernel_rfl)
theorem fa135_1 : FAdr Tryd.prog 135 1 1 := fadr_mk Tryd.underlying135 rfl rfl (by kernel_rfl)
theorem z135 : Zero Tryd.prog 135 [.slice none 0 0, .int .i64 0] := ⟨zero_of (by kernel_rfl)⟩
theorem st135 : StT Tryd.prog 135 [(0, 1), (1, 1)] [.slice none 0 0, .int .i64 0] := ⟨⟨_, Tryd.underlying135, fun _ => by kernel_rfl, z135⟩⟩
theorem ty29 : Ty Tryd.prog 29 false 1 := ⟨⟨_, Tryd.underlying29, rfl⟩, by kernel_rfl⟩
theorem ty77 : Ty Tryd.prog 77 false 1 := ⟨⟨_, Tryd.underlying77, rfl⟩, by kernel_rfl⟩
end
open Go.RowKit
section
variable {P : Program} {n : NM} {own : Own} {X : PMap} {env : Env} {t t' : TypeId} {x y : Operand}
theorem op_shl7 {p : Nat} (hx : eev env x = some (.int .u64 (p : Int))) {k' : IntKind} (hy : eev env y = some (.int k' 7)) (h : p < 144115188075855872) : OpY P n env own X (.binOp .shl t x y t') (.int .u64 ((p * 128 : Nat) : Int)) := by
  have := op_shl (P := P) (n := n) (own := own) (X := X) (t := t) (t' := t') (q := 7) hx hy
  rwa [show ((p : Int) * 2 ^ (min 7 IntKind.u64.bits)) = ((p * 128 : Nat) : Int) by rw [show min 7 IntKind.u64.bits = 7 from rfl]; omega, wrap_u64 (by omega)] at this
theorem op_or7 {p q : Nat} (hx : eev env x = some (.int .u64 ((p * 128 : Nat) : Int))) (hy : eev env y = some (.int .u64 (q : Int))) (h : p < 144115188075855872) (h2 : q < 128) : OpY P n env own X (.binOp .or t x y t') (.int .u64 ((p * 128 + q : Nat) : Int)) := by
  have := op_or (P := P) (n := n) (own := own) (X := X) (t := t) (t' := t') hx hy (by omega) (by omega)
  have e := Nat.two_pow_add_eq_or_of_lt (i := 7) (b := q) (by omega) p
  rwa [show p * 128 ||| q = p * 128 + q by rw [show p * 128 = 2 ^ 7 * p by omega, e]] at this
end
theorem BytesR.take {X : PMap} {A : Option Addr} {cp : Nat} {bs : List Nat} (h : BytesR X (.slice A bs.length cp) bs) (hc : bs.length ≤ cp) {k : Nat} (hk : k ≤ bs.length) : BytesR X (.slice (slA A cp 0 1) k cp) (bs.take k) := by
  rcases Nat.eq_zero_or_pos k with rfl | h0
  · exact .inl ⟨by simp, _, _, rfl⟩
  · obtain ⟨b, pre, rfl, hB⟩ := h.blk (by omega)
    refine .inr ⟨by simp; omega, b, cp, pre, ?_, ?_⟩
    · rw [slA, if_neg (by omega), List.length_take, Nat.min_eq_left hk]; simp [Addr.add]
    · obtain ⟨rest, ty, fr, hx⟩ := hB
      refine ⟨bytesC (bs.drop k) ++ rest, ty, fr, ?_⟩
      have e : bytesC bs = bytesC (bs.take k) ++ bytesC (bs.drop k) := by rw [← bytesC_append, List.take_append_drop]
      rw [hx, e]
      simp
theorem BytesR.drop {X : PMap} {A : Option Addr} {cp : Nat} {bs : List Nat} (h : BytesR X (.slice A bs.length cp) bs) (hc : bs.length ≤ cp) {k : Nat} (hk : k ≤ bs.length) : BytesR X (.slice (slA A cp k 1) (bs.length - k) (cp - k)) (bs.drop k) := by
  rcases Nat.eq_or_lt_of_le hk with rfl | h0
  · exact .inl ⟨by simp, _, _, by rw [Nat.sub_self]⟩
  · obtain ⟨b, pre, rfl, hB⟩ := h.blk (by omega)
    refine .inr ⟨by simp; omega, b, cp - k, pre ++ bytesC (bs.take k), ?_, ?_⟩
    · rw [slA, if_neg (by omega), List.length_append, bytesC_len, List.length_take, Nat.min_eq_left hk, List.length_drop]; simp [Addr.add]
    · rwa [List.append_assoc, ← bytesC_append, List.take_append_drop]
abbrev RdO (b : Nat) (sv : Value) (e : Int) : Ow := ⟨b, [sv, .int .i64 e], 135, 2⟩
/-- A slice of bytes that can be cut. -/
def CutR (X : PMap) (v : Value) (bs : List Nat) : Prop := BytesR X v bs ∧ (∃ A cp, v = .slice A bs.length cp ∧ bs.length ≤ cp) ∧ ∀ b ∈ bs, b < 256
theorem CutR.mono {X X' : PMap} {v : Value} {bs : List Nat} (h : CutR X v bs) (hX : X.le X') : CutR X' v bs := ⟨h.1.mono hX, h.2⟩
section
variable {X : PMap} {b : Nat} {sv : Value} {e : Int}
theorem rok_spec : SpecM Tryd.prog 88 [.pointer (some ⟨b, 0, none⟩)] X [RdO b sv e] fun u L' _ => u = .bool (decide (e = 0)) ∧ L' = [RdO b sv e] := by
  refine SpecM.enter Tryd.func88 rfl Tryd.ntmps88 rfl ?_
  intro w0 X0 own0
  refine T.seq ?_
  refine T.region ?_
  refine SL.y (op_assign rfl) rfl rfl ?_
  refine SL.nil ?_
  refine T.seq ?_
  refine T.region ?_
  refine SL.y (op_move rfl) rfl rfl ?_
  refine SL.y (op_neqNil Tryd.underlying111 rfl rfl) rfl rfl ?_
  refine SL.y (op_move rfl) rfl rfl ?_
  first | refine SL.skip rfl rfl ?_ | refine SL.y (op_move rfl) rfl rfl ?_
  first | refine SL.skip rfl rfl ?_ | refine SL.y (op_nil rfl) rfl rfl ?_ | refine SL.y (op_nilFn rfl) rfl rfl ?_
  first | refine SL.skip rfl rfl ?_ | refine SL.y (op_fieldAddr fa135_1 rfl) rfl rfl ?_
  first | refine SL.skip rfl rfl ?_ | refine SL.y (op_load ty29 rfl (by repeat (first | exact AtO.here | apply AtO.there)) rfl) rfl rfl ?_ | refine SL.y (op_loadX ty29 rfl (by assumption) rfl) rfl rfl ?_
  -- to 10: op
  refine SL.y (op_eql rfl rfl) rfl rfl ?_
  first | refine SL.y (op_pickT rfl rfl) rfl rfl ?_ | refine SL.y (op_pickF rfl rfl) rfl rfl ?_ | refine SL.y (op_pickB rfl rfl rfl) rfl rfl ?_
  refine SL.y (op_assign rfl) rfl rfl ?_
  refine SL.nil ?_
  -- ret
  refine T.retM1 [RdO b sv e] rfl (ResIs.tmp rfl) (List.Perm.refl _) ?_
  exact ⟨PMap.le_refl _, rfl, rfl⟩
theorem rerr_spec : SpecM Tryd.prog 69 [.pointer (some ⟨b, 0, none⟩)] X [RdO b sv e] fun u L' _ => u = .int .i64 e ∧ L' = [RdO b sv e] := by
  refine SpecM.enter Tryd.func69 rfl Tryd.ntmps69 rfl ?_
  intro w0 X0 own0
  refine T.seq ?_
  refine T.region ?_
  refine SL.y (op_assign (v := .int .i64 ((0 : Nat) : Int)) rfl) rfl rfl ?_
  refine SL.nil ?_
  refine T.seq ?_
  refine T.seq ?_
  refine T.region ?_
  refine SL.y (op_move rfl) rfl rfl ?_
  refine SL.y (op_eqlNil Tryd.underlying111 rfl rfl) rfl rfl ?_
  refine SL.nil ?_
  refine T.condF rfl ?_
  refine T.skip ?_
  refine T.seq ?_
  refine T.region ?_
  refine SL.y (op_move rfl) rfl rfl ?_
  first | refine SL.y (op_nil rfl) rfl rfl ?_ | refine SL.y (op_nilFn rfl) rfl rfl ?_
  refine SL.y (op_fieldAddr fa135_1 rfl) rfl rfl ?_
  first | refine SL.y (op_load ty29 rfl (by repeat (first | exact AtO.here | apply AtO.there)) rfl) rfl rfl ?_ | refine SL.y (op_loadX ty29 rfl (by assumption) rfl) rfl rfl ?_
  refine SL.y (op_assign rfl) rfl rfl ?_
  refine SL.nil ?_
  -- ret
  refine T.retM1 [RdO b sv e] rfl (ResIs.tmp rfl) (List.Perm.refl _) ?_
  exact ⟨PMap.le_refl _, rfl, rfl⟩
theorem rfail_spec (c : Int) : SpecM Tryd.prog 71 [.pointer (some ⟨b, 0, none⟩), .int .i64 c] X [RdO b sv e] fun _ L' _ => L' = [RdO b sv (if e = 0 then c else e)] := by
  refine SpecM.enter Tryd.func71 rfl Tryd.ntmps71 rfl ?_
  intro w0 X0 own0
  refine T.seq ?_
  refine T.region ?_
  refine SL.y (op_move rfl) rfl rfl ?_
  -- op
  refine SL.x (op_callM en88 (vs := [_]) rfl (rok_spec) rfl) rfl rfl ?_
  rintro _ _ X1 ⟨_, rfl, hX1, rfl, rfl⟩
  by_cases he : e = 0
  · rw [decide_eq_true he, if_pos he]
    refine SL.nil ?_
    refine T.condT rfl ?_
    refine T.region ?_
    refine SL.y (op_move rfl) rfl rfl ?_
    refine SL.y (op_move rfl) rfl rfl ?_
    first | refine SL.y (op_nil rfl) rfl rfl ?_ | refine SL.y (op_nilFn rfl) rfl rfl ?_
    refine SL.y (op_fieldAddr fa135_1 rfl) rfl rfl ?_
    refine SL.x (op_store ty29 rfl rfl (by repeat (first | exact AtO.here | apply AtO.there)) rfl rfl rfl) rfl rfl ?_
    rintro _ _ _ ⟨rfl, rfl⟩
    refine SL.nil ?_
    -- end
    refine T.doneM0 [RdO b sv c] rfl (List.Perm.refl _) ?_
    exact ⟨hX1, rfl⟩
  · rw [decide_eq_false he, if_neg he]
    refine SL.nil ?_
    refine T.condF rfl ?_
    refine T.skip ?_
    -- end
    refine T.doneM0 [RdO b sv e] rfl (List.Perm.refl _) ?_
    exact ⟨hX1, rfl⟩
theorem rrefuse_spec (bad : Bool) (c : Int) : SpecM Tryd.prog 89 [.pointer (some ⟨b, 0, none⟩), .bool bad, .int .i64 c] X [RdO b sv 0] fun u L' _ => u = .bool (!bad) ∧ L' = [RdO b sv (if bad = true then c else 0)] := by
  refine SpecM.enter Tryd.func89 rfl Tryd.ntmps89 rfl ?_
  intro w0 X0 own0
  cases bad with
  | true =>
    refine T.seq ?_
    refine T.region ?_
    refine SL.y (op_assign rfl) rfl rfl ?_
    refine SL.nil ?_
    refine T.seq ?_
    refine T.seq ?_
    refine T.region ?_
    refine SL.y (op_move rfl) rfl rfl ?_
    refine SL.nil ?_
    refine T.condT rfl ?_
    refine T.region ?_
    refine SL.y (op_move rfl) rfl rfl ?_
    refine SL.y (op_move rfl) rfl rfl ?_
    -- op
    refine SL.x (op_callM en71 (vs := [_, _]) rfl (rfail_spec c) rfl) rfl rfl ?_
    rintro _ _ X1 ⟨_, rfl, hX1, rfl⟩
    refine SL.nil ?_
    refine T.seq ?_
    refine T.region ?_
    refine SL.y (op_move rfl) rfl rfl ?_
    refine SL.y (op_not rfl) rfl rfl ?_
    refine SL.y (op_assign rfl) rfl rfl ?_
    refine SL.nil ?_
    -- ret
    refine T.retM1 [RdO b sv c] rfl (ResIs.tmp rfl) (List.Perm.refl _) ?_
    exact ⟨hX1, rfl, rfl⟩
  | false =>
    refine T.seq ?_
    refine T.region ?_
    refine SL.y (op_assign rfl) rfl rfl ?_
    refine SL.nil ?_
    refine T.seq ?_
    refine T.seq ?_
    refine T.region ?_
    refine SL.y (op_move rfl) rfl rfl ?_
    refine SL.nil ?_
    refine T.condF rfl ?_
    refine T.skip ?_
    refine T.seq ?_
    refine T.region ?_
    refine SL.y (op_move rfl) rfl rfl ?_
    refine SL.y (op_not rfl) rfl rfl ?_
    refine SL.y (op_assign rfl) rfl rfl ?_
    refine SL.nil ?_
    -- ret
    refine T.retM1 [RdO b sv 0] rfl (ResIs.tmp rfl) (List.Perm.refl _) ?_
    exact ⟨PMap.le_refl _, rfl, rfl⟩
theorem rnumber_spec {bs : List Nat} (h : CutR X sv bs) (hl : bs.length < 1000000) : SpecM Tryd.prog 90 [.pointer (some ⟨b, 0, none⟩)] X [RdO b sv e] fun u L' _ => u = .tuple #[.int .u64 ((numR bs).1 : Int), .int .i64 ((numR bs).2 : Int)] ∧ L' = [RdO b sv e] := by
  obtain ⟨h1, ⟨A, cp, rfl, hcp⟩, hb⟩ := h
  refine SpecM.enter Tryd.func90 rfl Tryd.ntmps90 rfl ?_
  intro w0 X0 own0
  refine T.seq ?_
  refine T.region ?_
  refine SL.y (op_assign (v := .int .u64 ((0 : Nat) : Int)) rfl) rfl rfl ?_
  refine SL.y (op_assign (v := .int .i64 ((0 : Nat) : Int)) rfl) rfl rfl ?_
  refine SL.nil ?_
  refine T.seq ?_
  refine T.region ?_
  refine SL.y (op_assign (v := .int .u64 ((0 : Nat) : Int)) rfl) rfl rfl ?_
  refine SL.nil ?_
  refine T.seq ?_
  refine T.seq ?_
  refine T.region ?_
  refine SL.y (op_move rfl) rfl rfl ?_
  first | refine SL.y (op_nil rfl) rfl rfl ?_ | refine SL.y (op_nilFn rfl) rfl rfl ?_
  refine SL.y (op_fieldAddr fa135_0 rfl) rfl rfl ?_
  first | refine SL.y (op_load ty77 rfl (by repeat (first | exact AtO.here | apply AtO.there)) rfl) rfl rfl ?_ | refine SL.y (op_loadX ty77 rfl (by assumption) rfl) rfl rfl ?_
  refine SL.y (op_lenS Tryd.underlying77 rfl) rfl rfl ?_
  refine SL.y (op_move (v := .int .i64 ((0 : Nat) : Int)) rfl) rfl rfl ?_
  refine SL.nil ?_
  refine T.block ?_
  -- loop live [2, 3, 4, 10, 11, 12]
  refine T.loopW (fun m env own X' => ∃ (k v : Nat), m = bs.length - k ∧ k ≤ bs.length ∧ X.le X' ∧ v < 18446744073709551616 ∧ numGo v k (bs.drop k) = numR bs ∧ env = [(4, .int .u64 (v : Int)), (10, .slice A bs.length cp), (11, .int .i64 (bs.length : Int)), (12, .int .i64 (k : Int))] ∧ own = [RdO b (.slice A bs.length cp) e] ++ own0) bs.length ⟨0, 0, by simp, by omega, PMap.le_refl _, by omega, by simp [numR], rfl, rfl⟩ (by repeat (first | exact Sub.nil | refine Sub.cons rfl ?_)) ?_
  rintro m _ _ X1 ⟨k, v, rfl, hk, hX1, hv, hgo, rfl, rfl⟩
  rcases Nat.lt_or_ge k bs.length with hkl | hkl
  · obtain ⟨b2, pre, rfl, hB⟩ := h1.blk (by omega)
    have hB1 := hB.mono hX1
    obtain ⟨c, hc⟩ : ∃ c, bs[k]? = some c := ⟨_, List.getElem?_eq_getElem hkl⟩
    have hc256 := hb c (List.mem_of_getElem? hc)
    have g : (pre ++ bytesC bs)[pre.length + k]? = some (.int .u8 (c : Int)) := by
      rw [List.getElem?_append_right (by omega), Nat.add_sub_cancel_left]; exact bytesC_at hc
    have hgo2 := hgo
    rw [List.drop_eq_getElem_cons hkl, (List.getElem?_eq_some_iff.1 hc).2, numGo] at hgo2
    have hcm : c % 128 < 128 := Nat.mod_lt _ (by omega)
    refine T.seq ?_
    refine T.region ?_
    first | refine SL.y (op_lssT rfl rfl (by omega)) rfl rfl ?_ | refine SL.y (op_lssF rfl rfl (by omega)) rfl rfl ?_ | refine SL.y (op_lss rfl rfl) rfl rfl ?_
    refine SL.nil ?_
    refine T.seq ?_
    refine T.condT rfl ?_
    refine T.skip ?_
    refine T.seq ?_
    refine T.block ?_
    refine T.seq ?_
    refine T.region ?_
    refine SL.y (op_move rfl) rfl rfl ?_
    first | refine SL.y (op_indexN Tryd.underlying77 ty5 rfl rfl (by omega)) rfl rfl ?_ | refine SL.y (op_index Tryd.underlying77 ty5 rfl rfl (by omega) (by omega)) rfl rfl ?_
    -- to 16: op
    refine SL.y (op_loadX ty5 rfl hB1 (cread1k' g (by omega))) rfl rfl ?_
    by_cases hs : k = 0 ∧ c = 128
    · rw [if_pos (.inl hs)] at hgo2
      obtain ⟨hs1, hs2⟩ := hs
      refine SL.y (op_assign rfl) rfl rfl ?_
      refine SL.y (op_assign rfl) rfl rfl ?_
      refine SL.nil ?_
      refine T.seq ?_
      refine T.seq ?_
      refine T.region ?_
      refine SL.y (op_move rfl) rfl rfl ?_
      first | refine SL.y (op_eqlT rfl rfl (by omega)) rfl rfl ?_ | refine SL.y (op_eqlF rfl rfl (by omega)) rfl rfl ?_ | refine SL.y (op_eql rfl rfl) rfl rfl ?_
      refine SL.y (op_move rfl) rfl rfl ?_
      first | refine SL.skip rfl rfl ?_ | refine SL.y (op_move rfl) rfl rfl ?_
      first | refine SL.skip rfl rfl ?_ | refine SL.y (op_eqlT rfl rfl (by omega)) rfl rfl ?_ | refine SL.y (op_eqlF rfl rfl (by omega)) rfl rfl ?_ | refine SL.y (op_eql rfl rfl) rfl rfl ?_
      first | refine SL.y (op_pickT rfl rfl) rfl rfl ?_ | refine SL.y (op_pickF rfl rfl) rfl rfl ?_ | refine SL.y (op_pickB rfl rfl rfl) rfl rfl ?_
      refine SL.y (op_move rfl) rfl rfl ?_
      first | refine SL.skip rfl rfl ?_ | refine SL.y (op_move rfl) rfl rfl ?_
      first | refine SL.skip rfl rfl ?_ | refine SL.y (op_gtrT rfl rfl (by omega)) rfl rfl ?_ | refine SL.y (op_gtrF rfl rfl (by omega)) rfl rfl ?_ | refine SL.y (op_gtr rfl rfl) rfl rfl ?_
      first | refine SL.y (op_pickT rfl rfl) rfl rfl ?_ | refine SL.y (op_pickF rfl rfl) rfl rfl ?_ | refine SL.y (op_pickB rfl rfl rfl) rfl rfl ?_
      refine SL.nil ?_
      refine T.condT rfl ?_
      refine T.seq ?_
      refine T.region ?_
      refine SL.y (op_assign (v := .int .u64 ((0 : Nat) : Int)) rfl) rfl rfl ?_
      refine SL.y (op_assign (v := .int .i64 ((0 : Nat) : Int)) rfl) rfl rfl ?_
      refine SL.nil ?_
      -- ret
      refine T.retM2 [RdO b (.slice (some ⟨b2, pre.length, none⟩) bs.length cp) e] rfl (ResIs.tmp rfl) (ResIs.tmp rfl) (List.Perm.refl _) ?_
      exact ⟨hX1, by rw [← hgo2], rfl⟩
    · have hcond : (decide ((k : Int) = 0) = true ∧ decide ((c : Int) = 128) = true) → False := fun ⟨h1, h2⟩ => hs ⟨by simpa using h1, by simp at h2; omega⟩
      have hq : ∃ q, q = decide ((c : Int) = 128) := ⟨_, rfl⟩
      by_cases ho : 144115188075855871 < v
      · rw [if_pos (.inr ho)] at hgo2
        rcases Nat.eq_zero_or_pos k with hk0 | hk0
        · have hc128 : c ≠ 128 := fun h => hs ⟨hk0, h⟩
          refine SL.y (op_assign rfl) rfl rfl ?_
          refine SL.y (op_assign rfl) rfl rfl ?_
          refine SL.nil ?_
          refine T.seq ?_
          refine T.seq ?_
          refine T.region ?_
          refine SL.y (op_move rfl) rfl rfl ?_
          first | refine SL.y (op_eqlT rfl rfl (by omega)) rfl rfl ?_ | refine SL.y (op_eqlF rfl rfl (by omega)) rfl rfl ?_ | refine SL.y (op_eql rfl rfl) rfl rfl ?_
          refine SL.y (op_move rfl) rfl rfl ?_
          first | refine SL.skip rfl rfl ?_ | refine SL.y (op_move rfl) rfl rfl ?_
          first | refine SL.skip rfl rfl ?_ | refine SL.y (op_eqlT rfl rfl (by omega)) rfl rfl ?_ | refine SL.y (op_eqlF rfl rfl (by omega)) rfl rfl ?_ | refine SL.y (op_eql rfl rfl) rfl rfl ?_
          first | refine SL.y (op_pickT rfl rfl) rfl rfl ?_ | refine SL.y (op_pickF rfl rfl) rfl rfl ?_ | refine SL.y (op_pickB rfl rfl rfl) rfl rfl ?_
          refine SL.y (op_move rfl) rfl rfl ?_
          first | refine SL.skip rfl rfl ?_ | refine SL.y (op_move rfl) rfl rfl ?_
          first | refine SL.skip rfl rfl ?_ | refine SL.y (op_gtrT rfl rfl (by omega)) rfl rfl ?_ | refine SL.y (op_gtrF rfl rfl (by omega)) rfl rfl ?_ | refine SL.y (op_gtr rfl rfl) rfl rfl ?_
          first | refine SL.y (op_pickT rfl rfl) rfl rfl ?_ | refine SL.y (op_pickF rfl rfl) rfl rfl ?_ | refine SL.y (op_pickB rfl rfl rfl) rfl rfl ?_
          refine SL.nil ?_
          refine T.condT rfl ?_
          refine T.seq ?_
          refine T.region ?_
          refine SL.y (op_assign (v := .int .u64 ((0 : Nat) : Int)) rfl) rfl rfl ?_
          refine SL.y (op_assign (v := .int .i64 ((0 : Nat) : Int)) rfl) rfl rfl ?_
          refine SL.nil ?_
          -- ret
          refine T.retM2 [RdO b (.slice (some ⟨b2, pre.length, none⟩) bs.length cp) e] rfl (ResIs.tmp rfl) (ResIs.tmp rfl) (List.Perm.refl _) ?_
          exact ⟨hX1, by rw [← hgo2], rfl⟩
        · skip
          refine SL.y (op_assign rfl) rfl rfl ?_
          refine SL.y (op_assign rfl) rfl rfl ?_
          refine SL.nil ?_
          refine T.seq ?_
          refine T.seq ?_
          refine T.region ?_
          refine SL.y (op_move rfl) rfl rfl ?_
          first | refine SL.y (op_eqlT rfl rfl (by omega)) rfl rfl ?_ | refine SL.y (op_eqlF rfl rfl (by omega)) rfl rfl ?_ | refine SL.y (op_eql rfl rfl) rfl rfl ?_
          refine SL.y (op_move rfl) rfl rfl ?_
          first | refine SL.skip rfl rfl ?_ | refine SL.y (op_move rfl) rfl rfl ?_
          first | refine SL.skip rfl rfl ?_ | refine SL.y (op_eqlT rfl rfl (by omega)) rfl rfl ?_ | refine SL.y (op_eqlF rfl rfl (by omega)) rfl rfl ?_ | refine SL.y (op_eql rfl rfl) rfl rfl ?_
          first | refine SL.y (op_pickT rfl rfl) rfl rfl ?_ | refine SL.y (op_pickF rfl rfl) rfl rfl ?_ | refine SL.y (op_pickB rfl rfl rfl) rfl rfl ?_
          refine SL.y (op_move rfl) rfl rfl ?_
          first | refine SL.skip rfl rfl ?_ | refine SL.y (op_move rfl) rfl rfl ?_
          first | refine SL.skip rfl rfl ?_ | refine SL.y (op_gtrT rfl rfl (by omega)) rfl rfl ?_ | refine SL.y (op_gtrF rfl rfl (by omega)) rfl rfl ?_ | refine SL.y (op_gtr rfl rfl) rfl rfl ?_
          first | refine SL.y (op_pickT rfl rfl) rfl rfl ?_ | refine SL.y (op_pickF rfl rfl) rfl rfl ?_ | refine SL.y (op_pickB rfl rfl rfl) rfl rfl ?_
          refine SL.nil ?_
          refine T.condT rfl ?_
          refine T.seq ?_
          refine T.region ?_
          refine SL.y (op_assign (v := .int .u64 ((0 : Nat) : Int)) rfl) rfl rfl ?_
          refine SL.y (op_assign (v := .int .i64 ((0 : Nat) : Int)) rfl) rfl rfl ?_
          refine SL.nil ?_
          -- ret
          refine T.retM2 [RdO b (.slice (some ⟨b2, pre.length, none⟩) bs.length cp) e] rfl (ResIs.tmp rfl) (ResIs.tmp rfl) (List.Perm.refl _) ?_
          exact ⟨hX1, by rw [← hgo2], rfl⟩
      · rw [if_neg (by rintro (h | h); exact hs h; exact ho h)] at hgo2
        have hvs : v < 144115188075855872 := by omega
        rcases Nat.eq_zero_or_pos k with hk0 | hk0
        · have hc128 : c ≠ 128 := fun h => hs ⟨hk0, h⟩
          refine SL.y (op_assign rfl) rfl rfl ?_
          refine SL.y (op_assign rfl) rfl rfl ?_
          refine SL.nil ?_
          refine T.seq ?_
          refine T.seq ?_
          refine T.region ?_
          refine SL.y (op_move rfl) rfl rfl ?_
          first | refine SL.y (op_eqlT rfl rfl (by omega)) rfl rfl ?_ | refine SL.y (op_eqlF rfl rfl (by omega)) rfl rfl ?_ | refine SL.y (op_eql rfl rfl) rfl rfl ?_
          refine SL.y (op_move rfl) rfl rfl ?_
          first | refine SL.skip rfl rfl ?_ | refine SL.y (op_move rfl) rfl rfl ?_
          first | refine SL.skip rfl rfl ?_ | refine SL.y (op_eqlT rfl rfl (by omega)) rfl rfl ?_ | refine SL.y (op_eqlF rfl rfl (by omega)) rfl rfl ?_ | refine SL.y (op_eql rfl rfl) rfl rfl ?_
          first | refine SL.y (op_pickT rfl rfl) rfl rfl ?_ | refine SL.y (op_pickF rfl rfl) rfl rfl ?_ | refine SL.y (op_pickB rfl rfl rfl) rfl rfl ?_
          refine SL.y (op_move rfl) rfl rfl ?_
          first | refine SL.skip rfl rfl ?_ | refine SL.y (op_move rfl) rfl rfl ?_
          first | refine SL.skip rfl rfl ?_ | refine SL.y (op_gtrT rfl rfl (by omega)) rfl rfl ?_ | refine SL.y (op_gtrF rfl rfl (by omega)) rfl rfl ?_ | refine SL.y (op_gtr rfl rfl) rfl rfl ?_
          first | refine SL.y (op_pickT rfl rfl) rfl rfl ?_ | refine SL.y (op_pickF rfl rfl) rfl rfl ?_ | refine SL.y (op_pickB rfl rfl rfl) rfl rfl ?_
          refine SL.nil ?_
          refine T.condF rfl ?_
          refine T.skip ?_
          refine T.seq ?_
          refine T.region ?_
          refine SL.y (op_move rfl) rfl rfl ?_
          -- to 28: op
          refine SL.y (op_shl7 rfl rfl hvs) rfl rfl ?_
          refine SL.y (op_move rfl) rfl rfl ?_
          -- to 30: op
          refine SL.y (op_and127 rfl rfl hc256) rfl rfl ?_
          first | refine SL.y (op_convU64 Tryd.underlying5 Tryd.underlying95 rfl (by omega) (by omega)) rfl rfl ?_ | refine SL.y (op_convert Tryd.underlying5 Tryd.underlying95 rfl) rfl rfl ?_
          -- to 32: op
          refine SL.y (op_or7 rfl rfl hvs hcm) rfl rfl ?_
          by_cases hlt : c < 128
          · rw [if_pos hlt] at hgo2
            refine SL.y (op_assign rfl) rfl rfl ?_
            refine SL.nil ?_
            refine T.seq ?_
            refine T.region ?_
            refine SL.y (op_move rfl) rfl rfl ?_
            first | refine SL.y (op_lssT rfl rfl (by omega)) rfl rfl ?_ | refine SL.y (op_lssF rfl rfl (by omega)) rfl rfl ?_ | refine SL.y (op_lss rfl rfl) rfl rfl ?_
            refine SL.nil ?_
            refine T.condT rfl ?_
            refine T.seq ?_
            refine T.region ?_
            refine SL.y (op_move rfl) rfl rfl ?_
            refine SL.y (op_move rfl) rfl rfl ?_
            first | refine SL.y (op_addN (q := 1) rfl rfl (by omega)) rfl rfl ?_ | refine SL.y (op_add rfl rfl (by omega) (by omega)) rfl rfl ?_ | refine SL.y (op_addW rfl rfl) rfl rfl ?_
            refine SL.y (op_assign rfl) rfl rfl ?_
            refine SL.y (op_assign rfl) rfl rfl ?_
            refine SL.nil ?_
            -- ret
            refine T.retM2 [RdO b (.slice (some ⟨b2, pre.length, none⟩) bs.length cp) e] rfl (ResIs.tmp rfl) (ResIs.tmp rfl) (List.Perm.refl _) ?_
            exact ⟨hX1, by rw [← hgo2], rfl⟩
          · rw [if_neg hlt] at hgo2
            refine SL.y (op_assign rfl) rfl rfl ?_
            refine SL.nil ?_
            refine T.seq ?_
            refine T.region ?_
            refine SL.y (op_move rfl) rfl rfl ?_
            first | refine SL.y (op_lssT rfl rfl (by omega)) rfl rfl ?_ | refine SL.y (op_lssF rfl rfl (by omega)) rfl rfl ?_ | refine SL.y (op_lss rfl rfl) rfl rfl ?_
            refine SL.nil ?_
            refine T.condF rfl ?_
            refine T.skip ?_
            refine T.blk ?_
            refine T.region ?_
            first | refine SL.y (op_addN (q := 1) rfl rfl (by omega)) rfl rfl ?_ | refine SL.y (op_add rfl rfl (by omega) (by omega)) rfl rfl ?_ | refine SL.y (op_addW rfl rfl) rfl rfl ?_
            refine SL.y (op_move rfl) rfl rfl ?_
            refine SL.nil ?_
            -- cut
            exact T.backW (bs.length - (k + 1)) (by omega) ⟨k + 1, v * 128 + c % 128, rfl, by omega, hX1, by omega, hgo2, rfl, rfl⟩ (by repeat (first | exact Sub.nil | refine Sub.cons rfl ?_))
        · refine SL.y (op_assign rfl) rfl rfl ?_
          refine SL.y (op_assign rfl) rfl rfl ?_
          refine SL.nil ?_
          refine T.seq ?_
          refine T.seq ?_
          refine T.region ?_
          refine SL.y (op_move rfl) rfl rfl ?_
          first | refine SL.y (op_eqlT rfl rfl (by omega)) rfl rfl ?_ | refine SL.y (op_eqlF rfl rfl (by omega)) rfl rfl ?_ | refine SL.y (op_eql rfl rfl) rfl rfl ?_
          refine SL.y (op_move rfl) rfl rfl ?_
          first | refine SL.skip rfl rfl ?_ | refine SL.y (op_move rfl) rfl rfl ?_
          first | refine SL.skip rfl rfl ?_ | refine SL.y (op_eqlT rfl rfl (by omega)) rfl rfl ?_ | refine SL.y (op_eqlF rfl rfl (by omega)) rfl rfl ?_ | refine SL.y (op_eql rfl rfl) rfl rfl ?_
          first | refine SL.y (op_pickT rfl rfl) rfl rfl ?_ | refine SL.y (op_pickF rfl rfl) rfl rfl ?_ | refine SL.y (op_pickB rfl rfl rfl) rfl rfl ?_
          refine SL.y (op_move rfl) rfl rfl ?_
          first | refine SL.skip rfl rfl ?_ | refine SL.y (op_move rfl) rfl rfl ?_
          first | refine SL.skip rfl rfl ?_ | refine SL.y (op_gtrT rfl rfl (by omega)) rfl rfl ?_ | refine SL.y (op_gtrF rfl rfl (by omega)) rfl rfl ?_ | refine SL.y (op_gtr rfl rfl) rfl rfl ?_
          first | refine SL.y (op_pickT rfl rfl) rfl rfl ?_ | refine SL.y (op_pickF rfl rfl) rfl rfl ?_ | refine SL.y (op_pickB rfl rfl rfl) rfl rfl ?_
          refine SL.nil ?_
          refine T.condF rfl ?_
          refine T.skip ?_
          refine T.seq ?_
          refine T.region ?_
          refine SL.y (op_move rfl) rfl rfl ?_
          -- to 28: op
          refine SL.y (op_shl7 rfl rfl hvs) rfl rfl ?_
          refine SL.y (op_move rfl) rfl rfl ?_
          -- to 30: op
          refine SL.y (op_and127 rfl rfl hc256) rfl rfl ?_
          first | refine SL.y (op_convU64 Tryd.underlying5 Tryd.underlying95 rfl (by omega) (by omega)) rfl rfl ?_ | refine SL.y (op_convert Tryd.underlying5 Tryd.underlying95 rfl) rfl rfl ?_
          -- to 32: op
          refine SL.y (op_or7 rfl rfl hvs hcm) rfl rfl ?_
          by_cases hlt : c < 128
          · rw [if_pos hlt] at hgo2
            refine SL.y (op_assign rfl) rfl rfl ?_
            refine SL.nil ?_
            refine T.seq ?_
            refine T.region ?_
            refine SL.y (op_move rfl) rfl rfl ?_
            first | refine SL.y (op_lssT rfl rfl (by omega)) rfl rfl ?_ | refine SL.y (op_lssF rfl rfl (by omega)) rfl rfl ?_ | refine SL.y (op_lss rfl rfl) rfl rfl ?_
            refine SL.nil ?_
            refine T.condT rfl ?_
            refine T.seq ?_
            refine T.region ?_
            refine SL.y (op_move rfl) rfl rfl ?_
            refine SL.y (op_move rfl) rfl rfl ?_
            first | refine SL.y (op_addN (q := 1) rfl rfl (by omega)) rfl rfl ?_ | refine SL.y (op_add rfl rfl (by omega) (by omega)) rfl rfl ?_ | refine SL.y (op_addW rfl rfl) rfl rfl ?_
            refine SL.y (op_assign rfl) rfl rfl ?_
            refine SL.y (op_assign rfl) rfl rfl ?_
            refine SL.nil ?_
            -- ret
            refine T.retM2 [RdO b (.slice (some ⟨b2, pre.length, none⟩) bs.length cp) e] rfl (ResIs.tmp rfl) (ResIs.tmp rfl) (List.Perm.refl _) ?_
            exact ⟨hX1, by rw [← hgo2], rfl⟩
          · rw [if_neg hlt] at hgo2
            refine SL.y (op_assign rfl) rfl rfl ?_
            refine SL.nil ?_
            refine T.seq ?_
            refine T.region ?_
            refine SL.y (op_move rfl) rfl rfl ?_
            first | refine SL.y (op_lssT rfl rfl (by omega)) rfl rfl ?_ | refine SL.y (op_lssF rfl rfl (by omega)) rfl rfl ?_ | refine SL.y (op_lss rfl rfl) rfl rfl ?_
            refine SL.nil ?_
            refine T.condF rfl ?_
            refine T.skip ?_
            refine T.blk ?_
            refine T.region ?_
            first | refine SL.y (op_addN (q := 1) rfl rfl (by omega)) rfl rfl ?_ | refine SL.y (op_add rfl rfl (by omega) (by omega)) rfl rfl ?_ | refine SL.y (op_addW rfl rfl) rfl rfl ?_
            refine SL.y (op_move rfl) rfl rfl ?_
            refine SL.nil ?_
            -- cut
            exact T.backW (bs.length - (k + 1)) (by omega) ⟨k + 1, v * 128 + c % 128, rfl, by omega, hX1, by omega, hgo2, rfl, rfl⟩ (by repeat (first | exact Sub.nil | refine Sub.cons rfl ?_))
  · obtain rfl : k = bs.length := by omega
    refine T.seq ?_
    refine T.region ?_
    first | refine SL.y (op_lssT rfl rfl (by omega)) rfl rfl ?_ | refine SL.y (op_lssF rfl rfl (by omega)) rfl rfl ?_ | refine SL.y (op_lss rfl rfl) rfl rfl ?_
    refine SL.nil ?_
    refine T.seq ?_
    refine T.condF rfl ?_
    refine T.exit (T.exitCode (T.exitCut (T.exitBlk ?_)))
    refine T.seq ?_
    refine T.region ?_
    refine SL.y (op_assign (v := .int .u64 ((0 : Nat) : Int)) rfl) rfl rfl ?_
    refine SL.y (op_assign (v := .int .i64 ((0 : Nat) : Int)) rfl) rfl rfl ?_
    refine SL.nil ?_
    -- ret
    refine T.retM2 [RdO b (.slice A bs.length cp) e] rfl (ResIs.tmp rfl) (ResIs.tmp rfl) (List.Perm.refl _) ?_
    rw [List.drop_length] at hgo
    exact ⟨hX1, by rw [← hgo]; rfl, rfl⟩
theorem rtake_spec {bs : List Nat} (h : CutR X sv bs) (hl : bs.length < 1000000) {k : Nat} (hk : k ≤ bs.length) : SpecM Tryd.prog 91 [.pointer (some ⟨b, 0, none⟩), .int .i64 (k : Int)] X [RdO b sv e] fun u L' X' => CutR X' u (bs.take k) ∧ ∃ sv', L' = [RdO b sv' e] ∧ CutR X' sv' (bs.drop k) := by
  obtain ⟨h1, ⟨A, cp, rfl, hcp⟩, hb⟩ := h
  have hd := h1.drop hcp hk
  have ht := h1.take hcp hk
  have htl : (bs.take k).length = k := by rw [List.length_take]; omega
  refine SpecM.enter Tryd.func91 rfl Tryd.ntmps91 rfl ?_
  intro w0 X0 own0
  refine T.seq ?_
  refine T.region ?_
  refine SL.y (op_assign rfl) rfl rfl ?_
  refine SL.nil ?_
  refine T.seq ?_
  refine T.region ?_
  refine SL.y (op_move rfl) rfl rfl ?_
  first | refine SL.y (op_nil rfl) rfl rfl ?_ | refine SL.y (op_nilFn rfl) rfl rfl ?_
  refine SL.y (op_fieldAddr fa135_0 rfl) rfl rfl ?_
  first | refine SL.y (op_load ty77 rfl (by repeat (first | exact AtO.here | apply AtO.there)) rfl) rfl rfl ?_ | refine SL.y (op_loadX ty77 rfl (by assumption) rfl) rfl rfl ?_
  refine SL.y (op_move rfl) rfl rfl ?_
  -- to 11: op
  refine SL.y (op_sliceHi Tryd.underlying77 ty5 rfl rfl (by omega)) rfl rfl ?_
  refine SL.x (op_callO en87 (vs := [_]) rfl (bclone_spec ht (by omega))) rfl rfl ?_
  rintro u _ X1 ⟨G, rfl, hX1, hG⟩
  refine SL.perm (own' := ([RdO b (.slice A bs.length cp) e] ++ own0) ++ G) List.perm_append_comm ?_
  refine T.pubGAt (own0 := [RdO b (.slice A bs.length cp) e] ++ own0) hG ?_
  intro X2 hX2 hS
  obtain ⟨Au, cu, hu, hcu⟩ : ∃ A cp, u = .slice A k cp ∧ k ≤ cp := by
    rcases hG with ⟨h1, _, rfl, _⟩ | ⟨bg, cg, rfl, _, hcg, _⟩
    · rw [htl] at h1; subst h1; exact ⟨_, _, rfl, by omega⟩
    · rw [htl] at hcg ⊢; exact ⟨_, _, rfl, hcg⟩
  subst hu
  refine SL.y (op_assign rfl) rfl rfl ?_
  refine SL.nil ?_
  refine T.seq ?_
  refine T.region ?_
  refine SL.y (op_move rfl) rfl rfl ?_
  refine SL.y (op_move rfl) rfl rfl ?_
  first | refine SL.y (op_nil rfl) rfl rfl ?_ | refine SL.y (op_nilFn rfl) rfl rfl ?_
  refine SL.y (op_fieldAddr fa135_0 rfl) rfl rfl ?_
  first | refine SL.y (op_load ty77 rfl (by repeat (first | exact AtO.here | apply AtO.there)) rfl) rfl rfl ?_ | refine SL.y (op_loadX ty77 rfl (by assumption) rfl) rfl rfl ?_
  refine SL.y (op_move rfl) rfl rfl ?_
  -- to 19: op
  refine SL.y (op_sliceLo Tryd.underlying77 ty5 rfl rfl (by omega) hcp) rfl rfl ?_
  first | refine SL.y (op_nil rfl) rfl rfl ?_ | refine SL.y (op_nilFn rfl) rfl rfl ?_
  refine SL.y (op_fieldAddr fa135_0 rfl) rfl rfl ?_
  refine SL.x (op_store ty77 rfl rfl (by repeat (first | exact AtO.here | apply AtO.there)) rfl rfl rfl) rfl rfl ?_
  rintro _ _ _ ⟨rfl, rfl⟩
  refine SL.nil ?_
  refine T.seq ?_
  refine T.region ?_
  refine SL.y (op_move rfl) rfl rfl ?_
  refine SL.y (op_assign rfl) rfl rfl ?_
  refine SL.nil ?_
  -- ret
  refine T.retM1 [RdO b (.slice (slA A cp k 1) (bs.length - k) (cp - k)) e] rfl (ResIs.tmp rfl) (List.Perm.refl _) ?_
  have hX02 := hX1.trans' hX2
  refine ⟨hX02, ⟨BytesR.ofS hS, ⟨_, _, by rw [htl], by omega⟩, fun b hb' => hb b (List.mem_of_mem_take hb')⟩, _, rfl, hd.mono hX02, ⟨_, _, by rw [List.length_drop], by rw [List.length_drop]; omega⟩, fun b hb' => hb b (List.mem_of_mem_drop hb')⟩
end
section
variable {X : PMap} {b : Nat} {sv : Value} {e : Int}
theorem CutR.len {X : PMap} {v : Value} {bs : List Nat} (_ : CutR X v bs) {k : Nat} (h : (numR bs).2 ≠ 0) (hk : k = (numR bs).2) (hb : ∀ b ∈ bs, b < 256) : k ≤ bs.length := by subst hk; exact (numR_enc hb h).1
theorem ruint_spec {bs : List Nat} (h : CutR X sv bs) (hl : bs.length < 1000000) {most : Nat} (_hm : most < 18446744073709551616) : SpecM Tryd.prog 92 [.pointer (some ⟨b, 0, none⟩), .int .u64 (most : Int)] X [RdO b sv e] fun u L' X' => u = .int .u64 ((rdU 2 most e bs).1 : Int) ∧ ∃ sv', L' = [RdO b sv' (rdU 2 most e bs).2.1] ∧ CutR X' sv' (rdU 2 most e bs).2.2 := by
  refine SpecM.enter Tryd.func92 rfl Tryd.ntmps92 rfl ?_
  intro w0 X0 own0
  refine T.seq ?_
  refine T.region ?_
  refine SL.y (op_assign (v := .int .u64 ((0 : Nat) : Int)) rfl) rfl rfl ?_
  refine SL.nil ?_
  refine T.seq ?_
  refine T.seq ?_
  refine T.region ?_
  refine SL.y (op_move rfl) rfl rfl ?_
  -- op
  refine SL.x (op_callM en88 (vs := [_]) rfl (rok_spec) rfl) rfl rfl ?_
  rintro _ _ X1 ⟨_, rfl, hX1, rfl, rfl⟩
  by_cases he : e = 0
  · subst he
    rw [decide_eq_true rfl]
    have h1 := h.mono hX1
    refine SL.y (op_not rfl) rfl rfl ?_
    refine SL.nil ?_
    refine T.condF rfl ?_
    refine T.skip ?_
    refine T.seq ?_
    refine T.region ?_
    refine SL.y (op_move rfl) rfl rfl ?_
    -- op
    refine SL.x (op_callM en90 (vs := [_]) rfl (rnumber_spec h1 hl) rfl) rfl rfl ?_
    rintro _ _ X2 ⟨_, rfl, hX2, rfl, rfl⟩
    have h2 := h1.mono hX2
    have hX02 := hX1.trans' hX2
    rw [rdU, if_neg (by simp)]
    have hlen := h2.len (k := (numR bs).2)
    have hnl := numR_lt bs
    generalize (numR bs).1 = v at *
    generalize hnn : (numR bs).2 = n at *
    by_cases hn0 : n = 0
    · rw [if_pos hn0]
      refine SL.y (op_move rfl) rfl rfl ?_
      refine SL.y (op_extract rfl rfl) rfl rfl ?_
      refine SL.y (op_extract rfl rfl) rfl rfl ?_
      refine SL.y (op_assign rfl) rfl rfl ?_
      refine SL.y (op_assign rfl) rfl rfl ?_
      refine SL.nil ?_
      refine T.seq ?_
      refine T.seq ?_
      refine T.region ?_
      refine SL.y (op_move rfl) rfl rfl ?_
      refine SL.y (op_move rfl) rfl rfl ?_
      first | refine SL.y (op_eqlT rfl rfl (by omega)) rfl rfl ?_ | refine SL.y (op_eqlF rfl rfl (by omega)) rfl rfl ?_ | refine SL.y (op_eql rfl rfl) rfl rfl ?_
      -- op
      refine SL.x (op_callM en89 (vs := [_, _, _]) rfl (rrefuse_spec true 6) rfl) rfl rfl ?_
      rintro _ _ X3 ⟨_, rfl, hX3, rfl, rfl⟩
      refine SL.y (op_not rfl) rfl rfl ?_
      refine SL.y (op_move rfl) rfl rfl ?_
      first | refine SL.skip rfl rfl ?_ | refine SL.y (op_move rfl) rfl rfl ?_
      first | refine SL.skip rfl rfl ?_ | refine SL.y (op_move rfl) rfl rfl ?_
      first | refine SL.skip rfl rfl ?_ | refine SL.y (op_move rfl) rfl rfl ?_
      first | refine SL.skip rfl rfl ?_ | refine SL.y (op_gtrT rfl rfl (by omega)) rfl rfl ?_ | refine SL.y (op_gtrF rfl rfl (by omega)) rfl rfl ?_ | refine SL.y (op_gtr rfl rfl) rfl rfl ?_
      -- op
      refine SL.skip rfl rfl ?_
      first | refine SL.skip rfl rfl ?_ | refine SL.y (op_not rfl) rfl rfl ?_
      first | refine SL.y (op_pickT rfl rfl) rfl rfl ?_ | refine SL.y (op_pickF rfl rfl) rfl rfl ?_ | refine SL.y (op_pickB rfl rfl rfl) rfl rfl ?_
      refine SL.nil ?_
      refine T.condT rfl ?_
      refine T.seq ?_
      refine T.region ?_
      refine SL.y (op_assign (v := .int .u64 ((0 : Nat) : Int)) rfl) rfl rfl ?_
      refine SL.nil ?_
      -- ret
      refine T.retM1 [RdO b sv 6] rfl (ResIs.tmp rfl) (List.Perm.refl _) ?_
      exact ⟨hX02.trans' hX3, rfl, sv, rfl, h2.mono hX3⟩
    · rw [if_neg hn0]
      refine SL.y (op_move rfl) rfl rfl ?_
      refine SL.y (op_extract rfl rfl) rfl rfl ?_
      refine SL.y (op_extract rfl rfl) rfl rfl ?_
      refine SL.y (op_assign rfl) rfl rfl ?_
      refine SL.y (op_assign rfl) rfl rfl ?_
      refine SL.nil ?_
      refine T.seq ?_
      refine T.seq ?_
      refine T.region ?_
      refine SL.y (op_move rfl) rfl rfl ?_
      refine SL.y (op_move rfl) rfl rfl ?_
      first | refine SL.y (op_eqlT rfl rfl (by omega)) rfl rfl ?_ | refine SL.y (op_eqlF rfl rfl (by omega)) rfl rfl ?_ | refine SL.y (op_eql rfl rfl) rfl rfl ?_
      -- op
      refine SL.x (op_callM en89 (vs := [_, _, _]) rfl (rrefuse_spec false 6) rfl) rfl rfl ?_
      rintro _ _ X3 ⟨_, rfl, hX3, rfl, rfl⟩
      by_cases hv : most < v
      · rw [if_pos hv]
        refine SL.y (op_not rfl) rfl rfl ?_
        refine SL.y (op_move rfl) rfl rfl ?_
        first | refine SL.skip rfl rfl ?_ | refine SL.y (op_move rfl) rfl rfl ?_
        first | refine SL.skip rfl rfl ?_ | refine SL.y (op_move rfl) rfl rfl ?_
        first | refine SL.skip rfl rfl ?_ | refine SL.y (op_move rfl) rfl rfl ?_
        first | refine SL.skip rfl rfl ?_ | refine SL.y (op_gtrT rfl rfl (by omega)) rfl rfl ?_ | refine SL.y (op_gtrF rfl rfl (by omega)) rfl rfl ?_ | refine SL.y (op_gtr rfl rfl) rfl rfl ?_
        -- op
        refine SL.x (op_callM en89 (vs := [_, _, _]) rfl (rrefuse_spec true 2) rfl) rfl rfl ?_
        rintro _ _ X4 ⟨_, rfl, hX4, rfl, rfl⟩
        first | refine SL.skip rfl rfl ?_ | refine SL.y (op_not rfl) rfl rfl ?_
        first | refine SL.y (op_pickT rfl rfl) rfl rfl ?_ | refine SL.y (op_pickF rfl rfl) rfl rfl ?_ | refine SL.y (op_pickB rfl rfl rfl) rfl rfl ?_
        refine SL.nil ?_
        refine T.condT rfl ?_
        refine T.seq ?_
        refine T.region ?_
        refine SL.y (op_assign (v := .int .u64 ((0 : Nat) : Int)) rfl) rfl rfl ?_
        refine SL.nil ?_
        -- ret
        refine T.retM1 [RdO b sv 2] rfl (ResIs.tmp rfl) (List.Perm.refl _) ?_
        exact ⟨(hX02.trans' hX3).trans' hX4, rfl, sv, rfl, (h2.mono hX3).mono hX4⟩
      · rw [if_neg hv]
        refine SL.y (op_not rfl) rfl rfl ?_
        refine SL.y (op_move rfl) rfl rfl ?_
        first | refine SL.skip rfl rfl ?_ | refine SL.y (op_move rfl) rfl rfl ?_
        first | refine SL.skip rfl rfl ?_ | refine SL.y (op_move rfl) rfl rfl ?_
        first | refine SL.skip rfl rfl ?_ | refine SL.y (op_move rfl) rfl rfl ?_
        first | refine SL.skip rfl rfl ?_ | refine SL.y (op_gtrT rfl rfl (by omega)) rfl rfl ?_ | refine SL.y (op_gtrF rfl rfl (by omega)) rfl rfl ?_ | refine SL.y (op_gtr rfl rfl) rfl rfl ?_
        -- op
        refine SL.x (op_callM en89 (vs := [_, _, _]) rfl (rrefuse_spec false 2) rfl) rfl rfl ?_
        rintro _ _ X4 ⟨_, rfl, hX4, rfl, rfl⟩
        first | refine SL.skip rfl rfl ?_ | refine SL.y (op_not rfl) rfl rfl ?_
        first | refine SL.y (op_pickT rfl rfl) rfl rfl ?_ | refine SL.y (op_pickF rfl rfl) rfl rfl ?_ | refine SL.y (op_pickB rfl rfl rfl) rfl rfl ?_
        refine SL.nil ?_
        refine T.condF rfl ?_
        refine T.skip ?_
        refine T.seq ?_
        refine T.region ?_
        refine SL.y (op_move rfl) rfl rfl ?_
        refine SL.y (op_move rfl) rfl rfl ?_
        -- op
        refine SL.x (op_callM en91 (vs := [_, _]) rfl (rtake_spec ((h2.mono hX3).mono hX4) hl (hlen hn0 rfl h.2.2)) rfl) rfl rfl ?_
        rintro u5 _ X5 ⟨_, rfl, hX5, hu5, sv5, rfl, h5⟩
        refine SL.nil ?_
        refine T.seq ?_
        refine T.region ?_
        refine SL.y (op_move rfl) rfl rfl ?_
        refine SL.y (op_assign rfl) rfl rfl ?_
        refine SL.nil ?_
        -- ret
        refine T.retM1 [RdO b sv5 0] rfl (ResIs.tmp rfl) (List.Perm.refl _) ?_
        exact ⟨((hX02.trans' hX3).trans' hX4).trans' hX5, rfl, sv5, rfl, h5⟩
  · rw [decide_eq_false he, rdU_err he]
    refine SL.y (op_not rfl) rfl rfl ?_
    refine SL.nil ?_
    refine T.condT rfl ?_
    refine T.seq ?_
    refine T.region ?_
    refine SL.y (op_assign (v := .int .u64 ((0 : Nat) : Int)) rfl) rfl rfl ?_
    refine SL.nil ?_
    -- ret
    refine T.retM1 [RdO b sv e] rfl (ResIs.tmp rfl) (List.Perm.refl _) ?_
    exact ⟨hX1, rfl, sv, rfl, h.mono hX1⟩
theorem rnum_spec {bs : List Nat} (h : CutR X sv bs) (hl : bs.length < 1000000) {most : Nat} (hm : most < 1000000000) : SpecM Tryd.prog 70 [.pointer (some ⟨b, 0, none⟩), .int .i64 (most : Int)] X [RdO b sv e] fun u L' X' => u = .int .i64 ((rdU 2 most e bs).1 : Int) ∧ ∃ sv', L' = [RdO b sv' (rdU 2 most e bs).2.1] ∧ CutR X' sv' (rdU 2 most e bs).2.2 := by
  refine SpecM.enter Tryd.func70 rfl Tryd.ntmps70 rfl ?_
  intro w0 X0 own0
  refine T.seq ?_
  refine T.region ?_
  refine SL.y (op_assign (v := .int .i64 ((0 : Nat) : Int)) rfl) rfl rfl ?_
  refine SL.nil ?_
  refine T.seq ?_
  refine T.seq ?_
  refine T.region ?_
  refine SL.y (op_move rfl) rfl rfl ?_
  -- op
  refine SL.x (op_callM en88 (vs := [_]) rfl (rok_spec) rfl) rfl rfl ?_
  rintro _ _ X1 ⟨_, rfl, hX1, rfl, rfl⟩
  by_cases he : e = 0
  · subst he
    rw [decide_eq_true rfl]
    have hle := rdU_le (c := 2) (e := 0) (most := most) (bs := bs)
    refine SL.y (op_not rfl) rfl rfl ?_
    refine SL.y (op_move rfl) rfl rfl ?_
    first | refine SL.skip rfl rfl ?_ | refine SL.y (op_move rfl) rfl rfl ?_
    first | refine SL.skip rfl rfl ?_ | refine SL.y (op_move rfl) rfl rfl ?_
    first | refine SL.skip rfl rfl ?_ | refine SL.y (op_lssT rfl rfl (by omega)) rfl rfl ?_ | refine SL.y (op_lssF rfl rfl (by omega)) rfl rfl ?_ | refine SL.y (op_lss rfl rfl) rfl rfl ?_
    -- op
    refine SL.x (op_callM en89 (vs := [_, _, _]) rfl (rrefuse_spec false 1) rfl) rfl rfl ?_
    rintro _ _ X2 ⟨_, rfl, hX2, rfl, rfl⟩
    first | refine SL.skip rfl rfl ?_ | refine SL.y (op_not rfl) rfl rfl ?_
    first | refine SL.y (op_pickT rfl rfl) rfl rfl ?_ | refine SL.y (op_pickF rfl rfl) rfl rfl ?_ | refine SL.y (op_pickB rfl rfl rfl) rfl rfl ?_
    refine SL.nil ?_
    refine T.condF rfl ?_
    refine T.skip ?_
    refine T.seq ?_
    refine T.region ?_
    refine SL.y (op_move rfl) rfl rfl ?_
    refine SL.y (op_move rfl) rfl rfl ?_
    first | refine SL.y (op_convU64 Tryd.underlying3 Tryd.underlying95 rfl (by omega) (by omega)) rfl rfl ?_ | refine SL.y (op_convert Tryd.underlying3 Tryd.underlying95 rfl) rfl rfl ?_
    -- op
    refine SL.x (op_callM en92 (vs := [_, _]) rfl (ruint_spec (e := 0) ((h.mono hX1).mono hX2) hl (by omega)) rfl) rfl rfl ?_
    rintro _ _ X3 ⟨_, rfl, hX3, rfl, sv3, rfl, h3⟩
    first | refine SL.y (op_convI64 Tryd.underlying95 Tryd.underlying3 rfl (by omega) (by omega)) rfl rfl ?_ | refine SL.y (op_convert Tryd.underlying95 Tryd.underlying3 rfl) rfl rfl ?_
    refine SL.y (op_assign rfl) rfl rfl ?_
    refine SL.nil ?_
    -- ret
    refine T.retM1 [RdO b sv3 (rdU 2 most 0 bs).2.1] rfl (ResIs.tmp rfl) (List.Perm.refl _) ?_
    exact ⟨(hX1.trans' hX2).trans' hX3, rfl, sv3, rfl, h3⟩
  · rw [decide_eq_false he, rdU_err he]
    refine SL.y (op_not rfl) rfl rfl ?_
    refine SL.y (op_move rfl) rfl rfl ?_
    first | refine SL.skip rfl rfl ?_ | refine SL.y (op_move rfl) rfl rfl ?_
    first | refine SL.skip rfl rfl ?_ | refine SL.y (op_move rfl) rfl rfl ?_
    first | refine SL.skip rfl rfl ?_ | refine SL.y (op_lssT rfl rfl (by omega)) rfl rfl ?_ | refine SL.y (op_lssF rfl rfl (by omega)) rfl rfl ?_ | refine SL.y (op_lss rfl rfl) rfl rfl ?_
    -- op
    refine SL.skip rfl rfl ?_
    first | refine SL.skip rfl rfl ?_ | refine SL.y (op_not rfl) rfl rfl ?_
    first | refine SL.y (op_pickT rfl rfl) rfl rfl ?_ | refine SL.y (op_pickF rfl rfl) rfl rfl ?_ | refine SL.y (op_pickB rfl rfl rfl) rfl rfl ?_
    refine SL.nil ?_
    refine T.condT rfl ?_
    refine T.seq ?_
    refine T.region ?_
    refine SL.y (op_assign (v := .int .i64 ((0 : Nat) : Int)) rfl) rfl rfl ?_
    refine SL.nil ?_
    -- ret
    refine T.retM1 [RdO b sv e] rfl (ResIs.tmp rfl) (List.Perm.refl _) ?_
    exact ⟨hX1, rfl, sv, rfl, h.mono hX1⟩
theorem rcount_spec {bs : List Nat} (h : CutR X sv bs) (hl : bs.length < 1000000) {most : Nat} (hm : most < 1000000000) : SpecM Tryd.prog 68 [.pointer (some ⟨b, 0, none⟩), .int .i64 (most : Int)] X [RdO b sv e] fun u L' X' => u = .int .i64 ((rdU 3 most e bs).1 : Int) ∧ ∃ sv', L' = [RdO b sv' (rdU 3 most e bs).2.1] ∧ CutR X' sv' (rdU 3 most e bs).2.2 := by
  refine SpecM.enter Tryd.func68 rfl Tryd.ntmps68 rfl ?_
  intro w0 X0 own0
  refine T.seq ?_
  refine T.region ?_
  refine SL.y (op_assign (v := .int .i64 ((0 : Nat) : Int)) rfl) rfl rfl ?_
  refine SL.nil ?_
  refine T.seq ?_
  refine T.seq ?_
  refine T.region ?_
  refine SL.y (op_move rfl) rfl rfl ?_
  -- op
  refine SL.x (op_callM en88 (vs := [_]) rfl (rok_spec) rfl) rfl rfl ?_
  rintro _ _ X1 ⟨_, rfl, hX1, rfl, rfl⟩
  by_cases he : e = 0
  · subst he
    rw [decide_eq_true rfl]
    have h0 := h.mono hX1
    refine SL.y (op_not rfl) rfl rfl ?_
    refine SL.y (op_move rfl) rfl rfl ?_
    first | refine SL.skip rfl rfl ?_ | refine SL.y (op_move rfl) rfl rfl ?_
    first | refine SL.skip rfl rfl ?_ | refine SL.y (op_move rfl) rfl rfl ?_
    first | refine SL.skip rfl rfl ?_ | refine SL.y (op_lssT rfl rfl (by omega)) rfl rfl ?_ | refine SL.y (op_lssF rfl rfl (by omega)) rfl rfl ?_ | refine SL.y (op_lss rfl rfl) rfl rfl ?_
    -- op
    refine SL.x (op_callM en89 (vs := [_, _, _]) rfl (rrefuse_spec false 1) rfl) rfl rfl ?_
    rintro _ _ Xa ⟨_, rfl, hXa, rfl, rfl⟩
    have h1 := h0.mono hXa
    first | refine SL.skip rfl rfl ?_ | refine SL.y (op_not rfl) rfl rfl ?_
    first | refine SL.y (op_pickT rfl rfl) rfl rfl ?_ | refine SL.y (op_pickF rfl rfl) rfl rfl ?_ | refine SL.y (op_pickB rfl rfl rfl) rfl rfl ?_
    refine SL.nil ?_
    refine T.condF rfl ?_
    refine T.skip ?_
    refine T.seq ?_
    refine T.region ?_
    refine SL.y (op_move rfl) rfl rfl ?_
    -- op
    refine SL.x (op_callM en90 (vs := [_]) rfl (rnumber_spec h1 hl) rfl) rfl rfl ?_
    rintro _ _ X2 ⟨_, rfl, hX2, rfl, rfl⟩
    have h2 := h1.mono hX2
    have hX02 := (hX1.trans' hXa).trans' hX2
    rw [rdU, if_neg (by simp)]
    have hlen := h2.len (k := (numR bs).2)
    have hnl := numR_lt bs
    generalize (numR bs).1 = v at *
    generalize hnn : (numR bs).2 = n at *
    by_cases hn0 : n = 0
    · rw [if_pos hn0]
      refine SL.y (op_move rfl) rfl rfl ?_
      refine SL.y (op_extract rfl rfl) rfl rfl ?_
      refine SL.y (op_extract rfl rfl) rfl rfl ?_
      refine SL.y (op_assign rfl) rfl rfl ?_
      refine SL.y (op_assign rfl) rfl rfl ?_
      refine SL.nil ?_
      refine T.seq ?_
      refine T.seq ?_
      refine T.region ?_
      refine SL.y (op_move rfl) rfl rfl ?_
      refine SL.y (op_move rfl) rfl rfl ?_
      first | refine SL.y (op_eqlT rfl rfl (by omega)) rfl rfl ?_ | refine SL.y (op_eqlF rfl rfl (by omega)) rfl rfl ?_ | refine SL.y (op_eql rfl rfl) rfl rfl ?_
      -- op
      refine SL.x (op_callM en89 (vs := [_, _, _]) rfl (rrefuse_spec true 6) rfl) rfl rfl ?_
      rintro _ _ X3 ⟨_, rfl, hX3, rfl, rfl⟩
      refine SL.y (op_not rfl) rfl rfl ?_
      refine SL.y (op_move rfl) rfl rfl ?_
      first | refine SL.skip rfl rfl ?_ | refine SL.y (op_move rfl) rfl rfl ?_
      first | refine SL.skip rfl rfl ?_ | refine SL.y (op_move rfl) rfl rfl ?_
      first | refine SL.skip rfl rfl ?_ | refine SL.y (op_move rfl) rfl rfl ?_
      first | refine SL.skip rfl rfl ?_ | refine SL.y (op_convU64 Tryd.underlying3 Tryd.underlying95 rfl (by omega) (by omega)) rfl rfl ?_ | refine SL.y (op_convert Tryd.underlying3 Tryd.underlying95 rfl) rfl rfl ?_
      first | refine SL.skip rfl rfl ?_ | refine SL.y (op_gtrT rfl rfl (by omega)) rfl rfl ?_ | refine SL.y (op_gtrF rfl rfl (by omega)) rfl rfl ?_ | refine SL.y (op_gtr rfl rfl) rfl rfl ?_
      -- op
      refine SL.skip rfl rfl ?_
      first | refine SL.skip rfl rfl ?_ | refine SL.y (op_not rfl) rfl rfl ?_
      first | refine SL.y (op_pickT rfl rfl) rfl rfl ?_ | refine SL.y (op_pickF rfl rfl) rfl rfl ?_ | refine SL.y (op_pickB rfl rfl rfl) rfl rfl ?_
      refine SL.nil ?_
      refine T.condT rfl ?_
      refine T.seq ?_
      refine T.region ?_
      refine SL.y (op_assign (v := .int .i64 ((0 : Nat) : Int)) rfl) rfl rfl ?_
      refine SL.nil ?_
      -- ret
      refine T.retM1 [RdO b sv 6] rfl (ResIs.tmp rfl) (List.Perm.refl _) ?_
      exact ⟨hX02.trans' hX3, rfl, sv, rfl, h2.mono hX3⟩
    · rw [if_neg hn0]
      refine SL.y (op_move rfl) rfl rfl ?_
      refine SL.y (op_extract rfl rfl) rfl rfl ?_
      refine SL.y (op_extract rfl rfl) rfl rfl ?_
      refine SL.y (op_assign rfl) rfl rfl ?_
      refine SL.y (op_assign rfl) rfl rfl ?_
      refine SL.nil ?_
      refine T.seq ?_
      refine T.seq ?_
      refine T.region ?_
      refine SL.y (op_move rfl) rfl rfl ?_
      refine SL.y (op_move rfl) rfl rfl ?_
      first | refine SL.y (op_eqlT rfl rfl (by omega)) rfl rfl ?_ | refine SL.y (op_eqlF rfl rfl (by omega)) rfl rfl ?_ | refine SL.y (op_eql rfl rfl) rfl rfl ?_
      -- op
      refine SL.x (op_callM en89 (vs := [_, _, _]) rfl (rrefuse_spec false 6) rfl) rfl rfl ?_
      rintro _ _ X3 ⟨_, rfl, hX3, rfl, rfl⟩
      by_cases hv : most < v
      · rw [if_pos hv]
        refine SL.y (op_not rfl) rfl rfl ?_
        refine SL.y (op_move rfl) rfl rfl ?_
        first | refine SL.skip rfl rfl ?_ | refine SL.y (op_move rfl) rfl rfl ?_
        first | refine SL.skip rfl rfl ?_ | refine SL.y (op_move rfl) rfl rfl ?_
        first | refine SL.skip rfl rfl ?_ | refine SL.y (op_move rfl) rfl rfl ?_
        first | refine SL.skip rfl rfl ?_ | refine SL.y (op_convU64 Tryd.underlying3 Tryd.underlying95 rfl (by omega) (by omega)) rfl rfl ?_ | refine SL.y (op_convert Tryd.underlying3 Tryd.underlying95 rfl) rfl rfl ?_
        first | refine SL.skip rfl rfl ?_ | refine SL.y (op_gtrT rfl rfl (by omega)) rfl rfl ?_ | refine SL.y (op_gtrF rfl rfl (by omega)) rfl rfl ?_ | refine SL.y (op_gtr rfl rfl) rfl rfl ?_
        -- op
        refine SL.x (op_callM en89 (vs := [_, _, _]) rfl (rrefuse_spec true 3) rfl) rfl rfl ?_
        rintro _ _ X4 ⟨_, rfl, hX4, rfl, rfl⟩
        first | refine SL.skip rfl rfl ?_ | refine SL.y (op_not rfl) rfl rfl ?_
        first | refine SL.y (op_pickT rfl rfl) rfl rfl ?_ | refine SL.y (op_pickF rfl rfl) rfl rfl ?_ | refine SL.y (op_pickB rfl rfl rfl) rfl rfl ?_
        refine SL.nil ?_
        refine T.condT rfl ?_
        refine T.seq ?_
        refine T.region ?_
        refine SL.y (op_assign (v := .int .i64 ((0 : Nat) : Int)) rfl) rfl rfl ?_
        refine SL.nil ?_
        -- ret
        refine T.retM1 [RdO b sv 3] rfl (ResIs.tmp rfl) (List.Perm.refl _) ?_
        exact ⟨(hX02.trans' hX3).trans' hX4, rfl, sv, rfl, (h2.mono hX3).mono hX4⟩
      · rw [if_neg hv]
        refine SL.y (op_not rfl) rfl rfl ?_
        refine SL.y (op_move rfl) rfl rfl ?_
        first | refine SL.skip rfl rfl ?_ | refine SL.y (op_move rfl) rfl rfl ?_
        first | refine SL.skip rfl rfl ?_ | refine SL.y (op_move rfl) rfl rfl ?_
        first | refine SL.skip rfl rfl ?_ | refine SL.y (op_move rfl) rfl rfl ?_
        first | refine SL.skip rfl rfl ?_ | refine SL.y (op_convU64 Tryd.underlying3 Tryd.underlying95 rfl (by omega) (by omega)) rfl rfl ?_ | refine SL.y (op_convert Tryd.underlying3 Tryd.underlying95 rfl) rfl rfl ?_
        first | refine SL.skip rfl rfl ?_ | refine SL.y (op_gtrT rfl rfl (by omega)) rfl rfl ?_ | refine SL.y (op_gtrF rfl rfl (by omega)) rfl rfl ?_ | refine SL.y (op_gtr rfl rfl) rfl rfl ?_
        -- op
        refine SL.x (op_callM en89 (vs := [_, _, _]) rfl (rrefuse_spec false 3) rfl) rfl rfl ?_
        rintro _ _ X4 ⟨_, rfl, hX4, rfl, rfl⟩
        first | refine SL.skip rfl rfl ?_ | refine SL.y (op_not rfl) rfl rfl ?_
        first | refine SL.y (op_pickT rfl rfl) rfl rfl ?_ | refine SL.y (op_pickF rfl rfl) rfl rfl ?_ | refine SL.y (op_pickB rfl rfl rfl) rfl rfl ?_
        refine SL.nil ?_
        refine T.condF rfl ?_
        refine T.skip ?_
        refine T.seq ?_
        refine T.region ?_
        refine SL.y (op_move rfl) rfl rfl ?_
        refine SL.y (op_move rfl) rfl rfl ?_
        -- op
        refine SL.x (op_callM en91 (vs := [_, _]) rfl (rtake_spec ((h2.mono hX3).mono hX4) hl (hlen hn0 rfl h.2.2)) rfl) rfl rfl ?_
        rintro u5 _ X5 ⟨_, rfl, hX5, hu5, sv5, rfl, h5⟩
        refine SL.nil ?_
        refine T.seq ?_
        refine T.region ?_
        refine SL.y (op_move rfl) rfl rfl ?_
        first | refine SL.y (op_convI64 Tryd.underlying95 Tryd.underlying3 rfl (by omega) (by omega)) rfl rfl ?_ | refine SL.y (op_convert Tryd.underlying95 Tryd.underlying3 rfl) rfl rfl ?_
        refine SL.y (op_assign rfl) rfl rfl ?_
        refine SL.nil ?_
        -- ret
        refine T.retM1 [RdO b sv5 0] rfl (ResIs.tmp rfl) (List.Perm.refl _) ?_
        exact ⟨((hX02.trans' hX3).trans' hX4).trans' hX5, rfl, sv5, rfl, h5⟩
  · rw [decide_eq_false he, rdU_err he]
    refine SL.y (op_not rfl) rfl rfl ?_
    refine SL.y (op_move rfl) rfl rfl ?_
    first | refine SL.skip rfl rfl ?_ | refine SL.y (op_move rfl) rfl rfl ?_
    first | refine SL.skip rfl rfl ?_ | refine SL.y (op_move rfl) rfl rfl ?_
    first | refine SL.skip rfl rfl ?_ | refine SL.y (op_lssT rfl rfl (by omega)) rfl rfl ?_ | refine SL.y (op_lssF rfl rfl (by omega)) rfl rfl ?_ | refine SL.y (op_lss rfl rfl) rfl rfl ?_
    -- op
    refine SL.skip rfl rfl ?_
    first | refine SL.skip rfl rfl ?_ | refine SL.y (op_not rfl) rfl rfl ?_
    first | refine SL.y (op_pickT rfl rfl) rfl rfl ?_ | refine SL.y (op_pickF rfl rfl) rfl rfl ?_ | refine SL.y (op_pickB rfl rfl rfl) rfl rfl ?_
    refine SL.nil ?_
    refine T.condT rfl ?_
    refine T.seq ?_
    refine T.region ?_
    refine SL.y (op_assign (v := .int .i64 ((0 : Nat) : Int)) rfl) rfl rfl ?_
    refine SL.nil ?_
    -- ret
    refine T.retM1 [RdO b sv e] rfl (ResIs.tmp rfl) (List.Perm.refl _) ?_
    exact ⟨hX1, rfl, sv, rfl, h.mono hX1⟩
/-- The end of the reading. -/
def endE (e : Int) (bs : List Nat) : Int := if e = 0 ∧ bs ≠ [] then 6 else e
theorem rend_spec {bs : List Nat} (h : CutR X sv bs) : SpecM Tryd.prog 72 [.pointer (some ⟨b, 0, none⟩)] X [RdO b sv e] fun u L' _ => u = .int .i64 (endE e bs) ∧ L' = [RdO b sv e] := by
  obtain ⟨h1, ⟨A, cp, rfl, hcp⟩, hb⟩ := h
  refine SpecM.enter Tryd.func72 rfl Tryd.ntmps72 rfl ?_
  intro w0 X0 own0
  refine T.seq ?_
  refine T.region ?_
  refine SL.y (op_assign (v := .int .i64 ((0 : Nat) : Int)) rfl) rfl rfl ?_
  refine SL.nil ?_
  refine T.seq ?_
  refine T.seq ?_
  refine T.region ?_
  refine SL.y (op_move rfl) rfl rfl ?_
  -- op
  refine SL.x (op_callM en88 (vs := [_]) rfl (rok_spec) rfl) rfl rfl ?_
  rintro _ _ X1 ⟨_, rfl, hX1, rfl, rfl⟩
  by_cases he : e = 0
  · rw [decide_eq_true he]
    rcases Nat.eq_zero_or_pos bs.length with h0 | h0
    · skip
      refine SL.y (op_move rfl) rfl rfl ?_
      first | refine SL.skip rfl rfl ?_ | refine SL.y (op_move rfl) rfl rfl ?_
      first | refine SL.skip rfl rfl ?_ | refine SL.y (op_nil rfl) rfl rfl ?_ | refine SL.y (op_nilFn rfl) rfl rfl ?_
      first | refine SL.skip rfl rfl ?_ | refine SL.y (op_fieldAddr fa135_0 rfl) rfl rfl ?_
      first | refine SL.skip rfl rfl ?_ | refine SL.y (op_load ty77 rfl (by repeat (first | exact AtO.here | apply AtO.there)) rfl) rfl rfl ?_ | refine SL.y (op_loadX ty77 rfl (by assumption) rfl) rfl rfl ?_
      first | refine SL.skip rfl rfl ?_ | refine SL.y (op_lenS Tryd.underlying77 rfl) rfl rfl ?_
      first | refine SL.skip rfl rfl ?_ | refine SL.y (op_gtrT rfl rfl (by omega)) rfl rfl ?_ | refine SL.y (op_gtrF rfl rfl (by omega)) rfl rfl ?_ | refine SL.y (op_gtr rfl rfl) rfl rfl ?_
      first | refine SL.y (op_pickT rfl rfl) rfl rfl ?_ | refine SL.y (op_pickF rfl rfl) rfl rfl ?_ | refine SL.y (op_pickB rfl rfl rfl) rfl rfl ?_
      refine SL.nil ?_
      refine T.condF rfl ?_
      refine T.skip ?_
      refine T.seq ?_
      refine T.region ?_
      refine SL.y (op_move rfl) rfl rfl ?_
      -- op
      refine SL.x (op_callM en69 (vs := [_]) rfl (rerr_spec) rfl) rfl rfl ?_
      rintro _ _ X2 ⟨_, rfl, hX2, rfl, rfl⟩
      refine SL.y (op_assign rfl) rfl rfl ?_
      refine SL.nil ?_
      -- ret
      refine T.retM1 [RdO b (.slice A bs.length cp) e] rfl (ResIs.tmp rfl) (List.Perm.refl _) ?_
      exact ⟨hX1.trans' hX2, by rw [endE, if_neg (fun h => h.2 (List.eq_nil_of_length_eq_zero h0))], rfl⟩
    · skip
      refine SL.y (op_move rfl) rfl rfl ?_
      first | refine SL.skip rfl rfl ?_ | refine SL.y (op_move rfl) rfl rfl ?_
      first | refine SL.skip rfl rfl ?_ | refine SL.y (op_nil rfl) rfl rfl ?_ | refine SL.y (op_nilFn rfl) rfl rfl ?_
      first | refine SL.skip rfl rfl ?_ | refine SL.y (op_fieldAddr fa135_0 rfl) rfl rfl ?_
      first | refine SL.skip rfl rfl ?_ | refine SL.y (op_load ty77 rfl (by repeat (first | exact AtO.here | apply AtO.there)) rfl) rfl rfl ?_ | refine SL.y (op_loadX ty77 rfl (by assumption) rfl) rfl rfl ?_
      first | refine SL.skip rfl rfl ?_ | refine SL.y (op_lenS Tryd.underlying77 rfl) rfl rfl ?_
      first | refine SL.skip rfl rfl ?_ | refine SL.y (op_gtrT rfl rfl (by omega)) rfl rfl ?_ | refine SL.y (op_gtrF rfl rfl (by omega)) rfl rfl ?_ | refine SL.y (op_gtr rfl rfl) rfl rfl ?_
      first | refine SL.y (op_pickT rfl rfl) rfl rfl ?_ | refine SL.y (op_pickF rfl rfl) rfl rfl ?_ | refine SL.y (op_pickB rfl rfl rfl) rfl rfl ?_
      refine SL.nil ?_
      refine T.condT rfl ?_
      refine T.seq ?_
      refine T.region ?_
      refine SL.y (op_assign (v := .int .i64 ((6 : Nat) : Int)) rfl) rfl rfl ?_
      refine SL.nil ?_
      -- ret
      refine T.retM1 [RdO b (.slice A bs.length cp) e] rfl (ResIs.tmp rfl) (List.Perm.refl _) ?_
      exact ⟨hX1, by rw [endE, if_pos ⟨he, fun h => by rw [h] at h0; simp at h0⟩]; rfl, rfl⟩
  · rw [decide_eq_false he]
    refine SL.y (op_move rfl) rfl rfl ?_
    first | refine SL.skip rfl rfl ?_ | refine SL.y (op_move rfl) rfl rfl ?_
    first | refine SL.skip rfl rfl ?_ | refine SL.y (op_nil rfl) rfl rfl ?_ | refine SL.y (op_nilFn rfl) rfl rfl ?_
    first | refine SL.skip rfl rfl ?_ | refine SL.y (op_fieldAddr fa135_0 rfl) rfl rfl ?_
    first | refine SL.skip rfl rfl ?_ | refine SL.y (op_load ty77 rfl (by repeat (first | exact AtO.here | apply AtO.there)) rfl) rfl rfl ?_ | refine SL.y (op_loadX ty77 rfl (by assumption) rfl) rfl rfl ?_
    first | refine SL.skip rfl rfl ?_ | refine SL.y (op_lenS Tryd.underlying77 rfl) rfl rfl ?_
    first | refine SL.skip rfl rfl ?_ | refine SL.y (op_gtrT rfl rfl (by omega)) rfl rfl ?_ | refine SL.y (op_gtrF rfl rfl (by omega)) rfl rfl ?_ | refine SL.y (op_gtr rfl rfl) rfl rfl ?_
    first | refine SL.y (op_pickT rfl rfl) rfl rfl ?_ | refine SL.y (op_pickF rfl rfl) rfl rfl ?_ | refine SL.y (op_pickB rfl rfl rfl) rfl rfl ?_
    refine SL.nil ?_
    refine T.condF rfl ?_
    refine T.skip ?_
    refine T.seq ?_
    refine T.region ?_
    refine SL.y (op_move rfl) rfl rfl ?_
    -- op
    refine SL.x (op_callM en69 (vs := [_]) rfl (rerr_spec) rfl) rfl rfl ?_
    rintro _ _ X2 ⟨_, rfl, hX2, rfl, rfl⟩
    refine SL.y (op_assign rfl) rfl rfl ?_
    refine SL.nil ?_
    -- ret
    refine T.retM1 [RdO b (.slice A bs.length cp) e] rfl (ResIs.tmp rfl) (List.Perm.refl _) ?_
    exact ⟨hX1.trans' hX2, by rw [endE, if_neg (fun h => he h.1)], rfl⟩
end
theorem newR_spec {X : PMap} {v : Value} {bs : List Nat} (h : BytesR X v bs) (hl : bs.length < 1000000) (hb : ∀ b ∈ bs, b < 256) : SpecO Tryd.prog 67 [v] X fun u own1 X' => ∃ b sv, u = .pointer (some ⟨b, 0, none⟩) ∧ own1 = [RdO b sv 0] ∧ CutR X' sv bs := by
  obtain ⟨A, cp, rfl⟩ := h.form
  refine SpecO.enter Tryd.func67 rfl Tryd.ntmps67 rfl ?_
  intro w0 hw0
  refine T.seq ?_
  refine T.region ?_
  refine SL.y (op_assign rfl) rfl rfl ?_
  refine SL.nil ?_
  refine T.seq ?_
  refine T.region ?_
  refine SL.y (op_move rfl) rfl rfl ?_
  -- op
  refine SL.x (op_callO en87 (vs := [_]) rfl (bclone_spec h hl)) rfl rfl ?_
  rintro u _ X1 ⟨G, rfl, hX1, hG⟩
  refine SL.perm (own' := [] ++ G) (by simp) ?_
  refine T.pubGAt (own0 := []) hG ?_
  intro X2 hX2 hS
  obtain ⟨Au, cu, hu, hcu⟩ : ∃ A cp, u = .slice A bs.length cp ∧ bs.length ≤ cp := by
    rcases hG with ⟨h1, _, rfl, _⟩ | ⟨bg, cg, rfl, _, hcg, _⟩
    · rw [h1]; exact ⟨_, _, rfl, by omega⟩
    · exact ⟨_, _, rfl, hcg⟩
  subst hu
  refine SL.y (op_build st135 (qs := [(0, _)]) rfl rfl) rfl rfl ?_
  refine SL.x (op_box rfl) rfl rfl ?_
  rintro _ _ _ ⟨B6, rfl, rfl, rfl⟩
  refine SL.y (op_assign rfl) rfl rfl ?_
  refine SL.nil ?_
  -- ret
  refine T.retO1 rfl (ResIs.tmp rfl) ?_
  exact ⟨B6, _, rfl, rfl, BytesR.ofS hS, ⟨_, _, rfl, hcu⟩, hb⟩
end Go.Proofs.YtkmnlogacfkjmaaDoor
