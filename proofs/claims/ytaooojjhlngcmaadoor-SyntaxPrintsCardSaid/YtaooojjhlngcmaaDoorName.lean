/- Names: the words, and what is a name; the program's. -/
import Derived.Test.YtaooojjhlngcmaaDoorFacts
import Derived.Test.YtaooojjhlngcmaaDoorCopy
import Derived.Test.YtaooojjhlngcmaaDoorExR
namespace Go.Proofs.YtaooojjhlngcmaaDoor
section
set_option maxRecDepth 100000
theorem bs9 : ∃ i z, Tryd.prog.info? 9 = some i ∧ i.size = 1 ∧ i.zero = some z ∧ z.cells = ([.string ⟨#[]⟩] : List Value).toArray := bs_of (by kernel_rfl)
theorem en70 : Enters Tryd.prog 70 := enters_mk Tryd.func70 (by kernel_rfl) rfl
theorem en71 : Enters Tryd.prog 71 := enters_mk Tryd.func71 (by kernel_rfl) rfl
theorem en72 : Enters Tryd.prog 72 := enters_mk Tryd.func72 (by kernel_rfl) rfl
theorem en73 : Enters Tryd.prog 73 := enters_mk Tryd.func73 (by kernel_rfl) rfl
theorem en92 : Enters Tryd.prog 92 := enters_mk Tryd.func92 (by kernel_rfl) rfl
theorem ty107 : Ty Tryd.prog 107 false 1 := ⟨⟨_, Tryd.underlying107, rfl⟩, by kernel_rfl⟩
theorem ty9 : Ty Tryd.prog 9 false 1 := ⟨⟨_, Tryd.underlying9, rfl⟩, by kernel_rfl⟩
theorem z107 : Zero Tryd.prog 107 [.nilFunc] := ⟨zero_of (by kernel_rfl)⟩
end
open Go.RowKit
theorem letter_spec {X : PMap} (b : UInt8) : Spec Tryd.prog 72 [.int .u8 (b.toNat : Int)] X fun u _ => u = .bool (letB b) := by
  have hb : b.toNat < 256 := b.toNat_lt
  by_cases h1 : 97 ≤ b.toNat
  · by_cases h2 : b.toNat ≤ 122
    · refine Spec.enter Tryd.func72 rfl Tryd.ntmps72 rfl ?_
      intro w0 hw0
      refine T.seq ?_
      refine T.region ?_
      refine SL.y (op_assign rfl) rfl rfl ?_
      refine SL.nil ?_
      refine T.seq ?_
      refine T.region ?_
      refine SL.y (op_move rfl) rfl rfl ?_
      first | refine SL.y (op_geqT rfl rfl (by omega)) rfl rfl ?_ | refine SL.y (op_geqF rfl rfl (by omega)) rfl rfl ?_ | refine SL.y (op_geq rfl rfl) rfl rfl ?_
      refine SL.y (op_move rfl) rfl rfl ?_
      first | refine SL.skip rfl rfl ?_ | refine SL.y (op_move rfl) rfl rfl ?_
      first | refine SL.skip rfl rfl ?_ | refine SL.y (op_leqT rfl rfl (by omega)) rfl rfl ?_ | refine SL.y (op_leqF rfl rfl (by omega)) rfl rfl ?_ | refine SL.y (op_leq rfl rfl) rfl rfl ?_
      first | refine SL.y (op_pickT rfl rfl) rfl rfl ?_ | refine SL.y (op_pickF rfl rfl) rfl rfl ?_ | refine SL.y (op_pickB rfl rfl rfl) rfl rfl ?_
      refine SL.y (op_assign rfl) rfl rfl ?_
      refine SL.nil ?_
      -- ret
      refine T.ret1 rfl (ResIs.tmp rfl) ?_
      rw [letB, decide_eq_true ⟨h1, h2⟩]
    · refine Spec.enter Tryd.func72 rfl Tryd.ntmps72 rfl ?_
      intro w0 hw0
      refine T.seq ?_
      refine T.region ?_
      refine SL.y (op_assign rfl) rfl rfl ?_
      refine SL.nil ?_
      refine T.seq ?_
      refine T.region ?_
      refine SL.y (op_move rfl) rfl rfl ?_
      first | refine SL.y (op_geqT rfl rfl (by omega)) rfl rfl ?_ | refine SL.y (op_geqF rfl rfl (by omega)) rfl rfl ?_ | refine SL.y (op_geq rfl rfl) rfl rfl ?_
      refine SL.y (op_move rfl) rfl rfl ?_
      first | refine SL.skip rfl rfl ?_ | refine SL.y (op_move rfl) rfl rfl ?_
      first | refine SL.skip rfl rfl ?_ | refine SL.y (op_leqT rfl rfl (by omega)) rfl rfl ?_ | refine SL.y (op_leqF rfl rfl (by omega)) rfl rfl ?_ | refine SL.y (op_leq rfl rfl) rfl rfl ?_
      first | refine SL.y (op_pickT rfl rfl) rfl rfl ?_ | refine SL.y (op_pickF rfl rfl) rfl rfl ?_ | refine SL.y (op_pickB rfl rfl rfl) rfl rfl ?_
      refine SL.y (op_assign rfl) rfl rfl ?_
      refine SL.nil ?_
      -- ret
      refine T.ret1 rfl (ResIs.tmp rfl) ?_
      rw [letB, decide_eq_false fun h => h2 h.2]
  · refine Spec.enter Tryd.func72 rfl Tryd.ntmps72 rfl ?_
    intro w0 hw0
    refine T.seq ?_
    refine T.region ?_
    refine SL.y (op_assign rfl) rfl rfl ?_
    refine SL.nil ?_
    refine T.seq ?_
    refine T.region ?_
    refine SL.y (op_move rfl) rfl rfl ?_
    first | refine SL.y (op_geqT rfl rfl (by omega)) rfl rfl ?_ | refine SL.y (op_geqF rfl rfl (by omega)) rfl rfl ?_ | refine SL.y (op_geq rfl rfl) rfl rfl ?_
    refine SL.y (op_move rfl) rfl rfl ?_
    first | refine SL.skip rfl rfl ?_ | refine SL.y (op_move rfl) rfl rfl ?_
    first | refine SL.skip rfl rfl ?_ | refine SL.y (op_leqT rfl rfl (by omega)) rfl rfl ?_ | refine SL.y (op_leqF rfl rfl (by omega)) rfl rfl ?_ | refine SL.y (op_leq rfl rfl) rfl rfl ?_
    first | refine SL.y (op_pickT rfl rfl) rfl rfl ?_ | refine SL.y (op_pickF rfl rfl) rfl rfl ?_ | refine SL.y (op_pickB rfl rfl rfl) rfl rfl ?_
    refine SL.y (op_assign rfl) rfl rfl ?_
    refine SL.nil ?_
    -- ret
    refine T.ret1 rfl (ResIs.tmp rfl) ?_
    rw [letB, decide_eq_false fun h => h1 h.1]
theorem inner_spec {X : PMap} {B : Nat} (hB : Blk X B [.func (.func 72) #[] #[]]) (b : UInt8) : Spec Tryd.prog 73 [.int .u8 (b.toNat : Int), .pointer (some ⟨B, 0, none⟩)] X fun u _ => u = .bool (innB b) := by
  have hb : b.toNat < 256 := b.toNat_lt
  by_cases h1 : 97 ≤ b.toNat ∧ b.toNat ≤ 122
  · refine Spec.enter Tryd.func73 rfl Tryd.ntmps73 rfl ?_
    intro w0 hw0
    refine T.seq ?_
    refine T.region ?_
    refine SL.y (op_assign rfl) rfl rfl ?_
    refine SL.nil ?_
    refine T.seq ?_
    refine T.region ?_
    -- to 4: op
    refine SL.y (op_loadX ty107 rfl hB rfl) rfl rfl ?_
    refine SL.y (op_move rfl) rfl rfl ?_
    -- op
    refine SL.x (op_call en72 rfl (vs := [_]) rfl (letter_spec b)) rfl rfl ?_
    rintro _ _ X2 ⟨rfl, hX2, rfl⟩
    rw [show letB b = true from decide_eq_true h1]
    refine SL.y (op_move rfl) rfl rfl ?_
    first | refine SL.skip rfl rfl ?_ | refine SL.y (op_move rfl) rfl rfl ?_
    first | refine SL.skip rfl rfl ?_ | refine SL.y (op_geqT rfl rfl (by omega)) rfl rfl ?_ | refine SL.y (op_geqF rfl rfl (by omega)) rfl rfl ?_ | refine SL.y (op_geq rfl rfl) rfl rfl ?_
    first | refine SL.skip rfl rfl ?_ | refine SL.y (op_move rfl) rfl rfl ?_
    first | refine SL.skip rfl rfl ?_ | refine SL.y (op_move rfl) rfl rfl ?_
    first | refine SL.skip rfl rfl ?_ | refine SL.y (op_leqT rfl rfl (by omega)) rfl rfl ?_ | refine SL.y (op_leqF rfl rfl (by omega)) rfl rfl ?_ | refine SL.y (op_leq rfl rfl) rfl rfl ?_
    first | refine SL.skip rfl rfl ?_ | refine SL.y (op_pickT rfl rfl) rfl rfl ?_ | refine SL.y (op_pickF rfl rfl) rfl rfl ?_ | refine SL.y (op_pickB rfl rfl rfl) rfl rfl ?_
    first | refine SL.y (op_pickT rfl rfl) rfl rfl ?_ | refine SL.y (op_pickF rfl rfl) rfl rfl ?_ | refine SL.y (op_pickB rfl rfl rfl) rfl rfl ?_
    refine SL.y (op_move rfl) rfl rfl ?_
    first | refine SL.skip rfl rfl ?_ | refine SL.y (op_move rfl) rfl rfl ?_
    first | refine SL.skip rfl rfl ?_ | refine SL.y (op_eqlT rfl rfl (by omega)) rfl rfl ?_ | refine SL.y (op_eqlF rfl rfl (by omega)) rfl rfl ?_ | refine SL.y (op_eql rfl rfl) rfl rfl ?_
    first | refine SL.y (op_pickT rfl rfl) rfl rfl ?_ | refine SL.y (op_pickF rfl rfl) rfl rfl ?_ | refine SL.y (op_pickB rfl rfl rfl) rfl rfl ?_
    refine SL.y (op_assign rfl) rfl rfl ?_
    refine SL.nil ?_
    -- ret
    refine T.ret1 rfl (ResIs.tmp rfl) ?_
    rw [innB, decide_eq_true (.inl h1)]
  · by_cases h2 : 48 ≤ b.toNat
    · by_cases h3 : b.toNat ≤ 57
      · refine Spec.enter Tryd.func73 rfl Tryd.ntmps73 rfl ?_
        intro w0 hw0
        refine T.seq ?_
        refine T.region ?_
        refine SL.y (op_assign rfl) rfl rfl ?_
        refine SL.nil ?_
        refine T.seq ?_
        refine T.region ?_
        -- to 4: op
        refine SL.y (op_loadX ty107 rfl hB rfl) rfl rfl ?_
        refine SL.y (op_move rfl) rfl rfl ?_
        -- op
        refine SL.x (op_call en72 rfl (vs := [_]) rfl (letter_spec b)) rfl rfl ?_
        rintro _ _ X2 ⟨rfl, hX2, rfl⟩
        rw [show letB b = false from decide_eq_false h1]
        refine SL.y (op_move rfl) rfl rfl ?_
        first | refine SL.skip rfl rfl ?_ | refine SL.y (op_move rfl) rfl rfl ?_
        first | refine SL.skip rfl rfl ?_ | refine SL.y (op_geqT rfl rfl (by omega)) rfl rfl ?_ | refine SL.y (op_geqF rfl rfl (by omega)) rfl rfl ?_ | refine SL.y (op_geq rfl rfl) rfl rfl ?_
        first | refine SL.skip rfl rfl ?_ | refine SL.y (op_move rfl) rfl rfl ?_
        first | refine SL.skip rfl rfl ?_ | refine SL.y (op_move rfl) rfl rfl ?_
        first | refine SL.skip rfl rfl ?_ | refine SL.y (op_leqT rfl rfl (by omega)) rfl rfl ?_ | refine SL.y (op_leqF rfl rfl (by omega)) rfl rfl ?_ | refine SL.y (op_leq rfl rfl) rfl rfl ?_
        first | refine SL.skip rfl rfl ?_ | refine SL.y (op_pickT rfl rfl) rfl rfl ?_ | refine SL.y (op_pickF rfl rfl) rfl rfl ?_ | refine SL.y (op_pickB rfl rfl rfl) rfl rfl ?_
        first | refine SL.y (op_pickT rfl rfl) rfl rfl ?_ | refine SL.y (op_pickF rfl rfl) rfl rfl ?_ | refine SL.y (op_pickB rfl rfl rfl) rfl rfl ?_
        refine SL.y (op_move rfl) rfl rfl ?_
        first | refine SL.skip rfl rfl ?_ | refine SL.y (op_move rfl) rfl rfl ?_
        first | refine SL.skip rfl rfl ?_ | refine SL.y (op_eqlT rfl rfl (by omega)) rfl rfl ?_ | refine SL.y (op_eqlF rfl rfl (by omega)) rfl rfl ?_ | refine SL.y (op_eql rfl rfl) rfl rfl ?_
        first | refine SL.y (op_pickT rfl rfl) rfl rfl ?_ | refine SL.y (op_pickF rfl rfl) rfl rfl ?_ | refine SL.y (op_pickB rfl rfl rfl) rfl rfl ?_
        refine SL.y (op_assign rfl) rfl rfl ?_
        refine SL.nil ?_
        -- ret
        refine T.ret1 rfl (ResIs.tmp rfl) ?_
        rw [innB, decide_eq_true (.inr (.inl ⟨h2, h3⟩))]
      · by_cases h4 : b.toNat = 95
        · refine Spec.enter Tryd.func73 rfl Tryd.ntmps73 rfl ?_
          intro w0 hw0
          refine T.seq ?_
          refine T.region ?_
          refine SL.y (op_assign rfl) rfl rfl ?_
          refine SL.nil ?_
          refine T.seq ?_
          refine T.region ?_
          -- to 4: op
          refine SL.y (op_loadX ty107 rfl hB rfl) rfl rfl ?_
          refine SL.y (op_move rfl) rfl rfl ?_
          -- op
          refine SL.x (op_call en72 rfl (vs := [_]) rfl (letter_spec b)) rfl rfl ?_
          rintro _ _ X2 ⟨rfl, hX2, rfl⟩
          rw [show letB b = false from decide_eq_false h1]
          refine SL.y (op_move rfl) rfl rfl ?_
          first | refine SL.skip rfl rfl ?_ | refine SL.y (op_move rfl) rfl rfl ?_
          first | refine SL.skip rfl rfl ?_ | refine SL.y (op_geqT rfl rfl (by omega)) rfl rfl ?_ | refine SL.y (op_geqF rfl rfl (by omega)) rfl rfl ?_ | refine SL.y (op_geq rfl rfl) rfl rfl ?_
          first | refine SL.skip rfl rfl ?_ | refine SL.y (op_move rfl) rfl rfl ?_
          first | refine SL.skip rfl rfl ?_ | refine SL.y (op_move rfl) rfl rfl ?_
          first | refine SL.skip rfl rfl ?_ | refine SL.y (op_leqT rfl rfl (by omega)) rfl rfl ?_ | refine SL.y (op_leqF rfl rfl (by omega)) rfl rfl ?_ | refine SL.y (op_leq rfl rfl) rfl rfl ?_
          first | refine SL.skip rfl rfl ?_ | refine SL.y (op_pickT rfl rfl) rfl rfl ?_ | refine SL.y (op_pickF rfl rfl) rfl rfl ?_ | refine SL.y (op_pickB rfl rfl rfl) rfl rfl ?_
          first | refine SL.y (op_pickT rfl rfl) rfl rfl ?_ | refine SL.y (op_pickF rfl rfl) rfl rfl ?_ | refine SL.y (op_pickB rfl rfl rfl) rfl rfl ?_
          refine SL.y (op_move rfl) rfl rfl ?_
          first | refine SL.skip rfl rfl ?_ | refine SL.y (op_move rfl) rfl rfl ?_
          first | refine SL.skip rfl rfl ?_ | refine SL.y (op_eqlT rfl rfl (by omega)) rfl rfl ?_ | refine SL.y (op_eqlF rfl rfl (by omega)) rfl rfl ?_ | refine SL.y (op_eql rfl rfl) rfl rfl ?_
          first | refine SL.y (op_pickT rfl rfl) rfl rfl ?_ | refine SL.y (op_pickF rfl rfl) rfl rfl ?_ | refine SL.y (op_pickB rfl rfl rfl) rfl rfl ?_
          refine SL.y (op_assign rfl) rfl rfl ?_
          refine SL.nil ?_
          -- ret
          refine T.ret1 rfl (ResIs.tmp rfl) ?_
          rw [innB, decide_eq_true (.inr (.inr h4))]
        · refine Spec.enter Tryd.func73 rfl Tryd.ntmps73 rfl ?_
          intro w0 hw0
          refine T.seq ?_
          refine T.region ?_
          refine SL.y (op_assign rfl) rfl rfl ?_
          refine SL.nil ?_
          refine T.seq ?_
          refine T.region ?_
          -- to 4: op
          refine SL.y (op_loadX ty107 rfl hB rfl) rfl rfl ?_
          refine SL.y (op_move rfl) rfl rfl ?_
          -- op
          refine SL.x (op_call en72 rfl (vs := [_]) rfl (letter_spec b)) rfl rfl ?_
          rintro _ _ X2 ⟨rfl, hX2, rfl⟩
          rw [show letB b = false from decide_eq_false h1]
          refine SL.y (op_move rfl) rfl rfl ?_
          first | refine SL.skip rfl rfl ?_ | refine SL.y (op_move rfl) rfl rfl ?_
          first | refine SL.skip rfl rfl ?_ | refine SL.y (op_geqT rfl rfl (by omega)) rfl rfl ?_ | refine SL.y (op_geqF rfl rfl (by omega)) rfl rfl ?_ | refine SL.y (op_geq rfl rfl) rfl rfl ?_
          first | refine SL.skip rfl rfl ?_ | refine SL.y (op_move rfl) rfl rfl ?_
          first | refine SL.skip rfl rfl ?_ | refine SL.y (op_move rfl) rfl rfl ?_
          first | refine SL.skip rfl rfl ?_ | refine SL.y (op_leqT rfl rfl (by omega)) rfl rfl ?_ | refine SL.y (op_leqF rfl rfl (by omega)) rfl rfl ?_ | refine SL.y (op_leq rfl rfl) rfl rfl ?_
          first | refine SL.skip rfl rfl ?_ | refine SL.y (op_pickT rfl rfl) rfl rfl ?_ | refine SL.y (op_pickF rfl rfl) rfl rfl ?_ | refine SL.y (op_pickB rfl rfl rfl) rfl rfl ?_
          first | refine SL.y (op_pickT rfl rfl) rfl rfl ?_ | refine SL.y (op_pickF rfl rfl) rfl rfl ?_ | refine SL.y (op_pickB rfl rfl rfl) rfl rfl ?_
          refine SL.y (op_move rfl) rfl rfl ?_
          first | refine SL.skip rfl rfl ?_ | refine SL.y (op_move rfl) rfl rfl ?_
          first | refine SL.skip rfl rfl ?_ | refine SL.y (op_eqlT rfl rfl (by omega)) rfl rfl ?_ | refine SL.y (op_eqlF rfl rfl (by omega)) rfl rfl ?_ | refine SL.y (op_eql rfl rfl) rfl rfl ?_
          first | refine SL.y (op_pickT rfl rfl) rfl rfl ?_ | refine SL.y (op_pickF rfl rfl) rfl rfl ?_ | refine SL.y (op_pickB rfl rfl rfl) rfl rfl ?_
          refine SL.y (op_assign rfl) rfl rfl ?_
          refine SL.nil ?_
          -- ret
          refine T.ret1 rfl (ResIs.tmp rfl) ?_
          rw [innB, decide_eq_false (by omega)]
    · refine Spec.enter Tryd.func73 rfl Tryd.ntmps73 rfl ?_
      intro w0 hw0
      refine T.seq ?_
      refine T.region ?_
      refine SL.y (op_assign rfl) rfl rfl ?_
      refine SL.nil ?_
      refine T.seq ?_
      refine T.region ?_
      -- to 4: op
      refine SL.y (op_loadX ty107 rfl hB rfl) rfl rfl ?_
      refine SL.y (op_move rfl) rfl rfl ?_
      -- op
      refine SL.x (op_call en72 rfl (vs := [_]) rfl (letter_spec b)) rfl rfl ?_
      rintro _ _ X2 ⟨rfl, hX2, rfl⟩
      rw [show letB b = false from decide_eq_false h1]
      refine SL.y (op_move rfl) rfl rfl ?_
      first | refine SL.skip rfl rfl ?_ | refine SL.y (op_move rfl) rfl rfl ?_
      first | refine SL.skip rfl rfl ?_ | refine SL.y (op_geqT rfl rfl (by omega)) rfl rfl ?_ | refine SL.y (op_geqF rfl rfl (by omega)) rfl rfl ?_ | refine SL.y (op_geq rfl rfl) rfl rfl ?_
      first | refine SL.skip rfl rfl ?_ | refine SL.y (op_move rfl) rfl rfl ?_
      first | refine SL.skip rfl rfl ?_ | refine SL.y (op_move rfl) rfl rfl ?_
      first | refine SL.skip rfl rfl ?_ | refine SL.y (op_leqT rfl rfl (by omega)) rfl rfl ?_ | refine SL.y (op_leqF rfl rfl (by omega)) rfl rfl ?_ | refine SL.y (op_leq rfl rfl) rfl rfl ?_
      first | refine SL.skip rfl rfl ?_ | refine SL.y (op_pickT rfl rfl) rfl rfl ?_ | refine SL.y (op_pickF rfl rfl) rfl rfl ?_ | refine SL.y (op_pickB rfl rfl rfl) rfl rfl ?_
      first | refine SL.y (op_pickT rfl rfl) rfl rfl ?_ | refine SL.y (op_pickF rfl rfl) rfl rfl ?_ | refine SL.y (op_pickB rfl rfl rfl) rfl rfl ?_
      refine SL.y (op_move rfl) rfl rfl ?_
      first | refine SL.skip rfl rfl ?_ | refine SL.y (op_move rfl) rfl rfl ?_
      first | refine SL.skip rfl rfl ?_ | refine SL.y (op_eqlT rfl rfl (by omega)) rfl rfl ?_ | refine SL.y (op_eqlF rfl rfl (by omega)) rfl rfl ?_ | refine SL.y (op_eql rfl rfl) rfl rfl ?_
      first | refine SL.y (op_pickT rfl rfl) rfl rfl ?_ | refine SL.y (op_pickF rfl rfl) rfl rfl ?_ | refine SL.y (op_pickB rfl rfl rfl) rfl rfl ?_
      refine SL.y (op_assign rfl) rfl rfl ?_
      refine SL.nil ?_
      -- ret
      refine T.ret1 rfl (ResIs.tmp rfl) ?_
      rw [innB, decide_eq_false (by omega)]
theorem keyws_spec {X : PMap} : Spec Tryd.prog 71 [] X fun u X' => RowR strC X' u keyws := by
  refine Spec.enter Tryd.func71 rfl Tryd.ntmps71 rfl ?_
  intro w0 hw0
  refine T.seq ?_
  refine T.region ?_
  refine SL.y (op_assign rfl) rfl rfl ?_
  refine SL.nil ?_
  refine T.seq ?_
  refine T.region ?_
  refine SL.x (op_buildSlice Tryd.underlying24 bs9 (qs := [(0, _), (1, _), (2, _), (3, _), (4, _), (5, _), (6, _), (7, _), (8, _), (9, _), (10, _), (11, _), (12, _), (13, _), (14, _), (15, _), (16, _), (17, _), (18, _), (19, _)]) rfl rfl rfl rfl rfl) rfl rfl ?_
  rintro _ _ _ ⟨B1, rfl, rfl, rfl⟩
  refine SL.y (op_assign rfl) rfl rfl ?_
  refine SL.nil ?_
  -- ret
  refine T.pub B1 (by repeat (first | exact AtO.here | apply AtO.there)) ?_
  intro X1 hX1 hB1 _
  refine T.ret1 rfl (ResIs.tmp rfl) ?_
  exact .inr ⟨by decide, _, _, [], rfl, hB1, by decide, by decide⟩
theorem sindex_spec {X : PMap} {v : Value} {l : List ByteArray} {s : ByteArray} (h : RowR strC X v l) : Spec Tryd.prog 92 [v, .string s] X fun u _ => ∃ k : Int, u = .int .i64 k ∧ (0 ≤ k ↔ s ∈ l) := by
  obtain ⟨A, cp, rfl⟩ := h.form
  have hmx : l = [] ∨ l.length ≤ maxLen := by
    rcases Nat.eq_zero_or_pos l.length with h0 | h0
    · exact .inl (List.eq_nil_of_length_eq_zero h0)
    · have := h.cap h0; exact .inr (by omega)
  have hmx : l.length ≤ maxLen := by
    rcases hmx with rfl | h
    · simp
    · exact h
  have hmv : maxLen = 9223372036854775807 := rfl
  refine Spec.enter Tryd.func92 rfl Tryd.ntmps92 rfl ?_
  intro w0 hw0
  refine T.seq ?_
  refine T.region ?_
  refine SL.y (op_assign (v := .int .i64 ((0 : Nat) : Int)) rfl) rfl rfl ?_
  refine SL.nil ?_
  refine T.seq ?_
  refine T.seq ?_
  refine T.region ?_
  refine SL.y (op_move rfl) rfl rfl ?_
  refine SL.y (op_lenS Tryd.underlying24 rfl) rfl rfl ?_
  refine SL.y (op_move (v := .int .i64 ((0 : Nat) : Int)) rfl) rfl rfl ?_
  refine SL.nil ?_
  refine T.block ?_
  -- loop live [0, 1, 4, 7, 8]
  refine T.loopW (fun m env own X' => ∃ i : Nat, m = l.length - i ∧ i ≤ l.length ∧ X.le X' ∧ (∀ q x, q < i → l[q]? = some x → x ≠ s) ∧ env = [(0, .slice A l.length cp), (1, .string s), (7, .int .i64 (l.length : Int)), (8, .int .i64 (i : Int))] ∧ own = []) l.length ⟨0, by simp, by omega, PMap.le_refl _, fun q x hq => absurd hq (by omega), rfl, rfl⟩ (by repeat (first | exact Sub.nil | refine Sub.cons rfl ?_)) ?_
  rintro m _ _ X1 ⟨i, rfl, hi, hX1, hne, rfl, rfl⟩
  rcases Nat.lt_or_ge i l.length with hil | hil
  · obtain ⟨x, hx⟩ : ∃ x, l[i]? = some x := ⟨_, List.getElem?_eq_getElem hil⟩
    obtain ⟨b, pre, rfl, hB⟩ := h.blk (by omega)
    refine T.seq ?_
    refine T.region ?_
    first | refine SL.y (op_lssT rfl rfl (by omega)) rfl rfl ?_ | refine SL.y (op_lssF rfl rfl (by omega)) rfl rfl ?_ | refine SL.y (op_lss rfl rfl) rfl rfl ?_
    refine SL.nil ?_
    refine T.seq ?_
    refine T.condT rfl ?_
    refine T.skip ?_
    refine T.seq ?_
    refine T.block ?_
    refine T.seq ?_
    refine T.region ?_
    refine SL.y (op_move rfl) rfl rfl ?_
    refine SL.y (op_assign rfl) rfl rfl ?_
    refine SL.nil ?_
    refine T.seq ?_
    refine T.region ?_
    refine SL.y (op_move rfl) rfl rfl ?_
    refine SL.y (op_move rfl) rfl rfl ?_
    refine SL.y (op_move rfl) rfl rfl ?_
    first | refine SL.y (op_indexN Tryd.underlying24 ty9 rfl rfl (by omega)) rfl rfl ?_ | refine SL.y (op_index Tryd.underlying24 ty9 rfl rfl (by omega) (by omega)) rfl rfl ?_
    -- to 15: op
    refine SL.y (op_loadX ty9 rfl (hB.mono hX1) (str_read hx (by omega))) rfl rfl ?_
    refine SL.y (op_eqlStrD rfl rfl) rfl rfl ?_
    refine SL.nil ?_
    -- cond
    by_cases hc : s = x
    · rw [decide_eq_true hc]
      refine T.condT rfl ?_
      refine T.seq ?_
      refine T.region ?_
      refine SL.y (op_move rfl) rfl rfl ?_
      refine SL.y (op_assign rfl) rfl rfl ?_
      refine SL.nil ?_
      -- ret
      refine T.ret1 rfl (ResIs.tmp rfl) ?_
      exact ⟨_, rfl, fun _ => hc ▸ List.mem_of_getElem? hx, fun _ => by omega⟩
    · rw [decide_eq_false hc]
      refine T.condF rfl ?_
      refine T.skip ?_
      refine T.blk ?_
      refine T.region ?_
      first | refine SL.y (op_addN (q := 1) rfl rfl (by omega)) rfl rfl ?_ | refine SL.y (op_add rfl rfl (by omega) (by omega)) rfl rfl ?_ | refine SL.y (op_addW rfl rfl) rfl rfl ?_
      refine SL.y (op_move rfl) rfl rfl ?_
      refine SL.nil ?_
      -- cut
      have hne2 : ∀ (q : Nat) (y : ByteArray), q < i + 1 → l[q]? = some y → y ≠ s := fun q y hq hy => by
        rcases Nat.lt_or_ge q i with h1 | h1
        · exact hne q y h1 hy
        · obtain rfl : q = i := by omega
          rw [hx] at hy; cases hy; exact fun h => hc h.symm
      exact T.backW (l.length - (i + 1)) (by omega) ⟨i + 1, rfl, by omega, hX1, hne2, rfl, rfl⟩ (by repeat (first | exact Sub.nil | refine Sub.cons rfl ?_))
  · refine T.seq ?_
    refine T.region ?_
    first | refine SL.y (op_lssT rfl rfl (by omega)) rfl rfl ?_ | refine SL.y (op_lssF rfl rfl (by omega)) rfl rfl ?_ | refine SL.y (op_lss rfl rfl) rfl rfl ?_
    refine SL.nil ?_
    refine T.seq ?_
    refine T.condF rfl ?_
    refine T.exit (T.exitCode (T.exitCut (T.exitBlk ?_)))
    refine T.seq ?_
    refine T.region ?_
    refine SL.y (op_assign rfl) rfl rfl ?_
    refine SL.nil ?_
    -- ret
    refine T.ret1 rfl (ResIs.tmp rfl) ?_
    refine ⟨_, rfl, fun h => absurd h (by omega), fun hm => ?_⟩
    obtain ⟨q, hq⟩ := List.mem_iff_getElem?.1 hm
    have h1 := (List.getElem?_eq_some_iff.1 hq).1
    exact absurd rfl (hne q s (by omega) hq)
theorem scontains_spec {X : PMap} {v : Value} {l : List ByteArray} {s : ByteArray} (h : RowR strC X v l) : Spec Tryd.prog 70 [v, .string s] X fun u _ => u = .bool (decide (s ∈ l)) := by
  obtain ⟨A, cp, rfl⟩ := h.form
  refine Spec.enter Tryd.func70 rfl Tryd.ntmps70 rfl ?_
  intro w0 hw0
  refine T.seq ?_
  refine T.region ?_
  refine SL.y (op_assign rfl) rfl rfl ?_
  refine SL.nil ?_
  refine T.seq ?_
  refine T.region ?_
  refine SL.y (op_move rfl) rfl rfl ?_
  refine SL.y (op_move rfl) rfl rfl ?_
  -- op
  refine SL.x (op_callF en92 (vs := [_, _]) rfl (sindex_spec h)) rfl rfl ?_
  rintro _ _ X1 ⟨rfl, hX1, k, rfl, hk⟩
  -- to 8: op
  refine SL.y (op_geq rfl rfl) rfl rfl ?_
  refine SL.y (op_assign rfl) rfl rfl ?_
  refine SL.nil ?_
  -- ret
  refine T.ret1 rfl (ResIs.tmp rfl) ?_
  simp only [hk]
theorem nvalid_spec {X : PMap} {s : ByteArray} : Spec Tryd.prog 42 [.string s] X fun u _ => u = .bool (decide (validS s)) := by
  by_cases h1 : s.size = 0
  · refine Spec.enter Tryd.func42 rfl Tryd.ntmps42 rfl ?_
    intro w0 hw0
    refine T.seq ?_
    refine T.region ?_
    refine SL.y (op_assign rfl) rfl rfl ?_
    refine SL.nil ?_
    refine T.seq ?_
    refine T.seq ?_
    refine T.region ?_
    refine SL.y (op_move rfl) rfl rfl ?_
    refine SL.y (op_lenStr Tryd.underlying9 rfl) rfl rfl ?_
    first | refine SL.y (op_eqlT rfl rfl (by omega)) rfl rfl ?_ | refine SL.y (op_eqlF rfl rfl (by omega)) rfl rfl ?_ | refine SL.y (op_eql rfl rfl) rfl rfl ?_
    refine SL.y (op_move rfl) rfl rfl ?_
    first | refine SL.skip rfl rfl ?_ | refine SL.y (op_move rfl) rfl rfl ?_
    first | refine SL.skip rfl rfl ?_ | refine SL.y (op_lenStr Tryd.underlying9 rfl) rfl rfl ?_
    first | refine SL.skip rfl rfl ?_ | refine SL.y (op_gtrT rfl rfl (by omega)) rfl rfl ?_ | refine SL.y (op_gtrF rfl rfl (by omega)) rfl rfl ?_ | refine SL.y (op_gtr rfl rfl) rfl rfl ?_
    first | refine SL.y (op_pickT rfl rfl) rfl rfl ?_ | refine SL.y (op_pickF rfl rfl) rfl rfl ?_ | refine SL.y (op_pickB rfl rfl rfl) rfl rfl ?_
    refine SL.y (op_move rfl) rfl rfl ?_
    -- op
    refine SL.skip rfl rfl ?_
    first | refine SL.skip rfl rfl ?_ | refine SL.y (op_move rfl) rfl rfl ?_
    -- op
    refine SL.skip rfl rfl ?_
    first | refine SL.y (op_pickT rfl rfl) rfl rfl ?_ | refine SL.y (op_pickF rfl rfl) rfl rfl ?_ | refine SL.y (op_pickB rfl rfl rfl) rfl rfl ?_
    refine SL.nil ?_
    refine T.condT rfl ?_
    refine T.seq ?_
    refine T.region ?_
    refine SL.y (op_assign rfl) rfl rfl ?_
    refine SL.nil ?_
    -- ret
    refine T.ret1 rfl (ResIs.tmp rfl) ?_
    rw [decide_eq_false fun h => h.1 h1]
  by_cases h2 : 12 < s.size
  · refine Spec.enter Tryd.func42 rfl Tryd.ntmps42 rfl ?_
    intro w0 hw0
    refine T.seq ?_
    refine T.region ?_
    refine SL.y (op_assign rfl) rfl rfl ?_
    refine SL.nil ?_
    refine T.seq ?_
    refine T.seq ?_
    refine T.region ?_
    refine SL.y (op_move rfl) rfl rfl ?_
    refine SL.y (op_lenStr Tryd.underlying9 rfl) rfl rfl ?_
    first | refine SL.y (op_eqlT rfl rfl (by omega)) rfl rfl ?_ | refine SL.y (op_eqlF rfl rfl (by omega)) rfl rfl ?_ | refine SL.y (op_eql rfl rfl) rfl rfl ?_
    refine SL.y (op_move rfl) rfl rfl ?_
    first | refine SL.skip rfl rfl ?_ | refine SL.y (op_move rfl) rfl rfl ?_
    first | refine SL.skip rfl rfl ?_ | refine SL.y (op_lenStr Tryd.underlying9 rfl) rfl rfl ?_
    first | refine SL.skip rfl rfl ?_ | refine SL.y (op_gtrT rfl rfl (by omega)) rfl rfl ?_ | refine SL.y (op_gtrF rfl rfl (by omega)) rfl rfl ?_ | refine SL.y (op_gtr rfl rfl) rfl rfl ?_
    first | refine SL.y (op_pickT rfl rfl) rfl rfl ?_ | refine SL.y (op_pickF rfl rfl) rfl rfl ?_ | refine SL.y (op_pickB rfl rfl rfl) rfl rfl ?_
    refine SL.y (op_move rfl) rfl rfl ?_
    -- op
    refine SL.skip rfl rfl ?_
    first | refine SL.skip rfl rfl ?_ | refine SL.y (op_move rfl) rfl rfl ?_
    -- op
    refine SL.skip rfl rfl ?_
    first | refine SL.y (op_pickT rfl rfl) rfl rfl ?_ | refine SL.y (op_pickF rfl rfl) rfl rfl ?_ | refine SL.y (op_pickB rfl rfl rfl) rfl rfl ?_
    refine SL.nil ?_
    refine T.condT rfl ?_
    refine T.seq ?_
    refine T.region ?_
    refine SL.y (op_assign rfl) rfl rfl ?_
    refine SL.nil ?_
    -- ret
    refine T.ret1 rfl (ResIs.tmp rfl) ?_
    rw [decide_eq_false fun h => by have := h.2.1; omega]
  refine Spec.enter Tryd.func42 rfl Tryd.ntmps42 rfl ?_
  intro w0 hw0
  refine T.seq ?_
  refine T.region ?_
  refine SL.y (op_assign rfl) rfl rfl ?_
  refine SL.nil ?_
  refine T.seq ?_
  refine T.seq ?_
  refine T.region ?_
  refine SL.y (op_move rfl) rfl rfl ?_
  refine SL.y (op_lenStr Tryd.underlying9 rfl) rfl rfl ?_
  first | refine SL.y (op_eqlT rfl rfl (by omega)) rfl rfl ?_ | refine SL.y (op_eqlF rfl rfl (by omega)) rfl rfl ?_ | refine SL.y (op_eql rfl rfl) rfl rfl ?_
  refine SL.y (op_move rfl) rfl rfl ?_
  first | refine SL.skip rfl rfl ?_ | refine SL.y (op_move rfl) rfl rfl ?_
  first | refine SL.skip rfl rfl ?_ | refine SL.y (op_lenStr Tryd.underlying9 rfl) rfl rfl ?_
  first | refine SL.skip rfl rfl ?_ | refine SL.y (op_gtrT rfl rfl (by omega)) rfl rfl ?_ | refine SL.y (op_gtrF rfl rfl (by omega)) rfl rfl ?_ | refine SL.y (op_gtr rfl rfl) rfl rfl ?_
  first | refine SL.y (op_pickT rfl rfl) rfl rfl ?_ | refine SL.y (op_pickF rfl rfl) rfl rfl ?_ | refine SL.y (op_pickB rfl rfl rfl) rfl rfl ?_
  refine SL.y (op_move rfl) rfl rfl ?_
  -- op
  refine SL.x (op_callF en71 (vs := []) rfl (keyws_spec)) rfl rfl ?_
  rintro kv _ X1 ⟨rfl, hX1, hkv⟩
  obtain ⟨Ak, ck, rfl⟩ := hkv.form
  first | refine SL.skip rfl rfl ?_ | refine SL.y (op_move rfl) rfl rfl ?_
  -- op
  refine SL.x (op_callF en70 (vs := [_, _]) rfl (scontains_spec hkv)) rfl rfl ?_
  rintro _ _ X2 ⟨rfl, hX2, rfl⟩
  by_cases h3 : s ∈ keyws
  · rw [decide_eq_true h3]
    first | refine SL.y (op_pickT rfl rfl) rfl rfl ?_ | refine SL.y (op_pickF rfl rfl) rfl rfl ?_ | refine SL.y (op_pickB rfl rfl rfl) rfl rfl ?_
    refine SL.nil ?_
    refine T.condT rfl ?_
    refine T.seq ?_
    refine T.region ?_
    refine SL.y (op_assign rfl) rfl rfl ?_
    refine SL.nil ?_
    -- ret
    refine T.ret1 rfl (ResIs.tmp rfl) ?_
    rw [decide_eq_false fun h => h.2.2.1 h3]
  rw [decide_eq_false h3]
  first | refine SL.y (op_pickT rfl rfl) rfl rfl ?_ | refine SL.y (op_pickF rfl rfl) rfl rfl ?_ | refine SL.y (op_pickB rfl rfl rfl) rfl rfl ?_
  refine SL.nil ?_
  refine T.condF rfl ?_
  refine T.skip ?_
  refine T.seq ?_
  refine T.region ?_
  refine SL.x (op_alloc z107) rfl rfl ?_
  rintro _ _ _ ⟨B3, rfl, rfl, rfl⟩
  refine SL.x (op_store ty107 rfl rfl (by repeat (first | exact AtO.here | apply AtO.there)) rfl rfl rfl) rfl rfl ?_
  rintro _ _ _ ⟨rfl, rfl⟩
  refine SL.nil ?_
  refine T.seq ?_
  refine T.region ?_
  refine SL.y (op_makeFunc (vs := []) (us := [_]) rfl rfl) rfl rfl ?_
  refine SL.y (op_assign rfl) rfl rfl ?_
  refine SL.nil ?_
  refine T.seq ?_
  refine T.seq ?_
  refine T.region ?_
  refine SL.y (op_move rfl) rfl rfl ?_
  refine SL.y (op_lenStr Tryd.underlying9 rfl) rfl rfl ?_
  refine SL.y (op_move (v := .int .i64 ((0 : Nat) : Int)) rfl) rfl rfl ?_
  refine SL.nil ?_
  refine T.block ?_
  -- loop live [0, 2, 3, 4, 21, 22]
  refine T.pub B3 (by repeat (first | exact AtO.here | apply AtO.there)) ?_
  intro X3 hX3 hB3 _
  refine T.loopW (fun m env own X' => ∃ i : Nat, m = s.size - i ∧ i ≤ s.size ∧ X3.le X' ∧ (∀ q b, q < i → s[q]? = some b → innB b = true ∧ (q = 0 → letB b = true)) ∧ env = [(0, .string s), (3, .pointer (some ⟨B3, 0, none⟩)), (4, .func (.func 73) #[] #[.pointer (some ⟨B3, 0, none⟩)]), (21, .int .i64 (s.size : Int)), (22, .int .i64 (i : Int))] ∧ own = []) s.size ⟨0, by simp, by omega, PMap.le_refl _, fun q x hq => absurd hq (by omega), rfl, rfl⟩ (by repeat (first | exact Sub.nil | refine Sub.cons rfl ?_)) ?_
  rintro m _ _ X4 ⟨i, rfl, hi, hX4, hin, rfl, rfl⟩
  rcases Nat.lt_or_ge i s.size with hil | hil
  · obtain ⟨b, hb⟩ : ∃ b, s[i]? = some b := ⟨_, ByteArray.getElem?_lt' s i hil⟩
    have hgo : innB b = true → (i = 0 → letB b = true) → ∀ q b, q < i + 1 → s[q]? = some b → innB b = true ∧ (q = 0 → letB b = true) := fun g1 g2 q c hq hc => by
      rcases Nat.lt_or_ge q i with h | h
      · exact hin q c h hc
      · obtain rfl : q = i := by omega
        rw [hb] at hc; cases hc; exact ⟨g1, g2⟩
    have hB4 := hB3.mono hX4
    refine T.seq ?_
    refine T.region ?_
    first | refine SL.y (op_lssT rfl rfl (by omega)) rfl rfl ?_ | refine SL.y (op_lssF rfl rfl (by omega)) rfl rfl ?_ | refine SL.y (op_lss rfl rfl) rfl rfl ?_
    refine SL.nil ?_
    refine T.seq ?_
    refine T.condT rfl ?_
    refine T.skip ?_
    refine T.seq ?_
    refine T.block ?_
    refine T.seq ?_
    refine T.region ?_
    refine SL.y (op_move rfl) rfl rfl ?_
    refine SL.y (op_assign rfl) rfl rfl ?_
    refine SL.nil ?_
    refine T.seq ?_
    refine T.draw (by kernel_rfl) 18 [.t 0, .t 1, .t 2, .t 3, .r 4, .t 5, .t 6, .t 7, .t 8, .t 9, .t 10, .t 11, .t 12, .t 13, .r 14, .t 15, .t 16, .t 17] (by kernel_rfl) ?_
    refine SD.take rfl panicBody (op_move rfl) rfl rfl ?_
    refine SD.take rfl panicBody (op_move rfl) rfl rfl ?_
    refine SD.take rfl panicBody (op_move rfl) rfl rfl ?_
    -- to 28: op
    refine SD.take rfl panicBody (op_idxStr Tryd.underlying9 rfl rfl rfl hb) rfl rfl ?_
    -- op
    refine SD.run rfl (op_call en73 rfl (vs := [_]) rfl (inner_spec hB4 b)) rfl rfl ?_
    rintro _ _ X5 ⟨rfl, hX5, rfl⟩
    cases hib : innB b with
    | false =>
      refine SD.take rfl panicBody (op_not rfl) rfl rfl ?_
      refine SD.take rfl panicBody (op_move rfl) rfl rfl ?_
      first | refine SD.skip rfl panicBody rfl rfl ?_ | refine SD.take rfl panicBody (op_move rfl) rfl rfl ?_
      first | refine SD.skip rfl panicBody rfl rfl ?_ | refine SD.take rfl panicBody (op_eqlT rfl rfl (by omega)) rfl rfl ?_ | refine SD.take rfl panicBody (op_eqlF rfl rfl (by omega)) rfl rfl ?_ | refine SD.take rfl panicBody (op_eql rfl rfl) rfl rfl ?_
      first | refine SD.skip rfl panicBody rfl rfl ?_ | refine SD.take rfl panicBody (op_move rfl) rfl rfl ?_
      first | refine SD.skip rfl panicBody rfl rfl ?_ | refine SD.take rfl panicBody (op_load ty107 rfl (by repeat (first | exact AtO.here | apply AtO.there)) rfl) rfl rfl ?_ | refine SD.take rfl panicBody (op_loadX ty107 rfl (by assumption) rfl) rfl rfl ?_
      first | refine SD.skip rfl panicBody rfl rfl ?_ | refine SD.take rfl panicBody (op_move rfl) rfl rfl ?_
      first | refine SD.skip rfl panicBody rfl rfl ?_ | refine SD.take rfl panicBody (op_move rfl) rfl rfl ?_
      first | refine SD.skip rfl panicBody rfl rfl ?_ | refine SD.take rfl panicBody (op_idxStr Tryd.underlying9 rfl rfl rfl (by assumption)) rfl rfl ?_
      -- op
      refine SD.skipF rfl rfl rfl ?_
      first | refine SD.skip rfl panicBody rfl rfl ?_ | refine SD.take rfl panicBody (op_not rfl) rfl rfl ?_
      first | refine SD.skip rfl panicBody rfl rfl ?_ | refine SD.take rfl panicBody (op_pickT rfl rfl) rfl rfl ?_ | refine SD.take rfl panicBody (op_pickF rfl rfl) rfl rfl ?_ | refine SD.take rfl panicBody (op_pickB rfl rfl rfl) rfl rfl ?_
      first | refine SD.take rfl panicBody (op_pickT rfl rfl) rfl rfl ?_ | refine SD.take rfl panicBody (op_pickF rfl rfl) rfl rfl ?_ | refine SD.take rfl panicBody (op_pickB rfl rfl rfl) rfl rfl ?_
      refine SD.nil ?_
      show SL _ _ _ _ _ _ _ [] _ _ _
      refine SL.nil ?_
      refine T.condT rfl ?_
      refine T.seq ?_
      refine T.region ?_
      refine SL.y (op_assign rfl) rfl rfl ?_
      refine SL.nil ?_
      -- ret
      refine T.ret1 rfl (ResIs.tmp rfl) ?_
      rw [decide_eq_false fun h => by have := (h.2.2.2 i b (by omega) hb).1; rw [hib] at this; cases this]
    | true =>
      by_cases h0 : i = 0
      · subst h0
        refine SD.take rfl panicBody (op_not rfl) rfl rfl ?_
        refine SD.take rfl panicBody (op_move rfl) rfl rfl ?_
        first | refine SD.skip rfl panicBody rfl rfl ?_ | refine SD.take rfl panicBody (op_move rfl) rfl rfl ?_
        first | refine SD.skip rfl panicBody rfl rfl ?_ | refine SD.take rfl panicBody (op_eqlT rfl rfl (by omega)) rfl rfl ?_ | refine SD.take rfl panicBody (op_eqlF rfl rfl (by omega)) rfl rfl ?_ | refine SD.take rfl panicBody (op_eql rfl rfl) rfl rfl ?_
        first | refine SD.skip rfl panicBody rfl rfl ?_ | refine SD.take rfl panicBody (op_move rfl) rfl rfl ?_
        -- to 35: op
        refine SD.take rfl panicBody (op_loadX ty107 rfl hB4 rfl) rfl rfl ?_
        first | refine SD.skip rfl panicBody rfl rfl ?_ | refine SD.take rfl panicBody (op_move rfl) rfl rfl ?_
        first | refine SD.skip rfl panicBody rfl rfl ?_ | refine SD.take rfl panicBody (op_move rfl) rfl rfl ?_
        -- to 38: op
        refine SD.take rfl panicBody (op_idxStr Tryd.underlying9 rfl rfl rfl hb) rfl rfl ?_
        -- op
        refine SD.run rfl (op_call en72 rfl (vs := [_]) rfl (letter_spec b)) rfl rfl ?_
        rintro _ _ X6 ⟨rfl, hX6, rfl⟩
        cases hlb : letB b with
        | false =>
          first | refine SD.skip rfl panicBody rfl rfl ?_ | refine SD.take rfl panicBody (op_not rfl) rfl rfl ?_
          first | refine SD.skip rfl panicBody rfl rfl ?_ | refine SD.take rfl panicBody (op_pickT rfl rfl) rfl rfl ?_ | refine SD.take rfl panicBody (op_pickF rfl rfl) rfl rfl ?_ | refine SD.take rfl panicBody (op_pickB rfl rfl rfl) rfl rfl ?_
          first | refine SD.take rfl panicBody (op_pickT rfl rfl) rfl rfl ?_ | refine SD.take rfl panicBody (op_pickF rfl rfl) rfl rfl ?_ | refine SD.take rfl panicBody (op_pickB rfl rfl rfl) rfl rfl ?_
          refine SD.nil ?_
          show SL _ _ _ _ _ _ _ [] _ _ _
          refine SL.nil ?_
          refine T.condT rfl ?_
          refine T.seq ?_
          refine T.region ?_
          refine SL.y (op_assign rfl) rfl rfl ?_
          refine SL.nil ?_
          -- ret
          refine T.ret1 rfl (ResIs.tmp rfl) ?_
          rw [decide_eq_false fun h => by have := (h.2.2.2 0 b (by omega) hb).2 rfl; rw [hlb] at this; cases this]
        | true =>
          first | refine SD.skip rfl panicBody rfl rfl ?_ | refine SD.take rfl panicBody (op_not rfl) rfl rfl ?_
          first | refine SD.skip rfl panicBody rfl rfl ?_ | refine SD.take rfl panicBody (op_pickT rfl rfl) rfl rfl ?_ | refine SD.take rfl panicBody (op_pickF rfl rfl) rfl rfl ?_ | refine SD.take rfl panicBody (op_pickB rfl rfl rfl) rfl rfl ?_
          first | refine SD.take rfl panicBody (op_pickT rfl rfl) rfl rfl ?_ | refine SD.take rfl panicBody (op_pickF rfl rfl) rfl rfl ?_ | refine SD.take rfl panicBody (op_pickB rfl rfl rfl) rfl rfl ?_
          refine SD.nil ?_
          show SL _ _ _ _ _ _ _ [] _ _ _
          refine SL.nil ?_
          refine T.condF rfl ?_
          refine T.skip ?_
          refine T.blk ?_
          refine T.region ?_
          first | refine SL.y (op_addN (q := 1) rfl rfl (by omega)) rfl rfl ?_ | refine SL.y (op_add rfl rfl (by omega) (by omega)) rfl rfl ?_ | refine SL.y (op_addW rfl rfl) rfl rfl ?_
          refine SL.y (op_move rfl) rfl rfl ?_
          refine SL.nil ?_
          -- cut
          exact T.backW (s.size - (0 + 1)) (by omega) ⟨0 + 1, rfl, by omega, (hX4.trans' hX5).trans' hX6, hgo hib fun _ => hlb, rfl, rfl⟩ (by repeat (first | exact Sub.nil | refine Sub.cons rfl ?_))
      · refine SD.take rfl panicBody (op_not rfl) rfl rfl ?_
        refine SD.take rfl panicBody (op_move rfl) rfl rfl ?_
        first | refine SD.skip rfl panicBody rfl rfl ?_ | refine SD.take rfl panicBody (op_move rfl) rfl rfl ?_
        first | refine SD.skip rfl panicBody rfl rfl ?_ | refine SD.take rfl panicBody (op_eqlT rfl rfl (by omega)) rfl rfl ?_ | refine SD.take rfl panicBody (op_eqlF rfl rfl (by omega)) rfl rfl ?_ | refine SD.take rfl panicBody (op_eql rfl rfl) rfl rfl ?_
        first | refine SD.skip rfl panicBody rfl rfl ?_ | refine SD.take rfl panicBody (op_move rfl) rfl rfl ?_
        first | refine SD.skip rfl panicBody rfl rfl ?_ | refine SD.take rfl panicBody (op_load ty107 rfl (by repeat (first | exact AtO.here | apply AtO.there)) rfl) rfl rfl ?_ | refine SD.take rfl panicBody (op_loadX ty107 rfl (by assumption) rfl) rfl rfl ?_
        first | refine SD.skip rfl panicBody rfl rfl ?_ | refine SD.take rfl panicBody (op_move rfl) rfl rfl ?_
        first | refine SD.skip rfl panicBody rfl rfl ?_ | refine SD.take rfl panicBody (op_move rfl) rfl rfl ?_
        first | refine SD.skip rfl panicBody rfl rfl ?_ | refine SD.take rfl panicBody (op_idxStr Tryd.underlying9 rfl rfl rfl (by assumption)) rfl rfl ?_
        -- op
        refine SD.skipF rfl rfl rfl ?_
        first | refine SD.skip rfl panicBody rfl rfl ?_ | refine SD.take rfl panicBody (op_not rfl) rfl rfl ?_
        first | refine SD.skip rfl panicBody rfl rfl ?_ | refine SD.take rfl panicBody (op_pickT rfl rfl) rfl rfl ?_ | refine SD.take rfl panicBody (op_pickF rfl rfl) rfl rfl ?_ | refine SD.take rfl panicBody (op_pickB rfl rfl rfl) rfl rfl ?_
        first | refine SD.take rfl panicBody (op_pickT rfl rfl) rfl rfl ?_ | refine SD.take rfl panicBody (op_pickF rfl rfl) rfl rfl ?_ | refine SD.take rfl panicBody (op_pickB rfl rfl rfl) rfl rfl ?_
        refine SD.nil ?_
        show SL _ _ _ _ _ _ _ [] _ _ _
        refine SL.nil ?_
        refine T.condF rfl ?_
        refine T.skip ?_
        refine T.blk ?_
        refine T.region ?_
        first | refine SL.y (op_addN (q := 1) rfl rfl (by omega)) rfl rfl ?_ | refine SL.y (op_add rfl rfl (by omega) (by omega)) rfl rfl ?_ | refine SL.y (op_addW rfl rfl) rfl rfl ?_
        refine SL.y (op_move rfl) rfl rfl ?_
        refine SL.nil ?_
        -- cut
        exact T.backW (s.size - (i + 1)) (by omega) ⟨i + 1, rfl, by omega, hX4.trans' hX5, hgo hib fun h => absurd h h0, rfl, rfl⟩ (by repeat (first | exact Sub.nil | refine Sub.cons rfl ?_))
  · refine T.seq ?_
    refine T.region ?_
    first | refine SL.y (op_lssT rfl rfl (by omega)) rfl rfl ?_ | refine SL.y (op_lssF rfl rfl (by omega)) rfl rfl ?_ | refine SL.y (op_lss rfl rfl) rfl rfl ?_
    refine SL.nil ?_
    refine T.seq ?_
    refine T.condF rfl ?_
    refine T.exit (T.exitCode (T.exitCut (T.exitBlk ?_)))
    refine T.seq ?_
    refine T.region ?_
    refine SL.y (op_assign rfl) rfl rfl ?_
    refine SL.nil ?_
    -- ret
    refine T.ret1 rfl (ResIs.tmp rfl) ?_
    rw [decide_eq_true (show validS s from ⟨h1, by omega, h3, fun k b _ hb => hin k b (by have := ByteArray.getElem?_ge' s k; rcases Nat.lt_or_ge k s.size with h | h; omega; rw [this (by omega)] at hb; cases hb) hb⟩)]
end Go.Proofs.YtaooojjhlngcmaaDoor
