/- slices.Sort of a few strings. -/
import Derived.Test.YtaooojjhlngcmaaDoorFacts
import Derived.Test.YtaooojjhlngcmaaDoorCopy
import Derived.Test.YtaooojjhlngcmaaDoorApp
import Derived.Test.YtaooojjhlngcmaaDoorSortL
import Derived.Test.YtaooojjhlngcmaaDoorExR
namespace Go.Proofs.YtaooojjhlngcmaaDoor
section
set_option maxRecDepth 100000
theorem en100 : Enters Tryd.prog 100 := enters_mk Tryd.func100 (by kernel_rfl) rfl
theorem en104 : Enters Tryd.prog 104 := enters_mk Tryd.func104 (by kernel_rfl) rfl
theorem en114 : Enters Tryd.prog 114 := enters_mk Tryd.func114 (by kernel_rfl) rfl
theorem en78 : Enters Tryd.prog 78 := enters_mk Tryd.func78 (by kernel_rfl) rfl
theorem en79 : Enters Tryd.prog 79 := enters_mk Tryd.func79 (by kernel_rfl) rfl
theorem en94 : Enters Tryd.prog 94 := enters_mk Tryd.func94 (by kernel_rfl) rfl
theorem ty9 : Ty Tryd.prog 9 false 1 := ⟨⟨_, Tryd.underlying9, rfl⟩, by kernel_rfl⟩
end
open Go.RowKit
def strsC (l : List ByteArray) : List Value := l.map Value.string
theorem strsC_len (l : List ByteArray) : (strsC l).length = l.length := by simp [strsC]
theorem strsC_at {l : List ByteArray} {i : Nat} {s : ByteArray} (h : l[i]? = some s) : (strsC l)[i]? = some (.string s) := by simp [strsC, h]
theorem strsC_set {l : List ByteArray} {i : Nat} {s : ByteArray} : csets (strsC l) i (vcells (.string s)) = strsC (l.set i s) := by simp [csets, vcells, strsC, List.map_set]
theorem strsC_flat (l : List ByteArray) : (l.map strC).flatten = strsC l := strs_flat l
theorem isnan_spec {X : PMap} {a : ByteArray} : Spec Tryd.prog 114 [.string a] X fun u _ => u = .bool false := by
  refine Spec.enter Tryd.func114 rfl Tryd.ntmps114 rfl ?_
  intro w0 hw0
  refine T.seq ?_
  refine T.region ?_
  refine SL.y (op_assign rfl) rfl rfl ?_
  refine SL.nil ?_
  refine T.seq ?_
  refine T.region ?_
  refine SL.y (op_move rfl) rfl rfl ?_
  refine SL.y (op_move rfl) rfl rfl ?_
  refine SL.y (op_neqStrD rfl rfl) rfl rfl ?_
  refine SL.y (op_assign rfl) rfl rfl ?_
  refine SL.nil ?_
  -- ret
  refine T.ret1 rfl (ResIs.tmp rfl) ?_
  simp
theorem less_spec {X : PMap} {a b : ByteArray} : Spec Tryd.prog 100 [.string a, .string b] X fun u _ => u = .bool (ltS a b) := by
  refine Spec.enter Tryd.func100 rfl Tryd.ntmps100 rfl ?_
  intro w0 hw0
  refine T.seq ?_
  refine T.region ?_
  refine SL.y (op_assign rfl) rfl rfl ?_
  refine SL.nil ?_
  refine T.seq ?_
  refine T.region ?_
  refine SL.y (op_move rfl) rfl rfl ?_
  -- op
  refine SL.x (op_callF en114 (vs := [_]) rfl (isnan_spec)) rfl rfl ?_
  rintro _ _ X1 ⟨rfl, hX1, rfl⟩
  refine SL.y (op_move rfl) rfl rfl ?_
  first | refine SL.skip rfl rfl ?_ | refine SL.y (op_move rfl) rfl rfl ?_
  -- op
  refine SL.skip rfl rfl ?_
  first | refine SL.skip rfl rfl ?_ | refine SL.y (op_not rfl) rfl rfl ?_
  first | refine SL.y (op_pickT rfl rfl) rfl rfl ?_ | refine SL.y (op_pickF rfl rfl) rfl rfl ?_ | refine SL.y (op_pickB rfl rfl rfl) rfl rfl ?_
  refine SL.y (op_move rfl) rfl rfl ?_
  first | refine SL.skip rfl rfl ?_ | refine SL.y (op_move rfl) rfl rfl ?_
  first | refine SL.skip rfl rfl ?_ | refine SL.y (op_move rfl) rfl rfl ?_
  first | refine SL.skip rfl rfl ?_ | refine SL.y (op_lssStr rfl rfl) rfl rfl ?_
  first | refine SL.y (op_pickT rfl rfl) rfl rfl ?_ | refine SL.y (op_pickF rfl rfl) rfl rfl ?_ | refine SL.y (op_pickB rfl rfl rfl) rfl rfl ?_
  refine SL.y (op_assign rfl) rfl rfl ?_
  refine SL.nil ?_
  -- ret
  refine T.ret1 rfl (ResIs.tmp rfl) ?_
  rfl
theorem insertion_spec {X : PMap} {b cap : Nat} {l : List ByteArray} (h0 : 0 < l.length) (hl : l.length < 1000000) : SpecM Tryd.prog 94 [.slice (some ⟨b, 0, none⟩) l.length cap, .int .i64 0, .int .i64 (l.length : Int)] X [⟨b, strsC l, 9, cap * 1⟩] fun _ L' _ => ∃ l' : List ByteArray, L' = [⟨b, strsC l', 9, cap * 1⟩] ∧ l'.Perm l ∧ AscS l' := by
  refine SpecM.enter Tryd.func94 rfl Tryd.ntmps94 rfl ?_
  intro w0 X0 own0
  refine T.perm (own' := ⟨b, strsC l, 9, cap * 1⟩ :: own0) (List.Perm.refl _) ?_
  refine T.seq ?_
  refine T.region ?_
  refine SL.y (op_move rfl) rfl rfl ?_
  first | refine SL.y (op_addN (q := 1) rfl rfl (by omega)) rfl rfl ?_ | refine SL.y (op_add rfl rfl (by omega) (by omega)) rfl rfl ?_ | refine SL.y (op_addW rfl rfl) rfl rfl ?_
  refine SL.y (op_assign rfl) rfl rfl ?_
  refine SL.nil ?_
  refine T.block ?_
  -- loop live [0, 1, 2, 6]
  refine T.loopW (fun m env own X' => ∃ (i : Nat) (bs : List ByteArray), m = l.length - i ∧ 1 ≤ i ∧ i ≤ l.length ∧ X.le X' ∧ bs.Perm l ∧ AscS (bs.take i) ∧ env = [(0, .slice (some ⟨b, 0, none⟩) l.length cap), (1, .int .i64 0), (2, .int .i64 (l.length : Int)), (6, .int .i64 (i : Int))] ∧ own = ⟨b, strsC bs, 9, cap * 1⟩ :: own0) (l.length - 1) ⟨1, l, rfl, by omega, by omega, PMap.le_refl _, .refl _, asc_one (by rw [List.length_take]; omega), rfl, rfl⟩ (by repeat (first | exact Sub.nil | refine Sub.cons rfl ?_)) ?_
  rintro m _ _ X1 ⟨i, bs, rfl, hi1, hi, hX1, hperm, hasc, rfl, rfl⟩
  have hbl := hperm.length_eq
  rcases Nat.lt_or_ge i l.length with hil | hil
  · skip
    refine T.seq ?_
    refine T.seq ?_
    refine T.region ?_
    refine SL.y (op_move rfl) rfl rfl ?_
    refine SL.y (op_move rfl) rfl rfl ?_
    first | refine SL.y (op_lssT rfl rfl (by omega)) rfl rfl ?_ | refine SL.y (op_lssF rfl rfl (by omega)) rfl rfl ?_ | refine SL.y (op_lss rfl rfl) rfl rfl ?_
    refine SL.nil ?_
    refine T.condT rfl ?_
    refine T.skip ?_
    refine T.seq ?_
    refine T.block ?_
    refine T.seq ?_
    refine T.region ?_
    refine SL.y (op_move rfl) rfl rfl ?_
    refine SL.y (op_assign rfl) rfl rfl ?_
    refine SL.nil ?_
    refine T.block ?_
    -- loop live [0, 1, 6, 7]
    refine T.loopW (fun m env own X' => ∃ (j : Nat) (cs : List ByteArray), j = m ∧ j ≤ i ∧ X1.le X' ∧ cs.Perm l ∧ Ins cs i j ∧ env = [(0, .slice (some ⟨b, 0, none⟩) l.length cap), (1, .int .i64 0), (2, .int .i64 (l.length : Int)), (6, .int .i64 (i : Int)), (7, .int .i64 (j : Int))] ∧ own = ⟨b, strsC cs, 9, cap * 1⟩ :: own0) i ⟨i, bs, rfl, by omega, PMap.le_refl _, hperm, Ins.start (by omega) hasc, rfl, rfl⟩ (by repeat (first | exact Sub.nil | refine Sub.cons rfl ?_)) ?_
    rintro m _ _ X2 ⟨j, cs, rfl, hj, hX2, hperm2, hins, rfl, rfl⟩
    have hcl := hperm2.length_eq
    obtain ⟨x, hx⟩ : ∃ x, cs[j]? = some x := ⟨_, List.getElem?_eq_getElem (by omega)⟩
    rcases Nat.eq_zero_or_pos j with hj0 | hj0
    · subst hj0
      have hfin := hins.fin hx (.inl rfl)
      refine T.seq ?_
      refine T.seq ?_
      refine T.draw (by kernel_rfl) 15 [.t 0, .t 1, .t 2, .t 3, .t 4, .t 5, .t 6, .t 7, .t 8, .t 9, .t 10, .t 11, .t 12, .r 13, .t 14] (by kernel_rfl) ?_
      refine SD.take rfl panicBody (op_move rfl) rfl rfl ?_
      refine SD.take rfl panicBody (op_move rfl) rfl rfl ?_
      first | refine SD.take rfl panicBody (op_gtrT rfl rfl (by omega)) rfl rfl ?_ | refine SD.take rfl panicBody (op_gtrF rfl rfl (by omega)) rfl rfl ?_ | refine SD.take rfl panicBody (op_gtr rfl rfl) rfl rfl ?_
      refine SD.take rfl panicBody (op_move rfl) rfl rfl ?_
      first | refine SD.skip rfl panicBody rfl rfl ?_ | refine SD.take rfl panicBody (op_move rfl) rfl rfl ?_
      first | refine SD.skip rfl panicBody rfl rfl ?_ | refine SD.take rfl panicBody (op_move rfl) rfl rfl ?_
      first | refine SD.skip rfl panicBody rfl rfl ?_ | refine SD.take rfl panicBody (op_indexN Tryd.underlying24 ty9 rfl rfl (by omega)) rfl rfl ?_ | refine SD.take rfl panicBody (op_index Tryd.underlying24 ty9 rfl rfl (by omega) (by omega)) rfl rfl ?_
      first | refine SD.skip rfl panicBody rfl rfl ?_ | refine SD.take rfl panicBody (op_load ty9 rfl (by repeat (first | exact AtO.here | apply AtO.there)) rfl) rfl rfl ?_ | refine SD.take rfl panicBody (op_loadX ty9 rfl (by assumption) rfl) rfl rfl ?_
      first | refine SD.skip rfl panicBody rfl rfl ?_ | refine SD.take rfl panicBody (op_move rfl) rfl rfl ?_
      first | refine SD.skip rfl panicBody rfl rfl ?_ | refine SD.take rfl panicBody (op_move rfl) rfl rfl ?_
      first | refine SD.skip rfl panicBody rfl rfl ?_ | refine SD.take rfl panicBody (op_subN (q := 1) rfl rfl (by omega) (by omega)) rfl rfl ?_ | refine SD.take rfl panicBody (op_sub rfl rfl (by omega) (by omega)) rfl rfl ?_ | refine SD.take rfl panicBody (op_subW rfl rfl) rfl rfl ?_
      first | refine SD.skip rfl panicBody rfl rfl ?_ | refine SD.take rfl panicBody (op_indexN Tryd.underlying24 ty9 rfl rfl (by omega)) rfl rfl ?_ | refine SD.take rfl panicBody (op_index Tryd.underlying24 ty9 rfl rfl (by omega) (by omega)) rfl rfl ?_
      first | refine SD.skip rfl panicBody rfl rfl ?_ | refine SD.take rfl panicBody (op_load ty9 rfl (by repeat (first | exact AtO.here | apply AtO.there)) rfl) rfl rfl ?_ | refine SD.take rfl panicBody (op_loadX ty9 rfl (by assumption) rfl) rfl rfl ?_
      -- op
      refine SD.skipF rfl rfl rfl ?_
      first | refine SD.take rfl panicBody (op_pickT rfl rfl) rfl rfl ?_ | refine SD.take rfl panicBody (op_pickF rfl rfl) rfl rfl ?_ | refine SD.take rfl panicBody (op_pickB rfl rfl rfl) rfl rfl ?_
      refine SD.nil ?_
      show SL _ _ _ _ _ _ _ [] _ _ _
      refine SL.nil ?_
      refine T.condF rfl ?_
      refine T.exit (T.exitCode (T.exitCut (T.exitBlk ?_)))
      refine T.blk ?_
      refine T.region ?_
      refine SL.y (op_move rfl) rfl rfl ?_
      first | refine SL.y (op_addN (q := 1) rfl rfl (by omega)) rfl rfl ?_ | refine SL.y (op_add rfl rfl (by omega) (by omega)) rfl rfl ?_ | refine SL.y (op_addW rfl rfl) rfl rfl ?_
      refine SL.y (op_assign rfl) rfl rfl ?_
      refine SL.nil ?_
      -- cut
      exact T.backW (l.length - (i + 1)) (by omega) ⟨i + 1, cs, rfl, by omega, by omega, hX1.trans' hX2, hperm2, hfin, rfl, rfl⟩ (by repeat (first | exact Sub.nil | refine Sub.cons rfl ?_))
    · obtain ⟨q, rfl⟩ : ∃ q, j = q + 1 := ⟨j - 1, by omega⟩
      obtain ⟨p, hp⟩ : ∃ p, cs[q]? = some p := ⟨_, List.getElem?_eq_getElem (by omega)⟩
      refine T.seq ?_
      refine T.seq ?_
      refine T.draw (by kernel_rfl) 15 [.t 0, .t 1, .t 2, .t 3, .t 4, .t 5, .t 6, .t 7, .t 8, .t 9, .t 10, .t 11, .t 12, .r 13, .t 14] (by kernel_rfl) ?_
      refine SD.take rfl panicBody (op_move rfl) rfl rfl ?_
      refine SD.take rfl panicBody (op_move rfl) rfl rfl ?_
      first | refine SD.take rfl panicBody (op_gtrT rfl rfl (by omega)) rfl rfl ?_ | refine SD.take rfl panicBody (op_gtrF rfl rfl (by omega)) rfl rfl ?_ | refine SD.take rfl panicBody (op_gtr rfl rfl) rfl rfl ?_
      refine SD.take rfl panicBody (op_move rfl) rfl rfl ?_
      first | refine SD.skip rfl panicBody rfl rfl ?_ | refine SD.take rfl panicBody (op_move rfl) rfl rfl ?_
      first | refine SD.skip rfl panicBody rfl rfl ?_ | refine SD.take rfl panicBody (op_move rfl) rfl rfl ?_
      first | refine SD.skip rfl panicBody rfl rfl ?_ | refine SD.take rfl panicBody (op_indexN Tryd.underlying24 ty9 rfl rfl (by omega)) rfl rfl ?_ | refine SD.take rfl panicBody (op_index Tryd.underlying24 ty9 rfl rfl (by omega) (by omega)) rfl rfl ?_
      -- to 23: op
      refine SD.take rfl panicBody (op_load ty9 rfl (by repeat (first | exact AtO.here | apply AtO.there)) (cread1k' (strsC_at hx) (by omega))) rfl rfl ?_
      first | refine SD.skip rfl panicBody rfl rfl ?_ | refine SD.take rfl panicBody (op_move rfl) rfl rfl ?_
      first | refine SD.skip rfl panicBody rfl rfl ?_ | refine SD.take rfl panicBody (op_move rfl) rfl rfl ?_
      first | refine SD.skip rfl panicBody rfl rfl ?_ | refine SD.take rfl panicBody (op_subN (q := 1) rfl rfl (by omega) (by omega)) rfl rfl ?_ | refine SD.take rfl panicBody (op_sub rfl rfl (by omega) (by omega)) rfl rfl ?_ | refine SD.take rfl panicBody (op_subW rfl rfl) rfl rfl ?_
      first | refine SD.skip rfl panicBody rfl rfl ?_ | refine SD.take rfl panicBody (op_indexN Tryd.underlying24 ty9 rfl rfl (by omega)) rfl rfl ?_ | refine SD.take rfl panicBody (op_index Tryd.underlying24 ty9 rfl rfl (by omega) (by omega)) rfl rfl ?_
      -- to 28: op
      refine SD.take rfl panicBody (op_load ty9 rfl (by repeat (first | exact AtO.here | apply AtO.there)) (cread1k' (strsC_at hp) (by omega))) rfl rfl ?_
      -- op
      refine SD.run rfl (op_callF en100 (vs := [_, _]) rfl (less_spec)) rfl rfl ?_
      rintro _ _ X3 ⟨rfl, hX3, rfl⟩
      cases hlt : ltS x p with
      | false =>
        have hfin := hins.fin hx (.inr ⟨p, by simpa using hp, hlt⟩)
        first | refine SD.take rfl panicBody (op_pickT rfl rfl) rfl rfl ?_ | refine SD.take rfl panicBody (op_pickF rfl rfl) rfl rfl ?_ | refine SD.take rfl panicBody (op_pickB rfl rfl rfl) rfl rfl ?_
        refine SD.nil ?_
        show SL _ _ _ _ _ _ _ [] _ _ _
        refine SL.nil ?_
        refine T.condF rfl ?_
        refine T.exit (T.exitCode (T.exitCut (T.exitBlk ?_)))
        refine T.blk ?_
        refine T.region ?_
        refine SL.y (op_move rfl) rfl rfl ?_
        first | refine SL.y (op_addN (q := 1) rfl rfl (by omega)) rfl rfl ?_ | refine SL.y (op_add rfl rfl (by omega) (by omega)) rfl rfl ?_ | refine SL.y (op_addW rfl rfl) rfl rfl ?_
        refine SL.y (op_assign rfl) rfl rfl ?_
        refine SL.nil ?_
        -- cut
        exact T.backW (l.length - (i + 1)) (by omega) ⟨i + 1, cs, rfl, by omega, by omega, (hX1.trans' hX2).trans' hX3, hperm2, hfin, rfl, rfl⟩ (by repeat (first | exact Sub.nil | refine Sub.cons rfl ?_))
      | true =>
        obtain ⟨hs1, hs2⟩ := hins.step hx hp hlt
        first | refine SD.take rfl panicBody (op_pickT rfl rfl) rfl rfl ?_ | refine SD.take rfl panicBody (op_pickF rfl rfl) rfl rfl ?_ | refine SD.take rfl panicBody (op_pickB rfl rfl rfl) rfl rfl ?_
        refine SD.nil ?_
        show SL _ _ _ _ _ _ _ [] _ _ _
        refine SL.nil ?_
        refine T.condT rfl ?_
        refine T.skip ?_
        refine T.seq ?_
        refine T.block ?_
        refine T.drawS 15 (by kernel_rfl) 16 [.t 0, .t 1, .m 2, .m 3, .m 4, .t 5, .t 6, .t 7, .t 8, .t 9, .m 10, .m 11, .m 12, .t 13, .t 14, .r 15] (by kernel_rfl) ?_
        refine SD.take rfl panicBody (op_move rfl) rfl rfl ?_
        refine SD.take rfl panicBody (op_move rfl) rfl rfl ?_
        refine SD.takeM rfl panicBody (op_move rfl) rfl rfl ?_
        refine SD.takeM rfl panicBody (op_move rfl) rfl rfl ?_
        first | refine SD.takeM rfl panicBody (op_subN (q := 1) rfl rfl (by omega) (by omega)) rfl rfl ?_ | refine SD.takeM rfl panicBody (op_sub rfl rfl (by omega) (by omega)) rfl rfl ?_ | refine SD.takeM rfl panicBody (op_subW rfl rfl) rfl rfl ?_
        refine SD.take rfl panicBody (op_move rfl) rfl rfl ?_
        refine SD.take rfl panicBody (op_move rfl) rfl rfl ?_
        first | refine SD.take rfl panicBody (op_subN (q := 1) rfl rfl (by omega) (by omega)) rfl rfl ?_ | refine SD.take rfl panicBody (op_sub rfl rfl (by omega) (by omega)) rfl rfl ?_ | refine SD.take rfl panicBody (op_subW rfl rfl) rfl rfl ?_
        first | refine SD.take rfl panicBody (op_indexN Tryd.underlying24 ty9 rfl rfl (by omega)) rfl rfl ?_ | refine SD.take rfl panicBody (op_index Tryd.underlying24 ty9 rfl rfl (by omega) (by omega)) rfl rfl ?_
        -- to 42: op
        refine SD.take rfl panicBody (op_load ty9 rfl (by repeat (first | exact AtO.here | apply AtO.there)) (cread1k' (strsC_at hp) (by omega))) rfl rfl ?_
        refine SD.takeM rfl panicBody (op_move rfl) rfl rfl ?_
        refine SD.takeM rfl panicBody (op_move rfl) rfl rfl ?_
        first | refine SD.takeM rfl panicBody (op_indexN Tryd.underlying24 ty9 rfl rfl (by omega)) rfl rfl ?_ | refine SD.takeM rfl panicBody (op_index Tryd.underlying24 ty9 rfl rfl (by omega) (by omega)) rfl rfl ?_
        -- to 46: op
        refine SD.take rfl panicBody (op_load ty9 rfl (by repeat (first | exact AtO.here | apply AtO.there)) (cread1k' (strsC_at hx) (by omega))) rfl rfl ?_
        first | refine SD.take rfl panicBody (op_indexN Tryd.underlying24 ty9 rfl rfl (by omega)) rfl rfl ?_ | refine SD.take rfl panicBody (op_index Tryd.underlying24 ty9 rfl rfl (by omega) (by omega)) rfl rfl ?_
        -- to store: op
        refine SD.runS rfl (op_store ty9 rfl rfl (by repeat (first | exact AtO.here | apply AtO.there)) rfl rfl (Nat.ble_eq_true_of_le (by rw [strsC_len]; omega))) rfl rfl ?_
        rintro _ _ _ ⟨rfl, rfl⟩
        refine SD.nil ?_
        show SL _ _ _ _ _ _ _ [_, _] _ _ _
        first | refine SL.y (op_indexN Tryd.underlying24 ty9 rfl rfl (by omega)) rfl rfl ?_ | refine SL.y (op_index Tryd.underlying24 ty9 rfl rfl (by omega) (by omega)) rfl rfl ?_
        -- to store: op
        refine SL.x (op_store ty9 rfl rfl (by repeat (first | exact AtO.here | apply AtO.there)) rfl rfl (Nat.ble_eq_true_of_le (by rw [csets_length, strsC_len]; omega))) rfl rfl ?_
        rintro _ _ _ ⟨rfl, rfl⟩
        refine SL.perm (own' := ⟨b, strsC ((cs.set (q + 1) p).set q x), 9, cap * 1⟩ :: own0) (List.Perm.of_eq (by rw [← strsC_set, ← strsC_set]; simp only [Nat.zero_add, Nat.mul_one]; rfl)) ?_
        refine SL.nil ?_
        refine T.blk ?_
        refine T.region ?_
        refine SL.y (op_move rfl) rfl rfl ?_
        first | refine SL.y (op_subN (q := 1) rfl rfl (by omega) (by omega)) rfl rfl ?_ | refine SL.y (op_sub rfl rfl (by omega) (by omega)) rfl rfl ?_ | refine SL.y (op_subW rfl rfl) rfl rfl ?_
        refine SL.y (op_assign rfl) rfl rfl ?_
        refine SL.nil ?_
        -- cut
        exact T.backW q (by omega) ⟨q, _, rfl, by omega, hX2.trans' hX3, hs2.trans hperm2, hs1, rfl, rfl⟩ (by repeat (first | exact Sub.nil | refine Sub.cons rfl ?_))
  · refine T.seq ?_
    refine T.seq ?_
    refine T.region ?_
    refine SL.y (op_move rfl) rfl rfl ?_
    refine SL.y (op_move rfl) rfl rfl ?_
    first | refine SL.y (op_lssT rfl rfl (by omega)) rfl rfl ?_ | refine SL.y (op_lssF rfl rfl (by omega)) rfl rfl ?_ | refine SL.y (op_lss rfl rfl) rfl rfl ?_
    refine SL.nil ?_
    refine T.condF rfl ?_
    refine T.exit (T.exitCode (T.exitCut (T.exitBlk ?_)))
    -- end
    refine T.doneM0 [⟨b, strsC bs, 9, cap * 1⟩] rfl (List.Perm.refl _) ?_
    exact ⟨hX1, bs, rfl, hperm, by rwa [List.take_of_length_le (by omega)] at hasc⟩
theorem pdq_spec {X : PMap} {b cap : Nat} {l : List ByteArray} (h0 : 0 < l.length) (hl : l.length ≤ 12) {k : Int} : SpecM Tryd.prog 78 [.slice (some ⟨b, 0, none⟩) l.length cap, .int .i64 0, .int .i64 (l.length : Int), .int .i64 k] X [⟨b, strsC l, 9, cap * 1⟩] fun _ L' _ => ∃ l' : List ByteArray, L' = [⟨b, strsC l', 9, cap * 1⟩] ∧ l'.Perm l ∧ AscS l' := by
  refine SpecM.enter Tryd.func78 rfl Tryd.ntmps78 rfl ?_
  intro w0 X0 own0
  refine T.seq ?_
  refine T.region ?_
  refine SL.y (op_assign rfl) rfl rfl ?_
  refine SL.nil ?_
  refine T.seq ?_
  refine T.region ?_
  refine SL.y (op_assign rfl) rfl rfl ?_
  refine SL.nil ?_
  refine T.block ?_
  -- loop live [0, 1, 2, 3, 8, 9]
  refine T.unrollStart 1 ?_
  refine T.unroll ?_
  refine T.block ?_
  refine T.seq ?_
  refine T.region ?_
  refine SL.y (op_move rfl) rfl rfl ?_
  refine SL.y (op_move rfl) rfl rfl ?_
  first | refine SL.y (op_subN rfl rfl (by omega) (by omega)) rfl rfl ?_ | refine SL.y (op_sub rfl rfl (by omega) (by omega)) rfl rfl ?_ | refine SL.y (op_subW rfl rfl) rfl rfl ?_
  refine SL.y (op_assign rfl) rfl rfl ?_
  refine SL.nil ?_
  refine T.seq ?_
  refine T.seq ?_
  refine T.region ?_
  refine SL.y (op_move rfl) rfl rfl ?_
  first | refine SL.y (op_leqT rfl rfl (by omega)) rfl rfl ?_ | refine SL.y (op_leqF rfl rfl (by omega)) rfl rfl ?_ | refine SL.y (op_leq rfl rfl) rfl rfl ?_
  refine SL.nil ?_
  refine T.condT rfl ?_
  refine T.seq ?_
  refine T.region ?_
  refine SL.y (op_move rfl) rfl rfl ?_
  refine SL.y (op_move rfl) rfl rfl ?_
  refine SL.y (op_move rfl) rfl rfl ?_
  -- op
  refine SL.x (op_callM en94 (vs := [_, _, _]) rfl (insertion_spec h0 (by omega)) rfl) rfl rfl ?_
  rintro _ _ X1 ⟨_, rfl, hX1, l', rfl, hp, ha⟩
  refine SL.nil ?_
  -- ret
  refine T.retM0 [⟨b, strsC l', 9, cap * 1⟩] rfl  (List.Perm.refl _) ?_
  exact ⟨hX1, l', rfl, hp, ha⟩
def len8B : ByteArray := ⟨(([0, 1, 2, 2, 3, 3, 3, 3, 4, 4, 4, 4, 4, 4, 4, 4, 5, 5, 5, 5, 5, 5, 5, 5, 5, 5, 5, 5, 5, 5, 5, 5, 6, 6, 6, 6, 6, 6, 6, 6, 6, 6, 6, 6, 6, 6, 6, 6, 6, 6, 6, 6, 6, 6, 6, 6, 6, 6, 6, 6, 6, 6, 6, 6] : List UInt8) ++ List.replicate 64 7 ++ List.replicate 128 8).toArray⟩
theorem len8_at : ∀ i, i < 256 → ∃ b, len8B[i]? = some b ∧ b.toNat ≤ 8 := by
  have h : (List.range 256).all (fun i => match len8B[i]? with | some b => decide (b.toNat ≤ 8) | none => false) = true := by decide +kernel
  intro i hi
  have := List.all_eq_true.1 h i (List.mem_range.2 hi)
  split at this
  · rename_i b hb; exact ⟨b, hb, by simpa using this⟩
  · cases this
theorem len64_spec {X : PMap} {n : Nat} (hn : n < 256) : Spec Tryd.prog 104 [.int .u64 (n : Int)] X fun u _ => ∃ k : Int, u = .int .i64 k ∧ 0 ≤ k ∧ k ≤ 8 := by
  obtain ⟨b, hb, hb8⟩ := len8_at n hn
  refine Spec.enter Tryd.func104 rfl Tryd.ntmps104 rfl ?_
  intro w0 hw0
  refine T.seq ?_
  refine T.region ?_
  refine SL.y (op_assign (v := .int .i64 ((0 : Nat) : Int)) rfl) rfl rfl ?_
  refine SL.nil ?_
  refine T.seq ?_
  refine T.seq ?_
  refine T.region ?_
  refine SL.y (op_move rfl) rfl rfl ?_
  first | refine SL.y (op_geqT rfl rfl (by omega)) rfl rfl ?_ | refine SL.y (op_geqF rfl rfl (by omega)) rfl rfl ?_ | refine SL.y (op_geq rfl rfl) rfl rfl ?_
  refine SL.nil ?_
  refine T.condF rfl ?_
  refine T.skip ?_
  refine T.seq ?_
  refine T.seq ?_
  refine T.region ?_
  refine SL.y (op_move rfl) rfl rfl ?_
  first | refine SL.y (op_geqT rfl rfl (by omega)) rfl rfl ?_ | refine SL.y (op_geqF rfl rfl (by omega)) rfl rfl ?_ | refine SL.y (op_geq rfl rfl) rfl rfl ?_
  refine SL.nil ?_
  refine T.condF rfl ?_
  refine T.skip ?_
  refine T.seq ?_
  refine T.seq ?_
  refine T.region ?_
  refine SL.y (op_move rfl) rfl rfl ?_
  first | refine SL.y (op_geqT rfl rfl (by omega)) rfl rfl ?_ | refine SL.y (op_geqF rfl rfl (by omega)) rfl rfl ?_ | refine SL.y (op_geq rfl rfl) rfl rfl ?_
  refine SL.nil ?_
  refine T.condF rfl ?_
  refine T.skip ?_
  refine T.seq ?_
  refine T.region ?_
  refine SL.y (op_move rfl) rfl rfl ?_
  refine SL.y (op_move rfl) rfl rfl ?_
  first | refine SL.y (op_convU8 Tryd.underlying141 Tryd.underlying5 rfl (by omega) (by omega)) rfl rfl ?_ | refine SL.y (op_convert Tryd.underlying141 Tryd.underlying5 rfl) rfl rfl ?_
  -- to 22: op
  refine SL.y (op_idxStr (s := len8B) Tryd.underlying9 rfl rfl rfl hb) rfl rfl ?_
  first | refine SL.y (op_convI64 Tryd.underlying5 Tryd.underlying3 rfl (by omega) (by omega)) rfl rfl ?_ | refine SL.y (op_convert Tryd.underlying5 Tryd.underlying3 rfl) rfl rfl ?_
  first | refine SL.y (op_addN rfl rfl (by omega)) rfl rfl ?_ | refine SL.y (op_add rfl rfl (by omega) (by omega)) rfl rfl ?_ | refine SL.y (op_addW rfl rfl) rfl rfl ?_
  refine SL.y (op_assign rfl) rfl rfl ?_
  refine SL.nil ?_
  -- ret
  refine T.ret1 rfl (ResIs.tmp rfl) ?_
  exact ⟨_, rfl, by omega, by omega⟩
theorem len_specB {X : PMap} {n : Nat} (hn : n < 256) : Spec Tryd.prog 79 [.int .u64 (n : Int)] X fun u _ => ∃ k : Int, u = .int .i64 k ∧ 0 ≤ k ∧ k ≤ 8 := by
  refine Spec.enter Tryd.func79 rfl Tryd.ntmps79 rfl ?_
  intro w0 hw0
  refine T.seq ?_
  refine T.region ?_
  refine SL.y (op_assign (v := .int .i64 ((0 : Nat) : Int)) rfl) rfl rfl ?_
  refine SL.nil ?_
  refine T.seq ?_
  refine T.condF rfl ?_
  refine T.skip ?_
  refine T.seq ?_
  refine T.region ?_
  refine SL.y (op_move rfl) rfl rfl ?_
  -- op
  refine SL.x (op_callF en104 (vs := [_]) rfl (len64_spec hn)) rfl rfl ?_
  rintro _ _ X1 ⟨rfl, hX1, k, rfl, h1, h2⟩
  refine SL.y (op_assign rfl) rfl rfl ?_
  refine SL.nil ?_
  -- ret
  refine T.ret1 rfl (ResIs.tmp rfl) ?_
  exact ⟨_, rfl, h1, h2⟩
theorem sort_spec {X : PMap} {b cap : Nat} {l : List ByteArray} (h0 : 0 < l.length) (hl : l.length ≤ 12) : SpecM Tryd.prog 50 [.slice (some ⟨b, 0, none⟩) l.length cap] X [⟨b, strsC l, 9, cap * 1⟩] fun _ L' _ => ∃ l' : List ByteArray, L' = [⟨b, strsC l', 9, cap * 1⟩] ∧ l'.Perm l ∧ AscS l' := by
  refine SpecM.enter Tryd.func50 rfl Tryd.ntmps50 rfl ?_
  intro w0 X0 own0
  refine T.seq ?_
  refine T.region ?_
  refine SL.y (op_move rfl) rfl rfl ?_
  refine SL.y (op_lenS Tryd.underlying24 rfl) rfl rfl ?_
  refine SL.y (op_assign rfl) rfl rfl ?_
  refine SL.nil ?_
  refine T.region ?_
  refine SL.y (op_move rfl) rfl rfl ?_
  refine SL.y (op_move rfl) rfl rfl ?_
  refine SL.y (op_move rfl) rfl rfl ?_
  first | refine SL.y (op_convU64 Tryd.underlying3 Tryd.underlying119 rfl (by omega) (by omega)) rfl rfl ?_ | refine SL.y (op_convert Tryd.underlying3 Tryd.underlying119 rfl) rfl rfl ?_
  -- op
  refine SL.x (op_callF en79 (vs := [_]) rfl (len_specB (n := l.length) (by omega))) rfl rfl ?_
  rintro _ _ X1 ⟨rfl, hX1, k, rfl, h1, h2⟩
  -- op
  refine SL.x (op_callM en78 (vs := [_, _, _, _]) rfl (pdq_spec h0 hl) rfl) rfl rfl ?_
  rintro _ _ X2 ⟨_, rfl, hX2, l', rfl, hp, ha⟩
  refine SL.nil ?_
  -- end
  refine T.doneM0 [⟨b, strsC l', 9, cap * 1⟩] rfl (List.Perm.refl _) ?_
  exact ⟨hX1.trans' hX2, l', rfl, hp, ha⟩
end Go.Proofs.YtaooojjhlngcmaaDoor
