/- Books: Delete, Revoke, Assign. -/
import Derived.Test.YtkmnlogacfkjmaaDoorBook7
import Derived.Test.YtkmnlogacfkjmaaDoorCut
namespace Go.Proofs.YtkmnlogacfkjmaaDoor
open Go.RowKit
theorem Src.ownLo {own : Own} {X : PMap} {b cap l len size sz j : Nat} {cs : List Value} {ty : TypeId} (ho : AtO own b cs ty sz j) (hc : cs.length = len * size) (h1 : l ≤ len) (h2 : len ≤ cap) : Src own X (.slice (slA (some ⟨b, 0, none⟩) cap l size) (len - l) (cap - l)) (len - l) size (cs.drop (l * size)) := by
  unfold slA
  by_cases he : cap = l
  · rw [if_pos he]
    have e : len = l := by omega
    rw [e, Nat.sub_self, List.drop_eq_nil_of_le (by rw [hc, e]; exact Nat.le_refl _)]
    exact Src.nil
  · rw [if_neg he]
    have hm : l * size + (len - l) * size = len * size := by rw [← Nat.add_mul]; congr 1; omega
    show Src own X (.slice (some (Addr.add ⟨b, 0, none⟩ (l * size))) _ _) _ _ _
    rw [Addr.add_mid, Nat.zero_add]
    exact Src.ownDrop ho (by omega)
theorem del_cells {l : List En} {k o1 o2 : Nat} (hk : k < l.length) (h1 : o1 = k * 3) (h2 : o2 = (l.length - 1) * 3) {zs : List Value} (hz : zs.length = 3) :
    csets (csets (enC l) o1 ((enC l).drop ((k + 1) * 3))) o2 zs = enC (l.take k ++ l.drop (k + 1)) ++ zs := by
  have ht : (enC (l.take k)).length = k * 3 := by rw [enC_len, List.length_take]; congr 1; omega
  have hl : enC l = enC (l.take k) ++ enC ((l.drop k).take (l.length - 1 - k)) ++ enC (l.drop (l.length - 1)) := by
    rw [← enC_append, ← enC_append]
    congr 1
    have e1 : l.drop (l.length - 1) = (l.drop k).drop (l.length - 1 - k) := by rw [List.drop_drop]; congr 1; omega
    rw [e1, List.append_assoc, List.take_append_drop, List.take_append_drop]
  rw [enC_drop]
  conv => lhs; rw [csets_mid' (vs := enC (l.drop (k + 1))) hl (by rw [h1, ht]) (by rw [enC_len, enC_len]; simp; omega)]
  rw [csets_mid' (pre := enC (l.take k) ++ enC (l.drop (k + 1))) (old := enC (l.drop (l.length - 1))) (suf := []) (by simp) (by rw [List.length_append, ht, enC_len, List.length_drop, h2]; omega) (by rw [enC_len, List.length_drop, hz]; omega)]
  rw [enC_append]; simp
section
variable {P : Program} {n : NM} {own : Own} {X : PMap} {env : Env}
theorem op_slice2N {t e : TypeId} {x y z : Operand} {b o len cap size l h : Nat} {row : Bool} {k1 k2 : IntKind} {ll hh : Int} (ht : P.underlying t = some (.slice e)) (he : Ty P e row size) (hx : eev env x = some (.slice (some ⟨b, o, none⟩) len cap))
    (hy : eev env y = some (.int k1 ll)) (hz : eev env z = some (.int k2 hh)) (e1 : ll = (l : Int)) (e2 : hh = (h : Int)) (h0 : l < cap) (h1 : l ≤ h) (h2 : h ≤ cap) : OpY P n env own X (.slice t x (some y) (some z) none) (.slice (some ⟨b, o + l * size, none⟩) (h - l) (cap - l)) := by
  subst e1 e2
  have := op_slice (n := n) (own := own) (X := X) (lo := some y) (hi := some z) (l := l) (h := h) ht he hx (fun q hq => by cases hq; exact ⟨k1, hy⟩) (fun h => by cases h) (fun q hq => by cases hq; exact ⟨k2, hz⟩) (fun h => by cases h) h1 h2
  rwa [if_neg (by omega)] at this
end
theorem delete_spec {X : PMap} {sv : Value} {l : List En} {G : Own} (hG : GrowS 76 3 sv l.length (enC l) G) {k : Nat} (hk : k < l.length) (hl : l.length < 100000) :
    SpecM Tryd.prog 56 [sv, .int .i64 (k : Int), .int .i64 ((k + 1 : Nat) : Int)] X G fun u L' _ => GrowS 76 3 u (l.length - 1) (enC (l.take k ++ l.drop (k + 1))) L' := by
  have hmx : maxLen = 9223372036854775807 := rfl
  have hel := enC_len l
  rcases hG with ⟨h0, h1, rfl, rfl⟩ | ⟨b, cap, rfl, rfl, hc1, hc2, hc3⟩
  · omega
  · refine SpecM.enter Tryd.func56 rfl Tryd.ntmps56 rfl ?_
    intro w0 X0 own0
    refine T.perm (own' := ⟨b, enC l, 76, cap * 3⟩ :: own0) (List.Perm.refl _) ?_
    refine T.seq ?_
    refine T.region ?_
    refine SL.y (op_assign rfl) rfl rfl ?_
    refine SL.nil ?_
    refine T.seq ?_
    refine T.region ?_
    refine SL.y (op_move rfl) rfl rfl ?_
    refine SL.y (op_move rfl) rfl rfl ?_
    refine SL.y (op_move rfl) rfl rfl ?_
    refine SL.y (op_move rfl) rfl rfl ?_
    refine SL.y (op_lenS Tryd.underlying74 rfl) rfl rfl ?_
    -- to 13: op
    refine SL.y (op_slice3 (l := k) (h := k + 1) (m := l.length) Tryd.underlying74 ty76 rfl rfl rfl rfl rfl rfl rfl (by omega) (by omega) (by omega)) rfl rfl ?_
    refine SL.nil ?_
    refine T.seq ?_
    refine T.seq ?_
    refine T.region ?_
    refine SL.y (op_move rfl) rfl rfl ?_
    refine SL.y (op_move rfl) rfl rfl ?_
    first | refine SL.y (op_eqlT rfl rfl (by omega)) rfl rfl ?_ | refine SL.y (op_eqlF rfl rfl (by omega)) rfl rfl ?_ | refine SL.y (op_eql rfl rfl) rfl rfl ?_
    refine SL.nil ?_
    refine T.condF rfl ?_
    refine T.skip ?_
    refine T.seq ?_
    refine T.region ?_
    refine SL.y (op_move rfl) rfl rfl ?_
    refine SL.y (op_lenS Tryd.underlying74 rfl) rfl rfl ?_
    refine SL.y (op_assign rfl) rfl rfl ?_
    refine SL.nil ?_
    refine T.seq ?_
    refine T.draw (by kernel_rfl) 6 [.t 0, .t 1, .t 2, .t 3, .t 4, .t 5] (by kernel_rfl) ?_
    refine SD.take rfl panicBody (op_move rfl) rfl rfl ?_
    refine SD.take rfl panicBody (op_move rfl) rfl rfl ?_
    -- to 22: op
    refine SD.take rfl panicBody (op_sliceHiN (l := k) Tryd.underlying74 ty76 rfl rfl rfl (by omega)) rfl rfl ?_
    refine SD.take rfl panicBody (op_move rfl) rfl rfl ?_
    refine SD.take rfl panicBody (op_move rfl) rfl rfl ?_
    -- to 25: op
    refine SD.take rfl panicBody (op_sliceLo (l := k + 1) Tryd.underlying74 ty76 rfl rfl (by omega) (by omega)) rfl rfl ?_
    refine SD.nil ?_
    show SL _ _ _ _ _ _ _ [_, _] _ _ _
    -- to 26: op
    refine SL.x (op_appendIn (m := l.length - (k + 1)) (size := 3) Tryd.underlying74 (by kernel_rfl) rfl rfl AtO.here (Src.ownLo AtO.here hel (by omega) (by omega)) (by omega) (by omega) (fun y hy => enC_one l y (List.mem_of_mem_drop hy))) rfl rfl ?_
    rintro _ _ _ ⟨rfl, rfl, rfl⟩
    have hkn : k + (l.length - (k + 1)) = l.length - 1 := by omega
    rw [hkn]
    refine SL.y (op_assign rfl) rfl rfl ?_
    refine SL.nil ?_
    refine T.seq ?_
    refine T.region ?_
    refine SL.y (op_move rfl) rfl rfl ?_
    refine SL.y (op_move rfl) rfl rfl ?_
    refine SL.y (op_lenS Tryd.underlying74 rfl) rfl rfl ?_
    refine SL.y (op_move rfl) rfl rfl ?_
    -- to 31: op
    refine SL.y (op_slice2N (l := l.length - 1) (h := l.length) Tryd.underlying74 ty76 rfl rfl rfl rfl rfl (by omega) (by omega) (by omega)) rfl rfl ?_
    have h11 : l.length - (l.length - 1) = 1 := by omega
    rw [h11]
    refine SL.x (op_clear (zs := zE) Tryd.underlying74 (by obtain ⟨i, z, a, _, b, c⟩ := bs76; exact ⟨i, z, a, b, c⟩) rfl AtO.here (by omega) (by rw [csets_length]; simp [zE]; omega) (by intro v hv; simp [zE] at hv; subst hv; rfl)) rfl rfl ?_
    rintro _ _ _ ⟨rfl, rfl⟩
    refine SL.nil ?_
    refine T.seq ?_
    refine T.region ?_
    refine SL.y (op_move rfl) rfl rfl ?_
    refine SL.y (op_assign rfl) rfl rfl ?_
    refine SL.nil ?_
    -- ret
    refine T.perm (own' := ⟨b, enC (l.take k ++ l.drop (k + 1)) ++ zE, 76, cap * 3⟩ :: own0) (List.Perm.of_eq (by rw [← del_cells hk (o1 := 0 + k * 3) (o2 := 0 + (l.length - 1) * 3) (by omega) (by omega) rfl]; rfl)) ?_
    refine T.cut AtO.here ?_
    refine T.retM1 [⟨b, _, 76, cap * 3⟩] rfl (ResIs.tmp rfl) (List.Perm.refl _) ?_
    exact ⟨PMap.le_refl _, .inr ⟨b, cap, rfl, rfl, by omega, hc2, by rw [enC_len]; simp; omega⟩⟩
end Go.Proofs.YtkmnlogacfkjmaaDoor
