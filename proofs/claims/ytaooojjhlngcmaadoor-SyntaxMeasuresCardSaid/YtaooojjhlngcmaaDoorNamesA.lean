/- The names of any expression, the program's: however many there are. -/
import Derived.Test.YtaooojjhlngcmaaDoorLib
import Derived.Test.YtaooojjhlngcmaaDoorNames
namespace Go.Proofs.YtaooojjhlngcmaaDoor
open Go.RowKit
theorem insertion0_spec {X : PMap} {A : Option Addr} {c : Nat} : SpecM Tryd.prog 94 [.slice A 0 c, .int .i64 0, .int .i64 0] X [] fun _ L' _ => L' = [] := by
  refine SpecM.enter Tryd.func94 rfl Tryd.ntmps94 rfl ?_
  intro w0 X0 own0
  refine T.seq ?_
  refine T.region ?_
  refine SL.y (op_move rfl) rfl rfl ?_
  first | refine SL.y (op_addN (q := 1) rfl rfl (by omega)) rfl rfl ?_ | refine SL.y (op_add rfl rfl (by omega) (by omega)) rfl rfl ?_ | refine SL.y (op_addW rfl rfl) rfl rfl ?_
  refine SL.y (op_assign rfl) rfl rfl ?_
  refine SL.nil ?_
  refine T.block ?_
  -- loop live [0, 1, 2, 6]
  refine T.unrollStart 1 ?_
  refine T.unroll ?_
  refine T.seq ?_
  refine T.seq ?_
  refine T.region ?_
  refine SL.y (op_move rfl) rfl rfl ?_
  refine SL.y (op_move rfl) rfl rfl ?_
  first | refine SL.y (op_lssT rfl rfl (by omega)) rfl rfl ?_ | refine SL.y (op_lssF rfl rfl (by omega)) rfl rfl ?_ | refine SL.y (op_lss rfl rfl) rfl rfl ?_
  refine SL.nil ?_
  refine T.condF rfl ?_
  refine T.exit (T.exitCode (T.exitMore (T.exitBlk ?_)))
  -- end
  refine T.doneM0 [] rfl (List.Perm.refl _) ?_
  exact ⟨PMap.le_refl _, rfl⟩
theorem pdq0_spec {X : PMap} {k : Int} {A : Option Addr} {c : Nat} : SpecM Tryd.prog 78 [.slice A 0 c, .int .i64 0, .int .i64 0, .int .i64 k] X [] fun _ L' _ => L' = [] := by
  refine SpecM.enter Tryd.func78 rfl Tryd.ntmps78 rfl ?_
  intro w0 X0 own0
  refine T.seq ?_
  refine T.region ?_
  refine SL.y (op_assign rfl) rfl rfl ?_
  refine SL.nil ?_
  refine T.seq ?_
  refine T.region ?_
  refine SL.y (op_assign rfl) rfl rfl ?_
  refine SL.nil ?_
  refine T.block ?_
  -- loop live [0, 1, 2, 3, 8, 9]
  refine T.unrollStart 1 ?_
  refine T.unroll ?_
  refine T.block ?_
  refine T.seq ?_
  refine T.region ?_
  refine SL.y (op_move rfl) rfl rfl ?_
  refine SL.y (op_move rfl) rfl rfl ?_
  first | refine SL.y (op_subN rfl rfl (by omega) (by omega)) rfl rfl ?_ | refine SL.y (op_sub rfl rfl (by omega) (by omega)) rfl rfl ?_ | refine SL.y (op_subW rfl rfl) rfl rfl ?_
  refine SL.y (op_assign rfl) rfl rfl ?_
  refine SL.nil ?_
  refine T.seq ?_
  refine T.seq ?_
  refine T.region ?_
  refine SL.y (op_move rfl) rfl rfl ?_
  first | refine SL.y (op_leqT rfl rfl (by omega)) rfl rfl ?_ | refine SL.y (op_leqF rfl rfl (by omega)) rfl rfl ?_ | refine SL.y (op_leq rfl rfl) rfl rfl ?_
  refine SL.nil ?_
  refine T.condT rfl ?_
  refine T.seq ?_
  refine T.region ?_
  refine SL.y (op_move rfl) rfl rfl ?_
  refine SL.y (op_move rfl) rfl rfl ?_
  refine SL.y (op_move rfl) rfl rfl ?_
  -- op
  refine SL.x (op_callM en94 (vs := [_, _, _]) rfl (insertion0_spec) rfl) rfl rfl ?_
  rintro _ _ X1 ⟨_, rfl, hX1, rfl⟩
  refine SL.nil ?_
  -- ret
  refine T.retM0 [] rfl  (List.Perm.refl _) ?_
  exact ⟨hX1, rfl⟩
theorem sort0_spec {X : PMap} {A : Option Addr} {c : Nat} : SpecM Tryd.prog 50 [.slice A 0 c] X [] fun _ L' _ => L' = [] := by
  refine SpecM.enter Tryd.func50 rfl Tryd.ntmps50 rfl ?_
  intro w0 X0 own0
  refine T.seq ?_
  refine T.region ?_
  refine SL.y (op_move rfl) rfl rfl ?_
  refine SL.y (op_lenS Tryd.underlying24 rfl) rfl rfl ?_
  refine SL.y (op_assign rfl) rfl rfl ?_
  refine SL.nil ?_
  refine T.region ?_
  refine SL.y (op_move rfl) rfl rfl ?_
  refine SL.y (op_move rfl) rfl rfl ?_
  refine SL.y (op_move rfl) rfl rfl ?_
  first | refine SL.y (op_convU64 Tryd.underlying3 Tryd.underlying119 rfl (by omega) (by omega)) rfl rfl ?_ | refine SL.y (op_convert Tryd.underlying3 Tryd.underlying119 rfl) rfl rfl ?_
  -- op
  refine SL.x (op_callF en79 (vs := [_]) rfl (len_specB (n := 0) (by omega))) rfl rfl ?_
  rintro _ _ X1 ⟨rfl, hX1, k, rfl, h1, h2⟩
  -- op
  refine SL.x (op_callM en78 (vs := [_, _, _, _]) rfl (pdq0_spec) rfl) rfl rfl ?_
  rintro _ _ X2 ⟨_, rfl, hX2, rfl⟩
  refine SL.nil ?_
  -- end
  refine T.doneM0 [] rfl (List.Perm.refl _) ?_
  exact ⟨hX1.trans' hX2, rfl⟩
theorem compact0_spec {X : PMap} {A : Option Addr} {c : Nat} : Spec Tryd.prog 51 [.slice A 0 c] X fun u _ => u = .slice A 0 c := by
  refine Spec.enter Tryd.func51 rfl Tryd.ntmps51 rfl ?_
  intro w0 hw0
  refine T.seq ?_
  refine T.region ?_
  refine SL.y (op_assign rfl) rfl rfl ?_
  refine SL.nil ?_
  refine T.seq ?_
  refine T.seq ?_
  refine T.region ?_
  refine SL.y (op_move rfl) rfl rfl ?_
  refine SL.y (op_lenS Tryd.underlying24 rfl) rfl rfl ?_
  first | refine SL.y (op_lssT rfl rfl (by omega)) rfl rfl ?_ | refine SL.y (op_lssF rfl rfl (by omega)) rfl rfl ?_ | refine SL.y (op_lss rfl rfl) rfl rfl ?_
  refine SL.nil ?_
  refine T.condT rfl ?_
  refine T.seq ?_
  refine T.region ?_
  refine SL.y (op_move rfl) rfl rfl ?_
  refine SL.y (op_assign rfl) rfl rfl ?_
  refine SL.nil ?_
  -- ret
  refine T.ret1 rfl (ResIs.tmp rfl) ?_
  rfl
/-- The names of an expression, as the program lists them. -/
theorem namesA_spec {X : PMap} {e : Ex} {r : Row4} (hw : wtE e < 900000) (h : ExR .u8 X e r) : Spec Tryd.prog 20 [.agg #[r.1, r.2.1, r.2.2.1, r.2.2.2]] X fun u X' => ∃ l' : List ByteArray, l'.Perm (allE e) ∧ AscS l' ∧ RowR strC X' u (compactS l') := by
  obtain ⟨_, _, _, _, _, _, _, _, rfl⟩ := h.form
  have hmx : maxLen = 9223372036854775807 := rfl
  have hal := all_wt e
  refine Spec.enter Tryd.func20 rfl Tryd.ntmps20 rfl ?_
  intro w0 hw0
  refine T.seq ?_
  refine T.region ?_
  refine SL.x (op_box rfl) rfl rfl ?_
  rintro _ _ _ ⟨B1, rfl, rfl, rfl⟩
  refine SL.y (op_assign rfl) rfl rfl ?_
  refine SL.nil ?_
  refine T.seq ?_
  refine T.region ?_
  first | refine SL.y (op_load ty34 rfl (by repeat (first | exact AtO.here | apply AtO.there)) rfl) rfl rfl ?_ | refine SL.y (op_loadX ty34 rfl (by assumption) rfl) rfl rfl ?_
  -- op
  refine SL.x (op_callM en49 (vs := [_, _]) rfl (gather_spec _ (Nat.le_refl _) (l := []) (by simp; omega) h GrowS.nil) rfl) rfl rfl ?_
  rintro lv _ X1 ⟨G, rfl, hX1, hG⟩
  rw [List.nil_append] at hG
  rcases Nat.eq_zero_or_pos (allE e).length with h0 | h1
  · have hnil := List.eq_nil_of_length_eq_zero h0
    obtain ⟨A, cap, rfl⟩ := hG.form
    rw [h0]
    refine SL.y (op_assign rfl) rfl rfl ?_
    refine SL.nil ?_
    refine T.seq ?_
    refine T.region ?_
    refine SL.y (op_move rfl) rfl rfl ?_
    -- op
    refine SL.x (op_callM en50 (vs := [_]) rfl (sort0_spec) rfl) rfl rfl ?_
    rintro _ _ X2 ⟨_, rfl, hX2, rfl⟩
    refine SL.nil ?_
    refine T.seq ?_
    refine T.region ?_
    refine SL.y (op_move rfl) rfl rfl ?_
    -- op
    refine SL.x (op_callF en51 (vs := [_]) rfl (compact0_spec)) rfl rfl ?_
    rintro _ _ X3 ⟨rfl, hX3, rfl⟩
    refine SL.y (op_assign rfl) rfl rfl ?_
    refine SL.nil ?_
    -- ret
    refine T.ret1 rfl (ResIs.tmp rfl) ?_
    exact ⟨[], by rw [hnil], List.Pairwise.nil, .inl ⟨rfl, _, _, rfl⟩⟩
  obtain ⟨b, cap, rfl, rfl, hc1, hc2⟩ := hG.pos h1
  refine SL.y (op_assign rfl) rfl rfl ?_
  refine SL.nil ?_
  refine T.seq ?_
  refine T.region ?_
  refine SL.y (op_move rfl) rfl rfl ?_
  -- op
  refine SL.x (op_callM en50 (vs := [_]) rfl (sortAll_spec (by omega)) rfl) rfl rfl ?_
  rintro _ _ X2 ⟨_, rfl, hX2, l', rfl, hp, ha⟩
  have hpl := hp.length_eq
  rw [← hpl]
  refine SL.nil ?_
  refine T.seq ?_
  refine T.region ?_
  refine SL.y (op_move rfl) rfl rfl ?_
  -- op
  refine SL.x (op_callM en51 (vs := [_]) rfl (compact_spec (by omega) (by omega) (by omega)) rfl) rfl rfl ?_
  rintro _ _ X3 ⟨_, rfl, hX3, rfl, rfl⟩
  refine SL.y (op_assign rfl) rfl rfl ?_
  refine SL.nil ?_
  -- ret
  refine T.pub b (by repeat (first | exact AtO.here | apply AtO.there)) ?_
  intro X4 hX4 hB4 _
  refine T.ret1 rfl (ResIs.tmp rfl) ?_
  refine ⟨l', hp, ha, ?_⟩
  rcases Nat.eq_zero_or_pos (compactS l').length with h0 | h0
  · rw [h0]
    exact .inl ⟨List.eq_nil_of_length_eq_zero h0, _, _, rfl⟩
  · have := compact_len l'
    exact .inr ⟨h0, b, cap, [], rfl, by rw [strsC_flat]; exact hB4, by omega, by omega⟩
end Go.Proofs.YtaooojjhlngcmaaDoor
