/- The printing of an expression: the program's with any number, and the specification's. -/
import Derived.Test.YtaooojjhlngcmaaDoorCon
import Derived.Test.YtaooojjhlngcmaaDoorRtx
import Derived.Test.YtaooojjhlngcmaaDoorLib
namespace Go.Proofs.YtaooojjhlngcmaaDoor
section
set_option maxRecDepth 100000
theorem en15 : Enters Tryd.prog 15 := enters_mk Tryd.func15 (by kernel_rfl) rfl
end
open Go.RowKit
theorem itoa_ok {X : PMap} (hP : Pow10 X) : ItoaOk 1000000 X := fun _ hX v hv => itoaL_spec (hP.mono hX) v (by omega)
mutual
theorem num_of : ∀ e : Ex, nodeE e = 0 → numE 1000000 e
  | .mk op n ns al, h => by
    obtain ⟨h1, h2⟩ := node_ok h
    obtain ⟨_, _, _, _, _, _, _, _, o9⟩ := own_ok h1
    exact (show (op = 1 → n < ((1000000 : Nat) : Int)) ∧ numL 1000000 al from ⟨fun _ => by omega, num_ofL al h2⟩)
theorem num_ofL : ∀ l : List Ex, nodeL l = 0 → numL 1000000 l
  | [], _ => trivial
  | a :: l, h => by
    have h1 : nodeE a = 0 := nodeL_zero h a (by simp)
    rw [nodeL, if_neg (fun h => h h1)] at h
    exact (show numE 1000000 a ∧ numL 1000000 l from ⟨num_of a h1, num_ofL l h⟩)
end
theorem printA_spec {X : PMap} (hP : Pow10 X) {e : Ex} {r : Row4} (hw : wtE e < 900000) (h : ExR .u8 X e r) : Spec Tryd.prog 26 [.agg #[r.1, r.2.1, r.2.2.1, r.2.2.2]] X fun u _ => u = .string (if chkE e = 0 then textE e else ⟨#[]⟩) :=
  eprint_spec (itoa_ok hP) hw (fun hc => num_of e (chkE_node hc)) h
theorem rprint_spec {X : PMap} {e : Ex} {r : Row4} (hw : wtE e < 900000) (h : ExR .i64 X e r) : Spec Tryd.prog 27 [.agg #[r.1, r.2.1, r.2.2.1, r.2.2.2]] X fun u _ => u = .string (if chkE e = 0 then textE e else ⟨#[]⟩) := by
  obtain ⟨_, _, _, _, _, _, _, _, rfl⟩ := h.form
  by_cases hc : chkE e = 0
  · refine Spec.enter Tryd.func27 rfl Tryd.ntmps27 rfl ?_
    intro w0 hw0
    refine T.seq ?_
    refine T.region ?_
    refine SL.x (op_box rfl) rfl rfl ?_
    rintro _ _ _ ⟨B1, rfl, rfl, rfl⟩
    refine SL.y (op_assign rfl) rfl rfl ?_
    refine SL.nil ?_
    refine T.seq ?_
    refine T.seq ?_
    refine T.region ?_
    first | refine SL.y (op_load ty27 rfl (by repeat (first | exact AtO.here | apply AtO.there)) rfl) rfl rfl ?_ | refine SL.y (op_loadX ty27 rfl (by assumption) rfl) rfl rfl ?_
    -- op
    refine SL.x (op_callF en15 (vs := [_]) rfl (rchk_spec (by omega) h)) rfl rfl ?_
    rintro _ _ X1 ⟨rfl, hX1, rfl⟩
    first | refine SL.y (op_neqT rfl rfl (by omega)) rfl rfl ?_ | refine SL.y (op_neqF rfl rfl (by omega)) rfl rfl ?_ | refine SL.y (op_neq rfl rfl) rfl rfl ?_
    refine SL.nil ?_
    refine T.condF rfl ?_
    refine T.skip ?_
    refine T.seq ?_
    refine T.region ?_
    first | refine SL.y (op_load ty27 rfl (by repeat (first | exact AtO.here | apply AtO.there)) rfl) rfl rfl ?_ | refine SL.y (op_loadX ty27 rfl (by assumption) rfl) rfl rfl ?_
    -- op
    refine SL.x (op_callF en54 (vs := [_]) rfl (rtext_spec _ (Nat.le_refl _) (by omega) (chkE_node hc) (h.mono hX1))) rfl rfl ?_
    rintro _ _ X2 ⟨rfl, hX2, rfl⟩
    refine SL.y (op_assign rfl) rfl rfl ?_
    refine SL.nil ?_
    -- ret
    refine T.ret1 rfl (ResIs.tmp rfl) ?_
    rw [if_pos hc]
  · refine Spec.enter Tryd.func27 rfl Tryd.ntmps27 rfl ?_
    intro w0 hw0
    refine T.seq ?_
    refine T.region ?_
    refine SL.x (op_box rfl) rfl rfl ?_
    rintro _ _ _ ⟨B1, rfl, rfl, rfl⟩
    refine SL.y (op_assign rfl) rfl rfl ?_
    refine SL.nil ?_
    refine T.seq ?_
    refine T.seq ?_
    refine T.region ?_
    first | refine SL.y (op_load ty27 rfl (by repeat (first | exact AtO.here | apply AtO.there)) rfl) rfl rfl ?_ | refine SL.y (op_loadX ty27 rfl (by assumption) rfl) rfl rfl ?_
    -- op
    refine SL.x (op_callF en15 (vs := [_]) rfl (rchk_spec (by omega) h)) rfl rfl ?_
    rintro _ _ X1 ⟨rfl, hX1, rfl⟩
    first | refine SL.y (op_neqT rfl rfl (by omega)) rfl rfl ?_ | refine SL.y (op_neqF rfl rfl (by omega)) rfl rfl ?_ | refine SL.y (op_neq rfl rfl) rfl rfl ?_
    refine SL.nil ?_
    refine T.condT rfl ?_
    refine T.seq ?_
    refine T.region ?_
    refine SL.y (op_assign rfl) rfl rfl ?_
    refine SL.nil ?_
    -- ret
    refine T.ret1 rfl (ResIs.tmp rfl) ?_
    rw [if_neg hc]
end Go.Proofs.YtaooojjhlngcmaaDoor
