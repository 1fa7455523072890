/- LatticeChecks: exactly the list of all concepts in their order is accepted; whatever the input, the law returns true and the input reads as before. -/
import Derived.Test.YtoheffglppbcbaaDoorClose
import Derived.Test.YtoheffglppbcbaaDoorChecks
import Derived.Test.YtoheffglppbcbaaDoorOpenArr
namespace Go.Proofs.YtoheffglppbcbaaDoor.latticeChecks
open Go.ChangeShapes Go.WideShapes Go.ChangeAt Go.RowKit Go.Joins
set_option maxRecDepth 100000 in
theorem contract (H : Type) (enc : TypeId × Value → H) (W : World) (base : Nat) (args : Array Value) (ds gs : List (DataW H)) (before : List MemPlace)
    (hval : ∀ (j : Nat) t v, Tryd.f11.params[j]? = some t → args[j]? = some v → Value.okWide Tryd.prog W .any base t v)
    (hW : DataW.Whole enc Tryd.prog Tryd.f11.params.toList Rows.latticeChecksSpec.vars false W args.toList ds gs before) (hL : laidMetH Tryd.prog Rows.latticeChecksRow.laid W) :
    Calls Tryd.prog 11 args W fun e W' => ∃ v, e = .returned v ∧ Rows.latticeChecksSpec.post enc Tryd.prog Tryd.f11 false true false false W args v W' := by
  have hW' := hW
  obtain ⟨p, q, hA0, hV, rfl, hfz, hnd⟩ := hW
  have hA : DataW.TrodAll enc Tryd.prog W 0 (fun _ => true) true Tryd.f11.params.toList args.toList ds p := hA0
  rw [Tryd.params11] at hA hval
  obtain ⟨v0, vs0, d0, ds0, p0, q0, hargs0, rfl, rfl, h0, r0⟩ := trodAll_cons hA
  obtain ⟨v1, vs1, d1, ds1, p1, q1, hargs1, rfl, rfl, h1, r1⟩ := trodAll_cons r0
  obtain ⟨rfl, rfl, rfl⟩ := trodAll_nil r1
  obtain rfl : args = #[v0, v1] := by cases args; simp_all
  obtain ⟨rfl, rfl⟩ := trodVars_none hV
  obtain ⟨⟨u0, u1, rfl, hu0, hu1⟩, rfl, again1⟩ := open_u8x2 Tryd.underlying79 Tryd.underlying5 cells5 (by kernel_rfl) (hval 1 79 v1 rfl rfl) h1
  obtain ⟨⟨R, C, s, bs, rfl, hR, hC, hbs⟩, again⟩ := open_raw (hval 0 24 v0 rfl rfl) h0
  clear hA0
  have hT : Tab (heapX W) := tab_of hL
  refine (checks_spec hT R C hR hC hbs u0 u1 hu0 hu1 W (heapX_in W)).mono fun e W' ⟨v, X', he, hB, _, _, hv⟩ => ?_
  subst he hv
  simp only [List.append_nil] at hW'
  refine ⟨_, rfl, law_post hW' rfl rfl Tryd.underlying4 rfl rfl rfl (fun sp hsp => ?_) hB⟩
  have hr := (trodAll_cons_mk (again W' hB sp (fun p hp => hsp p (by simp [hp]))) (trodAll_cons_mk (again1 W' sp) trodAll_mk0))
  simp only [List.append_nil] at hr
  exact hr
def wargs : Array Value := #[.agg #[.int .u8 0, .int .u8 0, .slice none 0 0], .agg #[.int .u8 0, .int .u8 0]]
theorem laid_met (os : Os) : laidMet Tryd.prog Rows.latticeChecksRow.laid ((laidWorld os).forCall (fun _ _ => 0) ⟨#[], wargs, []⟩).memory :=
  laidMet_of_run' 8 (by kernel_rfl) (by kernel_rfl)
theorem reads (os : Os) {H : Type} (enc : TypeId × Value → H) : ∃ places, DataW.whole enc Tryd.prog ((laidWorld os).forCall (fun _ _ => 0) ⟨#[], wargs, []⟩).memory Tryd.f11.params.toList Rows.latticeChecksSpec.vars false wargs.toList 8 = some ([.agg [.lit (.int .u8 0), .lit (.int .u8 0), .nil], .agg [.lit (.int .u8 0), .lit (.int .u8 0)]], [], places) :=
  ⟨[], by kernel_rfl⟩
set_option maxRecDepth 100000 in
theorem lifted (os : Os) (started : os.Started) (H : Type) (enc : TypeId × Value → H) (F : Stop.Interp) :
    ReturnsInHanded {} Tryd.checked os 11 .any ((OpenSpec.ofChange Rows.latticeChecksSpec).preRow enc Tryd.prog Tryd.f11 Rows.latticeChecksRow.domain false Rows.latticeChecksRow.laid) (((OpenSpec.ofChange Rows.latticeChecksSpec).at F).post enc Tryd.prog Tryd.f11 false true false false) := by
  obtain ⟨places, hx⟩ := reads os enc
  refine returnsInHanded_of_row (C := Tryd.checked) (s := OpenSpec.ofChange Rows.latticeChecksSpec) own started (by kernel_rfl) Tryd.func11
    (witness_row_at (enc := enc) (C := Tryd.checked) false (laidWorld os) wargs rfl (by kernel_rfl) (by kernel_rfl) (by kernel_rfl)
      (OpenSpec.preRow_of_cond 8 hx (by kernel_rfl) (fun k hk => by cases hk) (by kernel_rfl) (laid_met os))) ?_
  intro W base args ds gs before hval hW _ _ _ hL _ _
  exact contract H enc W base args ds gs before hval hW hL
theorem said : Rows.LatticeChecksSaid :=
  OpenClaim.holds_of_cond 11 Tryd.f11 rfl rfl rfl rfl rfl rfl rfl ⟨rfl, rfl, rfl, rfl, rfl⟩ rfl rfl rfl rfl rfl (by kernel_rfl) Tryd.func11 (by kernel_rfl)
    (of_decide_eq_true (by kernel_rfl)) (by unfold Func.isWrapper; first | (rw [if_pos (by decide +kernel)]; kernel_rfl) | (rw [if_neg (by decide +kernel)]; exact ⟨rfl, rfl⟩))
    (fun os started H enc _ F => by rw [OpenClaim.pre_eq_preRow]; exact lifted os started H enc F)
theorem plain (f : FuncId) (fn : Func) (hf : Tryd.pinned.checked.prog.funcNamed "arbac/arbaclaw46.LatticeChecks" = some f) (hfn : Tryd.pinned.checked.prog.funcs[f]? = some fn) :
    false = Tryd.pinned.checked.prog.looks [] ∧ ∀ (j : Nat) t, fn.params[j]? = some t → Tryd.pinned.checked.prog.wantsStandIn t = false := by
  obtain rfl : f = 11 := Option.some.inj ((show Tryd.prog.funcNamed "arbac/arbaclaw46.LatticeChecks" = some 11 by kernel_rfl).symm.trans hf) |>.symm
  obtain rfl : fn = Tryd.f11 := (Option.some.inj (Tryd.func11.symm.trans hfn)).symm
  refine ⟨by kernel_rfl, fun j t ht => ?_⟩
  rw [Tryd.params11] at ht
  have hmem : t = 24 ∨ t = 79 := by simpa using Array.mem_of_getElem? ht
  rcases hmem with rfl | rfl
  · exact (show Tryd.prog.wantsStandIn 24 = false by kernel_rfl)
  · exact (show Tryd.prog.wantsStandIn 79 = false by kernel_rfl)
/-- THE CARD. -/
theorem card : Rows.LatticeChecksCardSaid :=
  Claim7.holds_tied_plain_at .later [] _ _ _ _ said (fun _ h => by cases h) (by kernel_rfl) (fun _ h => by cases h) latticeChecks_row_tie rfl ⟨rfl, rfl⟩ (by kernel_rfl) rfl plain (by kernel_rfl)
end Go.Proofs.YtoheffglppbcbaaDoor.latticeChecks
