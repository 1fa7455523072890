/- The reference's bytes; the chapter's examples. -/
import Derived.Test.YtkmnlogacfkjmaaDoorMk
import Derived.Test.YtkmnlogacfkjmaaDoorBld2
namespace Go.Proofs.YtkmnlogacfkjmaaDoor
section
set_option maxRecDepth 100000
theorem en18 : Enters Tryd.prog 18 := enters_mk Tryd.func18 (by kernel_rfl) rfl
theorem en20 : Enters Tryd.prog 20 := enters_mk Tryd.func20 (by kernel_rfl) rfl
theorem en23 : Enters Tryd.prog 23 := enters_mk Tryd.func23 (by kernel_rfl) rfl
theorem en27 : Enters Tryd.prog 27 := enters_mk Tryd.func27 (by kernel_rfl) rfl
theorem en35 : Enters Tryd.prog 35 := enters_mk Tryd.func35 (by kernel_rfl) rfl
theorem en41 : Enters Tryd.prog 41 := enters_mk Tryd.func41 (by kernel_rfl) rfl
theorem en45 : Enters Tryd.prog 45 := enters_mk Tryd.func45 (by kernel_rfl) rfl
theorem en46 : Enters Tryd.prog 46 := enters_mk Tryd.func46 (by kernel_rfl) rfl
theorem en66 : Enters Tryd.prog 66 := enters_mk Tryd.func66 (by kernel_rfl) rfl
end
open Go.RowKit
theorem rbytes_spec {X : PMap} {v : Value} {l : List En} (h : SliceR X v l.length (enC l)) (hw : WfL l) (hl : l.length < 30000) : SpecO Tryd.prog 42 [v] X fun w own1 _ => GrowS 5 1 w (encL l).length (bytesC (encL l)) own1 := by
  obtain ⟨A, cp, rfl⟩ := h.form
  have hlen := encK_len hw (by omega)
  refine SpecO.enter Tryd.func42 rfl Tryd.ntmps42 rfl ?_
  intro w0 hw0
  refine T.seq ?_
  refine T.region ?_
  refine SL.y (op_assign rfl) rfl rfl ?_
  refine SL.nil ?_
  refine T.seq ?_
  refine T.region ?_
  refine SL.y (op_move rfl) rfl rfl ?_
  refine SL.y (op_lenS Tryd.underlying25 rfl) rfl rfl ?_
  -- op
  refine SL.x (op_callO en66 (vs := [_]) rfl (number_spec (n := l.length) (by omega))) rfl rfl ?_
  rintro sv1 _ X1 ⟨own1, rfl, hX1, hG1⟩
  obtain ⟨A1, c1, rfl⟩ := hG1.form
  refine SL.perm (own' := own1) (by simp) ?_
  refine SL.y (op_assign rfl) rfl rfl ?_
  refine SL.nil ?_
  refine T.seq ?_
  refine T.seq ?_
  refine T.region ?_
  refine SL.y (op_move rfl) rfl rfl ?_
  refine SL.y (op_lenS Tryd.underlying25 rfl) rfl rfl ?_
  refine SL.y (op_move (v := .int .i64 ((0 : Nat) : Int)) rfl) rfl rfl ?_
  refine SL.nil ?_
  refine T.block ?_
  -- loop live [2, 3, 11, 12, 13]
  refine T.loopW (fun m env own X' => ∃ (k : Nat) (sv : Value) (G : Own), m = l.length - k ∧ k ≤ l.length ∧ X1.le X' ∧ GrowS 5 1 sv (encK l k).length (bytesC (encK l k)) G ∧ env = [(3, sv), (11, .slice A l.length cp), (12, .int .i64 (l.length : Int)), (13, .int .i64 (k : Int))] ∧ G = own) l.length ⟨0, _, own1, by simp, by omega, PMap.le_refl _, by simpa [encK] using hG1, rfl, rfl⟩ (by repeat (first | exact Sub.nil | refine Sub.cons rfl ?_)) ?_
  rintro m _ _ X3 ⟨k, sv, G, rfl, hk, hX3, hG, rfl, rfl⟩
  obtain ⟨As, cs, rfl⟩ := hG.form
  have hlk := hlen k hk
  rcases Nat.lt_or_ge k l.length with hkl | hkl
  · obtain ⟨b2, rfl, hB⟩ := h.blk (by omega)
    have hB1 := (hB.mono hX1).mono hX3
    obtain ⟨e, he⟩ : ∃ e, l[k]? = some e := ⟨_, List.getElem?_eq_getElem hkl⟩
    obtain ⟨g1, g2, g3⟩ := enC_at he
    have hsucc := encK_succ he
    obtain ⟨o1, o2, o3, o4, o5, o6⟩ := hw.2 e (List.mem_of_getElem? he)
    obtain ⟨un, hun⟩ : ∃ un : Nat, e.1 = (un : Int) := ⟨e.1.toNat, by omega⟩
    obtain ⟨rn, hrn⟩ : ∃ rn : Nat, e.2.1 = (rn : Int) := ⟨e.2.1.toNat, by omega⟩
    obtain ⟨tn, htn⟩ : ∃ tn : Nat, e.2.2 = (tn : Int) := ⟨e.2.2.toNat, by omega⟩
    have henc : encE e = numB un ++ numB rn ++ numB tn := by rw [encE, hun, hrn, htn]; rfl
    have a1 := numB_len (n := un) (by omega)
    have a2 := numB_len (n := rn) (by omega)
    have a3 := numB_len (n := tn) (by omega)
    have hmx : maxLen = 9223372036854775807 := rfl
    rw [hun] at g1
    rw [hrn] at g2
    rw [htn] at g3
    refine T.seq ?_
    refine T.region ?_
    first | refine SL.y (op_lssT rfl rfl (by omega)) rfl rfl ?_ | refine SL.y (op_lssF rfl rfl (by omega)) rfl rfl ?_ | refine SL.y (op_lss rfl rfl) rfl rfl ?_
    refine SL.nil ?_
    refine T.seq ?_
    refine T.condT rfl ?_
    refine T.skip ?_
    refine T.seq ?_
    refine T.block ?_
    refine T.seq ?_
    refine T.region ?_
    first | refine SL.y (op_indexN Tryd.underlying25 ty33 rfl rfl (by omega)) rfl rfl ?_ | refine SL.y (op_index Tryd.underlying25 ty33 rfl rfl (by omega) (by omega)) rfl rfl ?_
    -- to 16: op
    refine SL.y (op_loadX ty33 rfl hB1 (cread3 g1 g2 g3 (by omega))) rfl rfl ?_
    refine SL.x (op_alloc z33) rfl rfl ?_
    rintro _ _ _ ⟨B5, rfl, rfl, rfl⟩
    refine SL.x (op_store ty33 rfl rfl (by repeat (first | exact AtO.here | apply AtO.there)) rfl rfl rfl) rfl rfl ?_
    rintro _ _ _ ⟨rfl, rfl⟩
    refine SL.nil ?_
    refine T.seq ?_
    refine T.region ?_
    refine SL.y (op_fieldAddr fa33_0 rfl) rfl rfl ?_
    first | refine SL.y (op_load ty3 rfl (by repeat (first | exact AtO.here | apply AtO.there)) rfl) rfl rfl ?_ | refine SL.y (op_loadX ty3 rfl (by assumption) rfl) rfl rfl ?_
    refine SL.y (op_fieldAddr fa33_1 rfl) rfl rfl ?_
    first | refine SL.y (op_load ty3 rfl (by repeat (first | exact AtO.here | apply AtO.there)) rfl) rfl rfl ?_ | refine SL.y (op_loadX ty3 rfl (by assumption) rfl) rfl rfl ?_
    refine SL.y (op_fieldAddr fa33_2 rfl) rfl rfl ?_
    first | refine SL.y (op_load ty3 rfl (by repeat (first | exact AtO.here | apply AtO.there)) rfl) rfl rfl ?_ | refine SL.y (op_loadX ty3 rfl (by assumption) rfl) rfl rfl ?_
    refine SL.x (op_buildSlice Tryd.underlying46 bs3 (qs := [(0, _), (1, _), (2, _)]) rfl rfl rfl rfl rfl) rfl rfl ?_
    rintro _ _ _ ⟨B23, rfl, rfl, rfl⟩
    refine SL.y (op_lenS Tryd.underlying46 rfl) rfl rfl ?_
    refine SL.y (op_move (v := .int .i64 ((0 : Nat) : Int)) rfl) rfl rfl ?_
    refine SL.nil ?_
    refine T.block ?_
    -- loop live [2, 3, 13, 23, 24, 25]
    refine T.unrollStart 4 ?_
    refine T.unroll ?_
    refine T.seq ?_
    refine T.region ?_
    first | refine SL.y (op_lssT rfl rfl (by omega)) rfl rfl ?_ | refine SL.y (op_lssF rfl rfl (by omega)) rfl rfl ?_ | refine SL.y (op_lss rfl rfl) rfl rfl ?_
    refine SL.nil ?_
    refine T.seq ?_
    refine T.condT rfl ?_
    refine T.skip ?_
    refine T.seq ?_
    refine T.block ?_
    refine T.seq ?_
    refine T.region ?_
    first | refine SL.y (op_indexN Tryd.underlying46 ty3 rfl rfl (by omega)) rfl rfl ?_ | refine SL.y (op_index Tryd.underlying46 ty3 rfl rfl (by omega) (by omega)) rfl rfl ?_
    first | refine SL.y (op_load ty3 rfl (by repeat (first | exact AtO.here | apply AtO.there)) rfl) rfl rfl ?_ | refine SL.y (op_loadX ty3 rfl (by assumption) rfl) rfl rfl ?_
    refine SL.y (op_assign rfl) rfl rfl ?_
    refine SL.nil ?_
    refine T.region ?_
    refine SL.y (op_move rfl) rfl rfl ?_
    refine SL.y (op_move rfl) rfl rfl ?_
    -- op
    refine SL.x (op_callF en66 (vs := [_]) rfl ((number_spec (n := un) (by omega)).pubG)) rfl rfl ?_
    rintro s4 _ X4 ⟨rfl, hX4, hs4⟩
    obtain ⟨A4, c4, rfl⟩ := SliceR.form hs4
    refine SL.x (op_appendGM (own0 := [_, _]) sl77 rfl hG rfl (Src.ofR hs4 (by rw [bytesC_len]; omega)) (numB_pos un) (bytesC_one _) (by omega) (by omega)) rfl rfl ?_
    rintro s' _ _ ⟨G4, rfl, rfl, hG4⟩
    obtain ⟨As4, cps4, rfl⟩ := hG4.form
    refine SL.y (op_assign rfl) rfl rfl ?_
    refine SL.nil ?_
    refine T.blk ?_
    refine T.region ?_
    first | refine SL.y (op_addN (q := 1) rfl rfl (by omega)) rfl rfl ?_ | refine SL.y (op_add rfl rfl (by omega) (by omega)) rfl rfl ?_ | refine SL.y (op_addW rfl rfl) rfl rfl ?_
    refine SL.y (op_move rfl) rfl rfl ?_
    refine SL.nil ?_
    refine T.unroll ?_
    refine T.seq ?_
    refine T.region ?_
    first | refine SL.y (op_lssT rfl rfl (by omega)) rfl rfl ?_ | refine SL.y (op_lssF rfl rfl (by omega)) rfl rfl ?_ | refine SL.y (op_lss rfl rfl) rfl rfl ?_
    refine SL.nil ?_
    refine T.seq ?_
    refine T.condT rfl ?_
    refine T.skip ?_
    refine T.seq ?_
    refine T.block ?_
    refine T.seq ?_
    refine T.region ?_
    first | refine SL.y (op_indexN Tryd.underlying46 ty3 rfl rfl (by omega)) rfl rfl ?_ | refine SL.y (op_index Tryd.underlying46 ty3 rfl rfl (by omega) (by omega)) rfl rfl ?_
    first | refine SL.y (op_load ty3 rfl (by repeat (first | exact AtO.here | apply AtO.there)) rfl) rfl rfl ?_ | refine SL.y (op_loadX ty3 rfl (by assumption) rfl) rfl rfl ?_
    refine SL.y (op_assign rfl) rfl rfl ?_
    refine SL.nil ?_
    refine T.region ?_
    refine SL.y (op_move rfl) rfl rfl ?_
    refine SL.y (op_move rfl) rfl rfl ?_
    -- op
    refine SL.x (op_callF en66 (vs := [_]) rfl ((number_spec (n := rn) (by omega)).pubG)) rfl rfl ?_
    rintro s5 _ X5 ⟨rfl, hX5, hs5⟩
    obtain ⟨A5, c5, rfl⟩ := SliceR.form hs5
    refine SL.x (op_appendGM (own0 := [_, _]) sl77 rfl hG4 rfl (Src.ofR hs5 (by rw [bytesC_len]; omega)) (numB_pos rn) (bytesC_one _) (by omega) (by omega)) rfl rfl ?_
    rintro s' _ _ ⟨G5, rfl, rfl, hG5⟩
    obtain ⟨As5, cps5, rfl⟩ := hG5.form
    refine SL.y (op_assign rfl) rfl rfl ?_
    refine SL.nil ?_
    refine T.blk ?_
    refine T.region ?_
    first | refine SL.y (op_addN (q := 1) rfl rfl (by omega)) rfl rfl ?_ | refine SL.y (op_add rfl rfl (by omega) (by omega)) rfl rfl ?_ | refine SL.y (op_addW rfl rfl) rfl rfl ?_
    refine SL.y (op_move rfl) rfl rfl ?_
    refine SL.nil ?_
    refine T.unroll ?_
    refine T.seq ?_
    refine T.region ?_
    first | refine SL.y (op_lssT rfl rfl (by omega)) rfl rfl ?_ | refine SL.y (op_lssF rfl rfl (by omega)) rfl rfl ?_ | refine SL.y (op_lss rfl rfl) rfl rfl ?_
    refine SL.nil ?_
    refine T.seq ?_
    refine T.condT rfl ?_
    refine T.skip ?_
    refine T.seq ?_
    refine T.block ?_
    refine T.seq ?_
    refine T.region ?_
    first | refine SL.y (op_indexN Tryd.underlying46 ty3 rfl rfl (by omega)) rfl rfl ?_ | refine SL.y (op_index Tryd.underlying46 ty3 rfl rfl (by omega) (by omega)) rfl rfl ?_
    first | refine SL.y (op_load ty3 rfl (by repeat (first | exact AtO.here | apply AtO.there)) rfl) rfl rfl ?_ | refine SL.y (op_loadX ty3 rfl (by assumption) rfl) rfl rfl ?_
    refine SL.y (op_assign rfl) rfl rfl ?_
    refine SL.nil ?_
    refine T.region ?_
    refine SL.y (op_move rfl) rfl rfl ?_
    refine SL.y (op_move rfl) rfl rfl ?_
    -- op
    refine SL.x (op_callF en66 (vs := [_]) rfl ((number_spec (n := tn) (by omega)).pubG)) rfl rfl ?_
    rintro s6 _ X6 ⟨rfl, hX6, hs6⟩
    obtain ⟨A6, c6, rfl⟩ := SliceR.form hs6
    refine SL.x (op_appendGM (own0 := [_, _]) sl77 rfl hG5 rfl (Src.ofR hs6 (by rw [bytesC_len]; omega)) (numB_pos tn) (bytesC_one _) (by omega) (by omega)) rfl rfl ?_
    rintro s' _ _ ⟨G6, rfl, rfl, hG6⟩
    obtain ⟨As6, cps6, rfl⟩ := hG6.form
    refine SL.y (op_assign rfl) rfl rfl ?_
    refine SL.nil ?_
    refine T.blk ?_
    refine T.region ?_
    first | refine SL.y (op_addN (q := 1) rfl rfl (by omega)) rfl rfl ?_ | refine SL.y (op_add rfl rfl (by omega) (by omega)) rfl rfl ?_ | refine SL.y (op_addW rfl rfl) rfl rfl ?_
    refine SL.y (op_move rfl) rfl rfl ?_
    refine SL.nil ?_
    refine T.unroll ?_
    refine T.seq ?_
    refine T.region ?_
    first | refine SL.y (op_lssT rfl rfl (by omega)) rfl rfl ?_ | refine SL.y (op_lssF rfl rfl (by omega)) rfl rfl ?_ | refine SL.y (op_lss rfl rfl) rfl rfl ?_
    refine SL.nil ?_
    refine T.seq ?_
    refine T.condF rfl ?_
    refine T.exit (T.exitCode (T.exitMore (T.exitBlk ?_)))
    refine T.blk ?_
    refine T.region ?_
    first | refine SL.y (op_addN (q := 1) rfl rfl (by omega)) rfl rfl ?_ | refine SL.y (op_add rfl rfl (by omega) (by omega)) rfl rfl ?_ | refine SL.y (op_addW rfl rfl) rfl rfl ?_
    refine SL.y (op_move rfl) rfl rfl ?_
    refine SL.nil ?_
    -- cut
    refine T.drop B23 (by repeat (first | exact AtO.here | apply AtO.there)) ?_
    refine T.drop B5 (by repeat (first | exact AtO.here | apply AtO.there)) ?_
    exact T.backW (l.length - (k + 1)) (by omega) ⟨k + 1, _, G6, rfl, by omega, ((hX3.trans' hX4).trans' hX5).trans' hX6, (by rw [hsucc, henc, ← List.append_assoc, ← List.append_assoc, bytesC_append, bytesC_append, bytesC_append, List.length_append, List.length_append, List.length_append]; exact hG6), rfl, rfl⟩ (by repeat (first | exact Sub.nil | refine Sub.cons rfl ?_))
  · obtain rfl : k = l.length := by omega
    refine T.seq ?_
    refine T.region ?_
    first | refine SL.y (op_lssT rfl rfl (by omega)) rfl rfl ?_ | refine SL.y (op_lssF rfl rfl (by omega)) rfl rfl ?_ | refine SL.y (op_lss rfl rfl) rfl rfl ?_
    refine SL.nil ?_
    refine T.seq ?_
    refine T.condF rfl ?_
    refine T.exit (T.exitCode (T.exitCut (T.exitBlk ?_)))
    refine T.seq ?_
    refine T.region ?_
    refine SL.y (op_move rfl) rfl rfl ?_
    refine SL.y (op_assign rfl) rfl rfl ?_
    refine SL.nil ?_
    -- ret
    refine T.retO1 rfl (ResIs.tmp rfl) ?_
    rw [encK_end] at hG ⊢
    exact hG
section
theorem awl1 : asgP [] 2 5 10 = [(2, 5, 10)] := by decide
theorem awl2 : asgP [(2, 5, 10)] 2 3 7 = [(2, 3, 7), (2, 5, 10)] := by decide
theorem awl3 : asgP [(2, 3, 7), (2, 5, 10)] 2 3 4 = [(2, 3, 4), (2, 5, 10)] := by decide
theorem awl4 : asgP [] 1 2 300 = [(1, 2, 300)] := by decide
theorem awb : encL [(1, 2, 300)] = [1, 1, 2, 130, 44] := by
  simp [encL, encE, numB, numHi_zero, numHi_pos]
end
theorem aw_text {X : PMap} (hT : Tab X) {v : Value} {m : Nat} (h : SetR X v m) (hd : ∀ i ∈ mem64 m, i < 10) {s : List UInt8} (hs : txtOf (mem64 m) ++ [125] = s) : Spec Tryd.prog 46 [v] X fun u _ => u = .string ⟨s.toArray⟩ :=
  (text_spec hT h hd).mono fun _ _ _ hv => by rw [hv, hs]
theorem awake12_spec {X : PMap} (hT : Tab X) : Spec Tryd.prog 12 [] X fun w _ => w = .bool true := by
  have w1 : WfL [(2, 5, 10)] := by have := asg_wf wf_nil (u := 2) (r := 5) (t := 10) rfl; rwa [awl1] at this
  have w2 : WfL [(2, 3, 7), (2, 5, 10)] := by have := asg_wf w1 (u := 2) (r := 3) (t := 7) rfl; rwa [awl2] at this
  have w3 : WfL [(2, 3, 4), (2, 5, 10)] := by have := asg_wf w2 (u := 2) (r := 3) (t := 4) rfl; rwa [awl3] at this
  have w4 : WfL [(1, 2, 300)] := by have := asg_wf wf_nil (u := 1) (r := 2) (t := 300) rfl; rwa [awl4] at this
  refine Spec.enter Tryd.func12 rfl Tryd.ntmps12 rfl ?_
  intro w0 hw0
  refine T.seq ?_
  refine T.region ?_
  refine SL.y (op_assign rfl) rfl rfl ?_
  refine SL.nil ?_
  refine T.seq ?_
  refine T.region ?_
  -- op
  refine SL.x (op_callF en14 (vs := []) rfl (bnew_spec)) rfl rfl ?_
  rintro p0 _ X1 ⟨rfl, hX1, hp0⟩
  refine SL.x (op_callF en15 (vs := [_, _, _, _]) rfl (assign_spec hp0 wf_nil (by simp) (u := 2) (r := 5) (t := 10))) rfl rfl ?_
  rintro r1 _ X2 ⟨rfl, hX2, h1⟩
  rw [if_pos (show asgErr 2 5 10 = 0 from rfl), awl1] at h1
  obtain ⟨p1, rfl, h1⟩ := h1
  refine SL.y (op_move rfl) rfl rfl ?_
  refine SL.y (op_extract rfl rfl) rfl rfl ?_
  refine SL.y (op_extract rfl rfl) rfl rfl ?_
  refine SL.y (op_assign rfl) rfl rfl ?_
  refine SL.y (op_assign rfl) rfl rfl ?_
  refine SL.nil ?_
  refine T.seq ?_
  refine T.region ?_
  refine SL.y (op_move rfl) rfl rfl ?_
  -- op
  refine SL.x (op_callF en15 (vs := [_, _, _, _]) rfl (assign_spec h1 w1 (by simp) (u := 2) (r := 3) (t := 7))) rfl rfl ?_
  rintro r2 _ X3 ⟨rfl, hX3, h2⟩
  rw [if_pos (show asgErr 2 3 7 = 0 from rfl), awl2] at h2
  obtain ⟨p2, rfl, h2⟩ := h2
  refine SL.y (op_move rfl) rfl rfl ?_
  refine SL.y (op_extract rfl rfl) rfl rfl ?_
  refine SL.y (op_extract rfl rfl) rfl rfl ?_
  refine SL.y (op_assign rfl) rfl rfl ?_
  refine SL.y (op_assign rfl) rfl rfl ?_
  refine SL.nil ?_
  refine T.seq ?_
  refine T.region ?_
  refine SL.y (op_move rfl) rfl rfl ?_
  -- op
  refine SL.x (op_callF en15 (vs := [_, _, _, _]) rfl (assign_spec h2 w2 (by simp) (u := 2) (r := 3) (t := 4))) rfl rfl ?_
  rintro r3 _ X4 ⟨rfl, hX4, h3⟩
  rw [if_pos (show asgErr 2 3 4 = 0 from rfl), awl3] at h3
  obtain ⟨p3, rfl, h3⟩ := h3
  refine SL.y (op_move rfl) rfl rfl ?_
  refine SL.y (op_extract rfl rfl) rfl rfl ?_
  refine SL.y (op_extract rfl rfl) rfl rfl ?_
  refine SL.y (op_assign rfl) rfl rfl ?_
  refine SL.y (op_assign rfl) rfl rfl ?_
  refine SL.nil ?_
  refine T.seq ?_
  refine T.region ?_
  -- op
  refine SL.x (op_callF en14 (vs := []) rfl (bnew_spec)) rfl rfl ?_
  rintro q0 _ X5 ⟨rfl, hX5, hq0⟩
  refine SL.x (op_callF en15 (vs := [_, _, _, _]) rfl (assign_spec hq0 wf_nil (by simp) (u := 1) (r := 2) (t := 300))) rfl rfl ?_
  rintro r4 _ X6 ⟨rfl, hX6, h4⟩
  rw [if_pos (show asgErr 1 2 300 = 0 from rfl), awl4] at h4
  obtain ⟨p4, rfl, h4⟩ := h4
  have k2 := ((h2.mono hX4).mono hX5).mono hX6
  have k3 := (h3.mono hX5).mono hX6
  have hT6 := (((((hT.mono hX1).mono hX2).mono hX3).mono hX4).mono hX5).mono hX6
  obtain ⟨b2, s2, rfl, hb2, hs2⟩ := k2
  obtain ⟨b3, s3, rfl, hb3, hs3⟩ := k3
  obtain ⟨b4, s4, rfl, hb4, hs4⟩ := h4
  have K2 : BkN X6 (.pointer (some ⟨b2, 0, none⟩)) [(2, 3, 7), (2, 5, 10)] := .inl ⟨b2, s2, rfl, hb2, hs2⟩
  have K3 : BkR X6 (.pointer (some ⟨b3, 0, none⟩)) [(2, 3, 4), (2, 5, 10)] := ⟨b3, s3, rfl, hb3, hs3⟩
  have K4 : BkR X6 (.pointer (some ⟨b4, 0, none⟩)) [(1, 2, 300)] := ⟨b4, s4, rfl, hb4, hs4⟩
  refine SL.y (op_move rfl) rfl rfl ?_
  refine SL.y (op_extract rfl rfl) rfl rfl ?_
  refine SL.y (op_extract rfl rfl) rfl rfl ?_
  refine SL.y (op_assign rfl) rfl rfl ?_
  refine SL.y (op_assign rfl) rfl rfl ?_
  refine SL.nil ?_
  refine T.seq ?_
  refine T.seq ?_
  refine T.region ?_
  refine SL.y (op_move rfl) rfl rfl ?_
  first | refine SL.y (op_neqT rfl rfl (by omega)) rfl rfl ?_ | refine SL.y (op_neqF rfl rfl (by omega)) rfl rfl ?_ | refine SL.y (op_neq rfl rfl) rfl rfl ?_
  refine SL.y (op_move rfl) rfl rfl ?_
  first | refine SL.skip rfl rfl ?_ | refine SL.y (op_move rfl) rfl rfl ?_
  first | refine SL.skip rfl rfl ?_ | refine SL.y (op_neqT rfl rfl (by omega)) rfl rfl ?_ | refine SL.y (op_neqF rfl rfl (by omega)) rfl rfl ?_ | refine SL.y (op_neq rfl rfl) rfl rfl ?_
  first | refine SL.y (op_pickT rfl rfl) rfl rfl ?_ | refine SL.y (op_pickF rfl rfl) rfl rfl ?_ | refine SL.y (op_pickB rfl rfl rfl) rfl rfl ?_
  refine SL.y (op_move rfl) rfl rfl ?_
  first | refine SL.skip rfl rfl ?_ | refine SL.y (op_move rfl) rfl rfl ?_
  first | refine SL.skip rfl rfl ?_ | refine SL.y (op_neqT rfl rfl (by omega)) rfl rfl ?_ | refine SL.y (op_neqF rfl rfl (by omega)) rfl rfl ?_ | refine SL.y (op_neq rfl rfl) rfl rfl ?_
  first | refine SL.y (op_pickT rfl rfl) rfl rfl ?_ | refine SL.y (op_pickF rfl rfl) rfl rfl ?_ | refine SL.y (op_pickB rfl rfl rfl) rfl rfl ?_
  refine SL.y (op_move rfl) rfl rfl ?_
  first | refine SL.skip rfl rfl ?_ | refine SL.y (op_move rfl) rfl rfl ?_
  first | refine SL.skip rfl rfl ?_ | refine SL.y (op_neqT rfl rfl (by omega)) rfl rfl ?_ | refine SL.y (op_neqF rfl rfl (by omega)) rfl rfl ?_ | refine SL.y (op_neq rfl rfl) rfl rfl ?_
  first | refine SL.y (op_pickT rfl rfl) rfl rfl ?_ | refine SL.y (op_pickF rfl rfl) rfl rfl ?_ | refine SL.y (op_pickB rfl rfl rfl) rfl rfl ?_
  refine SL.y (op_move rfl) rfl rfl ?_
  first | refine SL.skip rfl rfl ?_ | refine SL.y (op_move rfl) rfl rfl ?_
  first | refine SL.skip rfl rfl ?_ | refine SL.y (op_eqlNil Tryd.underlying24 rfl rfl) rfl rfl ?_
  first | refine SL.y (op_pickT rfl rfl) rfl rfl ?_ | refine SL.y (op_pickF rfl rfl) rfl rfl ?_ | refine SL.y (op_pickB rfl rfl rfl) rfl rfl ?_
  refine SL.y (op_move rfl) rfl rfl ?_
  first | refine SL.skip rfl rfl ?_ | refine SL.y (op_move rfl) rfl rfl ?_
  first | refine SL.skip rfl rfl ?_ | refine SL.y (op_eqlNil Tryd.underlying24 rfl rfl) rfl rfl ?_
  first | refine SL.y (op_pickT rfl rfl) rfl rfl ?_ | refine SL.y (op_pickF rfl rfl) rfl rfl ?_ | refine SL.y (op_pickB rfl rfl rfl) rfl rfl ?_
  refine SL.y (op_move rfl) rfl rfl ?_
  first | refine SL.skip rfl rfl ?_ | refine SL.y (op_move rfl) rfl rfl ?_
  first | refine SL.skip rfl rfl ?_ | refine SL.y (op_eqlNil Tryd.underlying24 rfl rfl) rfl rfl ?_
  first | refine SL.y (op_pickT rfl rfl) rfl rfl ?_ | refine SL.y (op_pickF rfl rfl) rfl rfl ?_ | refine SL.y (op_pickB rfl rfl rfl) rfl rfl ?_
  refine SL.nil ?_
  refine T.condF rfl ?_
  refine T.skip ?_
  refine T.seq ?_
  refine T.region ?_
  refine SL.y (op_move rfl) rfl rfl ?_
  -- op
  refine SL.x (op_callF en20 (vs := [_, _, _]) rfl (until_spec K2 w2 (by simp) (u := 2) (r := 3))) rfl rfl ?_
  rintro _ _ X7 ⟨rfl, hX7, rfl⟩
  rw [show untilE [(2, 3, 7), (2, 5, 10)] 2 3 = some 7 by decide]
  have K2a := K2.mono hX7
  refine SL.y (op_move rfl) rfl rfl ?_
  refine SL.y (op_extract rfl rfl) rfl rfl ?_
  refine SL.y (op_extract rfl rfl) rfl rfl ?_
  refine SL.y (op_assign rfl) rfl rfl ?_
  refine SL.y (op_assign rfl) rfl rfl ?_
  refine SL.nil ?_
  refine T.seq ?_
  refine T.region ?_
  refine SL.y (op_move rfl) rfl rfl ?_
  refine SL.y (op_move rfl) rfl rfl ?_
  first | refine SL.skip rfl rfl ?_ | refine SL.y (op_move rfl) rfl rfl ?_
  first | refine SL.skip rfl rfl ?_ | refine SL.y (op_eqlT rfl rfl (by omega)) rfl rfl ?_ | refine SL.y (op_eqlF rfl rfl (by omega)) rfl rfl ?_ | refine SL.y (op_eql rfl rfl) rfl rfl ?_
  first | refine SL.y (op_pickT rfl rfl) rfl rfl ?_ | refine SL.y (op_pickF rfl rfl) rfl rfl ?_ | refine SL.y (op_pickB rfl rfl rfl) rfl rfl ?_
  refine SL.y (op_move rfl) rfl rfl ?_
  first | refine SL.skip rfl rfl ?_ | refine SL.y (op_move rfl) rfl rfl ?_
  -- op
  refine SL.x (op_callF en18 (vs := [_, _, _]) rfl (on_spec K2a w2 (by simp) (u := 2) (d := 7))) rfl rfl ?_
  rintro t1 _ X8 ⟨rfl, hX8, ht1⟩
  rw [show onM [(2, 3, 7), (2, 5, 10)] 2 7 = 40 by decide] at ht1
  -- op
  refine SL.x (op_callF en46 (vs := [_]) rfl (aw_text ((hT6.mono hX7).mono hX8) ht1 (by decide) (s := [123, 51, 32, 53, 125]) (by decide))) rfl rfl ?_
  rintro _ _ X9 ⟨rfl, hX9, rfl⟩
  -- to 71: op
  refine SL.y (op_eqlStrT Tryd.underlying9 rfl rfl) rfl rfl ?_
  have K2b := (K2a.mono hX8).mono hX9
  first | refine SL.y (op_pickT rfl rfl) rfl rfl ?_ | refine SL.y (op_pickF rfl rfl) rfl rfl ?_ | refine SL.y (op_pickB rfl rfl rfl) rfl rfl ?_
  refine SL.y (op_move rfl) rfl rfl ?_
  first | refine SL.skip rfl rfl ?_ | refine SL.y (op_move rfl) rfl rfl ?_
  -- op
  refine SL.x (op_callF en18 (vs := [_, _, _]) rfl (on_spec K2b w2 (by simp) (u := 2) (d := 8))) rfl rfl ?_
  rintro t2 _ X10 ⟨rfl, hX10, ht2⟩
  rw [show onM [(2, 3, 7), (2, 5, 10)] 2 8 = 32 by decide] at ht2
  have hT10 := (((hT6.mono hX7).mono hX8).mono hX9).mono hX10
  refine SL.x (op_callF en46 (vs := [_]) rfl (aw_text hT10 ht2 (by decide) (s := [123, 53, 125]) (by decide))) rfl rfl ?_
  rintro _ _ X11 ⟨rfl, hX11, rfl⟩
  refine SL.y (op_eqlStrT Tryd.underlying9 rfl rfl) rfl rfl ?_
  first | refine SL.y (op_pickT rfl rfl) rfl rfl ?_ | refine SL.y (op_pickF rfl rfl) rfl rfl ?_ | refine SL.y (op_pickB rfl rfl rfl) rfl rfl ?_
  refine SL.y (op_move rfl) rfl rfl ?_
  first | refine SL.skip rfl rfl ?_ | refine SL.y (op_move rfl) rfl rfl ?_
  -- op
  refine SL.x (op_callF en23 (vs := [_, _, _]) rfl ((users_spec ((K2b.mono hX10).mono hX11) w2 (by simp) (r := 5) (d := 10)).pubG)) rfl rfl ?_
  rintro t3 _ X12 ⟨rfl, hX12, ht3⟩
  rw [show usersE [(2, 3, 7), (2, 5, 10)] 5 10 = [2] by decide] at ht3
  refine SL.x (op_buildSlice Tryd.underlying46 bs3 (qs := [(0, _)]) rfl rfl rfl rfl rfl) rfl rfl ?_
  rintro _ _ _ ⟨B82, rfl, rfl, rfl⟩
  -- op
  refine T.pubAt B82 (by repeat (first | exact AtO.here | apply AtO.there)) ?_
  intro X13 hX13 hB13 _
  refine SL.x (op_callF en35 (vs := [_, _]) rfl (eqInts_spec (l := [2]) (l' := [2]) (ht3.mono hX13) (.inr ⟨by decide, _, _, rfl, hB13⟩) (by decide))) rfl rfl ?_
  rintro _ _ X14 ⟨rfl, hX14, rfl⟩
  have K3a := (((((((K3.mono hX7).mono hX8).mono hX9).mono hX10).mono hX11).mono hX12).mono hX13).mono hX14
  have K4a := (((((((K4.mono hX7).mono hX8).mono hX9).mono hX10).mono hX11).mono hX12).mono hX13).mono hX14
  have hT14 := (((hT10.mono hX11).mono hX12).mono hX13).mono hX14
  first | refine SL.y (op_pickT rfl rfl) rfl rfl ?_ | refine SL.y (op_pickF rfl rfl) rfl rfl ?_ | refine SL.y (op_pickB rfl rfl rfl) rfl rfl ?_
  refine SL.y (op_move rfl) rfl rfl ?_
  first | refine SL.skip rfl rfl ?_ | refine SL.y (op_move rfl) rfl rfl ?_
  -- op
  refine SL.x (op_callF en18 (vs := [_, _, _]) rfl (on_spec (.inl K3a) w3 (by simp) (u := 2) (d := 7))) rfl rfl ?_
  rintro t4 _ X15 ⟨rfl, hX15, ht4⟩
  rw [show onM [(2, 3, 4), (2, 5, 10)] 2 7 = 32 by decide] at ht4
  refine SL.x (op_callF en46 (vs := [_]) rfl (aw_text (hT14.mono hX15) ht4 (by decide) (s := [123, 53, 125]) (by decide))) rfl rfl ?_
  rintro _ _ X16 ⟨rfl, hX16, rfl⟩
  refine SL.y (op_eqlStrT Tryd.underlying9 rfl rfl) rfl rfl ?_
  first | refine SL.y (op_pickT rfl rfl) rfl rfl ?_ | refine SL.y (op_pickF rfl rfl) rfl rfl ?_ | refine SL.y (op_pickB rfl rfl rfl) rfl rfl ?_
  refine SL.y (op_move rfl) rfl rfl ?_
  first | refine SL.skip rfl rfl ?_ | refine SL.y (op_move rfl) rfl rfl ?_
  -- op
  refine SL.x (op_callF en27 (vs := [_, _]) rfl (expire_spec ((K3a.mono hX15).mono hX16) (by simp) (d := 8))) rfl rfl ?_
  rintro t5 _ X17 ⟨rfl, hX17, ht5⟩
  rw [show expE [(2, 3, 4), (2, 5, 10)] 8 = [(2, 5, 10)] by decide] at ht5
  refine SL.x (op_callF en26 (vs := [_]) rfl (elen_spec (.inl ht5))) rfl rfl ?_
  rintro _ _ X18 ⟨rfl, hX18, rfl⟩
  first | refine SL.skip rfl rfl ?_ | refine SL.y (op_eqlT rfl rfl (by omega)) rfl rfl ?_ | refine SL.y (op_eqlF rfl rfl (by omega)) rfl rfl ?_ | refine SL.y (op_eql rfl rfl) rfl rfl ?_
  first | refine SL.y (op_pickT rfl rfl) rfl rfl ?_ | refine SL.y (op_pickF rfl rfl) rfl rfl ?_ | refine SL.y (op_pickB rfl rfl rfl) rfl rfl ?_
  refine SL.y (op_move rfl) rfl rfl ?_
  first | refine SL.skip rfl rfl ?_ | refine SL.y (op_move rfl) rfl rfl ?_
  -- op
  refine SL.x (op_callF en41 (vs := [_]) rfl (bytes_spec ((((K4a.mono hX15).mono hX16).mono hX17).mono hX18) w4 (by simp))) rfl rfl ?_
  rintro t6 _ X19 ⟨rfl, hX19, ht6⟩
  rw [awb] at ht6
  refine SL.x (op_buildSlice Tryd.underlying77 bs5 (qs := [(0, _), (1, _), (2, _), (3, _), (4, _)]) rfl rfl rfl rfl rfl) rfl rfl ?_
  rintro _ _ _ ⟨B100, rfl, rfl, rfl⟩
  -- op
  refine T.pubAt B100 (by repeat (first | exact AtO.here | apply AtO.there)) ?_
  intro X20 hX20 hB20 _
  refine SL.x (op_callF en45 (vs := [_, _]) rfl (eqBytes_spec (ht6.mono hX20) (l' := [1, 1, 2, 130, 44]) (.inr ⟨by decide, _, _, [], rfl, hB20⟩) (by decide))) rfl rfl ?_
  rintro _ _ X21 ⟨rfl, hX21, rfl⟩
  first | refine SL.y (op_pickT rfl rfl) rfl rfl ?_ | refine SL.y (op_pickF rfl rfl) rfl rfl ?_ | refine SL.y (op_pickB rfl rfl rfl) rfl rfl ?_
  refine SL.y (op_assign rfl) rfl rfl ?_
  refine SL.nil ?_
  -- ret
  refine T.ret1 rfl (ResIs.tmp rfl) ?_
  rfl
end Go.Proofs.YtkmnlogacfkjmaaDoor
