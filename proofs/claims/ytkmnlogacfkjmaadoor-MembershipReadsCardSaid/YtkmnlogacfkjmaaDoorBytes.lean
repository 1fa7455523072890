/- Books: the bytes. -/
import Derived.Test.YtkmnlogacfkjmaaDoorRefb
import Derived.Test.YtkmnlogacfkjmaaDoorWire2
namespace Go.Proofs.YtkmnlogacfkjmaaDoor
section
set_option maxRecDepth 100000
theorem en63 : Enters Tryd.prog 63 := enters_mk Tryd.func63 (by kernel_rfl) rfl
theorem en64 : Enters Tryd.prog 64 := enters_mk Tryd.func64 (by kernel_rfl) rfl
theorem en65 : Enters Tryd.prog 65 := enters_mk Tryd.func65 (by kernel_rfl) rfl
theorem z109 : Zero Tryd.prog 109 [.int .i64 0, .int .i64 0, .int .i64 0] := ⟨zero_of (by kernel_rfl)⟩
end
open Go.RowKit
def encE (e : En) : List Nat := numB e.1.toNat ++ numB e.2.1.toNat ++ numB e.2.2.toNat
def encL (l : List En) : List Nat := numB l.length ++ (l.map encE).flatten
/-- The bytes of the first k of n entries. -/
def encK (l : List En) (k : Nat) : List Nat := numB l.length ++ ((l.take k).map encE).flatten
theorem encK_succ {l : List En} {k : Nat} {e : En} (he : l[k]? = some e) : encK l (k + 1) = encK l k ++ encE e := by
  obtain ⟨h1, h2⟩ := List.getElem?_eq_some_iff.1 he
  rw [encK, encK, List.take_succ_eq_append_getElem h1, h2]; simp
theorem encE_len {e : En} (h : okE e) : (encE e).length ≤ 30 := by
  obtain ⟨h1, h2, h3, h4, h5, h6⟩ := h
  have a := numB_len (n := e.1.toNat) (by omega)
  have b := numB_len (n := e.2.1.toNat) (by omega)
  have c := numB_len (n := e.2.2.toNat) (by omega)
  rw [encE, List.length_append, List.length_append]; omega
theorem encK_len {l : List En} (hw : WfL l) (hl : l.length < 100000) : ∀ k, k ≤ l.length → (encK l k).length ≤ 10 + 30 * k
  | 0, _ => by
    have := numB_len (n := l.length) (by omega)
    simp [encK]; omega
  | k + 1, h => by
    rw [encK_succ (List.getElem?_eq_getElem (by omega)), List.length_append]
    have h1 := encK_len hw hl k (by omega)
    have h2 := encE_len (hw.2 l[k] (List.getElem_mem _))
    omega
theorem encK_end (l : List En) : encK l l.length = encL l := by rw [encK, List.take_length]; rfl
theorem bytes_spec {X : PMap} {v : Value} {l : List En} (h : BkR X v l) (hw : WfL l) (hl : l.length < 30000) : Spec Tryd.prog 41 [v] X fun w X' => BytesR X' w (encL l) := by
  obtain ⟨b, sv, rfl, hb, hs⟩ := h
  obtain ⟨A, cp, rfl⟩ := hs.form
  have hlen := encK_len hw (by omega)
  refine Spec.enter Tryd.func41 rfl Tryd.ntmps41 rfl ?_
  intro w0 hw0
  refine T.seq ?_
  refine T.region ?_
  refine SL.y (op_assign rfl) rfl rfl ?_
  refine SL.nil ?_
  refine T.seq ?_
  refine T.seq ?_
  refine T.region ?_
  refine SL.y (op_move rfl) rfl rfl ?_
  refine SL.y (op_eqlNil Tryd.underlying24 rfl rfl) rfl rfl ?_
  refine SL.nil ?_
  refine T.condF rfl ?_
  refine T.skip ?_
  refine T.seq ?_
  refine T.region ?_
  -- op
  refine SL.x (op_callO en63 (vs := []) rfl (newW_spec)) rfl rfl ?_
  rintro _ _ X1 ⟨_, rfl, hX1, bw, rfl, rfl⟩
  have hb1 := hb.mono hX1
  refine SL.y (op_assign rfl) rfl rfl ?_
  refine SL.nil ?_
  refine T.seq ?_
  refine T.region ?_
  refine SL.y (op_move rfl) rfl rfl ?_
  refine SL.y (op_move rfl) rfl rfl ?_
  first | refine SL.y (op_nil rfl) rfl rfl ?_ | refine SL.y (op_nilFn rfl) rfl rfl ?_
  refine SL.y (op_fieldAddr fa90_0 rfl) rfl rfl ?_
  first | refine SL.y (op_load ty74 rfl (by repeat (first | exact AtO.here | apply AtO.there)) rfl) rfl rfl ?_ | refine SL.y (op_loadX ty74 rfl (by assumption) rfl) rfl rfl ?_
  refine SL.y (op_lenS Tryd.underlying74 rfl) rfl rfl ?_
  -- to 17: op
  refine SL.y (op_convU64 Tryd.underlying3 Tryd.underlying95 rfl (by omega) (by omega)) rfl rfl ?_
  refine SL.x (op_callM en64 (vs := [_, _]) rfl (uintW_spec (l := []) (n := l.length) (by omega) GrowS.nil (by omega)) rfl) rfl rfl ?_
  rintro _ _ X2 ⟨_, rfl, hX2, sv2, G2, rfl, hG2⟩
  refine SL.perm (own' := ⟨bw, [sv2], 130, 1⟩ :: G2) (by simp) ?_
  have hb2 := hb1.mono hX2
  have hX02 := hX1.trans' hX2
  refine SL.nil ?_
  refine T.seq ?_
  refine T.seq ?_
  refine T.region ?_
  refine SL.y (op_move rfl) rfl rfl ?_
  first | refine SL.y (op_nil rfl) rfl rfl ?_ | refine SL.y (op_nilFn rfl) rfl rfl ?_
  refine SL.y (op_fieldAddr fa90_0 rfl) rfl rfl ?_
  first | refine SL.y (op_load ty74 rfl (by repeat (first | exact AtO.here | apply AtO.there)) rfl) rfl rfl ?_ | refine SL.y (op_loadX ty74 rfl (by assumption) rfl) rfl rfl ?_
  refine SL.y (op_lenS Tryd.underlying74 rfl) rfl rfl ?_
  refine SL.y (op_move (v := .int .i64 ((0 : Nat) : Int)) rfl) rfl rfl ?_
  refine SL.nil ?_
  refine T.block ?_
  -- loop live [2, 3, 22, 23, 24]
  refine T.loopW (fun m env own X' => ∃ (k : Nat) (sv : Value) (G : Own), m = l.length - k ∧ k ≤ l.length ∧ X2.le X' ∧ GrowS 5 1 sv (encK l k).length (bytesC (encK l k)) G ∧ env = [(3, .pointer (some ⟨bw, 0, none⟩)), (22, .slice A l.length cp), (23, .int .i64 (l.length : Int)), (24, .int .i64 (k : Int))] ∧ own = ⟨bw, [sv], 130, 1⟩ :: G) l.length ⟨0, sv2, G2, by simp, by omega, PMap.le_refl _, by simpa [encK] using hG2, rfl, rfl⟩ (by repeat (first | exact Sub.nil | refine Sub.cons rfl ?_)) ?_
  rintro m _ _ X3 ⟨k, sv, G, rfl, hk, hX3, hG, rfl, rfl⟩
  have hlk := hlen k hk
  rcases Nat.lt_or_ge k l.length with hkl | hkl
  · obtain ⟨b2, rfl, hB⟩ := hs.blk (by omega)
    have hB1 := (hB.mono hX02).mono hX3
    obtain ⟨e, he⟩ : ∃ e, l[k]? = some e := ⟨_, List.getElem?_eq_getElem hkl⟩
    obtain ⟨g1, g2, g3⟩ := enC_at he
    have hsucc := encK_succ he
    obtain ⟨o1, o2, o3, o4, o5, o6⟩ := hw.2 e (List.mem_of_getElem? he)
    obtain ⟨un, hun⟩ : ∃ un : Nat, e.1 = (un : Int) := ⟨e.1.toNat, by omega⟩
    obtain ⟨rn, hrn⟩ : ∃ rn : Nat, e.2.1 = (rn : Int) := ⟨e.2.1.toNat, by omega⟩
    obtain ⟨tn, htn⟩ : ∃ tn : Nat, e.2.2 = (tn : Int) := ⟨e.2.2.toNat, by omega⟩
    have henc : encE e = numB un ++ numB rn ++ numB tn := by rw [encE, hun, hrn, htn]; rfl
    have a1 := numB_len (n := un) (by omega)
    have a2 := numB_len (n := rn) (by omega)
    have a3 := numB_len (n := tn) (by omega)
    rw [hun] at g1
    rw [hrn] at g2
    rw [htn] at g3
    refine T.seq ?_
    refine T.region ?_
    first | refine SL.y (op_lssT rfl rfl (by omega)) rfl rfl ?_ | refine SL.y (op_lssF rfl rfl (by omega)) rfl rfl ?_ | refine SL.y (op_lss rfl rfl) rfl rfl ?_
    refine SL.nil ?_
    refine T.seq ?_
    refine T.condT rfl ?_
    refine T.skip ?_
    refine T.seq ?_
    refine T.block ?_
    refine T.seq ?_
    refine T.region ?_
    first | refine SL.y (op_indexN Tryd.underlying74 ty76 rfl rfl (by omega)) rfl rfl ?_ | refine SL.y (op_index Tryd.underlying74 ty76 rfl rfl (by omega) (by omega)) rfl rfl ?_
    -- to 27: op
    refine SL.y (op_loadX ty76 rfl hB1 (cread3 g1 g2 g3 (by omega))) rfl rfl ?_
    refine SL.x (op_alloc z76) rfl rfl ?_
    rintro _ _ _ ⟨B5, rfl, rfl, rfl⟩
    refine SL.x (op_store ty76 rfl rfl (by repeat (first | exact AtO.here | apply AtO.there)) rfl rfl rfl) rfl rfl ?_
    rintro _ _ _ ⟨rfl, rfl⟩
    refine SL.nil ?_
    refine T.seq ?_
    refine T.region ?_
    refine SL.y (op_fieldAddr fa76_0 rfl) rfl rfl ?_
    first | refine SL.y (op_load ty3 rfl (by repeat (first | exact AtO.here | apply AtO.there)) rfl) rfl rfl ?_ | refine SL.y (op_loadX ty3 rfl (by assumption) rfl) rfl rfl ?_
    refine SL.y (op_fieldAddr fa76_1 rfl) rfl rfl ?_
    first | refine SL.y (op_load ty3 rfl (by repeat (first | exact AtO.here | apply AtO.there)) rfl) rfl rfl ?_ | refine SL.y (op_loadX ty3 rfl (by assumption) rfl) rfl rfl ?_
    refine SL.y (op_fieldAddr fa76_2 rfl) rfl rfl ?_
    first | refine SL.y (op_load ty3 rfl (by repeat (first | exact AtO.here | apply AtO.there)) rfl) rfl rfl ?_ | refine SL.y (op_loadX ty3 rfl (by assumption) rfl) rfl rfl ?_
    refine SL.y (op_buildA (size := 1) Tryd.underlying109 z109 (by kernel_rfl) (qs := [(0, _), (1, _), (2, _)]) rfl rfl rfl) rfl rfl ?_
    refine SL.y (op_move (v := .int .i64 ((0 : Nat) : Int)) rfl) rfl rfl ?_
    refine SL.nil ?_
    refine T.block ?_
    -- loop live [2, 3, 24, 34, 35]
    refine T.drop B5 (by repeat (first | exact AtO.here | apply AtO.there)) ?_
    refine T.perm (own' := (⟨bw, [sv], 130, 1⟩ :: G) ++ []) (List.Perm.of_eq (List.append_nil _).symm) ?_
    refine T.unrollStart 4 ?_
    refine T.unroll ?_
    refine T.seq ?_
    refine T.region ?_
    first | refine SL.y (op_lssT rfl rfl (by omega)) rfl rfl ?_ | refine SL.y (op_lssF rfl rfl (by omega)) rfl rfl ?_ | refine SL.y (op_lss rfl rfl) rfl rfl ?_
    refine SL.nil ?_
    refine T.seq ?_
    refine T.condT rfl ?_
    refine T.skip ?_
    refine T.seq ?_
    refine T.block ?_
    refine T.seq ?_
    refine T.region ?_
    -- to 37: op
    refine SL.y (op_idxArr Tryd.underlying109 Tryd.underlying3 rfl (by kernel_rfl) rfl rfl rfl (by omega) rfl) rfl rfl ?_
    refine SL.y (op_assign rfl) rfl rfl ?_
    refine SL.nil ?_
    refine T.region ?_
    refine SL.y (op_move rfl) rfl rfl ?_
    refine SL.y (op_move rfl) rfl rfl ?_
    -- to 40: op
    refine SL.y (op_convU64 Tryd.underlying3 Tryd.underlying95 rfl (by omega) (by omega)) rfl rfl ?_
    refine SL.x (op_callM en64 (vs := [_, _]) rfl (uintW_spec (n := un) (by omega) hG (by omega)) rfl) rfl rfl ?_
    rintro _ _ X4 ⟨_, rfl, hX4, sv4, G4, rfl, hG4⟩
    refine SL.nil ?_
    refine T.blk ?_
    refine T.region ?_
    first | refine SL.y (op_addN (q := 1) rfl rfl (by omega)) rfl rfl ?_ | refine SL.y (op_add rfl rfl (by omega) (by omega)) rfl rfl ?_ | refine SL.y (op_addW rfl rfl) rfl rfl ?_
    refine SL.y (op_move rfl) rfl rfl ?_
    refine SL.nil ?_
    refine T.unroll ?_
    refine T.seq ?_
    refine T.region ?_
    first | refine SL.y (op_lssT rfl rfl (by omega)) rfl rfl ?_ | refine SL.y (op_lssF rfl rfl (by omega)) rfl rfl ?_ | refine SL.y (op_lss rfl rfl) rfl rfl ?_
    refine SL.nil ?_
    refine T.seq ?_
    refine T.condT rfl ?_
    refine T.skip ?_
    refine T.seq ?_
    refine T.block ?_
    refine T.seq ?_
    refine T.region ?_
    -- to 37: op
    refine SL.y (op_idxArr Tryd.underlying109 Tryd.underlying3 rfl (by kernel_rfl) rfl rfl rfl (by omega) rfl) rfl rfl ?_
    refine SL.y (op_assign rfl) rfl rfl ?_
    refine SL.nil ?_
    refine T.region ?_
    refine SL.y (op_move rfl) rfl rfl ?_
    refine SL.y (op_move rfl) rfl rfl ?_
    -- to 40: op
    refine SL.y (op_convU64 Tryd.underlying3 Tryd.underlying95 rfl (by omega) (by omega)) rfl rfl ?_
    refine SL.x (op_callM en64 (vs := [_, _]) rfl (uintW_spec (n := rn) (by omega) hG4 (by omega)) rfl) rfl rfl ?_
    rintro _ _ X5 ⟨_, rfl, hX5, sv5, G5, rfl, hG5⟩
    refine SL.nil ?_
    refine T.blk ?_
    refine T.region ?_
    first | refine SL.y (op_addN (q := 1) rfl rfl (by omega)) rfl rfl ?_ | refine SL.y (op_add rfl rfl (by omega) (by omega)) rfl rfl ?_ | refine SL.y (op_addW rfl rfl) rfl rfl ?_
    refine SL.y (op_move rfl) rfl rfl ?_
    refine SL.nil ?_
    refine T.unroll ?_
    refine T.seq ?_
    refine T.region ?_
    first | refine SL.y (op_lssT rfl rfl (by omega)) rfl rfl ?_ | refine SL.y (op_lssF rfl rfl (by omega)) rfl rfl ?_ | refine SL.y (op_lss rfl rfl) rfl rfl ?_
    refine SL.nil ?_
    refine T.seq ?_
    refine T.condT rfl ?_
    refine T.skip ?_
    refine T.seq ?_
    refine T.block ?_
    refine T.seq ?_
    refine T.region ?_
    -- to 37: op
    refine SL.y (op_idxArr Tryd.underlying109 Tryd.underlying3 rfl (by kernel_rfl) rfl rfl rfl (by omega) rfl) rfl rfl ?_
    refine SL.y (op_assign rfl) rfl rfl ?_
    refine SL.nil ?_
    refine T.region ?_
    refine SL.y (op_move rfl) rfl rfl ?_
    refine SL.y (op_move rfl) rfl rfl ?_
    -- to 40: op
    refine SL.y (op_convU64 Tryd.underlying3 Tryd.underlying95 rfl (by omega) (by omega)) rfl rfl ?_
    refine SL.x (op_callM en64 (vs := [_, _]) rfl (uintW_spec (n := tn) (by omega) hG5 (by omega)) rfl) rfl rfl ?_
    rintro _ _ X6 ⟨_, rfl, hX6, sv6, G6, rfl, hG6⟩
    refine SL.nil ?_
    refine T.blk ?_
    refine T.region ?_
    first | refine SL.y (op_addN (q := 1) rfl rfl (by omega)) rfl rfl ?_ | refine SL.y (op_add rfl rfl (by omega) (by omega)) rfl rfl ?_ | refine SL.y (op_addW rfl rfl) rfl rfl ?_
    refine SL.y (op_move rfl) rfl rfl ?_
    refine SL.nil ?_
    refine T.unroll ?_
    refine T.seq ?_
    refine T.region ?_
    first | refine SL.y (op_lssT rfl rfl (by omega)) rfl rfl ?_ | refine SL.y (op_lssF rfl rfl (by omega)) rfl rfl ?_ | refine SL.y (op_lss rfl rfl) rfl rfl ?_
    refine SL.nil ?_
    refine T.seq ?_
    refine T.condF rfl ?_
    refine T.exit (T.exitCode (T.exitMore (T.exitBlk ?_)))
    refine T.blk ?_
    refine T.region ?_
    first | refine SL.y (op_addN (q := 1) rfl rfl (by omega)) rfl rfl ?_ | refine SL.y (op_add rfl rfl (by omega) (by omega)) rfl rfl ?_ | refine SL.y (op_addW rfl rfl) rfl rfl ?_
    refine SL.y (op_move rfl) rfl rfl ?_
    refine SL.nil ?_
    -- cut
    refine T.perm (own' := ⟨bw, [sv6], 130, 1⟩ :: G6) (by simp) ?_
    exact T.backW (l.length - (k + 1)) (by omega) ⟨k + 1, sv6, G6, rfl, by omega, ((hX3.trans' hX4).trans' hX5).trans' hX6, (by rw [hsucc, henc, ← List.append_assoc, ← List.append_assoc, List.length_append, List.length_append, List.length_append]; exact hG6), rfl, rfl⟩ (by repeat (first | exact Sub.nil | refine Sub.cons rfl ?_))
  · obtain rfl : k = l.length := by omega
    rw [encK_end] at hG hlk
    refine T.seq ?_
    refine T.region ?_
    first | refine SL.y (op_lssT rfl rfl (by omega)) rfl rfl ?_ | refine SL.y (op_lssF rfl rfl (by omega)) rfl rfl ?_ | refine SL.y (op_lss rfl rfl) rfl rfl ?_
    refine SL.nil ?_
    refine T.seq ?_
    refine T.condF rfl ?_
    refine T.exit (T.exitCode (T.exitCut (T.exitBlk ?_)))
    refine T.seq ?_
    refine T.region ?_
    refine SL.y (op_move rfl) rfl rfl ?_
    -- to 45: op
    refine T.pubGAt (own0 := [_]) hG ?_
    intro X4 hX4 hS4
    refine T.pubAt bw (by repeat (first | exact AtO.here | apply AtO.there)) ?_
    intro X5 hX5 hB5 _
    refine SL.x (op_callF en65 (vs := [_]) rfl ((out_spec hB5 (BytesR.ofS (hS4.mono hX5)) (by omega)).pubG)) rfl rfl ?_
    rintro u _ X6 ⟨rfl, hX6, hu⟩
    refine SL.y (op_assign rfl) rfl rfl ?_
    refine SL.nil ?_
    -- ret
    refine T.ret1 rfl (ResIs.tmp rfl) ?_
    exact BytesR.ofS hu
theorem bytesN_spec {X : PMap} : Spec Tryd.prog 41 [.pointer none] X fun w _ => w = .slice none 0 0 := by
  refine Spec.enter Tryd.func41 rfl Tryd.ntmps41 rfl ?_
  intro w0 hw0
  refine T.seq ?_
  refine T.region ?_
  refine SL.y (op_assign rfl) rfl rfl ?_
  refine SL.nil ?_
  refine T.seq ?_
  refine T.seq ?_
  refine T.region ?_
  refine SL.y (op_move rfl) rfl rfl ?_
  refine SL.y (op_eqlNil Tryd.underlying24 rfl rfl) rfl rfl ?_
  refine SL.nil ?_
  refine T.condT rfl ?_
  refine T.seq ?_
  refine T.region ?_
  refine SL.y (op_assign rfl) rfl rfl ?_
  refine SL.nil ?_
  -- ret
  refine T.ret1 rfl (ResIs.tmp rfl) ?_
  rfl
theorem number_spec {X : PMap} {n : Nat} (hn : n < 9223372036854775808) : SpecO Tryd.prog 66 [.int .i64 (n : Int)] X fun u own1 _ => GrowS 5 1 u (numB n).length (bytesC (numB n)) own1 := by
  have hnl := numB_len (n := n) (by omega)
  refine SpecO.enter Tryd.func66 rfl Tryd.ntmps66 rfl ?_
  intro w0 hw0
  refine T.seq ?_
  refine T.region ?_
  refine SL.y (op_assign rfl) rfl rfl ?_
  refine SL.nil ?_
  refine T.seq ?_
  refine T.region ?_
  refine SL.y (op_move rfl) rfl rfl ?_
  -- to 5: op
  refine SL.y (op_remN (q := 128) rfl rfl rfl (by omega)) rfl rfl ?_
  -- to 6: op
  refine SL.y (op_convU8 Tryd.underlying3 Tryd.underlying5 rfl (by omega) (by omega)) rfl rfl ?_
  refine SL.x (op_buildSlice Tryd.underlying77 bs5 (qs := [(0, _)]) rfl rfl rfl rfl rfl) rfl rfl ?_
  rintro _ _ _ ⟨B7, rfl, rfl, rfl⟩
  refine SL.y (op_assign rfl) rfl rfl ?_
  refine SL.nil ?_
  refine T.seq ?_
  refine T.region ?_
  refine SL.y (op_move rfl) rfl rfl ?_
  -- to 9: op
  refine SL.y (op_quoN (q := 128) rfl rfl rfl (by omega) (by omega)) rfl rfl ?_
  refine SL.y (op_assign rfl) rfl rfl ?_
  refine SL.nil ?_
  refine T.seq ?_
  refine T.block ?_
  -- loop live [0, 2, 3]
  refine T.loopW (fun m env own X' => ∃ (v : Nat) (out : List Nat) (bo cap : Nat), v = m ∧ v < 9223372036854775808 ∧ X.le X' ∧ 0 < out.length ∧ out.length ≤ cap ∧ cap ≤ maxLen ∧ numB n = numHi v ++ out ∧ env = [(0, .int .i64 (v : Int)), (3, .slice (some ⟨bo, 0, none⟩) out.length cap)] ∧ own = [⟨bo, bytesC out, 5, cap * 1⟩]) (n / 128) ⟨n / 128, [n % 128], B7, 1, rfl, by omega, PMap.le_refl _, by simp, by simp, by decide, rfl, rfl, rfl⟩ (by repeat (first | exact Sub.nil | refine Sub.cons rfl ?_)) ?_
  rintro m _ _ X1 ⟨v, out, bo, cap, rfl, hv, hX1, ho0, hoc, hcm, hinv, rfl, rfl⟩
  have hol : out.length ≤ 10 := by
    have := congrArg List.length hinv
    rw [List.length_append] at this; omega
  rcases Nat.eq_zero_or_pos v with h0 | h0
  · subst h0
    rw [numHi_zero, List.nil_append] at hinv
    refine T.seq ?_
    refine T.seq ?_
    refine T.region ?_
    refine SL.y (op_move rfl) rfl rfl ?_
    first | refine SL.y (op_gtrT rfl rfl (by omega)) rfl rfl ?_ | refine SL.y (op_gtrF rfl rfl (by omega)) rfl rfl ?_ | refine SL.y (op_gtr rfl rfl) rfl rfl ?_
    refine SL.nil ?_
    refine T.condF rfl ?_
    refine T.exit (T.exitCode (T.exitCut (T.exitBlk ?_)))
    refine T.seq ?_
    refine T.region ?_
    refine SL.y (op_move rfl) rfl rfl ?_
    refine SL.y (op_assign rfl) rfl rfl ?_
    refine SL.nil ?_
    -- ret
    refine T.retO1 rfl (ResIs.tmp rfl) ?_
    exact .inr ⟨bo, cap, by rw [hinv], by rw [hinv], by rw [hinv]; exact hoc, hcm, by rw [bytesC_len]; omega⟩
  · refine T.seq ?_
    refine T.seq ?_
    refine T.region ?_
    refine SL.y (op_move rfl) rfl rfl ?_
    first | refine SL.y (op_gtrT rfl rfl (by omega)) rfl rfl ?_ | refine SL.y (op_gtrF rfl rfl (by omega)) rfl rfl ?_ | refine SL.y (op_gtr rfl rfl) rfl rfl ?_
    refine SL.nil ?_
    refine T.condT rfl ?_
    refine T.skip ?_
    refine T.block ?_
    refine T.seq ?_
    refine T.region ?_
    refine SL.y (op_move rfl) rfl rfl ?_
    -- to 13: op
    refine SL.y (op_remN (q := 128) rfl rfl rfl (by omega)) rfl rfl ?_
    -- to 14: op
    refine SL.y (op_addN (p := 128) rfl rfl (by omega)) rfl rfl ?_
    -- to 15: op
    refine SL.y (op_convU8 Tryd.underlying3 Tryd.underlying5 rfl (by omega) (by omega)) rfl rfl ?_
    refine SL.x (op_buildSlice Tryd.underlying77 bs5 (qs := [(0, _)]) rfl rfl rfl rfl rfl) rfl rfl ?_
    rintro _ _ _ ⟨B16, rfl, rfl, rfl⟩
    refine SL.y (op_move rfl) rfl rfl ?_
    -- op
    refine SL.x (op_append (m := out.length) (news := bytesC out) sl77 rfl rfl AtO.here rfl rfl (Nat.le_refl _) (by decide) (Src.ofOwn0 (AtO.there AtO.here) (by rw [bytesC_len]; omega)) (bytesC_one out) (by (have : maxLen = 9223372036854775807 := rfl); omega) (by omega)) rfl rfl ?_
    rintro _ _ _ ⟨b18, cap18, rfl, rfl, rfl, hc18, hm18⟩
    have e1 : 1 + out.length = ((128 + v % 128) :: out).length := by simp [Nat.add_comm]
    rw [e1] at hc18 ⊢
    refine SL.y (op_assign rfl) rfl rfl ?_
    refine SL.nil ?_
    refine T.region ?_
    refine SL.y (op_move rfl) rfl rfl ?_
    -- to 20: op
    refine SL.y (op_quoN (q := 128) rfl rfl rfl (by omega) (by omega)) rfl rfl ?_
    refine SL.y (op_assign rfl) rfl rfl ?_
    refine SL.nil ?_
    refine T.blk ?_
    -- cut
    refine T.drop bo (by repeat (first | exact AtO.here | apply AtO.there)) ?_
    exact T.backW (v / 128) (by omega) ⟨v / 128, (128 + v % 128) :: out, b18, cap18, rfl, by omega, hX1, by simp, hc18, hm18, by rw [hinv, numHi_pos (by omega)]; simp, rfl, rfl⟩ (by repeat (first | exact Sub.nil | refine Sub.cons rfl ?_))
end Go.Proofs.YtkmnlogacfkjmaaDoor
