/- LatticeLaws answers true. -/
import Derived.Test.YtoheffglppbcbaaDoorEnds
namespace Go.Proofs.YtoheffglppbcbaaDoor
section
set_option maxRecDepth 100000
theorem en23 : Enters Tryd.prog 23 := enters_mk Tryd.func23 (by kernel_rfl) rfl
theorem en24 : Enters Tryd.prog 24 := enters_mk Tryd.func24 (by kernel_rfl) rfl
theorem ty28 : Ty Tryd.prog 28 false 1 := ⟨⟨_, Tryd.underlying28, rfl⟩, by kernel_rfl⟩
theorem z28 : Zero Tryd.prog 28 [.pointer none] := ⟨zero_of (by kernel_rfl)⟩
end
open Go.RowKit
/-- The closed set with number i. -/
def aa (c : Nat) (ms : List Nat) (i : Nat) : Nat := (allC c ms).getD i 0
def jn (c : Nat) (ms : List Nat) (i j : Nat) : Nat := (joinM (allR c ms) (i : Int) (j : Int)).getD 0
def mt (c : Nat) (ms : List Nat) (i j : Nat) : Nat := (meetM c ms (allR c ms) (i : Int) (j : Int)).getD 0
theorem aa_at {c : Nat} {ms : List Nat} {i : Nat} (hi : i < (allC c ms).length) : aa c ms i = (allC c ms)[i] := by simp [aa, hi]
theorem jn_at {c : Nat} {ms : List Nat} (hr : ms.length < 64) (hc : c < 6) {i j : Nat} (hi : i < (allC c ms).length) (hj : j < (allC c ms).length) : jn c ms i j < (allC c ms).length ∧ joinM (allR c ms) (i : Int) (j : Int) = some (jn c ms i j) ∧ aa c ms (jn c ms i j) = aa c ms i &&& aa c ms j := by
  obtain ⟨k, hk, h1, h2, _⟩ := join_at hr hc hi hj
  have e : jn c ms i j = k := by rw [jn, h2]; rfl
  rw [e, aa_at hk, aa_at hi, aa_at hj]
  exact ⟨hk, h2, h1⟩
theorem mt_at {c : Nat} {ms : List Nat} (hr : ms.length < 64) (hc : c < 6) {i j : Nat} (hi : i < (allC c ms).length) (hj : j < (allC c ms).length) : mt c ms i j < (allC c ms).length ∧ meetM c ms (allR c ms) (i : Int) (j : Int) = some (mt c ms i j) ∧ aa c ms (mt c ms i j) = clo c ms (aa c ms i ||| aa c ms j) := by
  obtain ⟨k, hk, h1, h2, _⟩ := meet_at hr hc hi hj
  have e : mt c ms i j = k := by rw [mt, h2]; rfl
  rw [e, aa_at hk, aa_at hi, aa_at hj]
  exact ⟨hk, h2, h1⟩
theorem aa_inj {c : Nat} {ms : List Nat} (hr : ms.length < 64) (hc : c < 6) {i j : Nat} (hi : i < (allC c ms).length) (hj : j < (allC c ms).length) (h : aa c ms i = aa c ms j) : i = j := by
  rw [aa_at hi, aa_at hj] at h
  exact allC_inj hr hc hi hj h
theorem aa_closed {c : Nat} {ms : List Nat} (hr : ms.length < 64) (hc : c < 6) {i : Nat} (hi : i < (allC c ms).length) : clo c ms (aa c ms i) = aa c ms i := by
  rw [aa_at hi]; exact closed_at hr hc hi
theorem leqM_aa {c : Nat} {ms : List Nat} (hr : ms.length < 64) (hc : c < 6) {i j : Nat} (hi : i < (allC c ms).length) (hj : j < (allC c ms).length) : leqM (allR c ms) (i : Int) (j : Int) = true ↔ SubB (aa c ms j) (aa c ms i) := by
  rw [aa_at hi, aa_at hj]; exact leqM_iff hr hc hi hj
section
variable {c : Nat} {ms : List Nat}
theorem clo_or_sub (hr : ms.length < 64) (hc : c < 6) {a b : Nat} (ha : clo c ms a = a) (hb : clo c ms b = b) : SubB a (clo c ms (a ||| b)) ∧ SubB b (clo c ms (a ||| b)) :=
  (clo_or_iff hr hc ha hb (clo_idem (by omega) (by omega) _)).1 (SubB.refl _)
theorem law_join_eq (hr : ms.length < 64) (hc : c < 6) {i j : Nat} (hi : i < (allC c ms).length) (hj : j < (allC c ms).length) : leqM (allR c ms) (i : Int) (j : Int) = decide ((jn c ms i j : Int) = (j : Int)) := by
  obtain ⟨h1, _, h3⟩ := jn_at hr hc hi hj
  refine bool_eq ?_
  rw [leqM_aa hr hc hi hj, decide_eq_true_eq, ← and_eq_iff, Nat.and_comm, ← h3]
  exact ⟨fun h => by have := aa_inj hr hc h1 hj h; omega, fun h => by rw [show jn c ms i j = j by omega]⟩
theorem law_meet_eq (hr : ms.length < 64) (hc : c < 6) {i j : Nat} (hi : i < (allC c ms).length) (hj : j < (allC c ms).length) : leqM (allR c ms) (i : Int) (j : Int) = decide ((mt c ms i j : Int) = (i : Int)) := by
  obtain ⟨h1, _, h3⟩ := mt_at hr hc hi hj
  have ci := aa_closed (ms := ms) hr hc hi
  have cj := aa_closed (ms := ms) hr hc hj
  refine bool_eq ?_
  rw [leqM_aa hr hc hi hj, decide_eq_true_eq]
  constructor
  · intro h
    have : aa c ms (mt c ms i j) = aa c ms i := by
      rw [h3]
      exact SubB.antisymm ((clo_or_iff hr hc ci cj ci).2 ⟨SubB.refl _, h⟩) (clo_or_sub hr hc ci cj).1
    have := aa_inj hr hc h1 hi this
    omega
  · intro h
    have e : mt c ms i j = i := by omega
    rw [e] at h3
    rw [h3]
    exact (clo_or_sub hr hc ci cj).2
theorem law_rows (_hr : ms.length < 64) (_hc : c < 6) {i j : Nat} (hi : i < (allR c ms).length) (hj : j < (allR c ms).length) : leqM (allR c ms) (i : Int) (j : Int) = withinB (allR c ms)[i].1 (allR c ms)[j].1 := by
  have h1 : inB (allR c ms).length (i : Int) = true := by simp [inB]; omega
  have h2 : inB (allR c ms).length (j : Int) = true := by simp [inB]; omega
  rw [leqM, h1, h2, atM_nat hi, atM_nat hj]
  rfl
theorem law_cols (hr : ms.length < 64) (hc : c < 6) {i j : Nat} (hi : i < (allR c ms).length) (hj : j < (allR c ms).length) : leqM (allR c ms) (i : Int) (j : Int) = withinB (allR c ms)[j].2 (allR c ms)[i].2 := by
  have e := allR_lenC (ms := ms) hr hc
  have hp := pow_small (ms := ms) hr hc
  refine bool_eq ?_
  rw [leqM_iff hr hc (by omega) (by omega), allR_at hr hc hi, allR_at hr hc hj]
  simp only
  have g1 := allC_lt hr hc (closed_at (ms := ms) hr hc (i := i) (by omega))
  have g2 := allC_lt hr hc (closed_at (ms := ms) hr hc (i := j) (by omega))
  exact (withinB_iff (by omega) (by omega)).symm
theorem law_join_comm (hr : ms.length < 64) (hc : c < 6) {i j : Nat} (hi : i < (allC c ms).length) (hj : j < (allC c ms).length) : jn c ms i j = jn c ms j i := by
  obtain ⟨h1, _, h3⟩ := jn_at hr hc hi hj
  obtain ⟨g1, _, g3⟩ := jn_at hr hc hj hi
  exact aa_inj hr hc h1 g1 (by rw [h3, g3, Nat.and_comm])
theorem law_meet_comm (hr : ms.length < 64) (hc : c < 6) {i j : Nat} (hi : i < (allC c ms).length) (hj : j < (allC c ms).length) : mt c ms i j = mt c ms j i := by
  obtain ⟨h1, _, h3⟩ := mt_at hr hc hi hj
  obtain ⟨g1, _, g3⟩ := mt_at hr hc hj hi
  exact aa_inj hr hc h1 g1 (by rw [h3, g3, Nat.or_comm])
theorem law_join_assoc (hr : ms.length < 64) (hc : c < 6) {i j k : Nat} (hi : i < (allC c ms).length) (hj : j < (allC c ms).length) (hk : k < (allC c ms).length) : jn c ms i (jn c ms j k) = jn c ms (jn c ms i j) k := by
  obtain ⟨a1, _, a3⟩ := jn_at hr hc hj hk
  obtain ⟨b1, _, b3⟩ := jn_at hr hc hi hj
  obtain ⟨h1, _, h3⟩ := jn_at hr hc hi a1
  obtain ⟨g1, _, g3⟩ := jn_at hr hc b1 hk
  exact aa_inj hr hc h1 g1 (by rw [h3, g3, a3, b3, Nat.and_assoc])
theorem law_meet_assoc (hr : ms.length < 64) (hc : c < 6) {i j k : Nat} (hi : i < (allC c ms).length) (hj : j < (allC c ms).length) (hk : k < (allC c ms).length) : mt c ms i (mt c ms j k) = mt c ms (mt c ms i j) k := by
  obtain ⟨a1, _, a3⟩ := mt_at hr hc hj hk
  obtain ⟨b1, _, b3⟩ := mt_at hr hc hi hj
  obtain ⟨h1, _, h3⟩ := mt_at hr hc hi a1
  obtain ⟨g1, _, g3⟩ := mt_at hr hc b1 hk
  have ci := aa_closed (ms := ms) hr hc hi
  have cj := aa_closed (ms := ms) hr hc hj
  have ck := aa_closed (ms := ms) hr hc hk
  have ca := aa_closed (ms := ms) hr hc a1
  have cb := aa_closed (ms := ms) hr hc b1
  have ch := aa_closed (ms := ms) hr hc h1
  have cg := aa_closed (ms := ms) hr hc g1
  have s1 := clo_or_sub hr hc ci ca
  have s2 := clo_or_sub hr hc cj ck
  have s3 := clo_or_sub hr hc cb ck
  have s4 := clo_or_sub hr hc ci cj
  rw [← h3] at s1
  rw [← a3] at s2
  rw [← g3] at s3
  rw [← b3] at s4
  refine aa_inj hr hc h1 g1 (SubB.antisymm ?_ ?_)
  · have key : SubB (aa c ms (mt c ms j k)) (aa c ms (mt c ms (mt c ms i j) k)) := by
      rw [a3]
      exact (clo_or_iff hr hc cj ck cg).2 ⟨s4.2.trans s3.1, s3.2⟩
    rw [h3]
    exact (clo_or_iff hr hc ci ca cg).2 ⟨s4.1.trans s3.1, key⟩
  · have key : SubB (aa c ms (mt c ms i j)) (aa c ms (mt c ms i (mt c ms j k))) := by
      rw [b3]
      exact (clo_or_iff hr hc ci cj ch).2 ⟨s1.1, s2.1.trans s1.2⟩
    rw [g3]
    exact (clo_or_iff hr hc cb ck ch).2 ⟨key, s2.2.trans s1.2⟩
theorem law_absorb1 (hr : ms.length < 64) (hc : c < 6) {i j : Nat} (hi : i < (allC c ms).length) (hj : j < (allC c ms).length) : jn c ms i (mt c ms i j) = i := by
  obtain ⟨a1, _, a3⟩ := mt_at hr hc hi hj
  obtain ⟨h1, _, h3⟩ := jn_at hr hc hi a1
  refine aa_inj hr hc h1 hi ?_
  rw [h3, and_eq_iff, a3]
  exact (clo_or_sub hr hc (aa_closed hr hc hi) (aa_closed hr hc hj)).1
theorem law_absorb2 (hr : ms.length < 64) (hc : c < 6) {i j : Nat} (hi : i < (allC c ms).length) (hj : j < (allC c ms).length) : mt c ms i (jn c ms i j) = i := by
  obtain ⟨a1, _, a3⟩ := jn_at hr hc hi hj
  obtain ⟨h1, _, h3⟩ := mt_at hr hc hi a1
  have ci := aa_closed (ms := ms) hr hc hi
  have ca := aa_closed (ms := ms) hr hc a1
  refine aa_inj hr hc h1 hi ?_
  rw [h3]
  refine SubB.antisymm ((clo_or_iff hr hc ci ca ci).2 ⟨SubB.refl _, ?_⟩) (clo_or_sub hr hc ci ca).1
  rw [a3]
  exact (sub_and.1 (SubB.refl _)).1
end
theorem jnf_spec {X : PMap} {v : Value} {c : Nat} {ms : List Nat} (hr : ms.length < 64) (hc : c < 6) {b : Nat} (hB : Blk X b [v]) (h : LatR X v c ms (allR c ms)) {i j : Nat} (hi : i < (allC c ms).length) (hj : j < (allC c ms).length) :
    Spec Tryd.prog 23 [.int .i64 (i : Int), .int .i64 (j : Int), .pointer (some ⟨b, 0, none⟩)] X fun u _ => u = .int .i64 (jn c ms i j : Int) := by
  obtain ⟨bl, rfl⟩ := h.ptr
  obtain ⟨_, h2, _⟩ := jn_at hr hc hi hj
  refine Spec.enter Tryd.func23 rfl Tryd.ntmps23 rfl ?_
  intro w0 hw0
  refine T.seq ?_
  refine T.region ?_
  refine SL.y (op_assign (v := .int .i64 ((0 : Nat) : Int)) rfl) rfl rfl ?_
  refine SL.nil ?_
  refine T.seq ?_
  refine T.region ?_
  first | refine SL.y (op_load ty28 rfl (by repeat (first | exact AtO.here | apply AtO.there)) rfl) rfl rfl ?_ | refine SL.y (op_loadX ty28 rfl (by assumption) rfl) rfl rfl ?_
  refine SL.y (op_move rfl) rfl rfl ?_
  refine SL.y (op_move rfl) rfl rfl ?_
  -- op
  refine SL.x (op_callF en17 (vs := [_, _, _]) rfl (join_some (.inl h) h2)) rfl rfl ?_
  rintro _ _ X1 ⟨rfl, hX1, rfl⟩
  refine SL.y (op_move rfl) rfl rfl ?_
  refine SL.y (op_extract rfl rfl) rfl rfl ?_
  refine SL.y (op_extract rfl rfl) rfl rfl ?_
  refine SL.y (op_assign rfl) rfl rfl ?_
  refine SL.y (op_assign rfl) rfl rfl ?_
  refine SL.nil ?_
  refine T.seq ?_
  refine T.region ?_
  refine SL.y (op_move rfl) rfl rfl ?_
  refine SL.y (op_assign rfl) rfl rfl ?_
  refine SL.nil ?_
  -- ret
  refine T.ret1 rfl (ResIs.tmp rfl) ?_
  rfl
theorem mtf_spec {X : PMap} (hT : Tab X) {v : Value} {c : Nat} {ms : List Nat} (hr : ms.length < 64) (hc : c < 6) {b : Nat} (hB : Blk X b [v]) (h : LatR X v c ms (allR c ms)) {i j : Nat} (hi : i < (allC c ms).length) (hj : j < (allC c ms).length) :
    Spec Tryd.prog 24 [.int .i64 (i : Int), .int .i64 (j : Int), .pointer (some ⟨b, 0, none⟩)] X fun u _ => u = .int .i64 (mt c ms i j : Int) := by
  obtain ⟨bl, rfl⟩ := h.ptr
  obtain ⟨_, h2, _⟩ := mt_at hr hc hi hj
  refine Spec.enter Tryd.func24 rfl Tryd.ntmps24 rfl ?_
  intro w0 hw0
  refine T.seq ?_
  refine T.region ?_
  refine SL.y (op_assign (v := .int .i64 ((0 : Nat) : Int)) rfl) rfl rfl ?_
  refine SL.nil ?_
  refine T.seq ?_
  refine T.region ?_
  first | refine SL.y (op_load ty28 rfl (by repeat (first | exact AtO.here | apply AtO.there)) rfl) rfl rfl ?_ | refine SL.y (op_loadX ty28 rfl (by assumption) rfl) rfl rfl ?_
  refine SL.y (op_move rfl) rfl rfl ?_
  refine SL.y (op_move rfl) rfl rfl ?_
  -- op
  refine SL.x (op_callF en18 (vs := [_, _, _]) rfl (meet_some hT (.inl h) h2)) rfl rfl ?_
  rintro _ _ X1 ⟨rfl, hX1, rfl⟩
  refine SL.y (op_move rfl) rfl rfl ?_
  refine SL.y (op_extract rfl rfl) rfl rfl ?_
  refine SL.y (op_extract rfl rfl) rfl rfl ?_
  refine SL.y (op_assign rfl) rfl rfl ?_
  refine SL.y (op_assign rfl) rfl rfl ?_
  refine SL.nil ?_
  refine T.seq ?_
  refine T.region ?_
  refine SL.y (op_move rfl) rfl rfl ?_
  refine SL.y (op_assign rfl) rfl rfl ?_
  refine SL.nil ?_
  -- ret
  refine T.ret1 rfl (ResIs.tmp rfl) ?_
  rfl
theorem laws_spec {X : PMap} (hT : Tab X) {s : Value} {bs : List Nat} (R C : Nat) (hR : R < 256) (hC : C < 256) (h : BytesR X s bs) (u0 u1 u2 : Nat) (hu0 : u0 < 256) (hu1 : u1 < 256) (hu2 : u2 < 256) :
    Spec Tryd.prog 5 [.agg #[.int .u8 (R : Int), .int .u8 (C : Int), s], .agg #[.int .u8 (u0 : Int), .int .u8 (u1 : Int), .int .u8 (u2 : Int)]] X fun u _ => u = .bool true := by
  obtain ⟨A, cp, rfl⟩ := h.form
  have hc6 : C % 6 < 6 := Nat.mod_lt _ (by omega)
  have hr6 : R % 6 < 6 := Nat.mod_lt _ (by omega)
  have hlen := rawRows_len bs (R % 6) (C % 6)
  have hmk := fun (X : PMap) (hT : Tab X) (h : BytesR X (.slice A bs.length cp) bs) => make_spec hT R C hR hC h
  have hms := rawRows_lt bs (R % 6) (C % 6)
  generalize rawRows bs (R % 6) (C % 6) = ms at *
  generalize C % 6 = c at *
  have hr : ms.length < 64 := by omega
  have hal := allR_len (c := c) (ms := ms) hr hc6
  have hal2 := allR_lenC (ms := ms) hr hc6
  have hpos := allC_pos (ms := ms) hr hc6
  obtain ⟨_, _, hsm⟩ := allR_small (ms := ms) hr hc6
  refine Spec.enter Tryd.func5 rfl Tryd.ntmps5 rfl ?_
  intro w0 hw0
  refine T.seq ?_
  refine T.region ?_
  refine SL.x (op_box rfl) rfl rfl ?_
  rintro _ _ _ ⟨B2, rfl, rfl, rfl⟩
  refine SL.x (op_box rfl) rfl rfl ?_
  rintro _ _ _ ⟨B3, rfl, rfl, rfl⟩
  refine SL.y (op_assign rfl) rfl rfl ?_
  refine SL.nil ?_
  refine T.seq ?_
  refine T.seq ?_
  refine T.region ?_
  -- op
  refine SL.x (op_callF en13 (vs := []) rfl (awake_spec hT)) rfl rfl ?_
  rintro _ _ X1 ⟨rfl, hX1, rfl⟩
  refine SL.y (op_not rfl) rfl rfl ?_
  refine SL.nil ?_
  refine T.condF rfl ?_
  refine T.skip ?_
  refine T.seq ?_
  refine T.region ?_
  first | refine SL.y (op_load ty24 rfl (by repeat (first | exact AtO.here | apply AtO.there)) rfl) rfl rfl ?_ | refine SL.y (op_loadX ty24 rfl (by assumption) rfl) rfl rfl ?_
  -- op
  refine SL.x (op_callF en14 (vs := [_]) rfl (hmk _ (hT.mono hX1) (h.mono hX1))) rfl rfl ?_
  rintro _ _ X2 ⟨rfl, hX2, pm, lat, t, rfl, hM, hL, hC⟩
  obtain ⟨bm, rfl⟩ := hM.ptr
  obtain ⟨bl, rfl⟩ := hL.ptr
  obtain ⟨At, cpt, rfl⟩ := hC.1.form
  refine SL.y (op_move rfl) rfl rfl ?_
  refine SL.y (op_extract rfl rfl) rfl rfl ?_
  refine SL.y (op_extract rfl rfl) rfl rfl ?_
  refine SL.y (op_extract rfl rfl) rfl rfl ?_
  refine SL.x (op_alloc z28) rfl rfl ?_
  rintro _ _ _ ⟨B6, rfl, rfl, rfl⟩
  refine SL.y (op_assign rfl) rfl rfl ?_
  refine SL.x (op_store ty28 rfl rfl (by repeat (first | exact AtO.here | apply AtO.there)) rfl rfl rfl) rfl rfl ?_
  rintro _ _ _ ⟨rfl, rfl⟩
  refine SL.y (op_assign rfl) rfl rfl ?_
  refine SL.nil ?_
  refine T.seq ?_
  refine T.seq ?_
  refine T.region ?_
  first | refine SL.y (op_load ty28 rfl (by repeat (first | exact AtO.here | apply AtO.there)) rfl) rfl rfl ?_ | refine SL.y (op_loadX ty28 rfl (by assumption) rfl) rfl rfl ?_
  refine SL.y (op_eqlNil Tryd.underlying28 rfl rfl) rfl rfl ?_
  refine SL.y (op_move rfl) rfl rfl ?_
  first | refine SL.skip rfl rfl ?_ | refine SL.y (op_load ty28 rfl (by repeat (first | exact AtO.here | apply AtO.there)) rfl) rfl rfl ?_ | refine SL.y (op_loadX ty28 rfl (by assumption) rfl) rfl rfl ?_
  -- op
  refine SL.x (op_callF en16 (vs := [_]) rfl (llen_spec (.inl hL))) rfl rfl ?_
  rintro _ _ X3 ⟨rfl, hX3, rfl⟩
  first | refine SL.skip rfl rfl ?_ | refine SL.y (op_eqlT rfl rfl (by omega)) rfl rfl ?_ | refine SL.y (op_eqlF rfl rfl (by omega)) rfl rfl ?_ | refine SL.y (op_eql rfl rfl) rfl rfl ?_
  first | refine SL.y (op_pickT rfl rfl) rfl rfl ?_ | refine SL.y (op_pickF rfl rfl) rfl rfl ?_ | refine SL.y (op_pickB rfl rfl rfl) rfl rfl ?_
  refine SL.nil ?_
  refine T.condF rfl ?_
  refine T.skip ?_
  refine T.seq ?_
  refine T.draw (by kernel_rfl) 21 [.t 0, .t 1, .t 2, .t 3, .t 6, .t 7, .t 8, .t 9, .t 12, .t 13, .t 14, .t 15, .r 4, .t 5, .r 10, .t 11, .r 16, .t 17, .t 18, .t 19, .t 20] (by kernel_rfl) ?_
  refine SD.take rfl panicBody (op_indexA (i := 0) Tryd.underlying43 ty5 rfl rfl (by omega)) rfl rfl ?_
  first | refine SD.take rfl panicBody (op_load ty5 rfl (by repeat (first | exact AtO.here | apply AtO.there)) rfl) rfl rfl ?_ | refine SD.take rfl panicBody (op_loadX ty5 rfl (by assumption) rfl) rfl rfl ?_
  first | refine SD.take rfl panicBody (op_convI64 Tryd.underlying5 Tryd.underlying3 rfl (by omega) (by omega)) rfl rfl ?_ | refine SD.take rfl panicBody (op_convert Tryd.underlying5 Tryd.underlying3 rfl) rfl rfl ?_
  first | refine SD.take rfl panicBody (op_load ty28 rfl (by repeat (first | exact AtO.here | apply AtO.there)) rfl) rfl rfl ?_ | refine SD.take rfl panicBody (op_loadX ty28 rfl (by assumption) rfl) rfl rfl ?_
  refine SD.take rfl panicBody (op_indexA (i := 1) Tryd.underlying43 ty5 rfl rfl (by omega)) rfl rfl ?_
  first | refine SD.take rfl panicBody (op_load ty5 rfl (by repeat (first | exact AtO.here | apply AtO.there)) rfl) rfl rfl ?_ | refine SD.take rfl panicBody (op_loadX ty5 rfl (by assumption) rfl) rfl rfl ?_
  first | refine SD.take rfl panicBody (op_convI64 Tryd.underlying5 Tryd.underlying3 rfl (by omega) (by omega)) rfl rfl ?_ | refine SD.take rfl panicBody (op_convert Tryd.underlying5 Tryd.underlying3 rfl) rfl rfl ?_
  first | refine SD.take rfl panicBody (op_load ty28 rfl (by repeat (first | exact AtO.here | apply AtO.there)) rfl) rfl rfl ?_ | refine SD.take rfl panicBody (op_loadX ty28 rfl (by assumption) rfl) rfl rfl ?_
  refine SD.take rfl panicBody (op_indexA (i := 2) Tryd.underlying43 ty5 rfl rfl (by omega)) rfl rfl ?_
  first | refine SD.take rfl panicBody (op_load ty5 rfl (by repeat (first | exact AtO.here | apply AtO.there)) rfl) rfl rfl ?_ | refine SD.take rfl panicBody (op_loadX ty5 rfl (by assumption) rfl) rfl rfl ?_
  first | refine SD.take rfl panicBody (op_convI64 Tryd.underlying5 Tryd.underlying3 rfl (by omega) (by omega)) rfl rfl ?_ | refine SD.take rfl panicBody (op_convert Tryd.underlying5 Tryd.underlying3 rfl) rfl rfl ?_
  first | refine SD.take rfl panicBody (op_load ty28 rfl (by repeat (first | exact AtO.here | apply AtO.there)) rfl) rfl rfl ?_ | refine SD.take rfl panicBody (op_loadX ty28 rfl (by assumption) rfl) rfl rfl ?_
  -- op
  refine SD.run rfl (op_callF en16 (vs := [_]) rfl (llen_spec (.inl (hL.mono hX3)))) rfl rfl ?_
  rintro _ _ X4 ⟨rfl, hX4, rfl⟩
  refine SD.take rfl panicBody (op_remN (q := (allR c ms).length) rfl rfl rfl (by omega)) rfl rfl ?_
  refine SD.run rfl (op_callF en16 (vs := [_]) rfl (llen_spec (.inl ((hL.mono hX3).mono hX4)))) rfl rfl ?_
  rintro _ _ X5 ⟨rfl, hX5, rfl⟩
  refine SD.take rfl panicBody (op_remN (q := (allR c ms).length) rfl rfl rfl (by omega)) rfl rfl ?_
  refine SD.run rfl (op_callF en16 (vs := [_]) rfl (llen_spec (.inl (((hL.mono hX3).mono hX4).mono hX5)))) rfl rfl ?_
  rintro _ _ X6 ⟨rfl, hX6, rfl⟩
  refine SD.take rfl panicBody (op_remN (q := (allR c ms).length) rfl rfl rfl (by omega)) rfl rfl ?_
  have hi0 : u0 % (allR c ms).length < (allR c ms).length := Nat.mod_lt _ (by omega)
  have hj0 : u1 % (allR c ms).length < (allR c ms).length := Nat.mod_lt _ (by omega)
  have hk0 : u2 % (allR c ms).length < (allR c ms).length := Nat.mod_lt _ (by omega)
  generalize u0 % (allR c ms).length = i at *
  generalize u1 % (allR c ms).length = j at *
  generalize u2 % (allR c ms).length = k at *
  have hi : i < (allC c ms).length := by omega
  have hj : j < (allC c ms).length := by omega
  have hk : k < (allC c ms).length := by omega
  refine SD.take rfl panicBody (op_assign rfl) rfl rfl ?_
  refine SD.take rfl panicBody (op_assign rfl) rfl rfl ?_
  refine SD.take rfl panicBody (op_assign rfl) rfl rfl ?_
  refine SD.nil ?_
  show SL _ _ _ _ _ _ _ [] _ _ _
  refine SL.nil ?_
  refine T.seq ?_
  refine T.region ?_
  -- to 50: op
  refine T.pubAt B6 (by repeat (first | exact AtO.here | apply AtO.there)) ?_
  intro X7 hX7 hB6 _
  have hX27 := (((hX3.trans' hX4).trans' hX5).trans' hX6).trans' hX7
  have hT7 := ((hT.mono hX1).mono hX2).mono hX27
  have hL7 := hL.mono hX27
  refine SL.y (op_makeFunc (vs := []) (us := [_]) rfl rfl) rfl rfl ?_
  refine SL.y (op_assign rfl) rfl rfl ?_
  refine SL.nil ?_
  refine T.seq ?_
  refine T.region ?_
  refine SL.y (op_makeFunc (vs := []) (us := [_]) rfl rfl) rfl rfl ?_
  refine SL.y (op_assign rfl) rfl rfl ?_
  refine SL.nil ?_
  refine T.seq ?_
  refine T.region ?_
  first | refine SL.y (op_load ty28 rfl (by repeat (first | exact AtO.here | apply AtO.there)) rfl) rfl rfl ?_ | refine SL.y (op_loadX ty28 rfl (by assumption) rfl) rfl rfl ?_
  refine SL.y (op_move rfl) rfl rfl ?_
  -- op
  refine SL.x (op_callF en25 (vs := [_, _]) rfl (at_val (.inl hL7) hi0)) rfl rfl ?_
  rintro _ _ X8 ⟨rfl, hX8, x, y, rfl, hx, hy⟩
  obtain ⟨Ax, lx, cx, hxe⟩ := hx.form
  obtain ⟨Ay, ly, cy, hye⟩ := hy.form
  obtain rfl : x = .slice Ax lx cx := by simpa using hxe
  obtain rfl : y = .slice Ay ly cy := by simpa using hye
  have hB8 := hB6.mono hX8
  refine SL.y (op_move rfl) rfl rfl ?_
  refine SL.y (op_extract rfl rfl) rfl rfl ?_
  refine SL.y (op_extract rfl rfl) rfl rfl ?_
  refine SL.x (op_alloc z49) rfl rfl ?_
  rintro _ _ _ ⟨B13, rfl, rfl, rfl⟩
  refine SL.x (op_store ty49 rfl rfl (by repeat (first | exact AtO.here | apply AtO.there)) rfl rfl rfl) rfl rfl ?_
  rintro _ _ _ ⟨rfl, rfl⟩
  refine SL.y (op_assign rfl) rfl rfl ?_
  refine SL.nil ?_
  refine T.seq ?_
  refine T.region ?_
  first | refine SL.y (op_load ty28 rfl (by repeat (first | exact AtO.here | apply AtO.there)) rfl) rfl rfl ?_ | refine SL.y (op_loadX ty28 rfl (by assumption) rfl) rfl rfl ?_
  refine SL.y (op_move rfl) rfl rfl ?_
  -- op
  refine SL.x (op_callF en25 (vs := [_, _]) rfl (at_val (.inl (hL7.mono hX8)) hj0)) rfl rfl ?_
  rintro _ _ X9 ⟨rfl, hX9, x2, y2, rfl, hx2, hy2⟩
  obtain ⟨Ax2, lx2, cx2, hxe2⟩ := hx2.form
  obtain ⟨Ay2, ly2, cy2, hye2⟩ := hy2.form
  obtain rfl : x2 = .slice Ax2 lx2 cx2 := by simpa using hxe2
  obtain rfl : y2 = .slice Ay2 ly2 cy2 := by simpa using hye2
  have hX79 := hX8.trans' hX9
  have hB9 := hB6.mono hX79
  have hT9 := hT7.mono hX79
  have hL9 := hL7.mono hX79
  have hxx := hx.mono hX9
  have hyy := hy.mono hX9
  refine SL.y (op_move rfl) rfl rfl ?_
  refine SL.y (op_extract rfl rfl) rfl rfl ?_
  refine SL.y (op_extract rfl rfl) rfl rfl ?_
  refine SL.x (op_alloc z49) rfl rfl ?_
  rintro _ _ _ ⟨B15, rfl, rfl, rfl⟩
  refine SL.x (op_store ty49 rfl rfl (by repeat (first | exact AtO.here | apply AtO.there)) rfl rfl rfl) rfl rfl ?_
  rintro _ _ _ ⟨rfl, rfl⟩
  refine SL.y (op_assign rfl) rfl rfl ?_
  refine SL.nil ?_
  refine T.seq ?_
  refine T.seq ?_
  refine T.draw (by kernel_rfl) 48 [.t 0, .t 1, .t 2, .t 4, .t 5, .t 6, .t 7, .r 3, .r 8, .t 9, .t 10, .t 11, .t 12, .t 13, .t 15, .t 16, .t 17, .t 18, .r 14, .r 19, .t 20, .t 21, .t 22, .t 23, .t 24, .t 25, .t 27, .t 28, .t 29, .t 31, .r 26, .r 30, .t 32, .t 33, .t 34, .t 35, .t 36, .t 37, .t 38, .t 40, .t 41, .t 42, .t 44, .r 39, .r 43, .t 45, .t 46, .t 47] (by kernel_rfl) ?_
  first | refine SD.take rfl panicBody (op_load ty28 rfl (by repeat (first | exact AtO.here | apply AtO.there)) rfl) rfl rfl ?_ | refine SD.take rfl panicBody (op_loadX ty28 rfl (by assumption) rfl) rfl rfl ?_
  refine SD.take rfl panicBody (op_move rfl) rfl rfl ?_
  refine SD.take rfl panicBody (op_move rfl) rfl rfl ?_
  refine SD.take rfl panicBody (op_fieldAddr fa49_0 rfl) rfl rfl ?_
  first | refine SD.take rfl panicBody (op_load ty47 rfl (by repeat (first | exact AtO.here | apply AtO.there)) rfl) rfl rfl ?_ | refine SD.take rfl panicBody (op_loadX ty47 rfl (by assumption) rfl) rfl rfl ?_
  refine SD.take rfl panicBody (op_fieldAddr fa49_0 rfl) rfl rfl ?_
  first | refine SD.take rfl panicBody (op_load ty47 rfl (by repeat (first | exact AtO.here | apply AtO.there)) rfl) rfl rfl ?_ | refine SD.take rfl panicBody (op_loadX ty47 rfl (by assumption) rfl) rfl rfl ?_
  -- op
  have hW : X9.le X9 := PMap.le_refl _
  refine SD.run rfl (op_callF en19 (vs := [_, _, _]) rfl (leq_val (.inl (hL9.mono hW)) (law_rows hr hc6 hi0 hj0))) rfl rfl ?_
  rintro _ _ Y21 ⟨rfl, hY21, rfl⟩
  have hW := hW.trans' hY21
  refine SD.run rfl (op_callF en26 (vs := [_, _]) rfl (within_spec (hxx.mono hW) (hx2.mono hW))) rfl rfl ?_
  rintro _ _ Y22 ⟨rfl, hY22, rfl⟩
  have hW := hW.trans' hY22
  refine SD.take rfl panicBody (op_neqBS Tryd.underlying4 rfl rfl) rfl rfl ?_
  refine SD.take rfl panicBody (op_move rfl) rfl rfl ?_
  first | refine SD.skip rfl panicBody rfl rfl ?_ | refine SD.take rfl panicBody (op_load ty28 rfl (by repeat (first | exact AtO.here | apply AtO.there)) rfl) rfl rfl ?_ | refine SD.take rfl panicBody (op_loadX ty28 rfl (by assumption) rfl) rfl rfl ?_
  first | refine SD.skip rfl panicBody rfl rfl ?_ | refine SD.take rfl panicBody (op_move rfl) rfl rfl ?_
  first | refine SD.skip rfl panicBody rfl rfl ?_ | refine SD.take rfl panicBody (op_move rfl) rfl rfl ?_
  first | refine SD.skip rfl panicBody rfl rfl ?_ | refine SD.take rfl panicBody (op_fieldAddr fa49_1 rfl) rfl rfl ?_
  first | refine SD.skip rfl panicBody rfl rfl ?_ | refine SD.take rfl panicBody (op_load ty47 rfl (by repeat (first | exact AtO.here | apply AtO.there)) rfl) rfl rfl ?_ | refine SD.take rfl panicBody (op_loadX ty47 rfl (by assumption) rfl) rfl rfl ?_
  first | refine SD.skip rfl panicBody rfl rfl ?_ | refine SD.take rfl panicBody (op_fieldAddr fa49_1 rfl) rfl rfl ?_
  first | refine SD.skip rfl panicBody rfl rfl ?_ | refine SD.take rfl panicBody (op_load ty47 rfl (by repeat (first | exact AtO.here | apply AtO.there)) rfl) rfl rfl ?_ | refine SD.take rfl panicBody (op_loadX ty47 rfl (by assumption) rfl) rfl rfl ?_
  -- op
  refine SD.run rfl (op_callF en19 (vs := [_, _, _]) rfl (leq_val (.inl (hL9.mono hW)) (law_cols hr hc6 hi0 hj0))) rfl rfl ?_
  rintro _ _ Y23 ⟨rfl, hY23, rfl⟩
  have hW := hW.trans' hY23
  -- op
  refine SD.run rfl (op_callF en26 (vs := [_, _]) rfl (within_spec (hy2.mono hW) (hyy.mono hW))) rfl rfl ?_
  rintro _ _ Y24 ⟨rfl, hY24, rfl⟩
  have hW := hW.trans' hY24
  refine SD.take rfl panicBody (op_neqBS Tryd.underlying4 rfl rfl) rfl rfl ?_
  first | refine SD.take rfl panicBody (op_pickT rfl rfl) rfl rfl ?_ | refine SD.take rfl panicBody (op_pickF rfl rfl) rfl rfl ?_ | refine SD.take rfl panicBody (op_pickB rfl rfl rfl) rfl rfl ?_
  refine SD.take rfl panicBody (op_move rfl) rfl rfl ?_
  first | refine SD.skip rfl panicBody rfl rfl ?_ | refine SD.take rfl panicBody (op_load ty28 rfl (by repeat (first | exact AtO.here | apply AtO.there)) rfl) rfl rfl ?_ | refine SD.take rfl panicBody (op_loadX ty28 rfl (by assumption) rfl) rfl rfl ?_
  first | refine SD.skip rfl panicBody rfl rfl ?_ | refine SD.take rfl panicBody (op_move rfl) rfl rfl ?_
  first | refine SD.skip rfl panicBody rfl rfl ?_ | refine SD.take rfl panicBody (op_move rfl) rfl rfl ?_
  first | refine SD.skip rfl panicBody rfl rfl ?_ | refine SD.take rfl panicBody (op_move rfl) rfl rfl ?_
  first | refine SD.skip rfl panicBody rfl rfl ?_ | refine SD.take rfl panicBody (op_move rfl) rfl rfl ?_
  first | refine SD.skip rfl panicBody rfl rfl ?_ | refine SD.take rfl panicBody (op_move rfl) rfl rfl ?_
  first | refine SD.skip rfl panicBody rfl rfl ?_ | refine SD.take rfl panicBody (op_move rfl) rfl rfl ?_
  -- op
  refine SD.run rfl (op_callF en19 (vs := [_, _, _]) rfl (leq_val (.inl (hL9.mono hW)) (law_join_eq hr hc6 hi hj))) rfl rfl ?_
  rintro _ _ Y25 ⟨rfl, hY25, rfl⟩
  have hW := hW.trans' hY25
  -- op
  refine SD.run rfl (op_call en23 rfl (vs := [_, _]) rfl (jnf_spec hr hc6 (hB9.mono hW) (hL9.mono hW) hi hj)) rfl rfl ?_
  rintro _ _ Y26 ⟨rfl, hY26, rfl⟩
  have hW := hW.trans' hY26
  first | refine SD.skip rfl panicBody rfl rfl ?_ | refine SD.take rfl panicBody (op_eqlT rfl rfl (by omega)) rfl rfl ?_ | refine SD.take rfl panicBody (op_eqlF rfl rfl (by omega)) rfl rfl ?_ | refine SD.take rfl panicBody (op_eql rfl rfl) rfl rfl ?_
  -- to 97: op
  refine SD.take rfl panicBody (op_neqBS Tryd.underlying4 rfl rfl) rfl rfl ?_
  first | refine SD.take rfl panicBody (op_pickT rfl rfl) rfl rfl ?_ | refine SD.take rfl panicBody (op_pickF rfl rfl) rfl rfl ?_ | refine SD.take rfl panicBody (op_pickB rfl rfl rfl) rfl rfl ?_
  refine SD.take rfl panicBody (op_move rfl) rfl rfl ?_
  first | refine SD.skip rfl panicBody rfl rfl ?_ | refine SD.take rfl panicBody (op_load ty28 rfl (by repeat (first | exact AtO.here | apply AtO.there)) rfl) rfl rfl ?_ | refine SD.take rfl panicBody (op_loadX ty28 rfl (by assumption) rfl) rfl rfl ?_
  first | refine SD.skip rfl panicBody rfl rfl ?_ | refine SD.take rfl panicBody (op_move rfl) rfl rfl ?_
  first | refine SD.skip rfl panicBody rfl rfl ?_ | refine SD.take rfl panicBody (op_move rfl) rfl rfl ?_
  first | refine SD.skip rfl panicBody rfl rfl ?_ | refine SD.take rfl panicBody (op_move rfl) rfl rfl ?_
  first | refine SD.skip rfl panicBody rfl rfl ?_ | refine SD.take rfl panicBody (op_move rfl) rfl rfl ?_
  first | refine SD.skip rfl panicBody rfl rfl ?_ | refine SD.take rfl panicBody (op_move rfl) rfl rfl ?_
  first | refine SD.skip rfl panicBody rfl rfl ?_ | refine SD.take rfl panicBody (op_move rfl) rfl rfl ?_
  -- op
  refine SD.run rfl (op_callF en19 (vs := [_, _, _]) rfl (leq_val (.inl (hL9.mono hW)) (law_meet_eq hr hc6 hi hj))) rfl rfl ?_
  rintro _ _ Y27 ⟨rfl, hY27, rfl⟩
  have hW := hW.trans' hY27
  -- op
  refine SD.run rfl (op_call en24 rfl (vs := [_, _]) rfl (mtf_spec (hT9.mono hW) hr hc6 (hB9.mono hW) (hL9.mono hW) hi hj)) rfl rfl ?_
  rintro _ _ Y28 ⟨rfl, hY28, rfl⟩
  have hW := hW.trans' hY28
  first | refine SD.skip rfl panicBody rfl rfl ?_ | refine SD.take rfl panicBody (op_eqlT rfl rfl (by omega)) rfl rfl ?_ | refine SD.take rfl panicBody (op_eqlF rfl rfl (by omega)) rfl rfl ?_ | refine SD.take rfl panicBody (op_eql rfl rfl) rfl rfl ?_
  -- to 110: op
  refine SD.take rfl panicBody (op_neqBS Tryd.underlying4 rfl rfl) rfl rfl ?_
  have jij := (jn_at hr hc6 hi hj).1
  have mij := (mt_at hr hc6 hi hj).1
  have jjk := (jn_at hr hc6 hj hk).1
  have mjk := (mt_at hr hc6 hj hk).1
  have e1 := law_join_comm hr hc6 hi hj
  have e2 := law_meet_comm hr hc6 hi hj
  have e3 := law_join_assoc hr hc6 hi hj hk
  have e4 := law_meet_assoc hr hc6 hi hj hk
  have e5 := law_absorb1 hr hc6 hi hj
  have e6 := law_absorb2 hr hc6 hi hj
  first | refine SD.take rfl panicBody (op_pickT rfl rfl) rfl rfl ?_ | refine SD.take rfl panicBody (op_pickF rfl rfl) rfl rfl ?_ | refine SD.take rfl panicBody (op_pickB rfl rfl rfl) rfl rfl ?_
  refine SD.nil ?_
  show SL _ _ _ _ _ _ _ [] _ _ _
  refine SL.nil ?_
  refine T.condF rfl ?_
  refine T.skip ?_
  refine T.seq ?_
  refine T.region ?_
  refine SL.y (op_move rfl) rfl rfl ?_
  refine SL.y (op_move rfl) rfl rfl ?_
  refine SL.y (op_move rfl) rfl rfl ?_
  -- op
  refine SL.x (op_call en23 rfl (vs := [_, _]) rfl (jnf_spec hr hc6 (hB9.mono hW) (hL9.mono hW) hi hj)) rfl rfl ?_
  rintro _ _ Y29 ⟨rfl, hY29, rfl⟩
  have hW := hW.trans' hY29
  refine SL.y (op_move rfl) rfl rfl ?_
  refine SL.y (op_move rfl) rfl rfl ?_
  refine SL.y (op_move rfl) rfl rfl ?_
  -- op
  refine SL.x (op_call en23 rfl (vs := [_, _]) rfl (jnf_spec hr hc6 (hB9.mono hW) (hL9.mono hW) hj hi)) rfl rfl ?_
  rintro _ _ Y30 ⟨rfl, hY30, rfl⟩
  have hW := hW.trans' hY30
  first | refine SL.y (op_eqlT rfl rfl (by omega)) rfl rfl ?_ | refine SL.y (op_eqlF rfl rfl (by omega)) rfl rfl ?_ | refine SL.y (op_eql rfl rfl) rfl rfl ?_
  refine SL.y (op_move rfl) rfl rfl ?_
  first | refine SL.skip rfl rfl ?_ | refine SL.y (op_move rfl) rfl rfl ?_
  first | refine SL.skip rfl rfl ?_ | refine SL.y (op_move rfl) rfl rfl ?_
  first | refine SL.skip rfl rfl ?_ | refine SL.y (op_move rfl) rfl rfl ?_
  -- op
  refine SL.x (op_call en24 rfl (vs := [_, _]) rfl (mtf_spec (hT9.mono hW) hr hc6 (hB9.mono hW) (hL9.mono hW) hi hj)) rfl rfl ?_
  rintro _ _ Y31 ⟨rfl, hY31, rfl⟩
  have hW := hW.trans' hY31
  first | refine SL.skip rfl rfl ?_ | refine SL.y (op_move rfl) rfl rfl ?_
  first | refine SL.skip rfl rfl ?_ | refine SL.y (op_move rfl) rfl rfl ?_
  first | refine SL.skip rfl rfl ?_ | refine SL.y (op_move rfl) rfl rfl ?_
  -- op
  refine SL.x (op_call en24 rfl (vs := [_, _]) rfl (mtf_spec (hT9.mono hW) hr hc6 (hB9.mono hW) (hL9.mono hW) hj hi)) rfl rfl ?_
  rintro _ _ Y32 ⟨rfl, hY32, rfl⟩
  have hW := hW.trans' hY32
  first | refine SL.skip rfl rfl ?_ | refine SL.y (op_eqlT rfl rfl (by omega)) rfl rfl ?_ | refine SL.y (op_eqlF rfl rfl (by omega)) rfl rfl ?_ | refine SL.y (op_eql rfl rfl) rfl rfl ?_
  first | refine SL.y (op_pickT rfl rfl) rfl rfl ?_ | refine SL.y (op_pickF rfl rfl) rfl rfl ?_ | refine SL.y (op_pickB rfl rfl rfl) rfl rfl ?_
  refine SL.y (op_move rfl) rfl rfl ?_
  first | refine SL.skip rfl rfl ?_ | refine SL.y (op_move rfl) rfl rfl ?_
  first | refine SL.skip rfl rfl ?_ | refine SL.y (op_move rfl) rfl rfl ?_
  first | refine SL.skip rfl rfl ?_ | refine SL.y (op_move rfl) rfl rfl ?_
  first | refine SL.skip rfl rfl ?_ | refine SL.y (op_move rfl) rfl rfl ?_
  first | refine SL.skip rfl rfl ?_ | refine SL.y (op_move rfl) rfl rfl ?_
  -- op
  refine SL.x (op_call en23 rfl (vs := [_, _]) rfl (jnf_spec hr hc6 (hB9.mono hW) (hL9.mono hW) hj hk)) rfl rfl ?_
  rintro _ _ Y33 ⟨rfl, hY33, rfl⟩
  have hW := hW.trans' hY33
  -- op
  refine SL.x (op_call en23 rfl (vs := [_, _]) rfl (jnf_spec hr hc6 (hB9.mono hW) (hL9.mono hW) hi jjk)) rfl rfl ?_
  rintro _ _ Y34 ⟨rfl, hY34, rfl⟩
  have hW := hW.trans' hY34
  first | refine SL.skip rfl rfl ?_ | refine SL.y (op_move rfl) rfl rfl ?_
  first | refine SL.skip rfl rfl ?_ | refine SL.y (op_move rfl) rfl rfl ?_
  first | refine SL.skip rfl rfl ?_ | refine SL.y (op_move rfl) rfl rfl ?_
  first | refine SL.skip rfl rfl ?_ | refine SL.y (op_move rfl) rfl rfl ?_
  -- op
  refine SL.x (op_call en23 rfl (vs := [_, _]) rfl (jnf_spec hr hc6 (hB9.mono hW) (hL9.mono hW) hi hj)) rfl rfl ?_
  rintro _ _ Y35 ⟨rfl, hY35, rfl⟩
  have hW := hW.trans' hY35
  first | refine SL.skip rfl rfl ?_ | refine SL.y (op_move rfl) rfl rfl ?_
  -- op
  refine SL.x (op_call en23 rfl (vs := [_, _]) rfl (jnf_spec hr hc6 (hB9.mono hW) (hL9.mono hW) jij hk)) rfl rfl ?_
  rintro _ _ Y36 ⟨rfl, hY36, rfl⟩
  have hW := hW.trans' hY36
  first | refine SL.skip rfl rfl ?_ | refine SL.y (op_eqlT rfl rfl (by omega)) rfl rfl ?_ | refine SL.y (op_eqlF rfl rfl (by omega)) rfl rfl ?_ | refine SL.y (op_eql rfl rfl) rfl rfl ?_
  first | refine SL.y (op_pickT rfl rfl) rfl rfl ?_ | refine SL.y (op_pickF rfl rfl) rfl rfl ?_ | refine SL.y (op_pickB rfl rfl rfl) rfl rfl ?_
  refine SL.y (op_move rfl) rfl rfl ?_
  first | refine SL.skip rfl rfl ?_ | refine SL.y (op_move rfl) rfl rfl ?_
  first | refine SL.skip rfl rfl ?_ | refine SL.y (op_move rfl) rfl rfl ?_
  first | refine SL.skip rfl rfl ?_ | refine SL.y (op_move rfl) rfl rfl ?_
  first | refine SL.skip rfl rfl ?_ | refine SL.y (op_move rfl) rfl rfl ?_
  first | refine SL.skip rfl rfl ?_ | refine SL.y (op_move rfl) rfl rfl ?_
  -- op
  refine SL.x (op_call en24 rfl (vs := [_, _]) rfl (mtf_spec (hT9.mono hW) hr hc6 (hB9.mono hW) (hL9.mono hW) hj hk)) rfl rfl ?_
  rintro _ _ Y37 ⟨rfl, hY37, rfl⟩
  have hW := hW.trans' hY37
  -- op
  refine SL.x (op_call en24 rfl (vs := [_, _]) rfl (mtf_spec (hT9.mono hW) hr hc6 (hB9.mono hW) (hL9.mono hW) hi mjk)) rfl rfl ?_
  rintro _ _ Y38 ⟨rfl, hY38, rfl⟩
  have hW := hW.trans' hY38
  first | refine SL.skip rfl rfl ?_ | refine SL.y (op_move rfl) rfl rfl ?_
  first | refine SL.skip rfl rfl ?_ | refine SL.y (op_move rfl) rfl rfl ?_
  first | refine SL.skip rfl rfl ?_ | refine SL.y (op_move rfl) rfl rfl ?_
  first | refine SL.skip rfl rfl ?_ | refine SL.y (op_move rfl) rfl rfl ?_
  -- op
  refine SL.x (op_call en24 rfl (vs := [_, _]) rfl (mtf_spec (hT9.mono hW) hr hc6 (hB9.mono hW) (hL9.mono hW) hi hj)) rfl rfl ?_
  rintro _ _ Y39 ⟨rfl, hY39, rfl⟩
  have hW := hW.trans' hY39
  first | refine SL.skip rfl rfl ?_ | refine SL.y (op_move rfl) rfl rfl ?_
  -- op
  refine SL.x (op_call en24 rfl (vs := [_, _]) rfl (mtf_spec (hT9.mono hW) hr hc6 (hB9.mono hW) (hL9.mono hW) mij hk)) rfl rfl ?_
  rintro _ _ Y40 ⟨rfl, hY40, rfl⟩
  have hW := hW.trans' hY40
  first | refine SL.skip rfl rfl ?_ | refine SL.y (op_eqlT rfl rfl (by omega)) rfl rfl ?_ | refine SL.y (op_eqlF rfl rfl (by omega)) rfl rfl ?_ | refine SL.y (op_eql rfl rfl) rfl rfl ?_
  first | refine SL.y (op_pickT rfl rfl) rfl rfl ?_ | refine SL.y (op_pickF rfl rfl) rfl rfl ?_ | refine SL.y (op_pickB rfl rfl rfl) rfl rfl ?_
  refine SL.y (op_move rfl) rfl rfl ?_
  first | refine SL.skip rfl rfl ?_ | refine SL.y (op_move rfl) rfl rfl ?_
  first | refine SL.skip rfl rfl ?_ | refine SL.y (op_move rfl) rfl rfl ?_
  first | refine SL.skip rfl rfl ?_ | refine SL.y (op_move rfl) rfl rfl ?_
  first | refine SL.skip rfl rfl ?_ | refine SL.y (op_move rfl) rfl rfl ?_
  first | refine SL.skip rfl rfl ?_ | refine SL.y (op_move rfl) rfl rfl ?_
  -- op
  refine SL.x (op_call en24 rfl (vs := [_, _]) rfl (mtf_spec (hT9.mono hW) hr hc6 (hB9.mono hW) (hL9.mono hW) hi hj)) rfl rfl ?_
  rintro _ _ Y41 ⟨rfl, hY41, rfl⟩
  have hW := hW.trans' hY41
  -- op
  refine SL.x (op_call en23 rfl (vs := [_, _]) rfl (jnf_spec hr hc6 (hB9.mono hW) (hL9.mono hW) hi mij)) rfl rfl ?_
  rintro _ _ Y42 ⟨rfl, hY42, rfl⟩
  have hW := hW.trans' hY42
  first | refine SL.skip rfl rfl ?_ | refine SL.y (op_move rfl) rfl rfl ?_
  first | refine SL.skip rfl rfl ?_ | refine SL.y (op_eqlT rfl rfl (by omega)) rfl rfl ?_ | refine SL.y (op_eqlF rfl rfl (by omega)) rfl rfl ?_ | refine SL.y (op_eql rfl rfl) rfl rfl ?_
  first | refine SL.y (op_pickT rfl rfl) rfl rfl ?_ | refine SL.y (op_pickF rfl rfl) rfl rfl ?_ | refine SL.y (op_pickB rfl rfl rfl) rfl rfl ?_
  refine SL.y (op_move rfl) rfl rfl ?_
  first | refine SL.skip rfl rfl ?_ | refine SL.y (op_move rfl) rfl rfl ?_
  first | refine SL.skip rfl rfl ?_ | refine SL.y (op_move rfl) rfl rfl ?_
  first | refine SL.skip rfl rfl ?_ | refine SL.y (op_move rfl) rfl rfl ?_
  first | refine SL.skip rfl rfl ?_ | refine SL.y (op_move rfl) rfl rfl ?_
  first | refine SL.skip rfl rfl ?_ | refine SL.y (op_move rfl) rfl rfl ?_
  -- op
  refine SL.x (op_call en23 rfl (vs := [_, _]) rfl (jnf_spec hr hc6 (hB9.mono hW) (hL9.mono hW) hi hj)) rfl rfl ?_
  rintro _ _ Y43 ⟨rfl, hY43, rfl⟩
  have hW := hW.trans' hY43
  -- op
  refine SL.x (op_call en24 rfl (vs := [_, _]) rfl (mtf_spec (hT9.mono hW) hr hc6 (hB9.mono hW) (hL9.mono hW) hi jij)) rfl rfl ?_
  rintro _ _ Y44 ⟨rfl, hY44, rfl⟩
  have hW := hW.trans' hY44
  first | refine SL.skip rfl rfl ?_ | refine SL.y (op_move rfl) rfl rfl ?_
  first | refine SL.skip rfl rfl ?_ | refine SL.y (op_eqlT rfl rfl (by omega)) rfl rfl ?_ | refine SL.y (op_eqlF rfl rfl (by omega)) rfl rfl ?_ | refine SL.y (op_eql rfl rfl) rfl rfl ?_
  first | refine SL.y (op_pickT rfl rfl) rfl rfl ?_ | refine SL.y (op_pickF rfl rfl) rfl rfl ?_ | refine SL.y (op_pickB rfl rfl rfl) rfl rfl ?_
  refine SL.y (op_assign rfl) rfl rfl ?_
  refine SL.nil ?_
  -- ret
  refine T.ret1 rfl (ResIs.tmp rfl) ?_
  rfl
end Go.Proofs.YtoheffglppbcbaaDoor
