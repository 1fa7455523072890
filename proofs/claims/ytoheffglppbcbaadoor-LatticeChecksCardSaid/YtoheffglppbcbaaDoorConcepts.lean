/- LatticeConcepts answers true. -/
import Derived.Test.YtoheffglppbcbaaDoorJoins
namespace Go.Proofs.YtoheffglppbcbaaDoor
section
set_option maxRecDepth 100000
theorem en46 : Enters Tryd.prog 46 := enters_mk Tryd.func46 (by kernel_rfl) rfl
theorem en52 : Enters Tryd.prog 52 := enters_mk Tryd.func52 (by kernel_rfl) rfl
theorem en71 : Enters Tryd.prog 71 := enters_mk Tryd.func71 (by kernel_rfl) rfl
theorem en72 : Enters Tryd.prog 72 := enters_mk Tryd.func72 (by kernel_rfl) rfl
end
open Go.RowKit
/-- A concept that has been listed is the reference's. -/
theorem same_true {X : PMap} (hT : Tab X) {x y : Value} {r k : Nat} (hx : SetR X (.agg #[x]) r) (hy : SetR X (.agg #[y]) k) (hr : r < 18446744073709551616) (hk : k < 18446744073709551616) :
    Spec Tryd.prog 52 [.agg #[x, y], .agg #[.int .u64 (r : Int), .int .u64 (k : Int)]] X fun u _ => u = .bool true := by
  obtain ⟨Ax, lx, cx, hxe⟩ := hx.form
  obtain ⟨Ay, ly, cy, hye⟩ := hy.form
  obtain rfl : x = .slice Ax lx cx := by simpa using hxe
  obtain rfl : y = .slice Ay ly cy := by simpa using hye
  have l1 := mem64_length r
  have l2 := mem64_length k
  refine Spec.enter Tryd.func52 rfl Tryd.ntmps52 rfl ?_
  intro w0 hw0
  refine T.seq ?_
  refine T.region ?_
  refine SL.x (op_box rfl) rfl rfl ?_
  rintro _ _ _ ⟨B2, rfl, rfl, rfl⟩
  refine SL.x (op_box rfl) rfl rfl ?_
  rintro _ _ _ ⟨B3, rfl, rfl, rfl⟩
  refine SL.y (op_assign rfl) rfl rfl ?_
  refine SL.nil ?_
  refine T.seq ?_
  refine T.region ?_
  first | refine SL.y (op_load ty75 rfl (by repeat (first | exact AtO.here | apply AtO.there)) rfl) rfl rfl ?_ | refine SL.y (op_loadX ty75 rfl (by assumption) rfl) rfl rfl ?_
  -- op
  refine SL.x (op_callF en46 (vs := [_]) rfl (lists46_spec r k hr hk)) rfl rfl ?_
  rintro _ _ X1 ⟨rfl, hX1, u, w, rfl, h1, h2⟩
  refine SL.y (op_move rfl) rfl rfl ?_
  refine SL.y (op_extract rfl rfl) rfl rfl ?_
  refine SL.y (op_extract rfl rfl) rfl rfl ?_
  refine SL.y (op_assign rfl) rfl rfl ?_
  refine SL.y (op_assign rfl) rfl rfl ?_
  refine SL.nil ?_
  refine T.seq ?_
  refine T.region ?_
  refine SL.y (op_fieldAddr fa49_0 rfl) rfl rfl ?_
  first | refine SL.y (op_load ty47 rfl (by repeat (first | exact AtO.here | apply AtO.there)) rfl) rfl rfl ?_ | refine SL.y (op_loadX ty47 rfl (by assumption) rfl) rfl rfl ?_
  -- op
  refine SL.x (op_callF en72 (vs := [_]) rfl (list_spec (hT.mono hX1) (hx.mono hX1))) rfl rfl ?_
  rintro u2 _ X2 ⟨rfl, hX2, h3⟩
  refine SL.y (op_move rfl) rfl rfl ?_
  -- op
  refine SL.x (op_callF en71 (vs := [_, _]) rfl (eqInts_spec h3 (h1.mono hX2) (by omega))) rfl rfl ?_
  rintro _ _ X3 ⟨rfl, hX3, rfl⟩
  rw [decide_eq_true rfl]
  refine SL.y (op_move rfl) rfl rfl ?_
  first | refine SL.skip rfl rfl ?_ | refine SL.y (op_fieldAddr fa49_1 rfl) rfl rfl ?_
  first | refine SL.skip rfl rfl ?_ | refine SL.y (op_load ty47 rfl (by repeat (first | exact AtO.here | apply AtO.there)) rfl) rfl rfl ?_ | refine SL.y (op_loadX ty47 rfl (by assumption) rfl) rfl rfl ?_
  -- op
  refine SL.x (op_callF en72 (vs := [_]) rfl (list_spec (((hT.mono hX1).mono hX2).mono hX3) (((hy.mono hX1).mono hX2).mono hX3))) rfl rfl ?_
  rintro u4 _ X4 ⟨rfl, hX4, h5⟩
  first | refine SL.skip rfl rfl ?_ | refine SL.y (op_move rfl) rfl rfl ?_
  -- op
  refine SL.x (op_callF en71 (vs := [_, _]) rfl (eqInts_spec h5 (((h2.mono hX2).mono hX3).mono hX4) (by omega))) rfl rfl ?_
  rintro _ _ X5 ⟨rfl, hX5, rfl⟩
  rw [decide_eq_true rfl]
  first | refine SL.y (op_pickT rfl rfl) rfl rfl ?_ | refine SL.y (op_pickF rfl rfl) rfl rfl ?_ | refine SL.y (op_pickB rfl rfl rfl) rfl rfl ?_
  refine SL.y (op_assign rfl) rfl rfl ?_
  refine SL.nil ?_
  -- ret
  refine T.ret1 rfl (ResIs.tmp rfl) ?_
  rfl
theorem at_val {X : PMap} {v : Value} {c : Nat} {ms : List Nat} {l : List (Nat × Nat)} {k : Nat} (h : LatN X v c ms l) (hk : k < l.length) : Spec Tryd.prog 25 [v, .int .i64 (k : Int)] X fun u X' => ∃ x y, u = .tuple #[.agg #[x, y], .bool true] ∧ SetR X' (.agg #[x]) l[k].1 ∧ SetR X' (.agg #[y]) l[k].2 :=
  (lat_spec h (k : Int)).mono fun v X' _ hv => by
    obtain ⟨w, rfl, x, y, rfl, h1, h2⟩ := hv
    rw [atM_nat hk] at h1 h2
    exact ⟨x, y, by rw [show inB l.length (k : Int) = true by simp [inB, hk]], h1, h2⟩
theorem concepts_spec {X : PMap} (hT : Tab X) {s : Value} {bs : List Nat} (R C : Nat) (hR : R < 256) (hC : C < 256) (h : BytesR X s bs) :
    Spec Tryd.prog 12 [.agg #[.int .u8 (R : Int), .int .u8 (C : Int), s]] X fun u _ => u = .bool true := by
  obtain ⟨A, cp, rfl⟩ := h.form
  have hc6 : C % 6 < 6 := Nat.mod_lt _ (by omega)
  have hr6 : R % 6 < 6 := Nat.mod_lt _ (by omega)
  have hlen := rawRows_len bs (R % 6) (C % 6)
  have hmk := fun (X : PMap) (hT : Tab X) (h : BytesR X (.slice A bs.length cp) bs) => make_spec hT R C hR hC h
  have hms := rawRows_lt bs (R % 6) (C % 6)
  generalize rawRows bs (R % 6) (C % 6) = ms at *
  generalize C % 6 = c at *
  have hr : ms.length < 64 := by omega
  have hal := allR_len (c := c) (ms := ms) hr hc6
  have hal2 := allR_lenC (ms := ms) hr hc6
  refine Spec.enter Tryd.func12 rfl Tryd.ntmps12 rfl ?_
  intro w0 hw0
  refine T.seq ?_
  refine T.region ?_
  refine SL.x (op_box rfl) rfl rfl ?_
  rintro _ _ _ ⟨B1, rfl, rfl, rfl⟩
  refine SL.y (op_assign rfl) rfl rfl ?_
  refine SL.nil ?_
  refine T.seq ?_
  refine T.seq ?_
  refine T.region ?_
  -- op
  refine SL.x (op_callF en13 (vs := []) rfl (awake_spec hT)) rfl rfl ?_
  rintro _ _ X1 ⟨rfl, hX1, rfl⟩
  refine SL.y (op_not rfl) rfl rfl ?_
  refine SL.nil ?_
  refine T.condF rfl ?_
  refine T.skip ?_
  refine T.seq ?_
  refine T.region ?_
  first | refine SL.y (op_load ty24 rfl (by repeat (first | exact AtO.here | apply AtO.there)) rfl) rfl rfl ?_ | refine SL.y (op_loadX ty24 rfl (by assumption) rfl) rfl rfl ?_
  -- op
  refine SL.x (op_callF en14 (vs := [_]) rfl (hmk _ (hT.mono hX1) (h.mono hX1))) rfl rfl ?_
  rintro _ _ X2 ⟨rfl, hX2, pm, lat, t, rfl, hM, hL, hC⟩
  obtain ⟨bm, rfl⟩ := hM.ptr
  obtain ⟨bl, rfl⟩ := hL.ptr
  obtain ⟨At, cpt, rfl⟩ := hC.1.form
  have hT2 := (hT.mono hX1).mono hX2
  have hN : LatN X2 (.pointer (some ⟨bl, 0, none⟩)) c ms (allR c ms) := .inl hL
  refine SL.y (op_move rfl) rfl rfl ?_
  refine SL.y (op_extract rfl rfl) rfl rfl ?_
  refine SL.y (op_extract rfl rfl) rfl rfl ?_
  refine SL.y (op_extract rfl rfl) rfl rfl ?_
  refine SL.y (op_assign rfl) rfl rfl ?_
  refine SL.y (op_assign rfl) rfl rfl ?_
  refine SL.y (op_assign rfl) rfl rfl ?_
  refine SL.nil ?_
  refine T.seq ?_
  refine T.seq ?_
  refine T.region ?_
  refine SL.y (op_move rfl) rfl rfl ?_
  refine SL.y (op_eqlNil Tryd.underlying28 rfl rfl) rfl rfl ?_
  refine SL.y (op_move rfl) rfl rfl ?_
  first | refine SL.skip rfl rfl ?_ | refine SL.y (op_move rfl) rfl rfl ?_
  -- op
  refine SL.x (op_callF en16 (vs := [_]) rfl (llen_spec hN)) rfl rfl ?_
  rintro _ _ X3 ⟨rfl, hX3, rfl⟩
  first | refine SL.skip rfl rfl ?_ | refine SL.y (op_move rfl) rfl rfl ?_
  first | refine SL.skip rfl rfl ?_ | refine SL.y (op_lenS Tryd.underlying29 rfl) rfl rfl ?_
  first | refine SL.skip rfl rfl ?_ | refine SL.y (op_neqT rfl rfl (by omega)) rfl rfl ?_ | refine SL.y (op_neqF rfl rfl (by omega)) rfl rfl ?_ | refine SL.y (op_neq rfl rfl) rfl rfl ?_
  first | refine SL.y (op_pickT rfl rfl) rfl rfl ?_ | refine SL.y (op_pickF rfl rfl) rfl rfl ?_ | refine SL.y (op_pickB rfl rfl rfl) rfl rfl ?_
  refine SL.nil ?_
  refine T.condF rfl ?_
  refine T.skip ?_
  refine T.seq ?_
  refine T.seq ?_
  refine T.region ?_
  refine SL.y (op_move rfl) rfl rfl ?_
  refine SL.y (op_lenS Tryd.underlying29 rfl) rfl rfl ?_
  refine SL.y (op_move (v := .int .i64 ((0 : Nat) : Int)) rfl) rfl rfl ?_
  refine SL.nil ?_
  refine T.block ?_
  -- loop live [2, 4, 27, 28, 29]
  refine T.drop B1 (by repeat (first | exact AtO.here | apply AtO.there)) ?_
  refine T.loopW (fun m env own X' => ∃ k : Nat, m = (allR c ms).length - k ∧ k ≤ (allR c ms).length ∧ X2.le X' ∧ env = [(4, .pointer (some ⟨bl, 0, none⟩)), (27, .slice At (allR c ms).length cpt), (28, .int .i64 ((allR c ms).length : Int)), (29, .int .i64 (k : Int))] ∧ own = []) (allR c ms).length ⟨0, by simp, by omega, hX3, rfl, rfl⟩ (by repeat (first | exact Sub.nil | refine Sub.cons rfl ?_)) ?_
  rintro m _ _ X4 ⟨k, rfl, hk, hX4, rfl, rfl⟩
  rcases Nat.lt_or_ge k (allR c ms).length with hkl | hkl
  · obtain ⟨bo, rfl, hBo⟩ := (hC.1.mono hX4).blk (by omega)
    obtain ⟨g1, g2⟩ := conC_get (allR c ms) k hkl
    obtain ⟨_, _, hsm⟩ := allR_small (ms := ms) hr hc6
    obtain ⟨b1, b2⟩ := hsm _ (List.getElem_mem hkl)
    refine T.seq ?_
    refine T.region ?_
    first | refine SL.y (op_lssT rfl rfl (by omega)) rfl rfl ?_ | refine SL.y (op_lssF rfl rfl (by omega)) rfl rfl ?_ | refine SL.y (op_lss rfl rfl) rfl rfl ?_
    refine SL.nil ?_
    refine T.seq ?_
    refine T.condT rfl ?_
    refine T.skip ?_
    refine T.seq ?_
    refine T.block ?_
    refine T.seq ?_
    refine T.region ?_
    refine SL.y (op_move rfl) rfl rfl ?_
    first | refine SL.y (op_indexN Tryd.underlying29 ty75 rfl rfl (by omega)) rfl rfl ?_ | refine SL.y (op_index Tryd.underlying29 ty75 rfl rfl (by omega) (by omega)) rfl rfl ?_
    -- to 33: op
    refine SL.y (op_loadX ty75 rfl hBo (creadR2 g1 g2 (by omega))) rfl rfl ?_
    refine SL.x (op_alloc z75) rfl rfl ?_
    rintro _ _ _ ⟨B7, rfl, rfl, rfl⟩
    refine SL.y (op_assign rfl) rfl rfl ?_
    refine SL.x (op_store ty75 rfl rfl (by repeat (first | exact AtO.here | apply AtO.there)) rfl rfl rfl) rfl rfl ?_
    rintro _ _ _ ⟨rfl, rfl⟩
    refine SL.nil ?_
    refine T.seq ?_
    refine T.region ?_
    refine SL.y (op_move rfl) rfl rfl ?_
    refine SL.y (op_move rfl) rfl rfl ?_
    -- op
    refine SL.x (op_callF en25 (vs := [_, _]) rfl (at_val (hN.mono hX4) hkl)) rfl rfl ?_
    rintro _ _ X5 ⟨rfl, hX5, x, y, rfl, hx, hy⟩
    obtain ⟨Ax, lx, cx, hxe⟩ := hx.form
    obtain ⟨Ay, ly, cy, hye⟩ := hy.form
    obtain rfl : x = .slice Ax lx cx := by simpa using hxe
    obtain rfl : y = .slice Ay ly cy := by simpa using hye
    refine SL.y (op_move rfl) rfl rfl ?_
    refine SL.y (op_extract rfl rfl) rfl rfl ?_
    refine SL.y (op_extract rfl rfl) rfl rfl ?_
    refine SL.x (op_alloc z49) rfl rfl ?_
    rintro _ _ _ ⟨B8, rfl, rfl, rfl⟩
    refine SL.x (op_store ty49 rfl rfl (by repeat (first | exact AtO.here | apply AtO.there)) rfl rfl rfl) rfl rfl ?_
    rintro _ _ _ ⟨rfl, rfl⟩
    refine SL.y (op_assign rfl) rfl rfl ?_
    refine SL.nil ?_
    refine T.seq ?_
    refine T.region ?_
    refine SL.y (op_move rfl) rfl rfl ?_
    refine SL.y (op_not rfl) rfl rfl ?_
    refine SL.y (op_move rfl) rfl rfl ?_
    first | refine SL.skip rfl rfl ?_ | refine SL.y (op_load ty49 rfl (by repeat (first | exact AtO.here | apply AtO.there)) rfl) rfl rfl ?_ | refine SL.y (op_loadX ty49 rfl (by assumption) rfl) rfl rfl ?_
    first | refine SL.skip rfl rfl ?_ | refine SL.y (op_load ty75 rfl (by repeat (first | exact AtO.here | apply AtO.there)) rfl) rfl rfl ?_ | refine SL.y (op_loadX ty75 rfl (by assumption) rfl) rfl rfl ?_
    -- op
    refine SL.x (op_callF en52 (vs := [_, _]) rfl (same_true ((hT2.mono hX4).mono hX5) hx hy b1 b2)) rfl rfl ?_
    rintro _ _ X6 ⟨rfl, hX6, rfl⟩
    first | refine SL.skip rfl rfl ?_ | refine SL.y (op_not rfl) rfl rfl ?_
    first | refine SL.y (op_pickT rfl rfl) rfl rfl ?_ | refine SL.y (op_pickF rfl rfl) rfl rfl ?_ | refine SL.y (op_pickB rfl rfl rfl) rfl rfl ?_
    refine SL.nil ?_
    refine T.condF rfl ?_
    refine T.skip ?_
    refine T.blk ?_
    refine T.region ?_
    first | refine SL.y (op_addN (q := 1) rfl rfl (by omega)) rfl rfl ?_ | refine SL.y (op_add rfl rfl (by omega) (by omega)) rfl rfl ?_ | refine SL.y (op_addW rfl rfl) rfl rfl ?_
    refine SL.y (op_move rfl) rfl rfl ?_
    refine SL.nil ?_
    -- cut
    refine T.drop B8 (by repeat (first | exact AtO.here | apply AtO.there)) ?_
    refine T.drop B7 (by repeat (first | exact AtO.here | apply AtO.there)) ?_
    exact T.backW ((allR c ms).length - (k + 1)) (by omega) ⟨k + 1, rfl, by omega, (hX4.trans' hX5).trans' hX6, rfl, rfl⟩ (by repeat (first | exact Sub.nil | refine Sub.cons rfl ?_))
  · refine T.seq ?_
    refine T.region ?_
    first | refine SL.y (op_lssT rfl rfl (by omega)) rfl rfl ?_ | refine SL.y (op_lssF rfl rfl (by omega)) rfl rfl ?_ | refine SL.y (op_lss rfl rfl) rfl rfl ?_
    refine SL.nil ?_
    refine T.seq ?_
    refine T.condF rfl ?_
    refine T.exit (T.exitCode (T.exitCut (T.exitBlk ?_)))
    refine T.seq ?_
    refine T.region ?_
    refine SL.y (op_assign rfl) rfl rfl ?_
    refine SL.nil ?_
    -- ret
    refine T.ret1 rfl (ResIs.tmp rfl) ?_
    rfl
end Go.Proofs.YtoheffglppbcbaaDoor
