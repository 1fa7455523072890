/- LatticeFinds answers true. -/
import Derived.Test.YtoheffglppbcbaaDoorConcepts
namespace Go.Proofs.YtoheffglppbcbaaDoor
section
set_option maxRecDepth 100000
theorem en33 : Enters Tryd.prog 33 := enters_mk Tryd.func33 (by kernel_rfl) rfl
theorem en35 : Enters Tryd.prog 35 := enters_mk Tryd.func35 (by kernel_rfl) rfl
theorem en38 : Enters Tryd.prog 38 := enters_mk Tryd.func38 (by kernel_rfl) rfl
end
open Go.RowKit
theorem hav_clo_any {c : Nat} {ms : List Nat} (hr : ms.length ≤ 64) (hc : c ≤ 64) (a : Nat) : hav c ms (clo c ms a) = hav c ms a := by
  refine SubB.antisymm (fun i hi => ?_) (hav_com_ext hr hc (hav_lt hr hc a))
  rw [hav_iff c ms _ i hc] at hi ⊢
  refine ⟨hi.1, fun j hj hb => hi.2 j hj ?_⟩
  rw [clo, com_iff c ms _ j hr]
  exact ⟨hj, fun q _ hqb => ((hav_iff c ms _ q hc).1 hqb).2 j hj hb⟩
theorem idx_some {l : List (Nat × Nat)} {cols k : Nat} (h : idxM l cols = some k) : k < l.length ∧ idxR l cols = some k := by
  rw [idxM, List.findIdx?_eq_some_iff_getElem] at h
  obtain ⟨hk, h1, h2⟩ := h
  refine ⟨hk, find_first hk ?_ fun q hq => ?_⟩
  · simpa [List.getD, hk] using h1
  · have := h2 q hq
    have hql : q < l.length := by omega
    simpa [List.getD, hql] using this
theorem idx_none {l : List (Nat × Nat)} {cols : Nat} (h : idxM l cols = none) : idxR l cols = none := by
  rw [idxM, List.findIdx?_eq_none_iff] at h
  refine find_not fun q hq => ?_
  have := h l[q] (List.getElem_mem hq)
  simpa [List.getD, hq] using this
theorem lindex_val {X : PMap} {v s : Value} {c : Nat} {ms : List Nat} {l : List (Nat × Nat)} {cols : Nat} {o : Option Nat} (h : LatN X v c ms l) (hs : SetR X s cols) (ho : idxM l cols = o) : Spec Tryd.prog 34 [v, s] X fun u _ => u = .tuple #[.int .i64 ((o.getD 0 : Nat) : Int), .bool o.isSome] :=
  (lindex_spec h hs).mono fun _ _ _ hv => by rw [hv, ho]
theorem index46_val {X : PMap} {v : Value} {l : List (Nat × Nat)} {cols : Nat} {o : Option Nat} (h : ConT X v l) (ho : idxR l cols = o) : Spec Tryd.prog 35 [v, .int .u64 (cols : Int)] X fun u _ => u = .int .i64 (optI o) :=
  (index46_spec h cols).mono fun _ _ _ hv => by rw [hv, ho]
theorem at_out {X : PMap} {v : Value} {c : Nat} {ms : List Nat} {l : List (Nat × Nat)} {i : Int} (h : LatN X v c ms l) (hi : ¬ (0 ≤ i ∧ i < l.length)) : Spec Tryd.prog 25 [v, .int .i64 i] X fun u X' => ∃ x y, u = .tuple #[.agg #[x, y], .bool false] ∧ SetR X' (.agg #[x]) 0 ∧ SetR X' (.agg #[y]) 0 :=
  (lat_spec h i).mono fun v X' _ hv => by
    obtain ⟨w, rfl, x, y, rfl, h1, h2⟩ := hv
    have hb : inB l.length i = false := by simpa [inB] using hi
    rw [atM, hb] at h1 h2
    exact ⟨x, y, by rw [hb], h1, h2⟩
theorem finds_spec {X : PMap} (hT : Tab X) {s : Value} {bs : List Nat} (R C : Nat) (hR : R < 256) (hC : C < 256) (h : BytesR X s bs) (cols : Nat) (hcols : cols < 18446744073709551616) (i : Int) :
    Spec Tryd.prog 7 [.agg #[.int .u8 (R : Int), .int .u8 (C : Int), s], .int .u64 (cols : Int), .int .i64 i] X fun u _ => u = .bool true := by
  obtain ⟨A, cp, rfl⟩ := h.form
  have hc6 : C % 6 < 6 := Nat.mod_lt _ (by omega)
  have hr6 : R % 6 < 6 := Nat.mod_lt _ (by omega)
  have hlen := rawRows_len bs (R % 6) (C % 6)
  have hmk := fun (X : PMap) (hT : Tab X) (h : BytesR X (.slice A bs.length cp) bs) => make_spec hT R C hR hC h
  have hms := rawRows_lt bs (R % 6) (C % 6)
  generalize rawRows bs (R % 6) (C % 6) = ms at *
  generalize C % 6 = c at *
  have hr : ms.length < 64 := by omega
  have hal := allR_len (c := c) (ms := ms) hr hc6
  have hal2 := allR_lenC (ms := ms) hr hc6
  obtain ⟨k, hk, hka⟩ := at_of_closed hr hc6 (clo_idem (c := c) (ms := ms) (by omega) (by omega) cols)
  have hkL : k < (allR c ms).length := by omega
  have hidx : idxM (allR c ms) (clo c ms cols) = some k := by rw [← hka]; exact idxM_at hr hc6 hk
  have hrow : (allR c ms)[k].1 = hav c ms cols := by
    rw [allR_at hr hc6 hkL]
    simp only
    rw [hka]
    exact hav_clo_any (by omega) (by omega) cols
  refine Spec.enter Tryd.func7 rfl Tryd.ntmps7 rfl ?_
  intro w0 hw0
  refine T.seq ?_
  refine T.region ?_
  refine SL.x (op_box rfl) rfl rfl ?_
  rintro _ _ _ ⟨B3, rfl, rfl, rfl⟩
  refine SL.y (op_assign rfl) rfl rfl ?_
  refine SL.nil ?_
  refine T.seq ?_
  refine T.seq ?_
  refine T.region ?_
  -- op
  refine SL.x (op_callF en13 (vs := []) rfl (awake_spec hT)) rfl rfl ?_
  rintro _ _ X1 ⟨rfl, hX1, rfl⟩
  refine SL.y (op_not rfl) rfl rfl ?_
  refine SL.nil ?_
  refine T.condF rfl ?_
  refine T.skip ?_
  refine T.seq ?_
  refine T.region ?_
  first | refine SL.y (op_load ty24 rfl (by repeat (first | exact AtO.here | apply AtO.there)) rfl) rfl rfl ?_ | refine SL.y (op_loadX ty24 rfl (by assumption) rfl) rfl rfl ?_
  -- op
  refine SL.x (op_callF en14 (vs := [_]) rfl (hmk _ (hT.mono hX1) (h.mono hX1))) rfl rfl ?_
  rintro _ _ X2 ⟨rfl, hX2, pm, lat, t, rfl, hM, hL, hC⟩
  obtain ⟨bm, rfl⟩ := hM.ptr
  obtain ⟨bl, rfl⟩ := hL.ptr
  obtain ⟨At, cpt, rfl⟩ := hC.1.form
  have hT2 := (hT.mono hX1).mono hX2
  have hN : LatN X2 (.pointer (some ⟨bl, 0, none⟩)) c ms (allR c ms) := .inl hL
  refine SL.y (op_move rfl) rfl rfl ?_
  refine SL.y (op_extract rfl rfl) rfl rfl ?_
  refine SL.y (op_extract rfl rfl) rfl rfl ?_
  refine SL.y (op_extract rfl rfl) rfl rfl ?_
  refine SL.y (op_assign rfl) rfl rfl ?_
  refine SL.y (op_assign rfl) rfl rfl ?_
  refine SL.y (op_assign rfl) rfl rfl ?_
  refine SL.nil ?_
  refine T.seq ?_
  refine T.seq ?_
  refine T.region ?_
  refine SL.y (op_move rfl) rfl rfl ?_
  refine SL.y (op_eqlNil Tryd.underlying28 rfl rfl) rfl rfl ?_
  refine SL.nil ?_
  refine T.condF rfl ?_
  refine T.skip ?_
  refine T.seq ?_
  refine T.region ?_
  refine SL.y (op_move rfl) rfl rfl ?_
  -- op
  refine SL.x (op_callF en33 (vs := [_]) rfl (set14_spec cols hcols)) rfl rfl ?_
  rintro _ _ X3 ⟨rfl, hX3, hS⟩
  obtain ⟨As, ls, cs, rfl⟩ := hS.form
  refine SL.x (op_alloc z47) rfl rfl ?_
  rintro _ _ _ ⟨B10, rfl, rfl, rfl⟩
  refine SL.x (op_store ty47 rfl rfl (by repeat (first | exact AtO.here | apply AtO.there)) rfl rfl rfl) rfl rfl ?_
  rintro _ _ _ ⟨rfl, rfl⟩
  refine SL.nil ?_
  refine T.seq ?_
  refine T.region ?_
  refine SL.y (op_move rfl) rfl rfl ?_
  first | refine SL.y (op_load ty47 rfl (by repeat (first | exact AtO.here | apply AtO.there)) rfl) rfl rfl ?_ | refine SL.y (op_loadX ty47 rfl (by assumption) rfl) rfl rfl ?_
  -- op
  cases ho : idxM (allR c ms) cols with
  | none =>
    have ho2 := idx_none ho
    refine SL.x (op_callF en34 (vs := [_, _]) rfl (lindex_val (hN.mono hX3) hS ho)) rfl rfl ?_
    rintro _ _ X4 ⟨rfl, hX4, rfl⟩
    refine SL.y (op_move rfl) rfl rfl ?_
    refine SL.y (op_extract rfl rfl) rfl rfl ?_
    refine SL.y (op_extract rfl rfl) rfl rfl ?_
    refine SL.y (op_assign rfl) rfl rfl ?_
    refine SL.y (op_assign rfl) rfl rfl ?_
    refine SL.nil ?_
    refine T.seq ?_
    refine T.region ?_
    refine SL.y (op_move rfl) rfl rfl ?_
    refine SL.y (op_move rfl) rfl rfl ?_
    -- op
    refine SL.x (op_callF en35 (vs := [_, _]) rfl (index46_val ((hC.mono hX3).mono hX4) ho2)) rfl rfl ?_
    rintro _ _ X5 ⟨rfl, hX5, rfl⟩
    rw [show optI none = (-1 : Int) from rfl]
    refine SL.y (op_assign rfl) rfl rfl ?_
    refine SL.nil ?_
    refine T.seq ?_
    refine T.seq ?_
    refine T.region ?_
    refine SL.y (op_move rfl) rfl rfl ?_
    refine SL.y (op_move rfl) rfl rfl ?_
    first | refine SL.y (op_geqT rfl rfl (by omega)) rfl rfl ?_ | refine SL.y (op_geqF rfl rfl (by omega)) rfl rfl ?_ | refine SL.y (op_geq rfl rfl) rfl rfl ?_
    refine SL.y (op_neqB Tryd.underlying4 rfl rfl) rfl rfl ?_
    refine SL.y (op_move rfl) rfl rfl ?_
    first | refine SL.skip rfl rfl ?_ | refine SL.y (op_move rfl) rfl rfl ?_
    first | refine SL.skip rfl rfl ?_ | refine SL.y (op_move rfl) rfl rfl ?_
    first | refine SL.skip rfl rfl ?_ | refine SL.y (op_maxL rfl rfl (by omega)) rfl rfl ?_ | refine SL.y (op_maxR rfl rfl (by omega)) rfl rfl ?_ | refine SL.y (op_maxN rfl rfl) rfl rfl ?_ | refine SL.y (op_max rfl rfl rfl) rfl rfl ?_
    first | refine SL.skip rfl rfl ?_ | refine SL.y (op_neqT rfl rfl (by omega)) rfl rfl ?_ | refine SL.y (op_neqF rfl rfl (by omega)) rfl rfl ?_ | refine SL.y (op_neq rfl rfl) rfl rfl ?_
    first | refine SL.y (op_pickT rfl rfl) rfl rfl ?_ | refine SL.y (op_pickF rfl rfl) rfl rfl ?_ | refine SL.y (op_pickB rfl rfl rfl) rfl rfl ?_
    refine SL.nil ?_
    refine T.condF rfl ?_
    refine T.skip ?_
    refine T.seq ?_
    refine T.region ?_
    refine SL.y (op_move rfl) rfl rfl ?_
    first | refine SL.y (op_load ty47 rfl (by repeat (first | exact AtO.here | apply AtO.there)) rfl) rfl rfl ?_ | refine SL.y (op_loadX ty47 rfl (by assumption) rfl) rfl rfl ?_
    -- op
    have hX25 := (hX3.trans' hX4).trans' hX5
    refine SL.x (op_callF en36 (vs := [_, _]) rfl (cof_spec (hT2.mono hX25) (hM.mono hX25) ((hS.mono hX4).mono hX5))) rfl rfl ?_
    rintro _ _ X6 ⟨rfl, hX6, x, y, rfl, hx, hy⟩
    obtain ⟨Ax, lx, cx, hxe⟩ := hx.form
    obtain ⟨Ay, ly, cy, hye⟩ := hy.form
    obtain rfl : x = .slice Ax lx cx := by simpa using hxe
    obtain rfl : y = .slice Ay ly cy := by simpa using hye
    refine SL.x (op_alloc z49) rfl rfl ?_
    rintro _ _ _ ⟨B14, rfl, rfl, rfl⟩
    refine SL.x (op_store ty49 rfl rfl (by repeat (first | exact AtO.here | apply AtO.there)) rfl rfl rfl) rfl rfl ?_
    rintro _ _ _ ⟨rfl, rfl⟩
    refine SL.nil ?_
    refine T.seq ?_
    refine T.region ?_
    refine SL.y (op_move rfl) rfl rfl ?_
    refine SL.y (op_fieldAddr fa49_1 rfl) rfl rfl ?_
    first | refine SL.y (op_load ty47 rfl (by repeat (first | exact AtO.here | apply AtO.there)) rfl) rfl rfl ?_ | refine SL.y (op_loadX ty47 rfl (by assumption) rfl) rfl rfl ?_
    -- op
    refine SL.x (op_callF en34 (vs := [_, _]) rfl (lindex_val ((hN.mono hX25).mono hX6) hy hidx)) rfl rfl ?_
    rintro _ _ X7 ⟨rfl, hX7, rfl⟩
    rw [show ((some k).getD 0 : Nat) = k from rfl, show (some k).isSome = true from rfl]
    have hX27 := (hX25.trans' hX6).trans' hX7
    refine SL.y (op_move rfl) rfl rfl ?_
    refine SL.y (op_extract rfl rfl) rfl rfl ?_
    refine SL.y (op_extract rfl rfl) rfl rfl ?_
    refine SL.y (op_assign rfl) rfl rfl ?_
    refine SL.y (op_assign rfl) rfl rfl ?_
    refine SL.nil ?_
    refine T.seq ?_
    refine T.region ?_
    refine SL.y (op_move rfl) rfl rfl ?_
    refine SL.y (op_move rfl) rfl rfl ?_
    -- op
    refine SL.x (op_callF en25 (vs := [_, _]) rfl (at_val (hN.mono hX27) hkL)) rfl rfl ?_
    rintro _ _ X8 ⟨rfl, hX8, x2, y2, rfl, hx2, hy2⟩
    obtain ⟨Ax2, lx2, cx2, hxe2⟩ := hx2.form
    obtain ⟨Ay2, ly2, cy2, hye2⟩ := hy2.form
    obtain rfl : x2 = .slice Ax2 lx2 cx2 := by simpa using hxe2
    obtain rfl : y2 = .slice Ay2 ly2 cy2 := by simpa using hye2
    refine SL.y (op_move rfl) rfl rfl ?_
    refine SL.y (op_extract rfl rfl) rfl rfl ?_
    refine SL.y (op_extract rfl rfl) rfl rfl ?_
    refine SL.x (op_alloc z49) rfl rfl ?_
    rintro _ _ _ ⟨B17, rfl, rfl, rfl⟩
    refine SL.x (op_store ty49 rfl rfl (by repeat (first | exact AtO.here | apply AtO.there)) rfl rfl rfl) rfl rfl ?_
    rintro _ _ _ ⟨rfl, rfl⟩
    refine SL.y (op_assign rfl) rfl rfl ?_
    refine SL.nil ?_
    refine T.seq ?_
    refine T.region ?_
    refine SL.y (op_move rfl) rfl rfl ?_
    refine SL.y (op_move rfl) rfl rfl ?_
    -- op
    by_cases hin : 0 ≤ i ∧ i < (allR c ms).length
    · obtain ⟨a, rfl⟩ := Int.eq_ofNat_of_zero_le hin.1
      have ha : a < (allR c ms).length := by omega
      refine SL.x (op_callF en25 (vs := [_, _]) rfl (at_val ((hN.mono hX27).mono hX8) ha)) rfl rfl ?_
      rintro _ _ X9 ⟨rfl, hX9, x3, y3, rfl, hx3, hy3⟩
      obtain ⟨Ax3, lx3, cx3, hxe3⟩ := hx3.form
      obtain ⟨Ay3, ly3, cy3, hye3⟩ := hy3.form
      obtain rfl : x3 = .slice Ax3 lx3 cx3 := by simpa using hxe3
      obtain rfl : y3 = .slice Ay3 ly3 cy3 := by simpa using hye3
      refine SL.y (op_move rfl) rfl rfl ?_
      refine SL.y (op_extract rfl rfl) rfl rfl ?_
      refine SL.y (op_extract rfl rfl) rfl rfl ?_
      refine SL.x (op_alloc z49) rfl rfl ?_
      rintro _ _ _ ⟨B19, rfl, rfl, rfl⟩
      refine SL.x (op_store ty49 rfl rfl (by repeat (first | exact AtO.here | apply AtO.there)) rfl rfl rfl) rfl rfl ?_
      rintro _ _ _ ⟨rfl, rfl⟩
      refine SL.y (op_assign rfl) rfl rfl ?_
      refine SL.nil ?_
      refine T.seq ?_
      refine T.region ?_
      refine SL.y (op_move rfl) rfl rfl ?_
      refine SL.y (op_move rfl) rfl rfl ?_
      first | refine SL.skip rfl rfl ?_ | refine SL.y (op_move rfl) rfl rfl ?_
      first | refine SL.y (op_pickT rfl rfl) rfl rfl ?_ | refine SL.y (op_pickF rfl rfl) rfl rfl ?_ | refine SL.y (op_pickB rfl rfl rfl) rfl rfl ?_
      refine SL.y (op_move rfl) rfl rfl ?_
      first | refine SL.skip rfl rfl ?_ | refine SL.y (op_fieldAddr fa49_0 rfl) rfl rfl ?_
      first | refine SL.skip rfl rfl ?_ | refine SL.y (op_load ty47 rfl (by repeat (first | exact AtO.here | apply AtO.there)) rfl) rfl rfl ?_ | refine SL.y (op_loadX ty47 rfl (by assumption) rfl) rfl rfl ?_
      first | refine SL.skip rfl rfl ?_ | refine SL.y (op_fieldAddr fa49_0 rfl) rfl rfl ?_
      first | refine SL.skip rfl rfl ?_ | refine SL.y (op_load ty47 rfl (by repeat (first | exact AtO.here | apply AtO.there)) rfl) rfl rfl ?_ | refine SL.y (op_loadX ty47 rfl (by assumption) rfl) rfl rfl ?_
      -- op
      refine SL.x (op_callF en37 (vs := [_, _]) rfl (equal_spec (hx2.mono hX9) (((hx.mono hX7).mono hX8).mono hX9))) rfl rfl ?_
      rintro _ _ X10 ⟨rfl, hX10, rfl⟩
      rw [decide_eq_true hrow]
      first | refine SL.y (op_pickT rfl rfl) rfl rfl ?_ | refine SL.y (op_pickF rfl rfl) rfl rfl ?_ | refine SL.y (op_pickB rfl rfl rfl) rfl rfl ?_
      refine SL.y (op_move rfl) rfl rfl ?_
      first | refine SL.skip rfl rfl ?_ | refine SL.y (op_move rfl) rfl rfl ?_
      first | refine SL.skip rfl rfl ?_ | refine SL.y (op_move rfl) rfl rfl ?_
      first | refine SL.skip rfl rfl ?_ | refine SL.y (op_geqT rfl rfl (by omega)) rfl rfl ?_ | refine SL.y (op_geqF rfl rfl (by omega)) rfl rfl ?_ | refine SL.y (op_geq rfl rfl) rfl rfl ?_
      first | refine SL.skip rfl rfl ?_ | refine SL.y (op_move rfl) rfl rfl ?_
      first | refine SL.skip rfl rfl ?_ | refine SL.y (op_move rfl) rfl rfl ?_
      first | refine SL.skip rfl rfl ?_ | refine SL.y (op_move rfl) rfl rfl ?_
      first | refine SL.skip rfl rfl ?_ | refine SL.y (op_lenS Tryd.underlying29 rfl) rfl rfl ?_
      first | refine SL.skip rfl rfl ?_ | refine SL.y (op_lssT rfl rfl (by omega)) rfl rfl ?_ | refine SL.y (op_lssF rfl rfl (by omega)) rfl rfl ?_ | refine SL.y (op_lss rfl rfl) rfl rfl ?_
      first | refine SL.skip rfl rfl ?_ | refine SL.y (op_pickT rfl rfl) rfl rfl ?_ | refine SL.y (op_pickF rfl rfl) rfl rfl ?_ | refine SL.y (op_pickB rfl rfl rfl) rfl rfl ?_
      first | refine SL.skip rfl rfl ?_ | refine SL.y (op_eqlB Tryd.underlying4 rfl rfl) rfl rfl ?_
      first | refine SL.y (op_pickT rfl rfl) rfl rfl ?_ | refine SL.y (op_pickF rfl rfl) rfl rfl ?_ | refine SL.y (op_pickB rfl rfl rfl) rfl rfl ?_
      refine SL.y (op_move rfl) rfl rfl ?_
      first | refine SL.skip rfl rfl ?_ | refine SL.y (op_move rfl) rfl rfl ?_
      first | refine SL.skip rfl rfl ?_ | refine SL.y (op_move rfl) rfl rfl ?_
      first | refine SL.skip rfl rfl ?_ | refine SL.y (op_fieldAddr fa49_0 rfl) rfl rfl ?_
      first | refine SL.skip rfl rfl ?_ | refine SL.y (op_load ty47 rfl (by repeat (first | exact AtO.here | apply AtO.there)) rfl) rfl rfl ?_ | refine SL.y (op_loadX ty47 rfl (by assumption) rfl) rfl rfl ?_
      -- op
      refine SL.skip rfl rfl ?_
      first | refine SL.skip rfl rfl ?_ | refine SL.y (op_move rfl) rfl rfl ?_
      first | refine SL.skip rfl rfl ?_ | refine SL.y (op_fieldAddr fa49_1 rfl) rfl rfl ?_
      first | refine SL.skip rfl rfl ?_ | refine SL.y (op_load ty47 rfl (by repeat (first | exact AtO.here | apply AtO.there)) rfl) rfl rfl ?_ | refine SL.y (op_loadX ty47 rfl (by assumption) rfl) rfl rfl ?_
      -- op
      refine SL.skip rfl rfl ?_
      first | refine SL.skip rfl rfl ?_ | refine SL.y (op_pickT rfl rfl) rfl rfl ?_ | refine SL.y (op_pickF rfl rfl) rfl rfl ?_ | refine SL.y (op_pickB rfl rfl rfl) rfl rfl ?_
      first | refine SL.skip rfl rfl ?_ | refine SL.y (op_pickT rfl rfl) rfl rfl ?_ | refine SL.y (op_pickF rfl rfl) rfl rfl ?_ | refine SL.y (op_pickB rfl rfl rfl) rfl rfl ?_
      first | refine SL.y (op_pickT rfl rfl) rfl rfl ?_ | refine SL.y (op_pickF rfl rfl) rfl rfl ?_ | refine SL.y (op_pickB rfl rfl rfl) rfl rfl ?_
      refine SL.y (op_assign rfl) rfl rfl ?_
      refine SL.nil ?_
      -- ret
      refine T.ret1 rfl (ResIs.tmp rfl) ?_
      rfl
    · refine SL.x (op_callF en25 (vs := [_, _]) rfl (at_out ((hN.mono hX27).mono hX8) hin)) rfl rfl ?_
      rintro _ _ X9 ⟨rfl, hX9, x3, y3, rfl, hx3, hy3⟩
      obtain ⟨Ax3, lx3, cx3, hxe3⟩ := hx3.form
      obtain ⟨Ay3, ly3, cy3, hye3⟩ := hy3.form
      obtain rfl : x3 = .slice Ax3 lx3 cx3 := by simpa using hxe3
      obtain rfl : y3 = .slice Ay3 ly3 cy3 := by simpa using hye3
      refine SL.y (op_move rfl) rfl rfl ?_
      refine SL.y (op_extract rfl rfl) rfl rfl ?_
      refine SL.y (op_extract rfl rfl) rfl rfl ?_
      refine SL.x (op_alloc z49) rfl rfl ?_
      rintro _ _ _ ⟨B19, rfl, rfl, rfl⟩
      refine SL.x (op_store ty49 rfl rfl (by repeat (first | exact AtO.here | apply AtO.there)) rfl rfl rfl) rfl rfl ?_
      rintro _ _ _ ⟨rfl, rfl⟩
      refine SL.y (op_assign rfl) rfl rfl ?_
      refine SL.nil ?_
      refine T.seq ?_
      refine T.region ?_
      refine SL.y (op_move rfl) rfl rfl ?_
      refine SL.y (op_move rfl) rfl rfl ?_
      first | refine SL.skip rfl rfl ?_ | refine SL.y (op_move rfl) rfl rfl ?_
      first | refine SL.y (op_pickT rfl rfl) rfl rfl ?_ | refine SL.y (op_pickF rfl rfl) rfl rfl ?_ | refine SL.y (op_pickB rfl rfl rfl) rfl rfl ?_
      refine SL.y (op_move rfl) rfl rfl ?_
      first | refine SL.skip rfl rfl ?_ | refine SL.y (op_fieldAddr fa49_0 rfl) rfl rfl ?_
      first | refine SL.skip rfl rfl ?_ | refine SL.y (op_load ty47 rfl (by repeat (first | exact AtO.here | apply AtO.there)) rfl) rfl rfl ?_ | refine SL.y (op_loadX ty47 rfl (by assumption) rfl) rfl rfl ?_
      first | refine SL.skip rfl rfl ?_ | refine SL.y (op_fieldAddr fa49_0 rfl) rfl rfl ?_
      first | refine SL.skip rfl rfl ?_ | refine SL.y (op_load ty47 rfl (by repeat (first | exact AtO.here | apply AtO.there)) rfl) rfl rfl ?_ | refine SL.y (op_loadX ty47 rfl (by assumption) rfl) rfl rfl ?_
      -- op
      refine SL.x (op_callF en37 (vs := [_, _]) rfl (equal_spec (hx2.mono hX9) (((hx.mono hX7).mono hX8).mono hX9))) rfl rfl ?_
      rintro _ _ X10 ⟨rfl, hX10, rfl⟩
      rw [decide_eq_true hrow]
      rcases Int.lt_or_le i 0 with g1 | g1
      · skip
        first | refine SL.y (op_pickT rfl rfl) rfl rfl ?_ | refine SL.y (op_pickF rfl rfl) rfl rfl ?_ | refine SL.y (op_pickB rfl rfl rfl) rfl rfl ?_
        refine SL.y (op_move rfl) rfl rfl ?_
        first | refine SL.skip rfl rfl ?_ | refine SL.y (op_move rfl) rfl rfl ?_
        first | refine SL.skip rfl rfl ?_ | refine SL.y (op_move rfl) rfl rfl ?_
        first | refine SL.skip rfl rfl ?_ | refine SL.y (op_geqT rfl rfl (by omega)) rfl rfl ?_ | refine SL.y (op_geqF rfl rfl (by omega)) rfl rfl ?_ | refine SL.y (op_geq rfl rfl) rfl rfl ?_
        first | refine SL.skip rfl rfl ?_ | refine SL.y (op_move rfl) rfl rfl ?_
        first | refine SL.skip rfl rfl ?_ | refine SL.y (op_move rfl) rfl rfl ?_
        first | refine SL.skip rfl rfl ?_ | refine SL.y (op_move rfl) rfl rfl ?_
        first | refine SL.skip rfl rfl ?_ | refine SL.y (op_lenS Tryd.underlying29 rfl) rfl rfl ?_
        first | refine SL.skip rfl rfl ?_ | refine SL.y (op_lssT rfl rfl (by omega)) rfl rfl ?_ | refine SL.y (op_lssF rfl rfl (by omega)) rfl rfl ?_ | refine SL.y (op_lss rfl rfl) rfl rfl ?_
        first | refine SL.skip rfl rfl ?_ | refine SL.y (op_pickT rfl rfl) rfl rfl ?_ | refine SL.y (op_pickF rfl rfl) rfl rfl ?_ | refine SL.y (op_pickB rfl rfl rfl) rfl rfl ?_
        first | refine SL.skip rfl rfl ?_ | refine SL.y (op_eqlB Tryd.underlying4 rfl rfl) rfl rfl ?_
        first | refine SL.y (op_pickT rfl rfl) rfl rfl ?_ | refine SL.y (op_pickF rfl rfl) rfl rfl ?_ | refine SL.y (op_pickB rfl rfl rfl) rfl rfl ?_
        refine SL.y (op_move rfl) rfl rfl ?_
        first | refine SL.skip rfl rfl ?_ | refine SL.y (op_move rfl) rfl rfl ?_
        first | refine SL.skip rfl rfl ?_ | refine SL.y (op_move rfl) rfl rfl ?_
        first | refine SL.skip rfl rfl ?_ | refine SL.y (op_fieldAddr fa49_0 rfl) rfl rfl ?_
        first | refine SL.skip rfl rfl ?_ | refine SL.y (op_load ty47 rfl (by repeat (first | exact AtO.here | apply AtO.there)) rfl) rfl rfl ?_ | refine SL.y (op_loadX ty47 rfl (by assumption) rfl) rfl rfl ?_
        -- op
        refine SL.x (op_callF en38 (vs := [_]) rfl (empty_spec (hx3.mono hX10))) rfl rfl ?_
        rintro _ _ X11 ⟨rfl, hX11, rfl⟩
        first | refine SL.skip rfl rfl ?_ | refine SL.y (op_move rfl) rfl rfl ?_
        first | refine SL.skip rfl rfl ?_ | refine SL.y (op_fieldAddr fa49_1 rfl) rfl rfl ?_
        first | refine SL.skip rfl rfl ?_ | refine SL.y (op_load ty47 rfl (by repeat (first | exact AtO.here | apply AtO.there)) rfl) rfl rfl ?_ | refine SL.y (op_loadX ty47 rfl (by assumption) rfl) rfl rfl ?_
        -- op
        refine SL.x (op_callF en38 (vs := [_]) rfl (empty_spec ((hy3.mono hX10).mono hX11))) rfl rfl ?_
        rintro _ _ X12 ⟨rfl, hX12, rfl⟩
        first | refine SL.skip rfl rfl ?_ | refine SL.y (op_pickT rfl rfl) rfl rfl ?_ | refine SL.y (op_pickF rfl rfl) rfl rfl ?_ | refine SL.y (op_pickB rfl rfl rfl) rfl rfl ?_
        first | refine SL.skip rfl rfl ?_ | refine SL.y (op_pickT rfl rfl) rfl rfl ?_ | refine SL.y (op_pickF rfl rfl) rfl rfl ?_ | refine SL.y (op_pickB rfl rfl rfl) rfl rfl ?_
        first | refine SL.y (op_pickT rfl rfl) rfl rfl ?_ | refine SL.y (op_pickF rfl rfl) rfl rfl ?_ | refine SL.y (op_pickB rfl rfl rfl) rfl rfl ?_
        refine SL.y (op_assign rfl) rfl rfl ?_
        refine SL.nil ?_
        -- ret
        refine T.ret1 rfl (ResIs.tmp rfl) ?_
        rfl
      · have g2 : ((allR c ms).length : Int) ≤ i := by omega
        first | refine SL.y (op_pickT rfl rfl) rfl rfl ?_ | refine SL.y (op_pickF rfl rfl) rfl rfl ?_ | refine SL.y (op_pickB rfl rfl rfl) rfl rfl ?_
        refine SL.y (op_move rfl) rfl rfl ?_
        first | refine SL.skip rfl rfl ?_ | refine SL.y (op_move rfl) rfl rfl ?_
        first | refine SL.skip rfl rfl ?_ | refine SL.y (op_move rfl) rfl rfl ?_
        first | refine SL.skip rfl rfl ?_ | refine SL.y (op_geqT rfl rfl (by omega)) rfl rfl ?_ | refine SL.y (op_geqF rfl rfl (by omega)) rfl rfl ?_ | refine SL.y (op_geq rfl rfl) rfl rfl ?_
        first | refine SL.skip rfl rfl ?_ | refine SL.y (op_move rfl) rfl rfl ?_
        first | refine SL.skip rfl rfl ?_ | refine SL.y (op_move rfl) rfl rfl ?_
        first | refine SL.skip rfl rfl ?_ | refine SL.y (op_move rfl) rfl rfl ?_
        first | refine SL.skip rfl rfl ?_ | refine SL.y (op_lenS Tryd.underlying29 rfl) rfl rfl ?_
        first | refine SL.skip rfl rfl ?_ | refine SL.y (op_lssT rfl rfl (by omega)) rfl rfl ?_ | refine SL.y (op_lssF rfl rfl (by omega)) rfl rfl ?_ | refine SL.y (op_lss rfl rfl) rfl rfl ?_
        first | refine SL.skip rfl rfl ?_ | refine SL.y (op_pickT rfl rfl) rfl rfl ?_ | refine SL.y (op_pickF rfl rfl) rfl rfl ?_ | refine SL.y (op_pickB rfl rfl rfl) rfl rfl ?_
        first | refine SL.skip rfl rfl ?_ | refine SL.y (op_eqlB Tryd.underlying4 rfl rfl) rfl rfl ?_
        first | refine SL.y (op_pickT rfl rfl) rfl rfl ?_ | refine SL.y (op_pickF rfl rfl) rfl rfl ?_ | refine SL.y (op_pickB rfl rfl rfl) rfl rfl ?_
        refine SL.y (op_move rfl) rfl rfl ?_
        first | refine SL.skip rfl rfl ?_ | refine SL.y (op_move rfl) rfl rfl ?_
        first | refine SL.skip rfl rfl ?_ | refine SL.y (op_move rfl) rfl rfl ?_
        first | refine SL.skip rfl rfl ?_ | refine SL.y (op_fieldAddr fa49_0 rfl) rfl rfl ?_
        first | refine SL.skip rfl rfl ?_ | refine SL.y (op_load ty47 rfl (by repeat (first | exact AtO.here | apply AtO.there)) rfl) rfl rfl ?_ | refine SL.y (op_loadX ty47 rfl (by assumption) rfl) rfl rfl ?_
        -- op
        refine SL.x (op_callF en38 (vs := [_]) rfl (empty_spec (hx3.mono hX10))) rfl rfl ?_
        rintro _ _ X11 ⟨rfl, hX11, rfl⟩
        first | refine SL.skip rfl rfl ?_ | refine SL.y (op_move rfl) rfl rfl ?_
        first | refine SL.skip rfl rfl ?_ | refine SL.y (op_fieldAddr fa49_1 rfl) rfl rfl ?_
        first | refine SL.skip rfl rfl ?_ | refine SL.y (op_load ty47 rfl (by repeat (first | exact AtO.here | apply AtO.there)) rfl) rfl rfl ?_ | refine SL.y (op_loadX ty47 rfl (by assumption) rfl) rfl rfl ?_
        -- op
        refine SL.x (op_callF en38 (vs := [_]) rfl (empty_spec ((hy3.mono hX10).mono hX11))) rfl rfl ?_
        rintro _ _ X12 ⟨rfl, hX12, rfl⟩
        first | refine SL.skip rfl rfl ?_ | refine SL.y (op_pickT rfl rfl) rfl rfl ?_ | refine SL.y (op_pickF rfl rfl) rfl rfl ?_ | refine SL.y (op_pickB rfl rfl rfl) rfl rfl ?_
        first | refine SL.skip rfl rfl ?_ | refine SL.y (op_pickT rfl rfl) rfl rfl ?_ | refine SL.y (op_pickF rfl rfl) rfl rfl ?_ | refine SL.y (op_pickB rfl rfl rfl) rfl rfl ?_
        first | refine SL.y (op_pickT rfl rfl) rfl rfl ?_ | refine SL.y (op_pickF rfl rfl) rfl rfl ?_ | refine SL.y (op_pickB rfl rfl rfl) rfl rfl ?_
        refine SL.y (op_assign rfl) rfl rfl ?_
        refine SL.nil ?_
        -- ret
        refine T.ret1 rfl (ResIs.tmp rfl) ?_
        rfl
  | some n =>
    obtain ⟨hnl, ho2⟩ := idx_some ho
    refine SL.x (op_callF en34 (vs := [_, _]) rfl (lindex_val (hN.mono hX3) hS ho)) rfl rfl ?_
    rintro _ _ X4 ⟨rfl, hX4, rfl⟩
    rw [show ((some n).getD 0 : Nat) = n from rfl, show (some n).isSome = true from rfl]
    refine SL.y (op_move rfl) rfl rfl ?_
    refine SL.y (op_extract rfl rfl) rfl rfl ?_
    refine SL.y (op_extract rfl rfl) rfl rfl ?_
    refine SL.y (op_assign rfl) rfl rfl ?_
    refine SL.y (op_assign rfl) rfl rfl ?_
    refine SL.nil ?_
    refine T.seq ?_
    refine T.region ?_
    refine SL.y (op_move rfl) rfl rfl ?_
    refine SL.y (op_move rfl) rfl rfl ?_
    -- op
    refine SL.x (op_callF en35 (vs := [_, _]) rfl (index46_val ((hC.mono hX3).mono hX4) ho2)) rfl rfl ?_
    rintro _ _ X5 ⟨rfl, hX5, rfl⟩
    rw [show optI (some n) = (n : Int) from rfl]
    refine SL.y (op_assign rfl) rfl rfl ?_
    refine SL.nil ?_
    refine T.seq ?_
    refine T.seq ?_
    refine T.region ?_
    refine SL.y (op_move rfl) rfl rfl ?_
    refine SL.y (op_move rfl) rfl rfl ?_
    first | refine SL.y (op_geqT rfl rfl (by omega)) rfl rfl ?_ | refine SL.y (op_geqF rfl rfl (by omega)) rfl rfl ?_ | refine SL.y (op_geq rfl rfl) rfl rfl ?_
    refine SL.y (op_neqB Tryd.underlying4 rfl rfl) rfl rfl ?_
    refine SL.y (op_move rfl) rfl rfl ?_
    first | refine SL.skip rfl rfl ?_ | refine SL.y (op_move rfl) rfl rfl ?_
    first | refine SL.skip rfl rfl ?_ | refine SL.y (op_move rfl) rfl rfl ?_
    first | refine SL.skip rfl rfl ?_ | refine SL.y (op_maxL rfl rfl (by omega)) rfl rfl ?_ | refine SL.y (op_maxR rfl rfl (by omega)) rfl rfl ?_ | refine SL.y (op_maxN rfl rfl) rfl rfl ?_ | refine SL.y (op_max rfl rfl rfl) rfl rfl ?_
    first | refine SL.skip rfl rfl ?_ | refine SL.y (op_neqT rfl rfl (by omega)) rfl rfl ?_ | refine SL.y (op_neqF rfl rfl (by omega)) rfl rfl ?_ | refine SL.y (op_neq rfl rfl) rfl rfl ?_
    first | refine SL.y (op_pickT rfl rfl) rfl rfl ?_ | refine SL.y (op_pickF rfl rfl) rfl rfl ?_ | refine SL.y (op_pickB rfl rfl rfl) rfl rfl ?_
    refine SL.nil ?_
    refine T.condF rfl ?_
    refine T.skip ?_
    refine T.seq ?_
    refine T.region ?_
    refine SL.y (op_move rfl) rfl rfl ?_
    first | refine SL.y (op_load ty47 rfl (by repeat (first | exact AtO.here | apply AtO.there)) rfl) rfl rfl ?_ | refine SL.y (op_loadX ty47 rfl (by assumption) rfl) rfl rfl ?_
    -- op
    have hX25 := (hX3.trans' hX4).trans' hX5
    refine SL.x (op_callF en36 (vs := [_, _]) rfl (cof_spec (hT2.mono hX25) (hM.mono hX25) ((hS.mono hX4).mono hX5))) rfl rfl ?_
    rintro _ _ X6 ⟨rfl, hX6, x, y, rfl, hx, hy⟩
    obtain ⟨Ax, lx, cx, hxe⟩ := hx.form
    obtain ⟨Ay, ly, cy, hye⟩ := hy.form
    obtain rfl : x = .slice Ax lx cx := by simpa using hxe
    obtain rfl : y = .slice Ay ly cy := by simpa using hye
    refine SL.x (op_alloc z49) rfl rfl ?_
    rintro _ _ _ ⟨B14, rfl, rfl, rfl⟩
    refine SL.x (op_store ty49 rfl rfl (by repeat (first | exact AtO.here | apply AtO.there)) rfl rfl rfl) rfl rfl ?_
    rintro _ _ _ ⟨rfl, rfl⟩
    refine SL.nil ?_
    refine T.seq ?_
    refine T.region ?_
    refine SL.y (op_move rfl) rfl rfl ?_
    refine SL.y (op_fieldAddr fa49_1 rfl) rfl rfl ?_
    first | refine SL.y (op_load ty47 rfl (by repeat (first | exact AtO.here | apply AtO.there)) rfl) rfl rfl ?_ | refine SL.y (op_loadX ty47 rfl (by assumption) rfl) rfl rfl ?_
    -- op
    refine SL.x (op_callF en34 (vs := [_, _]) rfl (lindex_val ((hN.mono hX25).mono hX6) hy hidx)) rfl rfl ?_
    rintro _ _ X7 ⟨rfl, hX7, rfl⟩
    rw [show ((some k).getD 0 : Nat) = k from rfl, show (some k).isSome = true from rfl]
    have hX27 := (hX25.trans' hX6).trans' hX7
    refine SL.y (op_move rfl) rfl rfl ?_
    refine SL.y (op_extract rfl rfl) rfl rfl ?_
    refine SL.y (op_extract rfl rfl) rfl rfl ?_
    refine SL.y (op_assign rfl) rfl rfl ?_
    refine SL.y (op_assign rfl) rfl rfl ?_
    refine SL.nil ?_
    refine T.seq ?_
    refine T.region ?_
    refine SL.y (op_move rfl) rfl rfl ?_
    refine SL.y (op_move rfl) rfl rfl ?_
    -- op
    refine SL.x (op_callF en25 (vs := [_, _]) rfl (at_val (hN.mono hX27) hkL)) rfl rfl ?_
    rintro _ _ X8 ⟨rfl, hX8, x2, y2, rfl, hx2, hy2⟩
    obtain ⟨Ax2, lx2, cx2, hxe2⟩ := hx2.form
    obtain ⟨Ay2, ly2, cy2, hye2⟩ := hy2.form
    obtain rfl : x2 = .slice Ax2 lx2 cx2 := by simpa using hxe2
    obtain rfl : y2 = .slice Ay2 ly2 cy2 := by simpa using hye2
    refine SL.y (op_move rfl) rfl rfl ?_
    refine SL.y (op_extract rfl rfl) rfl rfl ?_
    refine SL.y (op_extract rfl rfl) rfl rfl ?_
    refine SL.x (op_alloc z49) rfl rfl ?_
    rintro _ _ _ ⟨B17, rfl, rfl, rfl⟩
    refine SL.x (op_store ty49 rfl rfl (by repeat (first | exact AtO.here | apply AtO.there)) rfl rfl rfl) rfl rfl ?_
    rintro _ _ _ ⟨rfl, rfl⟩
    refine SL.y (op_assign rfl) rfl rfl ?_
    refine SL.nil ?_
    refine T.seq ?_
    refine T.region ?_
    refine SL.y (op_move rfl) rfl rfl ?_
    refine SL.y (op_move rfl) rfl rfl ?_
    -- op
    by_cases hin : 0 ≤ i ∧ i < (allR c ms).length
    · obtain ⟨a, rfl⟩ := Int.eq_ofNat_of_zero_le hin.1
      have ha : a < (allR c ms).length := by omega
      refine SL.x (op_callF en25 (vs := [_, _]) rfl (at_val ((hN.mono hX27).mono hX8) ha)) rfl rfl ?_
      rintro _ _ X9 ⟨rfl, hX9, x3, y3, rfl, hx3, hy3⟩
      obtain ⟨Ax3, lx3, cx3, hxe3⟩ := hx3.form
      obtain ⟨Ay3, ly3, cy3, hye3⟩ := hy3.form
      obtain rfl : x3 = .slice Ax3 lx3 cx3 := by simpa using hxe3
      obtain rfl : y3 = .slice Ay3 ly3 cy3 := by simpa using hye3
      refine SL.y (op_move rfl) rfl rfl ?_
      refine SL.y (op_extract rfl rfl) rfl rfl ?_
      refine SL.y (op_extract rfl rfl) rfl rfl ?_
      refine SL.x (op_alloc z49) rfl rfl ?_
      rintro _ _ _ ⟨B19, rfl, rfl, rfl⟩
      refine SL.x (op_store ty49 rfl rfl (by repeat (first | exact AtO.here | apply AtO.there)) rfl rfl rfl) rfl rfl ?_
      rintro _ _ _ ⟨rfl, rfl⟩
      refine SL.y (op_assign rfl) rfl rfl ?_
      refine SL.nil ?_
      refine T.seq ?_
      refine T.region ?_
      refine SL.y (op_move rfl) rfl rfl ?_
      refine SL.y (op_move rfl) rfl rfl ?_
      first | refine SL.skip rfl rfl ?_ | refine SL.y (op_move rfl) rfl rfl ?_
      first | refine SL.y (op_pickT rfl rfl) rfl rfl ?_ | refine SL.y (op_pickF rfl rfl) rfl rfl ?_ | refine SL.y (op_pickB rfl rfl rfl) rfl rfl ?_
      refine SL.y (op_move rfl) rfl rfl ?_
      first | refine SL.skip rfl rfl ?_ | refine SL.y (op_fieldAddr fa49_0 rfl) rfl rfl ?_
      first | refine SL.skip rfl rfl ?_ | refine SL.y (op_load ty47 rfl (by repeat (first | exact AtO.here | apply AtO.there)) rfl) rfl rfl ?_ | refine SL.y (op_loadX ty47 rfl (by assumption) rfl) rfl rfl ?_
      first | refine SL.skip rfl rfl ?_ | refine SL.y (op_fieldAddr fa49_0 rfl) rfl rfl ?_
      first | refine SL.skip rfl rfl ?_ | refine SL.y (op_load ty47 rfl (by repeat (first | exact AtO.here | apply AtO.there)) rfl) rfl rfl ?_ | refine SL.y (op_loadX ty47 rfl (by assumption) rfl) rfl rfl ?_
      -- op
      refine SL.x (op_callF en37 (vs := [_, _]) rfl (equal_spec (hx2.mono hX9) (((hx.mono hX7).mono hX8).mono hX9))) rfl rfl ?_
      rintro _ _ X10 ⟨rfl, hX10, rfl⟩
      rw [decide_eq_true hrow]
      first | refine SL.y (op_pickT rfl rfl) rfl rfl ?_ | refine SL.y (op_pickF rfl rfl) rfl rfl ?_ | refine SL.y (op_pickB rfl rfl rfl) rfl rfl ?_
      refine SL.y (op_move rfl) rfl rfl ?_
      first | refine SL.skip rfl rfl ?_ | refine SL.y (op_move rfl) rfl rfl ?_
      first | refine SL.skip rfl rfl ?_ | refine SL.y (op_move rfl) rfl rfl ?_
      first | refine SL.skip rfl rfl ?_ | refine SL.y (op_geqT rfl rfl (by omega)) rfl rfl ?_ | refine SL.y (op_geqF rfl rfl (by omega)) rfl rfl ?_ | refine SL.y (op_geq rfl rfl) rfl rfl ?_
      first | refine SL.skip rfl rfl ?_ | refine SL.y (op_move rfl) rfl rfl ?_
      first | refine SL.skip rfl rfl ?_ | refine SL.y (op_move rfl) rfl rfl ?_
      first | refine SL.skip rfl rfl ?_ | refine SL.y (op_move rfl) rfl rfl ?_
      first | refine SL.skip rfl rfl ?_ | refine SL.y (op_lenS Tryd.underlying29 rfl) rfl rfl ?_
      first | refine SL.skip rfl rfl ?_ | refine SL.y (op_lssT rfl rfl (by omega)) rfl rfl ?_ | refine SL.y (op_lssF rfl rfl (by omega)) rfl rfl ?_ | refine SL.y (op_lss rfl rfl) rfl rfl ?_
      first | refine SL.skip rfl rfl ?_ | refine SL.y (op_pickT rfl rfl) rfl rfl ?_ | refine SL.y (op_pickF rfl rfl) rfl rfl ?_ | refine SL.y (op_pickB rfl rfl rfl) rfl rfl ?_
      first | refine SL.skip rfl rfl ?_ | refine SL.y (op_eqlB Tryd.underlying4 rfl rfl) rfl rfl ?_
      first | refine SL.y (op_pickT rfl rfl) rfl rfl ?_ | refine SL.y (op_pickF rfl rfl) rfl rfl ?_ | refine SL.y (op_pickB rfl rfl rfl) rfl rfl ?_
      refine SL.y (op_move rfl) rfl rfl ?_
      first | refine SL.skip rfl rfl ?_ | refine SL.y (op_move rfl) rfl rfl ?_
      first | refine SL.skip rfl rfl ?_ | refine SL.y (op_move rfl) rfl rfl ?_
      first | refine SL.skip rfl rfl ?_ | refine SL.y (op_fieldAddr fa49_0 rfl) rfl rfl ?_
      first | refine SL.skip rfl rfl ?_ | refine SL.y (op_load ty47 rfl (by repeat (first | exact AtO.here | apply AtO.there)) rfl) rfl rfl ?_ | refine SL.y (op_loadX ty47 rfl (by assumption) rfl) rfl rfl ?_
      -- op
      refine SL.skip rfl rfl ?_
      first | refine SL.skip rfl rfl ?_ | refine SL.y (op_move rfl) rfl rfl ?_
      first | refine SL.skip rfl rfl ?_ | refine SL.y (op_fieldAddr fa49_1 rfl) rfl rfl ?_
      first | refine SL.skip rfl rfl ?_ | refine SL.y (op_load ty47 rfl (by repeat (first | exact AtO.here | apply AtO.there)) rfl) rfl rfl ?_ | refine SL.y (op_loadX ty47 rfl (by assumption) rfl) rfl rfl ?_
      -- op
      refine SL.skip rfl rfl ?_
      first | refine SL.skip rfl rfl ?_ | refine SL.y (op_pickT rfl rfl) rfl rfl ?_ | refine SL.y (op_pickF rfl rfl) rfl rfl ?_ | refine SL.y (op_pickB rfl rfl rfl) rfl rfl ?_
      first | refine SL.skip rfl rfl ?_ | refine SL.y (op_pickT rfl rfl) rfl rfl ?_ | refine SL.y (op_pickF rfl rfl) rfl rfl ?_ | refine SL.y (op_pickB rfl rfl rfl) rfl rfl ?_
      first | refine SL.y (op_pickT rfl rfl) rfl rfl ?_ | refine SL.y (op_pickF rfl rfl) rfl rfl ?_ | refine SL.y (op_pickB rfl rfl rfl) rfl rfl ?_
      refine SL.y (op_assign rfl) rfl rfl ?_
      refine SL.nil ?_
      -- ret
      refine T.ret1 rfl (ResIs.tmp rfl) ?_
      rfl
    · refine SL.x (op_callF en25 (vs := [_, _]) rfl (at_out ((hN.mono hX27).mono hX8) hin)) rfl rfl ?_
      rintro _ _ X9 ⟨rfl, hX9, x3, y3, rfl, hx3, hy3⟩
      obtain ⟨Ax3, lx3, cx3, hxe3⟩ := hx3.form
      obtain ⟨Ay3, ly3, cy3, hye3⟩ := hy3.form
      obtain rfl : x3 = .slice Ax3 lx3 cx3 := by simpa using hxe3
      obtain rfl : y3 = .slice Ay3 ly3 cy3 := by simpa using hye3
      refine SL.y (op_move rfl) rfl rfl ?_
      refine SL.y (op_extract rfl rfl) rfl rfl ?_
      refine SL.y (op_extract rfl rfl) rfl rfl ?_
      refine SL.x (op_alloc z49) rfl rfl ?_
      rintro _ _ _ ⟨B19, rfl, rfl, rfl⟩
      refine SL.x (op_store ty49 rfl rfl (by repeat (first | exact AtO.here | apply AtO.there)) rfl rfl rfl) rfl rfl ?_
      rintro _ _ _ ⟨rfl, rfl⟩
      refine SL.y (op_assign rfl) rfl rfl ?_
      refine SL.nil ?_
      refine T.seq ?_
      refine T.region ?_
      refine SL.y (op_move rfl) rfl rfl ?_
      refine SL.y (op_move rfl) rfl rfl ?_
      first | refine SL.skip rfl rfl ?_ | refine SL.y (op_move rfl) rfl rfl ?_
      first | refine SL.y (op_pickT rfl rfl) rfl rfl ?_ | refine SL.y (op_pickF rfl rfl) rfl rfl ?_ | refine SL.y (op_pickB rfl rfl rfl) rfl rfl ?_
      refine SL.y (op_move rfl) rfl rfl ?_
      first | refine SL.skip rfl rfl ?_ | refine SL.y (op_fieldAddr fa49_0 rfl) rfl rfl ?_
      first | refine SL.skip rfl rfl ?_ | refine SL.y (op_load ty47 rfl (by repeat (first | exact AtO.here | apply AtO.there)) rfl) rfl rfl ?_ | refine SL.y (op_loadX ty47 rfl (by assumption) rfl) rfl rfl ?_
      first | refine SL.skip rfl rfl ?_ | refine SL.y (op_fieldAddr fa49_0 rfl) rfl rfl ?_
      first | refine SL.skip rfl rfl ?_ | refine SL.y (op_load ty47 rfl (by repeat (first | exact AtO.here | apply AtO.there)) rfl) rfl rfl ?_ | refine SL.y (op_loadX ty47 rfl (by assumption) rfl) rfl rfl ?_
      -- op
      refine SL.x (op_callF en37 (vs := [_, _]) rfl (equal_spec (hx2.mono hX9) (((hx.mono hX7).mono hX8).mono hX9))) rfl rfl ?_
      rintro _ _ X10 ⟨rfl, hX10, rfl⟩
      rw [decide_eq_true hrow]
      rcases Int.lt_or_le i 0 with g1 | g1
      · skip
        first | refine SL.y (op_pickT rfl rfl) rfl rfl ?_ | refine SL.y (op_pickF rfl rfl) rfl rfl ?_ | refine SL.y (op_pickB rfl rfl rfl) rfl rfl ?_
        refine SL.y (op_move rfl) rfl rfl ?_
        first | refine SL.skip rfl rfl ?_ | refine SL.y (op_move rfl) rfl rfl ?_
        first | refine SL.skip rfl rfl ?_ | refine SL.y (op_move rfl) rfl rfl ?_
        first | refine SL.skip rfl rfl ?_ | refine SL.y (op_geqT rfl rfl (by omega)) rfl rfl ?_ | refine SL.y (op_geqF rfl rfl (by omega)) rfl rfl ?_ | refine SL.y (op_geq rfl rfl) rfl rfl ?_
        first | refine SL.skip rfl rfl ?_ | refine SL.y (op_move rfl) rfl rfl ?_
        first | refine SL.skip rfl rfl ?_ | refine SL.y (op_move rfl) rfl rfl ?_
        first | refine SL.skip rfl rfl ?_ | refine SL.y (op_move rfl) rfl rfl ?_
        first | refine SL.skip rfl rfl ?_ | refine SL.y (op_lenS Tryd.underlying29 rfl) rfl rfl ?_
        first | refine SL.skip rfl rfl ?_ | refine SL.y (op_lssT rfl rfl (by omega)) rfl rfl ?_ | refine SL.y (op_lssF rfl rfl (by omega)) rfl rfl ?_ | refine SL.y (op_lss rfl rfl) rfl rfl ?_
        first | refine SL.skip rfl rfl ?_ | refine SL.y (op_pickT rfl rfl) rfl rfl ?_ | refine SL.y (op_pickF rfl rfl) rfl rfl ?_ | refine SL.y (op_pickB rfl rfl rfl) rfl rfl ?_
        first | refine SL.skip rfl rfl ?_ | refine SL.y (op_eqlB Tryd.underlying4 rfl rfl) rfl rfl ?_
        first | refine SL.y (op_pickT rfl rfl) rfl rfl ?_ | refine SL.y (op_pickF rfl rfl) rfl rfl ?_ | refine SL.y (op_pickB rfl rfl rfl) rfl rfl ?_
        refine SL.y (op_move rfl) rfl rfl ?_
        first | refine SL.skip rfl rfl ?_ | refine SL.y (op_move rfl) rfl rfl ?_
        first | refine SL.skip rfl rfl ?_ | refine SL.y (op_move rfl) rfl rfl ?_
        first | refine SL.skip rfl rfl ?_ | refine SL.y (op_fieldAddr fa49_0 rfl) rfl rfl ?_
        first | refine SL.skip rfl rfl ?_ | refine SL.y (op_load ty47 rfl (by repeat (first | exact AtO.here | apply AtO.there)) rfl) rfl rfl ?_ | refine SL.y (op_loadX ty47 rfl (by assumption) rfl) rfl rfl ?_
        -- op
        refine SL.x (op_callF en38 (vs := [_]) rfl (empty_spec (hx3.mono hX10))) rfl rfl ?_
        rintro _ _ X11 ⟨rfl, hX11, rfl⟩
        first | refine SL.skip rfl rfl ?_ | refine SL.y (op_move rfl) rfl rfl ?_
        first | refine SL.skip rfl rfl ?_ | refine SL.y (op_fieldAddr fa49_1 rfl) rfl rfl ?_
        first | refine SL.skip rfl rfl ?_ | refine SL.y (op_load ty47 rfl (by repeat (first | exact AtO.here | apply AtO.there)) rfl) rfl rfl ?_ | refine SL.y (op_loadX ty47 rfl (by assumption) rfl) rfl rfl ?_
        -- op
        refine SL.x (op_callF en38 (vs := [_]) rfl (empty_spec ((hy3.mono hX10).mono hX11))) rfl rfl ?_
        rintro _ _ X12 ⟨rfl, hX12, rfl⟩
        first | refine SL.skip rfl rfl ?_ | refine SL.y (op_pickT rfl rfl) rfl rfl ?_ | refine SL.y (op_pickF rfl rfl) rfl rfl ?_ | refine SL.y (op_pickB rfl rfl rfl) rfl rfl ?_
        first | refine SL.skip rfl rfl ?_ | refine SL.y (op_pickT rfl rfl) rfl rfl ?_ | refine SL.y (op_pickF rfl rfl) rfl rfl ?_ | refine SL.y (op_pickB rfl rfl rfl) rfl rfl ?_
        first | refine SL.y (op_pickT rfl rfl) rfl rfl ?_ | refine SL.y (op_pickF rfl rfl) rfl rfl ?_ | refine SL.y (op_pickB rfl rfl rfl) rfl rfl ?_
        refine SL.y (op_assign rfl) rfl rfl ?_
        refine SL.nil ?_
        -- ret
        refine T.ret1 rfl (ResIs.tmp rfl) ?_
        rfl
      · have g2 : ((allR c ms).length : Int) ≤ i := by omega
        first | refine SL.y (op_pickT rfl rfl) rfl rfl ?_ | refine SL.y (op_pickF rfl rfl) rfl rfl ?_ | refine SL.y (op_pickB rfl rfl rfl) rfl rfl ?_
        refine SL.y (op_move rfl) rfl rfl ?_
        first | refine SL.skip rfl rfl ?_ | refine SL.y (op_move rfl) rfl rfl ?_
        first | refine SL.skip rfl rfl ?_ | refine SL.y (op_move rfl) rfl rfl ?_
        first | refine SL.skip rfl rfl ?_ | refine SL.y (op_geqT rfl rfl (by omega)) rfl rfl ?_ | refine SL.y (op_geqF rfl rfl (by omega)) rfl rfl ?_ | refine SL.y (op_geq rfl rfl) rfl rfl ?_
        first | refine SL.skip rfl rfl ?_ | refine SL.y (op_move rfl) rfl rfl ?_
        first | refine SL.skip rfl rfl ?_ | refine SL.y (op_move rfl) rfl rfl ?_
        first | refine SL.skip rfl rfl ?_ | refine SL.y (op_move rfl) rfl rfl ?_
        first | refine SL.skip rfl rfl ?_ | refine SL.y (op_lenS Tryd.underlying29 rfl) rfl rfl ?_
        first | refine SL.skip rfl rfl ?_ | refine SL.y (op_lssT rfl rfl (by omega)) rfl rfl ?_ | refine SL.y (op_lssF rfl rfl (by omega)) rfl rfl ?_ | refine SL.y (op_lss rfl rfl) rfl rfl ?_
        first | refine SL.skip rfl rfl ?_ | refine SL.y (op_pickT rfl rfl) rfl rfl ?_ | refine SL.y (op_pickF rfl rfl) rfl rfl ?_ | refine SL.y (op_pickB rfl rfl rfl) rfl rfl ?_
        first | refine SL.skip rfl rfl ?_ | refine SL.y (op_eqlB Tryd.underlying4 rfl rfl) rfl rfl ?_
        first | refine SL.y (op_pickT rfl rfl) rfl rfl ?_ | refine SL.y (op_pickF rfl rfl) rfl rfl ?_ | refine SL.y (op_pickB rfl rfl rfl) rfl rfl ?_
        refine SL.y (op_move rfl) rfl rfl ?_
        first | refine SL.skip rfl rfl ?_ | refine SL.y (op_move rfl) rfl rfl ?_
        first | refine SL.skip rfl rfl ?_ | refine SL.y (op_move rfl) rfl rfl ?_
        first | refine SL.skip rfl rfl ?_ | refine SL.y (op_fieldAddr fa49_0 rfl) rfl rfl ?_
        first | refine SL.skip rfl rfl ?_ | refine SL.y (op_load ty47 rfl (by repeat (first | exact AtO.here | apply AtO.there)) rfl) rfl rfl ?_ | refine SL.y (op_loadX ty47 rfl (by assumption) rfl) rfl rfl ?_
        -- op
        refine SL.x (op_callF en38 (vs := [_]) rfl (empty_spec (hx3.mono hX10))) rfl rfl ?_
        rintro _ _ X11 ⟨rfl, hX11, rfl⟩
        first | refine SL.skip rfl rfl ?_ | refine SL.y (op_move rfl) rfl rfl ?_
        first | refine SL.skip rfl rfl ?_ | refine SL.y (op_fieldAddr fa49_1 rfl) rfl rfl ?_
        first | refine SL.skip rfl rfl ?_ | refine SL.y (op_load ty47 rfl (by repeat (first | exact AtO.here | apply AtO.there)) rfl) rfl rfl ?_ | refine SL.y (op_loadX ty47 rfl (by assumption) rfl) rfl rfl ?_
        -- op
        refine SL.x (op_callF en38 (vs := [_]) rfl (empty_spec ((hy3.mono hX10).mono hX11))) rfl rfl ?_
        rintro _ _ X12 ⟨rfl, hX12, rfl⟩
        first | refine SL.skip rfl rfl ?_ | refine SL.y (op_pickT rfl rfl) rfl rfl ?_ | refine SL.y (op_pickF rfl rfl) rfl rfl ?_ | refine SL.y (op_pickB rfl rfl rfl) rfl rfl ?_
        first | refine SL.skip rfl rfl ?_ | refine SL.y (op_pickT rfl rfl) rfl rfl ?_ | refine SL.y (op_pickF rfl rfl) rfl rfl ?_ | refine SL.y (op_pickB rfl rfl rfl) rfl rfl ?_
        first | refine SL.y (op_pickT rfl rfl) rfl rfl ?_ | refine SL.y (op_pickF rfl rfl) rfl rfl ?_ | refine SL.y (op_pickB rfl rfl rfl) rfl rfl ?_
        refine SL.y (op_assign rfl) rfl rfl ?_
        refine SL.nil ?_
        -- ret
        refine T.ret1 rfl (ResIs.tmp rfl) ?_
        rfl
end Go.Proofs.YtoheffglppbcbaaDoor
