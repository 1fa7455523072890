/- LatticeTurns answers true: the transposed matrix and its concepts. -/
import Derived.Test.YtoheffglppbcbaaDoorLaws
namespace Go.Proofs.YtoheffglppbcbaaDoor
section
set_option maxRecDepth 100000
theorem en43 : Enters Tryd.prog 43 := enters_mk Tryd.func43 (by kernel_rfl) rfl
end
open Go.RowKit
def colsL (c : Nat) (ms : List Nat) : List Nat := (List.range c).map fun (j : Nat) => colM c ms (j : Int)
theorem colsL_len (c : Nat) (ms : List Nat) : (colsL c ms).length = c := by simp [colsL]
theorem colsL_take_succ (c : Nat) (ms : List Nat) (j : Nat) (hj : j < c) : (colsL c ms).take (j + 1) = (colsL c ms).take j ++ [colM c ms (j : Int)] := by
  rw [List.take_succ_eq_append_getElem (by rw [colsL_len]; exact hj)]
  simp [colsL]
theorem transposed_spec {X : PMap} {v : Value} {c : Nat} {ms : List Nat} (h : MatR X v c ms) : Spec Tryd.prog 43 [v] X fun u X' => MatR X' u ms.length (colsL c ms) := by
  have hh := h
  obtain ⟨hr, hc⟩ := h.lens
  have hcl := colsL_len c ms
  obtain ⟨bm, Am, capm, csm, rfl, hBm, hSm, hAm, _⟩ := h
  refine Spec.enter Tryd.func43 rfl Tryd.ntmps43 rfl ?_
  intro w0 hw0
  refine T.seq ?_
  refine T.region ?_
  refine SL.y (op_assign rfl) rfl rfl ?_
  refine SL.nil ?_
  refine T.seq ?_
  refine T.seq ?_
  refine T.region ?_
  refine SL.y (op_move rfl) rfl rfl ?_
  refine SL.y (op_eqlNil Tryd.underlying27 rfl rfl) rfl rfl ?_
  refine SL.nil ?_
  refine T.condF rfl ?_
  refine T.skip ?_
  refine T.seq ?_
  refine T.region ?_
  refine SL.y (op_move rfl) rfl rfl ?_
  first | refine SL.y (op_nil rfl) rfl rfl ?_ | refine SL.y (op_nilFn rfl) rfl rfl ?_
  refine SL.y (op_fieldAddr fa104_1 rfl) rfl rfl ?_
  first | refine SL.y (op_load ty59 rfl (by repeat (first | exact AtO.here | apply AtO.there)) rfl) rfl rfl ?_ | refine SL.y (op_loadX ty59 rfl (by assumption) rfl) rfl rfl ?_
  refine SL.y (op_lenS Tryd.underlying59 rfl) rfl rfl ?_
  refine SL.y (op_build st104 (qs := [(0, _)]) rfl rfl) rfl rfl ?_
  refine SL.x (op_box rfl) rfl rfl ?_
  rintro _ _ _ ⟨B13, rfl, rfl, rfl⟩
  refine SL.y (op_assign rfl) rfl rfl ?_
  refine SL.nil ?_
  refine T.seq ?_
  refine T.seq ?_
  refine T.region ?_
  refine SL.y (op_move rfl) rfl rfl ?_
  first | refine SL.y (op_nil rfl) rfl rfl ?_ | refine SL.y (op_nilFn rfl) rfl rfl ?_
  refine SL.y (op_fieldAddr fa104_0 rfl) rfl rfl ?_
  first | refine SL.y (op_load ty3 rfl (by repeat (first | exact AtO.here | apply AtO.there)) rfl) rfl rfl ?_ | refine SL.y (op_loadX ty3 rfl (by assumption) rfl) rfl rfl ?_
  refine SL.y (op_move (v := .int .i64 ((0 : Nat) : Int)) rfl) rfl rfl ?_
  refine SL.nil ?_
  refine T.block ?_
  -- loop live [0, 2, 3, 17, 18]
  refine T.loopW (fun m env own X' => ∃ (j : Nat) (sv : Value) (G : Own) (cs : List Value), m = c - j ∧ j ≤ c ∧ X.le X' ∧ GrowS 47 1 sv j cs G ∧ SetsR X' cs ((colsL c ms).take j) ∧ env = [(0, .pointer (some ⟨bm, 0, none⟩)), (3, .pointer (some ⟨B13, 0, none⟩)), (17, .int .i64 (c : Int)), (18, .int .i64 (j : Int))] ∧ own = ⟨B13, [.int .i64 (ms.length : Int), sv], 104, 2⟩ :: G) c ⟨0, _, _, [], by simp, by omega, PMap.le_refl _, GrowS.nil, ⟨rfl, fun i m h => by simp at h⟩, rfl, rfl⟩ (by repeat (first | exact Sub.nil | refine Sub.cons rfl ?_)) ?_
  rintro m _ _ X1 ⟨j, sv, G, cs, rfl, hj, hX1, hG, hC, rfl, rfl⟩
  obtain ⟨As, cps, rfl⟩ := hG.form
  rcases Nat.lt_or_ge j c with hjc | hjc
  · skip
    refine T.seq ?_
    refine T.region ?_
    first | refine SL.y (op_lssT rfl rfl (by omega)) rfl rfl ?_ | refine SL.y (op_lssF rfl rfl (by omega)) rfl rfl ?_ | refine SL.y (op_lss rfl rfl) rfl rfl ?_
    refine SL.nil ?_
    refine T.seq ?_
    refine T.condT rfl ?_
    refine T.skip ?_
    refine T.seq ?_
    refine T.block ?_
    refine T.seq ?_
    refine T.region ?_
    refine SL.y (op_move rfl) rfl rfl ?_
    refine SL.y (op_assign rfl) rfl rfl ?_
    refine SL.nil ?_
    refine T.drawG (own0 := [_]) (by kernel_rfl) 10 [(0, true), (1, true), (2, true), (3, true), (4, true), (5, true), (6, true), (7, false), (8, false), (9, false)] (by kernel_rfl) ?_
    refine SD.take rfl panicBody (op_move rfl) rfl rfl ?_
    refine SD.take rfl panicBody (op_move rfl) rfl rfl ?_
    first | refine SD.take rfl panicBody (op_nil rfl) rfl rfl ?_ | refine SD.take rfl panicBody (op_nilFn rfl) rfl rfl ?_
    refine SD.take rfl panicBody (op_fieldAddr fa104_1 rfl) rfl rfl ?_
    first | refine SD.take rfl panicBody (op_load ty59 rfl (by repeat (first | exact AtO.here | apply AtO.there)) rfl) rfl rfl ?_ | refine SD.take rfl panicBody (op_loadX ty59 rfl (by assumption) rfl) rfl rfl ?_
    refine SD.take rfl panicBody (op_move rfl) rfl rfl ?_
    refine SD.take rfl panicBody (op_move rfl) rfl rfl ?_
    -- op
    refine SD.run rfl (op_callF en68 (vs := [_, _]) rfl (column_spec (hh.mono hX1) (j : Int))) rfl rfl ?_
    rintro _ _ X3 ⟨rfl, hX3, hS3⟩
    obtain ⟨A3, l3, c3, rfl⟩ := hS3.form
    refine SD.run rfl (op_buildSlice Tryd.underlying59 bs47 (qs := [(0, _)]) rfl rfl rfl rfl rfl) rfl rfl ?_
    rintro _ _ _ ⟨B29, rfl, rfl, rfl⟩
    -- op
    refine SD.runK rfl (op_appendG (own0 := [_]) sl59 rfl hG rfl rfl rfl (by (have : maxLen = 9223372036854775807 := rfl); omega) (by omega)) (by rintro _ _ _ ⟨G', rfl, rfl, _⟩; exact ⟨fun p hp => List.mem_append_left _ hp, PMap.le_trans hX3 (PMap.le_refl _)⟩) rfl rfl ?_
    rintro s' _ _ ⟨G', rfl, rfl, hG'⟩
    refine SD.nil ?_
    show SL _ _ _ _ _ _ _ [_, _, _] _ _ _
    obtain ⟨As', cps', rfl⟩ := hG'.form
    first | refine SL.y (op_nil rfl) rfl rfl ?_ | refine SL.y (op_nilFn rfl) rfl rfl ?_
    refine SL.y (op_fieldAddr fa104_1 rfl) rfl rfl ?_
    refine SL.x (op_store ty59 rfl rfl (by repeat (first | exact AtO.here | apply AtO.there)) rfl rfl rfl) rfl rfl ?_
    rintro _ _ _ ⟨rfl, rfl⟩
    refine SL.nil ?_
    refine T.blk ?_
    refine T.region ?_
    first | refine SL.y (op_addN (q := 1) rfl rfl (by omega)) rfl rfl ?_ | refine SL.y (op_add rfl rfl (by omega) (by omega)) rfl rfl ?_ | refine SL.y (op_addW rfl rfl) rfl rfl ?_
    refine SL.y (op_move rfl) rfl rfl ?_
    refine SL.nil ?_
    -- cut
    exact T.backW (c - (j + 1)) (by omega) ⟨j + 1, _, G', _, rfl, by omega, hX1.trans' hX3, hG', by rw [colsL_take_succ c ms j hjc]; exact (hC.mono hX3).snoc hS3, rfl, rfl⟩ (by repeat (first | exact Sub.nil | refine Sub.cons rfl ?_))
  · obtain rfl : j = c := by omega
    rw [List.take_of_length_le (by omega)] at hC
    refine T.seq ?_
    refine T.region ?_
    first | refine SL.y (op_lssT rfl rfl (by omega)) rfl rfl ?_ | refine SL.y (op_lssF rfl rfl (by omega)) rfl rfl ?_ | refine SL.y (op_lss rfl rfl) rfl rfl ?_
    refine SL.nil ?_
    refine T.seq ?_
    refine T.condF rfl ?_
    refine T.exit (T.exitCode (T.exitCut (T.exitBlk ?_)))
    refine T.seq ?_
    refine T.region ?_
    refine SL.y (op_move rfl) rfl rfl ?_
    refine SL.y (op_assign rfl) rfl rfl ?_
    refine SL.nil ?_
    -- ret
    refine T.pubG (own0 := [_]) hG ?_
    intro X3 hX3 hS3
    refine T.pub B13 (by repeat (first | exact AtO.here | apply AtO.there)) ?_
    intro X4 hX4 hB4 _
    refine T.ret1 rfl (ResIs.tmp rfl) ?_
    refine ⟨B13, As, cps, cs, rfl, by rw [hcl]; exact hB4, (hC.mono hX3).mono hX4, fun h0 => ?_, by omega, hr⟩
    rw [hcl] at h0
    obtain ⟨b, rfl, hb⟩ := hS3.blk h0
    exact ⟨b, rfl, hb.mono hX4⟩
theorem rel_colsL {c : Nat} {ms : List Nat} {i j : Nat} (hj : j < c) : Rel (colsL c ms) j i = (decide (i < ms.length) && Rel ms i j) := by
  have e : (colsL c ms).getD j 0 = colM c ms (j : Int) := by simp [List.getD, colsL, hj]
  rw [Rel, e, colM_testBit c ms i j hj]
theorem hav_T {c : Nat} {ms : List Nat} (hr : ms.length < 64) (_hc : c < 64) (x : Nat) : hav ms.length (colsL c ms) x = com c ms x := by
  have hcl := colsL_len c ms
  apply Nat.eq_of_testBit_eq
  intro j
  refine bool_eq ?_
  rw [hav_iff ms.length (colsL c ms) x j (by omega), com_iff c ms x j (by omega), hcl]
  refine and_congr_right fun hj => forall_congr' fun i => forall_congr' fun hi => forall_congr' fun _ => ?_
  rw [rel_colsL hj]
  simp [hi]
theorem com_T {c : Nat} {ms : List Nat} (_hr : ms.length < 64) (hc : c < 64) (y : Nat) : com ms.length (colsL c ms) y = hav c ms y := by
  have hcl := colsL_len c ms
  apply Nat.eq_of_testBit_eq
  intro i
  refine bool_eq ?_
  rw [com_iff ms.length (colsL c ms) y i (by omega), hav_iff c ms y i (by omega), hcl]
  refine and_congr_right fun hi => forall_congr' fun j => forall_congr' fun hj => forall_congr' fun _ => ?_
  rw [rel_colsL hj]
  simp [hi]
theorem clo_T {c : Nat} {ms : List Nat} (hr : ms.length < 64) (hc : c < 64) (x : Nat) : clo ms.length (colsL c ms) x = hav c ms (com c ms x) := by
  rw [clo, hav_T hr hc, com_T hr hc]
theorem closedT_hav {c : Nat} {ms : List Nat} (hr : ms.length < 64) (hc : c < 6) {a : Nat} (ha : clo c ms a = a) : clo ms.length (colsL c ms) (hav c ms a) = hav c ms a := by
  rw [clo_T hr (by omega)]
  show hav c ms (clo c ms a) = _
  rw [ha]
theorem closed_comT {c : Nat} {ms : List Nat} (hr : ms.length < 64) (hc : c < 6) {x : Nat} (hx : clo ms.length (colsL c ms) x = x) : clo c ms (com c ms x) = com c ms x := by
  rw [clo_T hr (by omega)] at hx
  rw [clo, hx]
theorem nodup_len {l l' : List Nat} (hn : l.Nodup) (hs : ∀ x ∈ l, x ∈ l') : l.length ≤ l'.length := by
  have key : ∀ (l l' : List Nat), l.Nodup → (∀ x ∈ l, x ∈ l') → l.length ≤ l'.length := by
    intro l
    induction l with
    | nil => intro l' _ _; simp
    | cons a l ih =>
      intro l' hn hs
      have ha : a ∈ l' := hs a (by simp)
      have hn2 := List.nodup_cons.1 hn
      have h1 := ih (l'.erase a) hn2.2 (fun x hx => by
        have hne : x ≠ a := fun e => hn2.1 (by rw [← e]; exact hx)
        exact (List.mem_erase_of_ne hne).2 (hs x (by simp [hx])))
      have h2 := List.length_erase_of_mem ha
      have h3 : 0 < l'.length := List.length_pos_of_mem ha
      simp only [List.length_cons]
      omega
  exact key l l' hn hs
theorem allC_nodup {c : Nat} {ms : List Nat} (hc : c < 64) : (allC c ms).Nodup := by
  have hp : 2 ^ c < 18446744073709551616 := Nat.pow_lt_pow_right (a := 2) (by omega) hc
  exact (allN_sorted c ms (2 ^ c) (by omega)).imp fun {a b} h e => by subst e; exact bef_irrefl _ h
theorem lenT {c : Nat} {ms : List Nat} (hr : ms.length < 6) (hc : c < 6) : (allC ms.length (colsL c ms)).length = (allC c ms).length := by
  have hcl := colsL_len c ms
  have hinj1 : ∀ a b, clo c ms a = a → clo c ms b = b → hav c ms a = hav c ms b → a = b := fun a b ha hb h => by
    rw [← ha, ← hb, clo, clo, h]
  have hinj2 : ∀ x y, clo ms.length (colsL c ms) x = x → clo ms.length (colsL c ms) y = y → com c ms x = com c ms y → x = y := fun x y hx hy h => by
    rw [clo_T (by omega) (by omega)] at hx hy
    rw [← hx, ← hy, h]
  refine Nat.le_antisymm ?_ ?_
  · have hn : ((allC ms.length (colsL c ms)).map (com c ms)).Nodup := List.pairwise_map.2 ((allC_nodup (c := ms.length) (ms := colsL c ms) (by omega)).imp_of_mem fun {x y} hx hy hne e =>
      hne (hinj2 x y ((mem_allC (by omega) (by omega) x).1 hx) ((mem_allC (by omega) (by omega) y).1 hy) e))
    have := nodup_len hn (l' := allC c ms) (fun z hz => by
      obtain ⟨x, hx, rfl⟩ := List.mem_map.1 hz
      exact (mem_allC (by omega) (by omega) _).2 (closed_comT (by omega) hc ((mem_allC (by omega) (by omega) x).1 hx)))
    simpa using this
  · have hn : ((allC c ms).map (hav c ms)).Nodup := List.pairwise_map.2 ((allC_nodup (c := c) (ms := ms) (by omega)).imp_of_mem fun {x y} hx hy hne e =>
      hne (hinj1 x y ((mem_allC (by omega) (by omega) x).1 hx) ((mem_allC (by omega) (by omega) y).1 hy) e))
    have := nodup_len hn (l' := allC ms.length (colsL c ms)) (fun z hz => by
      obtain ⟨x, hx, rfl⟩ := List.mem_map.1 hz
      exact (mem_allC (by omega) (by omega) _).2 (closedT_hav (by omega) hc ((mem_allC (by omega) (by omega) x).1 hx)))
    simpa using this
/-- The number, in the transposed lattice, of the concept with number i. -/
def oth (c : Nat) (ms : List Nat) (i : Nat) : Nat := (idxM (allR ms.length (colsL c ms)) (hav c ms (aa c ms i))).getD 0
theorem oth_at {c : Nat} {ms : List Nat} (hr : ms.length < 6) (hc : c < 6) {i : Nat} (hi : i < (allC c ms).length) : oth c ms i < (allC ms.length (colsL c ms)).length ∧ idxM (allR ms.length (colsL c ms)) (hav c ms (aa c ms i)) = some (oth c ms i) ∧ aa ms.length (colsL c ms) (oth c ms i) = hav c ms (aa c ms i) := by
  have hcl := colsL_len c ms
  obtain ⟨k, hk, hka⟩ := at_of_closed (c := ms.length) (ms := colsL c ms) (by omega) hr (closedT_hav (by omega) hc (aa_closed (by omega) hc hi))
  have h1 : idxM (allR ms.length (colsL c ms)) (hav c ms (aa c ms i)) = some k := by rw [← hka]; exact idxM_at (by omega) hr hk
  have e : oth c ms i = k := by rw [oth, h1]; rfl
  rw [e, aa_at hk]
  exact ⟨hk, h1, hka⟩
theorem turn_leq {c : Nat} {ms : List Nat} (hr : ms.length < 6) (hc : c < 6) {i j : Nat} (hi : i < (allC c ms).length) (hj : j < (allC c ms).length) : leqM (allR ms.length (colsL c ms)) (oth c ms j : Int) (oth c ms i : Int) = leqM (allR c ms) (i : Int) (j : Int) := by
  have hcl := colsL_len c ms
  obtain ⟨a1, _, a3⟩ := oth_at hr hc hi
  obtain ⟨b1, _, b3⟩ := oth_at hr hc hj
  refine bool_eq ?_
  rw [leqM_aa (by omega) hr b1 a1, a3, b3, leqM_aa (by omega) hc hi hj]
  exact sub_hav (by omega) hc (aa_closed (by omega) hc hi) (aa_closed (by omega) hc hj)
def othC (c : Nat) (ms : List Nat) (n k : Nat) : List Value := (List.range n).map fun i => .int .i64 ((if i < k then oth c ms i else 0 : Nat) : Int)
theorem othC_start (c : Nat) (ms : List Nat) (n : Nat) : othC c ms n 0 = List.replicate n (.int .i64 0) := by
  apply List.ext_getElem
  · simp [othC]
  · intro i h1 h2
    simp [othC]
theorem othC_len (c : Nat) (ms : List Nat) (n k : Nat) : (othC c ms n k).length = n := by simp [othC]
theorem othC_set (c : Nat) (ms : List Nat) (n k : Nat) : (othC c ms n k).set k (.int .i64 (oth c ms k : Int)) = othC c ms n (k + 1) := by
  apply List.ext_getElem
  · simp [othC]
  · intro i h1 h2
    rw [List.getElem_set]
    simp only [othC, List.getElem_map, List.getElem_range]
    split
    · rename_i e; subst e; simp
    · rename_i e
      by_cases h : i < k
      · simp [h, show i < k + 1 by omega]
      · simp [h, show ¬ i < k + 1 by omega]
theorem othC_get (c : Nat) (ms : List Nat) {n i : Nat} (h : i < n) : (othC c ms n n)[i]? = some (.int .i64 (oth c ms i : Int)) := by simp [othC, h]
theorem turns_spec {X : PMap} (hT : Tab X) {s : Value} {bs : List Nat} (R C : Nat) (hR : R < 256) (hC : C < 256) (h : BytesR X s bs) :
    Spec Tryd.prog 9 [.agg #[.int .u8 (R : Int), .int .u8 (C : Int), s]] X fun u _ => u = .bool true := by
  obtain ⟨A, cp, rfl⟩ := h.form
  have hc6 : C % 6 < 6 := Nat.mod_lt _ (by omega)
  have hr6 : R % 6 < 6 := Nat.mod_lt _ (by omega)
  have hlen := rawRows_len bs (R % 6) (C % 6)
  have hmk := fun (X : PMap) (hT : Tab X) (h : BytesR X (.slice A bs.length cp) bs) => make_spec hT R C hR hC h
  have hms := rawRows_lt bs (R % 6) (C % 6)
  generalize rawRows bs (R % 6) (C % 6) = ms at *
  generalize C % 6 = c at *
  have hr : ms.length < 64 := by omega
  have hal := allR_len (c := c) (ms := ms) hr hc6
  have hal2 := allR_lenC (ms := ms) hr hc6
  have hr6' : ms.length < 6 := by omega
  have hcl := colsL_len c ms
  have hlt := lenT hr6' hc6
  have hal3 := allR_lenC (c := ms.length) (ms := colsL c ms) (by omega) hr6'
  have hpos := allC_pos (ms := ms) hr hc6
  have hLL : (allR ms.length (colsL c ms)).length = (allR c ms).length := by omega
  refine Spec.enter Tryd.func9 rfl Tryd.ntmps9 rfl ?_
  intro w0 hw0
  refine T.seq ?_
  refine T.region ?_
  refine SL.x (op_box rfl) rfl rfl ?_
  rintro _ _ _ ⟨B1, rfl, rfl, rfl⟩
  refine SL.y (op_assign rfl) rfl rfl ?_
  refine SL.nil ?_
  refine T.seq ?_
  refine T.seq ?_
  refine T.region ?_
  -- op
  refine SL.x (op_callF en13 (vs := []) rfl (awake_spec hT)) rfl rfl ?_
  rintro _ _ X1 ⟨rfl, hX1, rfl⟩
  refine SL.y (op_not rfl) rfl rfl ?_
  refine SL.nil ?_
  refine T.condF rfl ?_
  refine T.skip ?_
  refine T.seq ?_
  refine T.region ?_
  first | refine SL.y (op_load ty24 rfl (by repeat (first | exact AtO.here | apply AtO.there)) rfl) rfl rfl ?_ | refine SL.y (op_loadX ty24 rfl (by assumption) rfl) rfl rfl ?_
  -- op
  refine SL.x (op_callF en14 (vs := [_]) rfl (hmk _ (hT.mono hX1) (h.mono hX1))) rfl rfl ?_
  rintro _ _ X2 ⟨rfl, hX2, pm, lat, t, rfl, hM, hL, hC⟩
  obtain ⟨bm, rfl⟩ := hM.ptr
  obtain ⟨bl, rfl⟩ := hL.ptr
  obtain ⟨At, cpt, rfl⟩ := hC.1.form
  have hT2 := (hT.mono hX1).mono hX2
  have hN : LatN X2 (.pointer (some ⟨bl, 0, none⟩)) c ms (allR c ms) := .inl hL
  refine SL.y (op_move rfl) rfl rfl ?_
  refine SL.y (op_extract rfl rfl) rfl rfl ?_
  refine SL.y (op_extract rfl rfl) rfl rfl ?_
  refine SL.y (op_extract rfl rfl) rfl rfl ?_
  refine SL.y (op_assign rfl) rfl rfl ?_
  refine SL.y (op_assign rfl) rfl rfl ?_
  refine SL.y (op_assign rfl) rfl rfl ?_
  refine SL.nil ?_
  refine T.seq ?_
  refine T.seq ?_
  refine T.region ?_
  refine SL.y (op_move rfl) rfl rfl ?_
  refine SL.y (op_eqlNil Tryd.underlying28 rfl rfl) rfl rfl ?_
  refine SL.nil ?_
  refine T.condF rfl ?_
  refine T.skip ?_
  refine T.seq ?_
  refine T.region ?_
  refine SL.y (op_move rfl) rfl rfl ?_
  -- op
  refine SL.x (op_callF en43 (vs := [_]) rfl (transposed_spec hM)) rfl rfl ?_
  rintro u3 _ X3 ⟨rfl, hX3, hM3⟩
  obtain ⟨bt, rfl⟩ := hM3.ptr
  refine SL.y (op_move rfl) rfl rfl ?_
  -- op
  refine SL.x (op_callF en16 (vs := [_]) rfl (llen_spec (hN.mono hX3))) rfl rfl ?_
  rintro _ _ X4 ⟨rfl, hX4, rfl⟩
  -- op
  refine SL.x (op_callF en15 (vs := [_, _]) rfl (lnewA_spec ((hT2.mono hX3).mono hX4) (hM3.mono hX4) hr6' (allR c ms).length (by omega) (by omega))) rfl rfl ?_
  rintro u5 _ X5 ⟨rfl, hX5, hL5⟩
  rw [if_pos (by omega)] at hL5
  obtain ⟨w5, rfl, hL5⟩ := hL5
  obtain ⟨bd, rfl⟩ := hL5.ptr
  have hX25 := (hX3.trans' hX4).trans' hX5
  refine SL.y (op_move rfl) rfl rfl ?_
  refine SL.y (op_extract rfl rfl) rfl rfl ?_
  refine SL.y (op_extract rfl rfl) rfl rfl ?_
  refine SL.y (op_assign rfl) rfl rfl ?_
  refine SL.y (op_assign rfl) rfl rfl ?_
  refine SL.nil ?_
  refine T.seq ?_
  refine T.seq ?_
  refine T.region ?_
  refine SL.y (op_move rfl) rfl rfl ?_
  first | refine SL.y (op_neqT rfl rfl (by omega)) rfl rfl ?_ | refine SL.y (op_neqF rfl rfl (by omega)) rfl rfl ?_ | refine SL.y (op_neq rfl rfl) rfl rfl ?_
  refine SL.y (op_move rfl) rfl rfl ?_
  first | refine SL.skip rfl rfl ?_ | refine SL.y (op_move rfl) rfl rfl ?_
  -- op
  refine SL.x (op_callF en16 (vs := [_]) rfl (llen_spec (.inl hL5))) rfl rfl ?_
  rintro _ _ X6 ⟨rfl, hX6, rfl⟩
  first | refine SL.skip rfl rfl ?_ | refine SL.y (op_move rfl) rfl rfl ?_
  -- op
  refine SL.x (op_callF en16 (vs := [_]) rfl (llen_spec ((hN.mono hX25).mono hX6))) rfl rfl ?_
  rintro _ _ X7 ⟨rfl, hX7, rfl⟩
  first | refine SL.skip rfl rfl ?_ | refine SL.y (op_neqT rfl rfl (by omega)) rfl rfl ?_ | refine SL.y (op_neqF rfl rfl (by omega)) rfl rfl ?_ | refine SL.y (op_neq rfl rfl) rfl rfl ?_
  first | refine SL.y (op_pickT rfl rfl) rfl rfl ?_ | refine SL.y (op_pickF rfl rfl) rfl rfl ?_ | refine SL.y (op_pickB rfl rfl rfl) rfl rfl ?_
  refine SL.nil ?_
  refine T.condF rfl ?_
  refine T.skip ?_
  refine T.seq ?_
  refine T.region ?_
  refine SL.y (op_move rfl) rfl rfl ?_
  -- op
  have hX57 := hX6.trans' hX7
  refine SL.x (op_callF en16 (vs := [_]) rfl (llen_spec ((hN.mono hX25).mono hX57))) rfl rfl ?_
  rintro _ _ X8 ⟨rfl, hX8, rfl⟩
  have hX28 := (hX25.trans' hX57).trans' hX8
  have hX58 := hX57.trans' hX8
  refine SL.x (op_make (l := (allR c ms).length) (c := (allR c ms).length) Tryd.underlying73 mk73 rfl rfl rfl (Nat.le_refl _) (by omega) (by omega)) rfl rfl ?_
  rintro _ _ _ ⟨BO, rfl, rfl, rfl⟩
  refine SL.y (op_assign rfl) rfl rfl ?_
  refine SL.nil ?_
  refine T.seq ?_
  refine T.seq ?_
  refine T.region ?_
  refine SL.y (op_move rfl) rfl rfl ?_
  refine SL.y (op_lenS Tryd.underlying73 rfl) rfl rfl ?_
  refine SL.y (op_move (v := .int .i64 ((0 : Nat) : Int)) rfl) rfl rfl ?_
  refine SL.nil ?_
  refine T.block ?_
  -- loop live [2, 4, 6, 8, 51, 52]
  refine T.drop B1 (by repeat (first | exact AtO.here | apply AtO.there)) ?_
  refine T.loopW (fun m env own X' => ∃ k : Nat, m = (allR c ms).length - k ∧ k ≤ (allR c ms).length ∧ X8.le X' ∧ env = [(4, .pointer (some ⟨bl, 0, none⟩)), (6, .pointer (some ⟨bd, 0, none⟩)), (8, .slice (some ⟨BO, 0, none⟩) (allR c ms).length (allR c ms).length), (51, .int .i64 ((allR c ms).length : Int)), (52, .int .i64 (k : Int))] ∧ own = [⟨BO, othC c ms (allR c ms).length k, 3, (allR c ms).length⟩]) (allR c ms).length ⟨0, by simp, by omega, PMap.le_refl _, rfl, by rw [othC_start]; rfl⟩ (by repeat (first | exact Sub.nil | refine Sub.cons rfl ?_)) ?_
  rintro m _ _ X9 ⟨k, rfl, hk, hX9, rfl, rfl⟩
  rcases Nat.lt_or_ge k (allR c ms).length with hkl | hkl
  · obtain ⟨o1, o2, o3⟩ := oth_at hr6' hc6 (i := k) (by omega)
    have hat := allR_at hr hc6 hkl
    have hat2 := allR_at (c := ms.length) (ms := colsL c ms) (by omega) hr6' (i := oth c ms k) (by omega)
    have hk1 : (allR c ms)[k].1 = hav c ms (aa c ms k) := by rw [hat, aa_at (by omega)]
    have hk2 : (allR ms.length (colsL c ms))[oth c ms k].1 = (allR c ms)[k].2 := by
      rw [hat2, hat]
      simp only
      have e3 := aa_at o1
      rw [← e3, o3, hav_T hr (by omega)]
      show clo c ms (aa c ms k) = _
      rw [aa_closed hr hc6 (by omega), aa_at (by omega)]
    have hl5 : LatN X9 (.pointer (some ⟨bd, 0, none⟩)) ms.length (colsL c ms) (allR ms.length (colsL c ms)) := .inl ((hL5.mono hX58).mono hX9)
    refine T.seq ?_
    refine T.region ?_
    first | refine SL.y (op_lssT rfl rfl (by omega)) rfl rfl ?_ | refine SL.y (op_lssF rfl rfl (by omega)) rfl rfl ?_ | refine SL.y (op_lss rfl rfl) rfl rfl ?_
    refine SL.nil ?_
    refine T.seq ?_
    refine T.condT rfl ?_
    refine T.skip ?_
    refine T.seq ?_
    refine T.block ?_
    refine T.seq ?_
    refine T.region ?_
    refine SL.y (op_move rfl) rfl rfl ?_
    refine SL.y (op_assign rfl) rfl rfl ?_
    refine SL.nil ?_
    refine T.seq ?_
    refine T.region ?_
    refine SL.y (op_move rfl) rfl rfl ?_
    refine SL.y (op_move rfl) rfl rfl ?_
    -- op
    refine SL.x (op_callF en25 (vs := [_, _]) rfl (at_val ((hN.mono hX28).mono hX9) hkl)) rfl rfl ?_
    rintro _ _ X10 ⟨rfl, hX10, x, y, rfl, hx, hy⟩
    obtain ⟨Ax, lx, cx, hxe⟩ := hx.form
    obtain ⟨Ay, ly, cy, hye⟩ := hy.form
    obtain rfl : x = .slice Ax lx cx := by simpa using hxe
    obtain rfl : y = .slice Ay ly cy := by simpa using hye
    refine SL.y (op_move rfl) rfl rfl ?_
    refine SL.y (op_extract rfl rfl) rfl rfl ?_
    refine SL.y (op_extract rfl rfl) rfl rfl ?_
    refine SL.x (op_alloc z49) rfl rfl ?_
    rintro _ _ _ ⟨B10, rfl, rfl, rfl⟩
    refine SL.x (op_store ty49 rfl rfl (by repeat (first | exact AtO.here | apply AtO.there)) rfl rfl rfl) rfl rfl ?_
    rintro _ _ _ ⟨rfl, rfl⟩
    refine SL.y (op_assign rfl) rfl rfl ?_
    refine SL.nil ?_
    refine T.seq ?_
    refine T.region ?_
    refine SL.y (op_move rfl) rfl rfl ?_
    refine SL.y (op_fieldAddr fa49_0 rfl) rfl rfl ?_
    first | refine SL.y (op_load ty47 rfl (by repeat (first | exact AtO.here | apply AtO.there)) rfl) rfl rfl ?_ | refine SL.y (op_loadX ty47 rfl (by assumption) rfl) rfl rfl ?_
    -- op
    refine SL.x (op_callF en34 (vs := [_, _]) rfl (lindex_val (o := some (oth c ms k)) (hl5.mono hX10) hx (by rw [hk1]; exact o2))) rfl rfl ?_
    rintro _ _ X11 ⟨rfl, hX11, rfl⟩
    rw [show ((some (oth c ms k)).getD 0 : Nat) = oth c ms k from rfl, show (some (oth c ms k)).isSome = true from rfl]
    refine SL.y (op_move rfl) rfl rfl ?_
    refine SL.y (op_extract rfl rfl) rfl rfl ?_
    refine SL.y (op_extract rfl rfl) rfl rfl ?_
    refine SL.y (op_assign rfl) rfl rfl ?_
    refine SL.y (op_assign rfl) rfl rfl ?_
    refine SL.nil ?_
    refine T.seq ?_
    refine T.region ?_
    refine SL.y (op_move rfl) rfl rfl ?_
    refine SL.y (op_move rfl) rfl rfl ?_
    -- op
    refine SL.x (op_callF en25 (vs := [_, _]) rfl (at_val ((hl5.mono hX10).mono hX11) (by omega))) rfl rfl ?_
    rintro _ _ X12 ⟨rfl, hX12, x2, y2, rfl, hx2, hy2⟩
    obtain ⟨Ax2, lx2, cx2, hxe2⟩ := hx2.form
    obtain ⟨Ay2, ly2, cy2, hye2⟩ := hy2.form
    obtain rfl : x2 = .slice Ax2 lx2 cx2 := by simpa using hxe2
    obtain rfl : y2 = .slice Ay2 ly2 cy2 := by simpa using hye2
    refine SL.y (op_move rfl) rfl rfl ?_
    refine SL.y (op_extract rfl rfl) rfl rfl ?_
    refine SL.y (op_extract rfl rfl) rfl rfl ?_
    refine SL.x (op_alloc z49) rfl rfl ?_
    rintro _ _ _ ⟨B14, rfl, rfl, rfl⟩
    refine SL.x (op_store ty49 rfl rfl (by repeat (first | exact AtO.here | apply AtO.there)) rfl rfl rfl) rfl rfl ?_
    rintro _ _ _ ⟨rfl, rfl⟩
    refine SL.y (op_assign rfl) rfl rfl ?_
    refine SL.nil ?_
    refine T.seq ?_
    refine T.seq ?_
    refine T.region ?_
    refine SL.y (op_move rfl) rfl rfl ?_
    refine SL.y (op_not rfl) rfl rfl ?_
    refine SL.y (op_move rfl) rfl rfl ?_
    first | refine SL.skip rfl rfl ?_ | refine SL.y (op_fieldAddr fa49_0 rfl) rfl rfl ?_
    first | refine SL.skip rfl rfl ?_ | refine SL.y (op_load ty47 rfl (by repeat (first | exact AtO.here | apply AtO.there)) rfl) rfl rfl ?_ | refine SL.y (op_loadX ty47 rfl (by assumption) rfl) rfl rfl ?_
    first | refine SL.skip rfl rfl ?_ | refine SL.y (op_fieldAddr fa49_1 rfl) rfl rfl ?_
    first | refine SL.skip rfl rfl ?_ | refine SL.y (op_load ty47 rfl (by repeat (first | exact AtO.here | apply AtO.there)) rfl) rfl rfl ?_ | refine SL.y (op_loadX ty47 rfl (by assumption) rfl) rfl rfl ?_
    -- op
    refine SL.x (op_callF en37 (vs := [_, _]) rfl (equal_spec hx2 ((hy.mono hX11).mono hX12))) rfl rfl ?_
    rintro _ _ X13 ⟨rfl, hX13, rfl⟩
    rw [decide_eq_true hk2]
    first | refine SL.skip rfl rfl ?_ | refine SL.y (op_not rfl) rfl rfl ?_
    first | refine SL.y (op_pickT rfl rfl) rfl rfl ?_ | refine SL.y (op_pickF rfl rfl) rfl rfl ?_ | refine SL.y (op_pickB rfl rfl rfl) rfl rfl ?_
    refine SL.nil ?_
    refine T.condF rfl ?_
    refine T.skip ?_
    refine T.region ?_
    refine SL.y (op_move rfl) rfl rfl ?_
    refine SL.y (op_move rfl) rfl rfl ?_
    refine SL.y (op_move rfl) rfl rfl ?_
    first | refine SL.y (op_indexN Tryd.underlying73 ty3 rfl rfl (by omega)) rfl rfl ?_ | refine SL.y (op_index Tryd.underlying73 ty3 rfl rfl (by omega) (by omega)) rfl rfl ?_
    -- to store: op
    refine SL.x (op_store ty3 rfl rfl (by repeat (first | exact AtO.here | apply AtO.there)) rfl rfl (Nat.ble_eq_true_of_le (by simp [othC_len]; omega))) rfl rfl ?_
    rintro _ _ _ ⟨rfl, rfl⟩
    refine SL.nil ?_
    refine T.blk ?_
    refine T.region ?_
    first | refine SL.y (op_addN (q := 1) rfl rfl (by omega)) rfl rfl ?_ | refine SL.y (op_add rfl rfl (by omega) (by omega)) rfl rfl ?_ | refine SL.y (op_addW rfl rfl) rfl rfl ?_
    refine SL.y (op_move rfl) rfl rfl ?_
    refine SL.nil ?_
    -- cut
    refine T.drop B14 (by repeat (first | exact AtO.here | apply AtO.there)) ?_
    refine T.drop B10 (by repeat (first | exact AtO.here | apply AtO.there)) ?_
    exact T.backW ((allR c ms).length - (k + 1)) (by omega) ⟨k + 1, rfl, by omega, (((hX9.trans' hX10).trans' hX11).trans' hX12).trans' hX13, rfl, by rw [← othC_set]; simp [csets, vcells]⟩ (by repeat (first | exact Sub.nil | refine Sub.cons rfl ?_))
  · obtain rfl : k = (allR c ms).length := by omega
    refine T.seq ?_
    refine T.region ?_
    first | refine SL.y (op_lssT rfl rfl (by omega)) rfl rfl ?_ | refine SL.y (op_lssF rfl rfl (by omega)) rfl rfl ?_ | refine SL.y (op_lss rfl rfl) rfl rfl ?_
    refine SL.nil ?_
    refine T.seq ?_
    refine T.condF rfl ?_
    refine T.exit (T.exitCode (T.exitCut (T.exitBlk ?_)))
    refine T.seq ?_
    refine T.seq ?_
    refine T.region ?_
    refine SL.y (op_move rfl) rfl rfl ?_
    refine SL.y (op_lenS Tryd.underlying73 rfl) rfl rfl ?_
    refine SL.y (op_move (v := .int .i64 ((0 : Nat) : Int)) rfl) rfl rfl ?_
    refine SL.nil ?_
    refine T.block ?_
    -- loop live [2, 4, 6, 8, 89, 90, 91]
    refine T.pub BO (by repeat (first | exact AtO.here | apply AtO.there)) ?_
    intro X10 hX10 hBO _
    have hL1 : LatN X10 (.pointer (some ⟨bl, 0, none⟩)) c ms (allR c ms) := ((hN.mono hX28).mono hX9).mono hX10
    have hL2 : LatN X10 (.pointer (some ⟨bd, 0, none⟩)) ms.length (colsL c ms) (allR ms.length (colsL c ms)) := .inl (((hL5.mono hX58).mono hX9).mono hX10)
    refine T.loopW (fun m env own X' => ∃ k : Nat, m = (allR c ms).length - k ∧ k ≤ (allR c ms).length ∧ X10.le X' ∧ env = [(4, .pointer (some ⟨bl, 0, none⟩)), (6, .pointer (some ⟨bd, 0, none⟩)), (8, .slice (some ⟨BO, 0, none⟩) (allR c ms).length (allR c ms).length), (89, .slice (some ⟨BO, 0, none⟩) (allR c ms).length (allR c ms).length), (90, .int .i64 ((allR c ms).length : Int)), (91, .int .i64 (k : Int))] ∧ own = []) (allR c ms).length ⟨0, by simp, by omega, PMap.le_refl _, rfl, rfl⟩ (by repeat (first | exact Sub.nil | refine Sub.cons rfl ?_)) ?_
    rintro m _ _ Y1 ⟨k, rfl, hk, hY1, rfl, rfl⟩
    rcases Nat.lt_or_ge k (allR c ms).length with hkl | hkl
    · skip
      refine T.seq ?_
      refine T.region ?_
      first | refine SL.y (op_lssT rfl rfl (by omega)) rfl rfl ?_ | refine SL.y (op_lssF rfl rfl (by omega)) rfl rfl ?_ | refine SL.y (op_lss rfl rfl) rfl rfl ?_
      refine SL.nil ?_
      refine T.seq ?_
      refine T.condT rfl ?_
      refine T.skip ?_
      refine T.seq ?_
      refine T.block ?_
      refine T.seq ?_
      refine T.region ?_
      refine SL.y (op_move rfl) rfl rfl ?_
      first | refine SL.y (op_indexN Tryd.underlying73 ty3 rfl rfl (by omega)) rfl rfl ?_ | refine SL.y (op_index Tryd.underlying73 ty3 rfl rfl (by omega) (by omega)) rfl rfl ?_
      -- to 95: op
      refine SL.y (op_loadX ty3 rfl (hBO.mono hY1) (cread1 (othC_get c ms hkl))) rfl rfl ?_
      refine SL.y (op_assign rfl) rfl rfl ?_
      refine SL.y (op_assign rfl) rfl rfl ?_
      refine SL.nil ?_
      refine T.seq ?_
      refine T.region ?_
      refine SL.y (op_move rfl) rfl rfl ?_
      refine SL.y (op_lenS Tryd.underlying73 rfl) rfl rfl ?_
      refine SL.y (op_move (v := .int .i64 ((0 : Nat) : Int)) rfl) rfl rfl ?_
      refine SL.nil ?_
      refine T.block ?_
      -- loop live [2, 4, 6, 16, 17, 91, 96, 97, 98]
      refine T.loopW (fun m env own X' => ∃ j : Nat, m = (allR c ms).length - j ∧ j ≤ (allR c ms).length ∧ X10.le X' ∧ env = [(4, .pointer (some ⟨bl, 0, none⟩)), (6, .pointer (some ⟨bd, 0, none⟩)), (8, .slice (some ⟨BO, 0, none⟩) (allR c ms).length (allR c ms).length), (16, .int .i64 (k : Int)), (17, .int .i64 (oth c ms k : Int)), (89, .slice (some ⟨BO, 0, none⟩) (allR c ms).length (allR c ms).length), (90, .int .i64 ((allR c ms).length : Int)), (91, .int .i64 (k : Int)), (96, .slice (some ⟨BO, 0, none⟩) (allR c ms).length (allR c ms).length), (97, .int .i64 ((allR c ms).length : Int)), (98, .int .i64 (j : Int))] ∧ own = []) (allR c ms).length ⟨0, by simp, by omega, hY1, rfl, rfl⟩ (by repeat (first | exact Sub.nil | refine Sub.cons rfl ?_)) ?_
      rintro m _ _ Y2 ⟨j, rfl, hj, hY2, rfl, rfl⟩
      rcases Nat.lt_or_ge j (allR c ms).length with hjl | hjl
      · skip
        refine T.seq ?_
        refine T.region ?_
        first | refine SL.y (op_lssT rfl rfl (by omega)) rfl rfl ?_ | refine SL.y (op_lssF rfl rfl (by omega)) rfl rfl ?_ | refine SL.y (op_lss rfl rfl) rfl rfl ?_
        refine SL.nil ?_
        refine T.seq ?_
        refine T.condT rfl ?_
        refine T.skip ?_
        refine T.seq ?_
        refine T.block ?_
        refine T.seq ?_
        refine T.region ?_
        refine SL.y (op_move rfl) rfl rfl ?_
        first | refine SL.y (op_indexN Tryd.underlying73 ty3 rfl rfl (by omega)) rfl rfl ?_ | refine SL.y (op_index Tryd.underlying73 ty3 rfl rfl (by omega) (by omega)) rfl rfl ?_
        -- to 102: op
        refine SL.y (op_loadX ty3 rfl (hBO.mono hY2) (cread1 (othC_get c ms hjl))) rfl rfl ?_
        refine SL.y (op_assign rfl) rfl rfl ?_
        refine SL.y (op_assign rfl) rfl rfl ?_
        refine SL.nil ?_
        refine T.seq ?_
        refine T.region ?_
        refine SL.y (op_move rfl) rfl rfl ?_
        refine SL.y (op_move rfl) rfl rfl ?_
        refine SL.y (op_move rfl) rfl rfl ?_
        -- op
        refine SL.x (op_callF en19 (vs := [_, _, _]) rfl (leq_val (hL1.mono hY2) rfl)) rfl rfl ?_
        rintro _ _ Y3 ⟨rfl, hY3, rfl⟩
        refine SL.y (op_move rfl) rfl rfl ?_
        refine SL.y (op_move rfl) rfl rfl ?_
        refine SL.y (op_move rfl) rfl rfl ?_
        -- op
        refine SL.x (op_callF en19 (vs := [_, _, _]) rfl (leq_val ((hL2.mono hY2).mono hY3) (turn_leq hr6' hc6 (i := k) (j := j) (by omega) (by omega)))) rfl rfl ?_
        rintro _ _ Y4 ⟨rfl, hY4, rfl⟩
        refine SL.y (op_neqBS Tryd.underlying4 rfl rfl) rfl rfl ?_
        refine SL.nil ?_
        refine T.condF rfl ?_
        refine T.skip ?_
        refine T.blk ?_
        refine T.region ?_
        first | refine SL.y (op_addN (q := 1) rfl rfl (by omega)) rfl rfl ?_ | refine SL.y (op_add rfl rfl (by omega) (by omega)) rfl rfl ?_ | refine SL.y (op_addW rfl rfl) rfl rfl ?_
        refine SL.y (op_move rfl) rfl rfl ?_
        refine SL.nil ?_
        -- cut
        exact T.backW ((allR c ms).length - (j + 1)) (by omega) ⟨j + 1, rfl, by omega, (hY2.trans' hY3).trans' hY4, rfl, rfl⟩ (by repeat (first | exact Sub.nil | refine Sub.cons rfl ?_))
      · refine T.seq ?_
        refine T.region ?_
        first | refine SL.y (op_lssT rfl rfl (by omega)) rfl rfl ?_ | refine SL.y (op_lssF rfl rfl (by omega)) rfl rfl ?_ | refine SL.y (op_lss rfl rfl) rfl rfl ?_
        refine SL.nil ?_
        refine T.seq ?_
        refine T.condF rfl ?_
        refine T.exit (T.exitCode (T.exitCut (T.exitBlk ?_)))
        refine T.blk ?_
        refine T.region ?_
        first | refine SL.y (op_addN (q := 1) rfl rfl (by omega)) rfl rfl ?_ | refine SL.y (op_add rfl rfl (by omega) (by omega)) rfl rfl ?_ | refine SL.y (op_addW rfl rfl) rfl rfl ?_
        refine SL.y (op_move rfl) rfl rfl ?_
        refine SL.nil ?_
        -- cut
        exact T.backW ((allR c ms).length - (k + 1)) (by omega) ⟨k + 1, rfl, by omega, hY2, rfl, rfl⟩ (by repeat (first | exact Sub.nil | refine Sub.cons rfl ?_))
    · refine T.seq ?_
      refine T.region ?_
      first | refine SL.y (op_lssT rfl rfl (by omega)) rfl rfl ?_ | refine SL.y (op_lssF rfl rfl (by omega)) rfl rfl ?_ | refine SL.y (op_lss rfl rfl) rfl rfl ?_
      refine SL.nil ?_
      refine T.seq ?_
      refine T.condF rfl ?_
      refine T.exit (T.exitCode (T.exitCut (T.exitBlk ?_)))
      refine T.seq ?_
      refine T.region ?_
      refine SL.y (op_assign rfl) rfl rfl ?_
      refine SL.nil ?_
      -- ret
      refine T.ret1 rfl (ResIs.tmp rfl) ?_
      rfl
end Go.Proofs.YtoheffglppbcbaaDoor
