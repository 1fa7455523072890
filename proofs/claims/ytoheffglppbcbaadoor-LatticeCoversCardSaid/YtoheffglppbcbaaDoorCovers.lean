/- LatticeCovers answers true: the pairs of neighbours, and what is reached by going up. -/
import Derived.Test.YtoheffglppbcbaaDoorNil
import Derived.Test.YtoheffglppbcbaaDoorLaws
namespace Go.Proofs.YtoheffglppbcbaaDoor
open Go.RowKit
section
variable {c : Nat} {ms : List Nat}
theorem leqM_lt (hr : ms.length < 64) (hc : c < 6) {i j : Nat} (h : leqM (allR c ms) (i : Int) (j : Int) = true) : i < (allC c ms).length ∧ j < (allC c ms).length := by
  have e := allR_lenC (ms := ms) hr hc
  refine Classical.byContradiction fun hn => ?_
  rw [leqM_out hr hc (by omega)] at h
  cases h
theorem leqM_refl (hr : ms.length < 64) (hc : c < 6) {i : Nat} (hi : i < (allC c ms).length) : leqM (allR c ms) (i : Int) (i : Int) = true := (leqM_aa hr hc hi hi).2 (SubB.refl _)
theorem leqM_trans (hr : ms.length < 64) (hc : c < 6) {i j k : Nat} (h : leqM (allR c ms) (i : Int) (j : Int) = true) (h' : leqM (allR c ms) (j : Int) (k : Int) = true) : leqM (allR c ms) (i : Int) (k : Int) = true := by
  obtain ⟨a, b⟩ := leqM_lt hr hc h
  obtain ⟨_, d⟩ := leqM_lt hr hc h'
  exact (leqM_aa hr hc a d).2 (((leqM_aa hr hc b d).1 h').trans ((leqM_aa hr hc a b).1 h))
/-- What is above has a smaller number. -/
theorem leqM_down (hr : ms.length < 64) (hc : c < 6) {i j : Nat} (h : leqM (allR c ms) (i : Int) (j : Int) = true) (hne : i ≠ j) : j < i := by
  obtain ⟨a, b⟩ := leqM_lt hr hc h
  have hs := (leqM_iff hr hc a b).1 h
  rcases Nat.lt_trichotomy j i with hlt | e | hlt
  · exact hlt
  · exact absurd e.symm hne
  · have hp := List.pairwise_iff_getElem.1 (allN_sorted c ms (2 ^ c) (by have := pow_small (ms := ms) hr hc; omega))
    have h1 : bef (allC c ms)[i] (allC c ms)[j] := hp i j a b hlt
    rcases bef_of_sub hs with e | e
    · have := allC_inj hr hc b a e; omega
    · exact (bef_asymm h1 e).elim
theorem mem_covers {l : List (Nat × Nat)} {i q : Nat} : (i, q) ∈ coversM l ↔ i < l.length ∧ q < l.length ∧ betB l i q l.length = false := by
  simp only [coversM, covI, covJ, List.mem_flatMap, List.mem_map, List.mem_filter, List.mem_range, Prod.mk.injEq]
  constructor
  · rintro ⟨a, ha, b, ⟨hb, hn⟩, rfl, rfl⟩
    exact ⟨ha, hb, by simpa using hn⟩
  · rintro ⟨h1, h2, h3⟩
    exact ⟨i, h1, q, ⟨h2, by simp [h3]⟩, rfl, rfl⟩
theorem max_of {n : Nat} {Q : Nat → Prop} (hb : ∀ q, Q q → q < n) : ∀ d q, n - q ≤ d → Q q → ∃ q', Q q' ∧ ∀ p, Q p → p ≤ q'
  | 0, q, hd, hq => by have := hb q hq; omega
  | d + 1, q, hd, hq => by
    by_cases hex : ∃ p, Q p ∧ q < p
    · obtain ⟨p, hp, hlt⟩ := hex
      exact max_of hb d p (by have := hb p hp; omega) hp
    · exact ⟨q, hq, fun p hp => by
        rcases Nat.lt_or_ge q p with h | h
        · exact absurd ⟨p, hp, h⟩ hex
        · exact h⟩
theorem lessM_iff {l : List (Nat × Nat)} {i j : Nat} : lessM l (i : Int) (j : Int) = true ↔ i ≠ j ∧ leqM l (i : Int) (j : Int) = true := by
  rw [lessM, Bool.and_eq_true, decide_eq_true_eq]
  exact and_congr_left fun _ => by omega
/-- Above i, on the way to j, there is a neighbour. -/
theorem cover_exists (hr : ms.length < 64) (hc : c < 6) {i j : Nat} (h : leqM (allR c ms) (i : Int) (j : Int) = true) (hne : i ≠ j) : ∃ q, (i, q) ∈ coversM (allR c ms) ∧ leqM (allR c ms) (q : Int) (j : Int) = true ∧ q < i := by
  have e := allR_lenC (ms := ms) hr hc
  obtain ⟨a, b⟩ := leqM_lt hr hc h
  obtain ⟨q, ⟨h1, h2⟩, hmax⟩ := max_of (n := (allC c ms).length) (Q := fun q => lessM (allR c ms) (i : Int) (q : Int) = true ∧ leqM (allR c ms) (q : Int) (j : Int) = true) (fun q hq => (leqM_lt hr hc hq.2).1) _ j (Nat.le_refl _) ⟨lessM_iff.2 ⟨hne, h⟩, leqM_refl hr hc b⟩
  obtain ⟨hiq, hle⟩ := lessM_iff.1 h1
  refine ⟨q, mem_covers.2 ⟨by omega, by have := (leqM_lt hr hc hle).2; omega, ?_⟩, h2, leqM_down hr hc hle hiq⟩
  rw [betB, h1, Bool.not_true, Bool.false_or]
  refine Bool.eq_false_iff.2 fun hany => ?_
  rw [List.any_eq_true] at hany
  obtain ⟨p, _, hp⟩ := hany
  rw [Bool.and_eq_true] at hp
  obtain ⟨hpq, hpl⟩ := lessM_iff.1 hp.2
  have h3 := leqM_down hr hc hpl hpq
  have h4 := hmax p ⟨hp.1, leqM_trans hr hc hpl h2⟩
  omega
end
/-- One pair of neighbours: what is above the one is above the other. -/
def relax (us : List Nat) (p : Nat × Nat) : List Nat := us.set p.1 (us.getD p.1 0 ||| us.getD p.2 0)
def upR (l : List (Nat × Nat)) : Nat → List Nat
  | 0 => (List.range l.length).map fun i => 2 ^ i
  | r + 1 => (coversM l).foldl relax (upR l r)
def upT (l : List (Nat × Nat)) (r t : Nat) : List Nat := ((coversM l).take t).foldl relax (upR l r)
theorem upT_zero (l : List (Nat × Nat)) (r : Nat) : upT l r 0 = upR l r := rfl
theorem upT_end (l : List (Nat × Nat)) (r : Nat) : upT l r (coversM l).length = upR l (r + 1) := by rw [upT, List.take_length]; rfl
theorem upT_succ (l : List (Nat × Nat)) (r t : Nat) (h : t < (coversM l).length) : upT l r (t + 1) = relax (upT l r t) (coversM l)[t] := by
  rw [upT, List.take_succ_eq_append_getElem h, List.foldl_append]
  rfl
theorem relax_len (us : List Nat) (p : Nat × Nat) : (relax us p).length = us.length := by simp [relax]
theorem fold_len (l : List (Nat × Nat)) : ∀ us : List Nat, (l.foldl relax us).length = us.length := by
  induction l with
  | nil => intro us; rfl
  | cons p l ih => intro us; rw [List.foldl_cons, ih, relax_len]
theorem upR_len (l : List (Nat × Nat)) : ∀ r, (upR l r).length = l.length
  | 0 => by simp [upR]
  | r + 1 => by rw [upR, fold_len, upR_len l r]
theorem upT_len (l : List (Nat × Nat)) (r t : Nat) : (upT l r t).length = l.length := by rw [upT, fold_len, upR_len]
theorem relax_get (us : List Nat) (p : Nat × Nat) (i : Nat) (hp : p.1 < us.length) : (relax us p).getD i 0 = if p.1 = i then us.getD p.1 0 ||| us.getD p.2 0 else us.getD i 0 := by
  simp only [relax, List.getD_eq_getElem?_getD, List.getElem?_set]
  by_cases e : p.1 = i
  · subst e; simp [hp]
  · simp [e]
theorem relax_grow (us : List Nat) (p : Nat × Nat) (hp : p.1 < us.length) (i : Nat) : SubB (us.getD i 0) ((relax us p).getD i 0) := by
  rw [relax_get us p i hp]
  split
  · rename_i e; subst e; exact (sub_or.1 (SubB.refl _)).1
  · exact SubB.refl _
theorem fold_grow : ∀ (l : List (Nat × Nat)) (us : List Nat), (∀ p ∈ l, p.1 < us.length) → ∀ i, SubB (us.getD i 0) ((l.foldl relax us).getD i 0)
  | [], us, _, i => SubB.refl _
  | p :: l, us, h, i => by
    rw [List.foldl_cons]
    exact (relax_grow us p (h p (by simp)) i).trans (fold_grow l (relax us p) (fun q hq => by rw [relax_len]; exact h q (by simp [hq])) i)
theorem fold_step : ∀ (l : List (Nat × Nat)) (us : List Nat), (∀ p ∈ l, p.1 < us.length) → ∀ p ∈ l, SubB (us.getD p.2 0) ((l.foldl relax us).getD p.1 0)
  | [], us, _, p, hp => by cases hp
  | q :: l, us, h, p, hp => by
    rw [List.foldl_cons]
    have h' : ∀ p ∈ l, p.1 < (relax us q).length := fun x hx => by rw [relax_len]; exact h x (by simp [hx])
    rcases List.mem_cons.1 hp with rfl | hp
    · refine SubB.trans ?_ (fold_grow l _ h' p.1)
      rw [relax_get us p p.1 (h p (by simp)), if_pos rfl]
      exact (sub_or.1 (SubB.refl _)).2
    · exact (relax_grow us q (h q (by simp)) p.2).trans (fold_step l _ h' p hp)
section
variable {c : Nat} {ms : List Nat}
theorem covers_lt {l : List (Nat × Nat)} {p : Nat × Nat} (h : p ∈ coversM l) : p.1 < l.length ∧ p.2 < l.length := by
  obtain ⟨a, b, _⟩ := mem_covers.1 (show (p.1, p.2) ∈ coversM l from h)
  exact ⟨a, b⟩
theorem covers_leq {l : List (Nat × Nat)} {p : Nat × Nat} (h : p ∈ coversM l) : leqM l (p.1 : Int) (p.2 : Int) = true := by
  obtain ⟨_, _, hb⟩ := mem_covers.1 (show (p.1, p.2) ∈ coversM l from h)
  rw [betB, Bool.or_eq_false_iff, Bool.not_eq_false'] at hb
  exact (lessM_iff.1 hb.1).2
def Sound (l : List (Nat × Nat)) (us : List Nat) : Prop := us.length = l.length ∧ ∀ i j : Nat, (us.getD i 0).testBit j = true → leqM l (i : Int) (j : Int) = true
theorem sound_fold (hr : ms.length < 64) (hc : c < 6) : ∀ (l : List (Nat × Nat)) (us : List Nat), (∀ p ∈ l, p ∈ coversM (allR c ms)) → Sound (allR c ms) us → Sound (allR c ms) (l.foldl relax us)
  | [], us, _, h => h
  | p :: l, us, hl, h => by
    rw [List.foldl_cons]
    refine sound_fold hr hc l _ (fun q hq => hl q (by simp [hq])) ⟨by rw [relax_len]; exact h.1, fun i j hj => ?_⟩
    have hp := hl p (by simp)
    rw [relax_get us p i (by rw [h.1]; exact (covers_lt hp).1)] at hj
    split at hj
    · rename_i e
      subst e
      rw [Nat.testBit_or, Bool.or_eq_true] at hj
      rcases hj with hj | hj
      · exact h.2 _ _ hj
      · exact leqM_trans hr hc (covers_leq hp) (h.2 _ _ hj)
    · exact h.2 _ _ hj
theorem sound_up (hr : ms.length < 64) (hc : c < 6) : ∀ r : Nat, Sound (allR c ms) (upR (allR c ms) r)
  | 0 => ⟨upR_len _ 0, fun i j hj => by
      have e := allR_lenC (ms := ms) hr hc
      by_cases hi : i < (allR c ms).length
      · have e1 : (upR (allR c ms) 0).getD i 0 = 2 ^ i := by simp [upR, List.getD, hi]
        rw [e1, Nat.testBit_two_pow] at hj
        have : i = j := by simpa using hj
        subst this
        exact leqM_refl hr hc (by omega)
      · have e1 : (upR (allR c ms) 0).getD i 0 = 0 := by simp [upR, List.getD, hi]
        rw [e1, Nat.zero_testBit] at hj
        cases hj⟩
  | r + 1 => sound_fold hr hc _ _ (fun p hp => hp) (sound_up hr hc r)
theorem full_up (hr : ms.length < 64) (hc : c < 6) : ∀ r i j : Nat, leqM (allR c ms) (i : Int) (j : Int) = true → i - j ≤ r → ((upR (allR c ms) r).getD i 0).testBit j = true
  | 0, i, j, h, hd => by
    have e := allR_lenC (ms := ms) hr hc
    have hij : i = j := by
      refine Classical.byContradiction fun hne => ?_
      have := leqM_down hr hc h hne
      omega
    subst hij
    have hi := (leqM_lt hr hc h).1
    have e1 : (upR (allR c ms) 0).getD i 0 = 2 ^ i := by simp [upR, List.getD, show i < (allR c ms).length by omega]
    rw [e1, Nat.testBit_two_pow]
    simp
  | r + 1, i, j, h, hd => by
    have hlt : ∀ p ∈ coversM (allR c ms), p.1 < (upR (allR c ms) r).length := fun p hp => by rw [upR_len]; exact (covers_lt hp).1
    by_cases hij : i = j
    · subst hij
      exact fold_grow _ _ hlt i i (full_up hr hc r i i h (by omega))
    · obtain ⟨q, hq, hqj, hqi⟩ := cover_exists hr hc h hij
      exact fold_step _ _ hlt (i, q) hq j (full_up hr hc r q j hqj (by omega))
theorem up_leq (hr : ms.length < 64) (hc : c < 6) (i j : Nat) : leqM (allR c ms) (i : Int) (j : Int) = ((upR (allR c ms) (allR c ms).length).getD i 0).testBit j := by
  refine bool_eq ⟨fun h => full_up hr hc _ i j h (by have := (leqM_lt hr hc h).1; have := allR_lenC (ms := ms) hr hc; omega), fun h => (sound_up hr hc _).2 i j h⟩
end
theorem SetsR.set {X : PMap} {cs : List Value} {us : List Nat} (h : SetsR X cs us) {i : Nat} {x : Value} {m : Nat} (hx : SetR X (.agg #[x]) m) : SetsR X (cs.set i x) (us.set i m) := by
  refine ⟨by simp [h.1], fun q k hq => ?_⟩
  rw [List.getElem?_set] at hq
  by_cases e : i = q
  · subst e
    simp only [if_true] at hq
    split at hq
    · rename_i hlt
      obtain rfl : m = k := by simpa using hq
      exact ⟨x, by rw [List.getElem?_set_self (by rw [h.1]; exact hlt)], hx⟩
    · cases hq
  · rw [if_neg e] at hq
    obtain ⟨v, h1, h2⟩ := h.2 q k hq
    exact ⟨v, by rw [List.getElem?_set_ne e]; exact h1, h2⟩
theorem SetsR.at {X : PMap} {cs : List Value} {us : List Nat} (h : SetsR X cs us) {i : Nat} (hi : i < us.length) : ∃ A l cp, cs[i]? = some (.slice A l cp) ∧ SetR X (.agg #[.slice A l cp]) (us.getD i 0) := by
  obtain ⟨v, h1, h2⟩ := h.2 i us[i] (by simp [hi])
  obtain ⟨A, l, cp, e⟩ := h2.form
  obtain rfl : v = .slice A l cp := by simpa using e
  exact ⟨A, l, cp, h1, by simpa [List.getD, hi] using h2⟩
theorem covers_law {X : PMap} (hT : Tab X) {s : Value} {bs : List Nat} (R C : Nat) (hR : R < 256) (hC : C < 256) (h : BytesR X s bs) :
    Spec Tryd.prog 6 [.agg #[.int .u8 (R : Int), .int .u8 (C : Int), s]] X fun u _ => u = .bool true := by
  obtain ⟨A, cp, rfl⟩ := h.form
  have hc6 : C % 6 < 6 := Nat.mod_lt _ (by omega)
  have hr6 : R % 6 < 6 := Nat.mod_lt _ (by omega)
  have hlen := rawRows_len bs (R % 6) (C % 6)
  have hmk := fun (X : PMap) (hT : Tab X) (h : BytesR X (.slice A bs.length cp) bs) => make_spec hT R C hR hC h
  have hms := rawRows_lt bs (R % 6) (C % 6)
  generalize rawRows bs (R % 6) (C % 6) = ms at *
  generalize C % 6 = c at *
  have hr : ms.length < 64 := by omega
  have hal := allR_len (c := c) (ms := ms) hr hc6
  have hal2 := allR_lenC (ms := ms) hr hc6
  have hcl := coversM_len (allR c ms) hal
  have hceq := covers_eq (ms := ms) hr hc6
  refine Spec.enter Tryd.func6 rfl Tryd.ntmps6 rfl ?_
  intro w0 hw0
  refine T.seq ?_
  refine T.region ?_
  refine SL.x (op_box rfl) rfl rfl ?_
  rintro _ _ _ ⟨B1, rfl, rfl, rfl⟩
  refine SL.y (op_assign rfl) rfl rfl ?_
  refine SL.nil ?_
  refine T.seq ?_
  refine T.seq ?_
  refine T.region ?_
  -- op
  refine SL.x (op_callF en13 (vs := []) rfl (awake_spec hT)) rfl rfl ?_
  rintro _ _ X1 ⟨rfl, hX1, rfl⟩
  refine SL.y (op_not rfl) rfl rfl ?_
  refine SL.nil ?_
  refine T.condF rfl ?_
  refine T.skip ?_
  refine T.seq ?_
  refine T.region ?_
  first | refine SL.y (op_load ty24 rfl (by repeat (first | exact AtO.here | apply AtO.there)) rfl) rfl rfl ?_ | refine SL.y (op_loadX ty24 rfl (by assumption) rfl) rfl rfl ?_
  -- op
  refine SL.x (op_callF en14 (vs := [_]) rfl (hmk _ (hT.mono hX1) (h.mono hX1))) rfl rfl ?_
  rintro _ _ X2 ⟨rfl, hX2, pm, lat, t, rfl, hM, hL, hC⟩
  obtain ⟨bm, rfl⟩ := hM.ptr
  obtain ⟨bl, rfl⟩ := hL.ptr
  obtain ⟨At, cpt, rfl⟩ := hC.1.form
  have hT2 := (hT.mono hX1).mono hX2
  have hN : LatN X2 (.pointer (some ⟨bl, 0, none⟩)) c ms (allR c ms) := .inl hL
  refine SL.y (op_move rfl) rfl rfl ?_
  refine SL.y (op_extract rfl rfl) rfl rfl ?_
  refine SL.y (op_extract rfl rfl) rfl rfl ?_
  refine SL.y (op_extract rfl rfl) rfl rfl ?_
  refine SL.y (op_assign rfl) rfl rfl ?_
  refine SL.y (op_assign rfl) rfl rfl ?_
  refine SL.y (op_assign rfl) rfl rfl ?_
  refine SL.nil ?_
  refine T.seq ?_
  refine T.seq ?_
  refine T.region ?_
  refine SL.y (op_move rfl) rfl rfl ?_
  refine SL.y (op_eqlNil Tryd.underlying28 rfl rfl) rfl rfl ?_
  refine SL.nil ?_
  refine T.condF rfl ?_
  refine T.skip ?_
  refine T.seq ?_
  refine T.region ?_
  refine SL.y (op_move rfl) rfl rfl ?_
  -- op
  refine SL.x (op_callF en27 (vs := [_]) rfl (covers_spec hN (by omega))) rfl rfl ?_
  rintro s3 _ X3 ⟨rfl, hX3, hc3⟩
  obtain ⟨Ac, cc, rfl⟩ := hc3.form
  refine SL.y (op_assign rfl) rfl rfl ?_
  refine SL.nil ?_
  refine T.seq ?_
  refine T.seq ?_
  refine T.region ?_
  refine SL.y (op_move rfl) rfl rfl ?_
  refine SL.y (op_move rfl) rfl rfl ?_
  -- op
  refine SL.x (op_callF en29 (vs := [_]) rfl (covers46_spec (hC.mono hX3))) rfl rfl ?_
  rintro s4 _ X4 ⟨rfl, hX4, hc4⟩
  -- op
  refine SL.x (op_callF en28 (vs := [_, _]) rfl (eqPairs_spec (hc3.mono hX4) hc4 (by omega))) rfl rfl ?_
  rintro _ _ X5 ⟨rfl, hX5, rfl⟩
  rw [decide_eq_true hceq]
  have hcv := (hc3.mono hX4).mono hX5
  have hX25 := (hX3.trans' hX4).trans' hX5
  refine SL.y (op_not rfl) rfl rfl ?_
  refine SL.nil ?_
  refine T.condF rfl ?_
  refine T.skip ?_
  refine T.seq ?_
  refine T.region ?_
  refine SL.y (op_move rfl) rfl rfl ?_
  refine SL.y (op_lenS Tryd.underlying29 rfl) rfl rfl ?_
  refine SL.y (op_assign rfl) rfl rfl ?_
  refine SL.nil ?_
  refine T.seq ?_
  refine T.region ?_
  refine SL.y (op_move rfl) rfl rfl ?_
  refine SL.x (op_makeR Tryd.underlying59 mr59 rfl rfl rfl (Nat.le_refl _) (by omega) (by omega)) rfl rfl ?_
  rintro _ _ _ ⟨B34, rfl, rfl, rfl⟩
  refine SL.y (op_assign rfl) rfl rfl ?_
  refine SL.nil ?_
  refine T.seq ?_
  refine T.seq ?_
  refine T.region ?_
  refine SL.y (op_move rfl) rfl rfl ?_
  refine SL.y (op_move (v := .int .i64 ((0 : Nat) : Int)) rfl) rfl rfl ?_
  refine SL.nil ?_
  refine T.block ?_
  -- loop live [2, 4, 6, 7, 8, 35, 36]
  refine T.drop B1 (by repeat (first | exact AtO.here | apply AtO.there)) ?_
  refine T.loopW (fun m env own X' => ∃ (k : Nat) (us : List Value), m = (allR c ms).length - k ∧ k ≤ (allR c ms).length ∧ X5.le X' ∧ us.length = (allR c ms).length ∧ (∀ q, q < k → ∃ v, us[q]? = some v ∧ SetR X' (.agg #[v]) (2 ^ q)) ∧ env = [(4, .pointer (some ⟨bl, 0, none⟩)), (6, .slice Ac (coversM (allR c ms)).length cc), (7, .int .i64 ((allR c ms).length : Int)), (8, .slice (some ⟨B34, 0, none⟩) (allR c ms).length (allR c ms).length), (35, .int .i64 ((allR c ms).length : Int)), (36, .int .i64 (k : Int))] ∧ own = [⟨B34, us, 47, (allR c ms).length * 1⟩]) (allR c ms).length ⟨0, _, by simp, by omega, PMap.le_refl _, by simp, (fun q hq => by omega), rfl, rfl⟩ (by repeat (first | exact Sub.nil | refine Sub.cons rfl ?_)) ?_
  rintro m _ _ X6 ⟨k, us, rfl, hk, hX6, hul, hus, rfl, rfl⟩
  rcases Nat.lt_or_ge k (allR c ms).length with hkl | hkl
  · skip
    refine T.seq ?_
    refine T.region ?_
    first | refine SL.y (op_lssT rfl rfl (by omega)) rfl rfl ?_ | refine SL.y (op_lssF rfl rfl (by omega)) rfl rfl ?_ | refine SL.y (op_lss rfl rfl) rfl rfl ?_
    refine SL.nil ?_
    refine T.seq ?_
    refine T.condT rfl ?_
    refine T.skip ?_
    refine T.seq ?_
    refine T.block ?_
    refine T.seq ?_
    refine T.region ?_
    refine SL.y (op_move rfl) rfl rfl ?_
    refine SL.y (op_assign rfl) rfl rfl ?_
    refine SL.nil ?_
    refine T.region ?_
    refine SL.y (op_move rfl) rfl rfl ?_
    refine SL.y (op_move rfl) rfl rfl ?_
    refine SL.y (op_move rfl) rfl rfl ?_
    refine SL.x (op_buildSlice Tryd.underlying73 bs3 (qs := [(0, _)]) rfl rfl rfl rfl rfl) rfl rfl ?_
    rintro _ _ _ ⟨B42, rfl, rfl, rfl⟩
    -- to 43: op
    refine T.pubAt B42 (by repeat (first | exact AtO.here | apply AtO.there)) ?_
    intro X7 hX7 hB7 _
    refine SL.x (op_callF en30 (vs := [_]) rfl (of_spec (l := [k]) (hB7.slice (by decide)) (by simp; omega) (by simp))) rfl rfl ?_
    rintro _ _ X8 ⟨rfl, hX8, hS⟩
    rw [show maskOf [k] = 2 ^ k by simp [maskOf]] at hS
    obtain ⟨As, ls, cs, rfl⟩ := hS.form
    first | refine SL.y (op_indexN Tryd.underlying59 ty47 rfl rfl (by omega)) rfl rfl ?_ | refine SL.y (op_index Tryd.underlying59 ty47 rfl rfl (by omega) (by omega)) rfl rfl ?_
    -- to store: op
    refine SL.x (op_store ty47 rfl rfl (by repeat (first | exact AtO.here | apply AtO.there)) rfl rfl (Nat.ble_eq_true_of_le (by simp; omega))) rfl rfl ?_
    rintro _ _ _ ⟨rfl, rfl⟩
    have hus' : ∀ q, q < k + 1 → ∃ v, (us.set k (.slice As ls cs))[q]? = some v ∧ SetR X8 (.agg #[v]) (2 ^ q) := fun q hq => by
      by_cases e : k = q
      · subst e; exact ⟨_, List.getElem?_set_self (by omega), hS⟩
      · obtain ⟨v, h1, h2⟩ := hus q (by omega)
        exact ⟨v, by rw [List.getElem?_set_ne e]; exact h1, (h2.mono hX7).mono hX8⟩
    refine SL.nil ?_
    refine T.blk ?_
    refine T.region ?_
    first | refine SL.y (op_addN (q := 1) rfl rfl (by omega)) rfl rfl ?_ | refine SL.y (op_add rfl rfl (by omega) (by omega)) rfl rfl ?_ | refine SL.y (op_addW rfl rfl) rfl rfl ?_
    refine SL.y (op_move rfl) rfl rfl ?_
    refine SL.nil ?_
    -- cut
    exact T.backW ((allR c ms).length - (k + 1)) (by omega) ⟨k + 1, us.set k (.slice As ls cs), rfl, by omega, (hX6.trans' hX7).trans' hX8, by simpa using hul, hus', rfl, by simp [csets, vcells]⟩ (by repeat (first | exact Sub.nil | refine Sub.cons rfl ?_))
  · obtain rfl : k = (allR c ms).length := by omega
    have hset0 : SetsR X6 us (upR (allR c ms) 0) := by
      refine ⟨by rw [hul, upR_len], fun q v hq => ?_⟩
      have hql := (List.getElem?_eq_some_iff.1 hq).1
      rw [upR_len] at hql
      have e : v = 2 ^ q := by simpa [upR, hql] using hq.symm
      subst e
      exact hus q hql
    refine T.seq ?_
    refine T.region ?_
    first | refine SL.y (op_lssT rfl rfl (by omega)) rfl rfl ?_ | refine SL.y (op_lssF rfl rfl (by omega)) rfl rfl ?_ | refine SL.y (op_lss rfl rfl) rfl rfl ?_
    refine SL.nil ?_
    refine T.seq ?_
    refine T.condF rfl ?_
    refine T.exit (T.exitCode (T.exitCut (T.exitBlk ?_)))
    refine T.seq ?_
    refine T.seq ?_
    refine T.region ?_
    refine SL.y (op_move rfl) rfl rfl ?_
    refine SL.y (op_move (v := .int .i64 ((0 : Nat) : Int)) rfl) rfl rfl ?_
    refine SL.nil ?_
    refine T.block ?_
    -- loop live [2, 4, 6, 7, 8, 46, 47]
    refine T.loopW (fun m env own X' => ∃ (r : Nat) (us : List Value), m = (allR c ms).length - r ∧ r ≤ (allR c ms).length ∧ X5.le X' ∧ SetsR X' us (upR (allR c ms) r) ∧ env = [(4, .pointer (some ⟨bl, 0, none⟩)), (6, .slice Ac (coversM (allR c ms)).length cc), (7, .int .i64 ((allR c ms).length : Int)), (8, .slice (some ⟨B34, 0, none⟩) (allR c ms).length (allR c ms).length), (46, .int .i64 ((allR c ms).length : Int)), (47, .int .i64 (r : Int))] ∧ own = [⟨B34, us, 47, (allR c ms).length * 1⟩]) (allR c ms).length ⟨0, us, by simp, by omega, hX6, hset0, rfl, rfl⟩ (by repeat (first | exact Sub.nil | refine Sub.cons rfl ?_)) ?_
    rintro m _ _ X7 ⟨r, us, rfl, hrr, hX7, hS7, rfl, rfl⟩
    rcases Nat.lt_or_ge r (allR c ms).length with hrl | hrl
    · skip
      refine T.seq ?_
      refine T.region ?_
      first | refine SL.y (op_lssT rfl rfl (by omega)) rfl rfl ?_ | refine SL.y (op_lssF rfl rfl (by omega)) rfl rfl ?_ | refine SL.y (op_lss rfl rfl) rfl rfl ?_
      refine SL.nil ?_
      refine T.seq ?_
      refine T.condT rfl ?_
      refine T.skip ?_
      refine T.seq ?_
      refine T.block ?_
      refine T.seq ?_
      refine T.region ?_
      refine SL.y (op_move rfl) rfl rfl ?_
      refine SL.y (op_lenS Tryd.underlying54 rfl) rfl rfl ?_
      refine SL.y (op_move (v := .int .i64 ((0 : Nat) : Int)) rfl) rfl rfl ?_
      refine SL.nil ?_
      refine T.block ?_
      -- loop live [2, 4, 7, 8, 47, 49, 50, 51]
      refine T.loopW (fun m env own X' => ∃ (q : Nat) (us : List Value), m = (coversM (allR c ms)).length - q ∧ q ≤ (coversM (allR c ms)).length ∧ X5.le X' ∧ SetsR X' us (upT (allR c ms) r q) ∧ env = [(4, .pointer (some ⟨bl, 0, none⟩)), (6, .slice Ac (coversM (allR c ms)).length cc), (7, .int .i64 ((allR c ms).length : Int)), (8, .slice (some ⟨B34, 0, none⟩) (allR c ms).length (allR c ms).length), (46, .int .i64 ((allR c ms).length : Int)), (47, .int .i64 (r : Int)), (49, .slice Ac (coversM (allR c ms)).length cc), (50, .int .i64 ((coversM (allR c ms)).length : Int)), (51, .int .i64 (q : Int))] ∧ own = [⟨B34, us, 47, (allR c ms).length * 1⟩]) (coversM (allR c ms)).length ⟨0, us, by simp, by omega, hX7, by rw [upT_zero]; exact hS7, rfl, rfl⟩ (by repeat (first | exact Sub.nil | refine Sub.cons rfl ?_)) ?_
      rintro m _ _ X8 ⟨q, us, rfl, hq, hX8, hS8, rfl, rfl⟩
      rcases Nat.lt_or_ge q (coversM (allR c ms)).length with hql | hql
      · obtain ⟨bc, rfl, hBc⟩ := (hcv.mono hX8).blk (by omega)
        obtain ⟨p1, p2⟩ := pairC_get (coversM (allR c ms)) q hql
        obtain ⟨l1, l2⟩ := covers_lt (List.getElem_mem hql)
        have hul8 := upT_len (allR c ms) r q
        obtain ⟨A1, n1, c1, g1, s1⟩ := hS8.at (i := (coversM (allR c ms))[q].1) (by omega)
        obtain ⟨A2, n2, c2, g2, s2⟩ := hS8.at (i := (coversM (allR c ms))[q].2) (by omega)
        have hsl : us.length = (allR c ms).length := by rw [hS8.1, hul8]
        refine T.seq ?_
        refine T.region ?_
        first | refine SL.y (op_lssT rfl rfl (by omega)) rfl rfl ?_ | refine SL.y (op_lssF rfl rfl (by omega)) rfl rfl ?_ | refine SL.y (op_lss rfl rfl) rfl rfl ?_
        refine SL.nil ?_
        refine T.seq ?_
        refine T.condT rfl ?_
        refine T.skip ?_
        refine T.seq ?_
        refine T.block ?_
        refine T.seq ?_
        refine T.region ?_
        first | refine SL.y (op_indexN Tryd.underlying54 ty57 rfl rfl (by omega)) rfl rfl ?_ | refine SL.y (op_index Tryd.underlying54 ty57 rfl rfl (by omega) (by omega)) rfl rfl ?_
        -- to 54: op
        refine SL.y (op_loadX ty57 rfl hBc (creadR2 p1 p2 (by omega))) rfl rfl ?_
        refine SL.x (op_alloc z57) rfl rfl ?_
        rintro _ _ _ ⟨B11, rfl, rfl, rfl⟩
        refine SL.x (op_store ty57 rfl rfl (by repeat (first | exact AtO.here | apply AtO.there)) rfl rfl rfl) rfl rfl ?_
        rintro _ _ _ ⟨rfl, rfl⟩
        refine SL.nil ?_
        refine T.draw (by kernel_rfl) 15 [(0, true), (1, true), (2, true), (3, true), (4, true), (5, true), (6, true), (7, true), (8, true), (9, true), (10, true), (11, true), (12, true), (13, false), (14, true)] (by kernel_rfl) ?_
        refine SD.take rfl panicBody (op_move rfl) rfl rfl ?_
        refine SD.take rfl panicBody (op_indexA (i := 0) Tryd.underlying57 ty3 rfl rfl (by omega)) rfl rfl ?_
        first | refine SD.take rfl panicBody (op_load ty3 rfl (by repeat (first | exact AtO.here | apply AtO.there)) rfl) rfl rfl ?_ | refine SD.take rfl panicBody (op_loadX ty3 rfl (by assumption) rfl) rfl rfl ?_
        refine SD.take rfl panicBody (op_move rfl) rfl rfl ?_
        refine SD.take rfl panicBody (op_indexA (i := 0) Tryd.underlying57 ty3 rfl rfl (by omega)) rfl rfl ?_
        first | refine SD.take rfl panicBody (op_load ty3 rfl (by repeat (first | exact AtO.here | apply AtO.there)) rfl) rfl rfl ?_ | refine SD.take rfl panicBody (op_loadX ty3 rfl (by assumption) rfl) rfl rfl ?_
        first | refine SD.take rfl panicBody (op_indexN Tryd.underlying59 ty47 rfl rfl (by omega)) rfl rfl ?_ | refine SD.take rfl panicBody (op_index Tryd.underlying59 ty47 rfl rfl (by omega) (by omega)) rfl rfl ?_
        -- to 62: op
        refine SD.take rfl panicBody (op_load ty47 rfl (AtO.there AtO.here) (creadR1 g1)) rfl rfl ?_
        refine SD.take rfl panicBody (op_move rfl) rfl rfl ?_
        refine SD.take rfl panicBody (op_indexA (i := 1) Tryd.underlying57 ty3 rfl rfl (by omega)) rfl rfl ?_
        first | refine SD.take rfl panicBody (op_load ty3 rfl (by repeat (first | exact AtO.here | apply AtO.there)) rfl) rfl rfl ?_ | refine SD.take rfl panicBody (op_loadX ty3 rfl (by assumption) rfl) rfl rfl ?_
        first | refine SD.take rfl panicBody (op_indexN Tryd.underlying59 ty47 rfl rfl (by omega)) rfl rfl ?_ | refine SD.take rfl panicBody (op_index Tryd.underlying59 ty47 rfl rfl (by omega) (by omega)) rfl rfl ?_
        -- to 67: op
        refine SD.take rfl panicBody (op_load ty47 rfl (AtO.there AtO.here) (creadR1 g2)) rfl rfl ?_
        -- op
        refine SD.run rfl (op_callF en31 (vs := [_, _]) rfl (or_spec s1 s2)) rfl rfl ?_
        rintro _ _ X9 ⟨rfl, hX9, hS9⟩
        obtain ⟨A3, n3, c3, rfl⟩ := hS9.form
        first | refine SD.take rfl panicBody (op_indexN Tryd.underlying59 ty47 rfl rfl (by omega)) rfl rfl ?_ | refine SD.take rfl panicBody (op_index Tryd.underlying59 ty47 rfl rfl (by omega) (by omega)) rfl rfl ?_
        refine SD.nil ?_
        show SL _ _ _ _ _ _ _ [_] _ _ _
        -- to store: op
        refine SL.x (op_store ty47 rfl rfl (AtO.there AtO.here) rfl rfl (Nat.ble_eq_true_of_le (by simp; omega))) rfl rfl ?_
        rintro _ _ _ ⟨rfl, rfl⟩
        refine SL.nil ?_
        refine T.blk ?_
        refine T.region ?_
        first | refine SL.y (op_addN (q := 1) rfl rfl (by omega)) rfl rfl ?_ | refine SL.y (op_add rfl rfl (by omega) (by omega)) rfl rfl ?_ | refine SL.y (op_addW rfl rfl) rfl rfl ?_
        refine SL.y (op_move rfl) rfl rfl ?_
        refine SL.nil ?_
        -- cut
        refine T.drop B11 (by repeat (first | exact AtO.here | apply AtO.there)) ?_
        exact T.backW ((coversM (allR c ms)).length - (q + 1)) (by omega) ⟨q + 1, us.set (coversM (allR c ms))[q].1 (.slice A3 n3 c3), rfl, by omega, hX8.trans' hX9, by rw [upT_succ _ _ _ hql]; exact (hS8.mono hX9).set hS9, rfl, by simp [csets, vcells]⟩ (by repeat (first | exact Sub.nil | refine Sub.cons rfl ?_))
      · obtain rfl : q = (coversM (allR c ms)).length := by omega
        rw [upT_end] at hS8
        refine T.seq ?_
        refine T.region ?_
        first | refine SL.y (op_lssT rfl rfl (by omega)) rfl rfl ?_ | refine SL.y (op_lssF rfl rfl (by omega)) rfl rfl ?_ | refine SL.y (op_lss rfl rfl) rfl rfl ?_
        refine SL.nil ?_
        refine T.seq ?_
        refine T.condF rfl ?_
        refine T.exit (T.exitCode (T.exitCut (T.exitBlk ?_)))
        refine T.blk ?_
        refine T.region ?_
        first | refine SL.y (op_addN (q := 1) rfl rfl (by omega)) rfl rfl ?_ | refine SL.y (op_add rfl rfl (by omega) (by omega)) rfl rfl ?_ | refine SL.y (op_addW rfl rfl) rfl rfl ?_
        refine SL.y (op_move rfl) rfl rfl ?_
        refine SL.nil ?_
        -- cut
        exact T.backW ((allR c ms).length - (r + 1)) (by omega) ⟨r + 1, us, rfl, by omega, hX8, hS8, rfl, rfl⟩ (by repeat (first | exact Sub.nil | refine Sub.cons rfl ?_))
    · obtain rfl : r = (allR c ms).length := by omega
      refine T.seq ?_
      refine T.region ?_
      first | refine SL.y (op_lssT rfl rfl (by omega)) rfl rfl ?_ | refine SL.y (op_lssF rfl rfl (by omega)) rfl rfl ?_ | refine SL.y (op_lss rfl rfl) rfl rfl ?_
      refine SL.nil ?_
      refine T.seq ?_
      refine T.condF rfl ?_
      refine T.exit (T.exitCode (T.exitCut (T.exitBlk ?_)))
      refine T.seq ?_
      refine T.seq ?_
      refine T.region ?_
      refine SL.y (op_move rfl) rfl rfl ?_
      refine SL.y (op_move (v := .int .i64 ((0 : Nat) : Int)) rfl) rfl rfl ?_
      refine SL.nil ?_
      refine T.block ?_
      -- loop live [2, 4, 7, 8, 72, 73]
      refine T.pub B34 (by repeat (first | exact AtO.here | apply AtO.there)) ?_
      intro X8 hX8 hBU _
      have hS8 := hS7.mono hX8
      have hN8 : LatN X8 (.pointer (some ⟨bl, 0, none⟩)) c ms (allR c ms) := ((hN.mono hX25).mono hX7).mono hX8
      refine T.loopW (fun m env own X' => ∃ k : Nat, m = (allR c ms).length - k ∧ k ≤ (allR c ms).length ∧ X8.le X' ∧ env = [(4, .pointer (some ⟨bl, 0, none⟩)), (7, .int .i64 ((allR c ms).length : Int)), (8, .slice (some ⟨B34, 0, none⟩) (allR c ms).length (allR c ms).length), (72, .int .i64 ((allR c ms).length : Int)), (73, .int .i64 (k : Int))] ∧ own = []) (allR c ms).length ⟨0, by simp, by omega, PMap.le_refl _, rfl, rfl⟩ (by repeat (first | exact Sub.nil | refine Sub.cons rfl ?_)) ?_
      rintro m _ _ Y1 ⟨k, rfl, hk, hY1, rfl, rfl⟩
      rcases Nat.lt_or_ge k (allR c ms).length with hkl | hkl
      · obtain ⟨A1, n1, c1, g1, s1⟩ := hS8.at (i := k) (by rw [upR_len]; exact hkl)
        refine T.seq ?_
        refine T.region ?_
        first | refine SL.y (op_lssT rfl rfl (by omega)) rfl rfl ?_ | refine SL.y (op_lssF rfl rfl (by omega)) rfl rfl ?_ | refine SL.y (op_lss rfl rfl) rfl rfl ?_
        refine SL.nil ?_
        refine T.seq ?_
        refine T.condT rfl ?_
        refine T.skip ?_
        refine T.seq ?_
        refine T.block ?_
        refine T.seq ?_
        refine T.region ?_
        refine SL.y (op_move rfl) rfl rfl ?_
        refine SL.y (op_assign rfl) rfl rfl ?_
        refine SL.nil ?_
        refine T.seq ?_
        refine T.region ?_
        refine SL.y (op_move rfl) rfl rfl ?_
        refine SL.y (op_move (v := .int .i64 ((0 : Nat) : Int)) rfl) rfl rfl ?_
        refine SL.nil ?_
        refine T.block ?_
        -- loop live [2, 4, 8, 12, 73, 76, 77]
        refine T.loopW (fun m env own X' => ∃ j : Nat, m = (allR c ms).length - j ∧ j ≤ (allR c ms).length ∧ X8.le X' ∧ env = [(4, .pointer (some ⟨bl, 0, none⟩)), (7, .int .i64 ((allR c ms).length : Int)), (8, .slice (some ⟨B34, 0, none⟩) (allR c ms).length (allR c ms).length), (12, .int .i64 (k : Int)), (72, .int .i64 ((allR c ms).length : Int)), (73, .int .i64 (k : Int)), (76, .int .i64 ((allR c ms).length : Int)), (77, .int .i64 (j : Int))] ∧ own = []) (allR c ms).length ⟨0, by simp, by omega, hY1, rfl, rfl⟩ (by repeat (first | exact Sub.nil | refine Sub.cons rfl ?_)) ?_
        rintro m _ _ Y2 ⟨j, rfl, hj, hY2, rfl, rfl⟩
        rcases Nat.lt_or_ge j (allR c ms).length with hjl | hjl
        · skip
          refine T.seq ?_
          refine T.region ?_
          first | refine SL.y (op_lssT rfl rfl (by omega)) rfl rfl ?_ | refine SL.y (op_lssF rfl rfl (by omega)) rfl rfl ?_ | refine SL.y (op_lss rfl rfl) rfl rfl ?_
          refine SL.nil ?_
          refine T.seq ?_
          refine T.condT rfl ?_
          refine T.skip ?_
          refine T.seq ?_
          refine T.block ?_
          refine T.seq ?_
          refine T.region ?_
          refine SL.y (op_move rfl) rfl rfl ?_
          refine SL.y (op_assign rfl) rfl rfl ?_
          refine SL.nil ?_
          refine T.seq ?_
          refine T.region ?_
          refine SL.y (op_move rfl) rfl rfl ?_
          refine SL.y (op_move rfl) rfl rfl ?_
          first | refine SL.y (op_indexN Tryd.underlying59 ty47 rfl rfl (by omega)) rfl rfl ?_ | refine SL.y (op_index Tryd.underlying59 ty47 rfl rfl (by omega) (by omega)) rfl rfl ?_
          -- to 83: op
          refine SL.y (op_loadX ty47 rfl (hBU.mono hY2) (creadR1 g1)) rfl rfl ?_
          refine SL.y (op_move rfl) rfl rfl ?_
          -- op
          refine SL.x (op_callF en32 (vs := [_, _]) rfl (has_spec (s1.mono hY2) (j : Int))) rfl rfl ?_
          rintro _ _ Y3 ⟨rfl, hY3, rfl⟩
          rw [hasB_nat]
          refine SL.y (op_move rfl) rfl rfl ?_
          refine SL.y (op_move rfl) rfl rfl ?_
          refine SL.y (op_move rfl) rfl rfl ?_
          -- op
          refine SL.x (op_callF en19 (vs := [_, _, _]) rfl (leq_val ((hN8.mono hY2).mono hY3) (up_leq hr hc6 k j))) rfl rfl ?_
          rintro _ _ Y4 ⟨rfl, hY4, rfl⟩
          refine SL.y (op_neqBS Tryd.underlying4 rfl rfl) rfl rfl ?_
          refine SL.nil ?_
          refine T.condF rfl ?_
          refine T.skip ?_
          refine T.blk ?_
          refine T.region ?_
          first | refine SL.y (op_addN (q := 1) rfl rfl (by omega)) rfl rfl ?_ | refine SL.y (op_add rfl rfl (by omega) (by omega)) rfl rfl ?_ | refine SL.y (op_addW rfl rfl) rfl rfl ?_
          refine SL.y (op_move rfl) rfl rfl ?_
          refine SL.nil ?_
          -- cut
          exact T.backW ((allR c ms).length - (j + 1)) (by omega) ⟨j + 1, rfl, by omega, (hY2.trans' hY3).trans' hY4, rfl, rfl⟩ (by repeat (first | exact Sub.nil | refine Sub.cons rfl ?_))
        · refine T.seq ?_
          refine T.region ?_
          first | refine SL.y (op_lssT rfl rfl (by omega)) rfl rfl ?_ | refine SL.y (op_lssF rfl rfl (by omega)) rfl rfl ?_ | refine SL.y (op_lss rfl rfl) rfl rfl ?_
          refine SL.nil ?_
          refine T.seq ?_
          refine T.condF rfl ?_
          refine T.exit (T.exitCode (T.exitCut (T.exitBlk ?_)))
          refine T.blk ?_
          refine T.region ?_
          first | refine SL.y (op_addN (q := 1) rfl rfl (by omega)) rfl rfl ?_ | refine SL.y (op_add rfl rfl (by omega) (by omega)) rfl rfl ?_ | refine SL.y (op_addW rfl rfl) rfl rfl ?_
          refine SL.y (op_move rfl) rfl rfl ?_
          refine SL.nil ?_
          -- cut
          exact T.backW ((allR c ms).length - (k + 1)) (by omega) ⟨k + 1, rfl, by omega, hY2, rfl, rfl⟩ (by repeat (first | exact Sub.nil | refine Sub.cons rfl ?_))
      · refine T.seq ?_
        refine T.region ?_
        first | refine SL.y (op_lssT rfl rfl (by omega)) rfl rfl ?_ | refine SL.y (op_lssF rfl rfl (by omega)) rfl rfl ?_ | refine SL.y (op_lss rfl rfl) rfl rfl ?_
        refine SL.nil ?_
        refine T.seq ?_
        refine T.condF rfl ?_
        refine T.exit (T.exitCode (T.exitCut (T.exitBlk ?_)))
        refine T.seq ?_
        refine T.region ?_
        refine SL.y (op_assign rfl) rfl rfl ?_
        refine SL.nil ?_
        -- ret
        refine T.ret1 rfl (ResIs.tmp rfl) ?_
        rfl
end Go.Proofs.YtoheffglppbcbaaDoor
