/- WHAT THE FOLDS OF CLOSURES SAY, bit by bit; the closure's laws; the closed sets in lectic order. -/
import Derived.Test.YtoheffglppbcbaaDoorRef7
import Derived.Test.YtoheffglppbcbaaDoorLNew
namespace Go.Proofs.YtoheffglppbcbaaDoor
open Go.RowKit
theorem foldAnd_testBit (p : Nat → Bool) (f : Nat → Nat) (j : Nat) : ∀ (l : List Nat) (s : Nat), (l.foldl (fun o i => if p i = true then o &&& f i else o) s).testBit j = true ↔ s.testBit j = true ∧ ∀ i ∈ l, p i = true → (f i).testBit j = true
  | [], s => by simp
  | i :: l, s => by
    rw [List.foldl_cons, foldAnd_testBit p f j l]
    by_cases hp : p i = true
    · simp [hp, and_assoc]
    · simp [hp]
theorem rowM_testBit (ms : List Nat) (i j : Nat) (h : i < ms.length) : (rowM ms (i : Int)).testBit j = Rel ms i j := by
  rw [rowM, if_pos (by omega)]
  simp [Rel]
theorem colM_testBit (c : Nat) (ms : List Nat) (i j : Nat) (hj : j < c) : (colM c ms (j : Int)).testBit i = (decide (i < ms.length) && Rel ms i j) := by
  rw [colM, maskOf_testBit]
  by_cases hi : i < ms.length
  · have : (0 : Int) ≤ (i : Int) ∧ (i : Int) < ms.length ∧ (0 : Int) ≤ (j : Int) ∧ (j : Int) < c := by omega
    simp [colL, hi, elemB, insideB, this, Rel]
  · have h1 : i ∉ colL c ms (j : Int) ms.length := fun h => hi (colL_lt h)
    simp [h1, hi]
theorem com_iff (c : Nat) (ms : List Nat) (rows j : Nat) (hr : ms.length ≤ 64) : (com c ms rows).testBit j = true ↔ j < c ∧ ∀ i, i < ms.length → rows.testBit i = true → Rel ms i j = true := by
  have h := foldAnd_testBit (fun i => decide (i < ms.length)) (fun i => rowM ms (i : Int)) j (mem64 rows) (2 ^ c - 1)
  simp only [decide_eq_true_eq] at h
  rw [com, comF, h, Nat.testBit_two_pow_sub_one, decide_eq_true_eq]
  refine and_congr_right fun _ => ⟨fun h i hi hb => ?_, fun h i hm hi => ?_⟩
  · rw [← rowM_testBit ms i j hi]
    exact h i (mem_mem64.2 ⟨by omega, hb⟩) hi
  · rw [rowM_testBit ms i j hi]
    exact h i hi (mem_mem64.1 hm).2
theorem hav_iff (c : Nat) (ms : List Nat) (cols i : Nat) (hc : c ≤ 64) : (hav c ms cols).testBit i = true ↔ i < ms.length ∧ ∀ j, j < c → cols.testBit j = true → Rel ms i j = true := by
  have h := foldAnd_testBit (fun j => decide (j < c)) (fun j => colM c ms (j : Int)) i (mem64 cols) (2 ^ ms.length - 1)
  simp only [decide_eq_true_eq] at h
  rw [hav, havF, h, Nat.testBit_two_pow_sub_one, decide_eq_true_eq]
  refine and_congr_right fun hi => ⟨fun h j hj hb => ?_, fun h j hm hj => ?_⟩
  · have := h j (mem_mem64.2 ⟨by omega, hb⟩) hj
    rw [colM_testBit c ms i j hj] at this
    simpa [hi] using this
  · rw [colM_testBit c ms i j hj]
    simp [hi, h j hj (mem_mem64.1 hm).2]
/-- a is part of b. -/
def SubB (a b : Nat) : Prop := ∀ j, a.testBit j = true → b.testBit j = true
theorem SubB.refl (a : Nat) : SubB a a := fun _ h => h
theorem SubB.trans {a b c : Nat} (h : SubB a b) (h' : SubB b c) : SubB a c := fun j hj => h' j (h j hj)
theorem SubB.antisymm {a b : Nat} (h : SubB a b) (h' : SubB b a) : a = b := by
  apply Nat.eq_of_testBit_eq
  intro j
  have h1 := h j
  have h2 := h' j
  cases hx : a.testBit j <;> cases hy : b.testBit j <;> simp_all
theorem lt_pow_of_bits {a c : Nat} (h : ∀ j, a.testBit j = true → j < c) : a < 2 ^ c := by
  apply Nat.lt_pow_two_of_testBit
  intro j hj
  cases hb : a.testBit j with
  | false => rfl
  | true => have := h j hb; omega
theorem bits_of_lt {a c j : Nat} (h : a < 2 ^ c) (hj : a.testBit j = true) : j < c := by
  rcases Nat.lt_or_ge j c with h1 | h1
  · exact h1
  · rw [Nat.testBit_lt_two_pow (Nat.lt_of_lt_of_le h (Nat.pow_le_pow_right (by omega) h1))] at hj
    cases hj
theorem com_anti {c : Nat} {ms : List Nat} (hr : ms.length ≤ 64) (_hc : c ≤ 64) {a b : Nat} (h : SubB a b) : SubB (com c ms b) (com c ms a) := fun j hj => by
  rw [com_iff c ms _ j hr] at hj ⊢
  exact ⟨hj.1, fun i hi hb => hj.2 i hi (h i hb)⟩
theorem hav_anti {c : Nat} {ms : List Nat} (_hr : ms.length ≤ 64) (hc : c ≤ 64) {a b : Nat} (h : SubB a b) : SubB (hav c ms b) (hav c ms a) := fun i hi => by
  rw [hav_iff c ms _ i hc] at hi ⊢
  exact ⟨hi.1, fun j hj hb => hi.2 j hj (h j hb)⟩
theorem com_lt {c : Nat} {ms : List Nat} (hr : ms.length ≤ 64) (_hc : c ≤ 64) (a : Nat) : com c ms a < 2 ^ c := lt_pow_of_bits fun j hj => ((com_iff c ms _ j hr).1 hj).1
theorem hav_lt {c : Nat} {ms : List Nat} (_hr : ms.length ≤ 64) (hc : c ≤ 64) (a : Nat) : hav c ms a < 2 ^ ms.length := lt_pow_of_bits fun i hi => ((hav_iff c ms _ i hc).1 hi).1
/-- Rows that have all of the columns: the two sides of the connection. -/
theorem galois {c : Nat} {ms : List Nat} (hr : ms.length ≤ 64) (hc : c ≤ 64) {r s : Nat} (hs : s < 2 ^ c) (hrr : r < 2 ^ ms.length) : SubB r (hav c ms s) ↔ SubB s (com c ms r) := by
  constructor
  · intro h j hj
    rw [com_iff c ms _ j hr]
    exact ⟨bits_of_lt hs hj, fun i hi hb => ((hav_iff c ms _ i hc).1 (h i hb)).2 j (bits_of_lt hs hj) hj⟩
  · intro h i hi
    rw [hav_iff c ms _ i hc]
    exact ⟨bits_of_lt hrr hi, fun j hj hb => ((com_iff c ms _ j hr).1 (h j hb)).2 i (bits_of_lt hrr hi) hi⟩
theorem clo_lt {c : Nat} {ms : List Nat} (hr : ms.length ≤ 64) (hc : c ≤ 64) (a : Nat) : clo c ms a < 2 ^ c := com_lt hr hc _
theorem clo_ext {c : Nat} {ms : List Nat} (hr : ms.length ≤ 64) (hc : c ≤ 64) {s : Nat} (hs : s < 2 ^ c) : SubB s (clo c ms s) := (galois hr hc hs (hav_lt hr hc s)).1 (SubB.refl _)
theorem clo_mono {c : Nat} {ms : List Nat} (hr : ms.length ≤ 64) (hc : c ≤ 64) {a b : Nat} (h : SubB a b) : SubB (clo c ms a) (clo c ms b) := com_anti hr hc (hav_anti hr hc h)
theorem hav_com_ext {c : Nat} {ms : List Nat} (hr : ms.length ≤ 64) (hc : c ≤ 64) {r : Nat} (h : r < 2 ^ ms.length) : SubB r (hav c ms (com c ms r)) := (galois hr hc (com_lt hr hc r) h).2 (SubB.refl _)
theorem hav_clo {c : Nat} {ms : List Nat} (hr : ms.length ≤ 64) (hc : c ≤ 64) (a : Nat) (ha : a < 2 ^ c) : hav c ms (clo c ms a) = hav c ms a := SubB.antisymm (hav_anti hr hc (clo_ext hr hc ha)) (hav_com_ext hr hc (hav_lt hr hc a))
theorem com_clo {c : Nat} {ms : List Nat} (hr : ms.length ≤ 64) (hc : c ≤ 64) (r : Nat) (h : r < 2 ^ ms.length) : clo c ms (com c ms r) = com c ms r := SubB.antisymm (com_anti hr hc (hav_com_ext hr hc h)) (clo_ext hr hc (com_lt hr hc r))
theorem clo_idem {c : Nat} {ms : List Nat} (hr : ms.length ≤ 64) (hc : c ≤ 64) (a : Nat) : clo c ms (clo c ms a) = clo c ms a := com_clo hr hc _ (hav_lt hr hc a)
/-- The lectic order. -/
def bef (a b : Nat) : Prop := ∃ q, (∀ i, i < q → a.testBit i = b.testBit i) ∧ a.testBit q = false ∧ b.testBit q = true
theorem bef_irrefl (a : Nat) : ¬ bef a a := fun ⟨q, _, h1, h2⟩ => by rw [h1] at h2; cases h2
theorem bef_trans {a b c : Nat} (h : bef a b) (h' : bef b c) : bef a c := by
  obtain ⟨q, h1, h2, h3⟩ := h
  obtain ⟨p, g1, g2, g3⟩ := h'
  rcases Nat.lt_trichotomy q p with hlt | rfl | hlt
  · exact ⟨q, fun i hi => (h1 i hi).trans (g1 i (by omega)), h2, by rw [← g1 q hlt]; exact h3⟩
  · rw [h3] at g2; cases g2
  · exact ⟨p, fun i hi => (h1 i (by omega)).trans (g1 i hi), by rw [h1 p hlt]; exact g2, g3⟩
theorem bef_asymm {a b : Nat} (h : bef a b) (h' : bef b a) : False := bef_irrefl a (bef_trans h h')
theorem first_diff {a b : Nat} (h : a ≠ b) : ∃ q, (∀ i, i < q → a.testBit i = b.testBit i) ∧ a.testBit q ≠ b.testBit q := by
  have hex : ∃ q, a.testBit q ≠ b.testBit q := by
    refine Classical.byContradiction fun hn => h (Nat.eq_of_testBit_eq fun i => ?_)
    exact Classical.byContradiction fun hi => hn ⟨i, hi⟩
  obtain ⟨q, hq⟩ := hex
  have key : ∀ n q, q ≤ n → a.testBit q ≠ b.testBit q → ∃ q, (∀ i, i < q → a.testBit i = b.testBit i) ∧ a.testBit q ≠ b.testBit q := by
    intro n
    induction n with
    | zero => intro q hq h; exact ⟨q, fun i hi => by omega, h⟩
    | succ n ih =>
      intro q hq h
      by_cases hall : ∀ i, i < q → a.testBit i = b.testBit i
      · exact ⟨q, hall, h⟩
      · obtain ⟨i, hi⟩ := Classical.not_forall.1 hall
        obtain ⟨hi, hne⟩ := Classical.not_imp.1 hi
        exact ih i (by omega) hne
  exact key q q (Nat.le_refl _) hq
theorem bef_total (a b : Nat) : a = b ∨ bef a b ∨ bef b a := by
  by_cases h : a = b
  · exact .inl h
  · obtain ⟨q, h1, h2⟩ := first_diff h
    right
    cases ha : a.testBit q with
    | false => exact .inl ⟨q, h1, ha, by rw [ha] at h2; cases hb : b.testBit q <;> simp_all⟩
    | true => exact .inr ⟨q, fun i hi => (h1 i hi).symm, by rw [ha] at h2; cases hb : b.testBit q <;> simp_all, ha⟩
theorem bef_of_sub {a b : Nat} (h : SubB a b) : a = b ∨ bef a b := by
  rcases bef_total a b with h1 | h1 | ⟨q, h2, h3, h4⟩
  · exact .inl h1
  · exact .inr h1
  · have := h q h4
    rw [h3] at this; cases this
/-! ## the next closed set -/
theorem leastM_iff {m j : Nat} (hj : m.testBit j = true) (h64 : j < 64) : leastM m = j ↔ ∀ i, i < j → m.testBit i = false := by
  have hh : leastM m = ((mem64 m).head?).getD 0 := by rw [leastM]; cases mem64 m <;> rfl
  rw [hh, mem64, List.head?_filter]
  cases hf : (List.range 64).find? (fun i => m.testBit i) with
  | none =>
    rw [List.find?_range_eq_none] at hf
    have := hf j h64
    simp [hj] at this
  | some k =>
    rw [List.find?_range_eq_some] at hf
    obtain ⟨h1, h2, h3⟩ := hf
    simp only [Option.getD_some]
    constructor
    · rintro rfl i hi
      simpa using h3 i hi
    · intro h
      rcases Nat.lt_trichotomy k j with hlt | e | hlt
      · rw [h k hlt] at h1; cases h1
      · exact e
      · have := h3 j hlt
        simp [hj] at this
theorem compl_testBit {x i : Nat} (hx : x < 18446744073709551616) : (18446744073709551615 - x).testBit i = (decide (i < 64) && !x.testBit i) := by
  rw [show 18446744073709551615 - x = 2 ^ 64 - (x + 1) by omega, Nat.testBit_two_pow_sub_succ (by simpa using hx)]
def cand (c : Nat) (ms : List Nat) (a q : Nat) : Nat := clo c ms (a % 2 ^ q ||| 2 ^ q)
def pass (c : Nat) (ms : List Nat) (a q : Nat) : Prop := a.testBit q = false ∧ ∀ i, i < q → (cand c ms a q).testBit i = a.testBit i
theorem mod_or_testBit (a q i : Nat) : (a % 2 ^ q ||| 2 ^ q).testBit i = (decide (i = q) || (decide (i < q) && a.testBit i)) := by
  rw [Nat.testBit_or, Nat.testBit_mod_two_pow, Nat.testBit_two_pow, Bool.or_comm]
  congr 1
  exact decide_eq_decide.2 eq_comm
theorem nextM_mod {c a j : Nat} (ha : a < 2 ^ c) (hc : c < 64) (hj : j < c) : ((a % 2 ^ (j + 1)) &&& (18446744073709551615 - 2 ^ j)) = a % 2 ^ j := by
  have hp : 2 ^ c < 18446744073709551616 := Nat.pow_lt_pow_right (a := 2) (by omega) hc
  apply Nat.eq_of_testBit_eq
  intro i
  have hle : a % 2 ^ (j + 1) ≤ a := Nat.mod_le _ _
  rw [clear_testBit (by omega) (by omega), Nat.testBit_mod_two_pow, Nat.testBit_mod_two_pow]
  by_cases h1 : i < j
  · simp [h1, show i < j + 1 by omega, show ¬ j = i by omega]
  · by_cases h2 : i = j
    · subst h2; simp
    · simp [h1, show ¬ i < j + 1 by omega]
theorem mod_succ_of_not {a j : Nat} (h : a.testBit j = false) : a % 2 ^ (j + 1) = a % 2 ^ j := by
  apply Nat.eq_of_testBit_eq
  intro i
  rw [Nat.testBit_mod_two_pow, Nat.testBit_mod_two_pow]
  by_cases h1 : i < j
  · simp [h1, show i < j + 1 by omega]
  · by_cases h2 : i = j
    · subst h2; simp [h]
    · simp [h1, show ¬ i < j + 1 by omega]
theorem cand_self {c : Nat} {ms : List Nat} (_hr : ms.length ≤ 64) (_hc : c < 64) {a q : Nat} (_ha : a < 2 ^ c) (hq : q < c) : (a % 2 ^ q ||| 2 ^ q) < 2 ^ c := by
  apply lt_pow_of_bits
  intro j hj
  rw [mod_or_testBit] at hj
  simp at hj
  omega
theorem pass_iff {c : Nat} {ms : List Nat} (hr : ms.length ≤ 64) (hc : c < 64) {a q : Nat} (ha : a < 2 ^ c) (hq : q < c) (hb : a.testBit q = false) : leastM (cand c ms a q &&& (18446744073709551615 - a % 2 ^ q)) = q ↔ pass c ms a q := by
  have hp : 2 ^ c < 18446744073709551616 := Nat.pow_lt_pow_right (a := 2) (by omega) hc
  have hle : a % 2 ^ q ≤ a := Nat.mod_le _ _
  have hext : SubB (a % 2 ^ q ||| 2 ^ q) (cand c ms a q) := clo_ext hr (by omega) (cand_self hr hc ha hq)
  have hbit : ∀ i, (cand c ms a q &&& (18446744073709551615 - a % 2 ^ q)).testBit i = ((cand c ms a q).testBit i && (decide (i < 64) && !(decide (i < q) && a.testBit i))) := fun i => by
    rw [Nat.testBit_and, compl_testBit (by omega), Nat.testBit_mod_two_pow]
  have hq1 : (cand c ms a q).testBit q = true := hext q (by rw [mod_or_testBit]; simp)
  rw [leastM_iff (by rw [hbit, hq1]; simp; omega) (by omega)]
  constructor
  · intro h
    refine ⟨hb, fun i hi => ?_⟩
    have h1 := h i hi
    rw [hbit] at h1
    cases hai : a.testBit i with
    | true => exact hext i (by rw [mod_or_testBit]; simp [hi, hai])
    | false =>
      rw [hai] at h1
      simpa [show i < 64 by omega] using h1
  · rintro ⟨_, h⟩ i hi
    rw [hbit, h i hi]
    cases a.testBit i <;> simp [hi]
theorem nextM_mem {c : Nat} {ms : List Nat} (hr : ms.length ≤ 64) (hc : c < 64) {a : Nat} (ha : a < 2 ^ c) : ∀ j, j ≤ c → match nextM c ms j (a % 2 ^ j) with
    | none => ∀ q, q < j → ¬ pass c ms a q
    | some b => ∃ q, q < j ∧ pass c ms a q ∧ b = cand c ms a q ∧ ∀ p, q < p → p < j → ¬ pass c ms a p
  | 0, _ => by simp only [nextM]; intro q hq; omega
  | j + 1, hj => by
    have ih := nextM_mem hr hc ha j (by omega)
    rw [nextM, Nat.testBit_mod_two_pow]
    simp only [show j < j + 1 by omega, decide_true, Bool.true_and]
    by_cases hb : a.testBit j = true
    · rw [if_pos hb, nextM_mod ha hc (by omega)]
      have hno : ¬ pass c ms a j := fun h => by have h1 := h.1; rw [hb] at h1; cases h1
      cases hn : nextM c ms j (a % 2 ^ j) with
      | none =>
        rw [hn] at ih
        intro q hq
        rcases Nat.lt_or_ge q j with h | h
        · exact ih q h
        · obtain rfl : q = j := by omega
          exact hno
      | some b =>
        rw [hn] at ih
        obtain ⟨q, h1, h2, h3, h4⟩ := ih
        refine ⟨q, by omega, h2, h3, fun p hp hpj => ?_⟩
        rcases Nat.lt_or_ge p j with h | h
        · exact h4 p hp h
        · obtain rfl : p = j := by omega
          exact hno
    · have hb' : a.testBit j = false := by simpa using hb
      rw [if_neg hb, mod_succ_of_not hb']
      have hpi := pass_iff hr hc ha (q := j) (by omega) hb'
      rw [cand] at hpi
      by_cases hl : leastM (clo c ms (a % 2 ^ j ||| 2 ^ j) &&& (18446744073709551615 - a % 2 ^ j)) = j
      · rw [if_pos hl]
        exact ⟨j, by omega, hpi.1 hl, rfl, fun p h1 h2 => by omega⟩
      · rw [if_neg hl]
        have hno : ¬ pass c ms a j := fun h => hl (hpi.2 h)
        cases hn : nextM c ms j (a % 2 ^ j) with
        | none =>
          rw [hn] at ih
          intro q hq
          rcases Nat.lt_or_ge q j with h | h
          · exact ih q h
          · obtain rfl : q = j := by omega
            exact hno
        | some b =>
          rw [hn] at ih
          obtain ⟨q, h1, h2, h3, h4⟩ := ih
          refine ⟨q, by omega, h2, h3, fun p hp hpj => ?_⟩
          rcases Nat.lt_or_ge p j with h | h
          · exact h4 p hp h
          · obtain rfl : p = j := by omega
            exact hno
/-- A closed set behind a passes the test where it first differs, and has that candidate as a part. -/
theorem pass_of_bef {c : Nat} {ms : List Nat} (hr : ms.length ≤ 64) (hc : c < 64) {a b q : Nat} (ha : a < 2 ^ c) (hb : clo c ms b = b) (h1 : ∀ i, i < q → a.testBit i = b.testBit i) (h2 : a.testBit q = false) (h3 : b.testBit q = true) : pass c ms a q ∧ SubB (cand c ms a q) b := by
  have hblt : b < 2 ^ c := by rw [← hb]; exact clo_lt hr (by omega) b
  have hq : q < c := bits_of_lt hblt h3
  have hsub : SubB (cand c ms a q) b := by
    have : SubB (a % 2 ^ q ||| 2 ^ q) b := fun i hi => by
      rw [mod_or_testBit] at hi
      simp only [Bool.or_eq_true, decide_eq_true_eq, Bool.and_eq_true] at hi
      rcases hi with rfl | ⟨hi, hai⟩
      · exact h3
      · rw [← h1 i hi]; exact hai
    have := clo_mono (ms := ms) hr (by omega : c ≤ 64) this
    rwa [hb] at this
  refine ⟨⟨h2, fun i hi => ?_⟩, hsub⟩
  cases hai : a.testBit i with
  | true => exact clo_ext hr (by omega) (cand_self hr hc ha hq) i (by rw [mod_or_testBit]; simp [hi, hai])
  | false =>
    cases hci : (cand c ms a q).testBit i with
    | false => rfl
    | true => have := hsub i hci; rw [← h1 i hi, hai] at this; cases this
theorem nextM_none {c : Nat} {ms : List Nat} (hr : ms.length ≤ 64) (hc : c < 64) {a : Nat} (ha : a < 2 ^ c) (h : nextM c ms c a = none) {b : Nat} (hb : clo c ms b = b) : ¬ bef a b := by
  rintro ⟨q, h1, h2, h3⟩
  have hn := nextM_mem (ms := ms) hr hc ha c (Nat.le_refl _)
  rw [Nat.mod_eq_of_lt ha, h] at hn
  have hblt : b < 2 ^ c := by rw [← hb]; exact clo_lt hr (by omega) b
  exact hn q (bits_of_lt hblt h3) (pass_of_bef hr hc ha hb h1 h2 h3).1
theorem nextM_some {c : Nat} {ms : List Nat} (hr : ms.length ≤ 64) (hc : c < 64) {a n : Nat} (ha : a < 2 ^ c) (h : nextM c ms c a = some n) : clo c ms n = n ∧ bef a n ∧ ∀ b, clo c ms b = b → bef a b → b = n ∨ bef n b := by
  have hn := nextM_mem (ms := ms) hr hc ha c (Nat.le_refl _)
  rw [Nat.mod_eq_of_lt ha, h] at hn
  obtain ⟨q, hq, ⟨hpa, hpb⟩, rfl, hlast⟩ := hn
  have hcq : (cand c ms a q).testBit q = true := clo_ext hr (by omega) (cand_self hr hc ha hq) q (by rw [mod_or_testBit]; simp)
  refine ⟨clo_idem hr (by omega) _, ⟨q, fun i hi => (hpb i hi).symm, hpa, hcq⟩, ?_⟩
  rintro b hb ⟨p, h1, h2, h3⟩
  have hblt : b < 2 ^ c := by rw [← hb]; exact clo_lt hr (by omega) b
  obtain ⟨hp, hsub⟩ := pass_of_bef hr hc ha hb h1 h2 h3
  have hpc := bits_of_lt hblt h3
  rcases Nat.lt_trichotomy p q with hlt | rfl | hlt
  · exact .inr ⟨p, fun i hi => (hpb i (by omega)).trans (h1 i hi), by rw [hpb p hlt]; exact h2, h3⟩
  · rcases bef_of_sub hsub with e | e
    · exact .inl e.symm
    · exact .inr e
  · exact absurd hp (hlast p hlt hpc)
/-- THE ENUMERATION: from a on, the ascending list of all closed sets from a on. -/
theorem gen_eq {c : Nat} {ms : List Nat} (hr : ms.length ≤ 64) (hc : c < 64) : ∀ (k a : Nat) (l : List Nat), clo c ms a = a → (a :: l).Pairwise bef → (∀ b, b ∈ a :: l ↔ clo c ms b = b ∧ (b = a ∨ bef a b)) → gen c ms k a = if (a :: l).length ≤ k then some (a :: l) else none
  | 0, a, l, _, _, _ => by simp [gen]
  | k + 1, a, l, ha, hl, hm => by
    have halt : a < 2 ^ c := by rw [← ha]; exact clo_lt hr (by omega) a
    rw [gen]
    cases hn : nextM c ms c a with
    | none =>
      have : l = [] := by
        rcases l with _ | ⟨b, l⟩
        · rfl
        · have hb := (hm b).1 (by simp)
          have hab : bef a b := by have := List.rel_of_pairwise_cons hl (a' := b) (by simp); exact this
          exact absurd hab (nextM_none hr hc halt hn hb.1)
      subst this
      simp
    | some n =>
      obtain ⟨h1, h2, h3⟩ := nextM_some hr hc halt hn
      have hnl : n ∈ l := by
        have := (hm n).2 ⟨h1, .inr h2⟩
        rcases List.mem_cons.1 this with e | e
        · subst e; exact absurd h2 (bef_irrefl _)
        · exact e
      have hl2 := (List.pairwise_cons.1 hl).2
      have hla := (List.pairwise_cons.1 hl).1
      rcases l with _ | ⟨x, t⟩
      · cases hnl
      · have hx : x = n := by
          have hxc := ((hm x).1 (by simp)).1
          rcases h3 x hxc (hla x (by simp)) with e | e
          · exact e
          · rcases List.mem_cons.1 hnl with e' | e'
            · exact e'.symm
            · exact (bef_asymm e ((List.pairwise_cons.1 hl2).1 n e')).elim
        subst hx
        have ih := gen_eq hr hc k x t h1 hl2 (fun b => ⟨fun hb => ⟨((hm b).1 (List.mem_cons_of_mem _ hb)).1, ?_⟩, fun hb => ?_⟩)
        · simp only
          rw [ih]
          by_cases hle : (x :: t).length ≤ k
          · rw [if_pos hle, if_pos (by simp at hle ⊢; omega)]
            rfl
          · rw [if_neg hle, if_neg (by simp at hle ⊢; omega)]
            rfl
        · exact h3 b ((hm b).1 (List.mem_cons_of_mem _ hb)).1 (hla b hb)
        · have hab : bef a b := by
            rcases hb.2 with rfl | h
            · exact h2
            · exact bef_trans h2 h
          rcases List.mem_cons.1 ((hm b).2 ⟨hb.1, .inr hab⟩) with e | e
          · subst e; exact absurd hab (bef_irrefl _)
          · exact e
end Go.Proofs.YtoheffglppbcbaaDoor
