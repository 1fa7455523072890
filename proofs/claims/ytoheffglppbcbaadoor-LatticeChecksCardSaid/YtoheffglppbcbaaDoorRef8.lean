/- THE REFERENCE's LATTICE (arbacref46): order, bounds, covers, numbers, lists. -/
import Derived.Test.YtoheffglppbcbaaDoorRef7
import Derived.Test.YtoheffglppbcbaaDoorLat4
namespace Go.Proofs.YtoheffglppbcbaaDoor
section
set_option maxRecDepth 100000
theorem en22 : Enters Tryd.prog 22 := enters_mk Tryd.func22 (by kernel_rfl) rfl
theorem fa75_0 : FAdr Tryd.prog 75 0 0 := fadr_mk Tryd.underlying75 rfl rfl (by kernel_rfl)
theorem ty75 : Ty Tryd.prog 75 true 2 := ⟨⟨_, Tryd.underlying75, rfl⟩, by kernel_rfl⟩
end
open Go.RowKit
def conC (l : List (Nat × Nat)) : List Value := l.flatMap fun p => [.int .u64 (p.1 : Int), .int .u64 (p.2 : Int)]
theorem conC_append (l l' : List (Nat × Nat)) : conC (l ++ l') = conC l ++ conC l' := by simp [conC]
theorem conC_length (l : List (Nat × Nat)) : (conC l).length = l.length * 2 := by
  induction l with
  | nil => rfl
  | cons p l ih =>
    have : conC (p :: l) = [.int .u64 (p.1 : Int), .int .u64 (p.2 : Int)] ++ conC l := rfl
    rw [this, List.length_append, ih]
    simp; omega
theorem conC_get : ∀ (l : List (Nat × Nat)) (i : Nat) (h : i < l.length), (conC l)[i * 2]? = some (.int .u64 (l[i].1 : Int)) ∧ (conC l)[i * 2 + 1]? = some (.int .u64 (l[i].2 : Int))
  | p :: l, 0, _ => by simp [conC]
  | p :: l, i + 1, h => by
    have := conC_get l i (by simpa using h)
    have e : conC (p :: l) = .int .u64 (p.1 : Int) :: .int .u64 (p.2 : Int) :: conC l := rfl
    rw [e, show (i + 1) * 2 = i * 2 + 2 by omega, show i * 2 + 2 + 1 = i * 2 + 1 + 2 by omega]
    simpa using this
/-- v holds the reference's concepts l. -/
def ConT (X : PMap) (v : Value) (l : List (Nat × Nat)) : Prop := SliceR X v l.length (conC l) ∧ l.length < 1024 ∧ ∀ p ∈ l, p.1 < 18446744073709551616 ∧ p.2 < 18446744073709551616
theorem ConT.mono {X X' : PMap} {v : Value} {l : List (Nat × Nat)} (h : ConT X v l) (hX : X.le X') : ConT X' v l := ⟨h.1.mono hX, h.2⟩
theorem cread1k {cs : List Value} {k k' : Nat} {v : Value} (h : cs[k]? = some v) (e : k' = k) : cread false 1 cs k' = some v := by
  subst e
  simpa [cread] using h
def leqR (l : List (Nat × Nat)) (i j : Nat) : Bool := decide ((l.getD i (0, 0)).1 &&& (l.getD j (0, 0)).1 = (l.getD i (0, 0)).1)
theorem leq46_spec {X : PMap} {v : Value} {l : List (Nat × Nat)} (h : ConT X v l) (i j : Nat) (hi : i < l.length) (hj : j < l.length) : Spec Tryd.prog 22 [v, .int .i64 (i : Int), .int .i64 (j : Int)] X fun u _ => u = .bool (leqR l i j) := by
  obtain ⟨hS, hl, hb⟩ := h
  obtain ⟨A, cp, rfl⟩ := hS.form
  obtain ⟨bo, rfl, hBo⟩ := hS.blk (by omega)
  obtain ⟨g1, _⟩ := conC_get l i hi
  obtain ⟨g2, _⟩ := conC_get l j hj
  have hb1 := (hb l[i] (List.getElem_mem hi)).1
  have hb2 := (hb l[j] (List.getElem_mem hj)).1
  refine Spec.enter Tryd.func22 rfl Tryd.ntmps22 rfl ?_
  intro w0 hw0
  refine T.seq ?_
  refine T.region ?_
  refine SL.y (op_assign rfl) rfl rfl ?_
  refine SL.nil ?_
  refine T.seq ?_
  refine T.draw (by kernel_rfl) 18 [.t 0, .t 1, .t 2, .t 3, .t 4, .t 5, .t 6, .t 7, .t 8, .t 9, .t 10, .t 11, .t 12, .t 13, .t 14, .t 15, .t 16, .t 17] (by kernel_rfl) ?_
  refine SD.take rfl panicBody (op_move rfl) rfl rfl ?_
  refine SD.take rfl panicBody (op_move rfl) rfl rfl ?_
  first | refine SD.take rfl panicBody (op_indexN Tryd.underlying29 ty75 rfl rfl (by omega)) rfl rfl ?_ | refine SD.take rfl panicBody (op_index Tryd.underlying29 ty75 rfl rfl (by omega) (by omega)) rfl rfl ?_
  refine SD.take rfl panicBody (op_fieldAddr fa75_0 rfl) rfl rfl ?_
  -- to 11: op
  refine SD.take rfl panicBody (op_loadX ty64 rfl hBo (cread1k g1 (by omega))) rfl rfl ?_
  refine SD.take rfl panicBody (op_move rfl) rfl rfl ?_
  refine SD.take rfl panicBody (op_move rfl) rfl rfl ?_
  first | refine SD.take rfl panicBody (op_indexN Tryd.underlying29 ty75 rfl rfl (by omega)) rfl rfl ?_ | refine SD.take rfl panicBody (op_index Tryd.underlying29 ty75 rfl rfl (by omega) (by omega)) rfl rfl ?_
  refine SD.take rfl panicBody (op_fieldAddr fa75_0 rfl) rfl rfl ?_
  -- to 16: op
  refine SD.take rfl panicBody (op_loadX ty64 rfl hBo (cread1k g2 (by omega))) rfl rfl ?_
  refine SD.take rfl panicBody (op_and rfl rfl (by first | omega | assumption | decide | exact Nat.lt_of_le_of_lt (Nat.shiftRight_le ..) (by first | omega | assumption) | exact Nat.lt_of_le_of_lt Nat.and_le_left (by first | omega | assumption) | exact Nat.lt_of_le_of_lt Nat.and_le_right (by first | omega | decide)) (by first | omega | assumption | decide | exact Nat.lt_of_le_of_lt (Nat.shiftRight_le ..) (by first | omega | assumption) | exact Nat.lt_of_le_of_lt Nat.and_le_left (by first | omega | assumption) | exact Nat.lt_of_le_of_lt Nat.and_le_right (by first | omega | decide))) rfl rfl ?_
  refine SD.take rfl panicBody (op_move rfl) rfl rfl ?_
  refine SD.take rfl panicBody (op_move rfl) rfl rfl ?_
  first | refine SD.take rfl panicBody (op_indexN Tryd.underlying29 ty75 rfl rfl (by omega)) rfl rfl ?_ | refine SD.take rfl panicBody (op_index Tryd.underlying29 ty75 rfl rfl (by omega) (by omega)) rfl rfl ?_
  refine SD.take rfl panicBody (op_fieldAddr fa75_0 rfl) rfl rfl ?_
  -- to 22: op
  refine SD.take rfl panicBody (op_loadX ty64 rfl hBo (cread1k g1 (by omega))) rfl rfl ?_
  first | refine SD.take rfl panicBody (op_eqlT rfl rfl (by omega)) rfl rfl ?_ | refine SD.take rfl panicBody (op_eqlF rfl rfl (by omega)) rfl rfl ?_ | refine SD.take rfl panicBody (op_eql rfl rfl) rfl rfl ?_
  refine SD.take rfl panicBody (op_assign rfl) rfl rfl ?_
  refine SD.nil ?_
  show SL _ _ _ _ _ _ _ [] _ _ _
  refine SL.nil ?_
  -- ret
  refine T.ret1 rfl (ResIs.tmp rfl) ?_
  simp [leqR, hi, hj]
  try omega
def lstB (l : List (Nat × Nat)) (i j k n : Nat) : Bool := leqR l i k && leqR l j k && (List.range n).all fun q => !(leqR l i q && leqR l j q && !leqR l k q)
theorem lstB_succ (l : List (Nat × Nat)) (i j k n : Nat) : lstB l i j k (n + 1) = (lstB l i j k n && !(leqR l i n && leqR l j n && !leqR l k n)) := by
  simp [lstB, List.range_succ, Bool.and_assoc]
def gstB (l : List (Nat × Nat)) (i j k n : Nat) : Bool := leqR l k i && leqR l k j && (List.range n).all fun q => !(leqR l q i && leqR l q j && !leqR l q k)
theorem gstB_succ (l : List (Nat × Nat)) (i j k n : Nat) : gstB l i j k (n + 1) = (gstB l i j k n && !(leqR l n i && leqR l n j && !leqR l n k)) := by
  simp [gstB, List.range_succ, Bool.and_assoc]
def optI : Option Nat → Int
  | none => -1
  | some k => k
def joinR (l : List (Nat × Nat)) (i j : Nat) : Option Nat := (List.range l.length).find? fun k => lstB l i j k l.length
def meetR (l : List (Nat × Nat)) (i j : Nat) : Option Nat := (List.range l.length).find? fun k => gstB l i j k l.length
theorem find_first {n k : Nat} {p : Nat → Bool} (hk : k < n) (hp : p k = true) (hno : ∀ q, q < k → p q = false) : (List.range n).find? p = some k := by
  rw [List.find?_range_eq_some]
  exact ⟨hp, List.mem_range.2 hk, fun j hj => by simp [hno j hj]⟩
theorem find_not {n : Nat} {p : Nat → Bool} (hno : ∀ q, q < n → p q = false) : (List.range n).find? p = none := by
  rw [List.find?_range_eq_none]
  exact fun i hi => by simp [hno i hi]
theorem no_more {n : Nat} {p : Nat → Bool} (h : ∀ q, q < n → p q = false) (hn : p n = false) : ∀ q, q < n + 1 → p q = false := fun q hq => by
  rcases Nat.lt_or_ge q n with h1 | h1
  · exact h q h1
  · obtain rfl : q = n := by omega
    exact hn
theorem join46_spec {X : PMap} {v : Value} {l : List (Nat × Nat)} (h : ConT X v l) (i j : Nat) (hi : i < l.length) (hj : j < l.length) : Spec Tryd.prog 20 [v, .int .i64 (i : Int), .int .i64 (j : Int)] X fun u _ => u = .int .i64 (optI (joinR l i j)) := by
  have hh := h
  obtain ⟨hS, hl, _⟩ := h
  obtain ⟨A, cp, rfl⟩ := hS.form
  refine Spec.enter Tryd.func20 rfl Tryd.ntmps20 rfl ?_
  intro w0 hw0
  refine T.seq ?_
  refine T.region ?_
  refine SL.y (op_assign (v := .int .i64 ((0 : Nat) : Int)) rfl) rfl rfl ?_
  refine SL.nil ?_
  refine T.seq ?_
  refine T.seq ?_
  refine T.region ?_
  refine SL.y (op_move rfl) rfl rfl ?_
  refine SL.y (op_lenS Tryd.underlying29 rfl) rfl rfl ?_
  refine SL.y (op_move (v := .int .i64 ((0 : Nat) : Int)) rfl) rfl rfl ?_
  refine SL.nil ?_
  refine T.block ?_
  -- loop live [0, 1, 2, 6, 11, 12]
  refine T.loopW (fun m env own X' => ∃ k : Nat, m = l.length - k ∧ k ≤ l.length ∧ X.le X' ∧ (∀ q, q < k → lstB l i j q l.length = false) ∧ env = [(0, .slice A l.length cp), (1, .int .i64 (i : Int)), (2, .int .i64 (j : Int)), (11, .int .i64 (l.length : Int)), (12, .int .i64 (k : Int))] ∧ own = []) l.length ⟨0, by simp, by omega, PMap.le_refl _, (fun q hq => by omega), rfl, rfl⟩ (by repeat (first | exact Sub.nil | refine Sub.cons rfl ?_)) ?_
  rintro m _ _ X1 ⟨k, rfl, hk, hX1, hno, rfl, rfl⟩
  rcases Nat.lt_or_ge k l.length with hkl | hkl
  · skip
    refine T.seq ?_
    refine T.region ?_
    first | refine SL.y (op_lssT rfl rfl (by omega)) rfl rfl ?_ | refine SL.y (op_lssF rfl rfl (by omega)) rfl rfl ?_ | refine SL.y (op_lss rfl rfl) rfl rfl ?_
    refine SL.nil ?_
    refine T.seq ?_
    refine T.condT rfl ?_
    refine T.skip ?_
    refine T.seq ?_
    refine T.block ?_
    refine T.seq ?_
    refine T.region ?_
    refine SL.y (op_move rfl) rfl rfl ?_
    refine SL.y (op_assign rfl) rfl rfl ?_
    refine SL.nil ?_
    refine T.seq ?_
    refine T.region ?_
    refine SL.y (op_move rfl) rfl rfl ?_
    refine SL.y (op_move rfl) rfl rfl ?_
    refine SL.y (op_move rfl) rfl rfl ?_
    -- op
    refine SL.x (op_callF en22 (vs := [_, _, _]) rfl (leq46_spec (hh.mono hX1) i k (by omega) (by omega))) rfl rfl ?_
    rintro _ _ X2 ⟨rfl, hX2, rfl⟩
    cases h1 : leqR l i k with
    | true =>
      refine SL.y (op_move rfl) rfl rfl ?_
      first | refine SL.skip rfl rfl ?_ | refine SL.y (op_move rfl) rfl rfl ?_
      first | refine SL.skip rfl rfl ?_ | refine SL.y (op_move rfl) rfl rfl ?_
      first | refine SL.skip rfl rfl ?_ | refine SL.y (op_move rfl) rfl rfl ?_
      -- op
      refine SL.x (op_callF en22 (vs := [_, _, _]) rfl (leq46_spec ((hh.mono hX1).mono hX2) j k (by omega) (by omega))) rfl rfl ?_
      rintro _ _ X3 ⟨rfl, hX3, rfl⟩
      first | refine SL.y (op_pickT rfl rfl) rfl rfl ?_ | refine SL.y (op_pickF rfl rfl) rfl rfl ?_ | refine SL.y (op_pickB rfl rfl rfl) rfl rfl ?_
      refine SL.y (op_assign rfl) rfl rfl ?_
      refine SL.nil ?_
      refine T.seq ?_
      refine T.seq ?_
      refine T.region ?_
      refine SL.y (op_move rfl) rfl rfl ?_
      refine SL.y (op_lenS Tryd.underlying29 rfl) rfl rfl ?_
      refine SL.y (op_move (v := .int .i64 ((0 : Nat) : Int)) rfl) rfl rfl ?_
      refine SL.nil ?_
      refine T.block ?_
      -- loop live [0, 1, 2, 6, 7, 8, 12, 26, 27]
      have hs0 : lstB l i j k 0 = leqR l j k := by simp [lstB, h1]
      refine T.loopW (fun m env own X' => ∃ n : Nat, m = l.length - n ∧ n ≤ l.length ∧ X.le X' ∧ env = [(0, .slice A l.length cp), (1, .int .i64 (i : Int)), (2, .int .i64 (j : Int)), (7, .int .i64 (k : Int)), (8, .bool (lstB l i j k n)), (11, .int .i64 (l.length : Int)), (12, .int .i64 (k : Int)), (26, .int .i64 (l.length : Int)), (27, .int .i64 (n : Int))] ∧ own = []) l.length ⟨0, by simp, by omega, (hX1.trans' hX2).trans' hX3, by rw [hs0], rfl⟩ (by repeat (first | exact Sub.nil | refine Sub.cons rfl ?_)) ?_
      rintro m _ _ Y1 ⟨n, rfl, hn, hY1, rfl, rfl⟩
      rcases Nat.lt_or_ge n l.length with hnl | hnl
      · skip
        refine T.seq ?_
        refine T.region ?_
        first | refine SL.y (op_lssT rfl rfl (by omega)) rfl rfl ?_ | refine SL.y (op_lssF rfl rfl (by omega)) rfl rfl ?_ | refine SL.y (op_lss rfl rfl) rfl rfl ?_
        refine SL.nil ?_
        refine T.seq ?_
        refine T.condT rfl ?_
        refine T.skip ?_
        refine T.seq ?_
        refine T.block ?_
        refine T.seq ?_
        refine T.region ?_
        refine SL.y (op_move rfl) rfl rfl ?_
        refine SL.y (op_assign rfl) rfl rfl ?_
        refine SL.nil ?_
        refine T.seq ?_
        refine T.region ?_
        refine SL.y (op_move rfl) rfl rfl ?_
        refine SL.y (op_move rfl) rfl rfl ?_
        refine SL.y (op_move rfl) rfl rfl ?_
        -- op
        refine SL.x (op_callF en22 (vs := [_, _, _]) rfl (leq46_spec (hh.mono hY1) i n (by omega) (by omega))) rfl rfl ?_
        rintro _ _ Y2 ⟨rfl, hY2, rfl⟩
        cases g1 : leqR l i n with
        | false =>
          refine SL.y (op_move rfl) rfl rfl ?_
          first | refine SL.skip rfl rfl ?_ | refine SL.y (op_move rfl) rfl rfl ?_
          first | refine SL.skip rfl rfl ?_ | refine SL.y (op_move rfl) rfl rfl ?_
          first | refine SL.skip rfl rfl ?_ | refine SL.y (op_move rfl) rfl rfl ?_
          -- op
          refine SL.skip rfl rfl ?_
          first | refine SL.y (op_pickT rfl rfl) rfl rfl ?_ | refine SL.y (op_pickF rfl rfl) rfl rfl ?_ | refine SL.y (op_pickB rfl rfl rfl) rfl rfl ?_
          refine SL.y (op_move rfl) rfl rfl ?_
          first | refine SL.skip rfl rfl ?_ | refine SL.y (op_move rfl) rfl rfl ?_
          first | refine SL.skip rfl rfl ?_ | refine SL.y (op_move rfl) rfl rfl ?_
          first | refine SL.skip rfl rfl ?_ | refine SL.y (op_move rfl) rfl rfl ?_
          -- op
          refine SL.skip rfl rfl ?_
          first | refine SL.skip rfl rfl ?_ | refine SL.y (op_not rfl) rfl rfl ?_
          first | refine SL.y (op_pickT rfl rfl) rfl rfl ?_ | refine SL.y (op_pickF rfl rfl) rfl rfl ?_ | refine SL.y (op_pickB rfl rfl rfl) rfl rfl ?_
          refine SL.nil ?_
          refine T.condF rfl ?_
          refine T.skip ?_
          refine T.blk ?_
          refine T.region ?_
          first | refine SL.y (op_addN (q := 1) rfl rfl (by omega)) rfl rfl ?_ | refine SL.y (op_add rfl rfl (by omega) (by omega)) rfl rfl ?_ | refine SL.y (op_addW rfl rfl) rfl rfl ?_
          refine SL.y (op_move rfl) rfl rfl ?_
          refine SL.nil ?_
          -- cut
          exact T.backW (l.length - (n + 1)) (by omega) ⟨n + 1, rfl, by omega, hY1.trans' hY2, by rw [show lstB l i j k (n + 1) = lstB l i j k n by rw [lstB_succ, g1]; simp], rfl⟩ (by repeat (first | exact Sub.nil | refine Sub.cons rfl ?_))
        | true =>
          refine SL.y (op_move rfl) rfl rfl ?_
          first | refine SL.skip rfl rfl ?_ | refine SL.y (op_move rfl) rfl rfl ?_
          first | refine SL.skip rfl rfl ?_ | refine SL.y (op_move rfl) rfl rfl ?_
          first | refine SL.skip rfl rfl ?_ | refine SL.y (op_move rfl) rfl rfl ?_
          -- op
          refine SL.x (op_callF en22 (vs := [_, _, _]) rfl (leq46_spec ((hh.mono hY1).mono hY2) j n (by omega) (by omega))) rfl rfl ?_
          rintro _ _ Y3 ⟨rfl, hY3, rfl⟩
          cases g2 : leqR l j n with
          | false =>
            first | refine SL.y (op_pickT rfl rfl) rfl rfl ?_ | refine SL.y (op_pickF rfl rfl) rfl rfl ?_ | refine SL.y (op_pickB rfl rfl rfl) rfl rfl ?_
            refine SL.y (op_move rfl) rfl rfl ?_
            first | refine SL.skip rfl rfl ?_ | refine SL.y (op_move rfl) rfl rfl ?_
            first | refine SL.skip rfl rfl ?_ | refine SL.y (op_move rfl) rfl rfl ?_
            first | refine SL.skip rfl rfl ?_ | refine SL.y (op_move rfl) rfl rfl ?_
            -- op
            refine SL.skip rfl rfl ?_
            first | refine SL.skip rfl rfl ?_ | refine SL.y (op_not rfl) rfl rfl ?_
            first | refine SL.y (op_pickT rfl rfl) rfl rfl ?_ | refine SL.y (op_pickF rfl rfl) rfl rfl ?_ | refine SL.y (op_pickB rfl rfl rfl) rfl rfl ?_
            refine SL.nil ?_
            refine T.condF rfl ?_
            refine T.skip ?_
            refine T.blk ?_
            refine T.region ?_
            first | refine SL.y (op_addN (q := 1) rfl rfl (by omega)) rfl rfl ?_ | refine SL.y (op_add rfl rfl (by omega) (by omega)) rfl rfl ?_ | refine SL.y (op_addW rfl rfl) rfl rfl ?_
            refine SL.y (op_move rfl) rfl rfl ?_
            refine SL.nil ?_
            -- cut
            exact T.backW (l.length - (n + 1)) (by omega) ⟨n + 1, rfl, by omega, (hY1.trans' hY2).trans' hY3, by rw [show lstB l i j k (n + 1) = lstB l i j k n by rw [lstB_succ, g2]; simp], rfl⟩ (by repeat (first | exact Sub.nil | refine Sub.cons rfl ?_))
          | true =>
            first | refine SL.y (op_pickT rfl rfl) rfl rfl ?_ | refine SL.y (op_pickF rfl rfl) rfl rfl ?_ | refine SL.y (op_pickB rfl rfl rfl) rfl rfl ?_
            refine SL.y (op_move rfl) rfl rfl ?_
            first | refine SL.skip rfl rfl ?_ | refine SL.y (op_move rfl) rfl rfl ?_
            first | refine SL.skip rfl rfl ?_ | refine SL.y (op_move rfl) rfl rfl ?_
            first | refine SL.skip rfl rfl ?_ | refine SL.y (op_move rfl) rfl rfl ?_
            -- op
            refine SL.x (op_callF en22 (vs := [_, _, _]) rfl (leq46_spec (((hh.mono hY1).mono hY2).mono hY3) k n (by omega) (by omega))) rfl rfl ?_
            rintro _ _ Y4 ⟨rfl, hY4, rfl⟩
            cases g3 : leqR l k n with
            | true =>
              first | refine SL.skip rfl rfl ?_ | refine SL.y (op_not rfl) rfl rfl ?_
              first | refine SL.y (op_pickT rfl rfl) rfl rfl ?_ | refine SL.y (op_pickF rfl rfl) rfl rfl ?_ | refine SL.y (op_pickB rfl rfl rfl) rfl rfl ?_
              refine SL.nil ?_
              refine T.condF rfl ?_
              refine T.skip ?_
              refine T.blk ?_
              refine T.region ?_
              first | refine SL.y (op_addN (q := 1) rfl rfl (by omega)) rfl rfl ?_ | refine SL.y (op_add rfl rfl (by omega) (by omega)) rfl rfl ?_ | refine SL.y (op_addW rfl rfl) rfl rfl ?_
              refine SL.y (op_move rfl) rfl rfl ?_
              refine SL.nil ?_
              -- cut
              exact T.backW (l.length - (n + 1)) (by omega) ⟨n + 1, rfl, by omega, ((hY1.trans' hY2).trans' hY3).trans' hY4, by rw [show lstB l i j k (n + 1) = lstB l i j k n by rw [lstB_succ, g3]; simp], rfl⟩ (by repeat (first | exact Sub.nil | refine Sub.cons rfl ?_))
            | false =>
              first | refine SL.skip rfl rfl ?_ | refine SL.y (op_not rfl) rfl rfl ?_
              first | refine SL.y (op_pickT rfl rfl) rfl rfl ?_ | refine SL.y (op_pickF rfl rfl) rfl rfl ?_ | refine SL.y (op_pickB rfl rfl rfl) rfl rfl ?_
              refine SL.nil ?_
              refine T.condT rfl ?_
              refine T.region ?_
              refine SL.y (op_assign rfl) rfl rfl ?_
              refine SL.nil ?_
              refine T.blk ?_
              refine T.region ?_
              first | refine SL.y (op_addN (q := 1) rfl rfl (by omega)) rfl rfl ?_ | refine SL.y (op_add rfl rfl (by omega) (by omega)) rfl rfl ?_ | refine SL.y (op_addW rfl rfl) rfl rfl ?_
              refine SL.y (op_move rfl) rfl rfl ?_
              refine SL.nil ?_
              -- cut
              exact T.backW (l.length - (n + 1)) (by omega) ⟨n + 1, rfl, by omega, ((hY1.trans' hY2).trans' hY3).trans' hY4, by rw [show lstB l i j k (n + 1) = false by rw [lstB_succ, g1, g2, g3]; simp], rfl⟩ (by repeat (first | exact Sub.nil | refine Sub.cons rfl ?_))
      · obtain rfl : n = l.length := by omega
        cases hb : lstB l i j k l.length with
        | true =>
          refine T.seq ?_
          refine T.region ?_
          first | refine SL.y (op_lssT rfl rfl (by omega)) rfl rfl ?_ | refine SL.y (op_lssF rfl rfl (by omega)) rfl rfl ?_ | refine SL.y (op_lss rfl rfl) rfl rfl ?_
          refine SL.nil ?_
          refine T.seq ?_
          refine T.condF rfl ?_
          refine T.exit (T.exitCode (T.exitCut (T.exitBlk ?_)))
          refine T.seq ?_
          refine T.region ?_
          refine SL.y (op_move rfl) rfl rfl ?_
          refine SL.nil ?_
          refine T.condT rfl ?_
          refine T.seq ?_
          refine T.region ?_
          refine SL.y (op_move rfl) rfl rfl ?_
          refine SL.y (op_assign rfl) rfl rfl ?_
          refine SL.nil ?_
          -- ret
          refine T.ret1 rfl (ResIs.tmp rfl) ?_
          rw [joinR, find_first hkl hb hno]
          rfl
        | false =>
          refine T.seq ?_
          refine T.region ?_
          first | refine SL.y (op_lssT rfl rfl (by omega)) rfl rfl ?_ | refine SL.y (op_lssF rfl rfl (by omega)) rfl rfl ?_ | refine SL.y (op_lss rfl rfl) rfl rfl ?_
          refine SL.nil ?_
          refine T.seq ?_
          refine T.condF rfl ?_
          refine T.exit (T.exitCode (T.exitCut (T.exitBlk ?_)))
          refine T.seq ?_
          refine T.region ?_
          refine SL.y (op_move rfl) rfl rfl ?_
          refine SL.nil ?_
          refine T.condF rfl ?_
          refine T.skip ?_
          refine T.blk ?_
          refine T.region ?_
          first | refine SL.y (op_addN (q := 1) rfl rfl (by omega)) rfl rfl ?_ | refine SL.y (op_add rfl rfl (by omega) (by omega)) rfl rfl ?_ | refine SL.y (op_addW rfl rfl) rfl rfl ?_
          refine SL.y (op_move rfl) rfl rfl ?_
          refine SL.nil ?_
          -- cut
          exact T.backW (l.length - (k + 1)) (by omega) ⟨k + 1, rfl, by omega, hY1, no_more hno hb, rfl, rfl⟩ (by repeat (first | exact Sub.nil | refine Sub.cons rfl ?_))
    | false =>
      refine SL.y (op_move rfl) rfl rfl ?_
      first | refine SL.skip rfl rfl ?_ | refine SL.y (op_move rfl) rfl rfl ?_
      first | refine SL.skip rfl rfl ?_ | refine SL.y (op_move rfl) rfl rfl ?_
      first | refine SL.skip rfl rfl ?_ | refine SL.y (op_move rfl) rfl rfl ?_
      -- op
      refine SL.skip rfl rfl ?_
      first | refine SL.y (op_pickT rfl rfl) rfl rfl ?_ | refine SL.y (op_pickF rfl rfl) rfl rfl ?_ | refine SL.y (op_pickB rfl rfl rfl) rfl rfl ?_
      refine SL.y (op_assign rfl) rfl rfl ?_
      refine SL.nil ?_
      refine T.seq ?_
      refine T.seq ?_
      refine T.region ?_
      refine SL.y (op_move rfl) rfl rfl ?_
      refine SL.y (op_lenS Tryd.underlying29 rfl) rfl rfl ?_
      refine SL.y (op_move (v := .int .i64 ((0 : Nat) : Int)) rfl) rfl rfl ?_
      refine SL.nil ?_
      refine T.block ?_
      -- loop live [0, 1, 2, 6, 7, 8, 12, 26, 27]
      have hs0 : lstB l i j k 0 = false := by simp [lstB, h1]
      refine T.loopW (fun m env own X' => ∃ n : Nat, m = l.length - n ∧ n ≤ l.length ∧ X.le X' ∧ env = [(0, .slice A l.length cp), (1, .int .i64 (i : Int)), (2, .int .i64 (j : Int)), (7, .int .i64 (k : Int)), (8, .bool (lstB l i j k n)), (11, .int .i64 (l.length : Int)), (12, .int .i64 (k : Int)), (26, .int .i64 (l.length : Int)), (27, .int .i64 (n : Int))] ∧ own = []) l.length ⟨0, by simp, by omega, (hX1.trans' hX2), by rw [hs0], rfl⟩ (by repeat (first | exact Sub.nil | refine Sub.cons rfl ?_)) ?_
      rintro m _ _ Y1 ⟨n, rfl, hn, hY1, rfl, rfl⟩
      rcases Nat.lt_or_ge n l.length with hnl | hnl
      · skip
        refine T.seq ?_
        refine T.region ?_
        first | refine SL.y (op_lssT rfl rfl (by omega)) rfl rfl ?_ | refine SL.y (op_lssF rfl rfl (by omega)) rfl rfl ?_ | refine SL.y (op_lss rfl rfl) rfl rfl ?_
        refine SL.nil ?_
        refine T.seq ?_
        refine T.condT rfl ?_
        refine T.skip ?_
        refine T.seq ?_
        refine T.block ?_
        refine T.seq ?_
        refine T.region ?_
        refine SL.y (op_move rfl) rfl rfl ?_
        refine SL.y (op_assign rfl) rfl rfl ?_
        refine SL.nil ?_
        refine T.seq ?_
        refine T.region ?_
        refine SL.y (op_move rfl) rfl rfl ?_
        refine SL.y (op_move rfl) rfl rfl ?_
        refine SL.y (op_move rfl) rfl rfl ?_
        -- op
        refine SL.x (op_callF en22 (vs := [_, _, _]) rfl (leq46_spec (hh.mono hY1) i n (by omega) (by omega))) rfl rfl ?_
        rintro _ _ Y2 ⟨rfl, hY2, rfl⟩
        cases g1 : leqR l i n with
        | false =>
          refine SL.y (op_move rfl) rfl rfl ?_
          first | refine SL.skip rfl rfl ?_ | refine SL.y (op_move rfl) rfl rfl ?_
          first | refine SL.skip rfl rfl ?_ | refine SL.y (op_move rfl) rfl rfl ?_
          first | refine SL.skip rfl rfl ?_ | refine SL.y (op_move rfl) rfl rfl ?_
          -- op
          refine SL.skip rfl rfl ?_
          first | refine SL.y (op_pickT rfl rfl) rfl rfl ?_ | refine SL.y (op_pickF rfl rfl) rfl rfl ?_ | refine SL.y (op_pickB rfl rfl rfl) rfl rfl ?_
          refine SL.y (op_move rfl) rfl rfl ?_
          first | refine SL.skip rfl rfl ?_ | refine SL.y (op_move rfl) rfl rfl ?_
          first | refine SL.skip rfl rfl ?_ | refine SL.y (op_move rfl) rfl rfl ?_
          first | refine SL.skip rfl rfl ?_ | refine SL.y (op_move rfl) rfl rfl ?_
          -- op
          refine SL.skip rfl rfl ?_
          first | refine SL.skip rfl rfl ?_ | refine SL.y (op_not rfl) rfl rfl ?_
          first | refine SL.y (op_pickT rfl rfl) rfl rfl ?_ | refine SL.y (op_pickF rfl rfl) rfl rfl ?_ | refine SL.y (op_pickB rfl rfl rfl) rfl rfl ?_
          refine SL.nil ?_
          refine T.condF rfl ?_
          refine T.skip ?_
          refine T.blk ?_
          refine T.region ?_
          first | refine SL.y (op_addN (q := 1) rfl rfl (by omega)) rfl rfl ?_ | refine SL.y (op_add rfl rfl (by omega) (by omega)) rfl rfl ?_ | refine SL.y (op_addW rfl rfl) rfl rfl ?_
          refine SL.y (op_move rfl) rfl rfl ?_
          refine SL.nil ?_
          -- cut
          exact T.backW (l.length - (n + 1)) (by omega) ⟨n + 1, rfl, by omega, hY1.trans' hY2, by rw [show lstB l i j k (n + 1) = lstB l i j k n by rw [lstB_succ, g1]; simp], rfl⟩ (by repeat (first | exact Sub.nil | refine Sub.cons rfl ?_))
        | true =>
          refine SL.y (op_move rfl) rfl rfl ?_
          first | refine SL.skip rfl rfl ?_ | refine SL.y (op_move rfl) rfl rfl ?_
          first | refine SL.skip rfl rfl ?_ | refine SL.y (op_move rfl) rfl rfl ?_
          first | refine SL.skip rfl rfl ?_ | refine SL.y (op_move rfl) rfl rfl ?_
          -- op
          refine SL.x (op_callF en22 (vs := [_, _, _]) rfl (leq46_spec ((hh.mono hY1).mono hY2) j n (by omega) (by omega))) rfl rfl ?_
          rintro _ _ Y3 ⟨rfl, hY3, rfl⟩
          cases g2 : leqR l j n with
          | false =>
            first | refine SL.y (op_pickT rfl rfl) rfl rfl ?_ | refine SL.y (op_pickF rfl rfl) rfl rfl ?_ | refine SL.y (op_pickB rfl rfl rfl) rfl rfl ?_
            refine SL.y (op_move rfl) rfl rfl ?_
            first | refine SL.skip rfl rfl ?_ | refine SL.y (op_move rfl) rfl rfl ?_
            first | refine SL.skip rfl rfl ?_ | refine SL.y (op_move rfl) rfl rfl ?_
            first | refine SL.skip rfl rfl ?_ | refine SL.y (op_move rfl) rfl rfl ?_
            -- op
            refine SL.skip rfl rfl ?_
            first | refine SL.skip rfl rfl ?_ | refine SL.y (op_not rfl) rfl rfl ?_
            first | refine SL.y (op_pickT rfl rfl) rfl rfl ?_ | refine SL.y (op_pickF rfl rfl) rfl rfl ?_ | refine SL.y (op_pickB rfl rfl rfl) rfl rfl ?_
            refine SL.nil ?_
            refine T.condF rfl ?_
            refine T.skip ?_
            refine T.blk ?_
            refine T.region ?_
            first | refine SL.y (op_addN (q := 1) rfl rfl (by omega)) rfl rfl ?_ | refine SL.y (op_add rfl rfl (by omega) (by omega)) rfl rfl ?_ | refine SL.y (op_addW rfl rfl) rfl rfl ?_
            refine SL.y (op_move rfl) rfl rfl ?_
            refine SL.nil ?_
            -- cut
            exact T.backW (l.length - (n + 1)) (by omega) ⟨n + 1, rfl, by omega, (hY1.trans' hY2).trans' hY3, by rw [show lstB l i j k (n + 1) = lstB l i j k n by rw [lstB_succ, g2]; simp], rfl⟩ (by repeat (first | exact Sub.nil | refine Sub.cons rfl ?_))
          | true =>
            first | refine SL.y (op_pickT rfl rfl) rfl rfl ?_ | refine SL.y (op_pickF rfl rfl) rfl rfl ?_ | refine SL.y (op_pickB rfl rfl rfl) rfl rfl ?_
            refine SL.y (op_move rfl) rfl rfl ?_
            first | refine SL.skip rfl rfl ?_ | refine SL.y (op_move rfl) rfl rfl ?_
            first | refine SL.skip rfl rfl ?_ | refine SL.y (op_move rfl) rfl rfl ?_
            first | refine SL.skip rfl rfl ?_ | refine SL.y (op_move rfl) rfl rfl ?_
            -- op
            refine SL.x (op_callF en22 (vs := [_, _, _]) rfl (leq46_spec (((hh.mono hY1).mono hY2).mono hY3) k n (by omega) (by omega))) rfl rfl ?_
            rintro _ _ Y4 ⟨rfl, hY4, rfl⟩
            cases g3 : leqR l k n with
            | true =>
              first | refine SL.skip rfl rfl ?_ | refine SL.y (op_not rfl) rfl rfl ?_
              first | refine SL.y (op_pickT rfl rfl) rfl rfl ?_ | refine SL.y (op_pickF rfl rfl) rfl rfl ?_ | refine SL.y (op_pickB rfl rfl rfl) rfl rfl ?_
              refine SL.nil ?_
              refine T.condF rfl ?_
              refine T.skip ?_
              refine T.blk ?_
              refine T.region ?_
              first | refine SL.y (op_addN (q := 1) rfl rfl (by omega)) rfl rfl ?_ | refine SL.y (op_add rfl rfl (by omega) (by omega)) rfl rfl ?_ | refine SL.y (op_addW rfl rfl) rfl rfl ?_
              refine SL.y (op_move rfl) rfl rfl ?_
              refine SL.nil ?_
              -- cut
              exact T.backW (l.length - (n + 1)) (by omega) ⟨n + 1, rfl, by omega, ((hY1.trans' hY2).trans' hY3).trans' hY4, by rw [show lstB l i j k (n + 1) = lstB l i j k n by rw [lstB_succ, g3]; simp], rfl⟩ (by repeat (first | exact Sub.nil | refine Sub.cons rfl ?_))
            | false =>
              first | refine SL.skip rfl rfl ?_ | refine SL.y (op_not rfl) rfl rfl ?_
              first | refine SL.y (op_pickT rfl rfl) rfl rfl ?_ | refine SL.y (op_pickF rfl rfl) rfl rfl ?_ | refine SL.y (op_pickB rfl rfl rfl) rfl rfl ?_
              refine SL.nil ?_
              refine T.condT rfl ?_
              refine T.region ?_
              refine SL.y (op_assign rfl) rfl rfl ?_
              refine SL.nil ?_
              refine T.blk ?_
              refine T.region ?_
              first | refine SL.y (op_addN (q := 1) rfl rfl (by omega)) rfl rfl ?_ | refine SL.y (op_add rfl rfl (by omega) (by omega)) rfl rfl ?_ | refine SL.y (op_addW rfl rfl) rfl rfl ?_
              refine SL.y (op_move rfl) rfl rfl ?_
              refine SL.nil ?_
              -- cut
              exact T.backW (l.length - (n + 1)) (by omega) ⟨n + 1, rfl, by omega, ((hY1.trans' hY2).trans' hY3).trans' hY4, by rw [show lstB l i j k (n + 1) = false by rw [lstB_succ, g1, g2, g3]; simp], rfl⟩ (by repeat (first | exact Sub.nil | refine Sub.cons rfl ?_))
      · obtain rfl : n = l.length := by omega
        cases hb : lstB l i j k l.length with
        | true =>
          refine T.seq ?_
          refine T.region ?_
          first | refine SL.y (op_lssT rfl rfl (by omega)) rfl rfl ?_ | refine SL.y (op_lssF rfl rfl (by omega)) rfl rfl ?_ | refine SL.y (op_lss rfl rfl) rfl rfl ?_
          refine SL.nil ?_
          refine T.seq ?_
          refine T.condF rfl ?_
          refine T.exit (T.exitCode (T.exitCut (T.exitBlk ?_)))
          refine T.seq ?_
          refine T.region ?_
          refine SL.y (op_move rfl) rfl rfl ?_
          refine SL.nil ?_
          refine T.condT rfl ?_
          refine T.seq ?_
          refine T.region ?_
          refine SL.y (op_move rfl) rfl rfl ?_
          refine SL.y (op_assign rfl) rfl rfl ?_
          refine SL.nil ?_
          -- ret
          refine T.ret1 rfl (ResIs.tmp rfl) ?_
          rw [joinR, find_first hkl hb hno]
          rfl
        | false =>
          refine T.seq ?_
          refine T.region ?_
          first | refine SL.y (op_lssT rfl rfl (by omega)) rfl rfl ?_ | refine SL.y (op_lssF rfl rfl (by omega)) rfl rfl ?_ | refine SL.y (op_lss rfl rfl) rfl rfl ?_
          refine SL.nil ?_
          refine T.seq ?_
          refine T.condF rfl ?_
          refine T.exit (T.exitCode (T.exitCut (T.exitBlk ?_)))
          refine T.seq ?_
          refine T.region ?_
          refine SL.y (op_move rfl) rfl rfl ?_
          refine SL.nil ?_
          refine T.condF rfl ?_
          refine T.skip ?_
          refine T.blk ?_
          refine T.region ?_
          first | refine SL.y (op_addN (q := 1) rfl rfl (by omega)) rfl rfl ?_ | refine SL.y (op_add rfl rfl (by omega) (by omega)) rfl rfl ?_ | refine SL.y (op_addW rfl rfl) rfl rfl ?_
          refine SL.y (op_move rfl) rfl rfl ?_
          refine SL.nil ?_
          -- cut
          exact T.backW (l.length - (k + 1)) (by omega) ⟨k + 1, rfl, by omega, hY1, no_more hno hb, rfl, rfl⟩ (by repeat (first | exact Sub.nil | refine Sub.cons rfl ?_))
  · obtain rfl : k = l.length := by omega
    refine T.seq ?_
    refine T.region ?_
    first | refine SL.y (op_lssT rfl rfl (by omega)) rfl rfl ?_ | refine SL.y (op_lssF rfl rfl (by omega)) rfl rfl ?_ | refine SL.y (op_lss rfl rfl) rfl rfl ?_
    refine SL.nil ?_
    refine T.seq ?_
    refine T.condF rfl ?_
    refine T.exit (T.exitCode (T.exitCut (T.exitBlk ?_)))
    refine T.seq ?_
    refine T.region ?_
    refine SL.y (op_assign rfl) rfl rfl ?_
    refine SL.nil ?_
    -- ret
    refine T.ret1 rfl (ResIs.tmp rfl) ?_
    rw [joinR, find_not hno]
    rfl
theorem meet46_spec {X : PMap} {v : Value} {l : List (Nat × Nat)} (h : ConT X v l) (i j : Nat) (hi : i < l.length) (hj : j < l.length) : Spec Tryd.prog 21 [v, .int .i64 (i : Int), .int .i64 (j : Int)] X fun u _ => u = .int .i64 (optI (meetR l i j)) := by
  have hh := h
  obtain ⟨hS, hl, _⟩ := h
  obtain ⟨A, cp, rfl⟩ := hS.form
  refine Spec.enter Tryd.func21 rfl Tryd.ntmps21 rfl ?_
  intro w0 hw0
  refine T.seq ?_
  refine T.region ?_
  refine SL.y (op_assign (v := .int .i64 ((0 : Nat) : Int)) rfl) rfl rfl ?_
  refine SL.nil ?_
  refine T.seq ?_
  refine T.seq ?_
  refine T.region ?_
  refine SL.y (op_move rfl) rfl rfl ?_
  refine SL.y (op_lenS Tryd.underlying29 rfl) rfl rfl ?_
  refine SL.y (op_move (v := .int .i64 ((0 : Nat) : Int)) rfl) rfl rfl ?_
  refine SL.nil ?_
  refine T.block ?_
  -- loop live [0, 1, 2, 6, 11, 12]
  refine T.loopW (fun m env own X' => ∃ k : Nat, m = l.length - k ∧ k ≤ l.length ∧ X.le X' ∧ (∀ q, q < k → gstB l i j q l.length = false) ∧ env = [(0, .slice A l.length cp), (1, .int .i64 (i : Int)), (2, .int .i64 (j : Int)), (11, .int .i64 (l.length : Int)), (12, .int .i64 (k : Int))] ∧ own = []) l.length ⟨0, by simp, by omega, PMap.le_refl _, (fun q hq => by omega), rfl, rfl⟩ (by repeat (first | exact Sub.nil | refine Sub.cons rfl ?_)) ?_
  rintro m _ _ X1 ⟨k, rfl, hk, hX1, hno, rfl, rfl⟩
  rcases Nat.lt_or_ge k l.length with hkl | hkl
  · skip
    refine T.seq ?_
    refine T.region ?_
    first | refine SL.y (op_lssT rfl rfl (by omega)) rfl rfl ?_ | refine SL.y (op_lssF rfl rfl (by omega)) rfl rfl ?_ | refine SL.y (op_lss rfl rfl) rfl rfl ?_
    refine SL.nil ?_
    refine T.seq ?_
    refine T.condT rfl ?_
    refine T.skip ?_
    refine T.seq ?_
    refine T.block ?_
    refine T.seq ?_
    refine T.region ?_
    refine SL.y (op_move rfl) rfl rfl ?_
    refine SL.y (op_assign rfl) rfl rfl ?_
    refine SL.nil ?_
    refine T.seq ?_
    refine T.region ?_
    refine SL.y (op_move rfl) rfl rfl ?_
    refine SL.y (op_move rfl) rfl rfl ?_
    refine SL.y (op_move rfl) rfl rfl ?_
    -- op
    refine SL.x (op_callF en22 (vs := [_, _, _]) rfl (leq46_spec (hh.mono hX1) k i (by omega) (by omega))) rfl rfl ?_
    rintro _ _ X2 ⟨rfl, hX2, rfl⟩
    cases h1 : leqR l k i with
    | true =>
      refine SL.y (op_move rfl) rfl rfl ?_
      first | refine SL.skip rfl rfl ?_ | refine SL.y (op_move rfl) rfl rfl ?_
      first | refine SL.skip rfl rfl ?_ | refine SL.y (op_move rfl) rfl rfl ?_
      first | refine SL.skip rfl rfl ?_ | refine SL.y (op_move rfl) rfl rfl ?_
      -- op
      refine SL.x (op_callF en22 (vs := [_, _, _]) rfl (leq46_spec ((hh.mono hX1).mono hX2) k j (by omega) (by omega))) rfl rfl ?_
      rintro _ _ X3 ⟨rfl, hX3, rfl⟩
      first | refine SL.y (op_pickT rfl rfl) rfl rfl ?_ | refine SL.y (op_pickF rfl rfl) rfl rfl ?_ | refine SL.y (op_pickB rfl rfl rfl) rfl rfl ?_
      refine SL.y (op_assign rfl) rfl rfl ?_
      refine SL.nil ?_
      refine T.seq ?_
      refine T.seq ?_
      refine T.region ?_
      refine SL.y (op_move rfl) rfl rfl ?_
      refine SL.y (op_lenS Tryd.underlying29 rfl) rfl rfl ?_
      refine SL.y (op_move (v := .int .i64 ((0 : Nat) : Int)) rfl) rfl rfl ?_
      refine SL.nil ?_
      refine T.block ?_
      -- loop live [0, 1, 2, 6, 7, 8, 12, 26, 27]
      have hs0 : gstB l i j k 0 = leqR l k j := by simp [gstB, h1]
      refine T.loopW (fun m env own X' => ∃ n : Nat, m = l.length - n ∧ n ≤ l.length ∧ X.le X' ∧ env = [(0, .slice A l.length cp), (1, .int .i64 (i : Int)), (2, .int .i64 (j : Int)), (7, .int .i64 (k : Int)), (8, .bool (gstB l i j k n)), (11, .int .i64 (l.length : Int)), (12, .int .i64 (k : Int)), (26, .int .i64 (l.length : Int)), (27, .int .i64 (n : Int))] ∧ own = []) l.length ⟨0, by simp, by omega, (hX1.trans' hX2).trans' hX3, by rw [hs0], rfl⟩ (by repeat (first | exact Sub.nil | refine Sub.cons rfl ?_)) ?_
      rintro m _ _ Y1 ⟨n, rfl, hn, hY1, rfl, rfl⟩
      rcases Nat.lt_or_ge n l.length with hnl | hnl
      · skip
        refine T.seq ?_
        refine T.region ?_
        first | refine SL.y (op_lssT rfl rfl (by omega)) rfl rfl ?_ | refine SL.y (op_lssF rfl rfl (by omega)) rfl rfl ?_ | refine SL.y (op_lss rfl rfl) rfl rfl ?_
        refine SL.nil ?_
        refine T.seq ?_
        refine T.condT rfl ?_
        refine T.skip ?_
        refine T.seq ?_
        refine T.block ?_
        refine T.seq ?_
        refine T.region ?_
        refine SL.y (op_move rfl) rfl rfl ?_
        refine SL.y (op_assign rfl) rfl rfl ?_
        refine SL.nil ?_
        refine T.seq ?_
        refine T.region ?_
        refine SL.y (op_move rfl) rfl rfl ?_
        refine SL.y (op_move rfl) rfl rfl ?_
        refine SL.y (op_move rfl) rfl rfl ?_
        -- op
        refine SL.x (op_callF en22 (vs := [_, _, _]) rfl (leq46_spec (hh.mono hY1) n i (by omega) (by omega))) rfl rfl ?_
        rintro _ _ Y2 ⟨rfl, hY2, rfl⟩
        cases g1 : leqR l n i with
        | false =>
          refine SL.y (op_move rfl) rfl rfl ?_
          first | refine SL.skip rfl rfl ?_ | refine SL.y (op_move rfl) rfl rfl ?_
          first | refine SL.skip rfl rfl ?_ | refine SL.y (op_move rfl) rfl rfl ?_
          first | refine SL.skip rfl rfl ?_ | refine SL.y (op_move rfl) rfl rfl ?_
          -- op
          refine SL.skip rfl rfl ?_
          first | refine SL.y (op_pickT rfl rfl) rfl rfl ?_ | refine SL.y (op_pickF rfl rfl) rfl rfl ?_ | refine SL.y (op_pickB rfl rfl rfl) rfl rfl ?_
          refine SL.y (op_move rfl) rfl rfl ?_
          first | refine SL.skip rfl rfl ?_ | refine SL.y (op_move rfl) rfl rfl ?_
          first | refine SL.skip rfl rfl ?_ | refine SL.y (op_move rfl) rfl rfl ?_
          first | refine SL.skip rfl rfl ?_ | refine SL.y (op_move rfl) rfl rfl ?_
          -- op
          refine SL.skip rfl rfl ?_
          first | refine SL.skip rfl rfl ?_ | refine SL.y (op_not rfl) rfl rfl ?_
          first | refine SL.y (op_pickT rfl rfl) rfl rfl ?_ | refine SL.y (op_pickF rfl rfl) rfl rfl ?_ | refine SL.y (op_pickB rfl rfl rfl) rfl rfl ?_
          refine SL.nil ?_
          refine T.condF rfl ?_
          refine T.skip ?_
          refine T.blk ?_
          refine T.region ?_
          first | refine SL.y (op_addN (q := 1) rfl rfl (by omega)) rfl rfl ?_ | refine SL.y (op_add rfl rfl (by omega) (by omega)) rfl rfl ?_ | refine SL.y (op_addW rfl rfl) rfl rfl ?_
          refine SL.y (op_move rfl) rfl rfl ?_
          refine SL.nil ?_
          -- cut
          exact T.backW (l.length - (n + 1)) (by omega) ⟨n + 1, rfl, by omega, hY1.trans' hY2, by rw [show gstB l i j k (n + 1) = gstB l i j k n by rw [gstB_succ, g1]; simp], rfl⟩ (by repeat (first | exact Sub.nil | refine Sub.cons rfl ?_))
        | true =>
          refine SL.y (op_move rfl) rfl rfl ?_
          first | refine SL.skip rfl rfl ?_ | refine SL.y (op_move rfl) rfl rfl ?_
          first | refine SL.skip rfl rfl ?_ | refine SL.y (op_move rfl) rfl rfl ?_
          first | refine SL.skip rfl rfl ?_ | refine SL.y (op_move rfl) rfl rfl ?_
          -- op
          refine SL.x (op_callF en22 (vs := [_, _, _]) rfl (leq46_spec ((hh.mono hY1).mono hY2) n j (by omega) (by omega))) rfl rfl ?_
          rintro _ _ Y3 ⟨rfl, hY3, rfl⟩
          cases g2 : leqR l n j with
          | false =>
            first | refine SL.y (op_pickT rfl rfl) rfl rfl ?_ | refine SL.y (op_pickF rfl rfl) rfl rfl ?_ | refine SL.y (op_pickB rfl rfl rfl) rfl rfl ?_
            refine SL.y (op_move rfl) rfl rfl ?_
            first | refine SL.skip rfl rfl ?_ | refine SL.y (op_move rfl) rfl rfl ?_
            first | refine SL.skip rfl rfl ?_ | refine SL.y (op_move rfl) rfl rfl ?_
            first | refine SL.skip rfl rfl ?_ | refine SL.y (op_move rfl) rfl rfl ?_
            -- op
            refine SL.skip rfl rfl ?_
            first | refine SL.skip rfl rfl ?_ | refine SL.y (op_not rfl) rfl rfl ?_
            first | refine SL.y (op_pickT rfl rfl) rfl rfl ?_ | refine SL.y (op_pickF rfl rfl) rfl rfl ?_ | refine SL.y (op_pickB rfl rfl rfl) rfl rfl ?_
            refine SL.nil ?_
            refine T.condF rfl ?_
            refine T.skip ?_
            refine T.blk ?_
            refine T.region ?_
            first | refine SL.y (op_addN (q := 1) rfl rfl (by omega)) rfl rfl ?_ | refine SL.y (op_add rfl rfl (by omega) (by omega)) rfl rfl ?_ | refine SL.y (op_addW rfl rfl) rfl rfl ?_
            refine SL.y (op_move rfl) rfl rfl ?_
            refine SL.nil ?_
            -- cut
            exact T.backW (l.length - (n + 1)) (by omega) ⟨n + 1, rfl, by omega, (hY1.trans' hY2).trans' hY3, by rw [show gstB l i j k (n + 1) = gstB l i j k n by rw [gstB_succ, g2]; simp], rfl⟩ (by repeat (first | exact Sub.nil | refine Sub.cons rfl ?_))
          | true =>
            first | refine SL.y (op_pickT rfl rfl) rfl rfl ?_ | refine SL.y (op_pickF rfl rfl) rfl rfl ?_ | refine SL.y (op_pickB rfl rfl rfl) rfl rfl ?_
            refine SL.y (op_move rfl) rfl rfl ?_
            first | refine SL.skip rfl rfl ?_ | refine SL.y (op_move rfl) rfl rfl ?_
            first | refine SL.skip rfl rfl ?_ | refine SL.y (op_move rfl) rfl rfl ?_
            first | refine SL.skip rfl rfl ?_ | refine SL.y (op_move rfl) rfl rfl ?_
            -- op
            refine SL.x (op_callF en22 (vs := [_, _, _]) rfl (leq46_spec (((hh.mono hY1).mono hY2).mono hY3) n k (by omega) (by omega))) rfl rfl ?_
            rintro _ _ Y4 ⟨rfl, hY4, rfl⟩
            cases g3 : leqR l n k with
            | true =>
              first | refine SL.skip rfl rfl ?_ | refine SL.y (op_not rfl) rfl rfl ?_
              first | refine SL.y (op_pickT rfl rfl) rfl rfl ?_ | refine SL.y (op_pickF rfl rfl) rfl rfl ?_ | refine SL.y (op_pickB rfl rfl rfl) rfl rfl ?_
              refine SL.nil ?_
              refine T.condF rfl ?_
              refine T.skip ?_
              refine T.blk ?_
              refine T.region ?_
              first | refine SL.y (op_addN (q := 1) rfl rfl (by omega)) rfl rfl ?_ | refine SL.y (op_add rfl rfl (by omega) (by omega)) rfl rfl ?_ | refine SL.y (op_addW rfl rfl) rfl rfl ?_
              refine SL.y (op_move rfl) rfl rfl ?_
              refine SL.nil ?_
              -- cut
              exact T.backW (l.length - (n + 1)) (by omega) ⟨n + 1, rfl, by omega, ((hY1.trans' hY2).trans' hY3).trans' hY4, by rw [show gstB l i j k (n + 1) = gstB l i j k n by rw [gstB_succ, g3]; simp], rfl⟩ (by repeat (first | exact Sub.nil | refine Sub.cons rfl ?_))
            | false =>
              first | refine SL.skip rfl rfl ?_ | refine SL.y (op_not rfl) rfl rfl ?_
              first | refine SL.y (op_pickT rfl rfl) rfl rfl ?_ | refine SL.y (op_pickF rfl rfl) rfl rfl ?_ | refine SL.y (op_pickB rfl rfl rfl) rfl rfl ?_
              refine SL.nil ?_
              refine T.condT rfl ?_
              refine T.region ?_
              refine SL.y (op_assign rfl) rfl rfl ?_
              refine SL.nil ?_
              refine T.blk ?_
              refine T.region ?_
              first | refine SL.y (op_addN (q := 1) rfl rfl (by omega)) rfl rfl ?_ | refine SL.y (op_add rfl rfl (by omega) (by omega)) rfl rfl ?_ | refine SL.y (op_addW rfl rfl) rfl rfl ?_
              refine SL.y (op_move rfl) rfl rfl ?_
              refine SL.nil ?_
              -- cut
              exact T.backW (l.length - (n + 1)) (by omega) ⟨n + 1, rfl, by omega, ((hY1.trans' hY2).trans' hY3).trans' hY4, by rw [show gstB l i j k (n + 1) = false by rw [gstB_succ, g1, g2, g3]; simp], rfl⟩ (by repeat (first | exact Sub.nil | refine Sub.cons rfl ?_))
      · obtain rfl : n = l.length := by omega
        cases hb : gstB l i j k l.length with
        | true =>
          refine T.seq ?_
          refine T.region ?_
          first | refine SL.y (op_lssT rfl rfl (by omega)) rfl rfl ?_ | refine SL.y (op_lssF rfl rfl (by omega)) rfl rfl ?_ | refine SL.y (op_lss rfl rfl) rfl rfl ?_
          refine SL.nil ?_
          refine T.seq ?_
          refine T.condF rfl ?_
          refine T.exit (T.exitCode (T.exitCut (T.exitBlk ?_)))
          refine T.seq ?_
          refine T.region ?_
          refine SL.y (op_move rfl) rfl rfl ?_
          refine SL.nil ?_
          refine T.condT rfl ?_
          refine T.seq ?_
          refine T.region ?_
          refine SL.y (op_move rfl) rfl rfl ?_
          refine SL.y (op_assign rfl) rfl rfl ?_
          refine SL.nil ?_
          -- ret
          refine T.ret1 rfl (ResIs.tmp rfl) ?_
          rw [meetR, find_first hkl hb hno]
          rfl
        | false =>
          refine T.seq ?_
          refine T.region ?_
          first | refine SL.y (op_lssT rfl rfl (by omega)) rfl rfl ?_ | refine SL.y (op_lssF rfl rfl (by omega)) rfl rfl ?_ | refine SL.y (op_lss rfl rfl) rfl rfl ?_
          refine SL.nil ?_
          refine T.seq ?_
          refine T.condF rfl ?_
          refine T.exit (T.exitCode (T.exitCut (T.exitBlk ?_)))
          refine T.seq ?_
          refine T.region ?_
          refine SL.y (op_move rfl) rfl rfl ?_
          refine SL.nil ?_
          refine T.condF rfl ?_
          refine T.skip ?_
          refine T.blk ?_
          refine T.region ?_
          first | refine SL.y (op_addN (q := 1) rfl rfl (by omega)) rfl rfl ?_ | refine SL.y (op_add rfl rfl (by omega) (by omega)) rfl rfl ?_ | refine SL.y (op_addW rfl rfl) rfl rfl ?_
          refine SL.y (op_move rfl) rfl rfl ?_
          refine SL.nil ?_
          -- cut
          exact T.backW (l.length - (k + 1)) (by omega) ⟨k + 1, rfl, by omega, hY1, no_more hno hb, rfl, rfl⟩ (by repeat (first | exact Sub.nil | refine Sub.cons rfl ?_))
    | false =>
      refine SL.y (op_move rfl) rfl rfl ?_
      first | refine SL.skip rfl rfl ?_ | refine SL.y (op_move rfl) rfl rfl ?_
      first | refine SL.skip rfl rfl ?_ | refine SL.y (op_move rfl) rfl rfl ?_
      first | refine SL.skip rfl rfl ?_ | refine SL.y (op_move rfl) rfl rfl ?_
      -- op
      refine SL.skip rfl rfl ?_
      first | refine SL.y (op_pickT rfl rfl) rfl rfl ?_ | refine SL.y (op_pickF rfl rfl) rfl rfl ?_ | refine SL.y (op_pickB rfl rfl rfl) rfl rfl ?_
      refine SL.y (op_assign rfl) rfl rfl ?_
      refine SL.nil ?_
      refine T.seq ?_
      refine T.seq ?_
      refine T.region ?_
      refine SL.y (op_move rfl) rfl rfl ?_
      refine SL.y (op_lenS Tryd.underlying29 rfl) rfl rfl ?_
      refine SL.y (op_move (v := .int .i64 ((0 : Nat) : Int)) rfl) rfl rfl ?_
      refine SL.nil ?_
      refine T.block ?_
      -- loop live [0, 1, 2, 6, 7, 8, 12, 26, 27]
      have hs0 : gstB l i j k 0 = false := by simp [gstB, h1]
      refine T.loopW (fun m env own X' => ∃ n : Nat, m = l.length - n ∧ n ≤ l.length ∧ X.le X' ∧ env = [(0, .slice A l.length cp), (1, .int .i64 (i : Int)), (2, .int .i64 (j : Int)), (7, .int .i64 (k : Int)), (8, .bool (gstB l i j k n)), (11, .int .i64 (l.length : Int)), (12, .int .i64 (k : Int)), (26, .int .i64 (l.length : Int)), (27, .int .i64 (n : Int))] ∧ own = []) l.length ⟨0, by simp, by omega, (hX1.trans' hX2), by rw [hs0], rfl⟩ (by repeat (first | exact Sub.nil | refine Sub.cons rfl ?_)) ?_
      rintro m _ _ Y1 ⟨n, rfl, hn, hY1, rfl, rfl⟩
      rcases Nat.lt_or_ge n l.length with hnl | hnl
      · skip
        refine T.seq ?_
        refine T.region ?_
        first | refine SL.y (op_lssT rfl rfl (by omega)) rfl rfl ?_ | refine SL.y (op_lssF rfl rfl (by omega)) rfl rfl ?_ | refine SL.y (op_lss rfl rfl) rfl rfl ?_
        refine SL.nil ?_
        refine T.seq ?_
        refine T.condT rfl ?_
        refine T.skip ?_
        refine T.seq ?_
        refine T.block ?_
        refine T.seq ?_
        refine T.region ?_
        refine SL.y (op_move rfl) rfl rfl ?_
        refine SL.y (op_assign rfl) rfl rfl ?_
        refine SL.nil ?_
        refine T.seq ?_
        refine T.region ?_
        refine SL.y (op_move rfl) rfl rfl ?_
        refine SL.y (op_move rfl) rfl rfl ?_
        refine SL.y (op_move rfl) rfl rfl ?_
        -- op
        refine SL.x (op_callF en22 (vs := [_, _, _]) rfl (leq46_spec (hh.mono hY1) n i (by omega) (by omega))) rfl rfl ?_
        rintro _ _ Y2 ⟨rfl, hY2, rfl⟩
        cases g1 : leqR l n i with
        | false =>
          refine SL.y (op_move rfl) rfl rfl ?_
          first | refine SL.skip rfl rfl ?_ | refine SL.y (op_move rfl) rfl rfl ?_
          first | refine SL.skip rfl rfl ?_ | refine SL.y (op_move rfl) rfl rfl ?_
          first | refine SL.skip rfl rfl ?_ | refine SL.y (op_move rfl) rfl rfl ?_
          -- op
          refine SL.skip rfl rfl ?_
          first | refine SL.y (op_pickT rfl rfl) rfl rfl ?_ | refine SL.y (op_pickF rfl rfl) rfl rfl ?_ | refine SL.y (op_pickB rfl rfl rfl) rfl rfl ?_
          refine SL.y (op_move rfl) rfl rfl ?_
          first | refine SL.skip rfl rfl ?_ | refine SL.y (op_move rfl) rfl rfl ?_
          first | refine SL.skip rfl rfl ?_ | refine SL.y (op_move rfl) rfl rfl ?_
          first | refine SL.skip rfl rfl ?_ | refine SL.y (op_move rfl) rfl rfl ?_
          -- op
          refine SL.skip rfl rfl ?_
          first | refine SL.skip rfl rfl ?_ | refine SL.y (op_not rfl) rfl rfl ?_
          first | refine SL.y (op_pickT rfl rfl) rfl rfl ?_ | refine SL.y (op_pickF rfl rfl) rfl rfl ?_ | refine SL.y (op_pickB rfl rfl rfl) rfl rfl ?_
          refine SL.nil ?_
          refine T.condF rfl ?_
          refine T.skip ?_
          refine T.blk ?_
          refine T.region ?_
          first | refine SL.y (op_addN (q := 1) rfl rfl (by omega)) rfl rfl ?_ | refine SL.y (op_add rfl rfl (by omega) (by omega)) rfl rfl ?_ | refine SL.y (op_addW rfl rfl) rfl rfl ?_
          refine SL.y (op_move rfl) rfl rfl ?_
          refine SL.nil ?_
          -- cut
          exact T.backW (l.length - (n + 1)) (by omega) ⟨n + 1, rfl, by omega, hY1.trans' hY2, by rw [show gstB l i j k (n + 1) = gstB l i j k n by rw [gstB_succ, g1]; simp], rfl⟩ (by repeat (first | exact Sub.nil | refine Sub.cons rfl ?_))
        | true =>
          refine SL.y (op_move rfl) rfl rfl ?_
          first | refine SL.skip rfl rfl ?_ | refine SL.y (op_move rfl) rfl rfl ?_
          first | refine SL.skip rfl rfl ?_ | refine SL.y (op_move rfl) rfl rfl ?_
          first | refine SL.skip rfl rfl ?_ | refine SL.y (op_move rfl) rfl rfl ?_
          -- op
          refine SL.x (op_callF en22 (vs := [_, _, _]) rfl (leq46_spec ((hh.mono hY1).mono hY2) n j (by omega) (by omega))) rfl rfl ?_
          rintro _ _ Y3 ⟨rfl, hY3, rfl⟩
          cases g2 : leqR l n j with
          | false =>
            first | refine SL.y (op_pickT rfl rfl) rfl rfl ?_ | refine SL.y (op_pickF rfl rfl) rfl rfl ?_ | refine SL.y (op_pickB rfl rfl rfl) rfl rfl ?_
            refine SL.y (op_move rfl) rfl rfl ?_
            first | refine SL.skip rfl rfl ?_ | refine SL.y (op_move rfl) rfl rfl ?_
            first | refine SL.skip rfl rfl ?_ | refine SL.y (op_move rfl) rfl rfl ?_
            first | refine SL.skip rfl rfl ?_ | refine SL.y (op_move rfl) rfl rfl ?_
            -- op
            refine SL.skip rfl rfl ?_
            first | refine SL.skip rfl rfl ?_ | refine SL.y (op_not rfl) rfl rfl ?_
            first | refine SL.y (op_pickT rfl rfl) rfl rfl ?_ | refine SL.y (op_pickF rfl rfl) rfl rfl ?_ | refine SL.y (op_pickB rfl rfl rfl) rfl rfl ?_
            refine SL.nil ?_
            refine T.condF rfl ?_
            refine T.skip ?_
            refine T.blk ?_
            refine T.region ?_
            first | refine SL.y (op_addN (q := 1) rfl rfl (by omega)) rfl rfl ?_ | refine SL.y (op_add rfl rfl (by omega) (by omega)) rfl rfl ?_ | refine SL.y (op_addW rfl rfl) rfl rfl ?_
            refine SL.y (op_move rfl) rfl rfl ?_
            refine SL.nil ?_
            -- cut
            exact T.backW (l.length - (n + 1)) (by omega) ⟨n + 1, rfl, by omega, (hY1.trans' hY2).trans' hY3, by rw [show gstB l i j k (n + 1) = gstB l i j k n by rw [gstB_succ, g2]; simp], rfl⟩ (by repeat (first | exact Sub.nil | refine Sub.cons rfl ?_))
          | true =>
            first | refine SL.y (op_pickT rfl rfl) rfl rfl ?_ | refine SL.y (op_pickF rfl rfl) rfl rfl ?_ | refine SL.y (op_pickB rfl rfl rfl) rfl rfl ?_
            refine SL.y (op_move rfl) rfl rfl ?_
            first | refine SL.skip rfl rfl ?_ | refine SL.y (op_move rfl) rfl rfl ?_
            first | refine SL.skip rfl rfl ?_ | refine SL.y (op_move rfl) rfl rfl ?_
            first | refine SL.skip rfl rfl ?_ | refine SL.y (op_move rfl) rfl rfl ?_
            -- op
            refine SL.x (op_callF en22 (vs := [_, _, _]) rfl (leq46_spec (((hh.mono hY1).mono hY2).mono hY3) n k (by omega) (by omega))) rfl rfl ?_
            rintro _ _ Y4 ⟨rfl, hY4, rfl⟩
            cases g3 : leqR l n k with
            | true =>
              first | refine SL.skip rfl rfl ?_ | refine SL.y (op_not rfl) rfl rfl ?_
              first | refine SL.y (op_pickT rfl rfl) rfl rfl ?_ | refine SL.y (op_pickF rfl rfl) rfl rfl ?_ | refine SL.y (op_pickB rfl rfl rfl) rfl rfl ?_
              refine SL.nil ?_
              refine T.condF rfl ?_
              refine T.skip ?_
              refine T.blk ?_
              refine T.region ?_
              first | refine SL.y (op_addN (q := 1) rfl rfl (by omega)) rfl rfl ?_ | refine SL.y (op_add rfl rfl (by omega) (by omega)) rfl rfl ?_ | refine SL.y (op_addW rfl rfl) rfl rfl ?_
              refine SL.y (op_move rfl) rfl rfl ?_
              refine SL.nil ?_
              -- cut
              exact T.backW (l.length - (n + 1)) (by omega) ⟨n + 1, rfl, by omega, ((hY1.trans' hY2).trans' hY3).trans' hY4, by rw [show gstB l i j k (n + 1) = gstB l i j k n by rw [gstB_succ, g3]; simp], rfl⟩ (by repeat (first | exact Sub.nil | refine Sub.cons rfl ?_))
            | false =>
              first | refine SL.skip rfl rfl ?_ | refine SL.y (op_not rfl) rfl rfl ?_
              first | refine SL.y (op_pickT rfl rfl) rfl rfl ?_ | refine SL.y (op_pickF rfl rfl) rfl rfl ?_ | refine SL.y (op_pickB rfl rfl rfl) rfl rfl ?_
              refine SL.nil ?_
              refine T.condT rfl ?_
              refine T.region ?_
              refine SL.y (op_assign rfl) rfl rfl ?_
              refine SL.nil ?_
              refine T.blk ?_
              refine T.region ?_
              first | refine SL.y (op_addN (q := 1) rfl rfl (by omega)) rfl rfl ?_ | refine SL.y (op_add rfl rfl (by omega) (by omega)) rfl rfl ?_ | refine SL.y (op_addW rfl rfl) rfl rfl ?_
              refine SL.y (op_move rfl) rfl rfl ?_
              refine SL.nil ?_
              -- cut
              exact T.backW (l.length - (n + 1)) (by omega) ⟨n + 1, rfl, by omega, ((hY1.trans' hY2).trans' hY3).trans' hY4, by rw [show gstB l i j k (n + 1) = false by rw [gstB_succ, g1, g2, g3]; simp], rfl⟩ (by repeat (first | exact Sub.nil | refine Sub.cons rfl ?_))
      · obtain rfl : n = l.length := by omega
        cases hb : gstB l i j k l.length with
        | true =>
          refine T.seq ?_
          refine T.region ?_
          first | refine SL.y (op_lssT rfl rfl (by omega)) rfl rfl ?_ | refine SL.y (op_lssF rfl rfl (by omega)) rfl rfl ?_ | refine SL.y (op_lss rfl rfl) rfl rfl ?_
          refine SL.nil ?_
          refine T.seq ?_
          refine T.condF rfl ?_
          refine T.exit (T.exitCode (T.exitCut (T.exitBlk ?_)))
          refine T.seq ?_
          refine T.region ?_
          refine SL.y (op_move rfl) rfl rfl ?_
          refine SL.nil ?_
          refine T.condT rfl ?_
          refine T.seq ?_
          refine T.region ?_
          refine SL.y (op_move rfl) rfl rfl ?_
          refine SL.y (op_assign rfl) rfl rfl ?_
          refine SL.nil ?_
          -- ret
          refine T.ret1 rfl (ResIs.tmp rfl) ?_
          rw [meetR, find_first hkl hb hno]
          rfl
        | false =>
          refine T.seq ?_
          refine T.region ?_
          first | refine SL.y (op_lssT rfl rfl (by omega)) rfl rfl ?_ | refine SL.y (op_lssF rfl rfl (by omega)) rfl rfl ?_ | refine SL.y (op_lss rfl rfl) rfl rfl ?_
          refine SL.nil ?_
          refine T.seq ?_
          refine T.condF rfl ?_
          refine T.exit (T.exitCode (T.exitCut (T.exitBlk ?_)))
          refine T.seq ?_
          refine T.region ?_
          refine SL.y (op_move rfl) rfl rfl ?_
          refine SL.nil ?_
          refine T.condF rfl ?_
          refine T.skip ?_
          refine T.blk ?_
          refine T.region ?_
          first | refine SL.y (op_addN (q := 1) rfl rfl (by omega)) rfl rfl ?_ | refine SL.y (op_add rfl rfl (by omega) (by omega)) rfl rfl ?_ | refine SL.y (op_addW rfl rfl) rfl rfl ?_
          refine SL.y (op_move rfl) rfl rfl ?_
          refine SL.nil ?_
          -- cut
          exact T.backW (l.length - (k + 1)) (by omega) ⟨k + 1, rfl, by omega, hY1, no_more hno hb, rfl, rfl⟩ (by repeat (first | exact Sub.nil | refine Sub.cons rfl ?_))
  · obtain rfl : k = l.length := by omega
    refine T.seq ?_
    refine T.region ?_
    first | refine SL.y (op_lssT rfl rfl (by omega)) rfl rfl ?_ | refine SL.y (op_lssF rfl rfl (by omega)) rfl rfl ?_ | refine SL.y (op_lss rfl rfl) rfl rfl ?_
    refine SL.nil ?_
    refine T.seq ?_
    refine T.condF rfl ?_
    refine T.exit (T.exitCode (T.exitCut (T.exitBlk ?_)))
    refine T.seq ?_
    refine T.region ?_
    refine SL.y (op_assign rfl) rfl rfl ?_
    refine SL.nil ?_
    -- ret
    refine T.ret1 rfl (ResIs.tmp rfl) ?_
    rw [meetR, find_not hno]
    rfl
end Go.Proofs.YtoheffglppbcbaaDoor
